/-
  DecodeSet (both sides): the rounds.
-/
import Derived.Test.YtmkemodgbhaglaaDoorSi
set_option linter.unusedSimpArgs false
set_option linter.unusedVariables false
namespace Go.Proofs.YtmkemodgbhaglaaDoor
open Go Ab
set_option maxRecDepth 100000

def cellsT : List Tb → List S
  | [] => []
  | t :: r => tC t ++ cellsT r
theorem cellsT_len : ∀ l, (cellsT l).length = l.length * 4
  | [] => rfl
  | t :: r => by simp only [cellsT, List.length_append, cellsT_len r, tC, List.length_cons, List.length_nil]; omega
theorem cellsT_app : ∀ (l m : List Tb), cellsT (l ++ m) = cellsT l ++ cellsT m
  | [], m => rfl
  | t :: r, m => by simp only [List.cons_append, cellsT, cellsT_app r m, List.append_assoc]
def zB (l : List Tb) (g : Nat) : Bl := { cells := cellsT l, ty := 23, more := true, sym := true, flat := true, gh := some (g, 4) }
def zM (n : Nat) : Bl := { cells := rep n [.str [], .int .i64 0, .str [], .str []], ty := 23, sym := true, flat := true }
def bxT2 (t : Tb) : Bl := { cells := tC t, ty := 23 }
theorem dec_len {s : By} (h : (decB s).2.2 = 0) : (decB s).2.1 ≤ s.length ∧ (decB s).2.1 ≤ 65552 := by
  unfold decB at *
  split at h
  · cases h
  · split at h
    · cases h
    · split at h
      · cases h
      · split at h
        · cases h
        · rename_i h1 h2 h3 h4
          rw [if_neg h1, if_neg h2, if_neg h3, if_neg h4]
          refine ⟨by show num4 (s.drop 4) ≤ s.length; omega, ?_⟩
          show num4 (s.drop 4) ≤ 65552
          have : ¬ (65552 < num4 (s.drop 4)) := fun e => h2 (.inr (.inr e))
          omega
theorem cT_app (l : List Tb) (t : Tb) (r : List S) (h : r = cellsT l) : cellsT (l ++ [t]) = r.take (l.length * 4) ++ tC t := by
  rw [h, cellsT_app, List.take_of_length_le (by rw [cellsT_len]; exact Nat.le_refl _)]
  simp [cellsT]
theorem one_ok {s offs : By} {pos : Nat} (h : (one s offs pos).1 = 0) : num4 offs = pos ∧ (decB (s.drop pos)).2.2 = 0 ∧ (decB (s.drop pos)).1.sg ≠ rsdt ∧ one s offs pos = (0, (decB (s.drop pos)).1, pos + (decB (s.drop pos)).2.1) := by
  unfold one at *
  by_cases h1 : num4 offs ≠ pos
  · rw [if_pos h1] at h; cases h
  · rw [if_neg h1] at h
    by_cases h2 : (decB (s.drop pos)).2.2 ≠ 0
    · rw [if_pos h2] at h; exact absurd h h2
    · rw [if_neg h2] at h
      by_cases h3 : (decB (s.drop pos)).1.sg = rsdt
      · rw [if_pos h3] at h; cases h
      · rw [if_neg h1, if_neg h2, if_neg h3]
        exact ⟨Classical.not_not.1 h1, Classical.not_not.1 h2, h3, rfl⟩
theorem ap_len (l : List Tb) (t : Tb) : (l ++ [t]).length = l.length + 1 := by simp
theorem posadd {a b : Nat} (ha : a < 9223372036854775808) (h : a + b < 9223372036854775808) : IntKind.i64.wrap (((a : Nat) : Int) + ((b : Nat) : Int)) = ((a + b : Nat) : Int) := by rw [i64_in] <;> omega
theorem u64p {a : Nat} (h : a < 9223372036854775808) : IntKind.u64.wrap ((a : Nat) : Int) = ((a : Nat) : Int) := by rw [u64_in] <;> omega
theorem ds_a (s offs : By) (pos : Nat) (hs : s.length < 9223372036854775808) (ho : 4 ≤ offs.length) (hp : pos ≤ s.length) (n : Nat) (hn : n ≤ 16) (h : (one s offs pos).1 = 0) :
    Rnd Tryd.prog 0 ((Tryd.f23.body.bind fstLoop).getD .skip) [0, 5, 6] [0, 5, 7, 8] (sp 90 [(0, sV s), (5, iN pos), (7, sV offs), (8, (.s (.slc (some (1, 0)) 0 (some n))))]) 3 [(1, some (zM n))] (sp 90 [(0, sV s), (5, iN (pos + (decB (s.drop pos)).2.1)), (7, sV (offs.drop 4)), (8, (.s (.sla 1 2 ([(decB (s.drop pos)).1] : List Tb).length)))]) [(1, some (zB ([(decB (s.drop pos)).1] : List Tb) 2))] := by
  obtain ⟨o1, o2, o3, _⟩ := one_ok h
  have hdl := dec_len o2
  have hne : offs ≠ [] := fun e => by rw [e] at ho; simp at ho
  have g1 := num_s offs ho
  rw [o1] at g1
  have g2 := dec_s (s.drop pos) (by simp; omega)
  unfold decV at g2
  have hld : (s.drop pos).length = s.length - pos := List.length_drop
  have e1 : Tryd.prog.types[23].size = 4 := by kernel_rfl
  have e2 : Tryd.prog.types[23].bytes = 56 := by kernel_rfl
  refine ⟨[.dec true, .call [] [sV offs] [] (.s (.int .u32 ((pos : Nat) : Int))) 0 [], .num ((pos : Nat) : Int), .num ((pos : Nat) : Int), .dec false, .idx pos, .call [] [sV (s.drop pos)] [] (.tup [.agg (tC (decB (s.drop pos)).1), .s (.int .i64 (((decB (s.drop pos)).2.1 : Nat) : Int)), .s (.int .i64 (((decB (s.drop pos)).2.2 : Nat) : Int))]) 0 [], .dec false, .dec false, .app ([(decB (s.drop pos)).1] : List Tb).length (cellsT ([(decB (s.drop pos)).1] : List Tb)), .num ((pos + (decB (s.drop pos)).2.1 : Nat) : Int), .idx 4], _, _, _, _, _, rfl, ?_, rfl, ⟨rfl, trivial⟩⟩
  simp only [true_and, and_true, and_assoc, decide_eq_true_eq, decide_eq_false_iff_not, ne_eq, beq_iff_eq, beq_eq_false_iff_ne, bne_eq_false_iff_eq, bne_iff_ne, bne_self_eq_false, beq_self_eq_true]
  rw [o2]
  repeat' apply And.intro
  all_goals try rw [e1]
  all_goals try rw [e2]
  all_goals first
    | exact True.intro
    | exact call0 g1 rfl
    | exact call0 (by rw [o2] at g2; exact g2) rfl
    | exact call0 g2 rfl
    | exact hne
    | (rw [decide_eq_false hne]; rfl)
    | exact decide_eq_false o3
    | exact o3
    | exact u64p (by omega)
    | exact posadd (by omega) (by omega)
    | (with_reducible show _ = true; kernel_rfl)
    | (with_reducible exact rfl)
    | exact cT_app l _ _ rfl
    | exact ap_len _ _
    | (rw [List.length_append, List.length_singleton]; omega)
    | (simp [zM, zB, cellsT_len, rep]; done)
    | omega
    | decide
    | exact Nat.le_refl _
    | rfl
    | (intro e; cases e)
theorem ds_b (s offs : By) (pos : Nat) (hs : s.length < 9223372036854775808) (ho : 4 ≤ offs.length) (hp : pos ≤ s.length) (l : List Tb) (hl : l.length ≤ 16) (h : (one s offs pos).1 = 0) :
    Rnd Tryd.prog 0 ((Tryd.f23.body.bind fstLoop).getD .skip) [0, 5, 6] [0, 5, 7, 8] (sp 90 [(0, sV s), (5, iN pos), (7, sV offs), (8, (.s (.sla 1 2 l.length)))]) 3 [(1, some (zB l 2))] (sp 90 [(0, sV s), (5, iN (pos + (decB (s.drop pos)).2.1)), (7, sV (offs.drop 4)), (8, (.s (.sla 1 2 (l ++ [(decB (s.drop pos)).1]).length)))]) [(1, some (zB (l ++ [(decB (s.drop pos)).1]) 2))] := by
  obtain ⟨o1, o2, o3, _⟩ := one_ok h
  have hdl := dec_len o2
  have hne : offs ≠ [] := fun e => by rw [e] at ho; simp at ho
  have g1 := num_s offs ho
  rw [o1] at g1
  have g2 := dec_s (s.drop pos) (by simp; omega)
  unfold decV at g2
  have hld : (s.drop pos).length = s.length - pos := List.length_drop
  have e1 : Tryd.prog.types[23].size = 4 := by kernel_rfl
  have e2 : Tryd.prog.types[23].bytes = 56 := by kernel_rfl
  refine ⟨[.dec true, .call [] [sV offs] [] (.s (.int .u32 ((pos : Nat) : Int))) 0 [], .num ((pos : Nat) : Int), .num ((pos : Nat) : Int), .dec false, .idx pos, .call [] [sV (s.drop pos)] [] (.tup [.agg (tC (decB (s.drop pos)).1), .s (.int .i64 (((decB (s.drop pos)).2.1 : Nat) : Int)), .s (.int .i64 (((decB (s.drop pos)).2.2 : Nat) : Int))]) 0 [], .dec false, .dec false, .app (l ++ [(decB (s.drop pos)).1]).length (cellsT (l ++ [(decB (s.drop pos)).1])), .num ((pos + (decB (s.drop pos)).2.1 : Nat) : Int), .idx 4], _, _, _, _, _, rfl, ?_, rfl, ⟨rfl, trivial⟩⟩
  simp only [true_and, and_true, and_assoc, decide_eq_true_eq, decide_eq_false_iff_not, ne_eq, beq_iff_eq, beq_eq_false_iff_ne, bne_eq_false_iff_eq, bne_iff_ne, bne_self_eq_false, beq_self_eq_true]
  rw [o2]
  repeat' apply And.intro
  all_goals try rw [e1]
  all_goals try rw [e2]
  all_goals first
    | exact True.intro
    | exact call0 g1 rfl
    | exact call0 (by rw [o2] at g2; exact g2) rfl
    | exact call0 g2 rfl
    | exact hne
    | (rw [decide_eq_false hne]; rfl)
    | exact decide_eq_false o3
    | exact o3
    | exact u64p (by omega)
    | exact posadd (by omega) (by omega)
    | (with_reducible show _ = true; kernel_rfl)
    | (with_reducible exact rfl)
    | exact cT_app l _ _ rfl
    | exact ap_len _ _
    | (rw [List.length_append, List.length_singleton]; omega)
    | (simp [zM, zB, cellsT_len, rep]; done)
    | omega
    | decide
    | exact Nat.le_refl _
    | rfl
    | (intro e; cases e)
theorem ds_ax1 (s offs : By) (pos : Nat) (hs : s.length < 9223372036854775808) (ho : 4 ≤ offs.length) (hp : pos ≤ s.length) (n : Nat) (h1 : num4 offs ≠ pos) : Lst Tryd.prog 0 ((Tryd.f23.body.bind fstLoop).getD .skip) [] [2, 3] (sp 90 [(0, sV s), (5, iN pos), (7, sV offs), (8, (.s (.slc (some (1, 0)) 0 (some n))))]) 3 [(1, some (zM n))] .ret (sp 90 [(2, .s (.slc none 0 (some 0))), (3, .s (.int .i64 ((3 : Nat) : Int)))]) [] := by
  have hne : offs ≠ [] := fun e => by rw [e] at ho; simp at ho
  have g1 := num_s offs ho
  have hnl := num4_lt offs
  have g2 := dec_s (s.drop pos) (by simp; omega)
  unfold decV at g2
  have hld : (s.drop pos).length = s.length - pos := List.length_drop
  refine ⟨[.dec true, .call [] [sV offs] [] (.s (.int .u32 ((num4 offs : Nat) : Int))) 0 [], .num ((num4 offs : Nat) : Int), .num ((pos : Nat) : Int), .dec true], _, _, _, _, _, rfl, ?_, rfl, trivial⟩
  simp only [true_and, and_true, and_assoc, decide_eq_true_eq, decide_eq_false_iff_not, ne_eq, beq_iff_eq, beq_eq_false_iff_ne, bne_eq_false_iff_eq, bne_iff_ne, bne_self_eq_false, beq_self_eq_true]
  repeat' apply And.intro
  all_goals first
    | exact True.intro
    | exact call0 g1 rfl
    | exact call0 g2 rfl
    | exact hne
    | (rw [decide_eq_false hne]; rfl)
    | exact u64p (by omega)
    | exact h1
    | exact h3
    | exact decide_eq_true h3
    | (with_reducible show _ = true; kernel_rfl)
    | (with_reducible exact rfl)
    | (rw [i64_in] <;> omega)
    | omega
    | exact fun e => h1 (by omega)
    | exact fun e => h2 (by omega)
    | decide
    | rfl
theorem ds_ax2 (s offs : By) (pos : Nat) (hs : s.length < 9223372036854775808) (ho : 4 ≤ offs.length) (hp : pos ≤ s.length) (n : Nat) (h1 : num4 offs = pos) (h2 : (decB (s.drop pos)).2.2 ≠ 0) : Lst Tryd.prog 0 ((Tryd.f23.body.bind fstLoop).getD .skip) [] [2, 3] (sp 90 [(0, sV s), (5, iN pos), (7, sV offs), (8, (.s (.slc (some (1, 0)) 0 (some n))))]) 3 [(1, some (zM n))] .ret (sp 90 [(2, .s (.slc none 0 (some 0))), (3, .s (.int .i64 (((decB (s.drop pos)).2.2 : Nat) : Int)))]) [] := by
  have hne : offs ≠ [] := fun e => by rw [e] at ho; simp at ho
  have g1 := num_s offs ho
  have hnl := num4_lt offs
  have g2 := dec_s (s.drop pos) (by simp; omega)
  unfold decV at g2
  have hld : (s.drop pos).length = s.length - pos := List.length_drop
  refine ⟨[.dec true, .call [] [sV offs] [] (.s (.int .u32 ((num4 offs : Nat) : Int))) 0 [], .num ((num4 offs : Nat) : Int), .num ((pos : Nat) : Int), .dec false, .idx pos, .call [] [sV (s.drop pos)] [] (.tup [.agg (tC (decB (s.drop pos)).1), .s (.int .i64 (((decB (s.drop pos)).2.1 : Nat) : Int)), .s (.int .i64 (((decB (s.drop pos)).2.2 : Nat) : Int))]) 0 [], .dec true], _, _, _, _, _, rfl, ?_, rfl, trivial⟩
  simp only [true_and, and_true, and_assoc, decide_eq_true_eq, decide_eq_false_iff_not, ne_eq, beq_iff_eq, beq_eq_false_iff_ne, bne_eq_false_iff_eq, bne_iff_ne, bne_self_eq_false, beq_self_eq_true]
  repeat' apply And.intro
  all_goals first
    | exact True.intro
    | exact call0 g1 rfl
    | exact call0 g2 rfl
    | exact hne
    | (rw [decide_eq_false hne]; rfl)
    | exact u64p (by omega)
    | exact h1
    | exact h3
    | exact decide_eq_true h3
    | (with_reducible show _ = true; kernel_rfl)
    | (with_reducible exact rfl)
    | (rw [i64_in] <;> omega)
    | omega
    | exact fun e => h1 (by omega)
    | exact fun e => h2 (by omega)
    | decide
    | rfl
theorem ds_ax3 (s offs : By) (pos : Nat) (hs : s.length < 9223372036854775808) (ho : 4 ≤ offs.length) (hp : pos ≤ s.length) (n : Nat) (h1 : num4 offs = pos) (h2 : (decB (s.drop pos)).2.2 = 0) (h3 : (decB (s.drop pos)).1.sg = rsdt) : Lst Tryd.prog 0 ((Tryd.f23.body.bind fstLoop).getD .skip) [] [2, 3] (sp 90 [(0, sV s), (5, iN pos), (7, sV offs), (8, (.s (.slc (some (1, 0)) 0 (some n))))]) 3 [(1, some (zM n))] .ret (sp 90 [(2, .s (.slc none 0 (some 0))), (3, .s (.int .i64 ((3 : Nat) : Int)))]) [] := by
  have hne : offs ≠ [] := fun e => by rw [e] at ho; simp at ho
  have g1 := num_s offs ho
  have hnl := num4_lt offs
  have g2 := dec_s (s.drop pos) (by simp; omega)
  unfold decV at g2
  have hld : (s.drop pos).length = s.length - pos := List.length_drop
  refine ⟨[.dec true, .call [] [sV offs] [] (.s (.int .u32 ((num4 offs : Nat) : Int))) 0 [], .num ((num4 offs : Nat) : Int), .num ((pos : Nat) : Int), .dec false, .idx pos, .call [] [sV (s.drop pos)] [] (.tup [.agg (tC (decB (s.drop pos)).1), .s (.int .i64 (((decB (s.drop pos)).2.1 : Nat) : Int)), .s (.int .i64 (((decB (s.drop pos)).2.2 : Nat) : Int))]) 0 [], .dec false, .dec true], _, _, _, _, _, rfl, ?_, rfl, trivial⟩
  simp only [true_and, and_true, and_assoc, decide_eq_true_eq, decide_eq_false_iff_not, ne_eq, beq_iff_eq, beq_eq_false_iff_ne, bne_eq_false_iff_eq, bne_iff_ne, bne_self_eq_false, beq_self_eq_true]
  repeat' apply And.intro
  all_goals first
    | exact True.intro
    | exact call0 g1 rfl
    | exact call0 g2 rfl
    | exact hne
    | (rw [decide_eq_false hne]; rfl)
    | exact u64p (by omega)
    | exact h1
    | exact h3
    | exact decide_eq_true h3
    | (with_reducible show _ = true; kernel_rfl)
    | (with_reducible exact rfl)
    | (rw [i64_in] <;> omega)
    | omega
    | exact fun e => h1 (by omega)
    | exact fun e => h2 (by omega)
    | decide
    | rfl
theorem ds_bx1 (s offs : By) (pos : Nat) (hs : s.length < 9223372036854775808) (ho : 4 ≤ offs.length) (hp : pos ≤ s.length) (l : List Tb) (h1 : num4 offs ≠ pos) : Lst Tryd.prog 0 ((Tryd.f23.body.bind fstLoop).getD .skip) [] [2, 3] (sp 90 [(0, sV s), (5, iN pos), (7, sV offs), (8, (.s (.sla 1 2 l.length)))]) 3 [(1, some (zB l 2))] .ret (sp 90 [(2, .s (.slc none 0 (some 0))), (3, .s (.int .i64 ((3 : Nat) : Int)))]) [] := by
  have hne : offs ≠ [] := fun e => by rw [e] at ho; simp at ho
  have g1 := num_s offs ho
  have hnl := num4_lt offs
  have g2 := dec_s (s.drop pos) (by simp; omega)
  unfold decV at g2
  have hld : (s.drop pos).length = s.length - pos := List.length_drop
  refine ⟨[.dec true, .call [] [sV offs] [] (.s (.int .u32 ((num4 offs : Nat) : Int))) 0 [], .num ((num4 offs : Nat) : Int), .num ((pos : Nat) : Int), .dec true], _, _, _, _, _, rfl, ?_, rfl, trivial⟩
  simp only [true_and, and_true, and_assoc, decide_eq_true_eq, decide_eq_false_iff_not, ne_eq, beq_iff_eq, beq_eq_false_iff_ne, bne_eq_false_iff_eq, bne_iff_ne, bne_self_eq_false, beq_self_eq_true]
  repeat' apply And.intro
  all_goals first
    | exact True.intro
    | exact call0 g1 rfl
    | exact call0 g2 rfl
    | exact hne
    | (rw [decide_eq_false hne]; rfl)
    | exact u64p (by omega)
    | exact h1
    | exact h3
    | exact decide_eq_true h3
    | (with_reducible show _ = true; kernel_rfl)
    | (with_reducible exact rfl)
    | (rw [i64_in] <;> omega)
    | omega
    | exact fun e => h1 (by omega)
    | exact fun e => h2 (by omega)
    | decide
    | rfl
theorem ds_bx2 (s offs : By) (pos : Nat) (hs : s.length < 9223372036854775808) (ho : 4 ≤ offs.length) (hp : pos ≤ s.length) (l : List Tb) (h1 : num4 offs = pos) (h2 : (decB (s.drop pos)).2.2 ≠ 0) : Lst Tryd.prog 0 ((Tryd.f23.body.bind fstLoop).getD .skip) [] [2, 3] (sp 90 [(0, sV s), (5, iN pos), (7, sV offs), (8, (.s (.sla 1 2 l.length)))]) 3 [(1, some (zB l 2))] .ret (sp 90 [(2, .s (.slc none 0 (some 0))), (3, .s (.int .i64 (((decB (s.drop pos)).2.2 : Nat) : Int)))]) [] := by
  have hne : offs ≠ [] := fun e => by rw [e] at ho; simp at ho
  have g1 := num_s offs ho
  have hnl := num4_lt offs
  have g2 := dec_s (s.drop pos) (by simp; omega)
  unfold decV at g2
  have hld : (s.drop pos).length = s.length - pos := List.length_drop
  refine ⟨[.dec true, .call [] [sV offs] [] (.s (.int .u32 ((num4 offs : Nat) : Int))) 0 [], .num ((num4 offs : Nat) : Int), .num ((pos : Nat) : Int), .dec false, .idx pos, .call [] [sV (s.drop pos)] [] (.tup [.agg (tC (decB (s.drop pos)).1), .s (.int .i64 (((decB (s.drop pos)).2.1 : Nat) : Int)), .s (.int .i64 (((decB (s.drop pos)).2.2 : Nat) : Int))]) 0 [], .dec true], _, _, _, _, _, rfl, ?_, rfl, trivial⟩
  simp only [true_and, and_true, and_assoc, decide_eq_true_eq, decide_eq_false_iff_not, ne_eq, beq_iff_eq, beq_eq_false_iff_ne, bne_eq_false_iff_eq, bne_iff_ne, bne_self_eq_false, beq_self_eq_true]
  repeat' apply And.intro
  all_goals first
    | exact True.intro
    | exact call0 g1 rfl
    | exact call0 g2 rfl
    | exact hne
    | (rw [decide_eq_false hne]; rfl)
    | exact u64p (by omega)
    | exact h1
    | exact h3
    | exact decide_eq_true h3
    | (with_reducible show _ = true; kernel_rfl)
    | (with_reducible exact rfl)
    | (rw [i64_in] <;> omega)
    | omega
    | exact fun e => h1 (by omega)
    | exact fun e => h2 (by omega)
    | decide
    | rfl
theorem ds_bx3 (s offs : By) (pos : Nat) (hs : s.length < 9223372036854775808) (ho : 4 ≤ offs.length) (hp : pos ≤ s.length) (l : List Tb) (h1 : num4 offs = pos) (h2 : (decB (s.drop pos)).2.2 = 0) (h3 : (decB (s.drop pos)).1.sg = rsdt) : Lst Tryd.prog 0 ((Tryd.f23.body.bind fstLoop).getD .skip) [] [2, 3] (sp 90 [(0, sV s), (5, iN pos), (7, sV offs), (8, (.s (.sla 1 2 l.length)))]) 3 [(1, some (zB l 2))] .ret (sp 90 [(2, .s (.slc none 0 (some 0))), (3, .s (.int .i64 ((3 : Nat) : Int)))]) [] := by
  have hne : offs ≠ [] := fun e => by rw [e] at ho; simp at ho
  have g1 := num_s offs ho
  have hnl := num4_lt offs
  have g2 := dec_s (s.drop pos) (by simp; omega)
  unfold decV at g2
  have hld : (s.drop pos).length = s.length - pos := List.length_drop
  refine ⟨[.dec true, .call [] [sV offs] [] (.s (.int .u32 ((num4 offs : Nat) : Int))) 0 [], .num ((num4 offs : Nat) : Int), .num ((pos : Nat) : Int), .dec false, .idx pos, .call [] [sV (s.drop pos)] [] (.tup [.agg (tC (decB (s.drop pos)).1), .s (.int .i64 (((decB (s.drop pos)).2.1 : Nat) : Int)), .s (.int .i64 (((decB (s.drop pos)).2.2 : Nat) : Int))]) 0 [], .dec false, .dec true], _, _, _, _, _, rfl, ?_, rfl, trivial⟩
  simp only [true_and, and_true, and_assoc, decide_eq_true_eq, decide_eq_false_iff_not, ne_eq, beq_iff_eq, beq_eq_false_iff_ne, bne_eq_false_iff_eq, bne_iff_ne, bne_self_eq_false, beq_self_eq_true]
  repeat' apply And.intro
  all_goals first
    | exact True.intro
    | exact call0 g1 rfl
    | exact call0 g2 rfl
    | exact hne
    | (rw [decide_eq_false hne]; rfl)
    | exact u64p (by omega)
    | exact h1
    | exact h3
    | exact decide_eq_true h3
    | (with_reducible show _ = true; kernel_rfl)
    | (with_reducible exact rfl)
    | (rw [i64_in] <;> omega)
    | omega
    | exact fun e => h1 (by omega)
    | exact fun e => h2 (by omega)
    | decide
    | rfl
theorem ds_z (s : By) (pos : Nat) (l : List Tb) : Lst Tryd.prog 0 ((Tryd.f23.body.bind fstLoop).getD .skip) [0, 1, 2] [0, 5, 7, 8] (sp 90 [(0, sV s), (5, iN pos), (7, sV []), (8, (.s (.sla 1 2 l.length)))]) 3 [(1, some (zB l 2))] (.exit 0) (sp 90 [(0, sV s), (5, iN pos), (7, sV []), (8, (.s (.sla 1 2 l.length)))]) [(1, some (zB l 2))] := by
  refine ⟨[.dec false], _, _, _, _, _, rfl, ?_, rfl, ⟨rfl, trivial⟩⟩
  simp only [true_and, and_true]
  rfl
theorem num_at (b : By) (i : Nat) (h : i + 4 ≤ b.length) : num4 ((b.take (i + 4)).drop i) = num4 (b.drop i) := by
  have k : ∀ j, j < 4 → ((b.take (i + 4)).drop i).getD j 0 = (b.drop i).getD j 0 := by
    intro j hj
    simp only [List.getD_eq_getElem?_getD, List.getElem?_drop]
    rw [List.getElem?_take_of_lt (by omega)]
  unfold num4
  rw [k 0 (by decide), k 1 (by decide), k 2 (by decide), k 3 (by decide)]
theorem rs_a (s offs : By) (pos : Nat) (hs : s.length < 9223372036854775808) (ho : 4 ≤ offs.length) (hp : pos ≤ s.length) (dir : Tb) (k i : Nat) (hk : k ≤ 16) (hi : i < k) (hb : dir.bd.length = 4 * k) (hoff : offs = dir.bd.drop (4 * i)) (h : (one s offs pos).1 = 0) :
    Rnd Tryd.prog 0 ((Tryd.f33.body.bind fstLoop).getD .skip) [0, 5, 6] [0, 4, 5, 7, 8, 9] (sp 96 [(0, sV s), (4, .s (.ptr (some (0, 0)))), (5, iN pos), (7, iN k), (8, (.s (.slc none 0 (some 0)))), (9, iN i)]) 3 [(0, some (bxT2 dir))] (sp 96 [(0, sV s), (4, .s (.ptr (some (0, 0)))), (5, iN (pos + (decB (s.drop pos)).2.1)), (7, iN k), (8, (.s (.sla 1 2 ([(decB (s.drop pos)).1] : List Tb).length))), (9, iN (i + 1))]) [(0, some (bxT2 dir)), (1, some (zB ([(decB (s.drop pos)).1] : List Tb) 2))] := by
  obtain ⟨o1, o2, o3, _⟩ := one_ok h
  have hdl := dec_len o2
  have hne : offs ≠ [] := fun e => by rw [e] at ho; simp at ho
  have g1 := (by have g := rnum_s ((dir.bd.take (4 * i + 4)).drop (4 * i)) (by simp; omega); rw [num_at dir.bd (4 * i) (by omega), ← hoff] at g; exact g : SC Tryd.prog 39 [sV ((dir.bd.take (4 * i + 4)).drop (4 * i))] 0 [] (.s (.int .i64 ((num4 offs : Nat) : Int))) 0 [])
  rw [o1] at g1
  have g2 := rdec_s (s.drop pos) (by simp; omega)
  unfold decV at g2
  have hld : (s.drop pos).length = s.length - pos := List.length_drop
  have e1 : Tryd.prog.types[23].size = 4 := by kernel_rfl
  have e2 : Tryd.prog.types[23].bytes = 56 := by kernel_rfl
  refine ⟨[.dec true, .num ((4 * i : Nat) : Int), .num ((4 * i : Nat) : Int), .num ((4 * i + 4 : Nat) : Int), .idx (4 * i + 4), .idx (4 * i), .call [] [sV ((dir.bd.take (4 * i + 4)).drop (4 * i))] [] (.s (.int .i64 ((pos : Nat) : Int))) 0 [], .dec false, .idx pos, .call [] [sV (s.drop pos)] [] (.tup [.agg (tC (decB (s.drop pos)).1), .s (.int .i64 (((decB (s.drop pos)).2.1 : Nat) : Int)), .s (.int .i64 (((decB (s.drop pos)).2.2 : Nat) : Int))]) 0 [], .dec false, .dec false, .app ([(decB (s.drop pos)).1] : List Tb).length (cellsT ([(decB (s.drop pos)).1] : List Tb)), .num ((pos + (decB (s.drop pos)).2.1 : Nat) : Int), .num ((i + 1 : Nat) : Int)], _, _, _, _, _, rfl, ?_, rfl, ⟨rfl, rfl, trivial⟩⟩
  simp only [true_and, and_true, and_assoc, decide_eq_true_eq, decide_eq_false_iff_not, ne_eq, beq_iff_eq, beq_eq_false_iff_ne, bne_eq_false_iff_eq, bne_iff_ne, bne_self_eq_false, beq_self_eq_true]
  rw [o2]
  repeat' apply And.intro
  all_goals try rw [e1]
  all_goals try rw [e2]
  all_goals first
    | exact True.intro
    | exact call0 g1 rfl
    | exact call0 (by rw [o2] at g2; exact g2) rfl
    | exact call0 g2 rfl
    | exact decide_eq_false o3
    | exact o3
    | exact posadd (by omega) (by omega)
    | (with_reducible show _ = true; kernel_rfl)
    | (with_reducible exact rfl)
    | exact cT_app l _ _ rfl
    | exact ap_len _ _
    | (rw [List.length_append, List.length_singleton]; omega)
    | (simp [zM, zB, cellsT_len, rep]; done)
    | (rw [i64_in] <;> omega)
    | (show 4 * i + 4 ≤ dir.bd.length; omega)
    | omega
    | decide
    | exact Nat.le_refl _
    | rfl
    | (intro e; cases e)
    | (intro _; exact Nat.le_refl _)
theorem rs_ax1 (s offs : By) (pos : Nat) (hs : s.length < 9223372036854775808) (ho : 4 ≤ offs.length) (hp : pos ≤ s.length) (dir : Tb) (k i : Nat) (hk : k ≤ 16) (hi : i < k) (hb : dir.bd.length = 4 * k) (hoff : offs = dir.bd.drop (4 * i)) (h1 : num4 offs ≠ pos) : Lst Tryd.prog 0 ((Tryd.f33.body.bind fstLoop).getD .skip) [] [2, 3] (sp 96 [(0, sV s), (4, .s (.ptr (some (0, 0)))), (5, iN pos), (7, iN k), (8, (.s (.slc none 0 (some 0)))), (9, iN i)]) 3 [(0, some (bxT2 dir))] .ret (sp 96 [(2, .s (.slc none 0 (some 0))), (3, .s (.int .i64 ((3 : Nat) : Int)))]) [] := by
  have hne : offs ≠ [] := fun e => by rw [e] at ho; simp at ho
  have g1 := (by have g := rnum_s ((dir.bd.take (4 * i + 4)).drop (4 * i)) (by simp; omega); rw [num_at dir.bd (4 * i) (by omega), ← hoff] at g; exact g : SC Tryd.prog 39 [sV ((dir.bd.take (4 * i + 4)).drop (4 * i))] 0 [] (.s (.int .i64 ((num4 offs : Nat) : Int))) 0 [])
  have hnl := num4_lt offs
  have g2 := rdec_s (s.drop pos) (by simp; omega)
  unfold decV at g2
  have hld : (s.drop pos).length = s.length - pos := List.length_drop
  refine ⟨[.dec true, .num ((4 * i : Nat) : Int), .num ((4 * i : Nat) : Int), .num ((4 * i + 4 : Nat) : Int), .idx (4 * i + 4), .idx (4 * i), .call [] [sV ((dir.bd.take (4 * i + 4)).drop (4 * i))] [] (.s (.int .i64 ((num4 offs : Nat) : Int))) 0 [], .dec true], _, _, _, _, _, rfl, ?_, rfl, trivial⟩
  simp only [true_and, and_true, and_assoc, decide_eq_true_eq, decide_eq_false_iff_not, ne_eq, beq_iff_eq, beq_eq_false_iff_ne, bne_eq_false_iff_eq, bne_iff_ne, bne_self_eq_false, beq_self_eq_true]
  repeat' apply And.intro
  all_goals first
    | exact True.intro
    | exact call0 g1 rfl
    | exact call0 g2 rfl
    | exact hne
    | (rw [decide_eq_false hne]; rfl)
    | exact u64p (by omega)
    | exact h1
    | exact h3
    | exact decide_eq_true h3
    | (with_reducible show _ = true; kernel_rfl)
    | (with_reducible exact rfl)
    | (rw [i64_in] <;> omega)
    | omega
    | exact fun e => h1 (by omega)
    | exact fun e => h2 (by omega)
    | decide
    | rfl
theorem rs_ax2 (s offs : By) (pos : Nat) (hs : s.length < 9223372036854775808) (ho : 4 ≤ offs.length) (hp : pos ≤ s.length) (dir : Tb) (k i : Nat) (hk : k ≤ 16) (hi : i < k) (hb : dir.bd.length = 4 * k) (hoff : offs = dir.bd.drop (4 * i)) (h1 : num4 offs = pos) (h2 : (decB (s.drop pos)).2.2 ≠ 0) : Lst Tryd.prog 0 ((Tryd.f33.body.bind fstLoop).getD .skip) [] [2, 3] (sp 96 [(0, sV s), (4, .s (.ptr (some (0, 0)))), (5, iN pos), (7, iN k), (8, (.s (.slc none 0 (some 0)))), (9, iN i)]) 3 [(0, some (bxT2 dir))] .ret (sp 96 [(2, .s (.slc none 0 (some 0))), (3, .s (.int .i64 (((decB (s.drop pos)).2.2 : Nat) : Int)))]) [] := by
  have hne : offs ≠ [] := fun e => by rw [e] at ho; simp at ho
  have g1 := (by have g := rnum_s ((dir.bd.take (4 * i + 4)).drop (4 * i)) (by simp; omega); rw [num_at dir.bd (4 * i) (by omega), ← hoff] at g; exact g : SC Tryd.prog 39 [sV ((dir.bd.take (4 * i + 4)).drop (4 * i))] 0 [] (.s (.int .i64 ((num4 offs : Nat) : Int))) 0 [])
  have hnl := num4_lt offs
  have g2 := rdec_s (s.drop pos) (by simp; omega)
  unfold decV at g2
  have hld : (s.drop pos).length = s.length - pos := List.length_drop
  refine ⟨[.dec true, .num ((4 * i : Nat) : Int), .num ((4 * i : Nat) : Int), .num ((4 * i + 4 : Nat) : Int), .idx (4 * i + 4), .idx (4 * i), .call [] [sV ((dir.bd.take (4 * i + 4)).drop (4 * i))] [] (.s (.int .i64 ((num4 offs : Nat) : Int))) 0 [], .dec false, .idx pos, .call [] [sV (s.drop pos)] [] (.tup [.agg (tC (decB (s.drop pos)).1), .s (.int .i64 (((decB (s.drop pos)).2.1 : Nat) : Int)), .s (.int .i64 (((decB (s.drop pos)).2.2 : Nat) : Int))]) 0 [], .dec true], _, _, _, _, _, rfl, ?_, rfl, trivial⟩
  simp only [true_and, and_true, and_assoc, decide_eq_true_eq, decide_eq_false_iff_not, ne_eq, beq_iff_eq, beq_eq_false_iff_ne, bne_eq_false_iff_eq, bne_iff_ne, bne_self_eq_false, beq_self_eq_true]
  repeat' apply And.intro
  all_goals first
    | exact True.intro
    | exact call0 g1 rfl
    | exact call0 g2 rfl
    | exact hne
    | (rw [decide_eq_false hne]; rfl)
    | exact u64p (by omega)
    | exact h1
    | exact h3
    | exact decide_eq_true h3
    | (with_reducible show _ = true; kernel_rfl)
    | (with_reducible exact rfl)
    | (rw [i64_in] <;> omega)
    | omega
    | exact fun e => h1 (by omega)
    | exact fun e => h2 (by omega)
    | decide
    | rfl
theorem rs_ax3 (s offs : By) (pos : Nat) (hs : s.length < 9223372036854775808) (ho : 4 ≤ offs.length) (hp : pos ≤ s.length) (dir : Tb) (k i : Nat) (hk : k ≤ 16) (hi : i < k) (hb : dir.bd.length = 4 * k) (hoff : offs = dir.bd.drop (4 * i)) (h1 : num4 offs = pos) (h2 : (decB (s.drop pos)).2.2 = 0) (h3 : (decB (s.drop pos)).1.sg = rsdt) : Lst Tryd.prog 0 ((Tryd.f33.body.bind fstLoop).getD .skip) [] [2, 3] (sp 96 [(0, sV s), (4, .s (.ptr (some (0, 0)))), (5, iN pos), (7, iN k), (8, (.s (.slc none 0 (some 0)))), (9, iN i)]) 3 [(0, some (bxT2 dir))] .ret (sp 96 [(2, .s (.slc none 0 (some 0))), (3, .s (.int .i64 ((3 : Nat) : Int)))]) [] := by
  have hne : offs ≠ [] := fun e => by rw [e] at ho; simp at ho
  have g1 := (by have g := rnum_s ((dir.bd.take (4 * i + 4)).drop (4 * i)) (by simp; omega); rw [num_at dir.bd (4 * i) (by omega), ← hoff] at g; exact g : SC Tryd.prog 39 [sV ((dir.bd.take (4 * i + 4)).drop (4 * i))] 0 [] (.s (.int .i64 ((num4 offs : Nat) : Int))) 0 [])
  have hnl := num4_lt offs
  have g2 := rdec_s (s.drop pos) (by simp; omega)
  unfold decV at g2
  have hld : (s.drop pos).length = s.length - pos := List.length_drop
  refine ⟨[.dec true, .num ((4 * i : Nat) : Int), .num ((4 * i : Nat) : Int), .num ((4 * i + 4 : Nat) : Int), .idx (4 * i + 4), .idx (4 * i), .call [] [sV ((dir.bd.take (4 * i + 4)).drop (4 * i))] [] (.s (.int .i64 ((num4 offs : Nat) : Int))) 0 [], .dec false, .idx pos, .call [] [sV (s.drop pos)] [] (.tup [.agg (tC (decB (s.drop pos)).1), .s (.int .i64 (((decB (s.drop pos)).2.1 : Nat) : Int)), .s (.int .i64 (((decB (s.drop pos)).2.2 : Nat) : Int))]) 0 [], .dec false, .dec true], _, _, _, _, _, rfl, ?_, rfl, trivial⟩
  simp only [true_and, and_true, and_assoc, decide_eq_true_eq, decide_eq_false_iff_not, ne_eq, beq_iff_eq, beq_eq_false_iff_ne, bne_eq_false_iff_eq, bne_iff_ne, bne_self_eq_false, beq_self_eq_true]
  repeat' apply And.intro
  all_goals first
    | exact True.intro
    | exact call0 g1 rfl
    | exact call0 g2 rfl
    | exact hne
    | (rw [decide_eq_false hne]; rfl)
    | exact u64p (by omega)
    | exact h1
    | exact h3
    | exact decide_eq_true h3
    | (with_reducible show _ = true; kernel_rfl)
    | (with_reducible exact rfl)
    | (rw [i64_in] <;> omega)
    | omega
    | exact fun e => h1 (by omega)
    | exact fun e => h2 (by omega)
    | decide
    | rfl
theorem rs_b (s offs : By) (pos : Nat) (hs : s.length < 9223372036854775808) (ho : 4 ≤ offs.length) (hp : pos ≤ s.length) (dir : Tb) (k i : Nat) (hk : k ≤ 16) (hi : i < k) (hb : dir.bd.length = 4 * k) (hoff : offs = dir.bd.drop (4 * i)) (l : List Tb) (hl : l.length ≤ 16) (h : (one s offs pos).1 = 0) :
    Rnd Tryd.prog 0 ((Tryd.f33.body.bind fstLoop).getD .skip) [0, 5, 6] [0, 4, 5, 7, 8, 9] (sp 96 [(0, sV s), (4, .s (.ptr (some (0, 0)))), (5, iN pos), (7, iN k), (8, (.s (.sla 1 2 l.length))), (9, iN i)]) 3 [(0, some (bxT2 dir)), (1, some (zB l 2))] (sp 96 [(0, sV s), (4, .s (.ptr (some (0, 0)))), (5, iN (pos + (decB (s.drop pos)).2.1)), (7, iN k), (8, (.s (.sla 1 2 (l ++ [(decB (s.drop pos)).1]).length))), (9, iN (i + 1))]) [(0, some (bxT2 dir)), (1, some (zB (l ++ [(decB (s.drop pos)).1]) 2))] := by
  obtain ⟨o1, o2, o3, _⟩ := one_ok h
  have hdl := dec_len o2
  have hne : offs ≠ [] := fun e => by rw [e] at ho; simp at ho
  have g1 := (by have g := rnum_s ((dir.bd.take (4 * i + 4)).drop (4 * i)) (by simp; omega); rw [num_at dir.bd (4 * i) (by omega), ← hoff] at g; exact g : SC Tryd.prog 39 [sV ((dir.bd.take (4 * i + 4)).drop (4 * i))] 0 [] (.s (.int .i64 ((num4 offs : Nat) : Int))) 0 [])
  rw [o1] at g1
  have g2 := rdec_s (s.drop pos) (by simp; omega)
  unfold decV at g2
  have hld : (s.drop pos).length = s.length - pos := List.length_drop
  have e1 : Tryd.prog.types[23].size = 4 := by kernel_rfl
  have e2 : Tryd.prog.types[23].bytes = 56 := by kernel_rfl
  refine ⟨[.dec true, .num ((4 * i : Nat) : Int), .num ((4 * i : Nat) : Int), .num ((4 * i + 4 : Nat) : Int), .idx (4 * i + 4), .idx (4 * i), .call [] [sV ((dir.bd.take (4 * i + 4)).drop (4 * i))] [] (.s (.int .i64 ((pos : Nat) : Int))) 0 [], .dec false, .idx pos, .call [] [sV (s.drop pos)] [] (.tup [.agg (tC (decB (s.drop pos)).1), .s (.int .i64 (((decB (s.drop pos)).2.1 : Nat) : Int)), .s (.int .i64 (((decB (s.drop pos)).2.2 : Nat) : Int))]) 0 [], .dec false, .dec false, .app (l ++ [(decB (s.drop pos)).1]).length (cellsT (l ++ [(decB (s.drop pos)).1])), .num ((pos + (decB (s.drop pos)).2.1 : Nat) : Int), .num ((i + 1 : Nat) : Int)], _, _, _, _, _, rfl, ?_, rfl, ⟨rfl, rfl, trivial⟩⟩
  simp only [true_and, and_true, and_assoc, decide_eq_true_eq, decide_eq_false_iff_not, ne_eq, beq_iff_eq, beq_eq_false_iff_ne, bne_eq_false_iff_eq, bne_iff_ne, bne_self_eq_false, beq_self_eq_true]
  rw [o2]
  repeat' apply And.intro
  all_goals try rw [e1]
  all_goals try rw [e2]
  all_goals first
    | exact True.intro
    | exact call0 g1 rfl
    | exact call0 (by rw [o2] at g2; exact g2) rfl
    | exact call0 g2 rfl
    | exact decide_eq_false o3
    | exact o3
    | exact posadd (by omega) (by omega)
    | (with_reducible show _ = true; kernel_rfl)
    | (with_reducible exact rfl)
    | exact cT_app l _ _ rfl
    | exact ap_len _ _
    | (rw [List.length_append, List.length_singleton]; omega)
    | (simp [zM, zB, cellsT_len, rep]; done)
    | (rw [i64_in] <;> omega)
    | (show 4 * i + 4 ≤ dir.bd.length; omega)
    | omega
    | decide
    | exact Nat.le_refl _
    | rfl
    | (intro e; cases e)
    | (intro _; exact Nat.le_refl _)
theorem rs_bx1 (s offs : By) (pos : Nat) (hs : s.length < 9223372036854775808) (ho : 4 ≤ offs.length) (hp : pos ≤ s.length) (dir : Tb) (k i : Nat) (hk : k ≤ 16) (hi : i < k) (hb : dir.bd.length = 4 * k) (hoff : offs = dir.bd.drop (4 * i)) (l : List Tb) (h1 : num4 offs ≠ pos) : Lst Tryd.prog 0 ((Tryd.f33.body.bind fstLoop).getD .skip) [] [2, 3] (sp 96 [(0, sV s), (4, .s (.ptr (some (0, 0)))), (5, iN pos), (7, iN k), (8, (.s (.sla 1 2 l.length))), (9, iN i)]) 3 [(0, some (bxT2 dir)), (1, some (zB l 2))] .ret (sp 96 [(2, .s (.slc none 0 (some 0))), (3, .s (.int .i64 ((3 : Nat) : Int)))]) [] := by
  have hne : offs ≠ [] := fun e => by rw [e] at ho; simp at ho
  have g1 := (by have g := rnum_s ((dir.bd.take (4 * i + 4)).drop (4 * i)) (by simp; omega); rw [num_at dir.bd (4 * i) (by omega), ← hoff] at g; exact g : SC Tryd.prog 39 [sV ((dir.bd.take (4 * i + 4)).drop (4 * i))] 0 [] (.s (.int .i64 ((num4 offs : Nat) : Int))) 0 [])
  have hnl := num4_lt offs
  have g2 := rdec_s (s.drop pos) (by simp; omega)
  unfold decV at g2
  have hld : (s.drop pos).length = s.length - pos := List.length_drop
  refine ⟨[.dec true, .num ((4 * i : Nat) : Int), .num ((4 * i : Nat) : Int), .num ((4 * i + 4 : Nat) : Int), .idx (4 * i + 4), .idx (4 * i), .call [] [sV ((dir.bd.take (4 * i + 4)).drop (4 * i))] [] (.s (.int .i64 ((num4 offs : Nat) : Int))) 0 [], .dec true], _, _, _, _, _, rfl, ?_, rfl, trivial⟩
  simp only [true_and, and_true, and_assoc, decide_eq_true_eq, decide_eq_false_iff_not, ne_eq, beq_iff_eq, beq_eq_false_iff_ne, bne_eq_false_iff_eq, bne_iff_ne, bne_self_eq_false, beq_self_eq_true]
  repeat' apply And.intro
  all_goals first
    | exact True.intro
    | exact call0 g1 rfl
    | exact call0 g2 rfl
    | exact hne
    | (rw [decide_eq_false hne]; rfl)
    | exact u64p (by omega)
    | exact h1
    | exact h3
    | exact decide_eq_true h3
    | (with_reducible show _ = true; kernel_rfl)
    | (with_reducible exact rfl)
    | (rw [i64_in] <;> omega)
    | omega
    | exact fun e => h1 (by omega)
    | exact fun e => h2 (by omega)
    | decide
    | rfl
theorem rs_bx2 (s offs : By) (pos : Nat) (hs : s.length < 9223372036854775808) (ho : 4 ≤ offs.length) (hp : pos ≤ s.length) (dir : Tb) (k i : Nat) (hk : k ≤ 16) (hi : i < k) (hb : dir.bd.length = 4 * k) (hoff : offs = dir.bd.drop (4 * i)) (l : List Tb) (h1 : num4 offs = pos) (h2 : (decB (s.drop pos)).2.2 ≠ 0) : Lst Tryd.prog 0 ((Tryd.f33.body.bind fstLoop).getD .skip) [] [2, 3] (sp 96 [(0, sV s), (4, .s (.ptr (some (0, 0)))), (5, iN pos), (7, iN k), (8, (.s (.sla 1 2 l.length))), (9, iN i)]) 3 [(0, some (bxT2 dir)), (1, some (zB l 2))] .ret (sp 96 [(2, .s (.slc none 0 (some 0))), (3, .s (.int .i64 (((decB (s.drop pos)).2.2 : Nat) : Int)))]) [] := by
  have hne : offs ≠ [] := fun e => by rw [e] at ho; simp at ho
  have g1 := (by have g := rnum_s ((dir.bd.take (4 * i + 4)).drop (4 * i)) (by simp; omega); rw [num_at dir.bd (4 * i) (by omega), ← hoff] at g; exact g : SC Tryd.prog 39 [sV ((dir.bd.take (4 * i + 4)).drop (4 * i))] 0 [] (.s (.int .i64 ((num4 offs : Nat) : Int))) 0 [])
  have hnl := num4_lt offs
  have g2 := rdec_s (s.drop pos) (by simp; omega)
  unfold decV at g2
  have hld : (s.drop pos).length = s.length - pos := List.length_drop
  refine ⟨[.dec true, .num ((4 * i : Nat) : Int), .num ((4 * i : Nat) : Int), .num ((4 * i + 4 : Nat) : Int), .idx (4 * i + 4), .idx (4 * i), .call [] [sV ((dir.bd.take (4 * i + 4)).drop (4 * i))] [] (.s (.int .i64 ((num4 offs : Nat) : Int))) 0 [], .dec false, .idx pos, .call [] [sV (s.drop pos)] [] (.tup [.agg (tC (decB (s.drop pos)).1), .s (.int .i64 (((decB (s.drop pos)).2.1 : Nat) : Int)), .s (.int .i64 (((decB (s.drop pos)).2.2 : Nat) : Int))]) 0 [], .dec true], _, _, _, _, _, rfl, ?_, rfl, trivial⟩
  simp only [true_and, and_true, and_assoc, decide_eq_true_eq, decide_eq_false_iff_not, ne_eq, beq_iff_eq, beq_eq_false_iff_ne, bne_eq_false_iff_eq, bne_iff_ne, bne_self_eq_false, beq_self_eq_true]
  repeat' apply And.intro
  all_goals first
    | exact True.intro
    | exact call0 g1 rfl
    | exact call0 g2 rfl
    | exact hne
    | (rw [decide_eq_false hne]; rfl)
    | exact u64p (by omega)
    | exact h1
    | exact h3
    | exact decide_eq_true h3
    | (with_reducible show _ = true; kernel_rfl)
    | (with_reducible exact rfl)
    | (rw [i64_in] <;> omega)
    | omega
    | exact fun e => h1 (by omega)
    | exact fun e => h2 (by omega)
    | decide
    | rfl
theorem rs_bx3 (s offs : By) (pos : Nat) (hs : s.length < 9223372036854775808) (ho : 4 ≤ offs.length) (hp : pos ≤ s.length) (dir : Tb) (k i : Nat) (hk : k ≤ 16) (hi : i < k) (hb : dir.bd.length = 4 * k) (hoff : offs = dir.bd.drop (4 * i)) (l : List Tb) (h1 : num4 offs = pos) (h2 : (decB (s.drop pos)).2.2 = 0) (h3 : (decB (s.drop pos)).1.sg = rsdt) : Lst Tryd.prog 0 ((Tryd.f33.body.bind fstLoop).getD .skip) [] [2, 3] (sp 96 [(0, sV s), (4, .s (.ptr (some (0, 0)))), (5, iN pos), (7, iN k), (8, (.s (.sla 1 2 l.length))), (9, iN i)]) 3 [(0, some (bxT2 dir)), (1, some (zB l 2))] .ret (sp 96 [(2, .s (.slc none 0 (some 0))), (3, .s (.int .i64 ((3 : Nat) : Int)))]) [] := by
  have hne : offs ≠ [] := fun e => by rw [e] at ho; simp at ho
  have g1 := (by have g := rnum_s ((dir.bd.take (4 * i + 4)).drop (4 * i)) (by simp; omega); rw [num_at dir.bd (4 * i) (by omega), ← hoff] at g; exact g : SC Tryd.prog 39 [sV ((dir.bd.take (4 * i + 4)).drop (4 * i))] 0 [] (.s (.int .i64 ((num4 offs : Nat) : Int))) 0 [])
  have hnl := num4_lt offs
  have g2 := rdec_s (s.drop pos) (by simp; omega)
  unfold decV at g2
  have hld : (s.drop pos).length = s.length - pos := List.length_drop
  refine ⟨[.dec true, .num ((4 * i : Nat) : Int), .num ((4 * i : Nat) : Int), .num ((4 * i + 4 : Nat) : Int), .idx (4 * i + 4), .idx (4 * i), .call [] [sV ((dir.bd.take (4 * i + 4)).drop (4 * i))] [] (.s (.int .i64 ((num4 offs : Nat) : Int))) 0 [], .dec false, .idx pos, .call [] [sV (s.drop pos)] [] (.tup [.agg (tC (decB (s.drop pos)).1), .s (.int .i64 (((decB (s.drop pos)).2.1 : Nat) : Int)), .s (.int .i64 (((decB (s.drop pos)).2.2 : Nat) : Int))]) 0 [], .dec false, .dec true], _, _, _, _, _, rfl, ?_, rfl, trivial⟩
  simp only [true_and, and_true, and_assoc, decide_eq_true_eq, decide_eq_false_iff_not, ne_eq, beq_iff_eq, beq_eq_false_iff_ne, bne_eq_false_iff_eq, bne_iff_ne, bne_self_eq_false, beq_self_eq_true]
  repeat' apply And.intro
  all_goals first
    | exact True.intro
    | exact call0 g1 rfl
    | exact call0 g2 rfl
    | exact hne
    | (rw [decide_eq_false hne]; rfl)
    | exact u64p (by omega)
    | exact h1
    | exact h3
    | exact decide_eq_true h3
    | (with_reducible show _ = true; kernel_rfl)
    | (with_reducible exact rfl)
    | (rw [i64_in] <;> omega)
    | omega
    | exact fun e => h1 (by omega)
    | exact fun e => h2 (by omega)
    | decide
    | rfl
theorem rs_z (s : By) (dir : Tb) (k pos : Nat) (l : List Tb) : Lst Tryd.prog 0 ((Tryd.f33.body.bind fstLoop).getD .skip) [0, 1, 2] [0, 4, 5, 7, 8, 9] (sp 96 [(0, sV s), (4, .s (.ptr (some (0, 0)))), (5, iN pos), (7, iN k), (8, (.s (.sla 1 2 l.length))), (9, iN k)]) 3 [(0, some (bxT2 dir)), (1, some (zB l 2))] (.exit 0) (sp 96 [(0, sV s), (4, .s (.ptr (some (0, 0)))), (5, iN pos), (7, iN k), (8, (.s (.sla 1 2 l.length))), (9, iN k)]) [(0, some (bxT2 dir)), (1, some (zB l 2))] := by
  refine ⟨[.dec false], _, _, _, _, _, rfl, ?_, rfl, ⟨rfl, rfl, trivial⟩⟩
  simp only [true_and, and_true, decide_eq_false_iff_not]
  omega

end Go.Proofs.YtmkemodgbhaglaaDoor
