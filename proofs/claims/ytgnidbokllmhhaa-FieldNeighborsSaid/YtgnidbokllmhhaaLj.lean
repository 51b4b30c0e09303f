/-
  ref.bit, Equal, fit: what they compute.
-/
import Derived.Test.YtgnidbokllmhhaaLi
import Derived.Test.YtgnidbokllmhhaaAb12
set_option linter.unusedSimpArgs false
set_option linter.unusedVariables false
namespace Go.Proofs.Ytgnidbokllmhhaa
open Go Ab
set_option maxRecDepth 100000

theorem bit_s (s : List UInt8) (k : Nat) (hk : k ≤ 100000) : SC Try.prog 34 [.s (.str s), .s (.int .i64 ((k : Nat) : Int))] 0 [] (.s (.int .u64 (((sb s k).toNat : Nat) : Int))) 0 [] := by
  have e8 : Int.tdiv (k : Int) 8 = ((k / 8 : Nat) : Int) := rfl
  have e9 : Int.tmod (k : Int) 8 = ((k % 8 : Nat) : Int) := rfl
  by_cases hc : s.length ≤ k / 8
  · rw [sb_none (by omega)]
    refine SC.run hm Try.func34 rfl [.num ((k / 8 : Nat) : Int), .dec true] [] rfl rfl ?_ (.inl rfl) (EndOK.plain rfl no_mem rfl rfl)
    simp only [true_and, and_true, and_assoc, decide_eq_true_eq, ne_eq, i64_wrap, e8]
    repeat' apply And.intro
    all_goals first | exact True.intro | omega
  · have hs8 : (s.getD (k / 8) 0).toNat < 2 ^ 8 := (s.getD (k / 8) 0).toNat_lt
    have hsb : (((s.getD (k / 8) 0).toNat).testBit (k % 8)) = sb s k := rfl
    refine SC.run hm Try.func34 rfl [.num ((k / 8 : Nat) : Int), .dec false, .num ((k / 8 : Nat) : Int), .idx (k / 8), .num ((k % 8 : Nat) : Int), .num ((k % 8 : Nat) : Int), .num (((s.getD (k / 8) 0).toNat / 2 ^ (k % 8) : Nat) : Int), .num (((s.getD (k / 8) 0).toNat / 2 ^ (k % 8) : Nat) : Int), .num (((sb s k).toNat : Nat) : Int)] [] rfl rfl ?_ (.inl rfl) (EndOK.plain rfl no_mem rfl rfl)
    generalize hgx : (s.getD (k / 8) 0).toNat = x at *
    have hq : x / 2 ^ (k % 8) < 2 ^ 8 := Nat.lt_of_le_of_lt (Nat.div_le_self _ _) hs8
    have e2 : Int.fdiv (x : Int) (2 ^ min ((k % 8 : Nat) : Int).toNat IntKind.u8.bits) = ((x / 2 ^ (k % 8) : Nat) : Int) := shrN _ _ (by simp only [IntKind.bits]; omega)
    have e3 : bitV .and .u64 ((x / 2 ^ (k % 8) : Nat) : Int) 1 = (((sb s k).toNat : Nat) : Int) := by rw [← hsb, ← shr_bit]; exact and64 (b := 1) (by omega) (by decide)
    simp only [true_and, and_true, and_assoc, decide_eq_false_iff_not, ne_eq, i64_wrap, u64_wrap, hgx, e2, e3, e8, e9]
    generalize x / 2 ^ (k % 8) = y at *
    repeat' apply And.intro
    all_goals first | exact True.intro | omega | (with_reducible show _ = true; kernel_rfl)

/-- two lists that are the same -/
theorem equal_s (a : List Nat) (m1 m2 : Bool) (c1 c2 : Option Nat) (hl : a.length ≤ 1000) :
    SC Try.prog 15 [.s (.slc (some (0, 0)) a.length c1), .s (.slc (some (1, 0)) a.length c2)] 2 [(0, some (bR 22 m1 (cU a))), (1, some (bR 22 m2 (cU a)))] (.s (.bool true)) 2 [(0, some (bR 22 m1 (cU a))), (1, some (bR 22 m2 (cU a)))] := by
  refine SC.run hm Try.func15 rfl [.dec false, .loop (.exit 0) (sp 26 []) 2 [(0, some (bR 22 m1 (cU a))), (1, some (bR 22 m2 (cU a)))]] [] rfl rfl ?_ (.inl rfl) (EndOK.by rfl ⟨rfl, rfl, trivial⟩ rfl rfl rfl rfl)
  simp only [true_and, and_true, and_assoc, bne_eq_false_iff_eq]
  refine Ex.turns hm [0, 1, 5] [0, 1] a.length (fun k => sp 26 [(0, .s (.slc (some (0, 0)) a.length c1)), (1, .s (.slc (some (1, 0)) a.length c2)), (5, .s (.int .i64 ((k : Nat) : Int)))]) (fun _ => [(0, some (bR 22 m1 (cU a))), (1, some (bR 22 m2 (cU a)))]) (by omega) rfl rfl (fun _ => ⟨rfl, rfl⟩) ?_ [] [0, 1] (by simp) ⟨rfl, rfl⟩ ⟨[.dec false], _, _, _, _, _, rfl, ?_, rfl, rfl⟩
  · intro k hk
    have h1 : ldAt false 1 (bR 22 m1 (cU a)) k = some (.s (.int .u64 ((a.getD k 0 : Nat) : Int))) := ldU hk
    have h2 : ldAt false 1 (bR 22 m2 (cU a)) k = some (.s (.int .u64 ((a.getD k 0 : Nat) : Int))) := ldU hk
    refine ⟨[.dec true, .idx k, .val (.s (.int .u64 ((a.getD k 0 : Nat) : Int))), .idx k, .val (.s (.int .u64 ((a.getD k 0 : Nat) : Int))), .dec false, .num ((k + 1 : Nat) : Int)], _, _, _, _, _, rfl, ?_, rfl, rfl⟩
    simp only [true_and, and_true, and_assoc, decide_eq_true_eq, bne_eq_false_iff_eq, i64_wrap]
    repeat' apply And.intro
    all_goals first | exact True.intro | omega | exact h1 | exact h2 | (with_reducible show _ = true; kernel_rfl)
  · simp only [decide_eq_false_iff_not, and_true, true_and]; omega

theorem equal_nil : SC Try.prog 15 [.s (.slc none 0 (some 0)), .s (.slc none 0 (some 0))] 0 [] (.s (.bool true)) 0 [] := by
  refine SC.run hm Try.func15 rfl [.dec false, .loop (.exit 0) (sp 26 []) 0 []] [] rfl rfl ?_ (.inl rfl) (EndOK.plain rfl no_mem rfl rfl)
  simp only [true_and, and_true, and_assoc, bne_eq_false_iff_eq]
  refine Ex.turns hm [0, 1, 5] [] 0 (fun k => sp 26 [(0, .s (.slc none 0 (some 0))), (1, .s (.slc none 0 (some 0))), (5, .s (.int .i64 ((k : Nat) : Int)))]) (fun _ => []) (by omega) rfl rfl (fun _ => ⟨rfl, rfl⟩) ?_ [] [] (by simp) ⟨rfl, rfl⟩ ⟨[.dec false], _, _, _, _, _, rfl, ?_, rfl, rfl⟩
  · intro k hk; omega
  · simp only [decide_eq_false_iff_not, and_true, true_and]; decide

/-- a list that is cut or filled up to n numbers -/
def fitL (g : Nat → Nat) (m n : Nat) : List Nat := (List.range (min m n)).map g ++ List.replicate (n - min m n) 0
theorem fitL_length (g : Nat → Nat) (m n : Nat) : (fitL g m n).length = n := by
  unfold fitL; simp; omega
theorem fitL_lt {g : Nat → Nat} {m n : Nat} (hg : ∀ i, g i < 2 ^ 64) (i : Nat) : (fitL g m n).getD i 0 < 2 ^ 64 := by
  unfold fitL
  rw [List.getD_eq_getElem?_getD, List.getElem?_append]
  split
  · rename_i h
    simp only [List.length_map, List.length_range] at h
    rw [List.getElem?_map, List.getElem?_range h]; exact hg i
  · rw [← List.getD_eq_getElem?_getD, rep_getD]; decide

theorem setL_mid {α : Type} : ∀ (xs p arr : List α), xs.length ≤ arr.length → setL (p ++ arr) p.length xs = p ++ (xs ++ arr.drop xs.length)
  | [], p, arr, _ => by simp [setL]
  | x :: xs, p, [], h => by simp at h
  | x :: xs, p, a :: arr, h => by
    simp only [setL]
    have e : (p ++ a :: arr).set p.length x = (p ++ [x]) ++ arr := by simp
    have := setL_mid xs (p ++ [x]) arr (by simpa using h)
    rw [e]
    simpa using this
theorem setL_front {α : Type} (xs arr : List α) (h : xs.length ≤ arr.length) : setL arr 0 xs = xs ++ arr.drop xs.length := setL_mid xs [] arr h

theorem part_cells {C : List S} {g : Nat → Nat} {o m : Nat} (hC : ∀ i, i < m → C[o + i]? = some (.int .u64 ((g i : Nat) : Int))) {k : Nat} (hk : k ≤ m) : List.take (k * 1) (List.drop o C) = cU ((List.range k).map g) := by
  rw [Nat.mul_one]
  apply List.ext_getElem?
  intro i
  rw [List.getElem?_take]
  by_cases h : i < k
  · rw [if_pos h, List.getElem?_drop, hC i (by omega)]
    simp [cU, List.getElem?_map, List.getElem?_range h]
  · rw [if_neg h]
    simp [cU, List.getElem?_eq_none, h]
theorem fit_cells {C : List S} {g : Nat → Nat} {o m : Nat} (hC : ∀ i, i < m → C[o + i]? = some (.int .u64 ((g i : Nat) : Int))) (n : Nat) : cU (fitL g m n) = setL (rep n [.int .u64 0]) 0 (List.take (min m n * 1) (List.drop o C)) := by
  rw [cU_rep, part_cells hC (Nat.min_le_left m n), setL_front _ _ (by rw [cU_length, cU_length]; simp; omega)]
  unfold cU fitL
  simp only [List.map_append, List.map_replicate, List.drop_replicate, List.length_map, List.length_range]
theorem cU_noPtr (l : List Nat) : (cU l).all noPtr = true := by
  simp only [cU, List.all_eq_true]
  intro x hx
  obtain ⟨y, _, rfl⟩ := List.mem_map.1 hx
  rfl
theorem all_take_drop {α : Type} {p : α → Bool} {l : List α} (h : l.all p = true) (k o : Nat) : ((l.drop o).take k).all p = true := by
  rw [List.all_eq_true] at h ⊢
  intro x hx
  exact h x (List.mem_of_mem_drop (List.mem_of_mem_take hx))
theorem sz22 : ∀ h, (Try.prog.types[22]'h).size = 1 := fun _ => rfl

theorem fit_s (ty : TypeId) (mr : Bool) (C : List S) (g : Nat → Nat) (o m n : Nat) (c : Option Nat) (hC : ∀ i, i < m → C[o + i]? = some (.int .u64 ((g i : Nat) : Int))) (ho : o + m ≤ C.length) (hn : n ≤ 1000) :
    SC Try.prog 11 [.s (.slc (some (0, o)) m c), .s (.int .i64 ((n : Nat) : Int))] 1 [(0, some (bR ty mr C))] (.s (.slc (some (1, 0)) n (some n))) 2 [(0, some (bR ty mr C)), (1, some (bU (fitL g m n)))] := by
  refine SC.run hm Try.func11 rfl [.idx n, .idx n, .idx (min m n), .cells (cU (fitL g m n))] [1] rfl rfl ?_ (.inl rfl) (EndOK.by rfl ⟨rfl, rfl, trivial⟩ rfl rfl rfl rfl)
  simp only [true_and, and_true, and_assoc]
  repeat' apply And.intro
  all_goals first
    | exact True.intro
    | omega
    | exact Nat.le_trans (Nat.mul_le_mul_right _ (show _ ≤ 8 by decide +kernel)) (by omega)
    | (rw [sz22]; omega)
    | (rw [sz22, cU_rep, cU_length, List.length_replicate]; omega)
    | (rw [sz22]; exact fit_cells hC n)
    | (rw [sz22, part_cells hC (Nat.min_le_left m n)]; exact cU_noPtr _)

theorem fit_nil (n : Nat) (hn : n ≤ 1000) :
    SC Try.prog 11 [.s (.slc none 0 (some 0)), .s (.int .i64 ((n : Nat) : Int))] 0 [] (.s (.slc (some (0, 0)) n (some n))) 1 [(0, some (bU (List.replicate n 0)))] := by
  refine SC.run hm Try.func11 rfl [.idx n, .idx n, .idx 0, .cells (cU (List.replicate n 0))] [0] rfl rfl ?_ (.inl rfl) (EndOK.by rfl ⟨rfl, trivial⟩ rfl rfl rfl rfl)
  simp only [true_and, and_true, and_assoc]
  repeat' apply And.intro
  all_goals first
    | exact True.intro
    | omega
    | exact Nat.le_trans (Nat.mul_le_mul_right _ (show _ ≤ 8 by decide +kernel)) (by omega)
    | (rw [sz22]; omega)
    | (rw [cU_rep]; rfl)
    | (with_reducible show _ = true; kernel_rfl)

theorem fit_emp (n : Nat) (hn : n ≤ 1000) :
    SC Try.prog 11 [.s .emp, .s (.int .i64 ((n : Nat) : Int))] 0 [] (.s (.slc (some (0, 0)) n (some n))) 1 [(0, some (bU (List.replicate n 0)))] := by
  refine SC.run hm Try.func11 rfl [.idx n, .idx n, .idx 0, .cells (cU (List.replicate n 0))] [0] rfl rfl ?_ (.inl rfl) (EndOK.by rfl ⟨rfl, trivial⟩ rfl rfl rfl rfl)
  simp only [true_and, and_true, and_assoc]
  repeat' apply And.intro
  all_goals first
    | exact True.intro
    | omega
    | exact Nat.le_trans (Nat.mul_le_mul_right _ (show _ ≤ 8 by decide +kernel)) (by omega)
    | (rw [sz22]; omega)
    | (rw [cU_rep]; rfl)
    | (with_reducible show _ = true; kernel_rfl)

end Go.Proofs.Ytgnidbokllmhhaa
