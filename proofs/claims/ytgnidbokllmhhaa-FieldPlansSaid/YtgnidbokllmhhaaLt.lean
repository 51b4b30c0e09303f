/-
  ReadsBeforeWrite, ref.ReadsBeforeWrite, Equal of lists of bools: what they compute.
-/
import Derived.Test.YtgnidbokllmhhaaLr
import Derived.Test.YtgnidbokllmhhaaLj
set_option linter.unusedSimpArgs false
set_option linter.unusedVariables false
namespace Go.Proofs.Ytgnidbokllmhhaa
open Go Ab
set_option maxRecDepth 100000

/-- must the unit i be read ahead of a write? -/
def rbV (f : Fsp) (b n w i : Nat) : Bool := f.up == 0 && ((mv b n w i : Nat) : Int) != ((2 ^ (8 * w) - 1 : Nat) : Int)
def rbC (f : Fsp) (b n w : Nat) : Nat → List S
  | 0 => []
  | k + 1 => rbC f b n w k ++ [.bool (rbV f b n w k)]
theorem rbC_length (f : Fsp) (b n w : Nat) : ∀ k, (rbC f b n w k).length = k
  | 0 => rfl
  | k + 1 => by simp [rbC, rbC_length f b n w k]
theorem rbC_succ (f : Fsp) (b n w k : Nat) : rbC f b n w (k + 1) = List.take (k * 1) (rbC f b n w k) ++ [.bool (rbV f b n w k)] := by
  rw [List.take_of_length_le (by rw [rbC_length]; omega)]; rfl
theorem rbC_get (f : Fsp) (b n w : Nat) : ∀ {m k : Nat}, k < m → (rbC f b n w m)[k]? = some (.bool (rbV f b n w k))
  | m + 1, k, h => by
    simp only [rbC]
    by_cases e : k = m
    · subst e; rw [List.getElem?_append_right (by rw [rbC_length]; omega), rbC_length]; simp
    · rw [List.getElem?_append_left (by rw [rbC_length]; omega)]; exact rbC_get f b n w (by omega)
def bQ (l : List S) (g : Nat) : Bl := { cells := l, ty := 4, more := true, sym := true, flat := true, gh := some (g, 1) }
def bQm (l : List S) : Bl := { cells := l, ty := 4, sym := true, flat := true }
theorem sz4 : ∀ h, (Try.prog.types[4]'h).size = 1 := fun _ => rfl
theorem by4 : ∀ h, (Try.prog.types[4]'h).bytes = 1 := fun _ => rfl

theorem rbw_no {f : Fsp} (hf : f.ok) (h : vld f = false) : SC Try.prog 40 [f.v] 0 [] (.s (.slc none 0 (some 0))) 0 [] := by
  have hu := masks_no hf h
  refine SC.run hm Try.func40 rfl [.call [] [f.v] [] (.s (.slc none 0 (some 0))) 0 [],
    .loop (.exit 0) (sp 27 [(3, .s (.slc none 0 (some 0)))]) 1 []] [] rfl rfl ?_ (.inl rfl) (EndOK.plain rfl no_mem rfl rfl)
  simp only [true_and, and_true, and_assoc]
  refine ⟨by kernel_rfl, call0 hu rfl, ?_⟩
  exact Ex.turns hm [3, 8, 9] [] 0 (fun k => sp 27 [(3, .s (.slc none 0 (some 0))), (8, .s (.int .i64 0)), (9, .s (.int .i64 0))]) (fun _ => []) (by omega) rfl rfl (fun k => ⟨rfl, rfl⟩) (fun j hj => by omega) [3] [] (by simp) ⟨rfl, rfl⟩ ⟨[.dec false], _, _, _, _, _, rfl, by simp, rfl, rfl⟩

theorem rbw_s {f : Fsp} {b n w : Nat} (hf : f.ok) (h : FV f b n w) : SC Try.prog 40 [f.v] 0 [] (.s (.sla 0 1 (nU b n w))) 2 [(0, some (bQ (rbC f b n w (nU b n w)) 1))] := by
  have hu := masks_s hf h
  have hN : nU b n w ≤ 300 := nU_le h
  have hw0 : 0 < w := by have := h.w; omega
  have hw8 : w ≤ 8 := by have := h.w; omega
  have ewd := h.wd
  have hfm := fullMask_s f (by omega) (by omega)
  rw [show ones f.wd = ((2 ^ (8 * w) - 1 : Nat) : Int) by rw [ewd]; exact ones_nat h.w] at hfm
  have hne : nU b n w ≠ 0 := by unfold nU; omega
  refine SC.run hm Try.func40 rfl [.call [] [f.v] [] (.s (.slc (some (0, 0)) (nU b n w) (some (nU b n w)))) 1 [(0, some (bU (mL b n w)))],
    .loop (.exit 0) (sp 27 [(3, .s (.sla 2 3 (nU b n w)))]) 4 [(2, some (bQ (rbC f b n w (nU b n w)) 3))]] [2, 3] rfl rfl ?_ (.inl rfl) (EndOK.by rfl ⟨rfl, trivial⟩ rfl rfl rfl rfl)
  simp only [true_and, and_true, and_assoc]
  refine ⟨by kernel_rfl, call0 hu rfl, ?_⟩
  obtain ⟨N, hNN⟩ : ∃ N, nU b n w = N + 1 := ⟨nU b n w - 1, by omega⟩
  have hmL := mL_length b n w
  have hmv : ∀ k, k < N + 1 → ldAt false 1 (bU (mL b n w)) k = some (.s (.int .u64 ((mv b n w k : Nat) : Int))) := by
    intro k hk
    have := ldU (l := mL b n w) (i := k) (by rw [mL_length, hNN]; exact hk) (ty := 22) (m := false) (r := false) (s := true) (f := true) (gh := none)
    rw [mL_getD, if_pos (by omega)] at this; exact this
  rw [hNN] at hN hu ⊢
  refine Ex.moves hm [1, 3, 7, 8, 9] (N + 1)
    (fun k => match k with
      | 0 => sp 27 [(1, .s (.ptr (some (0, 0)))), (3, .s (.slc none 0 (some 0))), (7, .s (.slc (some (1, 0)) (N + 1) (some (N + 1)))), (8, .s (.int .i64 ((N + 1 : Nat) : Int))), (9, .s (.int .i64 ((0 : Nat) : Int)))]
      | k + 1 => sp 27 [(1, .s (.ptr (some (0, 0)))), (3, .s (.sla 2 3 (k + 1))), (7, .s (.slc (some (1, 0)) (N + 1) (some (N + 1)))), (8, .s (.int .i64 ((N + 1 : Nat) : Int))), (9, .s (.int .i64 ((k + 1 : Nat) : Int)))])
    (fun k => match k with
      | 0 => [(0, some { cells := f.c, ty := 26 }), (1, some (bU (mL b n w)))]
      | k + 1 => [(0, some { cells := f.c, ty := 26 }), (1, some (bU (mL b n w))), (2, some (bQ (rbC f b n w (k + 1)) 3))])
    [0, 1, 2, 3] [0, 1, 5, 6] rfl rfl rfl ⟨rfl, rfl, trivial⟩ rfl (fun j => rfl) ?_ [3] [0, 1, 2, 3] rfl (by simp) rfl ⟨[.dec false], _, _, _, _, _, rfl, ?_, rfl, ⟨rfl, trivial⟩⟩
  · intro k hk
    have hld := hmv k hk
    cases k with
    | zero =>
      refine ⟨[.dec true, .idx 0, .val (.s (.int .u64 ((mv b n w 0 : Nat) : Int))), .lazy [.call [] [f.v] [] (.s (.int .u64 ((2 ^ (8 * w) - 1 : Nat) : Int))) 0 [], .app (0 + 1) (rbC f b n w (0 + 1))] [], .num ((0 + 1 : Nat) : Int)], _, _, _, _, _, rfl, ?_, rfl, ⟨rfl, rfl, rfl, trivial⟩⟩
      simp only [true_and, and_true, and_assoc, and_self, imp_self, implies_true, decide_eq_true_eq, i64_wrap, sz4, by4]
      repeat' apply And.intro
      all_goals first
        | exact True.intro
        | omega
        | (intro h; omega)
        | exact hld
        | exact rbC_succ _ _ _ _ _
        | exact Nat.le_refl 1
        | exact fun h => ⟨by kernel_rfl, call0 hfm rfl⟩
        | exact fun h => ⟨h, by kernel_rfl, call0 hfm rfl⟩
        | (with_reducible show _ = true; kernel_rfl)
    | succ k =>
      refine ⟨[.dec true, .idx (k + 1), .val (.s (.int .u64 ((mv b n w (k + 1) : Nat) : Int))), .lazy [.call [] [f.v] [] (.s (.int .u64 ((2 ^ (8 * w) - 1 : Nat) : Int))) 0 [], .app (k + 1 + 1) (rbC f b n w (k + 1 + 1))] [], .num ((k + 1 + 1 : Nat) : Int)], _, _, _, _, _, rfl, ?_, rfl, ⟨rfl, rfl, rfl, trivial⟩⟩
      simp only [true_and, and_true, and_assoc, and_self, imp_self, implies_true, decide_eq_true_eq, i64_wrap, sz4, by4]
      repeat' apply And.intro
      all_goals first
        | exact True.intro
        | omega
        | (intro h; omega)
        | (intro h; cases h)
        | exact hld
        | exact rbC_succ _ _ _ _ _
        | exact Nat.le_of_eq (by show _ = (rbC _ _ _ _ _).length; rw [rbC_length]; omega)
        | exact Nat.le_refl 1
        | exact fun h => ⟨by kernel_rfl, call0 hfm rfl⟩
        | exact fun h => ⟨h, by kernel_rfl, call0 hfm rfl⟩
        | (with_reducible show _ = true; kernel_rfl)
  · simp only [decide_eq_false_iff_not, and_true, true_and]; omega

/-! ### ref.ReadsBeforeWrite -/
def rbS (f : Fsp) (b n w N k : Nat) : List S := rbC f b n w k ++ List.replicate (N - k) (.bool false)
theorem rbS_step (f : Fsp) (b n w N k : Nat) (h : k < N) : rbS f b n w N (k + 1) = setL (rbS f b n w N k) k [.bool (rbV f b n w k)] := by
  unfold rbS
  have e := setL_app [S.bool (rbV f b n w k)] (rbC f b n w k) (List.replicate (N - k) (.bool false)) (by simp; omega)
  rw [rbC_length] at e
  rw [e]
  simp only [rbC, List.append_assoc, List.length_singleton, List.drop_replicate]
  rw [show N - (k + 1) = N - k - 1 by omega]
theorem rbS_length (f : Fsp) (b n w N k : Nat) (h : k ≤ N) : (rbS f b n w N k).length = N := by
  unfold rbS; simp [rbC_length]; omega
theorem rbS_all (f : Fsp) (b n w N : Nat) : rbS f b n w N N = rbC f b n w N := by unfold rbS; simp

theorem rrbw_no {f : Fsp} (hf : f.ok) (h : vld f = false) : SC Try.prog 41 [f.v] 0 [] (.s (.slc (some (0, 0)) 0 (some 0))) 1 [(0, some (bQm []))] := by
  have hu := rmasks_no hf h
  refine SC.run hm Try.func41 rfl [.call [] [f.v] [] (.s (.slc (some (0, 0)) 0 (some 0))) 1 [(0, some (bU []))], .idx 0, .idx 0,
    .loop (.exit 0) (sp 34 [(4, .s (.slc (some (2, 0)) 0 (some 0)))]) 3 [(2, some (bQm []))]] [2] rfl rfl ?_ (.inl rfl) (EndOK.by rfl ⟨rfl, trivial⟩ rfl rfl rfl rfl)
  simp only [true_and, and_true, and_assoc, by4]
  refine ⟨by kernel_rfl, call0 hu rfl, by omega, by omega, by omega, ?_⟩
  exact Ex.turns hm [3, 4, 5] [2] 0 (fun k => sp 34 [(3, .s (.slc (some (1, 0)) 0 (some 0))), (4, .s (.slc (some (2, 0)) 0 (some 0))), (5, .s (.int .i64 0))]) (fun _ => [(2, some (bQm []))]) (by omega) rfl rfl (fun k => ⟨rfl, rfl⟩) (fun j hj => by omega) [4] [2] (by simp) ⟨rfl, rfl⟩ ⟨[.dec false], _, _, _, _, _, rfl, by simp, rfl, rfl⟩

theorem rrbw_s {f : Fsp} {b n w : Nat} (hf : f.ok) (h : FV f b n w) : SC Try.prog 41 [f.v] 0 [] (.s (.slc (some (0, 0)) (nU b n w) (some (nU b n w)))) 1 [(0, some (bQm (rbC f b n w (nU b n w))))] := by
  have hu := rmasks_s hf h
  have hN : nU b n w ≤ 300 := nU_le h
  have hw0 : 0 < w := by have := h.w; omega
  have hw8 : w ≤ 8 := by have := h.w; omega
  have ewd := h.wd
  have hfm := ones_s f.wd (by omega) (by omega)
  rw [show ones f.wd = ((2 ^ (8 * w) - 1 : Nat) : Int) by rw [ewd]; exact ones_nat h.w] at hfm
  have hmv : ∀ k, k < nU b n w → ldAt false 1 (bU (mL b n w)) k = some (.s (.int .u64 ((mv b n w k : Nat) : Int))) := by
    intro k hk
    have := ldU (l := mL b n w) (i := k) (by rw [mL_length]; exact hk) (ty := 22) (m := false) (r := false) (s := true) (f := true) (gh := none)
    rw [mL_getD, if_pos hk] at this; exact this
  generalize hNN : nU b n w = N at *
  rw [← rbS_all]
  refine SC.run hm Try.func41 rfl [.call [] [f.v] [] (.s (.slc (some (0, 0)) N (some N))) 1 [(0, some (bU (mL b n w)))], .idx N, .idx N,
    .loop (.exit 0) (sp 34 [(4, .s (.slc (some (2, 0)) N (some N)))]) 3 [(2, some (bQm (rbS f b n w N N)))]] [2] rfl rfl ?_ (.inl rfl) (EndOK.by rfl ⟨rfl, trivial⟩ rfl rfl rfl rfl)
  simp only [true_and, and_true, and_assoc, by4]
  refine ⟨by kernel_rfl, call0 hu rfl, by omega, by omega, by omega, ?_⟩
  refine Ex.turns hm [1, 3, 4, 5] [0, 1, 2] N (fun k => sp 34 [(1, .s (.ptr (some (0, 0)))), (3, .s (.slc (some (1, 0)) N (some N))), (4, .s (.slc (some (2, 0)) N (some N))), (5, .s (.int .i64 ((k : Nat) : Int)))])
    (fun k => [(0, some { cells := f.c, ty := 26 }), (1, some (bU (mL b n w))), (2, some (bQm (rbS f b n w N k)))]) (by omega) rfl rfl (fun k => ⟨rfl, rfl⟩) ?_ [4] [2] (by simp) ⟨rfl, rfl⟩ ⟨[.dec false], _, _, _, _, _, rfl, ?_, rfl, rfl⟩
  · intro k hk
    have hld := hmv k hk
    have hst := rbS_step f b n w N k hk
    have hlen := rbS_length f b n w N k (by omega)
    refine ⟨[.dec true, .lazy [.idx k, .val (.s (.int .u64 ((mv b n w k : Nat) : Int))), .call [] [.s (.int .i64 f.wd)] [] (.s (.int .u64 ((2 ^ (8 * w) - 1 : Nat) : Int))) 0 [], .idx k, .cells (rbS f b n w N (k + 1))] [], .num ((k + 1 : Nat) : Int)], _, _, _, _, _, rfl, ?_, rfl, rfl⟩
    simp only [true_and, and_true, and_assoc, and_self, imp_self, implies_true, decide_eq_true_eq, i64_wrap]
    repeat' apply And.intro
    all_goals first
      | exact True.intro
      | omega
      | exact hst
      | exact fun h => ⟨h, hld⟩
      | exact fun h => hld
      | exact fun h => ⟨h, h, hk⟩
      | exact fun h => ⟨h, by omega⟩
      | exact fun h => ⟨by kernel_rfl, call0 hfm rfl⟩
      | exact fun h => ⟨h, by kernel_rfl, call0 hfm rfl⟩
      | (show k + 1 ≤ (rbS _ _ _ _ _ _).length; omega)
      | (with_reducible show _ = true; kernel_rfl)
  · simp only [decide_eq_false_iff_not, and_true, true_and]; omega

/-! ### Equal -/
def bQr (l : List S) (g : Nat) : Bl := { cells := l, ty := 4, more := true, ro := true, sym := true, flat := true, gh := some (g, 1) }
def bQmr (l : List S) : Bl := { cells := l, ty := 4, ro := true, sym := true, flat := true }
theorem equalB_s (f : Fsp) (b w n N : Nat) (hN : N ≤ 1000) :
    SC Try.prog 39 [.s (.sla 0 1 N), .s (.slc (some (2, 0)) N (some N))] 3 [(0, some (bQr (rbC f b n w N) 1)), (2, some (bQmr (rbC f b n w N)))] (.s (.bool true)) 3 [(0, some (bQr (rbC f b n w N) 1)), (2, some (bQmr (rbC f b n w N)))] := by
  refine SC.run hm Try.func39 rfl [.dec false, .loop (.exit 0) (sp 26 []) 3 [(0, some (bQr (rbC f b n w N) 1)), (2, some (bQmr (rbC f b n w N)))]] [] rfl rfl ?_ (.inl rfl) (EndOK.by rfl ⟨rfl, rfl, trivial⟩ rfl rfl rfl rfl)
  simp only [true_and, and_true, and_assoc, bne_eq_false_iff_eq]
  refine Ex.turns hm [0, 1, 5] [0, 2] N (fun k => sp 26 [(0, .s (.sla 0 1 N)), (1, .s (.slc (some (2, 0)) N (some N))), (5, .s (.int .i64 ((k : Nat) : Int)))]) (fun k => [(0, some (bQr (rbC f b n w N) 1)), (2, some (bQmr (rbC f b n w N)))]) (by omega) rfl rfl (fun k => ⟨rfl, rfl⟩) ?_ [] [0, 2] (by simp) ⟨rfl, rfl⟩ ⟨[.dec false], _, _, _, _, _, rfl, ?_, rfl, rfl⟩
  · intro k hk
    have h1 : ldAt false 1 (bQr (rbC f b n w N) 1) k = some (.s (.bool (rbV f b n w k))) := by simp only [ldAt, bQr, rbC_get f b n w hk]
    have h2 : ldAt false 1 (bQmr (rbC f b n w N)) k = some (.s (.bool (rbV f b n w k))) := by simp only [ldAt, bQmr, rbC_get f b n w hk]
    refine ⟨[.dec true, .idx k, .val (.s (.bool (rbV f b n w k))), .idx k, .val (.s (.bool (rbV f b n w k))), .dec false, .num ((k + 1 : Nat) : Int)], _, _, _, _, _, rfl, ?_, rfl, rfl⟩
    simp only [true_and, and_true, and_assoc, decide_eq_true_eq, ne_eq, i64_wrap, beq_self_eq_true, Bool.not_true]
    repeat' apply And.intro
    all_goals first
      | exact True.intro
      | omega
      | exact h1
      | exact h2
      | (with_reducible show _ = true; kernel_rfl)
  · simp only [decide_eq_false_iff_not, and_true, true_and]; omega

theorem equal_nilE : SC Try.prog 15 [.s (.slc none 0 (some 0)), .s (.slc (some (0, 0)) 0 (some 0))] 1 [] (.s (.bool true)) 1 [] := by
  refine SC.run hm Try.func15 rfl [.dec false, .loop (.exit 0) (sp 26 []) 1 []] [] rfl rfl ?_ (.inl rfl) (EndOK.plain rfl no_mem rfl rfl)
  simp only [true_and, and_true, and_assoc, bne_eq_false_iff_eq]
  refine Ex.turns hm [0, 1, 5] [] 0 (fun k => sp 26 [(0, .s (.slc none 0 (some 0))), (1, .s (.slc (some (0, 0)) 0 (some 0))), (5, .s (.int .i64 ((k : Nat) : Int)))]) (fun _ => []) (by omega) rfl rfl (fun _ => ⟨rfl, rfl⟩) ?_ [] [] (by simp) ⟨rfl, rfl⟩ ⟨[.dec false], _, _, _, _, _, rfl, ?_, rfl, rfl⟩
  · intro k hk; omega
  · simp only [decide_eq_false_iff_not, and_true, true_and]; decide
theorem equalB_nilE : SC Try.prog 39 [.s (.slc none 0 (some 0)), .s (.slc (some (0, 0)) 0 (some 0))] 1 [] (.s (.bool true)) 1 [] := by
  refine SC.run hm Try.func39 rfl [.dec false, .loop (.exit 0) (sp 26 []) 1 []] [] rfl rfl ?_ (.inl rfl) (EndOK.plain rfl no_mem rfl rfl)
  simp only [true_and, and_true, and_assoc, bne_eq_false_iff_eq]
  refine Ex.turns hm [0, 1, 5] [] 0 (fun k => sp 26 [(0, .s (.slc none 0 (some 0))), (1, .s (.slc (some (0, 0)) 0 (some 0))), (5, .s (.int .i64 ((k : Nat) : Int)))]) (fun _ => []) (by omega) rfl rfl (fun _ => ⟨rfl, rfl⟩) ?_ [] [] (by simp) ⟨rfl, rfl⟩ ⟨[.dec false], _, _, _, _, _, rfl, ?_, rfl, rfl⟩
  · intro k hk; omega
  · simp only [decide_eq_false_iff_not, and_true, true_and]; decide
theorem equalA_nil : SC Try.prog 37 [.s (.slc none 0 (some 0)), .s (.slc none 0 (some 0))] 0 [] (.s (.bool true)) 0 [] := by
  refine SC.run hm Try.func37 rfl [.dec false, .loop (.exit 0) (sp 26 []) 0 []] [] rfl rfl ?_ (.inl rfl) (EndOK.plain rfl no_mem rfl rfl)
  simp only [true_and, and_true, and_assoc, bne_eq_false_iff_eq]
  refine Ex.turns hm [0, 1, 5] [] 0 (fun k => sp 26 [(0, .s (.slc none 0 (some 0))), (1, .s (.slc none 0 (some 0))), (5, .s (.int .i64 ((k : Nat) : Int)))]) (fun _ => []) (by omega) rfl rfl (fun _ => ⟨rfl, rfl⟩) ?_ [] [] (by simp) ⟨rfl, rfl⟩ ⟨[.dec false], _, _, _, _, _, rfl, ?_, rfl, rfl⟩
  · intro k hk; omega
  · simp only [decide_eq_false_iff_not, and_true, true_and]; decide

end Go.Proofs.Ytgnidbokllmhhaa
