/-
  value.Valid, field.fit, FromValue, ToValue, ref.Integer, ref.ToValue: what they compute.
-/
import Derived.Test.YtgnidbokllmhhaaLrt
set_option linter.unusedSimpArgs false
set_option linter.unusedVariables false
namespace Go.Proofs.Ytgnidbokllmhhaa
open Go Ab
set_option maxRecDepth 100000

theorem pvalid_s (x : Vl) : SC Try.prog 42 [x.v] 0 [] (.s (.bool (vv x))) 0 [] := by
  by_cases k2 : x.k = 2
  · rw [show vv x = decide (((x.s.length : Nat) : Int) ≤ 255) by unfold vv; simp [k2]]
    refine SC.run hm Try.func42 rfl [.dec true, .keep] [] rfl rfl ?_ (.inl rfl) (EndOK.plain rfl no_mem rfl rfl)
    simp only [true_and, and_true, and_assoc, beq_eq_false_iff_ne, beq_iff_eq, ne_eq]
    repeat' apply And.intro
    all_goals first | exact True.intro | omega
  by_cases k3 : x.k = 3
  · rw [show vv x = decide (((x.s.length : Nat) : Int) ≤ 255) by unfold vv; simp [k3]]
    refine SC.run hm Try.func42 rfl [.dec false, .dec true, .keep] [] rfl rfl ?_ (.inl rfl) (EndOK.plain rfl no_mem rfl rfl)
    simp only [true_and, and_true, and_assoc, beq_eq_false_iff_ne, beq_iff_eq, ne_eq]
    repeat' apply And.intro
    all_goals first | exact True.intro | omega
  by_cases k0 : x.k = 0
  · rw [show vv x = true by unfold vv; simp [k0]]
    refine SC.run hm Try.func42 rfl [.dec false, .dec false, .dec true] [] rfl rfl ?_ (.inl rfl) (EndOK.plain rfl no_mem rfl rfl)
    simp only [true_and, and_true, and_assoc, beq_eq_false_iff_ne, beq_iff_eq, ne_eq]
    repeat' apply And.intro
    all_goals first | exact True.intro | omega
  by_cases k1 : x.k = 1
  · rw [show vv x = true by unfold vv; simp [k1]]
    refine SC.run hm Try.func42 rfl [.dec false, .dec false, .dec false, .dec true] [] rfl rfl ?_ (.inl rfl) (EndOK.plain rfl no_mem rfl rfl)
    simp only [true_and, and_true, and_assoc, beq_eq_false_iff_ne, beq_iff_eq, ne_eq]
    repeat' apply And.intro
    all_goals first | exact True.intro | omega
  by_cases k4 : x.k = 4
  · rw [show vv x = true by unfold vv; simp [k4]]
    refine SC.run hm Try.func42 rfl [.dec false, .dec false, .dec false, .dec false, .dec true] [] rfl rfl ?_ (.inl rfl) (EndOK.plain rfl no_mem rfl rfl)
    simp only [true_and, and_true, and_assoc, beq_eq_false_iff_ne, beq_iff_eq, ne_eq]
    repeat' apply And.intro
    all_goals first | exact True.intro | omega
  by_cases k5 : x.k = 5
  · rw [show vv x = true by unfold vv; simp [k5]]
    refine SC.run hm Try.func42 rfl [.dec false, .dec false, .dec false, .dec false, .dec false, .dec true] [] rfl rfl ?_ (.inl rfl) (EndOK.plain rfl no_mem rfl rfl)
    simp only [true_and, and_true, and_assoc, beq_eq_false_iff_ne, beq_iff_eq, ne_eq]
    repeat' apply And.intro
    all_goals first | exact True.intro | omega
  by_cases k6 : x.k = 6
  · rw [show vv x = true by unfold vv; simp [k6]]
    refine SC.run hm Try.func42 rfl [.dec false, .dec false, .dec false, .dec false, .dec false, .dec false, .dec true] [] rfl rfl ?_ (.inl rfl) (EndOK.plain rfl no_mem rfl rfl)
    simp only [true_and, and_true, and_assoc, beq_eq_false_iff_ne, beq_iff_eq, ne_eq]
    repeat' apply And.intro
    all_goals first | exact True.intro | omega
  rw [show vv x = false by unfold vv; simp only [Bool.and_eq_false_iff, decide_eq_false_iff_not]; left; omega]
  refine SC.run hm Try.func42 rfl [.dec false, .dec false, .dec false, .dec false, .dec false, .dec false, .dec false] [] rfl rfl ?_ (.inl rfl) (EndOK.plain rfl no_mem rfl rfl)
  simp only [true_and, and_true, and_assoc, beq_eq_false_iff_ne, beq_iff_eq, ne_eq]
  repeat' apply And.intro
  all_goals first | exact True.intro | omega

/-! ### fit -/
def cpL (s : List UInt8) (N : Nat) : List Nat := (List.range N).map fun i => (s.getD i 0).toNat
theorem cpL_length (s : List UInt8) (N : Nat) : (cpL s N).length = N := by simp [cpL]
theorem cpL_getD (s : List UInt8) (N i : Nat) : (cpL s N).getD i 0 = if i < N then (s.getD i 0).toNat else 0 := by
  unfold cpL
  rw [List.getD_eq_getElem?_getD, List.getElem?_map]
  by_cases h : i < N
  · rw [List.getElem?_range h, if_pos h]; rfl
  · rw [List.getElem?_eq_none (by simp; omega), if_neg h]; rfl
theorem cpL_lt (s : List UInt8) (N i : Nat) : (cpL s N).getD i 0 < 256 := by
  rw [cpL_getD]; split
  · exact UInt8.toNat_lt _
  · decide
theorem cpL_cells (s : List UInt8) (N : Nat) : cB (cpL s N) = setL (rep N [.int .u8 0]) 0 (byteS (s.take (min s.length N))) := by
  rw [cB_rep]
  have hl : (byteS (s.take (min s.length N))).length = min s.length N := by simp [byteS]
  rw [setL_front _ _ (by rw [hl, cB_length, List.length_replicate]; exact Nat.min_le_right _ _), hl]
  apply List.ext_getElem?
  intro i
  by_cases h : i < N
  · have e1 : (cB (cpL s N))[i]? = some (.int .u8 (((s.getD i 0).toNat : Nat) : Int)) := by
      rw [cB_get (by rw [cpL_length]; exact h), cpL_getD, if_pos h]
    rw [e1]
    by_cases h2 : i < s.length
    · rw [List.getElem?_append_left (by rw [hl]; omega)]
      simp [byteS, List.getElem?_take, h, h2]
      omega
    · rw [List.getElem?_append_right (by rw [hl]; omega), hl, List.getElem?_drop]
      have e2 : s.getD i 0 = 0 := by rw [List.getD_eq_getElem?_getD, List.getElem?_eq_none (by omega)]; rfl
      rw [e2, cB_get (by rw [List.length_replicate]; omega), rep_getD]; rfl
  · rw [List.getElem?_eq_none (by rw [cB_length, cpL_length]; omega), List.getElem?_eq_none (by simp only [List.length_append, List.length_drop, hl, cB_length, List.length_replicate]; omega)]

theorem fvK_bit (n : Nat) (s : List UInt8) (i j : Nat) : ((fvK n s n).getD i 0).testBit j = true ↔ j < 8 ∧ 8 * i + j < n ∧ sb s (8 * i + j) = true := by
  unfold fvK
  rw [orK_bit, rep_getD, List.length_replicate]
  constructor
  · rintro (h | ⟨_, m, h1, h2, h3, h4⟩)
    · simp at h
    · have : m = 8 * i + j := by omega
      subst this
      exact ⟨by omega, h1, h2⟩
  · rintro ⟨h1, h2, h3⟩
    exact .inr ⟨by omega, 8 * i + j, h2, h3, by omega, by omega⟩
theorem sb_at (s : List UInt8) (i j : Nat) (h : j < 8) : sb s (8 * i + j) = (s.getD i 0).toNat.testBit j := by
  unfold sb; rw [show (8 * i + j) / 8 = i by omega, show (8 * i + j) % 8 = j by omega]
theorem byte_bit (c : UInt8) {j : Nat} (h : 8 ≤ j) : c.toNat.testBit j = false :=
  Nat.testBit_lt_two_pow (Nat.lt_of_lt_of_le (UInt8.toNat_lt c) (Nat.pow_le_pow_right (by decide) h))
theorem fit_full {n : Nat} (s : List UInt8) (h : n % 8 = 0) : cpL s ((n + 7) / 8) = fvK n s n := by
  refine list_ext (by rw [cpL_length, fvK_length]) fun i j hi => ?_
  rw [cpL_length] at hi
  rw [cpL_getD, if_pos hi, fvK_bit]
  constructor
  · intro hb
    have hj : j < 8 := by
      rcases Nat.lt_or_ge j 8 with h | h
      · exact h
      · rw [byte_bit _ h] at hb; cases hb
    exact ⟨hj, by omega, by rw [sb_at _ _ _ hj]; exact hb⟩
  · rintro ⟨hj, _, hb⟩
    rw [sb_at _ _ _ hj] at hb; exact hb
theorem fit_cut {n : Nat} (s : List UInt8) (h : 0 < n % 8) : (cpL s ((n + 7) / 8)).set ((n + 7) / 8 - 1) ((cpL s ((n + 7) / 8)).getD ((n + 7) / 8 - 1) 0 &&& (2 ^ (n % 8) - 1)) = fvK n s n := by
  refine list_ext (by rw [List.length_set, cpL_length, fvK_length]) fun i j hi => ?_
  rw [List.length_set, cpL_length] at hi
  rw [getD_set, cpL_length, fvK_bit]
  by_cases e : (n + 7) / 8 - 1 = i
  · rw [if_pos ⟨e, by omega⟩, e, cpL_getD, if_pos hi, Nat.testBit_and, Nat.testBit_two_pow_sub_one, Bool.and_eq_true, decide_eq_true_eq]
    constructor
    · rintro ⟨hb, hj⟩
      exact ⟨by omega, by omega, by rw [sb_at _ _ _ (by omega)]; exact hb⟩
    · rintro ⟨hj, h2, hb⟩
      rw [sb_at _ _ _ hj] at hb
      exact ⟨hb, by omega⟩
  · rw [if_neg (fun h => e h.1), cpL_getD, if_pos hi]
    constructor
    · intro hb
      have hj : j < 8 := by
        rcases Nat.lt_or_ge j 8 with h | h
        · exact h
        · rw [byte_bit _ h] at hb; cases hb
      exact ⟨hj, by omega, by rw [sb_at _ _ _ hj]; exact hb⟩
    · rintro ⟨hj, _, hb⟩
      rw [sb_at _ _ _ hj] at hb; exact hb

theorem byteS_noPtr (l : List UInt8) : (byteS l).all noPtr = true := by
  rw [List.all_eq_true]
  intro x hx
  obtain ⟨y, _, rfl⟩ := List.mem_map.1 hx
  rfl
theorem sz5 : ∀ h, (Try.prog.types[5]'h).size = 1 := fun _ => rfl
theorem by5 : ∀ h, (Try.prog.types[5]'h).bytes = 1 := fun _ => rfl

set_option maxHeartbeats 1000000 in
theorem pfit_s (f : Fsp) (n : Nat) (eln : f.ln = n) (hn1 : 1 ≤ n) (hn2 : n ≤ 256) (s : List UInt8) : SC Try.prog 43 [f.v, .s (.str s)] 0 [] (.s (.str (fvS n s))) 0 [] := by
  have e8 : Int.tmod f.ln 8 = ((n % 8 : Nat) : Int) := by rw [eln]; rfl
  have hN : (n + 7) / 8 ≤ 40 := by omega
  have hcp := cpL_cells s ((n + 7) / 8)
  have hq := quoN (n + 7) 8 (by omega)
  by_cases h : n % 8 = 0
  · refine SC.run hm Try.func43 rfl [.num ((n + 7 : Nat) : Int), .num (((n + 7) / 8 : Nat) : Int), .idx ((n + 7) / 8), .idx ((n + 7) / 8), .idx (min s.length ((n + 7) / 8)), .cells (cB (cpL s ((n + 7) / 8))), .num ((n % 8 : Nat) : Int), .dec false, .val (.s (.str (fvS n s)))] [] rfl rfl ?_ (.inl rfl) (EndOK.plain rfl no_mem rfl rfl)
    simp only [true_and, and_true, and_assoc, decide_eq_false_iff_not, ne_eq, i64_wrap, sz5, by5, e8]
    repeat' apply And.intro
    all_goals first
      | exact True.intro
      | omega
      | with_reducible exact hcp
      | with_reducible exact hq
      | (show (byteS _).all noPtr = true; exact byteS_noPtr _)
      | (show _ ≤ (rep _ _).length; rw [rep_length]; simp; omega)
      | (rw [List.drop_zero, fit_full s h, List.take_of_length_le (by rw [cB_length, fvK_length]; omega)]; exact (byteS_toB (fvK_lt n _ n)).symm)
      | (rw [fvS_length])
      | (with_reducible show _ = true; kernel_rfl)
  · have hlast : (n + 7) / 8 - 1 < (cpL s ((n + 7) / 8)).length := by rw [cpL_length]; omega
    have hld : ldAt false 1 ({ cells := cB (cpL s ((n + 7) / 8)), ty := 5, sym := true, flat := true } : Bl) ((n + 7) / 8 - 1) = some (.s (.int .u8 (((cpL s ((n + 7) / 8)).getD ((n + 7) / 8 - 1) 0 : Nat) : Int))) := ldB hlast
    have hy := cpL_lt s ((n + 7) / 8) ((n + 7) / 8 - 1)
    have hfc := fit_cut s (show 0 < n % 8 by omega)
    have hst := cB_set (cpL s ((n + 7) / 8)) ((n + 7) / 8 - 1) ((cpL s ((n + 7) / 8)).getD ((n + 7) / 8 - 1) 0 &&& (2 ^ (n % 8) - 1))
    rw [hfc] at hst
    have hclen : (n + 7) / 8 - 1 + 1 ≤ (cB (cpL s ((n + 7) / 8))).length := by rw [cB_length]; omega
    generalize (cpL s ((n + 7) / 8)).getD ((n + 7) / 8 - 1) 0 = y at *
    have hp : 2 ^ (n % 8) < 2 ^ 8 := Nat.pow_lt_pow_right (by decide) (by omega)
    have hp0 : 0 < 2 ^ (n % 8) := Nat.pow_pos (by decide)
    have e6 : (1 : Int) * 2 ^ min ((n % 8 : Nat) : Int).toNat IntKind.u8.bits = ((2 ^ (n % 8) : Nat) : Int) := by rw [show (1 : Int) = ((1 : Nat) : Int) from rfl, shlN _ _ (by simp only [IntKind.bits]; omega), Nat.one_mul]
    have e7 : bitV .and .u8 (y : Int) ((2 ^ (n % 8) - 1 : Nat) : Int) = ((y &&& (2 ^ (n % 8) - 1) : Nat) : Int) := and8 hy (by omega)
    refine SC.run hm Try.func43 rfl [.num ((n + 7 : Nat) : Int), .num (((n + 7) / 8 : Nat) : Int), .idx ((n + 7) / 8), .idx ((n + 7) / 8), .idx (min s.length ((n + 7) / 8)), .cells (cB (cpL s ((n + 7) / 8))), .num ((n % 8 : Nat) : Int), .dec true,
      .num (((n + 7) / 8 - 1 : Nat) : Int), .idx ((n + 7) / 8 - 1), .val (.s (.int .u8 ((y : Nat) : Int))), .num ((2 ^ (n % 8) : Nat) : Int), .num ((2 ^ (n % 8) - 1 : Nat) : Int), .num ((y &&& (2 ^ (n % 8) - 1) : Nat) : Int), .idx ((n + 7) / 8 - 1), .cells (cB (fvK n s n)), .val (.s (.str (fvS n s)))] [] rfl rfl ?_ (.inl rfl) (EndOK.plain rfl no_mem rfl rfl)
    simp only [true_and, and_true, and_assoc, decide_eq_true_eq, ne_eq, i64_wrap, u8_wrap, sz5, by5, e8, e6, e7]
    repeat' apply And.intro
    all_goals first
      | exact True.intro
      | omega
      | with_reducible exact hcp
      | with_reducible exact hq
      | (generalize 2 ^ (n % 8) = pw at *; omega)
      | (show (byteS _).all noPtr = true; exact byteS_noPtr _)
      | (show _ ≤ (rep _ _).length; rw [rep_length]; simp; omega)
      | (rw [List.drop_zero, List.take_of_length_le (by rw [cB_length, fvK_length]; omega)]; exact (byteS_toB (fvK_lt n _ n)).symm)
      | (rw [fvS_length])
      | (with_reducible show _ = true; kernel_rfl)
      | exact hld
      | exact hst
      | exact hclen

end Go.Proofs.Ytgnidbokllmhhaa
