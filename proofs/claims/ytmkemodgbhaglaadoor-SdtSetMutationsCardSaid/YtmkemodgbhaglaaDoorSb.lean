/-
  Sum and the signatures, both sides.
-/
import Derived.Test.YtmkemodgbhaglaaDoorSa
import Derived.Test.YtmkemodgbhaglaaDoorRows
import Derived.KernelRfl
set_option linter.unusedSimpArgs false
set_option linter.unusedVariables false
namespace Go.Proofs.YtmkemodgbhaglaaDoor
open Go Ab
set_option maxRecDepth 100000

theorem hm : Tryd.prog.follows .mixedOrders = true := by decide +kernel
/-- the first loop's body -/
def fstLoop : Code → Option Code
  | .loop c => some c
  | .seq a b => match fstLoop a with | some c => some c | none => fstLoop b
  | .block _ c => fstLoop c
  | .cond _ a b => match fstLoop a with | some c => some c | none => fstLoop b
  | _ => none
def n8 (v : Nat) : V := .s (.int .u8 ((v : Nat) : Int))
def iN (v : Nat) : V := .s (.int .i64 ((v : Nat) : Int))
def sV (s : By) : V := .s (.str s)
def bV (b : Bool) : V := .s (.bool b)
theorem s_add (s : By) {j : Nat} (h : j < s.length) : IntKind.u8.wrap (((sumN (s.take j) : Nat) : Int) + (((s.getD j 0).toNat : Nat) : Int)) = ((sumN (s.take (j + 1)) : Nat) : Int) := by
  rw [← sum_step s h, u8_wrap]; omega
theorem j_add {j n : Nat} (h : j < n) (hn : n < 9223372036854775808) : IntKind.i64.wrap (((j : Nat) : Int) + 1) = ((j + 1 : Nat) : Int) := by rw [i64_in] <;> omega
theorem j_lt {j n : Nat} (h : j < n) : ((j : Nat) : Int) < ((n : Nat) : Int) := by omega
theorem sum_s (s : By) (hl : s.length < 9223372036854775808) : SC Tryd.prog 12 [sV s] 0 [] (n8 (sumN s)) 0 [] := by
  have hr : ∀ j, j < s.length → Rnd Tryd.prog 0 ((Tryd.f12.body.bind fstLoop).getD .skip) [] [0, 3, 6, 7] (sp 17 [(0, sV s), (6, iN s.length), (3, n8 (sumN (s.take j))), (7, iN j)]) 0 [] (sp 17 [(0, sV s), (6, iN s.length), (3, n8 (sumN (s.take (j + 1)))), (7, iN (j + 1))]) [] := by
    intro j hj
    refine ⟨[.dec true, .idx j, .num ((sumN (s.take (j + 1)) : Nat) : Int), .num ((j + 1 : Nat) : Int)], _, _, _, _, _, rfl, ?_, rfl, trivial⟩
    simp only [true_and, and_true, and_assoc, decide_eq_true_eq, decide_eq_false_iff_not, ne_eq, beq_iff_eq, beq_eq_false_iff_ne, bne_eq_false_iff_eq, bne_iff_ne, bne_self_eq_false, beq_self_eq_true]
    repeat' apply And.intro
    all_goals first
      | exact True.intro
      | exact j_lt hj
      | exact hj
      | exact s_add s hj
      | exact j_add hj hl
      | (with_reducible show _ = true; kernel_rfl)
      | (with_reducible exact rfl)
      | omega
  have hL : Lst Tryd.prog 0 ((Tryd.f12.body.bind fstLoop).getD .skip) [] [0, 3, 6, 7] (sp 17 [(0, sV s), (6, iN s.length), (3, n8 (sumN (s.take s.length))), (7, iN s.length)]) 0 [] (.exit 0) (sp 17 [(0, sV s), (6, iN s.length), (3, n8 (sumN (s.take s.length))), (7, iN s.length)]) [] := by
    refine ⟨[.dec false], _, _, _, _, _, rfl, ?_, rfl, trivial⟩
    simp only [true_and, and_true, and_assoc, decide_eq_true_eq, decide_eq_false_iff_not, ne_eq, beq_iff_eq, beq_eq_false_iff_ne, bne_eq_false_iff_eq, bne_iff_ne, bne_self_eq_false, beq_self_eq_true]
    omega
  refine SC.run hm Tryd.func12 rfl [.loop (.exit 0) (sp 17 [(0, sV s), (6, iN s.length), (3, n8 (sumN (s.take s.length))), (7, iN s.length)]) 0 []] [] rfl rfl ?_ (.inl rfl) (EndOK.plain (by rw [← sum_full s]; rfl) no_mem rfl rfl)
  simp only [true_and, and_true, and_assoc, decide_eq_true_eq, decide_eq_false_iff_not, ne_eq, beq_iff_eq, beq_eq_false_iff_ne, bne_eq_false_iff_eq, bne_iff_ne, bne_self_eq_false, beq_self_eq_true]
  exact Ex.movesT hm [0, 3, 6, 7] s.length (fun j => (sp 17 [(0, sV s), (6, iN s.length), (3, n8 (sumN (s.take j))), (7, iN j)])) (fun _ => []) [] (fun _ => []) rfl (fun _ => rfl) rfl trivial rfl (fun _ => rfl) hr [0, 3, 6, 7] [] rfl (fun e => by cases e) rfl hL
theorem rsum_s (s : By) (hl : s.length < 9223372036854775808) : SC Tryd.prog 13 [sV s] 0 [] (n8 (sumN s)) 0 [] := by
  have hr : ∀ j, j < s.length → Rnd Tryd.prog 0 ((Tryd.f13.body.bind fstLoop).getD .skip) [] [0, 3, 4] (sp 17 [(0, sV s), (3, n8 (sumN (s.take j))), (4, iN j)]) 0 [] (sp 17 [(0, sV s), (3, n8 (sumN (s.take (j + 1)))), (4, iN (j + 1))]) [] := by
    intro j hj
    refine ⟨[.dec true, .idx j, .num ((sumN (s.take (j + 1)) : Nat) : Int), .num ((j + 1 : Nat) : Int)], _, _, _, _, _, rfl, ?_, rfl, trivial⟩
    simp only [true_and, and_true, and_assoc, decide_eq_true_eq, decide_eq_false_iff_not, ne_eq, beq_iff_eq, beq_eq_false_iff_ne, bne_eq_false_iff_eq, bne_iff_ne, bne_self_eq_false, beq_self_eq_true]
    repeat' apply And.intro
    all_goals first
      | exact True.intro
      | exact j_lt hj
      | exact hj
      | exact s_add s hj
      | exact j_add hj hl
      | (with_reducible show _ = true; kernel_rfl)
      | (with_reducible exact rfl)
      | omega
  have hL : Lst Tryd.prog 0 ((Tryd.f13.body.bind fstLoop).getD .skip) [] [0, 3, 4] (sp 17 [(0, sV s), (3, n8 (sumN (s.take s.length))), (4, iN s.length)]) 0 [] (.exit 0) (sp 17 [(0, sV s), (3, n8 (sumN (s.take s.length))), (4, iN s.length)]) [] := by
    refine ⟨[.dec false], _, _, _, _, _, rfl, ?_, rfl, trivial⟩
    simp only [true_and, and_true, and_assoc, decide_eq_true_eq, decide_eq_false_iff_not, ne_eq, beq_iff_eq, beq_eq_false_iff_ne, bne_eq_false_iff_eq, bne_iff_ne, bne_self_eq_false, beq_self_eq_true]
    omega
  refine SC.run hm Tryd.func13 rfl [.loop (.exit 0) (sp 17 [(0, sV s), (3, n8 (sumN (s.take s.length))), (4, iN s.length)]) 0 []] [] rfl rfl ?_ (.inl rfl) (EndOK.plain (by rw [← sum_full s]; rfl) no_mem rfl rfl)
  simp only [true_and, and_true, and_assoc, decide_eq_true_eq, decide_eq_false_iff_not, ne_eq, beq_iff_eq, beq_eq_false_iff_ne, bne_eq_false_iff_eq, bne_iff_ne, bne_self_eq_false, beq_self_eq_true]
  exact Ex.movesT hm [0, 3, 4] s.length (fun j => (sp 17 [(0, sV s), (3, n8 (sumN (s.take j))), (4, iN j)])) (fun _ => []) [] (fun _ => []) rfl (fun _ => rfl) rfl trivial rfl (fun _ => rfl) hr [0, 3, 4] [] rfl (fun e => by cases e) rfl hL
theorem sig_r (s : By) (h4 : s.length = 4) (j : Nat) (hj : j < 4) (hc : chOK (s.getD j 0) = true) : Rnd Tryd.prog 0 ((Tryd.f29.body.bind fstLoop).getD .skip) [] [0, 9, 10] (sp 32 [(0, sV s), (9, iN 4), (10, iN j)]) 0 [] (sp 32 [(0, sV s), (9, iN 4), (10, iN (j + 1))]) [] := by
  simp only [chOK, Bool.or_eq_true, Bool.and_eq_true, decide_eq_true_eq] at hc
  by_cases h1 : 65 ≤ (s.getD j 0).toNat ∧ (s.getD j 0).toNat ≤ 90
  · refine ⟨[.dec true, .idx j, .dec true, .dec true, .num ((j + 1 : Nat) : Int)], _, _, _, _, _, rfl, ?_, rfl, trivial⟩
    simp only [true_and, and_true, and_assoc, decide_eq_true_eq, decide_eq_false_iff_not, ne_eq, beq_iff_eq, beq_eq_false_iff_ne, bne_eq_false_iff_eq, bne_iff_ne, bne_self_eq_false, beq_self_eq_true]
    repeat' apply And.intro
    all_goals first
      | exact True.intro
      | (with_reducible show _ = true; kernel_rfl)
      | (with_reducible exact rfl)
      | omega
      | exact j_add (n := 4) (by omega) (by decide)
  · refine ⟨[.dec true, .idx j, .dec false, .dec true, .dec true, .num ((j + 1 : Nat) : Int)], _, _, _, _, _, rfl, ?_, rfl, trivial⟩
    simp only [true_and, and_true, and_assoc, decide_eq_true_eq, decide_eq_false_iff_not, ne_eq, beq_iff_eq, beq_eq_false_iff_ne, bne_eq_false_iff_eq, bne_iff_ne, bne_self_eq_false, beq_self_eq_true]
    repeat' apply And.intro
    all_goals first
      | exact True.intro
      | (with_reducible show _ = true; kernel_rfl)
      | (with_reducible exact rfl)
      | omega
      | exact j_add (n := 4) (by omega) (by decide)
theorem sig_l (s : By) (h4 : s.length = 4) : Lst Tryd.prog 0 ((Tryd.f29.body.bind fstLoop).getD .skip) [] [0, 9, 10] (sp 32 [(0, sV s), (9, iN 4), (10, iN 4)]) 0 [] (.exit 0) (sp 32 [(0, sV s), (9, iN 4), (10, iN 4)]) [] := by
  refine ⟨[.dec false], _, _, _, _, _, rfl, ?_, rfl, trivial⟩
  simp only [true_and, and_true, and_assoc, decide_eq_true_eq, decide_eq_false_iff_not, ne_eq, beq_iff_eq, beq_eq_false_iff_ne, bne_eq_false_iff_eq, bne_iff_ne, bne_self_eq_false, beq_self_eq_true]
  first | omega | decide
theorem sig_b (s : By) (h4 : s.length = 4) (j : Nat) (hj : j < 4) (hc : chOK (s.getD j 0) = false) : Lst Tryd.prog 0 ((Tryd.f29.body.bind fstLoop).getD .skip) [] [2] (sp 32 [(0, sV s), (9, iN 4), (10, iN j)]) 0 [] .ret (sp 32 [(2, bV false)]) [] := by
  simp only [chOK, Bool.or_eq_false_iff, Bool.and_eq_false_iff, decide_eq_false_iff_not] at hc
  by_cases h1 : 65 ≤ (s.getD j 0).toNat
  · refine ⟨[.dec true, .idx j, .dec true, .dec false, .dec true, .dec false], _, _, _, _, _, rfl, ?_, rfl, trivial⟩
    simp only [true_and, and_true, and_assoc, decide_eq_true_eq, decide_eq_false_iff_not, ne_eq, beq_iff_eq, beq_eq_false_iff_ne, bne_eq_false_iff_eq, bne_iff_ne, bne_self_eq_false, beq_self_eq_true]
    repeat' apply And.intro
    all_goals first
      | exact True.intro
      | (with_reducible show _ = true; kernel_rfl)
      | (with_reducible exact rfl)
      | omega
      | exact j_add (n := 4) (by omega) (by decide)
  · by_cases h2 : 48 ≤ (s.getD j 0).toNat
    · refine ⟨[.dec true, .idx j, .dec false, .dec true, .dec false], _, _, _, _, _, rfl, ?_, rfl, trivial⟩
      simp only [true_and, and_true, and_assoc, decide_eq_true_eq, decide_eq_false_iff_not, ne_eq, beq_iff_eq, beq_eq_false_iff_ne, bne_eq_false_iff_eq, bne_iff_ne, bne_self_eq_false, beq_self_eq_true]
      repeat' apply And.intro
      all_goals first
        | exact True.intro
        | (with_reducible show _ = true; kernel_rfl)
        | (with_reducible exact rfl)
        | omega
        | exact j_add (n := 4) (by omega) (by decide)
    · refine ⟨[.dec true, .idx j, .dec false, .dec false], _, _, _, _, _, rfl, ?_, rfl, trivial⟩
      simp only [true_and, and_true, and_assoc, decide_eq_true_eq, decide_eq_false_iff_not, ne_eq, beq_iff_eq, beq_eq_false_iff_ne, bne_eq_false_iff_eq, bne_iff_ne, bne_self_eq_false, beq_self_eq_true]
      repeat' apply And.intro
      all_goals first
        | exact True.intro
        | (with_reducible show _ = true; kernel_rfl)
        | (with_reducible exact rfl)
        | omega
        | exact j_add (n := 4) (by omega) (by decide)
theorem sig_s (s : By) (hl : s.length < 9223372036854775808) : SC Tryd.prog 29 [sV s] 0 [] (bV (sigOK s)) 0 [] := by
  by_cases h4 : s.length = 4
  · cases ha : s.all chOK with
    | true =>
      rw [show sigOK s = true by simp [sigOK, h4, ha]]
      have hok := all_upto s ha
      refine SC.run hm Tryd.func29 rfl [.dec false, .loop (.exit 0) (sp 32 [(0, sV s), (9, iN 4), (10, iN 4)]) 0 []] [] rfl rfl ?_ (.inl rfl) (EndOK.plain rfl no_mem rfl rfl)
      simp only [true_and, and_true, and_assoc, decide_eq_true_eq, decide_eq_false_iff_not, ne_eq, beq_iff_eq, beq_eq_false_iff_ne, bne_eq_false_iff_eq, bne_iff_ne, bne_self_eq_false, beq_self_eq_true]
      refine ⟨by omega, ?_⟩
      exact Ex.movesT hm [0, 9, 10] 4 (fun j => (sp 32 [(0, sV s), (9, iN 4), (10, iN j)])) (fun _ => []) [] (fun _ => []) rfl (fun _ => rfl) (by first | rfl | (rw [← h4]; rfl)) trivial rfl (fun _ => rfl) (fun j hj => sig_r s h4 j hj (hok j (by omega))) [0, 9, 10] [] rfl (fun e => by cases e) rfl (sig_l s h4)
    | false =>
      rw [show sigOK s = false by simp [sigOK, h4, ha]]
      obtain ⟨k, k1, k2, k3⟩ := bad_at s ha
      refine SC.run hm Tryd.func29 rfl [.dec false, .loop .ret (sp 32 [(2, bV false)]) 0 []] [] rfl rfl ?_ (.inl rfl) (EndOK.plain rfl no_mem rfl rfl)
      simp only [true_and, and_true, and_assoc, decide_eq_true_eq, decide_eq_false_iff_not, ne_eq, beq_iff_eq, beq_eq_false_iff_ne, bne_eq_false_iff_eq, bne_iff_ne, bne_self_eq_false, beq_self_eq_true]
      refine ⟨by omega, ?_⟩
      exact Ex.movesT hm [0, 9, 10] k (fun j => (sp 32 [(0, sV s), (9, iN 4), (10, iN j)])) (fun _ => []) [] (fun _ => []) rfl (fun _ => rfl) (by first | rfl | (rw [← h4]; rfl)) trivial rfl (fun _ => rfl) (fun j hj => sig_r s h4 j (by omega) (k2 j hj)) [2] [] rfl (fun e => by cases e) rfl (sig_b s h4 k (by omega) k3)
  · rw [show sigOK s = false by simp [sigOK, h4]]
    refine SC.run hm Tryd.func29 rfl [.dec true] [] rfl rfl ?_ (.inl rfl) (EndOK.plain rfl no_mem rfl rfl)
    simp only [true_and, and_true, and_assoc, decide_eq_true_eq, decide_eq_false_iff_not, ne_eq, beq_iff_eq, beq_eq_false_iff_ne, bne_eq_false_iff_eq, bne_iff_ne, bne_self_eq_false, beq_self_eq_true]
    omega
theorem rsig_r (s : By) (h4 : s.length = 4) (j : Nat) (hj : j < 4) (hc : chOK (s.getD j 0) = true) : Rnd Tryd.prog 0 ((Tryd.f26.body.bind fstLoop).getD .skip) [] [0, 3] (sp 33 [(0, sV s), (3, iN j)]) 0 [] (sp 33 [(0, sV s), (3, iN (j + 1))]) [] := by
  simp only [chOK, Bool.or_eq_true, Bool.and_eq_true, decide_eq_true_eq] at hc
  by_cases h1 : 65 ≤ (s.getD j 0).toNat ∧ (s.getD j 0).toNat ≤ 90
  · refine ⟨[.dec true, .idx j, .dec false, .idx j, .dec false, .num ((j + 1 : Nat) : Int)], _, _, _, _, _, rfl, ?_, rfl, trivial⟩
    simp only [true_and, and_true, and_assoc, decide_eq_true_eq, decide_eq_false_iff_not, ne_eq, beq_iff_eq, beq_eq_false_iff_ne, bne_eq_false_iff_eq, bne_iff_ne, bne_self_eq_false, beq_self_eq_true]
    repeat' apply And.intro
    all_goals first
      | exact True.intro
      | (with_reducible show _ = true; kernel_rfl)
      | (with_reducible exact rfl)
      | omega
      | exact j_add (n := 4) (by omega) (by decide)
  · refine ⟨[.dec true, .idx j, .dec true, .idx j, .dec false, .idx j, .dec false, .num ((j + 1 : Nat) : Int)], _, _, _, _, _, rfl, ?_, rfl, trivial⟩
    simp only [true_and, and_true, and_assoc, decide_eq_true_eq, decide_eq_false_iff_not, ne_eq, beq_iff_eq, beq_eq_false_iff_ne, bne_eq_false_iff_eq, bne_iff_ne, bne_self_eq_false, beq_self_eq_true]
    repeat' apply And.intro
    all_goals first
      | exact True.intro
      | (with_reducible show _ = true; kernel_rfl)
      | (with_reducible exact rfl)
      | omega
      | exact j_add (n := 4) (by omega) (by decide)
theorem rsig_l (s : By) (h4 : s.length = 4) : Lst Tryd.prog 0 ((Tryd.f26.body.bind fstLoop).getD .skip) [] [0, 3] (sp 33 [(0, sV s), (3, iN 4)]) 0 [] (.exit 0) (sp 33 [(0, sV s), (3, iN 4)]) [] := by
  refine ⟨[.dec false], _, _, _, _, _, rfl, ?_, rfl, trivial⟩
  simp only [true_and, and_true, and_assoc, decide_eq_true_eq, decide_eq_false_iff_not, ne_eq, beq_iff_eq, beq_eq_false_iff_ne, bne_eq_false_iff_eq, bne_iff_ne, bne_self_eq_false, beq_self_eq_true]
  first | omega | decide
theorem rsig_b (s : By) (h4 : s.length = 4) (j : Nat) (hj : j < 4) (hc : chOK (s.getD j 0) = false) : Lst Tryd.prog 0 ((Tryd.f26.body.bind fstLoop).getD .skip) [] [2] (sp 33 [(0, sV s), (3, iN j)]) 0 [] .ret (sp 33 [(2, bV false)]) [] := by
  simp only [chOK, Bool.or_eq_false_iff, Bool.and_eq_false_iff, decide_eq_false_iff_not] at hc
  by_cases h1 : 65 ≤ (s.getD j 0).toNat
  · refine ⟨[.dec true, .idx j, .dec false, .idx j, .dec true, .idx j, .dec false, .idx j, .dec true], _, _, _, _, _, rfl, ?_, rfl, trivial⟩
    simp only [true_and, and_true, and_assoc, decide_eq_true_eq, decide_eq_false_iff_not, ne_eq, beq_iff_eq, beq_eq_false_iff_ne, bne_eq_false_iff_eq, bne_iff_ne, bne_self_eq_false, beq_self_eq_true]
    repeat' apply And.intro
    all_goals first
      | exact True.intro
      | (with_reducible show _ = true; kernel_rfl)
      | (with_reducible exact rfl)
      | omega
      | exact j_add (n := 4) (by omega) (by decide)
  · by_cases h2 : 48 ≤ (s.getD j 0).toNat
    · refine ⟨[.dec true, .idx j, .dec true, .idx j, .dec false, .idx j, .dec true], _, _, _, _, _, rfl, ?_, rfl, trivial⟩
      simp only [true_and, and_true, and_assoc, decide_eq_true_eq, decide_eq_false_iff_not, ne_eq, beq_iff_eq, beq_eq_false_iff_ne, bne_eq_false_iff_eq, bne_iff_ne, bne_self_eq_false, beq_self_eq_true]
      repeat' apply And.intro
      all_goals first
        | exact True.intro
        | (with_reducible show _ = true; kernel_rfl)
        | (with_reducible exact rfl)
        | omega
        | exact j_add (n := 4) (by omega) (by decide)
    · refine ⟨[.dec true, .idx j, .dec true, .idx j, .dec true], _, _, _, _, _, rfl, ?_, rfl, trivial⟩
      simp only [true_and, and_true, and_assoc, decide_eq_true_eq, decide_eq_false_iff_not, ne_eq, beq_iff_eq, beq_eq_false_iff_ne, bne_eq_false_iff_eq, bne_iff_ne, bne_self_eq_false, beq_self_eq_true]
      repeat' apply And.intro
      all_goals first
        | exact True.intro
        | (with_reducible show _ = true; kernel_rfl)
        | (with_reducible exact rfl)
        | omega
        | exact j_add (n := 4) (by omega) (by decide)
theorem rsig_s (s : By) (hl : s.length < 9223372036854775808) : SC Tryd.prog 26 [sV s] 0 [] (bV (sigOK s)) 0 [] := by
  by_cases h4 : s.length = 4
  · cases ha : s.all chOK with
    | true =>
      rw [show sigOK s = true by simp [sigOK, h4, ha]]
      have hok := all_upto s ha
      refine SC.run hm Tryd.func26 rfl [.dec false, .loop (.exit 0) (sp 33 [(0, sV s), (3, iN 4)]) 0 []] [] rfl rfl ?_ (.inl rfl) (EndOK.plain rfl no_mem rfl rfl)
      simp only [true_and, and_true, and_assoc, decide_eq_true_eq, decide_eq_false_iff_not, ne_eq, beq_iff_eq, beq_eq_false_iff_ne, bne_eq_false_iff_eq, bne_iff_ne, bne_self_eq_false, beq_self_eq_true]
      refine ⟨by omega, ?_⟩
      exact Ex.movesT hm [0, 3] 4 (fun j => (sp 33 [(0, sV s), (3, iN j)])) (fun _ => []) [] (fun _ => []) rfl (fun _ => rfl) (by first | rfl | (rw [← h4]; rfl)) trivial rfl (fun _ => rfl) (fun j hj => rsig_r s h4 j hj (hok j (by omega))) [0, 3] [] rfl (fun e => by cases e) rfl (rsig_l s h4)
    | false =>
      rw [show sigOK s = false by simp [sigOK, h4, ha]]
      obtain ⟨k, k1, k2, k3⟩ := bad_at s ha
      refine SC.run hm Tryd.func26 rfl [.dec false, .loop .ret (sp 33 [(2, bV false)]) 0 []] [] rfl rfl ?_ (.inl rfl) (EndOK.plain rfl no_mem rfl rfl)
      simp only [true_and, and_true, and_assoc, decide_eq_true_eq, decide_eq_false_iff_not, ne_eq, beq_iff_eq, beq_eq_false_iff_ne, bne_eq_false_iff_eq, bne_iff_ne, bne_self_eq_false, beq_self_eq_true]
      refine ⟨by omega, ?_⟩
      exact Ex.movesT hm [0, 3] k (fun j => (sp 33 [(0, sV s), (3, iN j)])) (fun _ => []) [] (fun _ => []) rfl (fun _ => rfl) (by first | rfl | (rw [← h4]; rfl)) trivial rfl (fun _ => rfl) (fun j hj => rsig_r s h4 j (by omega) (k2 j hj)) [2] [] rfl (fun e => by cases e) rfl (rsig_b s h4 k (by omega) k3)
  · rw [show sigOK s = false by simp [sigOK, h4]]
    refine SC.run hm Tryd.func26 rfl [.dec true] [] rfl rfl ?_ (.inl rfl) (EndOK.plain rfl no_mem rfl rfl)
    simp only [true_and, and_true, and_assoc, decide_eq_true_eq, decide_eq_false_iff_not, ne_eq, beq_iff_eq, beq_eq_false_iff_ne, bne_eq_false_iff_eq, bne_iff_ne, bne_self_eq_false, beq_self_eq_true]
    omega

end Go.Proofs.YtmkemodgbhaglaaDoor
