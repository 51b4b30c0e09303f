/-
  table; Encode (both sides).
-/
import Derived.Test.YtmkemodgbhaglaaDoorSe
set_option linter.unusedSimpArgs false
set_option linter.unusedVariables false
namespace Go.Proofs.YtmkemodgbhaglaaDoor
open Go Ab
set_option maxRecDepth 100000

def tabM (t : Tb) : Tb := if modM t.rv 5 = 4 then t else ⟨(match modM ((t.sg.length : Nat) : Int) 4 with | 0 => [68, 83, 68, 84] | 1 => [83, 83, 68, 84] | 2 => [65, 49, 66, 50] | _ => [82, 83, 68, 84]), ((modM t.rv 256 : Nat) : Int), t.om.take (min t.om.length 6), t.bd.take (min t.bd.length 2000)⟩
theorem tab_fit {t : Tb} (h : t.fit) : (tabM t).fit := by
  have h1 := h.om
  have h2 := h.bd
  unfold tabM
  split
  · exact h
  · have : modM t.rv 256 < 256 := Nat.mod_lt _ (by decide)
    refine ⟨?_, by simp; omega, by simp; omega, by show -9223372036854775808 ≤ ((modM t.rv 256 : Nat) : Int); omega, by show ((modM t.rv 256 : Nat) : Int) ≤ _; omega⟩
    show List.length (match modM ((t.sg.length : Nat) : Int) 4 with | 0 => _ | 1 => _ | 2 => _ | _ => _) < _
    split <;> simp
theorem table_s (t : Tb) (h : t.fit) : SC Tryd.prog 11 [tV t] 0 [] (tV (tabM t)) 0 [] := by
  have h1 := h.om
  have h2 := h.bd
  have h3 := h.sg
  have g1 := mod_s t.rv 5 (by decide) (by decide)
  have g2 := mod_s ((t.sg.length : Nat) : Int) 4 (by decide) (by decide)
  have g3 := mod_s t.rv 256 (by decide) (by decide)
  by_cases h5 : modM t.rv 5 = 4
  · rw [show tabM t = t by simp [tabM, h5]]
    refine SC.run hm Tryd.func11 rfl [.call [] [.s (.int .i64 t.rv), iN 5] [] (iN (modM t.rv 5)) 0 [], .dec true] [] rfl rfl ?_ (.inl rfl) (EndOK.plain rfl no_mem rfl rfl)
    simp only [true_and, and_true, and_assoc, decide_eq_true_eq, decide_eq_false_iff_not, ne_eq, beq_iff_eq, beq_eq_false_iff_ne, bne_eq_false_iff_eq, bne_iff_ne, bne_self_eq_false, beq_self_eq_true]
    repeat' apply And.intro
    all_goals first
      | exact True.intro
      | exact call0 g1 rfl
      | (with_reducible show _ = true; kernel_rfl)
      | (with_reducible exact rfl)
      | omega
      | (simp only [List.length_cons, List.length_nil]; omega)
      | decide
  · have hk : modM ((t.sg.length : Nat) : Int) 4 < 4 := Nat.mod_lt _ (by decide)
    have hk : modM ((t.sg.length : Nat) : Int) 4 = 0 ∨ modM ((t.sg.length : Nat) : Int) 4 = 1 ∨ modM ((t.sg.length : Nat) : Int) 4 = 2 ∨ modM ((t.sg.length : Nat) : Int) 4 = 3 := by omega
    rcases hk with hk | hk | hk | hk <;> rw [hk] at g2
    · rw [show tabM t = ⟨[68, 83, 68, 84], ((modM t.rv 256 : Nat) : Int), t.om.take (min t.om.length 6), t.bd.take (min t.bd.length 2000)⟩ by simp only [tabM, if_neg h5, hk]]
      refine SC.run hm Tryd.func11 rfl [.call [] [.s (.int .i64 t.rv), iN 5] [] (iN (modM t.rv 5)) 0 [], .dec false, .call [] [iN t.sg.length, iN 4] [] (iN 0) 0 [], .idx 0, .call [] [.s (.int .i64 t.rv), iN 256] [] (iN (modM t.rv 256)) 0 [], .num ((min t.om.length 6 : Nat) : Int), .idx (min t.om.length 6), .num ((min t.bd.length 2000 : Nat) : Int), .idx (min t.bd.length 2000)] [] rfl rfl ?_ (.inl rfl) (EndOK.plain rfl no_mem rfl rfl)
      simp only [true_and, and_true, and_assoc, decide_eq_true_eq, decide_eq_false_iff_not, ne_eq, beq_iff_eq, beq_eq_false_iff_ne, bne_eq_false_iff_eq, bne_iff_ne, bne_self_eq_false, beq_self_eq_true]
      repeat' apply And.intro
      all_goals first
        | exact True.intro
        | exact call0 g1 rfl
        | exact call0 g2 rfl
        | exact call0 g3 rfl
        | (split <;> omega)
        | (with_reducible show _ = true; kernel_rfl)
        | (with_reducible exact rfl)
        | omega
        | (simp only [List.length_cons, List.length_nil]; omega)
        | decide
    · rw [show tabM t = ⟨[83, 83, 68, 84], ((modM t.rv 256 : Nat) : Int), t.om.take (min t.om.length 6), t.bd.take (min t.bd.length 2000)⟩ by simp only [tabM, if_neg h5, hk]]
      refine SC.run hm Tryd.func11 rfl [.call [] [.s (.int .i64 t.rv), iN 5] [] (iN (modM t.rv 5)) 0 [], .dec false, .call [] [iN t.sg.length, iN 4] [] (iN 1) 0 [], .idx 1, .call [] [.s (.int .i64 t.rv), iN 256] [] (iN (modM t.rv 256)) 0 [], .num ((min t.om.length 6 : Nat) : Int), .idx (min t.om.length 6), .num ((min t.bd.length 2000 : Nat) : Int), .idx (min t.bd.length 2000)] [] rfl rfl ?_ (.inl rfl) (EndOK.plain rfl no_mem rfl rfl)
      simp only [true_and, and_true, and_assoc, decide_eq_true_eq, decide_eq_false_iff_not, ne_eq, beq_iff_eq, beq_eq_false_iff_ne, bne_eq_false_iff_eq, bne_iff_ne, bne_self_eq_false, beq_self_eq_true]
      repeat' apply And.intro
      all_goals first
        | exact True.intro
        | exact call0 g1 rfl
        | exact call0 g2 rfl
        | exact call0 g3 rfl
        | (split <;> omega)
        | (with_reducible show _ = true; kernel_rfl)
        | (with_reducible exact rfl)
        | omega
        | (simp only [List.length_cons, List.length_nil]; omega)
        | decide
    · rw [show tabM t = ⟨[65, 49, 66, 50], ((modM t.rv 256 : Nat) : Int), t.om.take (min t.om.length 6), t.bd.take (min t.bd.length 2000)⟩ by simp only [tabM, if_neg h5, hk]]
      refine SC.run hm Tryd.func11 rfl [.call [] [.s (.int .i64 t.rv), iN 5] [] (iN (modM t.rv 5)) 0 [], .dec false, .call [] [iN t.sg.length, iN 4] [] (iN 2) 0 [], .idx 2, .call [] [.s (.int .i64 t.rv), iN 256] [] (iN (modM t.rv 256)) 0 [], .num ((min t.om.length 6 : Nat) : Int), .idx (min t.om.length 6), .num ((min t.bd.length 2000 : Nat) : Int), .idx (min t.bd.length 2000)] [] rfl rfl ?_ (.inl rfl) (EndOK.plain rfl no_mem rfl rfl)
      simp only [true_and, and_true, and_assoc, decide_eq_true_eq, decide_eq_false_iff_not, ne_eq, beq_iff_eq, beq_eq_false_iff_ne, bne_eq_false_iff_eq, bne_iff_ne, bne_self_eq_false, beq_self_eq_true]
      repeat' apply And.intro
      all_goals first
        | exact True.intro
        | exact call0 g1 rfl
        | exact call0 g2 rfl
        | exact call0 g3 rfl
        | (split <;> omega)
        | (with_reducible show _ = true; kernel_rfl)
        | (with_reducible exact rfl)
        | omega
        | (simp only [List.length_cons, List.length_nil]; omega)
        | decide
    · rw [show tabM t = ⟨[82, 83, 68, 84], ((modM t.rv 256 : Nat) : Int), t.om.take (min t.om.length 6), t.bd.take (min t.bd.length 2000)⟩ by simp only [tabM, if_neg h5, hk]]
      refine SC.run hm Tryd.func11 rfl [.call [] [.s (.int .i64 t.rv), iN 5] [] (iN (modM t.rv 5)) 0 [], .dec false, .call [] [iN t.sg.length, iN 4] [] (iN 3) 0 [], .idx 3, .call [] [.s (.int .i64 t.rv), iN 256] [] (iN (modM t.rv 256)) 0 [], .num ((min t.om.length 6 : Nat) : Int), .idx (min t.om.length 6), .num ((min t.bd.length 2000 : Nat) : Int), .idx (min t.bd.length 2000)] [] rfl rfl ?_ (.inl rfl) (EndOK.plain rfl no_mem rfl rfl)
      simp only [true_and, and_true, and_assoc, decide_eq_true_eq, decide_eq_false_iff_not, ne_eq, beq_iff_eq, beq_eq_false_iff_ne, bne_eq_false_iff_eq, bne_iff_ne, bne_self_eq_false, beq_self_eq_true]
      repeat' apply And.intro
      all_goals first
        | exact True.intro
        | exact call0 g1 rfl
        | exact call0 g2 rfl
        | exact call0 g3 rfl
        | (split <;> omega)
        | (with_reducible show _ = true; kernel_rfl)
        | (with_reducible exact rfl)
        | omega
        | (simp only [List.length_cons, List.length_nil]; omega)
        | decide
theorem fd {n k b : Nat} (hk : k ≤ b) : Int.fdiv ((n : Nat) : Int) (2 ^ min k b) = ((n / 2 ^ k : Nat) : Int) := by
  rw [Nat.min_eq_left hk, Int.fdiv_eq_ediv_of_nonneg _ (Int.le_of_lt (Int.pow_pos (by decide)))]; simp
theorem u8m (n : Nat) : IntKind.u8.wrap ((n : Nat) : Int) = ((n % 256 : Nat) : Int) := by rw [u8_wrap]; omega
theorem le4_cells (n : Nat) : byteS (le4 n) = [.int .u8 ((n % 256 : Nat) : Int), .int .u8 ((n / 2 ^ 8 % 256 : Nat) : Int), .int .u8 ((n / 2 ^ 16 % 256 : Nat) : Int), .int .u8 ((n / 2 ^ 24 % 256 : Nat) : Int)] := by
  simp only [byteS, le4, List.map_cons, List.map_nil, bt_nat]
theorem four_s (n : Nat) (h : n < 9223372036854775808) : SC Tryd.prog 31 [iN n] 0 [] (sV (le4 n)) 0 [] := by
  refine SC.run hm Tryd.func31 rfl [.num ((n % 256 : Nat) : Int), .num ((n / 2 ^ 8 : Nat) : Int), .num ((n / 2 ^ 8 % 256 : Nat) : Int), .num ((n / 2 ^ 16 : Nat) : Int), .num ((n / 2 ^ 16 % 256 : Nat) : Int), .num ((n / 2 ^ 24 : Nat) : Int), .num ((n / 2 ^ 24 % 256 : Nat) : Int), .val (sV (le4 n))] [] rfl rfl ?_ (.inl rfl) (EndOK.plain rfl no_mem rfl rfl)
  simp only [true_and, and_true, and_assoc]
  repeat' apply And.intro
  all_goals first
    | exact True.intro
    | exact u8m _
    | exact fd (k := 8) (by decide)
    | exact fd (k := 16) (by decide)
    | exact fd (k := 24) (by decide)
    | exact (le4_cells n).symm
    | (with_reducible show _ = true; kernel_rfl)
    | (with_reducible exact rfl)
    | decide
    | rfl
theorem sum_zero (a b : By) : sumN (a ++ [0] ++ b) = sumN (a ++ b) := by
  unfold sumN; rw [tot_app, tot_app, tot_app]; simp [tot]
theorem bt_cell (n : Nat) (h : n < 256) : byteS [bt n] = [.int .u8 ((n : Nat) : Int)] := by
  simp only [byteS, List.map_cons, List.map_nil, bt_nat, Nat.mod_eq_of_lt h]
theorem neg_cell (n : Nat) (h : n < 256) : IntKind.u8.wrap (0 - ((n : Nat) : Int)) = (((negB n).toNat : Nat) : Int) := by
  rw [u8_wrap, negB, bt_nat]; omega
theorem one_cell (c : UInt8) : byteS [c] = [.int .u8 ((c.toNat : Nat) : Int)] := rfl
theorem take0 {k : Nat} (h : k ≤ 6) : List.take k [(0 : UInt8), 0, 0, 0, 0, 0] = List.replicate k 0 := by
  have : k = 0 ∨ k = 1 ∨ k = 2 ∨ k = 3 ∨ k = 4 ∨ k = 5 ∨ k = 6 := by omega
  rcases this with e | e | e | e | e | e | e <;> subst e <;> rfl
def encV (t : Tb) : V := match validB t with | true => .tup [.s (.str (encB t)), .s (.int .i64 0)] | false => .tup [.s (.str []), .s (.int .i64 1)]
theorem renc_s (t : Tb) (h : t.fit) : SC Tryd.prog 17 [tV t] 0 [] (encV t) 0 [] := by
  have g1 := rvalid_s t h
  cases hv : validB t with
  | false =>
    rw [hv] at g1
    rw [show encV t = .tup [.s (.str []), .s (.int .i64 1)] by simp only [encV, hv]]
    refine SC.run hm Tryd.func17 rfl [.call [] [tV t] [] (bV false) 0 []] [] rfl rfl ?_ (.inl rfl) (EndOK.plain rfl no_mem rfl rfl)
    simp only [true_and, and_true, and_assoc, decide_eq_true_eq, decide_eq_false_iff_not, ne_eq, beq_iff_eq, beq_eq_false_iff_ne, bne_eq_false_iff_eq, bne_iff_ne, bne_self_eq_false, beq_self_eq_true]
    repeat' apply And.intro
    all_goals first
      | exact True.intro
      | exact call0 g1 rfl
      | (with_reducible show _ = true; kernel_rfl)
      | (with_reducible exact rfl)
      | omega
      | (simp only [List.length_cons, List.length_nil]; omega)
      | decide
  | true =>
    rw [hv] at g1
    obtain ⟨v1, v2, v3, v4, v5, v6⟩ := valid_parts hv
    have hs := sig_len v1
    have gf := four_s (16 + t.bd.length) (by omega)
    have hfl := front_len hs
    have hbl := back_len v4
    have gs := rsum_s (front t ++ back t) (by rw [List.length_append, hfl, hbl]; omega)
    have hsm := sumN_lt (front t ++ back t)
    have hr : (((t.rv.toNat : Nat)) : Int) = t.rv := by omega
    have e : encB t = t.sg ++ le4 (16 + t.bd.length) ++ [bt t.rv.toNat] ++ [negB (sumN (front t ++ back t))] ++ (t.om ++ List.take (6 - t.om.length) [0, 0, 0, 0, 0, 0] ++ t.bd) := by
      rw [take0 (by omega)]; rfl
    have eb : back t = t.om ++ List.take (6 - t.om.length) [0, 0, 0, 0, 0, 0] ++ t.bd := by rw [take0 (by omega)]; rfl
    rw [show encV t = .tup [.s (.str (encB t)), .s (.int .i64 0)] by simp only [encV, hv], e]
    refine SC.run hm Tryd.func17 rfl [.call [] [tV t] [] (bV true) 0 [], .num ((16 + t.bd.length : Nat) : Int), .call [] [iN (16 + t.bd.length)] [] (sV (le4 (16 + t.bd.length))) 0 [], .num ((t.rv.toNat : Nat) : Int), .val (sV [bt t.rv.toNat]), .num ((6 - t.om.length : Nat) : Int), .idx (6 - t.om.length), .call [] [sV (front t ++ (t.om ++ List.take (6 - t.om.length) [0, 0, 0, 0, 0, 0] ++ t.bd))] [] (n8 (sumN (front t ++ back t))) 0 [], .num (((negB (sumN (front t ++ back t))).toNat : Nat) : Int), .val (sV [negB (sumN (front t ++ back t))])] [] rfl rfl ?_ (.inl rfl) (EndOK.plain rfl no_mem rfl rfl)
    have l4 : ∀ k, (le4 k).length = 4 := fun _ => rfl
    simp only [true_and, and_true, and_assoc, List.length_append, List.length_take, List.length_cons, List.length_nil, hs, l4]
    have gs' := gs
    rw [eb] at gs'
    rw [← eb] at gs'
    repeat' apply And.intro
    all_goals first
      | exact True.intro
      | exact call0 g1 rfl
      | exact call0 gf rfl
      | exact call0 (by rw [← eb]; exact gs) rfl
      | exact neg_cell _ hsm
      | exact (bt_cell _ (by omega)).symm
      | exact (one_cell _).symm
      | (with_reducible show _ = true; kernel_rfl)
      | (with_reducible exact rfl)
      | (rw [i64_in] <;> omega)
      | (rw [u8_in] <;> omega)
      | omega
      | decide
      | rfl

end Go.Proofs.YtmkemodgbhaglaaDoor
