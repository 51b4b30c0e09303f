/-
  Valid and its helpers, both sides; trailing zeros.
-/
import Derived.Test.YtmkemodgbhaglaaDoorSb
set_option linter.unusedSimpArgs false
set_option linter.unusedVariables false
namespace Go.Proofs.YtmkemodgbhaglaaDoor
open Go Ab
set_option maxRecDepth 100000

def tV (t : Tb) : V := .agg [.str t.sg, .int .i64 t.rv, .str t.om, .str t.bd]
/-- lengths that fit an int -/
structure Tb.fit (t : Tb) : Prop where
  sg : t.sg.length < 9223372036854775808
  om : t.om.length < 9223372036854775808
  bd : t.bd.length < 9223372036854775808
  r1 : -9223372036854775808 ≤ t.rv
  r2 : t.rv ≤ 9223372036854775807
theorem last_drop {s : By} (h : s ≠ []) : (s.drop (s.length - 1) = [0]) ↔ lastZ s = true := by
  have hl : s.length - 1 < s.length := by have := List.length_pos_iff.2 h; omega
  rw [List.drop_eq_getElem_cons hl, show s.length - 1 + 1 = s.length by omega, List.drop_length]
  unfold lastZ
  rw [List.getD_eq_getElem?_getD, List.getElem?_eq_getElem hl]
  simp only [Option.getD_some, ne_eq, h, not_false_eq_true, decide_true, Bool.true_and, List.cons.injEq, and_true]
  constructor
  · intro e; rw [e]; rfl
  · intro e
    have := Nat.eq_of_beq_eq_true e
    exact UInt8.toNat_inj.1 (by rw [this]; rfl)
theorem last_nil : lastZ [] = false := rfl
theorem len1 {s : By} (h : s ≠ []) (hl : s.length < 9223372036854775808) : IntKind.i64.wrap (((s.length : Nat) : Int) - 1) = ((s.length - 1 : Nat) : Int) := by
  have := List.length_pos_iff.2 h
  rw [i64_in] <;> omega
theorem suf0_s (s : By) (hl : s.length < 9223372036854775808) : SC Tryd.prog 40 [sV s, sV [0]] 0 [] (bV (lastZ s)) 0 [] := by
  by_cases h : s = []
  · subst h
    refine SC.run hm Tryd.func40 rfl [.dec false] [] rfl rfl ?_ (.inl rfl) (EndOK.plain rfl no_mem rfl rfl)
    simp only [true_and, and_true]
    decide
  · have hp := List.length_pos_iff.2 h
    have hd := last_drop h
    cases hz : lastZ s with
    | true =>
      refine SC.run hm Tryd.func40 rfl [.dec true, .num ((s.length - 1 : Nat) : Int), .idx (s.length - 1), .dec true] [] rfl rfl ?_ (.inl rfl) (EndOK.plain rfl no_mem rfl rfl)
      have h2 := hd.2 hz
      simp only [true_and, and_true, and_assoc, decide_eq_true_eq, decide_eq_false_iff_not, ne_eq, beq_iff_eq, beq_eq_false_iff_ne, bne_eq_false_iff_eq, bne_iff_ne, bne_self_eq_false, beq_self_eq_true]
      repeat' apply And.intro
      all_goals first
        | exact True.intro
        | exact len1 h hl
        | exact h2
        | exact decide_eq_true h2
        | (with_reducible show _ = true; kernel_rfl)
        | (with_reducible exact rfl)
        | omega
        | (simp only [List.length_cons, List.length_nil]; omega)
        | decide
    | false =>
      refine SC.run hm Tryd.func40 rfl [.dec true, .num ((s.length - 1 : Nat) : Int), .idx (s.length - 1), .dec false] [] rfl rfl ?_ (.inl rfl) (EndOK.plain rfl no_mem rfl rfl)
      have h2 : ¬ (s.drop (s.length - 1) = [0]) := fun e => by rw [hd.1 e] at hz; cases hz
      simp only [true_and, and_true, and_assoc, decide_eq_true_eq, decide_eq_false_iff_not, ne_eq, beq_iff_eq, beq_eq_false_iff_ne, bne_eq_false_iff_eq, bne_iff_ne, bne_self_eq_false, beq_self_eq_true]
      repeat' apply And.intro
      all_goals first
        | exact True.intro
        | exact len1 h hl
        | exact h2
        | exact decide_eq_false h2
        | (with_reducible show _ = true; kernel_rfl)
        | (with_reducible exact rfl)
        | omega
        | (simp only [List.length_cons, List.length_nil]; omega)
        | decide
theorem suf_s (s : By) (hl : s.length < 9223372036854775808) : SC Tryd.prog 34 [sV s, sV [0]] 0 [] (bV (lastZ s)) 0 [] := by
  have g := suf0_s s hl
  refine SC.run hm Tryd.func34 rfl [.call [] [sV s, sV [0]] [] (bV (lastZ s)) 0 []] [] rfl rfl ?_ (.inl rfl) (EndOK.plain rfl no_mem rfl rfl)
  simp only [true_and, and_true, and_assoc]
  exact ⟨by kernel_rfl, call0 g rfl⟩
theorem valid_s (t : Tb) (h : t.fit) : SC Tryd.prog 25 [tV t] 0 [] (bV (validB t)) 0 [] := by
  have g1 := sig_s t.sg h.sg
  have hl := h.om
  have g2 := suf_s t.om h.om
  cases h1 : sigOK t.sg with
  | false =>
    rw [h1] at g1
    rw [show validB t = false by simp [validB, h1]]
    refine SC.run hm Tryd.func25 rfl [.call [] [sV t.sg] [] (bV false) 0 []] [] rfl rfl ?_ (.inl rfl) (EndOK.plain rfl no_mem rfl rfl)
    simp only [true_and, and_true, and_assoc, decide_eq_true_eq, decide_eq_false_iff_not, ne_eq, beq_iff_eq, beq_eq_false_iff_ne, bne_eq_false_iff_eq, bne_iff_ne, bne_self_eq_false, beq_self_eq_true]
    repeat' apply And.intro
    all_goals first
      | exact True.intro
      | exact call0 g1 rfl
      | exact call0 g2 rfl
      | (with_reducible show _ = true; kernel_rfl)
      | (with_reducible exact rfl)
      | omega
      | (simp only [List.length_cons, List.length_nil]; omega)
      | decide
  | true =>
    rw [h1] at g1
    by_cases h2 : 0 ≤ t.rv
    · by_cases h3 : t.rv ≤ 255
      · by_cases h4 : t.om.length ≤ 6
        · cases h5 : lastZ t.om with
          | true =>
            rw [show validB t = false by simp [validB, h5]]
            rw [h5] at g2
            refine SC.run hm Tryd.func25 rfl [.call [] [sV t.sg] [] (bV true) 0 [], .dec true, .dec true, .dec true, .call [] [sV t.om, sV [0]] [] (bV true) 0 []] [] rfl rfl ?_ (.inl rfl) (EndOK.plain rfl no_mem rfl rfl)
            simp only [true_and, and_true, and_assoc, decide_eq_true_eq, decide_eq_false_iff_not, ne_eq, beq_iff_eq, beq_eq_false_iff_ne, bne_eq_false_iff_eq, bne_iff_ne, bne_self_eq_false, beq_self_eq_true]
            repeat' apply And.intro
            all_goals first
              | exact True.intro
              | exact call0 g1 rfl
              | exact call0 g2 rfl
              | (with_reducible show _ = true; kernel_rfl)
              | (with_reducible exact rfl)
              | omega
              | (simp only [List.length_cons, List.length_nil]; omega)
              | decide
          | false =>
            by_cases h6 : t.bd.length ≤ 65536
            · rw [show validB t = true by simp [validB, h1, h2, h3, h4, h5, h6]]
              rw [h5] at g2
              refine SC.run hm Tryd.func25 rfl [.call [] [sV t.sg] [] (bV true) 0 [], .dec true, .dec true, .dec true, .call [] [sV t.om, sV [0]] [] (bV false) 0 [], .dec true] [] rfl rfl ?_ (.inl rfl) (EndOK.plain rfl no_mem rfl rfl)
              simp only [true_and, and_true, and_assoc, decide_eq_true_eq, decide_eq_false_iff_not, ne_eq, beq_iff_eq, beq_eq_false_iff_ne, bne_eq_false_iff_eq, bne_iff_ne, bne_self_eq_false, beq_self_eq_true]
              repeat' apply And.intro
              all_goals first
                | exact True.intro
                | exact call0 g1 rfl
                | exact call0 g2 rfl
                | (with_reducible show _ = true; kernel_rfl)
                | (with_reducible exact rfl)
                | omega
                | (simp only [List.length_cons, List.length_nil]; omega)
                | decide
            · rw [show validB t = false by simp [validB, h1, h2, h3, h4, h5, h6]]
              rw [h5] at g2
              refine SC.run hm Tryd.func25 rfl [.call [] [sV t.sg] [] (bV true) 0 [], .dec true, .dec true, .dec true, .call [] [sV t.om, sV [0]] [] (bV false) 0 [], .dec false] [] rfl rfl ?_ (.inl rfl) (EndOK.plain rfl no_mem rfl rfl)
              simp only [true_and, and_true, and_assoc, decide_eq_true_eq, decide_eq_false_iff_not, ne_eq, beq_iff_eq, beq_eq_false_iff_ne, bne_eq_false_iff_eq, bne_iff_ne, bne_self_eq_false, beq_self_eq_true]
              repeat' apply And.intro
              all_goals first
                | exact True.intro
                | exact call0 g1 rfl
                | exact call0 g2 rfl
                | (with_reducible show _ = true; kernel_rfl)
                | (with_reducible exact rfl)
                | omega
                | (simp only [List.length_cons, List.length_nil]; omega)
                | decide
        · rw [show validB t = false by simp [validB, h4]]
          refine SC.run hm Tryd.func25 rfl [.call [] [sV t.sg] [] (bV true) 0 [], .dec true, .dec true, .dec false] [] rfl rfl ?_ (.inl rfl) (EndOK.plain rfl no_mem rfl rfl)
          simp only [true_and, and_true, and_assoc, decide_eq_true_eq, decide_eq_false_iff_not, ne_eq, beq_iff_eq, beq_eq_false_iff_ne, bne_eq_false_iff_eq, bne_iff_ne, bne_self_eq_false, beq_self_eq_true]
          repeat' apply And.intro
          all_goals first
            | exact True.intro
            | exact call0 g1 rfl
            | exact call0 g2 rfl
            | (with_reducible show _ = true; kernel_rfl)
            | (with_reducible exact rfl)
            | omega
            | (simp only [List.length_cons, List.length_nil]; omega)
            | decide
      · rw [show validB t = false by simp [validB, h3]]
        refine SC.run hm Tryd.func25 rfl [.call [] [sV t.sg] [] (bV true) 0 [], .dec true, .dec false] [] rfl rfl ?_ (.inl rfl) (EndOK.plain rfl no_mem rfl rfl)
        simp only [true_and, and_true, and_assoc, decide_eq_true_eq, decide_eq_false_iff_not, ne_eq, beq_iff_eq, beq_eq_false_iff_ne, bne_eq_false_iff_eq, bne_iff_ne, bne_self_eq_false, beq_self_eq_true]
        repeat' apply And.intro
        all_goals first
          | exact True.intro
          | exact call0 g1 rfl
          | exact call0 g2 rfl
          | (with_reducible show _ = true; kernel_rfl)
          | (with_reducible exact rfl)
          | omega
          | (simp only [List.length_cons, List.length_nil]; omega)
          | decide
    · rw [show validB t = false by simp [validB, h2]]
      refine SC.run hm Tryd.func25 rfl [.call [] [sV t.sg] [] (bV true) 0 [], .dec false] [] rfl rfl ?_ (.inl rfl) (EndOK.plain rfl no_mem rfl rfl)
      simp only [true_and, and_true, and_assoc, decide_eq_true_eq, decide_eq_false_iff_not, ne_eq, beq_iff_eq, beq_eq_false_iff_ne, bne_eq_false_iff_eq, bne_iff_ne, bne_self_eq_false, beq_self_eq_true]
      repeat' apply And.intro
      all_goals first
        | exact True.intro
        | exact call0 g1 rfl
        | exact call0 g2 rfl
        | (with_reducible show _ = true; kernel_rfl)
        | (with_reducible exact rfl)
        | omega
        | (simp only [List.length_cons, List.length_nil]; omega)
        | decide
theorem rvalid_s (t : Tb) (h : t.fit) : SC Tryd.prog 14 [tV t] 0 [] (bV (validB t)) 0 [] := by
  have g1 := rsig_s t.sg h.sg
  have hl := h.om
  cases h1 : sigOK t.sg with
  | false =>
    rw [h1] at g1
    rw [show validB t = false by simp [validB, h1]]
    refine SC.run hm Tryd.func14 rfl [.call [] [sV t.sg] [] (bV false) 0 []] [] rfl rfl ?_ (.inl rfl) (EndOK.plain rfl no_mem rfl rfl)
    simp only [true_and, and_true, and_assoc, decide_eq_true_eq, decide_eq_false_iff_not, ne_eq, beq_iff_eq, beq_eq_false_iff_ne, bne_eq_false_iff_eq, bne_iff_ne, bne_self_eq_false, beq_self_eq_true]
    repeat' apply And.intro
    all_goals first
      | exact True.intro
      | exact call0 g1 rfl
      | (with_reducible show _ = true; kernel_rfl)
      | (with_reducible exact rfl)
      | omega
      | (simp only [List.length_cons, List.length_nil]; omega)
      | decide
  | true =>
    rw [h1] at g1
    by_cases h2 : 0 ≤ t.rv
    · by_cases h3 : t.rv ≤ 255
      · by_cases h4 : t.om.length ≤ 6
        · cases h5 : lastZ t.om with
          | true =>
            rw [show validB t = false by simp [validB, h5]]
            have hne : t.om ≠ [] := fun e => by rw [e] at h5; cases h5
            have hp := List.length_pos_iff.2 hne
            have hz : (t.om.getD (t.om.length - 1) 0).toNat = 0 := by simp only [lastZ, Bool.and_eq_true] at h5; exact Nat.eq_of_beq_eq_true h5.2
            refine SC.run hm Tryd.func14 rfl [.call [] [sV t.sg] [] (bV true) 0 [], .dec true, .dec true, .dec true, .dec false, .num ((t.om.length - 1 : Nat) : Int), .idx (t.om.length - 1), .dec false] [] rfl rfl ?_ (.inl rfl) (EndOK.plain rfl no_mem rfl rfl)
            simp only [true_and, and_true, and_assoc, decide_eq_true_eq, decide_eq_false_iff_not, ne_eq, beq_iff_eq, beq_eq_false_iff_ne, bne_eq_false_iff_eq, bne_iff_ne, bne_self_eq_false, beq_self_eq_true]
            repeat' apply And.intro
            all_goals first
              | exact True.intro
              | exact call0 g1 rfl
              | exact len1 hne hl
              | exact hne
              | exact decide_eq_false hne
              | (rw [hz]; rfl)
              | (with_reducible show _ = true; kernel_rfl)
              | (with_reducible exact rfl)
              | omega
              | (simp only [List.length_cons, List.length_nil]; omega)
              | decide
          | false =>
            by_cases h6 : t.bd.length ≤ 65536
            · rw [show validB t = true by simp [validB, h1, h2, h3, h4, h5, h6]]
              by_cases hne : t.om = []
              · have h0 : t.om.length = 0 := by rw [hne]; rfl
                refine SC.run hm Tryd.func14 rfl [.call [] [sV t.sg] [] (bV true) 0 [], .dec true, .dec true, .dec true, .dec true, .dec true] [] rfl rfl ?_ (.inl rfl) (EndOK.plain rfl no_mem rfl rfl)
                simp only [true_and, and_true, and_assoc, decide_eq_true_eq, decide_eq_false_iff_not, ne_eq, beq_iff_eq, beq_eq_false_iff_ne, bne_eq_false_iff_eq, bne_iff_ne, bne_self_eq_false, beq_self_eq_true]
                repeat' apply And.intro
                all_goals first
                  | exact True.intro
                  | exact call0 g1 rfl
                  | exact hne
                  | exact decide_eq_true hne
                  | (with_reducible show _ = true; kernel_rfl)
                  | (with_reducible exact rfl)
                  | omega
                  | (simp only [List.length_cons, List.length_nil]; omega)
                  | decide
              · have hp := List.length_pos_iff.2 hne
                have hz : (t.om.getD (t.om.length - 1) 0).toNat ≠ 0 := fun e => by
                  have : lastZ t.om = true := by unfold lastZ; rw [e]; simp [hne]
                  rw [this] at h5; cases h5
                refine SC.run hm Tryd.func14 rfl [.call [] [sV t.sg] [] (bV true) 0 [], .dec true, .dec true, .dec true, .dec false, .num ((t.om.length - 1 : Nat) : Int), .idx (t.om.length - 1), .dec true, .dec true] [] rfl rfl ?_ (.inl rfl) (EndOK.plain rfl no_mem rfl rfl)
                simp only [true_and, and_true, and_assoc, decide_eq_true_eq, decide_eq_false_iff_not, ne_eq, beq_iff_eq, beq_eq_false_iff_ne, bne_eq_false_iff_eq, bne_iff_ne, bne_self_eq_false, beq_self_eq_true]
                repeat' apply And.intro
                all_goals first
                  | exact True.intro
                  | exact call0 g1 rfl
                  | exact len1 hne hl
                  | exact hne
                  | exact decide_eq_false hne
                  | (with_reducible show _ = true; kernel_rfl)
                  | (with_reducible exact rfl)
                  | omega
                  | (simp only [List.length_cons, List.length_nil]; omega)
                  | decide
            · rw [show validB t = false by simp [validB, h1, h2, h3, h4, h5, h6]]
              by_cases hne : t.om = []
              · have h0 : t.om.length = 0 := by rw [hne]; rfl
                refine SC.run hm Tryd.func14 rfl [.call [] [sV t.sg] [] (bV true) 0 [], .dec true, .dec true, .dec true, .dec true, .dec false] [] rfl rfl ?_ (.inl rfl) (EndOK.plain rfl no_mem rfl rfl)
                simp only [true_and, and_true, and_assoc, decide_eq_true_eq, decide_eq_false_iff_not, ne_eq, beq_iff_eq, beq_eq_false_iff_ne, bne_eq_false_iff_eq, bne_iff_ne, bne_self_eq_false, beq_self_eq_true]
                repeat' apply And.intro
                all_goals first
                  | exact True.intro
                  | exact call0 g1 rfl
                  | exact hne
                  | exact decide_eq_true hne
                  | (with_reducible show _ = true; kernel_rfl)
                  | (with_reducible exact rfl)
                  | omega
                  | (simp only [List.length_cons, List.length_nil]; omega)
                  | decide
              · have hp := List.length_pos_iff.2 hne
                have hz : (t.om.getD (t.om.length - 1) 0).toNat ≠ 0 := fun e => by
                  have : lastZ t.om = true := by unfold lastZ; rw [e]; simp [hne]
                  rw [this] at h5; cases h5
                refine SC.run hm Tryd.func14 rfl [.call [] [sV t.sg] [] (bV true) 0 [], .dec true, .dec true, .dec true, .dec false, .num ((t.om.length - 1 : Nat) : Int), .idx (t.om.length - 1), .dec true, .dec false] [] rfl rfl ?_ (.inl rfl) (EndOK.plain rfl no_mem rfl rfl)
                simp only [true_and, and_true, and_assoc, decide_eq_true_eq, decide_eq_false_iff_not, ne_eq, beq_iff_eq, beq_eq_false_iff_ne, bne_eq_false_iff_eq, bne_iff_ne, bne_self_eq_false, beq_self_eq_true]
                repeat' apply And.intro
                all_goals first
                  | exact True.intro
                  | exact call0 g1 rfl
                  | exact len1 hne hl
                  | exact hne
                  | exact decide_eq_false hne
                  | (with_reducible show _ = true; kernel_rfl)
                  | (with_reducible exact rfl)
                  | omega
                  | (simp only [List.length_cons, List.length_nil]; omega)
                  | decide
        · rw [show validB t = false by simp [validB, h4]]
          refine SC.run hm Tryd.func14 rfl [.call [] [sV t.sg] [] (bV true) 0 [], .dec true, .dec true, .dec false] [] rfl rfl ?_ (.inl rfl) (EndOK.plain rfl no_mem rfl rfl)
          simp only [true_and, and_true, and_assoc, decide_eq_true_eq, decide_eq_false_iff_not, ne_eq, beq_iff_eq, beq_eq_false_iff_ne, bne_eq_false_iff_eq, bne_iff_ne, bne_self_eq_false, beq_self_eq_true]
          repeat' apply And.intro
          all_goals first
            | exact True.intro
            | exact call0 g1 rfl
            | (with_reducible show _ = true; kernel_rfl)
            | (with_reducible exact rfl)
            | omega
            | (simp only [List.length_cons, List.length_nil]; omega)
            | decide
      · rw [show validB t = false by simp [validB, h3]]
        refine SC.run hm Tryd.func14 rfl [.call [] [sV t.sg] [] (bV true) 0 [], .dec true, .dec false] [] rfl rfl ?_ (.inl rfl) (EndOK.plain rfl no_mem rfl rfl)
        simp only [true_and, and_true, and_assoc, decide_eq_true_eq, decide_eq_false_iff_not, ne_eq, beq_iff_eq, beq_eq_false_iff_ne, bne_eq_false_iff_eq, bne_iff_ne, bne_self_eq_false, beq_self_eq_true]
        repeat' apply And.intro
        all_goals first
          | exact True.intro
          | exact call0 g1 rfl
          | (with_reducible show _ = true; kernel_rfl)
          | (with_reducible exact rfl)
          | omega
          | (simp only [List.length_cons, List.length_nil]; omega)
          | decide
    · rw [show validB t = false by simp [validB, h2]]
      refine SC.run hm Tryd.func14 rfl [.call [] [sV t.sg] [] (bV true) 0 [], .dec false] [] rfl rfl ?_ (.inl rfl) (EndOK.plain rfl no_mem rfl rfl)
      simp only [true_and, and_true, and_assoc, decide_eq_true_eq, decide_eq_false_iff_not, ne_eq, beq_iff_eq, beq_eq_false_iff_ne, bne_eq_false_iff_eq, bne_iff_ne, bne_self_eq_false, beq_self_eq_true]
      repeat' apply And.intro
      all_goals first
        | exact True.intro
        | exact call0 g1 rfl
        | (with_reducible show _ = true; kernel_rfl)
        | (with_reducible exact rfl)
        | omega
        | (simp only [List.length_cons, List.length_nil]; omega)
        | decide

end Go.Proofs.YtmkemodgbhaglaaDoor
