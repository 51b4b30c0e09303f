/-
  field.Valid: what it computes.
-/
import Derived.Test.YtgnidbokllmhhaaLa
import Derived.KernelRfl
set_option linter.unusedSimpArgs false
set_option linter.unusedVariables false
namespace Go.Proofs.Ytgnidbokllmhhaa
open Go Ab
set_option maxRecDepth 100000

theorem tmodN (x y : Int) (h : 0 ≤ x) : x.tmod y = x % y := Int.tmod_eq_emod_of_nonneg h
theorem tdivN (x y : Int) (h : 0 ≤ x) (hy : 0 < y) (hx : x ≤ 18446744073709551615) : x.tdiv y % 18446744073709551616 = x / y := by
  rw [Int.tdiv_eq_ediv_of_nonneg h]
  have h1 := Int.ediv_nonneg h (Int.le_of_lt hy)
  have h2 := Int.ediv_le_self y h
  omega

def vld (f : Fsp) : Bool := vReg f.sp f.ba f.rl && decide ((f.wd = 1 ∨ f.wd = 2 ∨ f.wd = 4 ∨ f.wd = 8) ∧ (f.sp ≠ 3 ∨ f.wd = 1) ∧ f.ba % f.wd = 0 ∧ 0 ≤ f.up ∧ f.up ≤ 2 ∧ 0 ≤ f.bit ∧ 1 ≤ f.ln ∧ f.ln ≤ 256 ∧ (f.bit + f.ln - 1) / (8 * f.wd) < f.rl / f.wd)

set_option maxHeartbeats 8000000 in
theorem valid_s (f : Fsp) (hf : f.ok) : SC Try.prog 30 [f.v] 0 [] (.s (.bool (vld f))) 0 [] := by
  obtain ⟨⟨sp1, sp2⟩, ⟨ba1, ba2⟩, ⟨rl1, rl2⟩, ⟨bit1, bit2⟩, ⟨ln1, ln2⟩, ⟨wd1, wd2⟩, ⟨up1, up2⟩, _, _⟩ := hf
  obtain ⟨sp, ba, rl, bit, ln, wd, up, ix, da⟩ := f
  dsimp only at *
  have hr := validRegion_s sp ba rl ba1 ba2 rl1 rl2
  cases hv : vReg sp ba rl with
  | false =>
    rw [hv] at hr
    rw [show vld ⟨sp, ba, rl, bit, ln, wd, up, ix, da⟩ = false by simp only [vld, hv, Bool.false_and]]
    refine SC.run hm Try.func30 rfl [.call [] [.agg [.int .i64 sp, .int .u64 ba, .int .u64 rl]] [] (.s (.bool false)) 0 []] [] rfl rfl ?_ (.inl rfl) (EndOK.plain rfl no_mem rfl rfl)
    simp only [true_and, and_true, and_assoc, decide_eq_true_eq, decide_eq_false_iff_not, beq_iff_eq, bne_iff_ne, beq_eq_false_iff_ne, bne_eq_false_iff_eq, ne_eq, Decidable.not_not, u64_wrap, i64_wrap]
    repeat' apply And.intro
    all_goals first | omega | exact call0 hr rfl | (show _ = true; kernel_rfl)
  | true =>
    rw [hv] at hr
    by_cases w1 : wd = 1
    · subst w1
      have hu := unitBits_s ⟨sp, ba, rl, bit, ln, 1, up, ix, da⟩ (by simp) (by simp)
      by_cases s3 : sp = 3
      · by_cases m1 : ba % 1 = 0
        · by_cases t0 : up < 0
          · rw [show vld ⟨sp, ba, rl, bit, ln, 1, up, ix, da⟩ = false by simp only [vld, hv, Bool.true_and]; exact decide_eq_false (by omega)]
            refine SC.run hm Try.func30 rfl [.call [] [.agg [.int .i64 sp, .int .u64 ba, .int .u64 rl]] [] (.s (.bool true)) 0 [], .dec true, .dec true, .dec false, .num 1, .num (ba % 1), .dec false, .dec true] [] rfl rfl ?_ (.inl rfl) (EndOK.plain rfl no_mem rfl rfl)
            simp only [true_and, and_true, and_assoc, decide_eq_true_eq, decide_eq_false_iff_not, beq_iff_eq, bne_iff_ne, beq_eq_false_iff_ne, bne_eq_false_iff_eq, ne_eq, Decidable.not_not, u64_wrap, i64_wrap]
            repeat' apply And.intro
            all_goals first | omega | exact call0 hr rfl | exact tmodN _ _ (by omega) | (show _ = true; kernel_rfl)
          by_cases t1 : 2 < up
          · rw [show vld ⟨sp, ba, rl, bit, ln, 1, up, ix, da⟩ = false by simp only [vld, hv, Bool.true_and]; exact decide_eq_false (by omega)]
            refine SC.run hm Try.func30 rfl [.call [] [.agg [.int .i64 sp, .int .u64 ba, .int .u64 rl]] [] (.s (.bool true)) 0 [], .dec true, .dec true, .dec false, .num 1, .num (ba % 1), .dec false, .dec false, .dec true] [] rfl rfl ?_ (.inl rfl) (EndOK.plain rfl no_mem rfl rfl)
            simp only [true_and, and_true, and_assoc, decide_eq_true_eq, decide_eq_false_iff_not, beq_iff_eq, bne_iff_ne, beq_eq_false_iff_ne, bne_eq_false_iff_eq, ne_eq, Decidable.not_not, u64_wrap, i64_wrap]
            repeat' apply And.intro
            all_goals first | omega | exact call0 hr rfl | exact tmodN _ _ (by omega) | (show _ = true; kernel_rfl)
          by_cases t2 : bit < 0
          · rw [show vld ⟨sp, ba, rl, bit, ln, 1, up, ix, da⟩ = false by simp only [vld, hv, Bool.true_and]; exact decide_eq_false (by omega)]
            refine SC.run hm Try.func30 rfl [.call [] [.agg [.int .i64 sp, .int .u64 ba, .int .u64 rl]] [] (.s (.bool true)) 0 [], .dec true, .dec true, .dec false, .num 1, .num (ba % 1), .dec false, .dec false, .dec false, .dec true] [] rfl rfl ?_ (.inl rfl) (EndOK.plain rfl no_mem rfl rfl)
            simp only [true_and, and_true, and_assoc, decide_eq_true_eq, decide_eq_false_iff_not, beq_iff_eq, bne_iff_ne, beq_eq_false_iff_ne, bne_eq_false_iff_eq, ne_eq, Decidable.not_not, u64_wrap, i64_wrap]
            repeat' apply And.intro
            all_goals first | omega | exact call0 hr rfl | exact tmodN _ _ (by omega) | (show _ = true; kernel_rfl)
          by_cases t3 : ln < 1
          · rw [show vld ⟨sp, ba, rl, bit, ln, 1, up, ix, da⟩ = false by simp only [vld, hv, Bool.true_and]; exact decide_eq_false (by omega)]
            refine SC.run hm Try.func30 rfl [.call [] [.agg [.int .i64 sp, .int .u64 ba, .int .u64 rl]] [] (.s (.bool true)) 0 [], .dec true, .dec true, .dec false, .num 1, .num (ba % 1), .dec false, .dec false, .dec false, .dec false, .dec true] [] rfl rfl ?_ (.inl rfl) (EndOK.plain rfl no_mem rfl rfl)
            simp only [true_and, and_true, and_assoc, decide_eq_true_eq, decide_eq_false_iff_not, beq_iff_eq, bne_iff_ne, beq_eq_false_iff_ne, bne_eq_false_iff_eq, ne_eq, Decidable.not_not, u64_wrap, i64_wrap]
            repeat' apply And.intro
            all_goals first | omega | exact call0 hr rfl | exact tmodN _ _ (by omega) | (show _ = true; kernel_rfl)
          by_cases t4 : 256 < ln
          · rw [show vld ⟨sp, ba, rl, bit, ln, 1, up, ix, da⟩ = false by simp only [vld, hv, Bool.true_and]; exact decide_eq_false (by omega)]
            refine SC.run hm Try.func30 rfl [.call [] [.agg [.int .i64 sp, .int .u64 ba, .int .u64 rl]] [] (.s (.bool true)) 0 [], .dec true, .dec true, .dec false, .num 1, .num (ba % 1), .dec false, .dec false, .dec false, .dec false, .dec false, .dec true] [] rfl rfl ?_ (.inl rfl) (EndOK.plain rfl no_mem rfl rfl)
            simp only [true_and, and_true, and_assoc, decide_eq_true_eq, decide_eq_false_iff_not, beq_iff_eq, bne_iff_ne, beq_eq_false_iff_ne, bne_eq_false_iff_eq, ne_eq, Decidable.not_not, u64_wrap, i64_wrap]
            repeat' apply And.intro
            all_goals first | omega | exact call0 hr rfl | exact tmodN _ _ (by omega) | (show _ = true; kernel_rfl)
          rw [show vld ⟨sp, ba, rl, bit, ln, 1, up, ix, da⟩ = decide ((bit + ln - 1) / (8 * 1) < rl / 1) by simp only [vld, hv, Bool.true_and]; rw [decide_eq_decide]; exact ⟨fun h => h.2.2.2.2.2.2.2.2, fun h => ⟨by simp, by first | (simp; done) | exact .inl s3, by omega, by omega, by omega, by omega, by omega, by omega, h⟩⟩]
          refine SC.run hm Try.func30 rfl [.call [] [.agg [.int .i64 sp, .int .u64 ba, .int .u64 rl]] [] (.s (.bool true)) 0 [], .dec true, .dec true, .dec false, .num 1, .num (ba % 1), .dec false, .dec false, .dec false, .dec false, .dec false, .dec false, .num bit, .num ln, .num (bit + ln), .num (bit + ln - 1), .call [] [Fsp.v ⟨sp, ba, rl, bit, ln, 1, up, ix, da⟩] [] (.s (.int .u64 (8 * 1))) 0 [], .num ((bit + ln - 1) / (8 * 1)), .num 1, .num (rl / 1), .keep] [] rfl rfl ?_ (.inl rfl) (EndOK.plain rfl no_mem rfl rfl)
          simp only [true_and, and_true, and_assoc, decide_eq_true_eq, decide_eq_false_iff_not, beq_iff_eq, bne_iff_ne, beq_eq_false_iff_ne, bne_eq_false_iff_eq, ne_eq, Decidable.not_not, u64_wrap, i64_wrap]
          repeat' apply And.intro
          all_goals first | omega | exact call0 hr rfl | exact call0 hu rfl | exact tmodN _ _ (by omega) | exact tdivN _ _ (by omega) (by omega) (by omega) | (show _ = true; kernel_rfl)
        · rw [show vld ⟨sp, ba, rl, bit, ln, 1, up, ix, da⟩ = false by simp only [vld, hv, Bool.true_and]; exact decide_eq_false (by omega)]
          refine SC.run hm Try.func30 rfl [.call [] [.agg [.int .i64 sp, .int .u64 ba, .int .u64 rl]] [] (.s (.bool true)) 0 [], .dec true, .dec true, .dec false, .num 1, .num (ba % 1), .dec true] [] rfl rfl ?_ (.inl rfl) (EndOK.plain rfl no_mem rfl rfl)
          simp only [true_and, and_true, and_assoc, decide_eq_true_eq, decide_eq_false_iff_not, beq_iff_eq, bne_iff_ne, beq_eq_false_iff_ne, bne_eq_false_iff_eq, ne_eq, Decidable.not_not, u64_wrap, i64_wrap]
          repeat' apply And.intro
          all_goals first | omega | exact call0 hr rfl | exact tmodN _ _ (by omega) | (show _ = true; kernel_rfl)
      · by_cases m1 : ba % 1 = 0
        · by_cases t0 : up < 0
          · rw [show vld ⟨sp, ba, rl, bit, ln, 1, up, ix, da⟩ = false by simp only [vld, hv, Bool.true_and]; exact decide_eq_false (by omega)]
            refine SC.run hm Try.func30 rfl [.call [] [.agg [.int .i64 sp, .int .u64 ba, .int .u64 rl]] [] (.s (.bool true)) 0 [], .dec true, .dec false, .num 1, .num (ba % 1), .dec false, .dec true] [] rfl rfl ?_ (.inl rfl) (EndOK.plain rfl no_mem rfl rfl)
            simp only [true_and, and_true, and_assoc, decide_eq_true_eq, decide_eq_false_iff_not, beq_iff_eq, bne_iff_ne, beq_eq_false_iff_ne, bne_eq_false_iff_eq, ne_eq, Decidable.not_not, u64_wrap, i64_wrap]
            repeat' apply And.intro
            all_goals first | omega | exact call0 hr rfl | exact tmodN _ _ (by omega) | (show _ = true; kernel_rfl)
          by_cases t1 : 2 < up
          · rw [show vld ⟨sp, ba, rl, bit, ln, 1, up, ix, da⟩ = false by simp only [vld, hv, Bool.true_and]; exact decide_eq_false (by omega)]
            refine SC.run hm Try.func30 rfl [.call [] [.agg [.int .i64 sp, .int .u64 ba, .int .u64 rl]] [] (.s (.bool true)) 0 [], .dec true, .dec false, .num 1, .num (ba % 1), .dec false, .dec false, .dec true] [] rfl rfl ?_ (.inl rfl) (EndOK.plain rfl no_mem rfl rfl)
            simp only [true_and, and_true, and_assoc, decide_eq_true_eq, decide_eq_false_iff_not, beq_iff_eq, bne_iff_ne, beq_eq_false_iff_ne, bne_eq_false_iff_eq, ne_eq, Decidable.not_not, u64_wrap, i64_wrap]
            repeat' apply And.intro
            all_goals first | omega | exact call0 hr rfl | exact tmodN _ _ (by omega) | (show _ = true; kernel_rfl)
          by_cases t2 : bit < 0
          · rw [show vld ⟨sp, ba, rl, bit, ln, 1, up, ix, da⟩ = false by simp only [vld, hv, Bool.true_and]; exact decide_eq_false (by omega)]
            refine SC.run hm Try.func30 rfl [.call [] [.agg [.int .i64 sp, .int .u64 ba, .int .u64 rl]] [] (.s (.bool true)) 0 [], .dec true, .dec false, .num 1, .num (ba % 1), .dec false, .dec false, .dec false, .dec true] [] rfl rfl ?_ (.inl rfl) (EndOK.plain rfl no_mem rfl rfl)
            simp only [true_and, and_true, and_assoc, decide_eq_true_eq, decide_eq_false_iff_not, beq_iff_eq, bne_iff_ne, beq_eq_false_iff_ne, bne_eq_false_iff_eq, ne_eq, Decidable.not_not, u64_wrap, i64_wrap]
            repeat' apply And.intro
            all_goals first | omega | exact call0 hr rfl | exact tmodN _ _ (by omega) | (show _ = true; kernel_rfl)
          by_cases t3 : ln < 1
          · rw [show vld ⟨sp, ba, rl, bit, ln, 1, up, ix, da⟩ = false by simp only [vld, hv, Bool.true_and]; exact decide_eq_false (by omega)]
            refine SC.run hm Try.func30 rfl [.call [] [.agg [.int .i64 sp, .int .u64 ba, .int .u64 rl]] [] (.s (.bool true)) 0 [], .dec true, .dec false, .num 1, .num (ba % 1), .dec false, .dec false, .dec false, .dec false, .dec true] [] rfl rfl ?_ (.inl rfl) (EndOK.plain rfl no_mem rfl rfl)
            simp only [true_and, and_true, and_assoc, decide_eq_true_eq, decide_eq_false_iff_not, beq_iff_eq, bne_iff_ne, beq_eq_false_iff_ne, bne_eq_false_iff_eq, ne_eq, Decidable.not_not, u64_wrap, i64_wrap]
            repeat' apply And.intro
            all_goals first | omega | exact call0 hr rfl | exact tmodN _ _ (by omega) | (show _ = true; kernel_rfl)
          by_cases t4 : 256 < ln
          · rw [show vld ⟨sp, ba, rl, bit, ln, 1, up, ix, da⟩ = false by simp only [vld, hv, Bool.true_and]; exact decide_eq_false (by omega)]
            refine SC.run hm Try.func30 rfl [.call [] [.agg [.int .i64 sp, .int .u64 ba, .int .u64 rl]] [] (.s (.bool true)) 0 [], .dec true, .dec false, .num 1, .num (ba % 1), .dec false, .dec false, .dec false, .dec false, .dec false, .dec true] [] rfl rfl ?_ (.inl rfl) (EndOK.plain rfl no_mem rfl rfl)
            simp only [true_and, and_true, and_assoc, decide_eq_true_eq, decide_eq_false_iff_not, beq_iff_eq, bne_iff_ne, beq_eq_false_iff_ne, bne_eq_false_iff_eq, ne_eq, Decidable.not_not, u64_wrap, i64_wrap]
            repeat' apply And.intro
            all_goals first | omega | exact call0 hr rfl | exact tmodN _ _ (by omega) | (show _ = true; kernel_rfl)
          rw [show vld ⟨sp, ba, rl, bit, ln, 1, up, ix, da⟩ = decide ((bit + ln - 1) / (8 * 1) < rl / 1) by simp only [vld, hv, Bool.true_and]; rw [decide_eq_decide]; exact ⟨fun h => h.2.2.2.2.2.2.2.2, fun h => ⟨by simp, by first | (simp; done) | exact .inl s3, by omega, by omega, by omega, by omega, by omega, by omega, h⟩⟩]
          refine SC.run hm Try.func30 rfl [.call [] [.agg [.int .i64 sp, .int .u64 ba, .int .u64 rl]] [] (.s (.bool true)) 0 [], .dec true, .dec false, .num 1, .num (ba % 1), .dec false, .dec false, .dec false, .dec false, .dec false, .dec false, .num bit, .num ln, .num (bit + ln), .num (bit + ln - 1), .call [] [Fsp.v ⟨sp, ba, rl, bit, ln, 1, up, ix, da⟩] [] (.s (.int .u64 (8 * 1))) 0 [], .num ((bit + ln - 1) / (8 * 1)), .num 1, .num (rl / 1), .keep] [] rfl rfl ?_ (.inl rfl) (EndOK.plain rfl no_mem rfl rfl)
          simp only [true_and, and_true, and_assoc, decide_eq_true_eq, decide_eq_false_iff_not, beq_iff_eq, bne_iff_ne, beq_eq_false_iff_ne, bne_eq_false_iff_eq, ne_eq, Decidable.not_not, u64_wrap, i64_wrap]
          repeat' apply And.intro
          all_goals first | omega | exact call0 hr rfl | exact call0 hu rfl | exact tmodN _ _ (by omega) | exact tdivN _ _ (by omega) (by omega) (by omega) | (show _ = true; kernel_rfl)
        · rw [show vld ⟨sp, ba, rl, bit, ln, 1, up, ix, da⟩ = false by simp only [vld, hv, Bool.true_and]; exact decide_eq_false (by omega)]
          refine SC.run hm Try.func30 rfl [.call [] [.agg [.int .i64 sp, .int .u64 ba, .int .u64 rl]] [] (.s (.bool true)) 0 [], .dec true, .dec false, .num 1, .num (ba % 1), .dec true] [] rfl rfl ?_ (.inl rfl) (EndOK.plain rfl no_mem rfl rfl)
          simp only [true_and, and_true, and_assoc, decide_eq_true_eq, decide_eq_false_iff_not, beq_iff_eq, bne_iff_ne, beq_eq_false_iff_ne, bne_eq_false_iff_eq, ne_eq, Decidable.not_not, u64_wrap, i64_wrap]
          repeat' apply And.intro
          all_goals first | omega | exact call0 hr rfl | exact tmodN _ _ (by omega) | (show _ = true; kernel_rfl)
    by_cases w2 : wd = 2
    · subst w2
      have hu := unitBits_s ⟨sp, ba, rl, bit, ln, 2, up, ix, da⟩ (by simp) (by simp)
      by_cases s3 : sp = 3
      · rw [show vld ⟨sp, ba, rl, bit, ln, 2, up, ix, da⟩ = false by simp only [vld, hv, Bool.true_and]; exact decide_eq_false (by omega)]
        refine SC.run hm Try.func30 rfl [.call [] [.agg [.int .i64 sp, .int .u64 ba, .int .u64 rl]] [] (.s (.bool true)) 0 [], .dec false, .dec true, .dec true, .dec true] [] rfl rfl ?_ (.inl rfl) (EndOK.plain rfl no_mem rfl rfl)
        simp only [true_and, and_true, and_assoc, decide_eq_true_eq, decide_eq_false_iff_not, beq_iff_eq, bne_iff_ne, beq_eq_false_iff_ne, bne_eq_false_iff_eq, ne_eq, Decidable.not_not, u64_wrap, i64_wrap]
        repeat' apply And.intro
        all_goals first | omega | exact call0 hr rfl | (show _ = true; kernel_rfl)
      · by_cases m1 : ba % 2 = 0
        · by_cases t0 : up < 0
          · rw [show vld ⟨sp, ba, rl, bit, ln, 2, up, ix, da⟩ = false by simp only [vld, hv, Bool.true_and]; exact decide_eq_false (by omega)]
            refine SC.run hm Try.func30 rfl [.call [] [.agg [.int .i64 sp, .int .u64 ba, .int .u64 rl]] [] (.s (.bool true)) 0 [], .dec false, .dec true, .dec false, .num 2, .num (ba % 2), .dec false, .dec true] [] rfl rfl ?_ (.inl rfl) (EndOK.plain rfl no_mem rfl rfl)
            simp only [true_and, and_true, and_assoc, decide_eq_true_eq, decide_eq_false_iff_not, beq_iff_eq, bne_iff_ne, beq_eq_false_iff_ne, bne_eq_false_iff_eq, ne_eq, Decidable.not_not, u64_wrap, i64_wrap]
            repeat' apply And.intro
            all_goals first | omega | exact call0 hr rfl | exact tmodN _ _ (by omega) | (show _ = true; kernel_rfl)
          by_cases t1 : 2 < up
          · rw [show vld ⟨sp, ba, rl, bit, ln, 2, up, ix, da⟩ = false by simp only [vld, hv, Bool.true_and]; exact decide_eq_false (by omega)]
            refine SC.run hm Try.func30 rfl [.call [] [.agg [.int .i64 sp, .int .u64 ba, .int .u64 rl]] [] (.s (.bool true)) 0 [], .dec false, .dec true, .dec false, .num 2, .num (ba % 2), .dec false, .dec false, .dec true] [] rfl rfl ?_ (.inl rfl) (EndOK.plain rfl no_mem rfl rfl)
            simp only [true_and, and_true, and_assoc, decide_eq_true_eq, decide_eq_false_iff_not, beq_iff_eq, bne_iff_ne, beq_eq_false_iff_ne, bne_eq_false_iff_eq, ne_eq, Decidable.not_not, u64_wrap, i64_wrap]
            repeat' apply And.intro
            all_goals first | omega | exact call0 hr rfl | exact tmodN _ _ (by omega) | (show _ = true; kernel_rfl)
          by_cases t2 : bit < 0
          · rw [show vld ⟨sp, ba, rl, bit, ln, 2, up, ix, da⟩ = false by simp only [vld, hv, Bool.true_and]; exact decide_eq_false (by omega)]
            refine SC.run hm Try.func30 rfl [.call [] [.agg [.int .i64 sp, .int .u64 ba, .int .u64 rl]] [] (.s (.bool true)) 0 [], .dec false, .dec true, .dec false, .num 2, .num (ba % 2), .dec false, .dec false, .dec false, .dec true] [] rfl rfl ?_ (.inl rfl) (EndOK.plain rfl no_mem rfl rfl)
            simp only [true_and, and_true, and_assoc, decide_eq_true_eq, decide_eq_false_iff_not, beq_iff_eq, bne_iff_ne, beq_eq_false_iff_ne, bne_eq_false_iff_eq, ne_eq, Decidable.not_not, u64_wrap, i64_wrap]
            repeat' apply And.intro
            all_goals first | omega | exact call0 hr rfl | exact tmodN _ _ (by omega) | (show _ = true; kernel_rfl)
          by_cases t3 : ln < 1
          · rw [show vld ⟨sp, ba, rl, bit, ln, 2, up, ix, da⟩ = false by simp only [vld, hv, Bool.true_and]; exact decide_eq_false (by omega)]
            refine SC.run hm Try.func30 rfl [.call [] [.agg [.int .i64 sp, .int .u64 ba, .int .u64 rl]] [] (.s (.bool true)) 0 [], .dec false, .dec true, .dec false, .num 2, .num (ba % 2), .dec false, .dec false, .dec false, .dec false, .dec true] [] rfl rfl ?_ (.inl rfl) (EndOK.plain rfl no_mem rfl rfl)
            simp only [true_and, and_true, and_assoc, decide_eq_true_eq, decide_eq_false_iff_not, beq_iff_eq, bne_iff_ne, beq_eq_false_iff_ne, bne_eq_false_iff_eq, ne_eq, Decidable.not_not, u64_wrap, i64_wrap]
            repeat' apply And.intro
            all_goals first | omega | exact call0 hr rfl | exact tmodN _ _ (by omega) | (show _ = true; kernel_rfl)
          by_cases t4 : 256 < ln
          · rw [show vld ⟨sp, ba, rl, bit, ln, 2, up, ix, da⟩ = false by simp only [vld, hv, Bool.true_and]; exact decide_eq_false (by omega)]
            refine SC.run hm Try.func30 rfl [.call [] [.agg [.int .i64 sp, .int .u64 ba, .int .u64 rl]] [] (.s (.bool true)) 0 [], .dec false, .dec true, .dec false, .num 2, .num (ba % 2), .dec false, .dec false, .dec false, .dec false, .dec false, .dec true] [] rfl rfl ?_ (.inl rfl) (EndOK.plain rfl no_mem rfl rfl)
            simp only [true_and, and_true, and_assoc, decide_eq_true_eq, decide_eq_false_iff_not, beq_iff_eq, bne_iff_ne, beq_eq_false_iff_ne, bne_eq_false_iff_eq, ne_eq, Decidable.not_not, u64_wrap, i64_wrap]
            repeat' apply And.intro
            all_goals first | omega | exact call0 hr rfl | exact tmodN _ _ (by omega) | (show _ = true; kernel_rfl)
          rw [show vld ⟨sp, ba, rl, bit, ln, 2, up, ix, da⟩ = decide ((bit + ln - 1) / (8 * 2) < rl / 2) by simp only [vld, hv, Bool.true_and]; rw [decide_eq_decide]; exact ⟨fun h => h.2.2.2.2.2.2.2.2, fun h => ⟨by simp, by first | (simp; done) | exact .inl s3, by omega, by omega, by omega, by omega, by omega, by omega, h⟩⟩]
          refine SC.run hm Try.func30 rfl [.call [] [.agg [.int .i64 sp, .int .u64 ba, .int .u64 rl]] [] (.s (.bool true)) 0 [], .dec false, .dec true, .dec false, .num 2, .num (ba % 2), .dec false, .dec false, .dec false, .dec false, .dec false, .dec false, .num bit, .num ln, .num (bit + ln), .num (bit + ln - 1), .call [] [Fsp.v ⟨sp, ba, rl, bit, ln, 2, up, ix, da⟩] [] (.s (.int .u64 (8 * 2))) 0 [], .num ((bit + ln - 1) / (8 * 2)), .num 2, .num (rl / 2), .keep] [] rfl rfl ?_ (.inl rfl) (EndOK.plain rfl no_mem rfl rfl)
          simp only [true_and, and_true, and_assoc, decide_eq_true_eq, decide_eq_false_iff_not, beq_iff_eq, bne_iff_ne, beq_eq_false_iff_ne, bne_eq_false_iff_eq, ne_eq, Decidable.not_not, u64_wrap, i64_wrap]
          repeat' apply And.intro
          all_goals first | omega | exact call0 hr rfl | exact call0 hu rfl | exact tmodN _ _ (by omega) | exact tdivN _ _ (by omega) (by omega) (by omega) | (show _ = true; kernel_rfl)
        · rw [show vld ⟨sp, ba, rl, bit, ln, 2, up, ix, da⟩ = false by simp only [vld, hv, Bool.true_and]; exact decide_eq_false (by omega)]
          refine SC.run hm Try.func30 rfl [.call [] [.agg [.int .i64 sp, .int .u64 ba, .int .u64 rl]] [] (.s (.bool true)) 0 [], .dec false, .dec true, .dec false, .num 2, .num (ba % 2), .dec true] [] rfl rfl ?_ (.inl rfl) (EndOK.plain rfl no_mem rfl rfl)
          simp only [true_and, and_true, and_assoc, decide_eq_true_eq, decide_eq_false_iff_not, beq_iff_eq, bne_iff_ne, beq_eq_false_iff_ne, bne_eq_false_iff_eq, ne_eq, Decidable.not_not, u64_wrap, i64_wrap]
          repeat' apply And.intro
          all_goals first | omega | exact call0 hr rfl | exact tmodN _ _ (by omega) | (show _ = true; kernel_rfl)
    by_cases w4 : wd = 4
    · subst w4
      have hu := unitBits_s ⟨sp, ba, rl, bit, ln, 4, up, ix, da⟩ (by simp) (by simp)
      by_cases s3 : sp = 3
      · rw [show vld ⟨sp, ba, rl, bit, ln, 4, up, ix, da⟩ = false by simp only [vld, hv, Bool.true_and]; exact decide_eq_false (by omega)]
        refine SC.run hm Try.func30 rfl [.call [] [.agg [.int .i64 sp, .int .u64 ba, .int .u64 rl]] [] (.s (.bool true)) 0 [], .dec false, .dec false, .dec true, .dec true, .dec true] [] rfl rfl ?_ (.inl rfl) (EndOK.plain rfl no_mem rfl rfl)
        simp only [true_and, and_true, and_assoc, decide_eq_true_eq, decide_eq_false_iff_not, beq_iff_eq, bne_iff_ne, beq_eq_false_iff_ne, bne_eq_false_iff_eq, ne_eq, Decidable.not_not, u64_wrap, i64_wrap]
        repeat' apply And.intro
        all_goals first | omega | exact call0 hr rfl | (show _ = true; kernel_rfl)
      · by_cases m1 : ba % 4 = 0
        · by_cases t0 : up < 0
          · rw [show vld ⟨sp, ba, rl, bit, ln, 4, up, ix, da⟩ = false by simp only [vld, hv, Bool.true_and]; exact decide_eq_false (by omega)]
            refine SC.run hm Try.func30 rfl [.call [] [.agg [.int .i64 sp, .int .u64 ba, .int .u64 rl]] [] (.s (.bool true)) 0 [], .dec false, .dec false, .dec true, .dec false, .num 4, .num (ba % 4), .dec false, .dec true] [] rfl rfl ?_ (.inl rfl) (EndOK.plain rfl no_mem rfl rfl)
            simp only [true_and, and_true, and_assoc, decide_eq_true_eq, decide_eq_false_iff_not, beq_iff_eq, bne_iff_ne, beq_eq_false_iff_ne, bne_eq_false_iff_eq, ne_eq, Decidable.not_not, u64_wrap, i64_wrap]
            repeat' apply And.intro
            all_goals first | omega | exact call0 hr rfl | exact tmodN _ _ (by omega) | (show _ = true; kernel_rfl)
          by_cases t1 : 2 < up
          · rw [show vld ⟨sp, ba, rl, bit, ln, 4, up, ix, da⟩ = false by simp only [vld, hv, Bool.true_and]; exact decide_eq_false (by omega)]
            refine SC.run hm Try.func30 rfl [.call [] [.agg [.int .i64 sp, .int .u64 ba, .int .u64 rl]] [] (.s (.bool true)) 0 [], .dec false, .dec false, .dec true, .dec false, .num 4, .num (ba % 4), .dec false, .dec false, .dec true] [] rfl rfl ?_ (.inl rfl) (EndOK.plain rfl no_mem rfl rfl)
            simp only [true_and, and_true, and_assoc, decide_eq_true_eq, decide_eq_false_iff_not, beq_iff_eq, bne_iff_ne, beq_eq_false_iff_ne, bne_eq_false_iff_eq, ne_eq, Decidable.not_not, u64_wrap, i64_wrap]
            repeat' apply And.intro
            all_goals first | omega | exact call0 hr rfl | exact tmodN _ _ (by omega) | (show _ = true; kernel_rfl)
          by_cases t2 : bit < 0
          · rw [show vld ⟨sp, ba, rl, bit, ln, 4, up, ix, da⟩ = false by simp only [vld, hv, Bool.true_and]; exact decide_eq_false (by omega)]
            refine SC.run hm Try.func30 rfl [.call [] [.agg [.int .i64 sp, .int .u64 ba, .int .u64 rl]] [] (.s (.bool true)) 0 [], .dec false, .dec false, .dec true, .dec false, .num 4, .num (ba % 4), .dec false, .dec false, .dec false, .dec true] [] rfl rfl ?_ (.inl rfl) (EndOK.plain rfl no_mem rfl rfl)
            simp only [true_and, and_true, and_assoc, decide_eq_true_eq, decide_eq_false_iff_not, beq_iff_eq, bne_iff_ne, beq_eq_false_iff_ne, bne_eq_false_iff_eq, ne_eq, Decidable.not_not, u64_wrap, i64_wrap]
            repeat' apply And.intro
            all_goals first | omega | exact call0 hr rfl | exact tmodN _ _ (by omega) | (show _ = true; kernel_rfl)
          by_cases t3 : ln < 1
          · rw [show vld ⟨sp, ba, rl, bit, ln, 4, up, ix, da⟩ = false by simp only [vld, hv, Bool.true_and]; exact decide_eq_false (by omega)]
            refine SC.run hm Try.func30 rfl [.call [] [.agg [.int .i64 sp, .int .u64 ba, .int .u64 rl]] [] (.s (.bool true)) 0 [], .dec false, .dec false, .dec true, .dec false, .num 4, .num (ba % 4), .dec false, .dec false, .dec false, .dec false, .dec true] [] rfl rfl ?_ (.inl rfl) (EndOK.plain rfl no_mem rfl rfl)
            simp only [true_and, and_true, and_assoc, decide_eq_true_eq, decide_eq_false_iff_not, beq_iff_eq, bne_iff_ne, beq_eq_false_iff_ne, bne_eq_false_iff_eq, ne_eq, Decidable.not_not, u64_wrap, i64_wrap]
            repeat' apply And.intro
            all_goals first | omega | exact call0 hr rfl | exact tmodN _ _ (by omega) | (show _ = true; kernel_rfl)
          by_cases t4 : 256 < ln
          · rw [show vld ⟨sp, ba, rl, bit, ln, 4, up, ix, da⟩ = false by simp only [vld, hv, Bool.true_and]; exact decide_eq_false (by omega)]
            refine SC.run hm Try.func30 rfl [.call [] [.agg [.int .i64 sp, .int .u64 ba, .int .u64 rl]] [] (.s (.bool true)) 0 [], .dec false, .dec false, .dec true, .dec false, .num 4, .num (ba % 4), .dec false, .dec false, .dec false, .dec false, .dec false, .dec true] [] rfl rfl ?_ (.inl rfl) (EndOK.plain rfl no_mem rfl rfl)
            simp only [true_and, and_true, and_assoc, decide_eq_true_eq, decide_eq_false_iff_not, beq_iff_eq, bne_iff_ne, beq_eq_false_iff_ne, bne_eq_false_iff_eq, ne_eq, Decidable.not_not, u64_wrap, i64_wrap]
            repeat' apply And.intro
            all_goals first | omega | exact call0 hr rfl | exact tmodN _ _ (by omega) | (show _ = true; kernel_rfl)
          rw [show vld ⟨sp, ba, rl, bit, ln, 4, up, ix, da⟩ = decide ((bit + ln - 1) / (8 * 4) < rl / 4) by simp only [vld, hv, Bool.true_and]; rw [decide_eq_decide]; exact ⟨fun h => h.2.2.2.2.2.2.2.2, fun h => ⟨by simp, by first | (simp; done) | exact .inl s3, by omega, by omega, by omega, by omega, by omega, by omega, h⟩⟩]
          refine SC.run hm Try.func30 rfl [.call [] [.agg [.int .i64 sp, .int .u64 ba, .int .u64 rl]] [] (.s (.bool true)) 0 [], .dec false, .dec false, .dec true, .dec false, .num 4, .num (ba % 4), .dec false, .dec false, .dec false, .dec false, .dec false, .dec false, .num bit, .num ln, .num (bit + ln), .num (bit + ln - 1), .call [] [Fsp.v ⟨sp, ba, rl, bit, ln, 4, up, ix, da⟩] [] (.s (.int .u64 (8 * 4))) 0 [], .num ((bit + ln - 1) / (8 * 4)), .num 4, .num (rl / 4), .keep] [] rfl rfl ?_ (.inl rfl) (EndOK.plain rfl no_mem rfl rfl)
          simp only [true_and, and_true, and_assoc, decide_eq_true_eq, decide_eq_false_iff_not, beq_iff_eq, bne_iff_ne, beq_eq_false_iff_ne, bne_eq_false_iff_eq, ne_eq, Decidable.not_not, u64_wrap, i64_wrap]
          repeat' apply And.intro
          all_goals first | omega | exact call0 hr rfl | exact call0 hu rfl | exact tmodN _ _ (by omega) | exact tdivN _ _ (by omega) (by omega) (by omega) | (show _ = true; kernel_rfl)
        · rw [show vld ⟨sp, ba, rl, bit, ln, 4, up, ix, da⟩ = false by simp only [vld, hv, Bool.true_and]; exact decide_eq_false (by omega)]
          refine SC.run hm Try.func30 rfl [.call [] [.agg [.int .i64 sp, .int .u64 ba, .int .u64 rl]] [] (.s (.bool true)) 0 [], .dec false, .dec false, .dec true, .dec false, .num 4, .num (ba % 4), .dec true] [] rfl rfl ?_ (.inl rfl) (EndOK.plain rfl no_mem rfl rfl)
          simp only [true_and, and_true, and_assoc, decide_eq_true_eq, decide_eq_false_iff_not, beq_iff_eq, bne_iff_ne, beq_eq_false_iff_ne, bne_eq_false_iff_eq, ne_eq, Decidable.not_not, u64_wrap, i64_wrap]
          repeat' apply And.intro
          all_goals first | omega | exact call0 hr rfl | exact tmodN _ _ (by omega) | (show _ = true; kernel_rfl)
    by_cases w8 : wd = 8
    · subst w8
      have hu := unitBits_s ⟨sp, ba, rl, bit, ln, 8, up, ix, da⟩ (by simp) (by simp)
      by_cases s3 : sp = 3
      · rw [show vld ⟨sp, ba, rl, bit, ln, 8, up, ix, da⟩ = false by simp only [vld, hv, Bool.true_and]; exact decide_eq_false (by omega)]
        refine SC.run hm Try.func30 rfl [.call [] [.agg [.int .i64 sp, .int .u64 ba, .int .u64 rl]] [] (.s (.bool true)) 0 [], .dec false, .dec false, .dec false, .dec true, .dec true, .dec true] [] rfl rfl ?_ (.inl rfl) (EndOK.plain rfl no_mem rfl rfl)
        simp only [true_and, and_true, and_assoc, decide_eq_true_eq, decide_eq_false_iff_not, beq_iff_eq, bne_iff_ne, beq_eq_false_iff_ne, bne_eq_false_iff_eq, ne_eq, Decidable.not_not, u64_wrap, i64_wrap]
        repeat' apply And.intro
        all_goals first | omega | exact call0 hr rfl | (show _ = true; kernel_rfl)
      · by_cases m1 : ba % 8 = 0
        · by_cases t0 : up < 0
          · rw [show vld ⟨sp, ba, rl, bit, ln, 8, up, ix, da⟩ = false by simp only [vld, hv, Bool.true_and]; exact decide_eq_false (by omega)]
            refine SC.run hm Try.func30 rfl [.call [] [.agg [.int .i64 sp, .int .u64 ba, .int .u64 rl]] [] (.s (.bool true)) 0 [], .dec false, .dec false, .dec false, .dec true, .dec false, .num 8, .num (ba % 8), .dec false, .dec true] [] rfl rfl ?_ (.inl rfl) (EndOK.plain rfl no_mem rfl rfl)
            simp only [true_and, and_true, and_assoc, decide_eq_true_eq, decide_eq_false_iff_not, beq_iff_eq, bne_iff_ne, beq_eq_false_iff_ne, bne_eq_false_iff_eq, ne_eq, Decidable.not_not, u64_wrap, i64_wrap]
            repeat' apply And.intro
            all_goals first | omega | exact call0 hr rfl | exact tmodN _ _ (by omega) | (show _ = true; kernel_rfl)
          by_cases t1 : 2 < up
          · rw [show vld ⟨sp, ba, rl, bit, ln, 8, up, ix, da⟩ = false by simp only [vld, hv, Bool.true_and]; exact decide_eq_false (by omega)]
            refine SC.run hm Try.func30 rfl [.call [] [.agg [.int .i64 sp, .int .u64 ba, .int .u64 rl]] [] (.s (.bool true)) 0 [], .dec false, .dec false, .dec false, .dec true, .dec false, .num 8, .num (ba % 8), .dec false, .dec false, .dec true] [] rfl rfl ?_ (.inl rfl) (EndOK.plain rfl no_mem rfl rfl)
            simp only [true_and, and_true, and_assoc, decide_eq_true_eq, decide_eq_false_iff_not, beq_iff_eq, bne_iff_ne, beq_eq_false_iff_ne, bne_eq_false_iff_eq, ne_eq, Decidable.not_not, u64_wrap, i64_wrap]
            repeat' apply And.intro
            all_goals first | omega | exact call0 hr rfl | exact tmodN _ _ (by omega) | (show _ = true; kernel_rfl)
          by_cases t2 : bit < 0
          · rw [show vld ⟨sp, ba, rl, bit, ln, 8, up, ix, da⟩ = false by simp only [vld, hv, Bool.true_and]; exact decide_eq_false (by omega)]
            refine SC.run hm Try.func30 rfl [.call [] [.agg [.int .i64 sp, .int .u64 ba, .int .u64 rl]] [] (.s (.bool true)) 0 [], .dec false, .dec false, .dec false, .dec true, .dec false, .num 8, .num (ba % 8), .dec false, .dec false, .dec false, .dec true] [] rfl rfl ?_ (.inl rfl) (EndOK.plain rfl no_mem rfl rfl)
            simp only [true_and, and_true, and_assoc, decide_eq_true_eq, decide_eq_false_iff_not, beq_iff_eq, bne_iff_ne, beq_eq_false_iff_ne, bne_eq_false_iff_eq, ne_eq, Decidable.not_not, u64_wrap, i64_wrap]
            repeat' apply And.intro
            all_goals first | omega | exact call0 hr rfl | exact tmodN _ _ (by omega) | (show _ = true; kernel_rfl)
          by_cases t3 : ln < 1
          · rw [show vld ⟨sp, ba, rl, bit, ln, 8, up, ix, da⟩ = false by simp only [vld, hv, Bool.true_and]; exact decide_eq_false (by omega)]
            refine SC.run hm Try.func30 rfl [.call [] [.agg [.int .i64 sp, .int .u64 ba, .int .u64 rl]] [] (.s (.bool true)) 0 [], .dec false, .dec false, .dec false, .dec true, .dec false, .num 8, .num (ba % 8), .dec false, .dec false, .dec false, .dec false, .dec true] [] rfl rfl ?_ (.inl rfl) (EndOK.plain rfl no_mem rfl rfl)
            simp only [true_and, and_true, and_assoc, decide_eq_true_eq, decide_eq_false_iff_not, beq_iff_eq, bne_iff_ne, beq_eq_false_iff_ne, bne_eq_false_iff_eq, ne_eq, Decidable.not_not, u64_wrap, i64_wrap]
            repeat' apply And.intro
            all_goals first | omega | exact call0 hr rfl | exact tmodN _ _ (by omega) | (show _ = true; kernel_rfl)
          by_cases t4 : 256 < ln
          · rw [show vld ⟨sp, ba, rl, bit, ln, 8, up, ix, da⟩ = false by simp only [vld, hv, Bool.true_and]; exact decide_eq_false (by omega)]
            refine SC.run hm Try.func30 rfl [.call [] [.agg [.int .i64 sp, .int .u64 ba, .int .u64 rl]] [] (.s (.bool true)) 0 [], .dec false, .dec false, .dec false, .dec true, .dec false, .num 8, .num (ba % 8), .dec false, .dec false, .dec false, .dec false, .dec false, .dec true] [] rfl rfl ?_ (.inl rfl) (EndOK.plain rfl no_mem rfl rfl)
            simp only [true_and, and_true, and_assoc, decide_eq_true_eq, decide_eq_false_iff_not, beq_iff_eq, bne_iff_ne, beq_eq_false_iff_ne, bne_eq_false_iff_eq, ne_eq, Decidable.not_not, u64_wrap, i64_wrap]
            repeat' apply And.intro
            all_goals first | omega | exact call0 hr rfl | exact tmodN _ _ (by omega) | (show _ = true; kernel_rfl)
          rw [show vld ⟨sp, ba, rl, bit, ln, 8, up, ix, da⟩ = decide ((bit + ln - 1) / (8 * 8) < rl / 8) by simp only [vld, hv, Bool.true_and]; rw [decide_eq_decide]; exact ⟨fun h => h.2.2.2.2.2.2.2.2, fun h => ⟨by simp, by first | (simp; done) | exact .inl s3, by omega, by omega, by omega, by omega, by omega, by omega, h⟩⟩]
          refine SC.run hm Try.func30 rfl [.call [] [.agg [.int .i64 sp, .int .u64 ba, .int .u64 rl]] [] (.s (.bool true)) 0 [], .dec false, .dec false, .dec false, .dec true, .dec false, .num 8, .num (ba % 8), .dec false, .dec false, .dec false, .dec false, .dec false, .dec false, .num bit, .num ln, .num (bit + ln), .num (bit + ln - 1), .call [] [Fsp.v ⟨sp, ba, rl, bit, ln, 8, up, ix, da⟩] [] (.s (.int .u64 (8 * 8))) 0 [], .num ((bit + ln - 1) / (8 * 8)), .num 8, .num (rl / 8), .keep] [] rfl rfl ?_ (.inl rfl) (EndOK.plain rfl no_mem rfl rfl)
          simp only [true_and, and_true, and_assoc, decide_eq_true_eq, decide_eq_false_iff_not, beq_iff_eq, bne_iff_ne, beq_eq_false_iff_ne, bne_eq_false_iff_eq, ne_eq, Decidable.not_not, u64_wrap, i64_wrap]
          repeat' apply And.intro
          all_goals first | omega | exact call0 hr rfl | exact call0 hu rfl | exact tmodN _ _ (by omega) | exact tdivN _ _ (by omega) (by omega) (by omega) | (show _ = true; kernel_rfl)
        · rw [show vld ⟨sp, ba, rl, bit, ln, 8, up, ix, da⟩ = false by simp only [vld, hv, Bool.true_and]; exact decide_eq_false (by omega)]
          refine SC.run hm Try.func30 rfl [.call [] [.agg [.int .i64 sp, .int .u64 ba, .int .u64 rl]] [] (.s (.bool true)) 0 [], .dec false, .dec false, .dec false, .dec true, .dec false, .num 8, .num (ba % 8), .dec true] [] rfl rfl ?_ (.inl rfl) (EndOK.plain rfl no_mem rfl rfl)
          simp only [true_and, and_true, and_assoc, decide_eq_true_eq, decide_eq_false_iff_not, beq_iff_eq, bne_iff_ne, beq_eq_false_iff_ne, bne_eq_false_iff_eq, ne_eq, Decidable.not_not, u64_wrap, i64_wrap]
          repeat' apply And.intro
          all_goals first | omega | exact call0 hr rfl | exact tmodN _ _ (by omega) | (show _ = true; kernel_rfl)
    rw [show vld ⟨sp, ba, rl, bit, ln, wd, up, ix, da⟩ = false by simp only [vld, hv, Bool.true_and]; exact decide_eq_false (by omega)]
    refine SC.run hm Try.func30 rfl [.call [] [.agg [.int .i64 sp, .int .u64 ba, .int .u64 rl]] [] (.s (.bool true)) 0 [], .dec false, .dec false, .dec false, .dec false] [] rfl rfl ?_ (.inl rfl) (EndOK.plain rfl no_mem rfl rfl)
    simp only [true_and, and_true, and_assoc, decide_eq_true_eq, decide_eq_false_iff_not, beq_iff_eq, bne_iff_ne, beq_eq_false_iff_ne, bne_eq_false_iff_eq, ne_eq, Decidable.not_not, u64_wrap, i64_wrap]
    repeat' apply And.intro
    all_goals first | omega | exact call0 hr rfl | (show _ = true; kernel_rfl)

end Go.Proofs.Ytgnidbokllmhhaa
