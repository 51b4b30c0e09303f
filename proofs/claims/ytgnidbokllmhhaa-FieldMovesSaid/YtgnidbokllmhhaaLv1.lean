/-
  ref.ValidField at space 1: what it computes.
-/
import Derived.Test.YtgnidbokllmhhaaLc
import Derived.KernelRfl
set_option linter.unusedSimpArgs false
set_option linter.unusedVariables false
namespace Go.Proofs.Ytgnidbokllmhhaa
open Go Ab
set_option maxRecDepth 100000

theorem tdivW1 (x y : Int) (h : 0 ≤ x) (hy : 0 < y) (hx : x ≤ 9223372036854775807) : (x.tdiv y + 9223372036854775808) % 18446744073709551616 - 9223372036854775808 = x / y := by
  rw [← i64_wrap]; exact tdivS x y h hy hx

set_option maxHeartbeats 16000000 in
theorem vf_1_1 (ba rl bit ln up ix da : Int) (ba1 : 0 ≤ ba) (ba2 : ba ≤ 18446744073709551615) (rl1 : 0 ≤ rl) (rl2 : rl ≤ 18446744073709551615) (bit1 : -9223372036854775808 ≤ bit) (bit2 : bit ≤ 9223372036854775807) (ln1 : -9223372036854775808 ≤ ln) (ln2 : ln ≤ 9223372036854775807) (up1 : -9223372036854775808 ≤ up) (up2 : up ≤ 9223372036854775807) (t0 : ¬ rl < 1) (t1 : ¬ 1048576 < rl) (t2 : ¬ 18446744073709551615 - (rl - 1) < ba) :
    SC Try.prog 23 [Fsp.v ⟨1, ba, rl, bit, ln, 1, up, ix, da⟩] 0 [] (.s (.bool (vld ⟨1, ba, rl, bit, ln, 1, up, ix, da⟩))) 0 [] := by
  by_cases t8 : ¬ ba % 1 = 0
  · rw [show vld ⟨1, ba, rl, bit, ln, 1, up, ix, da⟩ = false by simp only [vld, vReg, Bool.and_eq_false_iff, decide_eq_false_iff_not]; omega]
    refine SC.run hm Try.func23 rfl [.dec true, .dec false, .dec false, .dec false, .num (rl - 1), .num (18446744073709551615 - (rl - 1)), .dec false, .dec false, .dec false, .num 1, .num (ba % 1), .dec true] [] rfl rfl ?_ (.inl rfl) (EndOK.plain rfl no_mem rfl rfl)
    simp only [true_and, and_true, and_assoc, decide_eq_true_eq, decide_eq_false_iff_not, beq_iff_eq, bne_iff_ne, beq_eq_false_iff_ne, bne_eq_false_iff_eq, ne_eq, Decidable.not_not, u64_wrap, i64_wrap]
    repeat' apply And.intro
    all_goals first | omega | exact tmodN _ _ (by omega) | exact tdivW1 _ _ (by omega) (by omega) (by omega) | (show _ = true; kernel_rfl)
  by_cases t9 : up < 0
  · rw [show vld ⟨1, ba, rl, bit, ln, 1, up, ix, da⟩ = false by simp only [vld, vReg, Bool.and_eq_false_iff, decide_eq_false_iff_not]; omega]
    refine SC.run hm Try.func23 rfl [.dec true, .dec false, .dec false, .dec false, .num (rl - 1), .num (18446744073709551615 - (rl - 1)), .dec false, .dec false, .dec false, .num 1, .num (ba % 1), .dec false, .dec true] [] rfl rfl ?_ (.inl rfl) (EndOK.plain rfl no_mem rfl rfl)
    simp only [true_and, and_true, and_assoc, decide_eq_true_eq, decide_eq_false_iff_not, beq_iff_eq, bne_iff_ne, beq_eq_false_iff_ne, bne_eq_false_iff_eq, ne_eq, Decidable.not_not, u64_wrap, i64_wrap]
    repeat' apply And.intro
    all_goals first | omega | exact tmodN _ _ (by omega) | exact tdivW1 _ _ (by omega) (by omega) (by omega) | (show _ = true; kernel_rfl)
  by_cases t10 : 2 < up
  · rw [show vld ⟨1, ba, rl, bit, ln, 1, up, ix, da⟩ = false by simp only [vld, vReg, Bool.and_eq_false_iff, decide_eq_false_iff_not]; omega]
    refine SC.run hm Try.func23 rfl [.dec true, .dec false, .dec false, .dec false, .num (rl - 1), .num (18446744073709551615 - (rl - 1)), .dec false, .dec false, .dec false, .num 1, .num (ba % 1), .dec false, .dec false, .dec true] [] rfl rfl ?_ (.inl rfl) (EndOK.plain rfl no_mem rfl rfl)
    simp only [true_and, and_true, and_assoc, decide_eq_true_eq, decide_eq_false_iff_not, beq_iff_eq, bne_iff_ne, beq_eq_false_iff_ne, bne_eq_false_iff_eq, ne_eq, Decidable.not_not, u64_wrap, i64_wrap]
    repeat' apply And.intro
    all_goals first | omega | exact tmodN _ _ (by omega) | exact tdivW1 _ _ (by omega) (by omega) (by omega) | (show _ = true; kernel_rfl)
  by_cases t11 : bit < 0
  · rw [show vld ⟨1, ba, rl, bit, ln, 1, up, ix, da⟩ = false by simp only [vld, vReg, Bool.and_eq_false_iff, decide_eq_false_iff_not]; omega]
    refine SC.run hm Try.func23 rfl [.dec true, .dec false, .dec false, .dec false, .num (rl - 1), .num (18446744073709551615 - (rl - 1)), .dec false, .dec false, .dec false, .num 1, .num (ba % 1), .dec false, .dec false, .dec false, .dec true] [] rfl rfl ?_ (.inl rfl) (EndOK.plain rfl no_mem rfl rfl)
    simp only [true_and, and_true, and_assoc, decide_eq_true_eq, decide_eq_false_iff_not, beq_iff_eq, bne_iff_ne, beq_eq_false_iff_ne, bne_eq_false_iff_eq, ne_eq, Decidable.not_not, u64_wrap, i64_wrap]
    repeat' apply And.intro
    all_goals first | omega | exact tmodN _ _ (by omega) | exact tdivW1 _ _ (by omega) (by omega) (by omega) | (show _ = true; kernel_rfl)
  by_cases t12 : 8388608 < bit
  · rw [show vld ⟨1, ba, rl, bit, ln, 1, up, ix, da⟩ = false by simp only [vld, vReg, Bool.and_eq_false_iff, decide_eq_false_iff_not]; omega]
    refine SC.run hm Try.func23 rfl [.dec true, .dec false, .dec false, .dec false, .num (rl - 1), .num (18446744073709551615 - (rl - 1)), .dec false, .dec false, .dec false, .num 1, .num (ba % 1), .dec false, .dec false, .dec false, .dec false, .dec true] [] rfl rfl ?_ (.inl rfl) (EndOK.plain rfl no_mem rfl rfl)
    simp only [true_and, and_true, and_assoc, decide_eq_true_eq, decide_eq_false_iff_not, beq_iff_eq, bne_iff_ne, beq_eq_false_iff_ne, bne_eq_false_iff_eq, ne_eq, Decidable.not_not, u64_wrap, i64_wrap]
    repeat' apply And.intro
    all_goals first | omega | exact tmodN _ _ (by omega) | exact tdivW1 _ _ (by omega) (by omega) (by omega) | (show _ = true; kernel_rfl)
  by_cases t13 : ln < 1
  · rw [show vld ⟨1, ba, rl, bit, ln, 1, up, ix, da⟩ = false by simp only [vld, vReg, Bool.and_eq_false_iff, decide_eq_false_iff_not]; omega]
    refine SC.run hm Try.func23 rfl [.dec true, .dec false, .dec false, .dec false, .num (rl - 1), .num (18446744073709551615 - (rl - 1)), .dec false, .dec false, .dec false, .num 1, .num (ba % 1), .dec false, .dec false, .dec false, .dec false, .dec false, .dec true] [] rfl rfl ?_ (.inl rfl) (EndOK.plain rfl no_mem rfl rfl)
    simp only [true_and, and_true, and_assoc, decide_eq_true_eq, decide_eq_false_iff_not, beq_iff_eq, bne_iff_ne, beq_eq_false_iff_ne, bne_eq_false_iff_eq, ne_eq, Decidable.not_not, u64_wrap, i64_wrap]
    repeat' apply And.intro
    all_goals first | omega | exact tmodN _ _ (by omega) | exact tdivW1 _ _ (by omega) (by omega) (by omega) | (show _ = true; kernel_rfl)
  by_cases t14 : 256 < ln
  · rw [show vld ⟨1, ba, rl, bit, ln, 1, up, ix, da⟩ = false by simp only [vld, vReg, Bool.and_eq_false_iff, decide_eq_false_iff_not]; omega]
    refine SC.run hm Try.func23 rfl [.dec true, .dec false, .dec false, .dec false, .num (rl - 1), .num (18446744073709551615 - (rl - 1)), .dec false, .dec false, .dec false, .num 1, .num (ba % 1), .dec false, .dec false, .dec false, .dec false, .dec false, .dec false, .dec true] [] rfl rfl ?_ (.inl rfl) (EndOK.plain rfl no_mem rfl rfl)
    simp only [true_and, and_true, and_assoc, decide_eq_true_eq, decide_eq_false_iff_not, beq_iff_eq, bne_iff_ne, beq_eq_false_iff_ne, bne_eq_false_iff_eq, ne_eq, Decidable.not_not, u64_wrap, i64_wrap]
    repeat' apply And.intro
    all_goals first | omega | exact tmodN _ _ (by omega) | exact tdivW1 _ _ (by omega) (by omega) (by omega) | (show _ = true; kernel_rfl)
  rw [show vld ⟨1, ba, rl, bit, ln, 1, up, ix, da⟩ = decide (((bit + ln - 1) / (8 * 1) + 1) * 1 ≤ rl) by simp only [vld, vReg]; rw [← Bool.decide_and, decide_eq_decide]; exact ⟨fun h => by omega, fun h => ⟨⟨by omega, by omega, by first | exact .inl ⟨.inl rfl, by omega⟩ | exact .inl ⟨.inr rfl, by omega⟩ | exact .inr ⟨rfl, by omega⟩ | exact .inr ⟨trivial, by omega⟩ | exact .inl ⟨.inl trivial, by omega⟩ | exact .inl ⟨.inr trivial, by omega⟩ | (simp; omega)⟩, by simp, by simp, by omega, by omega, by omega, by omega, by omega, by omega, by omega⟩⟩]
  refine SC.run hm Try.func23 rfl [.dec true, .dec false, .dec false, .dec false, .num (rl - 1), .num (18446744073709551615 - (rl - 1)), .dec false, .dec false, .dec false, .num 1, .num (ba % 1), .dec false, .dec false, .dec false, .dec false, .dec false, .dec false, .dec false, .num (bit + ln), .num (bit + ln - 1), .num (8 * 1), .num ((bit + ln - 1) / (8 * 1)), .num ((bit + ln - 1) / (8 * 1) + 1), .num (((bit + ln - 1) / (8 * 1) + 1) * 1), .num (((bit + ln - 1) / (8 * 1) + 1) * 1), .keep] [] rfl rfl ?_ (.inl rfl) (EndOK.plain rfl no_mem rfl rfl)
  simp only [true_and, and_true, and_assoc, decide_eq_true_eq, decide_eq_false_iff_not, beq_iff_eq, bne_iff_ne, beq_eq_false_iff_ne, bne_eq_false_iff_eq, ne_eq, Decidable.not_not, u64_wrap, i64_wrap]
  repeat' apply And.intro
  all_goals first | omega | exact tmodN _ _ (by omega) | exact tdivW1 _ _ (by omega) (by omega) (by omega) | (show _ = true; kernel_rfl)

set_option maxHeartbeats 16000000 in
theorem vf_1_2 (ba rl bit ln up ix da : Int) (ba1 : 0 ≤ ba) (ba2 : ba ≤ 18446744073709551615) (rl1 : 0 ≤ rl) (rl2 : rl ≤ 18446744073709551615) (bit1 : -9223372036854775808 ≤ bit) (bit2 : bit ≤ 9223372036854775807) (ln1 : -9223372036854775808 ≤ ln) (ln2 : ln ≤ 9223372036854775807) (up1 : -9223372036854775808 ≤ up) (up2 : up ≤ 9223372036854775807) (t0 : ¬ rl < 1) (t1 : ¬ 1048576 < rl) (t2 : ¬ 18446744073709551615 - (rl - 1) < ba) :
    SC Try.prog 23 [Fsp.v ⟨1, ba, rl, bit, ln, 2, up, ix, da⟩] 0 [] (.s (.bool (vld ⟨1, ba, rl, bit, ln, 2, up, ix, da⟩))) 0 [] := by
  by_cases t8 : ¬ ba % 2 = 0
  · rw [show vld ⟨1, ba, rl, bit, ln, 2, up, ix, da⟩ = false by simp only [vld, vReg, Bool.and_eq_false_iff, decide_eq_false_iff_not]; omega]
    refine SC.run hm Try.func23 rfl [.dec true, .dec false, .dec false, .dec false, .num (rl - 1), .num (18446744073709551615 - (rl - 1)), .dec false, .dec false, .dec true, .dec false, .num 2, .num (ba % 2), .dec true] [] rfl rfl ?_ (.inl rfl) (EndOK.plain rfl no_mem rfl rfl)
    simp only [true_and, and_true, and_assoc, decide_eq_true_eq, decide_eq_false_iff_not, beq_iff_eq, bne_iff_ne, beq_eq_false_iff_ne, bne_eq_false_iff_eq, ne_eq, Decidable.not_not, u64_wrap, i64_wrap]
    repeat' apply And.intro
    all_goals first | omega | exact tmodN _ _ (by omega) | exact tdivW1 _ _ (by omega) (by omega) (by omega) | (show _ = true; kernel_rfl)
  by_cases t9 : up < 0
  · rw [show vld ⟨1, ba, rl, bit, ln, 2, up, ix, da⟩ = false by simp only [vld, vReg, Bool.and_eq_false_iff, decide_eq_false_iff_not]; omega]
    refine SC.run hm Try.func23 rfl [.dec true, .dec false, .dec false, .dec false, .num (rl - 1), .num (18446744073709551615 - (rl - 1)), .dec false, .dec false, .dec true, .dec false, .num 2, .num (ba % 2), .dec false, .dec true] [] rfl rfl ?_ (.inl rfl) (EndOK.plain rfl no_mem rfl rfl)
    simp only [true_and, and_true, and_assoc, decide_eq_true_eq, decide_eq_false_iff_not, beq_iff_eq, bne_iff_ne, beq_eq_false_iff_ne, bne_eq_false_iff_eq, ne_eq, Decidable.not_not, u64_wrap, i64_wrap]
    repeat' apply And.intro
    all_goals first | omega | exact tmodN _ _ (by omega) | exact tdivW1 _ _ (by omega) (by omega) (by omega) | (show _ = true; kernel_rfl)
  by_cases t10 : 2 < up
  · rw [show vld ⟨1, ba, rl, bit, ln, 2, up, ix, da⟩ = false by simp only [vld, vReg, Bool.and_eq_false_iff, decide_eq_false_iff_not]; omega]
    refine SC.run hm Try.func23 rfl [.dec true, .dec false, .dec false, .dec false, .num (rl - 1), .num (18446744073709551615 - (rl - 1)), .dec false, .dec false, .dec true, .dec false, .num 2, .num (ba % 2), .dec false, .dec false, .dec true] [] rfl rfl ?_ (.inl rfl) (EndOK.plain rfl no_mem rfl rfl)
    simp only [true_and, and_true, and_assoc, decide_eq_true_eq, decide_eq_false_iff_not, beq_iff_eq, bne_iff_ne, beq_eq_false_iff_ne, bne_eq_false_iff_eq, ne_eq, Decidable.not_not, u64_wrap, i64_wrap]
    repeat' apply And.intro
    all_goals first | omega | exact tmodN _ _ (by omega) | exact tdivW1 _ _ (by omega) (by omega) (by omega) | (show _ = true; kernel_rfl)
  by_cases t11 : bit < 0
  · rw [show vld ⟨1, ba, rl, bit, ln, 2, up, ix, da⟩ = false by simp only [vld, vReg, Bool.and_eq_false_iff, decide_eq_false_iff_not]; omega]
    refine SC.run hm Try.func23 rfl [.dec true, .dec false, .dec false, .dec false, .num (rl - 1), .num (18446744073709551615 - (rl - 1)), .dec false, .dec false, .dec true, .dec false, .num 2, .num (ba % 2), .dec false, .dec false, .dec false, .dec true] [] rfl rfl ?_ (.inl rfl) (EndOK.plain rfl no_mem rfl rfl)
    simp only [true_and, and_true, and_assoc, decide_eq_true_eq, decide_eq_false_iff_not, beq_iff_eq, bne_iff_ne, beq_eq_false_iff_ne, bne_eq_false_iff_eq, ne_eq, Decidable.not_not, u64_wrap, i64_wrap]
    repeat' apply And.intro
    all_goals first | omega | exact tmodN _ _ (by omega) | exact tdivW1 _ _ (by omega) (by omega) (by omega) | (show _ = true; kernel_rfl)
  by_cases t12 : 8388608 < bit
  · rw [show vld ⟨1, ba, rl, bit, ln, 2, up, ix, da⟩ = false by simp only [vld, vReg, Bool.and_eq_false_iff, decide_eq_false_iff_not]; omega]
    refine SC.run hm Try.func23 rfl [.dec true, .dec false, .dec false, .dec false, .num (rl - 1), .num (18446744073709551615 - (rl - 1)), .dec false, .dec false, .dec true, .dec false, .num 2, .num (ba % 2), .dec false, .dec false, .dec false, .dec false, .dec true] [] rfl rfl ?_ (.inl rfl) (EndOK.plain rfl no_mem rfl rfl)
    simp only [true_and, and_true, and_assoc, decide_eq_true_eq, decide_eq_false_iff_not, beq_iff_eq, bne_iff_ne, beq_eq_false_iff_ne, bne_eq_false_iff_eq, ne_eq, Decidable.not_not, u64_wrap, i64_wrap]
    repeat' apply And.intro
    all_goals first | omega | exact tmodN _ _ (by omega) | exact tdivW1 _ _ (by omega) (by omega) (by omega) | (show _ = true; kernel_rfl)
  by_cases t13 : ln < 1
  · rw [show vld ⟨1, ba, rl, bit, ln, 2, up, ix, da⟩ = false by simp only [vld, vReg, Bool.and_eq_false_iff, decide_eq_false_iff_not]; omega]
    refine SC.run hm Try.func23 rfl [.dec true, .dec false, .dec false, .dec false, .num (rl - 1), .num (18446744073709551615 - (rl - 1)), .dec false, .dec false, .dec true, .dec false, .num 2, .num (ba % 2), .dec false, .dec false, .dec false, .dec false, .dec false, .dec true] [] rfl rfl ?_ (.inl rfl) (EndOK.plain rfl no_mem rfl rfl)
    simp only [true_and, and_true, and_assoc, decide_eq_true_eq, decide_eq_false_iff_not, beq_iff_eq, bne_iff_ne, beq_eq_false_iff_ne, bne_eq_false_iff_eq, ne_eq, Decidable.not_not, u64_wrap, i64_wrap]
    repeat' apply And.intro
    all_goals first | omega | exact tmodN _ _ (by omega) | exact tdivW1 _ _ (by omega) (by omega) (by omega) | (show _ = true; kernel_rfl)
  by_cases t14 : 256 < ln
  · rw [show vld ⟨1, ba, rl, bit, ln, 2, up, ix, da⟩ = false by simp only [vld, vReg, Bool.and_eq_false_iff, decide_eq_false_iff_not]; omega]
    refine SC.run hm Try.func23 rfl [.dec true, .dec false, .dec false, .dec false, .num (rl - 1), .num (18446744073709551615 - (rl - 1)), .dec false, .dec false, .dec true, .dec false, .num 2, .num (ba % 2), .dec false, .dec false, .dec false, .dec false, .dec false, .dec false, .dec true] [] rfl rfl ?_ (.inl rfl) (EndOK.plain rfl no_mem rfl rfl)
    simp only [true_and, and_true, and_assoc, decide_eq_true_eq, decide_eq_false_iff_not, beq_iff_eq, bne_iff_ne, beq_eq_false_iff_ne, bne_eq_false_iff_eq, ne_eq, Decidable.not_not, u64_wrap, i64_wrap]
    repeat' apply And.intro
    all_goals first | omega | exact tmodN _ _ (by omega) | exact tdivW1 _ _ (by omega) (by omega) (by omega) | (show _ = true; kernel_rfl)
  rw [show vld ⟨1, ba, rl, bit, ln, 2, up, ix, da⟩ = decide (((bit + ln - 1) / (8 * 2) + 1) * 2 ≤ rl) by simp only [vld, vReg]; rw [← Bool.decide_and, decide_eq_decide]; exact ⟨fun h => by omega, fun h => ⟨⟨by omega, by omega, by first | exact .inl ⟨.inl rfl, by omega⟩ | exact .inl ⟨.inr rfl, by omega⟩ | exact .inr ⟨rfl, by omega⟩ | exact .inr ⟨trivial, by omega⟩ | exact .inl ⟨.inl trivial, by omega⟩ | exact .inl ⟨.inr trivial, by omega⟩ | (simp; omega)⟩, by simp, by simp, by omega, by omega, by omega, by omega, by omega, by omega, by omega⟩⟩]
  refine SC.run hm Try.func23 rfl [.dec true, .dec false, .dec false, .dec false, .num (rl - 1), .num (18446744073709551615 - (rl - 1)), .dec false, .dec false, .dec true, .dec false, .num 2, .num (ba % 2), .dec false, .dec false, .dec false, .dec false, .dec false, .dec false, .dec false, .num (bit + ln), .num (bit + ln - 1), .num (8 * 2), .num ((bit + ln - 1) / (8 * 2)), .num ((bit + ln - 1) / (8 * 2) + 1), .num (((bit + ln - 1) / (8 * 2) + 1) * 2), .num (((bit + ln - 1) / (8 * 2) + 1) * 2), .keep] [] rfl rfl ?_ (.inl rfl) (EndOK.plain rfl no_mem rfl rfl)
  simp only [true_and, and_true, and_assoc, decide_eq_true_eq, decide_eq_false_iff_not, beq_iff_eq, bne_iff_ne, beq_eq_false_iff_ne, bne_eq_false_iff_eq, ne_eq, Decidable.not_not, u64_wrap, i64_wrap]
  repeat' apply And.intro
  all_goals first | omega | exact tmodN _ _ (by omega) | exact tdivW1 _ _ (by omega) (by omega) (by omega) | (show _ = true; kernel_rfl)

set_option maxHeartbeats 16000000 in
theorem vf_1_4 (ba rl bit ln up ix da : Int) (ba1 : 0 ≤ ba) (ba2 : ba ≤ 18446744073709551615) (rl1 : 0 ≤ rl) (rl2 : rl ≤ 18446744073709551615) (bit1 : -9223372036854775808 ≤ bit) (bit2 : bit ≤ 9223372036854775807) (ln1 : -9223372036854775808 ≤ ln) (ln2 : ln ≤ 9223372036854775807) (up1 : -9223372036854775808 ≤ up) (up2 : up ≤ 9223372036854775807) (t0 : ¬ rl < 1) (t1 : ¬ 1048576 < rl) (t2 : ¬ 18446744073709551615 - (rl - 1) < ba) :
    SC Try.prog 23 [Fsp.v ⟨1, ba, rl, bit, ln, 4, up, ix, da⟩] 0 [] (.s (.bool (vld ⟨1, ba, rl, bit, ln, 4, up, ix, da⟩))) 0 [] := by
  by_cases t8 : ¬ ba % 4 = 0
  · rw [show vld ⟨1, ba, rl, bit, ln, 4, up, ix, da⟩ = false by simp only [vld, vReg, Bool.and_eq_false_iff, decide_eq_false_iff_not]; omega]
    refine SC.run hm Try.func23 rfl [.dec true, .dec false, .dec false, .dec false, .num (rl - 1), .num (18446744073709551615 - (rl - 1)), .dec false, .dec false, .dec true, .dec true, .dec false, .num 4, .num (ba % 4), .dec true] [] rfl rfl ?_ (.inl rfl) (EndOK.plain rfl no_mem rfl rfl)
    simp only [true_and, and_true, and_assoc, decide_eq_true_eq, decide_eq_false_iff_not, beq_iff_eq, bne_iff_ne, beq_eq_false_iff_ne, bne_eq_false_iff_eq, ne_eq, Decidable.not_not, u64_wrap, i64_wrap]
    repeat' apply And.intro
    all_goals first | omega | exact tmodN _ _ (by omega) | exact tdivW1 _ _ (by omega) (by omega) (by omega) | (show _ = true; kernel_rfl)
  by_cases t9 : up < 0
  · rw [show vld ⟨1, ba, rl, bit, ln, 4, up, ix, da⟩ = false by simp only [vld, vReg, Bool.and_eq_false_iff, decide_eq_false_iff_not]; omega]
    refine SC.run hm Try.func23 rfl [.dec true, .dec false, .dec false, .dec false, .num (rl - 1), .num (18446744073709551615 - (rl - 1)), .dec false, .dec false, .dec true, .dec true, .dec false, .num 4, .num (ba % 4), .dec false, .dec true] [] rfl rfl ?_ (.inl rfl) (EndOK.plain rfl no_mem rfl rfl)
    simp only [true_and, and_true, and_assoc, decide_eq_true_eq, decide_eq_false_iff_not, beq_iff_eq, bne_iff_ne, beq_eq_false_iff_ne, bne_eq_false_iff_eq, ne_eq, Decidable.not_not, u64_wrap, i64_wrap]
    repeat' apply And.intro
    all_goals first | omega | exact tmodN _ _ (by omega) | exact tdivW1 _ _ (by omega) (by omega) (by omega) | (show _ = true; kernel_rfl)
  by_cases t10 : 2 < up
  · rw [show vld ⟨1, ba, rl, bit, ln, 4, up, ix, da⟩ = false by simp only [vld, vReg, Bool.and_eq_false_iff, decide_eq_false_iff_not]; omega]
    refine SC.run hm Try.func23 rfl [.dec true, .dec false, .dec false, .dec false, .num (rl - 1), .num (18446744073709551615 - (rl - 1)), .dec false, .dec false, .dec true, .dec true, .dec false, .num 4, .num (ba % 4), .dec false, .dec false, .dec true] [] rfl rfl ?_ (.inl rfl) (EndOK.plain rfl no_mem rfl rfl)
    simp only [true_and, and_true, and_assoc, decide_eq_true_eq, decide_eq_false_iff_not, beq_iff_eq, bne_iff_ne, beq_eq_false_iff_ne, bne_eq_false_iff_eq, ne_eq, Decidable.not_not, u64_wrap, i64_wrap]
    repeat' apply And.intro
    all_goals first | omega | exact tmodN _ _ (by omega) | exact tdivW1 _ _ (by omega) (by omega) (by omega) | (show _ = true; kernel_rfl)
  by_cases t11 : bit < 0
  · rw [show vld ⟨1, ba, rl, bit, ln, 4, up, ix, da⟩ = false by simp only [vld, vReg, Bool.and_eq_false_iff, decide_eq_false_iff_not]; omega]
    refine SC.run hm Try.func23 rfl [.dec true, .dec false, .dec false, .dec false, .num (rl - 1), .num (18446744073709551615 - (rl - 1)), .dec false, .dec false, .dec true, .dec true, .dec false, .num 4, .num (ba % 4), .dec false, .dec false, .dec false, .dec true] [] rfl rfl ?_ (.inl rfl) (EndOK.plain rfl no_mem rfl rfl)
    simp only [true_and, and_true, and_assoc, decide_eq_true_eq, decide_eq_false_iff_not, beq_iff_eq, bne_iff_ne, beq_eq_false_iff_ne, bne_eq_false_iff_eq, ne_eq, Decidable.not_not, u64_wrap, i64_wrap]
    repeat' apply And.intro
    all_goals first | omega | exact tmodN _ _ (by omega) | exact tdivW1 _ _ (by omega) (by omega) (by omega) | (show _ = true; kernel_rfl)
  by_cases t12 : 8388608 < bit
  · rw [show vld ⟨1, ba, rl, bit, ln, 4, up, ix, da⟩ = false by simp only [vld, vReg, Bool.and_eq_false_iff, decide_eq_false_iff_not]; omega]
    refine SC.run hm Try.func23 rfl [.dec true, .dec false, .dec false, .dec false, .num (rl - 1), .num (18446744073709551615 - (rl - 1)), .dec false, .dec false, .dec true, .dec true, .dec false, .num 4, .num (ba % 4), .dec false, .dec false, .dec false, .dec false, .dec true] [] rfl rfl ?_ (.inl rfl) (EndOK.plain rfl no_mem rfl rfl)
    simp only [true_and, and_true, and_assoc, decide_eq_true_eq, decide_eq_false_iff_not, beq_iff_eq, bne_iff_ne, beq_eq_false_iff_ne, bne_eq_false_iff_eq, ne_eq, Decidable.not_not, u64_wrap, i64_wrap]
    repeat' apply And.intro
    all_goals first | omega | exact tmodN _ _ (by omega) | exact tdivW1 _ _ (by omega) (by omega) (by omega) | (show _ = true; kernel_rfl)
  by_cases t13 : ln < 1
  · rw [show vld ⟨1, ba, rl, bit, ln, 4, up, ix, da⟩ = false by simp only [vld, vReg, Bool.and_eq_false_iff, decide_eq_false_iff_not]; omega]
    refine SC.run hm Try.func23 rfl [.dec true, .dec false, .dec false, .dec false, .num (rl - 1), .num (18446744073709551615 - (rl - 1)), .dec false, .dec false, .dec true, .dec true, .dec false, .num 4, .num (ba % 4), .dec false, .dec false, .dec false, .dec false, .dec false, .dec true] [] rfl rfl ?_ (.inl rfl) (EndOK.plain rfl no_mem rfl rfl)
    simp only [true_and, and_true, and_assoc, decide_eq_true_eq, decide_eq_false_iff_not, beq_iff_eq, bne_iff_ne, beq_eq_false_iff_ne, bne_eq_false_iff_eq, ne_eq, Decidable.not_not, u64_wrap, i64_wrap]
    repeat' apply And.intro
    all_goals first | omega | exact tmodN _ _ (by omega) | exact tdivW1 _ _ (by omega) (by omega) (by omega) | (show _ = true; kernel_rfl)
  by_cases t14 : 256 < ln
  · rw [show vld ⟨1, ba, rl, bit, ln, 4, up, ix, da⟩ = false by simp only [vld, vReg, Bool.and_eq_false_iff, decide_eq_false_iff_not]; omega]
    refine SC.run hm Try.func23 rfl [.dec true, .dec false, .dec false, .dec false, .num (rl - 1), .num (18446744073709551615 - (rl - 1)), .dec false, .dec false, .dec true, .dec true, .dec false, .num 4, .num (ba % 4), .dec false, .dec false, .dec false, .dec false, .dec false, .dec false, .dec true] [] rfl rfl ?_ (.inl rfl) (EndOK.plain rfl no_mem rfl rfl)
    simp only [true_and, and_true, and_assoc, decide_eq_true_eq, decide_eq_false_iff_not, beq_iff_eq, bne_iff_ne, beq_eq_false_iff_ne, bne_eq_false_iff_eq, ne_eq, Decidable.not_not, u64_wrap, i64_wrap]
    repeat' apply And.intro
    all_goals first | omega | exact tmodN _ _ (by omega) | exact tdivW1 _ _ (by omega) (by omega) (by omega) | (show _ = true; kernel_rfl)
  rw [show vld ⟨1, ba, rl, bit, ln, 4, up, ix, da⟩ = decide (((bit + ln - 1) / (8 * 4) + 1) * 4 ≤ rl) by simp only [vld, vReg]; rw [← Bool.decide_and, decide_eq_decide]; exact ⟨fun h => by omega, fun h => ⟨⟨by omega, by omega, by first | exact .inl ⟨.inl rfl, by omega⟩ | exact .inl ⟨.inr rfl, by omega⟩ | exact .inr ⟨rfl, by omega⟩ | exact .inr ⟨trivial, by omega⟩ | exact .inl ⟨.inl trivial, by omega⟩ | exact .inl ⟨.inr trivial, by omega⟩ | (simp; omega)⟩, by simp, by simp, by omega, by omega, by omega, by omega, by omega, by omega, by omega⟩⟩]
  refine SC.run hm Try.func23 rfl [.dec true, .dec false, .dec false, .dec false, .num (rl - 1), .num (18446744073709551615 - (rl - 1)), .dec false, .dec false, .dec true, .dec true, .dec false, .num 4, .num (ba % 4), .dec false, .dec false, .dec false, .dec false, .dec false, .dec false, .dec false, .num (bit + ln), .num (bit + ln - 1), .num (8 * 4), .num ((bit + ln - 1) / (8 * 4)), .num ((bit + ln - 1) / (8 * 4) + 1), .num (((bit + ln - 1) / (8 * 4) + 1) * 4), .num (((bit + ln - 1) / (8 * 4) + 1) * 4), .keep] [] rfl rfl ?_ (.inl rfl) (EndOK.plain rfl no_mem rfl rfl)
  simp only [true_and, and_true, and_assoc, decide_eq_true_eq, decide_eq_false_iff_not, beq_iff_eq, bne_iff_ne, beq_eq_false_iff_ne, bne_eq_false_iff_eq, ne_eq, Decidable.not_not, u64_wrap, i64_wrap]
  repeat' apply And.intro
  all_goals first | omega | exact tmodN _ _ (by omega) | exact tdivW1 _ _ (by omega) (by omega) (by omega) | (show _ = true; kernel_rfl)

set_option maxHeartbeats 16000000 in
theorem vf_1_8 (ba rl bit ln up ix da : Int) (ba1 : 0 ≤ ba) (ba2 : ba ≤ 18446744073709551615) (rl1 : 0 ≤ rl) (rl2 : rl ≤ 18446744073709551615) (bit1 : -9223372036854775808 ≤ bit) (bit2 : bit ≤ 9223372036854775807) (ln1 : -9223372036854775808 ≤ ln) (ln2 : ln ≤ 9223372036854775807) (up1 : -9223372036854775808 ≤ up) (up2 : up ≤ 9223372036854775807) (t0 : ¬ rl < 1) (t1 : ¬ 1048576 < rl) (t2 : ¬ 18446744073709551615 - (rl - 1) < ba) :
    SC Try.prog 23 [Fsp.v ⟨1, ba, rl, bit, ln, 8, up, ix, da⟩] 0 [] (.s (.bool (vld ⟨1, ba, rl, bit, ln, 8, up, ix, da⟩))) 0 [] := by
  by_cases t8 : ¬ ba % 8 = 0
  · rw [show vld ⟨1, ba, rl, bit, ln, 8, up, ix, da⟩ = false by simp only [vld, vReg, Bool.and_eq_false_iff, decide_eq_false_iff_not]; omega]
    refine SC.run hm Try.func23 rfl [.dec true, .dec false, .dec false, .dec false, .num (rl - 1), .num (18446744073709551615 - (rl - 1)), .dec false, .dec false, .dec true, .dec true, .dec true, .dec false, .num 8, .num (ba % 8), .dec true] [] rfl rfl ?_ (.inl rfl) (EndOK.plain rfl no_mem rfl rfl)
    simp only [true_and, and_true, and_assoc, decide_eq_true_eq, decide_eq_false_iff_not, beq_iff_eq, bne_iff_ne, beq_eq_false_iff_ne, bne_eq_false_iff_eq, ne_eq, Decidable.not_not, u64_wrap, i64_wrap]
    repeat' apply And.intro
    all_goals first | omega | exact tmodN _ _ (by omega) | exact tdivW1 _ _ (by omega) (by omega) (by omega) | (show _ = true; kernel_rfl)
  by_cases t9 : up < 0
  · rw [show vld ⟨1, ba, rl, bit, ln, 8, up, ix, da⟩ = false by simp only [vld, vReg, Bool.and_eq_false_iff, decide_eq_false_iff_not]; omega]
    refine SC.run hm Try.func23 rfl [.dec true, .dec false, .dec false, .dec false, .num (rl - 1), .num (18446744073709551615 - (rl - 1)), .dec false, .dec false, .dec true, .dec true, .dec true, .dec false, .num 8, .num (ba % 8), .dec false, .dec true] [] rfl rfl ?_ (.inl rfl) (EndOK.plain rfl no_mem rfl rfl)
    simp only [true_and, and_true, and_assoc, decide_eq_true_eq, decide_eq_false_iff_not, beq_iff_eq, bne_iff_ne, beq_eq_false_iff_ne, bne_eq_false_iff_eq, ne_eq, Decidable.not_not, u64_wrap, i64_wrap]
    repeat' apply And.intro
    all_goals first | omega | exact tmodN _ _ (by omega) | exact tdivW1 _ _ (by omega) (by omega) (by omega) | (show _ = true; kernel_rfl)
  by_cases t10 : 2 < up
  · rw [show vld ⟨1, ba, rl, bit, ln, 8, up, ix, da⟩ = false by simp only [vld, vReg, Bool.and_eq_false_iff, decide_eq_false_iff_not]; omega]
    refine SC.run hm Try.func23 rfl [.dec true, .dec false, .dec false, .dec false, .num (rl - 1), .num (18446744073709551615 - (rl - 1)), .dec false, .dec false, .dec true, .dec true, .dec true, .dec false, .num 8, .num (ba % 8), .dec false, .dec false, .dec true] [] rfl rfl ?_ (.inl rfl) (EndOK.plain rfl no_mem rfl rfl)
    simp only [true_and, and_true, and_assoc, decide_eq_true_eq, decide_eq_false_iff_not, beq_iff_eq, bne_iff_ne, beq_eq_false_iff_ne, bne_eq_false_iff_eq, ne_eq, Decidable.not_not, u64_wrap, i64_wrap]
    repeat' apply And.intro
    all_goals first | omega | exact tmodN _ _ (by omega) | exact tdivW1 _ _ (by omega) (by omega) (by omega) | (show _ = true; kernel_rfl)
  by_cases t11 : bit < 0
  · rw [show vld ⟨1, ba, rl, bit, ln, 8, up, ix, da⟩ = false by simp only [vld, vReg, Bool.and_eq_false_iff, decide_eq_false_iff_not]; omega]
    refine SC.run hm Try.func23 rfl [.dec true, .dec false, .dec false, .dec false, .num (rl - 1), .num (18446744073709551615 - (rl - 1)), .dec false, .dec false, .dec true, .dec true, .dec true, .dec false, .num 8, .num (ba % 8), .dec false, .dec false, .dec false, .dec true] [] rfl rfl ?_ (.inl rfl) (EndOK.plain rfl no_mem rfl rfl)
    simp only [true_and, and_true, and_assoc, decide_eq_true_eq, decide_eq_false_iff_not, beq_iff_eq, bne_iff_ne, beq_eq_false_iff_ne, bne_eq_false_iff_eq, ne_eq, Decidable.not_not, u64_wrap, i64_wrap]
    repeat' apply And.intro
    all_goals first | omega | exact tmodN _ _ (by omega) | exact tdivW1 _ _ (by omega) (by omega) (by omega) | (show _ = true; kernel_rfl)
  by_cases t12 : 8388608 < bit
  · rw [show vld ⟨1, ba, rl, bit, ln, 8, up, ix, da⟩ = false by simp only [vld, vReg, Bool.and_eq_false_iff, decide_eq_false_iff_not]; omega]
    refine SC.run hm Try.func23 rfl [.dec true, .dec false, .dec false, .dec false, .num (rl - 1), .num (18446744073709551615 - (rl - 1)), .dec false, .dec false, .dec true, .dec true, .dec true, .dec false, .num 8, .num (ba % 8), .dec false, .dec false, .dec false, .dec false, .dec true] [] rfl rfl ?_ (.inl rfl) (EndOK.plain rfl no_mem rfl rfl)
    simp only [true_and, and_true, and_assoc, decide_eq_true_eq, decide_eq_false_iff_not, beq_iff_eq, bne_iff_ne, beq_eq_false_iff_ne, bne_eq_false_iff_eq, ne_eq, Decidable.not_not, u64_wrap, i64_wrap]
    repeat' apply And.intro
    all_goals first | omega | exact tmodN _ _ (by omega) | exact tdivW1 _ _ (by omega) (by omega) (by omega) | (show _ = true; kernel_rfl)
  by_cases t13 : ln < 1
  · rw [show vld ⟨1, ba, rl, bit, ln, 8, up, ix, da⟩ = false by simp only [vld, vReg, Bool.and_eq_false_iff, decide_eq_false_iff_not]; omega]
    refine SC.run hm Try.func23 rfl [.dec true, .dec false, .dec false, .dec false, .num (rl - 1), .num (18446744073709551615 - (rl - 1)), .dec false, .dec false, .dec true, .dec true, .dec true, .dec false, .num 8, .num (ba % 8), .dec false, .dec false, .dec false, .dec false, .dec false, .dec true] [] rfl rfl ?_ (.inl rfl) (EndOK.plain rfl no_mem rfl rfl)
    simp only [true_and, and_true, and_assoc, decide_eq_true_eq, decide_eq_false_iff_not, beq_iff_eq, bne_iff_ne, beq_eq_false_iff_ne, bne_eq_false_iff_eq, ne_eq, Decidable.not_not, u64_wrap, i64_wrap]
    repeat' apply And.intro
    all_goals first | omega | exact tmodN _ _ (by omega) | exact tdivW1 _ _ (by omega) (by omega) (by omega) | (show _ = true; kernel_rfl)
  by_cases t14 : 256 < ln
  · rw [show vld ⟨1, ba, rl, bit, ln, 8, up, ix, da⟩ = false by simp only [vld, vReg, Bool.and_eq_false_iff, decide_eq_false_iff_not]; omega]
    refine SC.run hm Try.func23 rfl [.dec true, .dec false, .dec false, .dec false, .num (rl - 1), .num (18446744073709551615 - (rl - 1)), .dec false, .dec false, .dec true, .dec true, .dec true, .dec false, .num 8, .num (ba % 8), .dec false, .dec false, .dec false, .dec false, .dec false, .dec false, .dec true] [] rfl rfl ?_ (.inl rfl) (EndOK.plain rfl no_mem rfl rfl)
    simp only [true_and, and_true, and_assoc, decide_eq_true_eq, decide_eq_false_iff_not, beq_iff_eq, bne_iff_ne, beq_eq_false_iff_ne, bne_eq_false_iff_eq, ne_eq, Decidable.not_not, u64_wrap, i64_wrap]
    repeat' apply And.intro
    all_goals first | omega | exact tmodN _ _ (by omega) | exact tdivW1 _ _ (by omega) (by omega) (by omega) | (show _ = true; kernel_rfl)
  rw [show vld ⟨1, ba, rl, bit, ln, 8, up, ix, da⟩ = decide (((bit + ln - 1) / (8 * 8) + 1) * 8 ≤ rl) by simp only [vld, vReg]; rw [← Bool.decide_and, decide_eq_decide]; exact ⟨fun h => by omega, fun h => ⟨⟨by omega, by omega, by first | exact .inl ⟨.inl rfl, by omega⟩ | exact .inl ⟨.inr rfl, by omega⟩ | exact .inr ⟨rfl, by omega⟩ | exact .inr ⟨trivial, by omega⟩ | exact .inl ⟨.inl trivial, by omega⟩ | exact .inl ⟨.inr trivial, by omega⟩ | (simp; omega)⟩, by simp, by simp, by omega, by omega, by omega, by omega, by omega, by omega, by omega⟩⟩]
  refine SC.run hm Try.func23 rfl [.dec true, .dec false, .dec false, .dec false, .num (rl - 1), .num (18446744073709551615 - (rl - 1)), .dec false, .dec false, .dec true, .dec true, .dec true, .dec false, .num 8, .num (ba % 8), .dec false, .dec false, .dec false, .dec false, .dec false, .dec false, .dec false, .num (bit + ln), .num (bit + ln - 1), .num (8 * 8), .num ((bit + ln - 1) / (8 * 8)), .num ((bit + ln - 1) / (8 * 8) + 1), .num (((bit + ln - 1) / (8 * 8) + 1) * 8), .num (((bit + ln - 1) / (8 * 8) + 1) * 8), .keep] [] rfl rfl ?_ (.inl rfl) (EndOK.plain rfl no_mem rfl rfl)
  simp only [true_and, and_true, and_assoc, decide_eq_true_eq, decide_eq_false_iff_not, beq_iff_eq, bne_iff_ne, beq_eq_false_iff_ne, bne_eq_false_iff_eq, ne_eq, Decidable.not_not, u64_wrap, i64_wrap]
  repeat' apply And.intro
  all_goals first | omega | exact tmodN _ _ (by omega) | exact tdivW1 _ _ (by omega) (by omega) (by omega) | (show _ = true; kernel_rfl)

set_option maxHeartbeats 16000000 in
theorem vf_1 (ba rl bit ln wd up ix da : Int) (ba1 : 0 ≤ ba) (ba2 : ba ≤ 18446744073709551615) (rl1 : 0 ≤ rl) (rl2 : rl ≤ 18446744073709551615) (bit1 : -9223372036854775808 ≤ bit) (bit2 : bit ≤ 9223372036854775807) (ln1 : -9223372036854775808 ≤ ln) (ln2 : ln ≤ 9223372036854775807) (up1 : -9223372036854775808 ≤ up) (up2 : up ≤ 9223372036854775807) :
    SC Try.prog 23 [Fsp.v ⟨1, ba, rl, bit, ln, wd, up, ix, da⟩] 0 [] (.s (.bool (vld ⟨1, ba, rl, bit, ln, wd, up, ix, da⟩))) 0 [] := by
  by_cases t0 : rl < 1
  · rw [show vld ⟨1, ba, rl, bit, ln, wd, up, ix, da⟩ = false by simp only [vld, vReg, Bool.and_eq_false_iff, decide_eq_false_iff_not]; omega]
    refine SC.run hm Try.func23 rfl [.dec true, .dec false, .dec true] [] rfl rfl ?_ (.inl rfl) (EndOK.plain rfl no_mem rfl rfl)
    simp only [true_and, and_true, and_assoc, decide_eq_true_eq, decide_eq_false_iff_not, beq_iff_eq, bne_iff_ne, beq_eq_false_iff_ne, bne_eq_false_iff_eq, ne_eq, Decidable.not_not, u64_wrap, i64_wrap]
    repeat' apply And.intro
    all_goals first | omega | exact tmodN _ _ (by omega) | exact tdivW1 _ _ (by omega) (by omega) (by omega) | (show _ = true; kernel_rfl)
  by_cases t1 : 1048576 < rl
  · rw [show vld ⟨1, ba, rl, bit, ln, wd, up, ix, da⟩ = false by simp only [vld, vReg, Bool.and_eq_false_iff, decide_eq_false_iff_not]; omega]
    refine SC.run hm Try.func23 rfl [.dec true, .dec false, .dec false, .dec true] [] rfl rfl ?_ (.inl rfl) (EndOK.plain rfl no_mem rfl rfl)
    simp only [true_and, and_true, and_assoc, decide_eq_true_eq, decide_eq_false_iff_not, beq_iff_eq, bne_iff_ne, beq_eq_false_iff_ne, bne_eq_false_iff_eq, ne_eq, Decidable.not_not, u64_wrap, i64_wrap]
    repeat' apply And.intro
    all_goals first | omega | exact tmodN _ _ (by omega) | exact tdivW1 _ _ (by omega) (by omega) (by omega) | (show _ = true; kernel_rfl)
  by_cases t2 : 18446744073709551615 - (rl - 1) < ba
  · rw [show vld ⟨1, ba, rl, bit, ln, wd, up, ix, da⟩ = false by simp only [vld, vReg, Bool.and_eq_false_iff, decide_eq_false_iff_not]; omega]
    refine SC.run hm Try.func23 rfl [.dec true, .dec false, .dec false, .dec false, .num (rl - 1), .num (18446744073709551615 - (rl - 1)), .dec true] [] rfl rfl ?_ (.inl rfl) (EndOK.plain rfl no_mem rfl rfl)
    simp only [true_and, and_true, and_assoc, decide_eq_true_eq, decide_eq_false_iff_not, beq_iff_eq, bne_iff_ne, beq_eq_false_iff_ne, bne_eq_false_iff_eq, ne_eq, Decidable.not_not, u64_wrap, i64_wrap]
    repeat' apply And.intro
    all_goals first | omega | exact tmodN _ _ (by omega) | exact tdivW1 _ _ (by omega) (by omega) (by omega) | (show _ = true; kernel_rfl)
  by_cases w1 : wd = 1
  · subst w1
    exact vf_1_1 ba rl bit ln up ix da ba1 ba2 rl1 rl2 bit1 bit2 ln1 ln2 up1 up2 t0 t1 t2
  by_cases w2 : wd = 2
  · subst w2
    exact vf_1_2 ba rl bit ln up ix da ba1 ba2 rl1 rl2 bit1 bit2 ln1 ln2 up1 up2 t0 t1 t2
  by_cases w4 : wd = 4
  · subst w4
    exact vf_1_4 ba rl bit ln up ix da ba1 ba2 rl1 rl2 bit1 bit2 ln1 ln2 up1 up2 t0 t1 t2
  by_cases w8 : wd = 8
  · subst w8
    exact vf_1_8 ba rl bit ln up ix da ba1 ba2 rl1 rl2 bit1 bit2 ln1 ln2 up1 up2 t0 t1 t2
  rw [show vld ⟨1, ba, rl, bit, ln, wd, up, ix, da⟩ = false by simp only [vld, vReg, Bool.and_eq_false_iff, decide_eq_false_iff_not]; omega]
  refine SC.run hm Try.func23 rfl [.dec true, .dec false, .dec false, .dec false, .num (rl - 1), .num (18446744073709551615 - (rl - 1)), .dec false, .dec false, .dec true, .dec true, .dec true, .dec true] [] rfl rfl ?_ (.inl rfl) (EndOK.plain rfl no_mem rfl rfl)
  simp only [true_and, and_true, and_assoc, decide_eq_true_eq, decide_eq_false_iff_not, beq_iff_eq, bne_iff_ne, beq_eq_false_iff_ne, bne_eq_false_iff_eq, ne_eq, Decidable.not_not, u64_wrap, i64_wrap]
  repeat' apply And.intro
  all_goals first | omega | exact tmodN _ _ (by omega) | exact tdivW1 _ _ (by omega) (by omega) (by omega) | (show _ = true; kernel_rfl)

end Go.Proofs.Ytgnidbokllmhhaa
