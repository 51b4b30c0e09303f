/-
  field.Valid and ref.ValidField: what they compute.
-/
import Derived.Test.YtgnidbokllmhhaaLa
import Derived.KernelRfl
set_option linter.unusedSimpArgs false
set_option linter.unusedVariables false
namespace Go.Proofs.Ytgnidbokllmhhaa
open Go Ab
set_option maxRecDepth 100000

theorem tmodN (x y : Int) (h : 0 ≤ x) : x.tmod y = x % y := Int.tmod_eq_emod_of_nonneg h
theorem tdivN (x y : Int) (h : 0 ≤ x) (hy : 0 < y) (hx : x ≤ 18446744073709551615) : x.tdiv y % 18446744073709551616 = x / y := by
  rw [Int.tdiv_eq_ediv_of_nonneg h]
  have h1 := Int.ediv_nonneg h (Int.le_of_lt hy)
  have h2 := Int.ediv_le_self y h
  omega
theorem tdivM (x y : Int) (h : 0 ≤ x) (hy : 0 < y) (hx : x ≤ 9223372036854775807) : (x.tdiv y + 9223372036854775808) % 18446744073709551616 - 9223372036854775808 = x / y := by
  rw [Int.tdiv_eq_ediv_of_nonneg h]
  have h1 := Int.ediv_nonneg h (Int.le_of_lt hy)
  have h2 := Int.ediv_le_self y h
  omega

def vld (f : Fsp) : Bool := vReg f.sp f.ba f.rl && decide ((f.wd = 1 ∨ f.wd = 2 ∨ f.wd = 4 ∨ f.wd = 8) ∧ (f.sp ≠ 3 ∨ f.wd = 1) ∧ f.ba % f.wd = 0 ∧ 0 ≤ f.up ∧ f.up ≤ 2 ∧ 0 ≤ f.bit ∧ 1 ≤ f.ln ∧ f.ln ≤ 256 ∧ (f.bit + f.ln - 1) / (8 * f.wd) < f.rl / f.wd)

/-- the two tests of field.Valid behind the width -/
def vA (sp ba w : Int) : Bool := (sp == 3 && w != 1) || ba % w != 0
def vB (up bit ln : Int) : Bool := decide (up < 0) || decide (up > 2) || decide (bit < 0) || decide (ln < 1) || decide (ln > 256)

theorem valid_1 (sp ba rl bit ln up ix da : Int) (ba1 : 0 ≤ ba) (ba2 : ba ≤ 18446744073709551615) (rl1 : 0 ≤ rl) (rl2 : rl ≤ 18446744073709551615) (bit2 : bit ≤ 9223372036854775807) (hv : vReg sp ba rl = true) : SC Try.prog 30 [(⟨sp, ba, rl, bit, ln, 1, up, ix, da⟩ : Fsp).v] 0 [] (.s (.bool (vld ⟨sp, ba, rl, bit, ln, 1, up, ix, da⟩))) 0 [] := by
  have hr := validRegion_s sp ba rl ba1 ba2 rl1 rl2
  rw [hv] at hr
  have hu := unitBits_s ⟨sp, ba, rl, bit, ln, 1, up, ix, da⟩ (by simp) (by simp)
  have em := tmodN ba 1 ba1
  cases hA : vA sp ba 1 with
  | true =>
    rw [show vld ⟨sp, ba, rl, bit, ln, 1, up, ix, da⟩ = false by simp only [vA, Bool.or_eq_true, Bool.and_eq_true, beq_iff_eq, bne_iff_ne] at hA; simp only [vld, hv, Bool.true_and]; exact decide_eq_false (by omega)]
    refine SC.run hm Try.func30 rfl [.call [] [.agg [.int .i64 sp, .int .u64 ba, .int .u64 rl]] [] (.s (.bool true)) 0 [], .dec true, .lazy [.num 1, .num (ba % 1)] [(33, true)]] [] rfl rfl ?_ (.inl rfl) (EndOK.plain rfl no_mem rfl rfl)
    simp only [true_and, and_true, and_assoc, and_self, imp_self, implies_true, Bool.not_eq_true', ne_eq, u64_wrap, i64_wrap, em]
    refine ⟨by kernel_rfl, call0 hr rfl, ?_⟩
    repeat' apply And.intro
    all_goals first | rfl | exact hA | exact fun _ => (by omega) | exact fun h => ⟨h, by omega⟩ | exact fun h => ⟨h, h, by omega⟩
  | false =>
    cases hB : vB up bit ln with
    | true =>
      rw [show vld ⟨sp, ba, rl, bit, ln, 1, up, ix, da⟩ = false by simp only [vB, Bool.or_eq_true, decide_eq_true_eq] at hB; simp only [vld, hv, Bool.true_and]; exact decide_eq_false (by omega)]
      refine SC.run hm Try.func30 rfl [.call [] [.agg [.int .i64 sp, .int .u64 ba, .int .u64 rl]] [] (.s (.bool true)) 0 [], .dec true, .lazy [.num 1, .num (ba % 1)] [(33, false)], .lazy [] [(56, true)]] [] rfl rfl ?_ (.inl rfl) (EndOK.plain rfl no_mem rfl rfl)
      simp only [true_and, and_true, and_assoc, and_self, imp_self, implies_true, Bool.not_eq_true', ne_eq, u64_wrap, i64_wrap, em]
      refine ⟨by kernel_rfl, call0 hr rfl, ?_⟩
      repeat' apply And.intro
      all_goals first | rfl | exact hA | exact hB | exact fun _ => (by omega) | exact fun h => ⟨h, by omega⟩ | exact fun h => ⟨h, h, by omega⟩
    | false =>
      have hA' := hA
      have hB' := hB
      simp only [vA, Bool.or_eq_false_iff, Bool.and_eq_false_iff, beq_eq_false_iff_ne, bne_eq_false_iff_eq, ne_eq, or_true, true_and] at hA'
      simp only [vB, Bool.or_eq_false_iff, decide_eq_false_iff_not] at hB'
      rw [show vld ⟨sp, ba, rl, bit, ln, 1, up, ix, da⟩ = decide ((bit + ln - 1) / 8 < rl / 1) by simp only [vld, hv, Bool.true_and, true_or, or_true, true_and]; rw [decide_eq_decide]; omega]
      have e1 := tdivN (bit + ln - 1) 8 (by omega) (by omega) (by omega)
      have e2 := tdivN rl 1 (by omega) (by omega) (by omega)
      refine SC.run hm Try.func30 rfl [.call [] [.agg [.int .i64 sp, .int .u64 ba, .int .u64 rl]] [] (.s (.bool true)) 0 [], .dec true, .lazy [.num 1, .num (ba % 1)] [(33, false)], .lazy [] [(56, false)], .num bit, .num ln, .num (bit + ln), .num (bit + ln - 1), .call [] [(⟨sp, ba, rl, bit, ln, 1, up, ix, da⟩ : Fsp).v] [] (.s (.int .u64 8)) 0 [], .num ((bit + ln - 1) / 8), .num 1, .num (rl / 1), .keep] [] rfl rfl ?_ (.inl rfl) (EndOK.plain rfl no_mem rfl rfl)
      simp only [true_and, and_true, and_assoc, and_self, imp_self, implies_true, Bool.not_eq_true', ne_eq, u64_wrap, i64_wrap, em, e1, e2]
      refine ⟨by kernel_rfl, call0 hr rfl, ?_⟩
      repeat' apply And.intro
      all_goals first | rfl | omega | exact hA | exact hB | exact fun _ => (by omega) | exact fun h => ⟨h, by omega⟩ | exact fun h => ⟨h, h, by omega⟩ | exact call0 hu rfl | (with_reducible show _ = true; kernel_rfl)

theorem valid_2 (sp ba rl bit ln up ix da : Int) (ba1 : 0 ≤ ba) (ba2 : ba ≤ 18446744073709551615) (rl1 : 0 ≤ rl) (rl2 : rl ≤ 18446744073709551615) (bit2 : bit ≤ 9223372036854775807) (hv : vReg sp ba rl = true) : SC Try.prog 30 [(⟨sp, ba, rl, bit, ln, 2, up, ix, da⟩ : Fsp).v] 0 [] (.s (.bool (vld ⟨sp, ba, rl, bit, ln, 2, up, ix, da⟩))) 0 [] := by
  have hr := validRegion_s sp ba rl ba1 ba2 rl1 rl2
  rw [hv] at hr
  have hu := unitBits_s ⟨sp, ba, rl, bit, ln, 2, up, ix, da⟩ (by simp) (by simp)
  have em := tmodN ba 2 ba1
  cases hA : vA sp ba 2 with
  | true =>
    rw [show vld ⟨sp, ba, rl, bit, ln, 2, up, ix, da⟩ = false by simp only [vA, Bool.or_eq_true, Bool.and_eq_true, beq_iff_eq, bne_iff_ne] at hA; simp only [vld, hv, Bool.true_and]; exact decide_eq_false (by omega)]
    refine SC.run hm Try.func30 rfl [.call [] [.agg [.int .i64 sp, .int .u64 ba, .int .u64 rl]] [] (.s (.bool true)) 0 [], .dec false, .dec true, .lazy [.num 2, .num (ba % 2)] [(33, true)]] [] rfl rfl ?_ (.inl rfl) (EndOK.plain rfl no_mem rfl rfl)
    simp only [true_and, and_true, and_assoc, and_self, imp_self, implies_true, Bool.not_eq_true', ne_eq, u64_wrap, i64_wrap, em]
    refine ⟨by kernel_rfl, call0 hr rfl, ?_⟩
    repeat' apply And.intro
    all_goals first | rfl | exact hA | exact fun _ => (by omega) | exact fun h => ⟨h, by omega⟩ | exact fun h => ⟨h, h, by omega⟩
  | false =>
    cases hB : vB up bit ln with
    | true =>
      rw [show vld ⟨sp, ba, rl, bit, ln, 2, up, ix, da⟩ = false by simp only [vB, Bool.or_eq_true, decide_eq_true_eq] at hB; simp only [vld, hv, Bool.true_and]; exact decide_eq_false (by omega)]
      refine SC.run hm Try.func30 rfl [.call [] [.agg [.int .i64 sp, .int .u64 ba, .int .u64 rl]] [] (.s (.bool true)) 0 [], .dec false, .dec true, .lazy [.num 2, .num (ba % 2)] [(33, false)], .lazy [] [(56, true)]] [] rfl rfl ?_ (.inl rfl) (EndOK.plain rfl no_mem rfl rfl)
      simp only [true_and, and_true, and_assoc, and_self, imp_self, implies_true, Bool.not_eq_true', ne_eq, u64_wrap, i64_wrap, em]
      refine ⟨by kernel_rfl, call0 hr rfl, ?_⟩
      repeat' apply And.intro
      all_goals first | rfl | exact hA | exact hB | exact fun _ => (by omega) | exact fun h => ⟨h, by omega⟩ | exact fun h => ⟨h, h, by omega⟩
    | false =>
      have hA' := hA
      have hB' := hB
      simp only [vA, Bool.or_eq_false_iff, Bool.and_eq_false_iff, beq_eq_false_iff_ne, bne_eq_false_iff_eq, ne_eq, or_true, true_and] at hA'
      simp only [vB, Bool.or_eq_false_iff, decide_eq_false_iff_not] at hB'
      rw [show vld ⟨sp, ba, rl, bit, ln, 2, up, ix, da⟩ = decide ((bit + ln - 1) / 16 < rl / 2) by simp only [vld, hv, Bool.true_and, true_or, or_true, true_and]; rw [decide_eq_decide]; omega]
      have e1 := tdivN (bit + ln - 1) 16 (by omega) (by omega) (by omega)
      have e2 := tdivN rl 2 (by omega) (by omega) (by omega)
      refine SC.run hm Try.func30 rfl [.call [] [.agg [.int .i64 sp, .int .u64 ba, .int .u64 rl]] [] (.s (.bool true)) 0 [], .dec false, .dec true, .lazy [.num 2, .num (ba % 2)] [(33, false)], .lazy [] [(56, false)], .num bit, .num ln, .num (bit + ln), .num (bit + ln - 1), .call [] [(⟨sp, ba, rl, bit, ln, 2, up, ix, da⟩ : Fsp).v] [] (.s (.int .u64 16)) 0 [], .num ((bit + ln - 1) / 16), .num 2, .num (rl / 2), .keep] [] rfl rfl ?_ (.inl rfl) (EndOK.plain rfl no_mem rfl rfl)
      simp only [true_and, and_true, and_assoc, and_self, imp_self, implies_true, Bool.not_eq_true', ne_eq, u64_wrap, i64_wrap, em, e1, e2]
      refine ⟨by kernel_rfl, call0 hr rfl, ?_⟩
      repeat' apply And.intro
      all_goals first | rfl | omega | exact hA | exact hB | exact fun _ => (by omega) | exact fun h => ⟨h, by omega⟩ | exact fun h => ⟨h, h, by omega⟩ | exact call0 hu rfl | (with_reducible show _ = true; kernel_rfl)

theorem valid_4 (sp ba rl bit ln up ix da : Int) (ba1 : 0 ≤ ba) (ba2 : ba ≤ 18446744073709551615) (rl1 : 0 ≤ rl) (rl2 : rl ≤ 18446744073709551615) (bit2 : bit ≤ 9223372036854775807) (hv : vReg sp ba rl = true) : SC Try.prog 30 [(⟨sp, ba, rl, bit, ln, 4, up, ix, da⟩ : Fsp).v] 0 [] (.s (.bool (vld ⟨sp, ba, rl, bit, ln, 4, up, ix, da⟩))) 0 [] := by
  have hr := validRegion_s sp ba rl ba1 ba2 rl1 rl2
  rw [hv] at hr
  have hu := unitBits_s ⟨sp, ba, rl, bit, ln, 4, up, ix, da⟩ (by simp) (by simp)
  have em := tmodN ba 4 ba1
  cases hA : vA sp ba 4 with
  | true =>
    rw [show vld ⟨sp, ba, rl, bit, ln, 4, up, ix, da⟩ = false by simp only [vA, Bool.or_eq_true, Bool.and_eq_true, beq_iff_eq, bne_iff_ne] at hA; simp only [vld, hv, Bool.true_and]; exact decide_eq_false (by omega)]
    refine SC.run hm Try.func30 rfl [.call [] [.agg [.int .i64 sp, .int .u64 ba, .int .u64 rl]] [] (.s (.bool true)) 0 [], .dec false, .dec false, .dec true, .lazy [.num 4, .num (ba % 4)] [(33, true)]] [] rfl rfl ?_ (.inl rfl) (EndOK.plain rfl no_mem rfl rfl)
    simp only [true_and, and_true, and_assoc, and_self, imp_self, implies_true, Bool.not_eq_true', ne_eq, u64_wrap, i64_wrap, em]
    refine ⟨by kernel_rfl, call0 hr rfl, ?_⟩
    repeat' apply And.intro
    all_goals first | rfl | exact hA | exact fun _ => (by omega) | exact fun h => ⟨h, by omega⟩ | exact fun h => ⟨h, h, by omega⟩
  | false =>
    cases hB : vB up bit ln with
    | true =>
      rw [show vld ⟨sp, ba, rl, bit, ln, 4, up, ix, da⟩ = false by simp only [vB, Bool.or_eq_true, decide_eq_true_eq] at hB; simp only [vld, hv, Bool.true_and]; exact decide_eq_false (by omega)]
      refine SC.run hm Try.func30 rfl [.call [] [.agg [.int .i64 sp, .int .u64 ba, .int .u64 rl]] [] (.s (.bool true)) 0 [], .dec false, .dec false, .dec true, .lazy [.num 4, .num (ba % 4)] [(33, false)], .lazy [] [(56, true)]] [] rfl rfl ?_ (.inl rfl) (EndOK.plain rfl no_mem rfl rfl)
      simp only [true_and, and_true, and_assoc, and_self, imp_self, implies_true, Bool.not_eq_true', ne_eq, u64_wrap, i64_wrap, em]
      refine ⟨by kernel_rfl, call0 hr rfl, ?_⟩
      repeat' apply And.intro
      all_goals first | rfl | exact hA | exact hB | exact fun _ => (by omega) | exact fun h => ⟨h, by omega⟩ | exact fun h => ⟨h, h, by omega⟩
    | false =>
      have hA' := hA
      have hB' := hB
      simp only [vA, Bool.or_eq_false_iff, Bool.and_eq_false_iff, beq_eq_false_iff_ne, bne_eq_false_iff_eq, ne_eq, or_true, true_and] at hA'
      simp only [vB, Bool.or_eq_false_iff, decide_eq_false_iff_not] at hB'
      rw [show vld ⟨sp, ba, rl, bit, ln, 4, up, ix, da⟩ = decide ((bit + ln - 1) / 32 < rl / 4) by simp only [vld, hv, Bool.true_and, true_or, or_true, true_and]; rw [decide_eq_decide]; omega]
      have e1 := tdivN (bit + ln - 1) 32 (by omega) (by omega) (by omega)
      have e2 := tdivN rl 4 (by omega) (by omega) (by omega)
      refine SC.run hm Try.func30 rfl [.call [] [.agg [.int .i64 sp, .int .u64 ba, .int .u64 rl]] [] (.s (.bool true)) 0 [], .dec false, .dec false, .dec true, .lazy [.num 4, .num (ba % 4)] [(33, false)], .lazy [] [(56, false)], .num bit, .num ln, .num (bit + ln), .num (bit + ln - 1), .call [] [(⟨sp, ba, rl, bit, ln, 4, up, ix, da⟩ : Fsp).v] [] (.s (.int .u64 32)) 0 [], .num ((bit + ln - 1) / 32), .num 4, .num (rl / 4), .keep] [] rfl rfl ?_ (.inl rfl) (EndOK.plain rfl no_mem rfl rfl)
      simp only [true_and, and_true, and_assoc, and_self, imp_self, implies_true, Bool.not_eq_true', ne_eq, u64_wrap, i64_wrap, em, e1, e2]
      refine ⟨by kernel_rfl, call0 hr rfl, ?_⟩
      repeat' apply And.intro
      all_goals first | rfl | omega | exact hA | exact hB | exact fun _ => (by omega) | exact fun h => ⟨h, by omega⟩ | exact fun h => ⟨h, h, by omega⟩ | exact call0 hu rfl | (with_reducible show _ = true; kernel_rfl)

theorem valid_8 (sp ba rl bit ln up ix da : Int) (ba1 : 0 ≤ ba) (ba2 : ba ≤ 18446744073709551615) (rl1 : 0 ≤ rl) (rl2 : rl ≤ 18446744073709551615) (bit2 : bit ≤ 9223372036854775807) (hv : vReg sp ba rl = true) : SC Try.prog 30 [(⟨sp, ba, rl, bit, ln, 8, up, ix, da⟩ : Fsp).v] 0 [] (.s (.bool (vld ⟨sp, ba, rl, bit, ln, 8, up, ix, da⟩))) 0 [] := by
  have hr := validRegion_s sp ba rl ba1 ba2 rl1 rl2
  rw [hv] at hr
  have hu := unitBits_s ⟨sp, ba, rl, bit, ln, 8, up, ix, da⟩ (by simp) (by simp)
  have em := tmodN ba 8 ba1
  cases hA : vA sp ba 8 with
  | true =>
    rw [show vld ⟨sp, ba, rl, bit, ln, 8, up, ix, da⟩ = false by simp only [vA, Bool.or_eq_true, Bool.and_eq_true, beq_iff_eq, bne_iff_ne] at hA; simp only [vld, hv, Bool.true_and]; exact decide_eq_false (by omega)]
    refine SC.run hm Try.func30 rfl [.call [] [.agg [.int .i64 sp, .int .u64 ba, .int .u64 rl]] [] (.s (.bool true)) 0 [], .dec false, .dec false, .dec false, .dec true, .lazy [.num 8, .num (ba % 8)] [(33, true)]] [] rfl rfl ?_ (.inl rfl) (EndOK.plain rfl no_mem rfl rfl)
    simp only [true_and, and_true, and_assoc, and_self, imp_self, implies_true, Bool.not_eq_true', ne_eq, u64_wrap, i64_wrap, em]
    refine ⟨by kernel_rfl, call0 hr rfl, ?_⟩
    repeat' apply And.intro
    all_goals first | rfl | exact hA | exact fun _ => (by omega) | exact fun h => ⟨h, by omega⟩ | exact fun h => ⟨h, h, by omega⟩
  | false =>
    cases hB : vB up bit ln with
    | true =>
      rw [show vld ⟨sp, ba, rl, bit, ln, 8, up, ix, da⟩ = false by simp only [vB, Bool.or_eq_true, decide_eq_true_eq] at hB; simp only [vld, hv, Bool.true_and]; exact decide_eq_false (by omega)]
      refine SC.run hm Try.func30 rfl [.call [] [.agg [.int .i64 sp, .int .u64 ba, .int .u64 rl]] [] (.s (.bool true)) 0 [], .dec false, .dec false, .dec false, .dec true, .lazy [.num 8, .num (ba % 8)] [(33, false)], .lazy [] [(56, true)]] [] rfl rfl ?_ (.inl rfl) (EndOK.plain rfl no_mem rfl rfl)
      simp only [true_and, and_true, and_assoc, and_self, imp_self, implies_true, Bool.not_eq_true', ne_eq, u64_wrap, i64_wrap, em]
      refine ⟨by kernel_rfl, call0 hr rfl, ?_⟩
      repeat' apply And.intro
      all_goals first | rfl | exact hA | exact hB | exact fun _ => (by omega) | exact fun h => ⟨h, by omega⟩ | exact fun h => ⟨h, h, by omega⟩
    | false =>
      have hA' := hA
      have hB' := hB
      simp only [vA, Bool.or_eq_false_iff, Bool.and_eq_false_iff, beq_eq_false_iff_ne, bne_eq_false_iff_eq, ne_eq, or_true, true_and] at hA'
      simp only [vB, Bool.or_eq_false_iff, decide_eq_false_iff_not] at hB'
      rw [show vld ⟨sp, ba, rl, bit, ln, 8, up, ix, da⟩ = decide ((bit + ln - 1) / 64 < rl / 8) by simp only [vld, hv, Bool.true_and, true_or, or_true, true_and]; rw [decide_eq_decide]; omega]
      have e1 := tdivN (bit + ln - 1) 64 (by omega) (by omega) (by omega)
      have e2 := tdivN rl 8 (by omega) (by omega) (by omega)
      refine SC.run hm Try.func30 rfl [.call [] [.agg [.int .i64 sp, .int .u64 ba, .int .u64 rl]] [] (.s (.bool true)) 0 [], .dec false, .dec false, .dec false, .dec true, .lazy [.num 8, .num (ba % 8)] [(33, false)], .lazy [] [(56, false)], .num bit, .num ln, .num (bit + ln), .num (bit + ln - 1), .call [] [(⟨sp, ba, rl, bit, ln, 8, up, ix, da⟩ : Fsp).v] [] (.s (.int .u64 64)) 0 [], .num ((bit + ln - 1) / 64), .num 8, .num (rl / 8), .keep] [] rfl rfl ?_ (.inl rfl) (EndOK.plain rfl no_mem rfl rfl)
      simp only [true_and, and_true, and_assoc, and_self, imp_self, implies_true, Bool.not_eq_true', ne_eq, u64_wrap, i64_wrap, em, e1, e2]
      refine ⟨by kernel_rfl, call0 hr rfl, ?_⟩
      repeat' apply And.intro
      all_goals first | rfl | omega | exact hA | exact hB | exact fun _ => (by omega) | exact fun h => ⟨h, by omega⟩ | exact fun h => ⟨h, h, by omega⟩ | exact call0 hu rfl | (with_reducible show _ = true; kernel_rfl)

theorem valid_s (f : Fsp) (hf : f.ok) : SC Try.prog 30 [f.v] 0 [] (.s (.bool (vld f))) 0 [] := by
  obtain ⟨⟨sp1, sp2⟩, ⟨ba1, ba2⟩, ⟨rl1, rl2⟩, ⟨bit1, bit2⟩, ⟨ln1, ln2⟩, ⟨wd1, wd2⟩, ⟨up1, up2⟩, _, _⟩ := hf
  obtain ⟨sp, ba, rl, bit, ln, wd, up, ix, da⟩ := f
  dsimp only at *
  have hr := validRegion_s sp ba rl ba1 ba2 rl1 rl2
  cases hv : vReg sp ba rl with
  | false =>
    rw [hv] at hr
    rw [show vld ⟨sp, ba, rl, bit, ln, wd, up, ix, da⟩ = false by simp only [vld, hv, Bool.false_and]]
    refine SC.run hm Try.func30 rfl [.call [] [.agg [.int .i64 sp, .int .u64 ba, .int .u64 rl]] [] (.s (.bool false)) 0 []] [] rfl rfl ?_ (.inl rfl) (EndOK.plain rfl no_mem rfl rfl)
    simp only [true_and, and_true, and_assoc]
    exact ⟨by kernel_rfl, call0 hr rfl⟩
  | true =>
    by_cases w1 : wd = 1
    · subst w1; exact valid_1 sp ba rl bit ln up ix da ba1 ba2 rl1 rl2 bit2 hv
    by_cases w2 : wd = 2
    · subst w2; exact valid_2 sp ba rl bit ln up ix da ba1 ba2 rl1 rl2 bit2 hv
    by_cases w4 : wd = 4
    · subst w4; exact valid_4 sp ba rl bit ln up ix da ba1 ba2 rl1 rl2 bit2 hv
    by_cases w8 : wd = 8
    · subst w8; exact valid_8 sp ba rl bit ln up ix da ba1 ba2 rl1 rl2 bit2 hv
    rw [hv] at hr
    rw [show vld ⟨sp, ba, rl, bit, ln, wd, up, ix, da⟩ = false by simp only [vld, hv, Bool.true_and]; exact decide_eq_false (by omega)]
    refine SC.run hm Try.func30 rfl [.call [] [.agg [.int .i64 sp, .int .u64 ba, .int .u64 rl]] [] (.s (.bool true)) 0 [], .dec false, .dec false, .dec false, .dec false] [] rfl rfl ?_ (.inl rfl) (EndOK.plain rfl no_mem rfl rfl)
    simp only [true_and, and_true, and_assoc, beq_eq_false_iff_ne, ne_eq]
    exact ⟨by kernel_rfl, call0 hr rfl, w1, w2, w4, w8⟩

/-! ### ref.ValidField -/
def rA (sp ba rl : Int) : Bool := (((((sp != 0 && sp != 1) && sp != 3) || decide (rl < 1)) || decide (rl > 1048576)) || decide (ba > 18446744073709551615 - (rl - 1)))
def rB (sp ba rl w : Int) : Bool := sp == 3 && ((decide (ba > 255) || decide (ba + rl > 256)) || w != 1)
def rC (ba w up : Int) : Bool := (((((w != 1 && w != 2) && w != 4) && w != 8) || ba % w != 0) || decide (up < 0)) || decide (up > 2)
def rD (bit ln : Int) : Bool := ((decide (bit < 0) || decide (bit > 8388608)) || decide (ln < 1)) || decide (ln > 256)

theorem vld_A {sp ba rl bit ln wd up ix da : Int} (rl1 : 0 ≤ rl) (h : rA sp ba rl = true) : vld ⟨sp, ba, rl, bit, ln, wd, up, ix, da⟩ = false := by
  simp only [rA, Bool.or_eq_true, Bool.and_eq_true, bne_iff_ne, decide_eq_true_eq, ne_eq] at h
  simp only [vld, vReg, Bool.and_eq_false_iff, decide_eq_false_iff_not]; omega
theorem vld_B {sp ba rl bit ln wd up ix da : Int} (hA : rA sp ba rl = false) (h : rB sp ba rl wd = true) : vld ⟨sp, ba, rl, bit, ln, wd, up, ix, da⟩ = false := by
  simp only [rA, Bool.or_eq_false_iff, Bool.and_eq_false_iff, bne_eq_false_iff_eq, decide_eq_false_iff_not] at hA
  simp only [rB, Bool.or_eq_true, Bool.and_eq_true, beq_iff_eq, bne_iff_ne, decide_eq_true_eq, ne_eq] at h
  simp only [vld, vReg, Bool.and_eq_false_iff, decide_eq_false_iff_not]; omega
theorem vld_C {sp ba rl bit ln wd up ix da : Int} (h : rC ba wd up = true) : vld ⟨sp, ba, rl, bit, ln, wd, up, ix, da⟩ = false := by
  simp only [rC, Bool.or_eq_true, Bool.and_eq_true, bne_iff_ne, decide_eq_true_eq, ne_eq] at h
  simp only [vld, vReg, Bool.and_eq_false_iff, decide_eq_false_iff_not]
  right
  rintro ⟨h1, h2, h3, h4, h5, h6⟩
  rcases h1 with rfl | rfl | rfl | rfl <;> omega
theorem vld_D {sp ba rl bit ln wd up ix da : Int} (rl2 : rl ≤ 1048576) (hw : wd = 1 ∨ wd = 2 ∨ wd = 4 ∨ wd = 8) (h : rD bit ln = true) : vld ⟨sp, ba, rl, bit, ln, wd, up, ix, da⟩ = false := by
  simp only [rD, Bool.or_eq_true, decide_eq_true_eq] at h
  simp only [vld, vReg, Bool.and_eq_false_iff, decide_eq_false_iff_not]
  right
  rintro ⟨h1, h2, h3, h4, h5, h6, h7, h8, h9⟩
  rcases hw with rfl | rfl | rfl | rfl <;> omega

set_option maxHeartbeats 4000000 in
theorem validField_s (f : Fsp) (hf : f.ok) : SC Try.prog 23 [f.v] 0 [] (.s (.bool (vld f))) 0 [] := by
  obtain ⟨⟨sp1, sp2⟩, ⟨ba1, ba2⟩, ⟨rl1, rl2⟩, ⟨bit1, bit2⟩, ⟨ln1, ln2⟩, ⟨wd1, wd2⟩, ⟨up1, up2⟩, _, _⟩ := hf
  obtain ⟨sp, ba, rl, bit, ln, wd, up, ix, da⟩ := f
  dsimp only at *
  have em := tmodN ba wd ba1
  cases hA : rA sp ba rl with
  | true =>
    rw [vld_A rl1 hA]
    refine SC.run hm Try.func23 rfl [.eager, .eager, .lazy [.num (rl - 1), .num (18446744073709551615 - (rl - 1))] [(38, true)]] [] rfl rfl ?_ (.inl rfl) (EndOK.plain rfl no_mem rfl rfl)
    simp only [true_and, and_true, and_assoc, and_self, imp_self, implies_true, Bool.not_eq_true', ne_eq, u64_wrap, i64_wrap, em]
    repeat' apply And.intro
    all_goals first
      | exact hA
      | exact hB
      | exact hC
      | exact hD
      | omega
      | exact fun h => h
      | (intro h; simp only [Bool.and_eq_true, Bool.or_eq_false_iff, Bool.and_eq_false_iff, Bool.not_eq_true', decide_eq_false_iff_not, decide_eq_true_eq, beq_iff_eq, bne_iff_ne, bne_eq_false_iff_eq, beq_eq_false_iff_ne, ne_eq] at h ⊢; omega)
      | (intro h; simp only [Bool.and_eq_true, Bool.or_eq_false_iff, Bool.and_eq_false_iff, Bool.not_eq_true', decide_eq_false_iff_not, decide_eq_true_eq, beq_iff_eq, bne_iff_ne, bne_eq_false_iff_eq, beq_eq_false_iff_ne, ne_eq] at h ⊢; repeat' apply And.intro; all_goals first | omega)
      | (with_reducible show _ = true; kernel_rfl)
  | false =>
    have hA' := hA
    simp only [rA, Bool.or_eq_false_iff, Bool.and_eq_false_iff, bne_eq_false_iff_eq, decide_eq_false_iff_not] at hA'
    cases hB : rB sp ba rl wd with
    | true =>
      rw [vld_B hA hB]
      refine SC.run hm Try.func23 rfl [.eager, .eager, .lazy [.num (rl - 1), .num (18446744073709551615 - (rl - 1))] [(38, false)], .lazy [.num (ba + rl)] [(59, true)]] [] rfl rfl ?_ (.inl rfl) (EndOK.plain rfl no_mem rfl rfl)
      simp only [true_and, and_true, and_assoc, and_self, imp_self, implies_true, Bool.not_eq_true', ne_eq, u64_wrap, i64_wrap, em]
      repeat' apply And.intro
      all_goals first
        | exact hA
        | exact hB
        | exact hC
        | exact hD
        | omega
        | exact fun h => h
        | (intro h; simp only [Bool.and_eq_true, Bool.or_eq_false_iff, Bool.and_eq_false_iff, Bool.not_eq_true', decide_eq_false_iff_not, decide_eq_true_eq, beq_iff_eq, bne_iff_ne, bne_eq_false_iff_eq, beq_eq_false_iff_ne, ne_eq] at h ⊢; omega)
        | (intro h; simp only [Bool.and_eq_true, Bool.or_eq_false_iff, Bool.and_eq_false_iff, Bool.not_eq_true', decide_eq_false_iff_not, decide_eq_true_eq, beq_iff_eq, bne_iff_ne, bne_eq_false_iff_eq, beq_eq_false_iff_ne, ne_eq] at h ⊢; repeat' apply And.intro; all_goals first | omega)
        | (with_reducible show _ = true; kernel_rfl)
    | false =>
      have hB' := hB
      simp only [rB, Bool.or_eq_false_iff, Bool.and_eq_false_iff, beq_eq_false_iff_ne, bne_eq_false_iff_eq, decide_eq_false_iff_not] at hB'
      cases hC : rC ba wd up with
      | true =>
        rw [vld_C hC]
        refine SC.run hm Try.func23 rfl [.eager, .eager, .lazy [.num (rl - 1), .num (18446744073709551615 - (rl - 1))] [(38, false)], .lazy [.num (ba + rl)] [(59, false)], .lazy [.num wd, .num (ba % wd)] [(96, true)]] [] rfl rfl ?_ (.inl rfl) (EndOK.plain rfl no_mem rfl rfl)
        simp only [true_and, and_true, and_assoc, and_self, imp_self, implies_true, Bool.not_eq_true', ne_eq, u64_wrap, i64_wrap, em]
        repeat' apply And.intro
        all_goals first
          | exact hA
          | exact hB
          | exact hC
          | exact hD
          | omega
          | exact fun h => h
          | (intro h; simp only [Bool.and_eq_true, Bool.or_eq_false_iff, Bool.and_eq_false_iff, Bool.not_eq_true', decide_eq_false_iff_not, decide_eq_true_eq, beq_iff_eq, bne_iff_ne, bne_eq_false_iff_eq, beq_eq_false_iff_ne, ne_eq] at h ⊢; omega)
          | (intro h; simp only [Bool.and_eq_true, Bool.or_eq_false_iff, Bool.and_eq_false_iff, Bool.not_eq_true', decide_eq_false_iff_not, decide_eq_true_eq, beq_iff_eq, bne_iff_ne, bne_eq_false_iff_eq, beq_eq_false_iff_ne, ne_eq] at h ⊢; repeat' apply And.intro; all_goals first | omega)
          | (with_reducible show _ = true; kernel_rfl)
      | false =>
        have hC' := hC
        simp only [rC, Bool.or_eq_false_iff, Bool.and_eq_false_iff, bne_eq_false_iff_eq, decide_eq_false_iff_not] at hC'
        have hw : wd = 1 ∨ wd = 2 ∨ wd = 4 ∨ wd = 8 := by omega
        cases hD : rD bit ln with
        | true =>
          rw [vld_D (by omega) hw hD]
          refine SC.run hm Try.func23 rfl [.eager, .eager, .lazy [.num (rl - 1), .num (18446744073709551615 - (rl - 1))] [(38, false)], .lazy [.num (ba + rl)] [(59, false)], .lazy [.num wd, .num (ba % wd)] [(96, false)], .lazy [] [(114, true)]] [] rfl rfl ?_ (.inl rfl) (EndOK.plain rfl no_mem rfl rfl)
          simp only [true_and, and_true, and_assoc, and_self, imp_self, implies_true, Bool.not_eq_true', ne_eq, u64_wrap, i64_wrap, em]
          repeat' apply And.intro
          all_goals first
            | exact hA
            | exact hB
            | exact hC
            | exact hD
            | omega
            | exact fun h => h
            | (intro h; simp only [Bool.and_eq_true, Bool.or_eq_false_iff, Bool.and_eq_false_iff, Bool.not_eq_true', decide_eq_false_iff_not, decide_eq_true_eq, beq_iff_eq, bne_iff_ne, bne_eq_false_iff_eq, beq_eq_false_iff_ne, ne_eq] at h ⊢; omega)
            | (intro h; simp only [Bool.and_eq_true, Bool.or_eq_false_iff, Bool.and_eq_false_iff, Bool.not_eq_true', decide_eq_false_iff_not, decide_eq_true_eq, beq_iff_eq, bne_iff_ne, bne_eq_false_iff_eq, beq_eq_false_iff_ne, ne_eq] at h ⊢; repeat' apply And.intro; all_goals first | omega)
            | (with_reducible show _ = true; kernel_rfl)
        | false =>
          have hD' := hD
          simp only [rD, Bool.or_eq_false_iff, decide_eq_false_iff_not] at hD'
          have q1 := Int.ediv_nonneg (show 0 ≤ bit + ln - 1 by omega) (show 0 ≤ 8 * wd by omega)
          have q2 := Int.ediv_le_self (8 * wd) (show 0 ≤ bit + ln - 1 by omega)
          have e1 := tdivM (bit + ln - 1) (8 * wd) (by omega) (by omega) (by omega)
          have e2 : vld ⟨sp, ba, rl, bit, ln, wd, up, ix, da⟩ = decide (((bit + ln - 1) / (8 * wd) + 1) * wd ≤ rl) := by
            simp only [vld, vReg]
            rw [show (decide (1 ≤ rl ∧ rl ≤ 1048576 ∧ ((sp = 0 ∨ sp = 1) ∧ ba + rl - 1 ≤ 18446744073709551615 ∨ sp = 3 ∧ ba + rl ≤ 256))) = true from decide_eq_true (by omega), Bool.true_and, decide_eq_decide]
            rcases hw with rfl | rfl | rfl | rfl <;> omega
          have e3 : ((bit + ln - 1) / (8 * wd) + 1) * wd ≤ 83886080 ∧ 0 ≤ ((bit + ln - 1) / (8 * wd) + 1) * wd := by rcases hw with rfl | rfl | rfl | rfl <;> omega
          rw [e2]
          refine SC.run hm Try.func23 rfl [.eager, .eager, .lazy [.num (rl - 1), .num (18446744073709551615 - (rl - 1))] [(38, false)], .lazy [.num (ba + rl)] [(59, false)], .lazy [.num wd, .num (ba % wd)] [(96, false)], .lazy [] [(114, false)], .num (bit + ln), .num (bit + ln - 1), .num (8 * wd), .num ((bit + ln - 1) / (8 * wd)), .num ((bit + ln - 1) / (8 * wd) + 1), .num (((bit + ln - 1) / (8 * wd) + 1) * wd), .num (((bit + ln - 1) / (8 * wd) + 1) * wd), .keep] [] rfl rfl ?_ (.inl rfl) (EndOK.plain rfl no_mem rfl rfl)
          simp only [e1]
          generalize ((bit + ln - 1) / (8 * wd) + 1) * wd = q at *
          generalize (bit + ln - 1) / (8 * wd) = q' at *
          simp only [true_and, and_true, and_assoc, and_self, imp_self, implies_true, Bool.not_eq_true', ne_eq, u64_wrap, i64_wrap, em]
          repeat' apply And.intro
          all_goals first
            | exact hA
            | exact hB
            | exact hC
            | exact hD
            | omega
            | exact fun h => h
            | (intro h; simp only [Bool.and_eq_true, Bool.or_eq_false_iff, Bool.and_eq_false_iff, Bool.not_eq_true', decide_eq_false_iff_not, decide_eq_true_eq, beq_iff_eq, bne_iff_ne, bne_eq_false_iff_eq, beq_eq_false_iff_ne, ne_eq] at h ⊢; omega)
            | (intro h; simp only [Bool.and_eq_true, Bool.or_eq_false_iff, Bool.and_eq_false_iff, Bool.not_eq_true', decide_eq_false_iff_not, decide_eq_true_eq, beq_iff_eq, bne_iff_ne, bne_eq_false_iff_eq, beq_eq_false_iff_ne, ne_eq] at h ⊢; repeat' apply And.intro; all_goals first | omega)
            | (with_reducible show _ = true; kernel_rfl)

end Go.Proofs.Ytgnidbokllmhhaa
