/-
  Contracts of the small functions that the statements on fields reach.
-/
import Derived.Test.YtgnidbokllmhhaaRows
import Derived.Test.YtgnidbokllmhhaaAb10
set_option linter.unusedSimpArgs false
set_option linter.unusedVariables false
namespace Go.Proofs.Ytgnidbokllmhhaa
open Go Ab

set_option maxRecDepth 100000

theorem hm : Try.prog.follows .mixedOrders = true := by decide +kernel

structure Fsp where
  sp : Int
  ba : Int
  rl : Int
  bit : Int
  ln : Int
  wd : Int
  up : Int
  ix : Int
  da : Int

def Fsp.c (f : Fsp) : List S := [.int .i64 f.sp, .int .u64 f.ba, .int .u64 f.rl, .int .i64 f.bit, .int .i64 f.ln, .int .i64 f.wd, .int .i64 f.up, .int .i64 f.ix, .int .i64 f.da]
def Fsp.v (f : Fsp) : V := .agg f.c

structure Fsp.ok (f : Fsp) : Prop where
  sp : -9223372036854775808 ≤ f.sp ∧ f.sp ≤ 9223372036854775807
  ba : 0 ≤ f.ba ∧ f.ba ≤ 18446744073709551615
  rl : 0 ≤ f.rl ∧ f.rl ≤ 18446744073709551615
  bit : -9223372036854775808 ≤ f.bit ∧ f.bit ≤ 9223372036854775807
  ln : -9223372036854775808 ≤ f.ln ∧ f.ln ≤ 9223372036854775807
  wd : -9223372036854775808 ≤ f.wd ∧ f.wd ≤ 9223372036854775807
  up : -9223372036854775808 ≤ f.up ∧ f.up ≤ 9223372036854775807
  ix : -9223372036854775808 ≤ f.ix ∧ f.ix ≤ 9223372036854775807
  da : -9223372036854775808 ≤ f.da ∧ f.da ≤ 9223372036854775807

theorem mod_s (v n : Int) (hn : 0 < n) (hn' : n ≤ 9223372036854775807) :
    SC Try.prog 22 [.s (.int .i64 v), .s (.int .i64 n)] 0 [] (.s (.int .i64 (v % 18446744073709551616 % n))) 0 [] := by
  refine SC.run hm Try.func22 rfl [.num (v % 18446744073709551616), .num n, .num (v % 18446744073709551616 % n), .num (v % 18446744073709551616 % n)] [] rfl rfl ?_ (.inl rfl) (EndOK.plain rfl no_mem rfl rfl)
  have h1 := Int.emod_nonneg (v % 18446744073709551616) (show n ≠ 0 by omega)
  have h2 := Int.emod_lt_of_pos (v % 18446744073709551616) hn
  rw [Int.tmod_eq_emod_of_nonneg (by omega)]
  simp only [true_and, and_true, u64_wrap, i64_wrap]
  generalize v % 18446744073709551616 % n = r at *
  omega

theorem unitBits_s (f : Fsp) (h : 1 ≤ f.wd) (h' : f.wd ≤ 8) : SC Try.prog 32 [f.v] 0 [] (.s (.int .u64 (8 * f.wd))) 0 [] := by
  refine SC.run hm Try.func32 rfl [] [] rfl rfl ?_ (.inl rfl) (EndOK.plain rfl no_mem rfl rfl)
  simp only [true_and, and_true, u64_wrap, i64_wrap]
  omega

theorem fdiv_pow (x : Int) (y : Int) (h1 : 0 ≤ y) (h2 : y ≤ 64) : Int.fdiv x (2 ^ min y.toNat IntKind.u64.bits) = x / 2 ^ y.toNat := by
  have e : min y.toNat IntKind.u64.bits = y.toNat := by simp only [IntKind.bits]; omega
  rw [e, Int.fdiv_eq_ediv_of_nonneg _ (Int.le_of_lt (Int.pow_pos (by decide)))]

/-- all ones, of so many bits -/
def ones (w : Int) : Int := 18446744073709551615 / 2 ^ (64 - 8 * w).toNat

theorem fullMask_s (f : Fsp) (h : 1 ≤ f.wd) (h' : f.wd ≤ 8) : SC Try.prog 33 [f.v] 0 [] (.s (.int .u64 (ones f.wd))) 0 [] := by
  refine SC.run hm Try.func33 rfl [.call [] [f.v] [] (.s (.int .u64 (8 * f.wd))) 0 [], .num (64 - 8 * f.wd), .num (ones f.wd)] [] rfl rfl ?_ (.inl rfl) (EndOK.plain rfl no_mem rfl rfl)
  rw [fdiv_pow _ _ (by omega) (by omega)]
  simp only [true_and, and_true, u64_wrap]
  exact ⟨⟨by decide +kernel, call0 (unitBits_s f h h') rfl⟩, by omega, by omega, rfl⟩

def vReg (sp ba rl : Int) : Bool := decide (1 ≤ rl ∧ rl ≤ 1048576 ∧ ((sp = 0 ∨ sp = 1) ∧ ba + rl - 1 ≤ 18446744073709551615 ∨ sp = 3 ∧ ba + rl ≤ 256))

theorem validRegion_s (sp ba rl : Int) (h1 : 0 ≤ ba) (h2 : ba ≤ 18446744073709551615) (h3 : 0 ≤ rl) (h4 : rl ≤ 18446744073709551615) :
    SC Try.prog 45 [.agg [.int .i64 sp, .int .u64 ba, .int .u64 rl]] 0 [] (.s (.bool (vReg sp ba rl))) 0 [] := by
  by_cases c1 : rl < 1
  · rw [show vReg sp ba rl = false from decide_eq_false (by omega)]
    refine SC.run hm Try.func45 rfl [.dec true] [] rfl rfl ?_ (.inl rfl) (EndOK.plain rfl no_mem rfl rfl)
    simp only [true_and, and_true, decide_eq_true_eq]; omega
  by_cases c2 : 1048576 < rl
  · rw [show vReg sp ba rl = false from decide_eq_false (by omega)]
    refine SC.run hm Try.func45 rfl [.dec false, .dec true] [] rfl rfl ?_ (.inl rfl) (EndOK.plain rfl no_mem rfl rfl)
    simp only [true_and, and_true, decide_eq_true_eq, decide_eq_false_iff_not]; omega
  by_cases c3 : sp = 0
  · rw [show vReg sp ba rl = decide (ba ≤ (ba + (rl - 1)) % 18446744073709551616) from by unfold vReg; rw [decide_eq_decide]; omega]
    refine SC.run hm Try.func45 rfl [.dec false, .dec false, .dec true, .num (rl - 1), .num ((ba + (rl - 1)) % 18446744073709551616), .keep] [] rfl rfl ?_ (.inl rfl) (EndOK.plain rfl no_mem rfl rfl)
    simp only [true_and, and_true, decide_eq_true_eq, decide_eq_false_iff_not, beq_iff_eq, u64_wrap]; omega
  by_cases c4 : sp = 1
  · rw [show vReg sp ba rl = decide (ba ≤ (ba + (rl - 1)) % 18446744073709551616) from by unfold vReg; rw [decide_eq_decide]; omega]
    refine SC.run hm Try.func45 rfl [.dec false, .dec false, .dec false, .dec true, .num (rl - 1), .num ((ba + (rl - 1)) % 18446744073709551616), .keep] [] rfl rfl ?_ (.inl rfl) (EndOK.plain rfl no_mem rfl rfl)
    simp only [true_and, and_true, decide_eq_true_eq, decide_eq_false_iff_not, beq_iff_eq, beq_eq_false_iff_ne, ne_eq, u64_wrap]; omega
  by_cases c5 : sp = 3
  · by_cases c6 : ba ≤ 256
    · rw [show vReg sp ba rl = decide (ba + rl ≤ 256) from by unfold vReg; rw [decide_eq_decide]; omega]
      refine SC.run hm Try.func45 rfl [.dec false, .dec false, .dec false, .dec false, .dec true, .dec true] [] rfl rfl ?_ (.inl rfl) (EndOK.plain rfl no_mem rfl rfl)
      simp only [true_and, and_true, decide_eq_true_eq, decide_eq_false_iff_not, beq_iff_eq, beq_eq_false_iff_ne, ne_eq, u64_wrap]; omega
    · rw [show vReg sp ba rl = false from decide_eq_false (by omega)]
      refine SC.run hm Try.func45 rfl [.dec false, .dec false, .dec false, .dec false, .dec true, .dec false] [] rfl rfl ?_ (.inl rfl) (EndOK.plain rfl no_mem rfl rfl)
      simp only [true_and, and_true, decide_eq_true_eq, decide_eq_false_iff_not, beq_iff_eq, beq_eq_false_iff_ne, ne_eq]; omega
  · rw [show vReg sp ba rl = false from decide_eq_false (by omega)]
    refine SC.run hm Try.func45 rfl [.dec false, .dec false, .dec false, .dec false, .dec false] [] rfl rfl ?_ (.inl rfl) (EndOK.plain rfl no_mem rfl rfl)
    simp only [true_and, and_true, decide_eq_true_eq, decide_eq_false_iff_not, beq_iff_eq, beq_eq_false_iff_ne, ne_eq]; omega

end Go.Proofs.Ytgnidbokllmhhaa
