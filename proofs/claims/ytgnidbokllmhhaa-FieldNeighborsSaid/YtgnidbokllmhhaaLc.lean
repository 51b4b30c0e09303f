/-
  Units, Ones, Equal: what they compute.
-/
import Derived.Test.YtgnidbokllmhhaaLb
import Derived.KernelRfl
set_option linter.unusedSimpArgs false
set_option linter.unusedVariables false
namespace Go.Proofs.Ytgnidbokllmhhaa
open Go Ab
set_option maxRecDepth 100000

theorem vld_facts {f : Fsp} (h : vld f = true) : (f.wd = 1 ∨ f.wd = 2 ∨ f.wd = 4 ∨ f.wd = 8) ∧ 0 ≤ f.up ∧ f.up ≤ 2 ∧ 0 ≤ f.bit ∧ f.bit ≤ 8388608 ∧ 1 ≤ f.ln ∧ f.ln ≤ 256 ∧ (f.bit + f.ln - 1) / (8 * f.wd) < f.rl / f.wd := by
  unfold vld vReg at h
  simp only [Bool.and_eq_true, decide_eq_true_eq] at h
  obtain ⟨⟨r1, r2, r3⟩, hw, hs, hb, u1, u2, b1, l1, l2, hl⟩ := h
  refine ⟨hw, u1, u2, b1, ?_, l1, l2, hl⟩
  rcases hw with e | e | e | e <;> rw [e] at hl <;> omega

/-- first unit and number of units -/
def uF (f : Fsp) : Int := f.bit / (8 * f.wd)
def uN (f : Fsp) : Int := (f.bit + f.ln - 1) / (8 * f.wd) - f.bit / (8 * f.wd) + 1
def fF (f : Fsp) : Int := if vld f then uF f else 0
def fN (f : Fsp) : Int := if vld f then uN f else 0

theorem tdivS (x y : Int) (h : 0 ≤ x) (hy : 0 < y) (hx : x ≤ 9223372036854775807) : IntKind.i64.wrap (x.tdiv y) = x / y := by
  rw [Int.tdiv_eq_ediv_of_nonneg h]
  have h1 := Int.ediv_nonneg h (Int.le_of_lt hy)
  have h2 := Int.ediv_le_self y h
  rw [i64_wrap]; omega

theorem units_s (f : Fsp) (hf : f.ok) : SC Try.prog 31 [f.v] 0 [] (.tup [.s (.int .i64 (fF f)), .s (.int .i64 (fN f))]) 0 [] := by
  have hv := valid_s f hf
  cases h : vld f with
  | false =>
    rw [h] at hv
    simp only [fF, fN, h, Bool.false_eq_true, if_false]
    refine SC.run hm Try.func31 rfl [.call [] [f.v] [] (.s (.bool false)) 0 []] [] rfl rfl ?_ (.inl rfl) (EndOK.plain rfl no_mem rfl rfl)
    simp only [true_and, and_true]
    exact ⟨by kernel_rfl, call0 hv rfl⟩
  | true =>
    rw [h] at hv
    obtain ⟨hw, u1, u2, b1, b2, l1, l2, _⟩ := vld_facts h
    have hw1 : 1 ≤ f.wd ∧ f.wd ≤ 8 := by omega
    have hu := unitBits_s f hw1.1 hw1.2
    have d1 := tdivS f.bit (8 * f.wd) b1 (by omega) (by omega)
    have d2 := tdivS (f.bit + f.ln - 1) (8 * f.wd) (by omega) (by omega) (by omega)
    have q1 : 0 ≤ f.bit / (8 * f.wd) := Int.ediv_nonneg b1 (by omega)
    have q2 := Int.ediv_le_self (8 * f.wd) b1
    have q3 : 0 ≤ (f.bit + f.ln - 1) / (8 * f.wd) := Int.ediv_nonneg (by omega) (by omega)
    have q4 := Int.ediv_le_self (8 * f.wd) (show 0 ≤ f.bit + f.ln - 1 by omega)
    simp only [fF, fN, h, if_true]
    refine SC.run hm Try.func31 rfl [.call [] [f.v] [] (.s (.bool true)) 0 [], .call [] [f.v] [] (.s (.int .u64 (8 * f.wd))) 0 [], .num (8 * f.wd), .num (uF f), .num (f.bit + f.ln), .num (f.bit + f.ln - 1), .num ((f.bit + f.ln - 1) / (8 * f.wd)), .num ((f.bit + f.ln - 1) / (8 * f.wd) - uF f), .num (uN f)] [] rfl rfl ?_ (.inl rfl) (EndOK.plain rfl no_mem rfl rfl)
    simp only [true_and, and_true, and_assoc, d1, d2, ne_eq]
    unfold uF uN
    simp only [i64_wrap]
    repeat' apply And.intro
    all_goals first | trivial | omega | exact call0 hv rfl | exact call0 hu rfl | (show _ = true; kernel_rfl)

theorem ones_s (w : Int) (h : 1 ≤ w) (h' : w ≤ 8) : SC Try.prog 21 [.s (.int .i64 w)] 0 [] (.s (.int .u64 (ones w))) 0 [] := by
  refine SC.run hm Try.func21 rfl [.num (8 * w), .num (64 - 8 * w), .num (64 - 8 * w), .num (ones w)] [] rfl rfl ?_ (.inl rfl) (EndOK.plain rfl no_mem rfl rfl)
  rw [fdiv_pow _ _ (by omega) (by omega)]
  simp only [true_and, and_true, u64_wrap, i64_wrap]
  exact ⟨by omega, by omega, by omega, by omega, rfl⟩

end Go.Proofs.Ytgnidbokllmhhaa
