/-
  spec: what it computes.
-/
import Derived.Test.YtgnidbokllmhhaaLa
import Derived.KernelRfl
set_option linter.unusedSimpArgs false
set_option linter.unusedVariables false
namespace Go.Proofs.Ytgnidbokllmhhaa
open Go Ab
set_option maxRecDepth 100000

def md (v n : Int) : Int := v % 18446744073709551616 % n
theorem md_b (v n : Int) (h : 0 < n) : 0 ≤ md v n ∧ md v n < n := ⟨Int.emod_nonneg _ (by omega), Int.emod_lt_of_pos _ h⟩
theorem md_s (v n : Int) (hn : 0 < n) (hn' : n ≤ 9223372036854775807) : SC Try.prog 22 [.s (.int .i64 v), .s (.int .i64 n)] 0 [] (.s (.int .i64 (md v n))) 0 [] := mod_s v n hn hn'
def spS (f : Fsp) : Int := if md f.sp 4 = 1 then 1 else if md f.sp 4 = 2 then 3 else 0
def specF (f : Fsp) : Fsp := if md f.ix 8 = 7 then f else
  { sp := spS f, ba := if md f.ix 8 = 6 then 18446744073709551552 else f.ba % 20 * 8, rl := 1 + f.rl % 60, bit := md f.bit 400,
    ln := if md f.ln 9 = 8 then 256 - md f.bit 3 else 1 + md f.ln 100, wd := if spS f = 3 then 1 else 2 ^ (md f.wd 4).toNat, up := md f.up 3, ix := f.ix, da := f.da }
theorem pw4 (x : Int) (h : 0 ≤ x ∧ x < 4) : IntKind.i64.wrap (1 * 2 ^ min x.toNat IntKind.i64.bits) = 2 ^ x.toNat := by
  have : x = 0 ∨ x = 1 ∨ x = 2 ∨ x = 3 := by omega
  rcases this with e | e | e | e <;> subst e <;> decide +kernel
theorem pw4_b (x : Int) (h : 0 ≤ x ∧ x < 4) : 1 ≤ (2 : Int) ^ x.toNat ∧ (2 : Int) ^ x.toNat ≤ 8 := by
  have : x = 0 ∨ x = 1 ∨ x = 2 ∨ x = 3 := by omega
  rcases this with e | e | e | e <;> subst e <;> decide

theorem spec_7 (f : Fsp) (h7 : md f.ix 8 = 7) : SC Try.prog 9 [f.v] 0 [] (specF f).v 0 [] := by
  have h1 := md_s f.ix 8 (by omega) (by omega)
  rw [show specF f = f by unfold specF; rw [if_pos h7]]
  refine SC.run hm Try.func9 rfl [.call [] [.s (.int .i64 f.ix), .s (.int .i64 8)] [] (.s (.int .i64 (md f.ix 8))) 0 [], .dec true] [] rfl rfl ?_ (.inl rfl) (EndOK.plain rfl no_mem rfl rfl)
  simp only [true_and, and_true, and_assoc, beq_iff_eq]
  repeat' apply And.intro
  all_goals first | exact True.intro | omega | exact call0 h1 rfl | (with_reducible show _ = true; kernel_rfl)

set_option maxHeartbeats 2000000 in
theorem spec_0tt (f : Fsp) (hf : f.ok) (h7 : md f.ix 8 ≠ 7) (hs : md f.sp 4 = 0) (hl : md f.ln 9 = 8) (h6 : md f.ix 8 = 6) : SC Try.prog 9 [f.v] 0 [] (specF f).v 0 [] := by
  have a1 := md_s f.ix 8 (by omega) (by omega)
  have a2 := md_s f.wd 4 (by omega) (by omega)
  have a3 := md_s f.sp 4 (by omega) (by omega)
  have a4 := md_s f.bit 400 (by omega) (by omega)
  have a5 := md_s f.ln 100 (by omega) (by omega)
  have a6 := md_s f.up 3 (by omega) (by omega)
  have a7 := md_s f.ln 9 (by omega) (by omega)
  have a8 := md_s f.bit 3 (by omega) (by omega)
  have b2 := md_b f.wd 4 (by omega)
  have b5 := md_b f.ln 100 (by omega)
  have b8 := md_b f.bit 3 (by omega)
  have pw := pw4 _ b2
  obtain ⟨ba1, ba2⟩ := hf.ba
  obtain ⟨rl1, rl2⟩ := hf.rl
  have r1 : Int.tmod f.ba 20 = f.ba % 20 := Int.tmod_eq_emod_of_nonneg ba1
  have r2 : Int.tmod f.rl 60 = f.rl % 60 := Int.tmod_eq_emod_of_nonneg rl1
  rw [show specF f = ⟨0, 18446744073709551552, 1 + f.rl % 60, md f.bit 400, 256 - md f.bit 3, 2 ^ (md f.wd 4).toNat, md f.up 3, f.ix, f.da⟩ by simp [specF, spS, h7, hs, hl, h6]]
  refine SC.run hm Try.func9 rfl [.call [] [.s (.int .i64 f.ix), .s (.int .i64 8)] [] (.s (.int .i64 (md f.ix 8))) 0 [], .dec false, .call [] [.s (.int .i64 f.wd), .s (.int .i64 4)] [] (.s (.int .i64 (md f.wd 4))) 0 [], .num (md f.wd 4), .num (2 ^ (md f.wd 4).toNat), .call [] [.s (.int .i64 f.sp), .s (.int .i64 4)] [] (.s (.int .i64 (md f.sp 4))) 0 [], .idx 0, .num (f.ba % 20), .num (f.ba % 20 * 8), .num (f.rl % 60), .num (1 + f.rl % 60), .call [] [.s (.int .i64 f.bit), .s (.int .i64 400)] [] (.s (.int .i64 (md f.bit 400))) 0 [], .call [] [.s (.int .i64 f.ln), .s (.int .i64 100)] [] (.s (.int .i64 (md f.ln 100))) 0 [], .num (1 + md f.ln 100), .call [] [.s (.int .i64 f.up), .s (.int .i64 3)] [] (.s (.int .i64 (md f.up 3))) 0 [], .call [] [.s (.int .i64 f.ln), .s (.int .i64 9)] [] (.s (.int .i64 (md f.ln 9))) 0 [], .dec true, .call [] [.s (.int .i64 f.bit), .s (.int .i64 3)] [] (.s (.int .i64 (md f.bit 3))) 0 [], .num (256 - md f.bit 3), .dec false, .call [] [.s (.int .i64 f.ix), .s (.int .i64 8)] [] (.s (.int .i64 (md f.ix 8))) 0 [], .dec true] [] rfl rfl ?_ (.inl rfl) (EndOK.plain rfl no_mem rfl rfl)
  rw [r1, r2, pw]
  simp only [true_and, and_true, and_assoc, beq_iff_eq, beq_eq_false_iff_ne, ne_eq, u64_wrap, i64_wrap]
  repeat' apply And.intro
  all_goals first
    | exact True.intro
    | omega
    | exact call0 a1 rfl
    | exact call0 a2 rfl
    | exact call0 a3 rfl
    | exact call0 a4 rfl
    | exact call0 a5 rfl
    | exact call0 a6 rfl
    | exact call0 a7 rfl
    | exact call0 a8 rfl
    | (with_reducible show _ = true; kernel_rfl)

set_option maxHeartbeats 2000000 in
theorem spec_0tf (f : Fsp) (hf : f.ok) (h7 : md f.ix 8 ≠ 7) (hs : md f.sp 4 = 0) (hl : md f.ln 9 = 8) (h6 : ¬ md f.ix 8 = 6) : SC Try.prog 9 [f.v] 0 [] (specF f).v 0 [] := by
  have a1 := md_s f.ix 8 (by omega) (by omega)
  have a2 := md_s f.wd 4 (by omega) (by omega)
  have a3 := md_s f.sp 4 (by omega) (by omega)
  have a4 := md_s f.bit 400 (by omega) (by omega)
  have a5 := md_s f.ln 100 (by omega) (by omega)
  have a6 := md_s f.up 3 (by omega) (by omega)
  have a7 := md_s f.ln 9 (by omega) (by omega)
  have a8 := md_s f.bit 3 (by omega) (by omega)
  have b2 := md_b f.wd 4 (by omega)
  have b5 := md_b f.ln 100 (by omega)
  have b8 := md_b f.bit 3 (by omega)
  have pw := pw4 _ b2
  obtain ⟨ba1, ba2⟩ := hf.ba
  obtain ⟨rl1, rl2⟩ := hf.rl
  have r1 : Int.tmod f.ba 20 = f.ba % 20 := Int.tmod_eq_emod_of_nonneg ba1
  have r2 : Int.tmod f.rl 60 = f.rl % 60 := Int.tmod_eq_emod_of_nonneg rl1
  rw [show specF f = ⟨0, f.ba % 20 * 8, 1 + f.rl % 60, md f.bit 400, 256 - md f.bit 3, 2 ^ (md f.wd 4).toNat, md f.up 3, f.ix, f.da⟩ by simp [specF, spS, h7, hs, hl, h6]]
  refine SC.run hm Try.func9 rfl [.call [] [.s (.int .i64 f.ix), .s (.int .i64 8)] [] (.s (.int .i64 (md f.ix 8))) 0 [], .dec false, .call [] [.s (.int .i64 f.wd), .s (.int .i64 4)] [] (.s (.int .i64 (md f.wd 4))) 0 [], .num (md f.wd 4), .num (2 ^ (md f.wd 4).toNat), .call [] [.s (.int .i64 f.sp), .s (.int .i64 4)] [] (.s (.int .i64 (md f.sp 4))) 0 [], .idx 0, .num (f.ba % 20), .num (f.ba % 20 * 8), .num (f.rl % 60), .num (1 + f.rl % 60), .call [] [.s (.int .i64 f.bit), .s (.int .i64 400)] [] (.s (.int .i64 (md f.bit 400))) 0 [], .call [] [.s (.int .i64 f.ln), .s (.int .i64 100)] [] (.s (.int .i64 (md f.ln 100))) 0 [], .num (1 + md f.ln 100), .call [] [.s (.int .i64 f.up), .s (.int .i64 3)] [] (.s (.int .i64 (md f.up 3))) 0 [], .call [] [.s (.int .i64 f.ln), .s (.int .i64 9)] [] (.s (.int .i64 (md f.ln 9))) 0 [], .dec true, .call [] [.s (.int .i64 f.bit), .s (.int .i64 3)] [] (.s (.int .i64 (md f.bit 3))) 0 [], .num (256 - md f.bit 3), .dec false, .call [] [.s (.int .i64 f.ix), .s (.int .i64 8)] [] (.s (.int .i64 (md f.ix 8))) 0 [], .dec false] [] rfl rfl ?_ (.inl rfl) (EndOK.plain rfl no_mem rfl rfl)
  rw [r1, r2, pw]
  simp only [true_and, and_true, and_assoc, beq_iff_eq, beq_eq_false_iff_ne, ne_eq, u64_wrap, i64_wrap]
  repeat' apply And.intro
  all_goals first
    | exact True.intro
    | omega
    | exact call0 a1 rfl
    | exact call0 a2 rfl
    | exact call0 a3 rfl
    | exact call0 a4 rfl
    | exact call0 a5 rfl
    | exact call0 a6 rfl
    | exact call0 a7 rfl
    | exact call0 a8 rfl
    | (with_reducible show _ = true; kernel_rfl)

set_option maxHeartbeats 2000000 in
theorem spec_0ft (f : Fsp) (hf : f.ok) (h7 : md f.ix 8 ≠ 7) (hs : md f.sp 4 = 0) (hl : ¬ md f.ln 9 = 8) (h6 : md f.ix 8 = 6) : SC Try.prog 9 [f.v] 0 [] (specF f).v 0 [] := by
  have a1 := md_s f.ix 8 (by omega) (by omega)
  have a2 := md_s f.wd 4 (by omega) (by omega)
  have a3 := md_s f.sp 4 (by omega) (by omega)
  have a4 := md_s f.bit 400 (by omega) (by omega)
  have a5 := md_s f.ln 100 (by omega) (by omega)
  have a6 := md_s f.up 3 (by omega) (by omega)
  have a7 := md_s f.ln 9 (by omega) (by omega)
  have a8 := md_s f.bit 3 (by omega) (by omega)
  have b2 := md_b f.wd 4 (by omega)
  have b5 := md_b f.ln 100 (by omega)
  have b8 := md_b f.bit 3 (by omega)
  have pw := pw4 _ b2
  obtain ⟨ba1, ba2⟩ := hf.ba
  obtain ⟨rl1, rl2⟩ := hf.rl
  have r1 : Int.tmod f.ba 20 = f.ba % 20 := Int.tmod_eq_emod_of_nonneg ba1
  have r2 : Int.tmod f.rl 60 = f.rl % 60 := Int.tmod_eq_emod_of_nonneg rl1
  rw [show specF f = ⟨0, 18446744073709551552, 1 + f.rl % 60, md f.bit 400, 1 + md f.ln 100, 2 ^ (md f.wd 4).toNat, md f.up 3, f.ix, f.da⟩ by simp [specF, spS, h7, hs, hl, h6]]
  refine SC.run hm Try.func9 rfl [.call [] [.s (.int .i64 f.ix), .s (.int .i64 8)] [] (.s (.int .i64 (md f.ix 8))) 0 [], .dec false, .call [] [.s (.int .i64 f.wd), .s (.int .i64 4)] [] (.s (.int .i64 (md f.wd 4))) 0 [], .num (md f.wd 4), .num (2 ^ (md f.wd 4).toNat), .call [] [.s (.int .i64 f.sp), .s (.int .i64 4)] [] (.s (.int .i64 (md f.sp 4))) 0 [], .idx 0, .num (f.ba % 20), .num (f.ba % 20 * 8), .num (f.rl % 60), .num (1 + f.rl % 60), .call [] [.s (.int .i64 f.bit), .s (.int .i64 400)] [] (.s (.int .i64 (md f.bit 400))) 0 [], .call [] [.s (.int .i64 f.ln), .s (.int .i64 100)] [] (.s (.int .i64 (md f.ln 100))) 0 [], .num (1 + md f.ln 100), .call [] [.s (.int .i64 f.up), .s (.int .i64 3)] [] (.s (.int .i64 (md f.up 3))) 0 [], .call [] [.s (.int .i64 f.ln), .s (.int .i64 9)] [] (.s (.int .i64 (md f.ln 9))) 0 [], .dec false, .dec false, .call [] [.s (.int .i64 f.ix), .s (.int .i64 8)] [] (.s (.int .i64 (md f.ix 8))) 0 [], .dec true] [] rfl rfl ?_ (.inl rfl) (EndOK.plain rfl no_mem rfl rfl)
  rw [r1, r2, pw]
  simp only [true_and, and_true, and_assoc, beq_iff_eq, beq_eq_false_iff_ne, ne_eq, u64_wrap, i64_wrap]
  repeat' apply And.intro
  all_goals first
    | exact True.intro
    | omega
    | exact call0 a1 rfl
    | exact call0 a2 rfl
    | exact call0 a3 rfl
    | exact call0 a4 rfl
    | exact call0 a5 rfl
    | exact call0 a6 rfl
    | exact call0 a7 rfl
    | exact call0 a8 rfl
    | (with_reducible show _ = true; kernel_rfl)

set_option maxHeartbeats 2000000 in
theorem spec_0ff (f : Fsp) (hf : f.ok) (h7 : md f.ix 8 ≠ 7) (hs : md f.sp 4 = 0) (hl : ¬ md f.ln 9 = 8) (h6 : ¬ md f.ix 8 = 6) : SC Try.prog 9 [f.v] 0 [] (specF f).v 0 [] := by
  have a1 := md_s f.ix 8 (by omega) (by omega)
  have a2 := md_s f.wd 4 (by omega) (by omega)
  have a3 := md_s f.sp 4 (by omega) (by omega)
  have a4 := md_s f.bit 400 (by omega) (by omega)
  have a5 := md_s f.ln 100 (by omega) (by omega)
  have a6 := md_s f.up 3 (by omega) (by omega)
  have a7 := md_s f.ln 9 (by omega) (by omega)
  have a8 := md_s f.bit 3 (by omega) (by omega)
  have b2 := md_b f.wd 4 (by omega)
  have b5 := md_b f.ln 100 (by omega)
  have b8 := md_b f.bit 3 (by omega)
  have pw := pw4 _ b2
  obtain ⟨ba1, ba2⟩ := hf.ba
  obtain ⟨rl1, rl2⟩ := hf.rl
  have r1 : Int.tmod f.ba 20 = f.ba % 20 := Int.tmod_eq_emod_of_nonneg ba1
  have r2 : Int.tmod f.rl 60 = f.rl % 60 := Int.tmod_eq_emod_of_nonneg rl1
  rw [show specF f = ⟨0, f.ba % 20 * 8, 1 + f.rl % 60, md f.bit 400, 1 + md f.ln 100, 2 ^ (md f.wd 4).toNat, md f.up 3, f.ix, f.da⟩ by simp [specF, spS, h7, hs, hl, h6]]
  refine SC.run hm Try.func9 rfl [.call [] [.s (.int .i64 f.ix), .s (.int .i64 8)] [] (.s (.int .i64 (md f.ix 8))) 0 [], .dec false, .call [] [.s (.int .i64 f.wd), .s (.int .i64 4)] [] (.s (.int .i64 (md f.wd 4))) 0 [], .num (md f.wd 4), .num (2 ^ (md f.wd 4).toNat), .call [] [.s (.int .i64 f.sp), .s (.int .i64 4)] [] (.s (.int .i64 (md f.sp 4))) 0 [], .idx 0, .num (f.ba % 20), .num (f.ba % 20 * 8), .num (f.rl % 60), .num (1 + f.rl % 60), .call [] [.s (.int .i64 f.bit), .s (.int .i64 400)] [] (.s (.int .i64 (md f.bit 400))) 0 [], .call [] [.s (.int .i64 f.ln), .s (.int .i64 100)] [] (.s (.int .i64 (md f.ln 100))) 0 [], .num (1 + md f.ln 100), .call [] [.s (.int .i64 f.up), .s (.int .i64 3)] [] (.s (.int .i64 (md f.up 3))) 0 [], .call [] [.s (.int .i64 f.ln), .s (.int .i64 9)] [] (.s (.int .i64 (md f.ln 9))) 0 [], .dec false, .dec false, .call [] [.s (.int .i64 f.ix), .s (.int .i64 8)] [] (.s (.int .i64 (md f.ix 8))) 0 [], .dec false] [] rfl rfl ?_ (.inl rfl) (EndOK.plain rfl no_mem rfl rfl)
  rw [r1, r2, pw]
  simp only [true_and, and_true, and_assoc, beq_iff_eq, beq_eq_false_iff_ne, ne_eq, u64_wrap, i64_wrap]
  repeat' apply And.intro
  all_goals first
    | exact True.intro
    | omega
    | exact call0 a1 rfl
    | exact call0 a2 rfl
    | exact call0 a3 rfl
    | exact call0 a4 rfl
    | exact call0 a5 rfl
    | exact call0 a6 rfl
    | exact call0 a7 rfl
    | exact call0 a8 rfl
    | (with_reducible show _ = true; kernel_rfl)

set_option maxHeartbeats 2000000 in
theorem spec_1tt (f : Fsp) (hf : f.ok) (h7 : md f.ix 8 ≠ 7) (hs : md f.sp 4 = 1) (hl : md f.ln 9 = 8) (h6 : md f.ix 8 = 6) : SC Try.prog 9 [f.v] 0 [] (specF f).v 0 [] := by
  have a1 := md_s f.ix 8 (by omega) (by omega)
  have a2 := md_s f.wd 4 (by omega) (by omega)
  have a3 := md_s f.sp 4 (by omega) (by omega)
  have a4 := md_s f.bit 400 (by omega) (by omega)
  have a5 := md_s f.ln 100 (by omega) (by omega)
  have a6 := md_s f.up 3 (by omega) (by omega)
  have a7 := md_s f.ln 9 (by omega) (by omega)
  have a8 := md_s f.bit 3 (by omega) (by omega)
  have b2 := md_b f.wd 4 (by omega)
  have b5 := md_b f.ln 100 (by omega)
  have b8 := md_b f.bit 3 (by omega)
  have pw := pw4 _ b2
  obtain ⟨ba1, ba2⟩ := hf.ba
  obtain ⟨rl1, rl2⟩ := hf.rl
  have r1 : Int.tmod f.ba 20 = f.ba % 20 := Int.tmod_eq_emod_of_nonneg ba1
  have r2 : Int.tmod f.rl 60 = f.rl % 60 := Int.tmod_eq_emod_of_nonneg rl1
  rw [show specF f = ⟨1, 18446744073709551552, 1 + f.rl % 60, md f.bit 400, 256 - md f.bit 3, 2 ^ (md f.wd 4).toNat, md f.up 3, f.ix, f.da⟩ by simp [specF, spS, h7, hs, hl, h6]]
  refine SC.run hm Try.func9 rfl [.call [] [.s (.int .i64 f.ix), .s (.int .i64 8)] [] (.s (.int .i64 (md f.ix 8))) 0 [], .dec false, .call [] [.s (.int .i64 f.wd), .s (.int .i64 4)] [] (.s (.int .i64 (md f.wd 4))) 0 [], .num (md f.wd 4), .num (2 ^ (md f.wd 4).toNat), .call [] [.s (.int .i64 f.sp), .s (.int .i64 4)] [] (.s (.int .i64 (md f.sp 4))) 0 [], .idx 1, .num (f.ba % 20), .num (f.ba % 20 * 8), .num (f.rl % 60), .num (1 + f.rl % 60), .call [] [.s (.int .i64 f.bit), .s (.int .i64 400)] [] (.s (.int .i64 (md f.bit 400))) 0 [], .call [] [.s (.int .i64 f.ln), .s (.int .i64 100)] [] (.s (.int .i64 (md f.ln 100))) 0 [], .num (1 + md f.ln 100), .call [] [.s (.int .i64 f.up), .s (.int .i64 3)] [] (.s (.int .i64 (md f.up 3))) 0 [], .call [] [.s (.int .i64 f.ln), .s (.int .i64 9)] [] (.s (.int .i64 (md f.ln 9))) 0 [], .dec true, .call [] [.s (.int .i64 f.bit), .s (.int .i64 3)] [] (.s (.int .i64 (md f.bit 3))) 0 [], .num (256 - md f.bit 3), .dec false, .call [] [.s (.int .i64 f.ix), .s (.int .i64 8)] [] (.s (.int .i64 (md f.ix 8))) 0 [], .dec true] [] rfl rfl ?_ (.inl rfl) (EndOK.plain rfl no_mem rfl rfl)
  rw [r1, r2, pw]
  simp only [true_and, and_true, and_assoc, beq_iff_eq, beq_eq_false_iff_ne, ne_eq, u64_wrap, i64_wrap]
  repeat' apply And.intro
  all_goals first
    | exact True.intro
    | omega
    | exact call0 a1 rfl
    | exact call0 a2 rfl
    | exact call0 a3 rfl
    | exact call0 a4 rfl
    | exact call0 a5 rfl
    | exact call0 a6 rfl
    | exact call0 a7 rfl
    | exact call0 a8 rfl
    | (with_reducible show _ = true; kernel_rfl)

set_option maxHeartbeats 2000000 in
theorem spec_1tf (f : Fsp) (hf : f.ok) (h7 : md f.ix 8 ≠ 7) (hs : md f.sp 4 = 1) (hl : md f.ln 9 = 8) (h6 : ¬ md f.ix 8 = 6) : SC Try.prog 9 [f.v] 0 [] (specF f).v 0 [] := by
  have a1 := md_s f.ix 8 (by omega) (by omega)
  have a2 := md_s f.wd 4 (by omega) (by omega)
  have a3 := md_s f.sp 4 (by omega) (by omega)
  have a4 := md_s f.bit 400 (by omega) (by omega)
  have a5 := md_s f.ln 100 (by omega) (by omega)
  have a6 := md_s f.up 3 (by omega) (by omega)
  have a7 := md_s f.ln 9 (by omega) (by omega)
  have a8 := md_s f.bit 3 (by omega) (by omega)
  have b2 := md_b f.wd 4 (by omega)
  have b5 := md_b f.ln 100 (by omega)
  have b8 := md_b f.bit 3 (by omega)
  have pw := pw4 _ b2
  obtain ⟨ba1, ba2⟩ := hf.ba
  obtain ⟨rl1, rl2⟩ := hf.rl
  have r1 : Int.tmod f.ba 20 = f.ba % 20 := Int.tmod_eq_emod_of_nonneg ba1
  have r2 : Int.tmod f.rl 60 = f.rl % 60 := Int.tmod_eq_emod_of_nonneg rl1
  rw [show specF f = ⟨1, f.ba % 20 * 8, 1 + f.rl % 60, md f.bit 400, 256 - md f.bit 3, 2 ^ (md f.wd 4).toNat, md f.up 3, f.ix, f.da⟩ by simp [specF, spS, h7, hs, hl, h6]]
  refine SC.run hm Try.func9 rfl [.call [] [.s (.int .i64 f.ix), .s (.int .i64 8)] [] (.s (.int .i64 (md f.ix 8))) 0 [], .dec false, .call [] [.s (.int .i64 f.wd), .s (.int .i64 4)] [] (.s (.int .i64 (md f.wd 4))) 0 [], .num (md f.wd 4), .num (2 ^ (md f.wd 4).toNat), .call [] [.s (.int .i64 f.sp), .s (.int .i64 4)] [] (.s (.int .i64 (md f.sp 4))) 0 [], .idx 1, .num (f.ba % 20), .num (f.ba % 20 * 8), .num (f.rl % 60), .num (1 + f.rl % 60), .call [] [.s (.int .i64 f.bit), .s (.int .i64 400)] [] (.s (.int .i64 (md f.bit 400))) 0 [], .call [] [.s (.int .i64 f.ln), .s (.int .i64 100)] [] (.s (.int .i64 (md f.ln 100))) 0 [], .num (1 + md f.ln 100), .call [] [.s (.int .i64 f.up), .s (.int .i64 3)] [] (.s (.int .i64 (md f.up 3))) 0 [], .call [] [.s (.int .i64 f.ln), .s (.int .i64 9)] [] (.s (.int .i64 (md f.ln 9))) 0 [], .dec true, .call [] [.s (.int .i64 f.bit), .s (.int .i64 3)] [] (.s (.int .i64 (md f.bit 3))) 0 [], .num (256 - md f.bit 3), .dec false, .call [] [.s (.int .i64 f.ix), .s (.int .i64 8)] [] (.s (.int .i64 (md f.ix 8))) 0 [], .dec false] [] rfl rfl ?_ (.inl rfl) (EndOK.plain rfl no_mem rfl rfl)
  rw [r1, r2, pw]
  simp only [true_and, and_true, and_assoc, beq_iff_eq, beq_eq_false_iff_ne, ne_eq, u64_wrap, i64_wrap]
  repeat' apply And.intro
  all_goals first
    | exact True.intro
    | omega
    | exact call0 a1 rfl
    | exact call0 a2 rfl
    | exact call0 a3 rfl
    | exact call0 a4 rfl
    | exact call0 a5 rfl
    | exact call0 a6 rfl
    | exact call0 a7 rfl
    | exact call0 a8 rfl
    | (with_reducible show _ = true; kernel_rfl)

set_option maxHeartbeats 2000000 in
theorem spec_1ft (f : Fsp) (hf : f.ok) (h7 : md f.ix 8 ≠ 7) (hs : md f.sp 4 = 1) (hl : ¬ md f.ln 9 = 8) (h6 : md f.ix 8 = 6) : SC Try.prog 9 [f.v] 0 [] (specF f).v 0 [] := by
  have a1 := md_s f.ix 8 (by omega) (by omega)
  have a2 := md_s f.wd 4 (by omega) (by omega)
  have a3 := md_s f.sp 4 (by omega) (by omega)
  have a4 := md_s f.bit 400 (by omega) (by omega)
  have a5 := md_s f.ln 100 (by omega) (by omega)
  have a6 := md_s f.up 3 (by omega) (by omega)
  have a7 := md_s f.ln 9 (by omega) (by omega)
  have a8 := md_s f.bit 3 (by omega) (by omega)
  have b2 := md_b f.wd 4 (by omega)
  have b5 := md_b f.ln 100 (by omega)
  have b8 := md_b f.bit 3 (by omega)
  have pw := pw4 _ b2
  obtain ⟨ba1, ba2⟩ := hf.ba
  obtain ⟨rl1, rl2⟩ := hf.rl
  have r1 : Int.tmod f.ba 20 = f.ba % 20 := Int.tmod_eq_emod_of_nonneg ba1
  have r2 : Int.tmod f.rl 60 = f.rl % 60 := Int.tmod_eq_emod_of_nonneg rl1
  rw [show specF f = ⟨1, 18446744073709551552, 1 + f.rl % 60, md f.bit 400, 1 + md f.ln 100, 2 ^ (md f.wd 4).toNat, md f.up 3, f.ix, f.da⟩ by simp [specF, spS, h7, hs, hl, h6]]
  refine SC.run hm Try.func9 rfl [.call [] [.s (.int .i64 f.ix), .s (.int .i64 8)] [] (.s (.int .i64 (md f.ix 8))) 0 [], .dec false, .call [] [.s (.int .i64 f.wd), .s (.int .i64 4)] [] (.s (.int .i64 (md f.wd 4))) 0 [], .num (md f.wd 4), .num (2 ^ (md f.wd 4).toNat), .call [] [.s (.int .i64 f.sp), .s (.int .i64 4)] [] (.s (.int .i64 (md f.sp 4))) 0 [], .idx 1, .num (f.ba % 20), .num (f.ba % 20 * 8), .num (f.rl % 60), .num (1 + f.rl % 60), .call [] [.s (.int .i64 f.bit), .s (.int .i64 400)] [] (.s (.int .i64 (md f.bit 400))) 0 [], .call [] [.s (.int .i64 f.ln), .s (.int .i64 100)] [] (.s (.int .i64 (md f.ln 100))) 0 [], .num (1 + md f.ln 100), .call [] [.s (.int .i64 f.up), .s (.int .i64 3)] [] (.s (.int .i64 (md f.up 3))) 0 [], .call [] [.s (.int .i64 f.ln), .s (.int .i64 9)] [] (.s (.int .i64 (md f.ln 9))) 0 [], .dec false, .dec false, .call [] [.s (.int .i64 f.ix), .s (.int .i64 8)] [] (.s (.int .i64 (md f.ix 8))) 0 [], .dec true] [] rfl rfl ?_ (.inl rfl) (EndOK.plain rfl no_mem rfl rfl)
  rw [r1, r2, pw]
  simp only [true_and, and_true, and_assoc, beq_iff_eq, beq_eq_false_iff_ne, ne_eq, u64_wrap, i64_wrap]
  repeat' apply And.intro
  all_goals first
    | exact True.intro
    | omega
    | exact call0 a1 rfl
    | exact call0 a2 rfl
    | exact call0 a3 rfl
    | exact call0 a4 rfl
    | exact call0 a5 rfl
    | exact call0 a6 rfl
    | exact call0 a7 rfl
    | exact call0 a8 rfl
    | (with_reducible show _ = true; kernel_rfl)

set_option maxHeartbeats 2000000 in
theorem spec_1ff (f : Fsp) (hf : f.ok) (h7 : md f.ix 8 ≠ 7) (hs : md f.sp 4 = 1) (hl : ¬ md f.ln 9 = 8) (h6 : ¬ md f.ix 8 = 6) : SC Try.prog 9 [f.v] 0 [] (specF f).v 0 [] := by
  have a1 := md_s f.ix 8 (by omega) (by omega)
  have a2 := md_s f.wd 4 (by omega) (by omega)
  have a3 := md_s f.sp 4 (by omega) (by omega)
  have a4 := md_s f.bit 400 (by omega) (by omega)
  have a5 := md_s f.ln 100 (by omega) (by omega)
  have a6 := md_s f.up 3 (by omega) (by omega)
  have a7 := md_s f.ln 9 (by omega) (by omega)
  have a8 := md_s f.bit 3 (by omega) (by omega)
  have b2 := md_b f.wd 4 (by omega)
  have b5 := md_b f.ln 100 (by omega)
  have b8 := md_b f.bit 3 (by omega)
  have pw := pw4 _ b2
  obtain ⟨ba1, ba2⟩ := hf.ba
  obtain ⟨rl1, rl2⟩ := hf.rl
  have r1 : Int.tmod f.ba 20 = f.ba % 20 := Int.tmod_eq_emod_of_nonneg ba1
  have r2 : Int.tmod f.rl 60 = f.rl % 60 := Int.tmod_eq_emod_of_nonneg rl1
  rw [show specF f = ⟨1, f.ba % 20 * 8, 1 + f.rl % 60, md f.bit 400, 1 + md f.ln 100, 2 ^ (md f.wd 4).toNat, md f.up 3, f.ix, f.da⟩ by simp [specF, spS, h7, hs, hl, h6]]
  refine SC.run hm Try.func9 rfl [.call [] [.s (.int .i64 f.ix), .s (.int .i64 8)] [] (.s (.int .i64 (md f.ix 8))) 0 [], .dec false, .call [] [.s (.int .i64 f.wd), .s (.int .i64 4)] [] (.s (.int .i64 (md f.wd 4))) 0 [], .num (md f.wd 4), .num (2 ^ (md f.wd 4).toNat), .call [] [.s (.int .i64 f.sp), .s (.int .i64 4)] [] (.s (.int .i64 (md f.sp 4))) 0 [], .idx 1, .num (f.ba % 20), .num (f.ba % 20 * 8), .num (f.rl % 60), .num (1 + f.rl % 60), .call [] [.s (.int .i64 f.bit), .s (.int .i64 400)] [] (.s (.int .i64 (md f.bit 400))) 0 [], .call [] [.s (.int .i64 f.ln), .s (.int .i64 100)] [] (.s (.int .i64 (md f.ln 100))) 0 [], .num (1 + md f.ln 100), .call [] [.s (.int .i64 f.up), .s (.int .i64 3)] [] (.s (.int .i64 (md f.up 3))) 0 [], .call [] [.s (.int .i64 f.ln), .s (.int .i64 9)] [] (.s (.int .i64 (md f.ln 9))) 0 [], .dec false, .dec false, .call [] [.s (.int .i64 f.ix), .s (.int .i64 8)] [] (.s (.int .i64 (md f.ix 8))) 0 [], .dec false] [] rfl rfl ?_ (.inl rfl) (EndOK.plain rfl no_mem rfl rfl)
  rw [r1, r2, pw]
  simp only [true_and, and_true, and_assoc, beq_iff_eq, beq_eq_false_iff_ne, ne_eq, u64_wrap, i64_wrap]
  repeat' apply And.intro
  all_goals first
    | exact True.intro
    | omega
    | exact call0 a1 rfl
    | exact call0 a2 rfl
    | exact call0 a3 rfl
    | exact call0 a4 rfl
    | exact call0 a5 rfl
    | exact call0 a6 rfl
    | exact call0 a7 rfl
    | exact call0 a8 rfl
    | (with_reducible show _ = true; kernel_rfl)

set_option maxHeartbeats 2000000 in
theorem spec_2tt (f : Fsp) (hf : f.ok) (h7 : md f.ix 8 ≠ 7) (hs : md f.sp 4 = 2) (hl : md f.ln 9 = 8) (h6 : md f.ix 8 = 6) : SC Try.prog 9 [f.v] 0 [] (specF f).v 0 [] := by
  have a1 := md_s f.ix 8 (by omega) (by omega)
  have a2 := md_s f.wd 4 (by omega) (by omega)
  have a3 := md_s f.sp 4 (by omega) (by omega)
  have a4 := md_s f.bit 400 (by omega) (by omega)
  have a5 := md_s f.ln 100 (by omega) (by omega)
  have a6 := md_s f.up 3 (by omega) (by omega)
  have a7 := md_s f.ln 9 (by omega) (by omega)
  have a8 := md_s f.bit 3 (by omega) (by omega)
  have b2 := md_b f.wd 4 (by omega)
  have b5 := md_b f.ln 100 (by omega)
  have b8 := md_b f.bit 3 (by omega)
  have pw := pw4 _ b2
  obtain ⟨ba1, ba2⟩ := hf.ba
  obtain ⟨rl1, rl2⟩ := hf.rl
  have r1 : Int.tmod f.ba 20 = f.ba % 20 := Int.tmod_eq_emod_of_nonneg ba1
  have r2 : Int.tmod f.rl 60 = f.rl % 60 := Int.tmod_eq_emod_of_nonneg rl1
  rw [show specF f = ⟨3, 18446744073709551552, 1 + f.rl % 60, md f.bit 400, 256 - md f.bit 3, 1, md f.up 3, f.ix, f.da⟩ by simp [specF, spS, h7, hs, hl, h6]]
  refine SC.run hm Try.func9 rfl [.call [] [.s (.int .i64 f.ix), .s (.int .i64 8)] [] (.s (.int .i64 (md f.ix 8))) 0 [], .dec false, .call [] [.s (.int .i64 f.wd), .s (.int .i64 4)] [] (.s (.int .i64 (md f.wd 4))) 0 [], .num (md f.wd 4), .num (2 ^ (md f.wd 4).toNat), .call [] [.s (.int .i64 f.sp), .s (.int .i64 4)] [] (.s (.int .i64 (md f.sp 4))) 0 [], .idx 2, .num (f.ba % 20), .num (f.ba % 20 * 8), .num (f.rl % 60), .num (1 + f.rl % 60), .call [] [.s (.int .i64 f.bit), .s (.int .i64 400)] [] (.s (.int .i64 (md f.bit 400))) 0 [], .call [] [.s (.int .i64 f.ln), .s (.int .i64 100)] [] (.s (.int .i64 (md f.ln 100))) 0 [], .num (1 + md f.ln 100), .call [] [.s (.int .i64 f.up), .s (.int .i64 3)] [] (.s (.int .i64 (md f.up 3))) 0 [], .call [] [.s (.int .i64 f.ln), .s (.int .i64 9)] [] (.s (.int .i64 (md f.ln 9))) 0 [], .dec true, .call [] [.s (.int .i64 f.bit), .s (.int .i64 3)] [] (.s (.int .i64 (md f.bit 3))) 0 [], .num (256 - md f.bit 3), .dec true, .call [] [.s (.int .i64 f.ix), .s (.int .i64 8)] [] (.s (.int .i64 (md f.ix 8))) 0 [], .dec true] [] rfl rfl ?_ (.inl rfl) (EndOK.plain rfl no_mem rfl rfl)
  rw [r1, r2, pw]
  simp only [true_and, and_true, and_assoc, beq_iff_eq, beq_eq_false_iff_ne, ne_eq, u64_wrap, i64_wrap]
  repeat' apply And.intro
  all_goals first
    | exact True.intro
    | omega
    | exact call0 a1 rfl
    | exact call0 a2 rfl
    | exact call0 a3 rfl
    | exact call0 a4 rfl
    | exact call0 a5 rfl
    | exact call0 a6 rfl
    | exact call0 a7 rfl
    | exact call0 a8 rfl
    | (with_reducible show _ = true; kernel_rfl)

set_option maxHeartbeats 2000000 in
theorem spec_2tf (f : Fsp) (hf : f.ok) (h7 : md f.ix 8 ≠ 7) (hs : md f.sp 4 = 2) (hl : md f.ln 9 = 8) (h6 : ¬ md f.ix 8 = 6) : SC Try.prog 9 [f.v] 0 [] (specF f).v 0 [] := by
  have a1 := md_s f.ix 8 (by omega) (by omega)
  have a2 := md_s f.wd 4 (by omega) (by omega)
  have a3 := md_s f.sp 4 (by omega) (by omega)
  have a4 := md_s f.bit 400 (by omega) (by omega)
  have a5 := md_s f.ln 100 (by omega) (by omega)
  have a6 := md_s f.up 3 (by omega) (by omega)
  have a7 := md_s f.ln 9 (by omega) (by omega)
  have a8 := md_s f.bit 3 (by omega) (by omega)
  have b2 := md_b f.wd 4 (by omega)
  have b5 := md_b f.ln 100 (by omega)
  have b8 := md_b f.bit 3 (by omega)
  have pw := pw4 _ b2
  obtain ⟨ba1, ba2⟩ := hf.ba
  obtain ⟨rl1, rl2⟩ := hf.rl
  have r1 : Int.tmod f.ba 20 = f.ba % 20 := Int.tmod_eq_emod_of_nonneg ba1
  have r2 : Int.tmod f.rl 60 = f.rl % 60 := Int.tmod_eq_emod_of_nonneg rl1
  rw [show specF f = ⟨3, f.ba % 20 * 8, 1 + f.rl % 60, md f.bit 400, 256 - md f.bit 3, 1, md f.up 3, f.ix, f.da⟩ by simp [specF, spS, h7, hs, hl, h6]]
  refine SC.run hm Try.func9 rfl [.call [] [.s (.int .i64 f.ix), .s (.int .i64 8)] [] (.s (.int .i64 (md f.ix 8))) 0 [], .dec false, .call [] [.s (.int .i64 f.wd), .s (.int .i64 4)] [] (.s (.int .i64 (md f.wd 4))) 0 [], .num (md f.wd 4), .num (2 ^ (md f.wd 4).toNat), .call [] [.s (.int .i64 f.sp), .s (.int .i64 4)] [] (.s (.int .i64 (md f.sp 4))) 0 [], .idx 2, .num (f.ba % 20), .num (f.ba % 20 * 8), .num (f.rl % 60), .num (1 + f.rl % 60), .call [] [.s (.int .i64 f.bit), .s (.int .i64 400)] [] (.s (.int .i64 (md f.bit 400))) 0 [], .call [] [.s (.int .i64 f.ln), .s (.int .i64 100)] [] (.s (.int .i64 (md f.ln 100))) 0 [], .num (1 + md f.ln 100), .call [] [.s (.int .i64 f.up), .s (.int .i64 3)] [] (.s (.int .i64 (md f.up 3))) 0 [], .call [] [.s (.int .i64 f.ln), .s (.int .i64 9)] [] (.s (.int .i64 (md f.ln 9))) 0 [], .dec true, .call [] [.s (.int .i64 f.bit), .s (.int .i64 3)] [] (.s (.int .i64 (md f.bit 3))) 0 [], .num (256 - md f.bit 3), .dec true, .call [] [.s (.int .i64 f.ix), .s (.int .i64 8)] [] (.s (.int .i64 (md f.ix 8))) 0 [], .dec false] [] rfl rfl ?_ (.inl rfl) (EndOK.plain rfl no_mem rfl rfl)
  rw [r1, r2, pw]
  simp only [true_and, and_true, and_assoc, beq_iff_eq, beq_eq_false_iff_ne, ne_eq, u64_wrap, i64_wrap]
  repeat' apply And.intro
  all_goals first
    | exact True.intro
    | omega
    | exact call0 a1 rfl
    | exact call0 a2 rfl
    | exact call0 a3 rfl
    | exact call0 a4 rfl
    | exact call0 a5 rfl
    | exact call0 a6 rfl
    | exact call0 a7 rfl
    | exact call0 a8 rfl
    | (with_reducible show _ = true; kernel_rfl)

set_option maxHeartbeats 2000000 in
theorem spec_2ft (f : Fsp) (hf : f.ok) (h7 : md f.ix 8 ≠ 7) (hs : md f.sp 4 = 2) (hl : ¬ md f.ln 9 = 8) (h6 : md f.ix 8 = 6) : SC Try.prog 9 [f.v] 0 [] (specF f).v 0 [] := by
  have a1 := md_s f.ix 8 (by omega) (by omega)
  have a2 := md_s f.wd 4 (by omega) (by omega)
  have a3 := md_s f.sp 4 (by omega) (by omega)
  have a4 := md_s f.bit 400 (by omega) (by omega)
  have a5 := md_s f.ln 100 (by omega) (by omega)
  have a6 := md_s f.up 3 (by omega) (by omega)
  have a7 := md_s f.ln 9 (by omega) (by omega)
  have a8 := md_s f.bit 3 (by omega) (by omega)
  have b2 := md_b f.wd 4 (by omega)
  have b5 := md_b f.ln 100 (by omega)
  have b8 := md_b f.bit 3 (by omega)
  have pw := pw4 _ b2
  obtain ⟨ba1, ba2⟩ := hf.ba
  obtain ⟨rl1, rl2⟩ := hf.rl
  have r1 : Int.tmod f.ba 20 = f.ba % 20 := Int.tmod_eq_emod_of_nonneg ba1
  have r2 : Int.tmod f.rl 60 = f.rl % 60 := Int.tmod_eq_emod_of_nonneg rl1
  rw [show specF f = ⟨3, 18446744073709551552, 1 + f.rl % 60, md f.bit 400, 1 + md f.ln 100, 1, md f.up 3, f.ix, f.da⟩ by simp [specF, spS, h7, hs, hl, h6]]
  refine SC.run hm Try.func9 rfl [.call [] [.s (.int .i64 f.ix), .s (.int .i64 8)] [] (.s (.int .i64 (md f.ix 8))) 0 [], .dec false, .call [] [.s (.int .i64 f.wd), .s (.int .i64 4)] [] (.s (.int .i64 (md f.wd 4))) 0 [], .num (md f.wd 4), .num (2 ^ (md f.wd 4).toNat), .call [] [.s (.int .i64 f.sp), .s (.int .i64 4)] [] (.s (.int .i64 (md f.sp 4))) 0 [], .idx 2, .num (f.ba % 20), .num (f.ba % 20 * 8), .num (f.rl % 60), .num (1 + f.rl % 60), .call [] [.s (.int .i64 f.bit), .s (.int .i64 400)] [] (.s (.int .i64 (md f.bit 400))) 0 [], .call [] [.s (.int .i64 f.ln), .s (.int .i64 100)] [] (.s (.int .i64 (md f.ln 100))) 0 [], .num (1 + md f.ln 100), .call [] [.s (.int .i64 f.up), .s (.int .i64 3)] [] (.s (.int .i64 (md f.up 3))) 0 [], .call [] [.s (.int .i64 f.ln), .s (.int .i64 9)] [] (.s (.int .i64 (md f.ln 9))) 0 [], .dec false, .dec true, .call [] [.s (.int .i64 f.ix), .s (.int .i64 8)] [] (.s (.int .i64 (md f.ix 8))) 0 [], .dec true] [] rfl rfl ?_ (.inl rfl) (EndOK.plain rfl no_mem rfl rfl)
  rw [r1, r2, pw]
  simp only [true_and, and_true, and_assoc, beq_iff_eq, beq_eq_false_iff_ne, ne_eq, u64_wrap, i64_wrap]
  repeat' apply And.intro
  all_goals first
    | exact True.intro
    | omega
    | exact call0 a1 rfl
    | exact call0 a2 rfl
    | exact call0 a3 rfl
    | exact call0 a4 rfl
    | exact call0 a5 rfl
    | exact call0 a6 rfl
    | exact call0 a7 rfl
    | exact call0 a8 rfl
    | (with_reducible show _ = true; kernel_rfl)

set_option maxHeartbeats 2000000 in
theorem spec_2ff (f : Fsp) (hf : f.ok) (h7 : md f.ix 8 ≠ 7) (hs : md f.sp 4 = 2) (hl : ¬ md f.ln 9 = 8) (h6 : ¬ md f.ix 8 = 6) : SC Try.prog 9 [f.v] 0 [] (specF f).v 0 [] := by
  have a1 := md_s f.ix 8 (by omega) (by omega)
  have a2 := md_s f.wd 4 (by omega) (by omega)
  have a3 := md_s f.sp 4 (by omega) (by omega)
  have a4 := md_s f.bit 400 (by omega) (by omega)
  have a5 := md_s f.ln 100 (by omega) (by omega)
  have a6 := md_s f.up 3 (by omega) (by omega)
  have a7 := md_s f.ln 9 (by omega) (by omega)
  have a8 := md_s f.bit 3 (by omega) (by omega)
  have b2 := md_b f.wd 4 (by omega)
  have b5 := md_b f.ln 100 (by omega)
  have b8 := md_b f.bit 3 (by omega)
  have pw := pw4 _ b2
  obtain ⟨ba1, ba2⟩ := hf.ba
  obtain ⟨rl1, rl2⟩ := hf.rl
  have r1 : Int.tmod f.ba 20 = f.ba % 20 := Int.tmod_eq_emod_of_nonneg ba1
  have r2 : Int.tmod f.rl 60 = f.rl % 60 := Int.tmod_eq_emod_of_nonneg rl1
  rw [show specF f = ⟨3, f.ba % 20 * 8, 1 + f.rl % 60, md f.bit 400, 1 + md f.ln 100, 1, md f.up 3, f.ix, f.da⟩ by simp [specF, spS, h7, hs, hl, h6]]
  refine SC.run hm Try.func9 rfl [.call [] [.s (.int .i64 f.ix), .s (.int .i64 8)] [] (.s (.int .i64 (md f.ix 8))) 0 [], .dec false, .call [] [.s (.int .i64 f.wd), .s (.int .i64 4)] [] (.s (.int .i64 (md f.wd 4))) 0 [], .num (md f.wd 4), .num (2 ^ (md f.wd 4).toNat), .call [] [.s (.int .i64 f.sp), .s (.int .i64 4)] [] (.s (.int .i64 (md f.sp 4))) 0 [], .idx 2, .num (f.ba % 20), .num (f.ba % 20 * 8), .num (f.rl % 60), .num (1 + f.rl % 60), .call [] [.s (.int .i64 f.bit), .s (.int .i64 400)] [] (.s (.int .i64 (md f.bit 400))) 0 [], .call [] [.s (.int .i64 f.ln), .s (.int .i64 100)] [] (.s (.int .i64 (md f.ln 100))) 0 [], .num (1 + md f.ln 100), .call [] [.s (.int .i64 f.up), .s (.int .i64 3)] [] (.s (.int .i64 (md f.up 3))) 0 [], .call [] [.s (.int .i64 f.ln), .s (.int .i64 9)] [] (.s (.int .i64 (md f.ln 9))) 0 [], .dec false, .dec true, .call [] [.s (.int .i64 f.ix), .s (.int .i64 8)] [] (.s (.int .i64 (md f.ix 8))) 0 [], .dec false] [] rfl rfl ?_ (.inl rfl) (EndOK.plain rfl no_mem rfl rfl)
  rw [r1, r2, pw]
  simp only [true_and, and_true, and_assoc, beq_iff_eq, beq_eq_false_iff_ne, ne_eq, u64_wrap, i64_wrap]
  repeat' apply And.intro
  all_goals first
    | exact True.intro
    | omega
    | exact call0 a1 rfl
    | exact call0 a2 rfl
    | exact call0 a3 rfl
    | exact call0 a4 rfl
    | exact call0 a5 rfl
    | exact call0 a6 rfl
    | exact call0 a7 rfl
    | exact call0 a8 rfl
    | (with_reducible show _ = true; kernel_rfl)

set_option maxHeartbeats 2000000 in
theorem spec_3tt (f : Fsp) (hf : f.ok) (h7 : md f.ix 8 ≠ 7) (hs : md f.sp 4 = 3) (hl : md f.ln 9 = 8) (h6 : md f.ix 8 = 6) : SC Try.prog 9 [f.v] 0 [] (specF f).v 0 [] := by
  have a1 := md_s f.ix 8 (by omega) (by omega)
  have a2 := md_s f.wd 4 (by omega) (by omega)
  have a3 := md_s f.sp 4 (by omega) (by omega)
  have a4 := md_s f.bit 400 (by omega) (by omega)
  have a5 := md_s f.ln 100 (by omega) (by omega)
  have a6 := md_s f.up 3 (by omega) (by omega)
  have a7 := md_s f.ln 9 (by omega) (by omega)
  have a8 := md_s f.bit 3 (by omega) (by omega)
  have b2 := md_b f.wd 4 (by omega)
  have b5 := md_b f.ln 100 (by omega)
  have b8 := md_b f.bit 3 (by omega)
  have pw := pw4 _ b2
  obtain ⟨ba1, ba2⟩ := hf.ba
  obtain ⟨rl1, rl2⟩ := hf.rl
  have r1 : Int.tmod f.ba 20 = f.ba % 20 := Int.tmod_eq_emod_of_nonneg ba1
  have r2 : Int.tmod f.rl 60 = f.rl % 60 := Int.tmod_eq_emod_of_nonneg rl1
  rw [show specF f = ⟨0, 18446744073709551552, 1 + f.rl % 60, md f.bit 400, 256 - md f.bit 3, 2 ^ (md f.wd 4).toNat, md f.up 3, f.ix, f.da⟩ by simp [specF, spS, h7, hs, hl, h6]]
  refine SC.run hm Try.func9 rfl [.call [] [.s (.int .i64 f.ix), .s (.int .i64 8)] [] (.s (.int .i64 (md f.ix 8))) 0 [], .dec false, .call [] [.s (.int .i64 f.wd), .s (.int .i64 4)] [] (.s (.int .i64 (md f.wd 4))) 0 [], .num (md f.wd 4), .num (2 ^ (md f.wd 4).toNat), .call [] [.s (.int .i64 f.sp), .s (.int .i64 4)] [] (.s (.int .i64 (md f.sp 4))) 0 [], .idx 3, .num (f.ba % 20), .num (f.ba % 20 * 8), .num (f.rl % 60), .num (1 + f.rl % 60), .call [] [.s (.int .i64 f.bit), .s (.int .i64 400)] [] (.s (.int .i64 (md f.bit 400))) 0 [], .call [] [.s (.int .i64 f.ln), .s (.int .i64 100)] [] (.s (.int .i64 (md f.ln 100))) 0 [], .num (1 + md f.ln 100), .call [] [.s (.int .i64 f.up), .s (.int .i64 3)] [] (.s (.int .i64 (md f.up 3))) 0 [], .call [] [.s (.int .i64 f.ln), .s (.int .i64 9)] [] (.s (.int .i64 (md f.ln 9))) 0 [], .dec true, .call [] [.s (.int .i64 f.bit), .s (.int .i64 3)] [] (.s (.int .i64 (md f.bit 3))) 0 [], .num (256 - md f.bit 3), .dec false, .call [] [.s (.int .i64 f.ix), .s (.int .i64 8)] [] (.s (.int .i64 (md f.ix 8))) 0 [], .dec true] [] rfl rfl ?_ (.inl rfl) (EndOK.plain rfl no_mem rfl rfl)
  rw [r1, r2, pw]
  simp only [true_and, and_true, and_assoc, beq_iff_eq, beq_eq_false_iff_ne, ne_eq, u64_wrap, i64_wrap]
  repeat' apply And.intro
  all_goals first
    | exact True.intro
    | omega
    | exact call0 a1 rfl
    | exact call0 a2 rfl
    | exact call0 a3 rfl
    | exact call0 a4 rfl
    | exact call0 a5 rfl
    | exact call0 a6 rfl
    | exact call0 a7 rfl
    | exact call0 a8 rfl
    | (with_reducible show _ = true; kernel_rfl)

set_option maxHeartbeats 2000000 in
theorem spec_3tf (f : Fsp) (hf : f.ok) (h7 : md f.ix 8 ≠ 7) (hs : md f.sp 4 = 3) (hl : md f.ln 9 = 8) (h6 : ¬ md f.ix 8 = 6) : SC Try.prog 9 [f.v] 0 [] (specF f).v 0 [] := by
  have a1 := md_s f.ix 8 (by omega) (by omega)
  have a2 := md_s f.wd 4 (by omega) (by omega)
  have a3 := md_s f.sp 4 (by omega) (by omega)
  have a4 := md_s f.bit 400 (by omega) (by omega)
  have a5 := md_s f.ln 100 (by omega) (by omega)
  have a6 := md_s f.up 3 (by omega) (by omega)
  have a7 := md_s f.ln 9 (by omega) (by omega)
  have a8 := md_s f.bit 3 (by omega) (by omega)
  have b2 := md_b f.wd 4 (by omega)
  have b5 := md_b f.ln 100 (by omega)
  have b8 := md_b f.bit 3 (by omega)
  have pw := pw4 _ b2
  obtain ⟨ba1, ba2⟩ := hf.ba
  obtain ⟨rl1, rl2⟩ := hf.rl
  have r1 : Int.tmod f.ba 20 = f.ba % 20 := Int.tmod_eq_emod_of_nonneg ba1
  have r2 : Int.tmod f.rl 60 = f.rl % 60 := Int.tmod_eq_emod_of_nonneg rl1
  rw [show specF f = ⟨0, f.ba % 20 * 8, 1 + f.rl % 60, md f.bit 400, 256 - md f.bit 3, 2 ^ (md f.wd 4).toNat, md f.up 3, f.ix, f.da⟩ by simp [specF, spS, h7, hs, hl, h6]]
  refine SC.run hm Try.func9 rfl [.call [] [.s (.int .i64 f.ix), .s (.int .i64 8)] [] (.s (.int .i64 (md f.ix 8))) 0 [], .dec false, .call [] [.s (.int .i64 f.wd), .s (.int .i64 4)] [] (.s (.int .i64 (md f.wd 4))) 0 [], .num (md f.wd 4), .num (2 ^ (md f.wd 4).toNat), .call [] [.s (.int .i64 f.sp), .s (.int .i64 4)] [] (.s (.int .i64 (md f.sp 4))) 0 [], .idx 3, .num (f.ba % 20), .num (f.ba % 20 * 8), .num (f.rl % 60), .num (1 + f.rl % 60), .call [] [.s (.int .i64 f.bit), .s (.int .i64 400)] [] (.s (.int .i64 (md f.bit 400))) 0 [], .call [] [.s (.int .i64 f.ln), .s (.int .i64 100)] [] (.s (.int .i64 (md f.ln 100))) 0 [], .num (1 + md f.ln 100), .call [] [.s (.int .i64 f.up), .s (.int .i64 3)] [] (.s (.int .i64 (md f.up 3))) 0 [], .call [] [.s (.int .i64 f.ln), .s (.int .i64 9)] [] (.s (.int .i64 (md f.ln 9))) 0 [], .dec true, .call [] [.s (.int .i64 f.bit), .s (.int .i64 3)] [] (.s (.int .i64 (md f.bit 3))) 0 [], .num (256 - md f.bit 3), .dec false, .call [] [.s (.int .i64 f.ix), .s (.int .i64 8)] [] (.s (.int .i64 (md f.ix 8))) 0 [], .dec false] [] rfl rfl ?_ (.inl rfl) (EndOK.plain rfl no_mem rfl rfl)
  rw [r1, r2, pw]
  simp only [true_and, and_true, and_assoc, beq_iff_eq, beq_eq_false_iff_ne, ne_eq, u64_wrap, i64_wrap]
  repeat' apply And.intro
  all_goals first
    | exact True.intro
    | omega
    | exact call0 a1 rfl
    | exact call0 a2 rfl
    | exact call0 a3 rfl
    | exact call0 a4 rfl
    | exact call0 a5 rfl
    | exact call0 a6 rfl
    | exact call0 a7 rfl
    | exact call0 a8 rfl
    | (with_reducible show _ = true; kernel_rfl)

set_option maxHeartbeats 2000000 in
theorem spec_3ft (f : Fsp) (hf : f.ok) (h7 : md f.ix 8 ≠ 7) (hs : md f.sp 4 = 3) (hl : ¬ md f.ln 9 = 8) (h6 : md f.ix 8 = 6) : SC Try.prog 9 [f.v] 0 [] (specF f).v 0 [] := by
  have a1 := md_s f.ix 8 (by omega) (by omega)
  have a2 := md_s f.wd 4 (by omega) (by omega)
  have a3 := md_s f.sp 4 (by omega) (by omega)
  have a4 := md_s f.bit 400 (by omega) (by omega)
  have a5 := md_s f.ln 100 (by omega) (by omega)
  have a6 := md_s f.up 3 (by omega) (by omega)
  have a7 := md_s f.ln 9 (by omega) (by omega)
  have a8 := md_s f.bit 3 (by omega) (by omega)
  have b2 := md_b f.wd 4 (by omega)
  have b5 := md_b f.ln 100 (by omega)
  have b8 := md_b f.bit 3 (by omega)
  have pw := pw4 _ b2
  obtain ⟨ba1, ba2⟩ := hf.ba
  obtain ⟨rl1, rl2⟩ := hf.rl
  have r1 : Int.tmod f.ba 20 = f.ba % 20 := Int.tmod_eq_emod_of_nonneg ba1
  have r2 : Int.tmod f.rl 60 = f.rl % 60 := Int.tmod_eq_emod_of_nonneg rl1
  rw [show specF f = ⟨0, 18446744073709551552, 1 + f.rl % 60, md f.bit 400, 1 + md f.ln 100, 2 ^ (md f.wd 4).toNat, md f.up 3, f.ix, f.da⟩ by simp [specF, spS, h7, hs, hl, h6]]
  refine SC.run hm Try.func9 rfl [.call [] [.s (.int .i64 f.ix), .s (.int .i64 8)] [] (.s (.int .i64 (md f.ix 8))) 0 [], .dec false, .call [] [.s (.int .i64 f.wd), .s (.int .i64 4)] [] (.s (.int .i64 (md f.wd 4))) 0 [], .num (md f.wd 4), .num (2 ^ (md f.wd 4).toNat), .call [] [.s (.int .i64 f.sp), .s (.int .i64 4)] [] (.s (.int .i64 (md f.sp 4))) 0 [], .idx 3, .num (f.ba % 20), .num (f.ba % 20 * 8), .num (f.rl % 60), .num (1 + f.rl % 60), .call [] [.s (.int .i64 f.bit), .s (.int .i64 400)] [] (.s (.int .i64 (md f.bit 400))) 0 [], .call [] [.s (.int .i64 f.ln), .s (.int .i64 100)] [] (.s (.int .i64 (md f.ln 100))) 0 [], .num (1 + md f.ln 100), .call [] [.s (.int .i64 f.up), .s (.int .i64 3)] [] (.s (.int .i64 (md f.up 3))) 0 [], .call [] [.s (.int .i64 f.ln), .s (.int .i64 9)] [] (.s (.int .i64 (md f.ln 9))) 0 [], .dec false, .dec false, .call [] [.s (.int .i64 f.ix), .s (.int .i64 8)] [] (.s (.int .i64 (md f.ix 8))) 0 [], .dec true] [] rfl rfl ?_ (.inl rfl) (EndOK.plain rfl no_mem rfl rfl)
  rw [r1, r2, pw]
  simp only [true_and, and_true, and_assoc, beq_iff_eq, beq_eq_false_iff_ne, ne_eq, u64_wrap, i64_wrap]
  repeat' apply And.intro
  all_goals first
    | exact True.intro
    | omega
    | exact call0 a1 rfl
    | exact call0 a2 rfl
    | exact call0 a3 rfl
    | exact call0 a4 rfl
    | exact call0 a5 rfl
    | exact call0 a6 rfl
    | exact call0 a7 rfl
    | exact call0 a8 rfl
    | (with_reducible show _ = true; kernel_rfl)

set_option maxHeartbeats 2000000 in
theorem spec_3ff (f : Fsp) (hf : f.ok) (h7 : md f.ix 8 ≠ 7) (hs : md f.sp 4 = 3) (hl : ¬ md f.ln 9 = 8) (h6 : ¬ md f.ix 8 = 6) : SC Try.prog 9 [f.v] 0 [] (specF f).v 0 [] := by
  have a1 := md_s f.ix 8 (by omega) (by omega)
  have a2 := md_s f.wd 4 (by omega) (by omega)
  have a3 := md_s f.sp 4 (by omega) (by omega)
  have a4 := md_s f.bit 400 (by omega) (by omega)
  have a5 := md_s f.ln 100 (by omega) (by omega)
  have a6 := md_s f.up 3 (by omega) (by omega)
  have a7 := md_s f.ln 9 (by omega) (by omega)
  have a8 := md_s f.bit 3 (by omega) (by omega)
  have b2 := md_b f.wd 4 (by omega)
  have b5 := md_b f.ln 100 (by omega)
  have b8 := md_b f.bit 3 (by omega)
  have pw := pw4 _ b2
  obtain ⟨ba1, ba2⟩ := hf.ba
  obtain ⟨rl1, rl2⟩ := hf.rl
  have r1 : Int.tmod f.ba 20 = f.ba % 20 := Int.tmod_eq_emod_of_nonneg ba1
  have r2 : Int.tmod f.rl 60 = f.rl % 60 := Int.tmod_eq_emod_of_nonneg rl1
  rw [show specF f = ⟨0, f.ba % 20 * 8, 1 + f.rl % 60, md f.bit 400, 1 + md f.ln 100, 2 ^ (md f.wd 4).toNat, md f.up 3, f.ix, f.da⟩ by simp [specF, spS, h7, hs, hl, h6]]
  refine SC.run hm Try.func9 rfl [.call [] [.s (.int .i64 f.ix), .s (.int .i64 8)] [] (.s (.int .i64 (md f.ix 8))) 0 [], .dec false, .call [] [.s (.int .i64 f.wd), .s (.int .i64 4)] [] (.s (.int .i64 (md f.wd 4))) 0 [], .num (md f.wd 4), .num (2 ^ (md f.wd 4).toNat), .call [] [.s (.int .i64 f.sp), .s (.int .i64 4)] [] (.s (.int .i64 (md f.sp 4))) 0 [], .idx 3, .num (f.ba % 20), .num (f.ba % 20 * 8), .num (f.rl % 60), .num (1 + f.rl % 60), .call [] [.s (.int .i64 f.bit), .s (.int .i64 400)] [] (.s (.int .i64 (md f.bit 400))) 0 [], .call [] [.s (.int .i64 f.ln), .s (.int .i64 100)] [] (.s (.int .i64 (md f.ln 100))) 0 [], .num (1 + md f.ln 100), .call [] [.s (.int .i64 f.up), .s (.int .i64 3)] [] (.s (.int .i64 (md f.up 3))) 0 [], .call [] [.s (.int .i64 f.ln), .s (.int .i64 9)] [] (.s (.int .i64 (md f.ln 9))) 0 [], .dec false, .dec false, .call [] [.s (.int .i64 f.ix), .s (.int .i64 8)] [] (.s (.int .i64 (md f.ix 8))) 0 [], .dec false] [] rfl rfl ?_ (.inl rfl) (EndOK.plain rfl no_mem rfl rfl)
  rw [r1, r2, pw]
  simp only [true_and, and_true, and_assoc, beq_iff_eq, beq_eq_false_iff_ne, ne_eq, u64_wrap, i64_wrap]
  repeat' apply And.intro
  all_goals first
    | exact True.intro
    | omega
    | exact call0 a1 rfl
    | exact call0 a2 rfl
    | exact call0 a3 rfl
    | exact call0 a4 rfl
    | exact call0 a5 rfl
    | exact call0 a6 rfl
    | exact call0 a7 rfl
    | exact call0 a8 rfl
    | (with_reducible show _ = true; kernel_rfl)

theorem spec_s (f : Fsp) (hf : f.ok) : SC Try.prog 9 [f.v] 0 [] (specF f).v 0 [] := by
  by_cases h7 : md f.ix 8 = 7
  · exact spec_7 f h7
  have b3 := md_b f.sp 4 (by omega)
  have hc : md f.sp 4 = 0 ∨ md f.sp 4 = 1 ∨ md f.sp 4 = 2 ∨ md f.sp 4 = 3 := by omega
  rcases hc with hs | hs | hs | hs
  · by_cases hl : md f.ln 9 = 8
    · by_cases h6 : md f.ix 8 = 6
      · exact spec_0tt f hf h7 hs hl h6
      · exact spec_0tf f hf h7 hs hl h6
    · by_cases h6 : md f.ix 8 = 6
      · exact spec_0ft f hf h7 hs hl h6
      · exact spec_0ff f hf h7 hs hl h6
  · by_cases hl : md f.ln 9 = 8
    · by_cases h6 : md f.ix 8 = 6
      · exact spec_1tt f hf h7 hs hl h6
      · exact spec_1tf f hf h7 hs hl h6
    · by_cases h6 : md f.ix 8 = 6
      · exact spec_1ft f hf h7 hs hl h6
      · exact spec_1ff f hf h7 hs hl h6
  · by_cases hl : md f.ln 9 = 8
    · by_cases h6 : md f.ix 8 = 6
      · exact spec_2tt f hf h7 hs hl h6
      · exact spec_2tf f hf h7 hs hl h6
    · by_cases h6 : md f.ix 8 = 6
      · exact spec_2ft f hf h7 hs hl h6
      · exact spec_2ff f hf h7 hs hl h6
  · by_cases hl : md f.ln 9 = 8
    · by_cases h6 : md f.ix 8 = 6
      · exact spec_3tt f hf h7 hs hl h6
      · exact spec_3tf f hf h7 hs hl h6
    · by_cases h6 : md f.ix 8 = 6
      · exact spec_3ft f hf h7 hs hl h6
      · exact spec_3ff f hf h7 hs hl h6

theorem specF_ok {f : Fsp} (hf : f.ok) : (specF f).ok := by
  unfold specF
  split
  · exact hf
  · have b1 := md_b f.wd 4 (by omega)
    have b2 := md_b f.bit 400 (by omega)
    have b3 := md_b f.ln 100 (by omega)
    have b4 := md_b f.up 3 (by omega)
    have b5 := md_b f.bit 3 (by omega)
    have p := pw4_b _ b1
    refine ⟨?_, ?_, ?_, ?_, ?_, ?_, ?_, hf.ix, hf.da⟩ <;> dsimp only
    · unfold spS; split
      · decide
      · split <;> decide
    · split <;> omega
    · omega
    · omega
    · split <;> omega
    · split
      · decide
      · omega
    · omega

end Go.Proofs.Ytgnidbokllmhhaa
