/-
  Masks: what it computes.
-/
import Derived.Test.YtgnidbokllmhhaaLm2
import Derived.KernelRfl
set_option linter.unusedSimpArgs false
set_option linter.unusedVariables false
namespace Go.Proofs.Ytgnidbokllmhhaa
open Go Ab
set_option maxRecDepth 100000

theorem units_v {f : Fsp} {b n w : Nat} (hf : f.ok) (h : FV f b n w) : SC Try.prog 31 [f.v] 0 [] (.tup [.s (.int .i64 ((uf b w : Nat) : Int)), .s (.int .i64 ((nU b n w : Nat) : Int))]) 0 [] := by
  have hu := units_s f hf
  have e1 : fF f = ((uf b w : Nat) : Int) := by
    simp only [fF, h.v, if_true, uF, h.bit, h.wd, Int.natCast_ediv, Int.natCast_mul]; rfl
  have e2 : fN f = ((nU b n w : Nat) : Int) := by
    have := div_le b n (8 * w) h.n1
    have hn := h.n1
    simp only [fN, h.v, if_true, uN, h.bit, h.wd, h.ln, nU]
    have e3 : ((b : Int) + n - 1) = ((b + n - 1 : Nat) : Int) := by omega
    have e4 : (8 * (w : Int)) = ((8 * w : Nat) : Int) := by omega
    rw [e3, e4, ← Int.natCast_ediv, ← Int.natCast_ediv]; omega
  rw [e1, e2] at hu; exact hu
theorem units_no {f : Fsp} (hf : f.ok) (h : vld f = false) : SC Try.prog 31 [f.v] 0 [] (.tup [.s (.int .i64 0), .s (.int .i64 0)]) 0 [] := by
  have hu := units_s f hf
  simp only [fF, fN, h, Bool.false_eq_true, if_false] at hu; exact hu

/-- a fresh list of numbers -/
abbrev bU (l : List Nat) : Bl := { cells := cU l, ty := 22, sym := true, flat := true }

theorem masks_no {f : Fsp} (hf : f.ok) (h : vld f = false) : SC Try.prog 24 [f.v] 0 [] (.s (.slc none 0 (some 0))) 0 [] := by
  have hu := units_no hf h
  refine SC.run hm Try.func24 rfl [.call [] [f.v] [] (.tup [.s (.int .i64 0), .s (.int .i64 0)]) 0 [], .dec true] [] rfl rfl ?_ (.inl rfl) (EndOK.plain rfl no_mem rfl rfl)
  simp only [true_and, and_true, and_assoc, beq_iff_eq]
  repeat' apply And.intro
  all_goals first | trivial | omega | exact call0 hu rfl | (show _ = true; kernel_rfl)

theorem nU_le {f : Fsp} {b n w : Nat} (h : FV f b n w) : nU b n w ≤ 300 := by
  unfold nU
  have h1 := h.n1
  have h2 := h.n2
  have h3 := Nat.div_add_mod b (8 * w)
  have h4 := Nat.div_add_mod (b + n - 1) (8 * w)
  rcases h.w with e | e | e | e <;> subst e <;> omega

theorem shr64 (d : Nat) (h : d ≤ 64) : Int.fdiv 18446744073709551615 (2 ^ min ((64 - d : Nat) : Int).toNat IntKind.u64.bits) = ((2 ^ d - 1 : Nat) : Int) := by
  rw [fdiv_pow _ _ (by omega) (by omega), Int.toNat_natCast]
  have : ∀ d : Fin 65, (18446744073709551615 : Int) / 2 ^ (64 - d.val) = ((2 ^ d.val - 1 : Nat) : Int) := by decide +kernel
  exact this ⟨d, by omega⟩

theorem masks_s {f : Fsp} {b n w : Nat} (hf : f.ok) (h : FV f b n w) : SC Try.prog 24 [f.v] 0 [] (.s (.slc (some (0, 0)) (nU b n w) (some (nU b n w)))) 1 [(0, some (bU (mL b n w)))] := by
  have hu := units_v hf h
  have hub := unitBits_s f (by have := h.wd; have := h.w; omega) (by have := h.wd; have := h.w; omega)
  refine SC.run hm Try.func24 rfl [.call [] [f.v] [] (.tup [.s (.int .i64 ((uf b w : Nat) : Int)), .s (.int .i64 ((nU b n w : Nat) : Int))]) 0 [], .dec false, .idx (nU b n w), .idx (nU b n w),
    .call [] [f.v] [] (.s (.int .u64 (8 * f.wd))) 0 [], .num (8 * w : Nat),
    .loop (.exit 0) (sp 62 [(5, .s (.slc (some (1, 0)) (nU b n w) (some (nU b n w))))]) 2 [(1, some (bU (mL b n w)))]] [1] rfl rfl ?_ (.inl rfl) (EndOK.by rfl ⟨rfl, trivial⟩ rfl rfl rfl rfl)
  have hN : nU b n w ≤ 300 := nU_le h
  have hw0 : 0 < w := by have := h.w; omega
  have hw8 : w ≤ 8 := by have := h.w; omega
  have ewd := h.wd
  simp only [true_and, and_true, and_assoc, beq_eq_false_iff_ne, ne_eq, i64_wrap]
  repeat' apply And.intro
  all_goals first | trivial | omega | exact call0 hu rfl | exact call0 hub rfl | (show 8 * nU b n w ≤ _; omega) | (show _ = true; kernel_rfl) | skip
  · unfold nU; omega
  refine Ex.turns hm [1, 3, 5, 6, 24, 25] [0, 1] (nU b n w) (fun j => sp 62 [(1, .s (.ptr (some (0, 0)))), (3, .s (.int .i64 ((uf b w : Nat) : Int))), (5, .s (.slc (some (1, 0)) (nU b n w) (some (nU b n w)))), (6, .s (.int .i64 ((8 * w : Nat) : Int))), (24, .s (.int .i64 ((nU b n w : Nat) : Int))), (25, .s (.int .i64 ((j : Nat) : Int)))])
      (fun j => [(0, some { cells := f.c, ty := 26 }), (1, some (bU (setK (mv b n w) (List.replicate (nU b n w) 0) j)))]) (Nat.zero_le _) rfl ?_ (fun j => ⟨rfl, rfl⟩) ?_ [5] [1] (by simp) ⟨rfl, rfl⟩ ⟨[.dec false], _, _, _, _, _, rfl, ?_, rfl, rfl⟩
  · show ([_, (1, some ({ cells := rep (nU b n w) [.int .u64 0], ty := 22, sym := true, flat := true } : Bl))] : Hp) = _
    rw [cU_rep]; rfl
  · intro j hj
    have hr := unit_range hw0 h.n1 hj
    have hlh := mLoHi hw0 h.n1 hj
    refine ⟨[.dec true, .num ((uf b w + j : Nat) : Int), .num ((us b w j : Nat) : Int), .num ((max b (us b w j) : Nat) : Int), .num ((mLo b w j : Nat) : Int),
      .num ((b + n : Nat) : Int), .num ((us b w j + 8 * w : Nat) : Int), .num ((min (b + n) (us b w j + 8 * w) : Nat) : Int), .num ((mHi b n w j : Nat) : Int),
      .num ((mHi b n w j - mLo b w j : Nat) : Int), .num ((64 - (mHi b n w j - mLo b w j) : Nat) : Int), .num ((2 ^ (mHi b n w j - mLo b w j) - 1 : Nat) : Int), .num ((mv b n w j : Nat) : Int), .idx j,
      .cells (cU (setK (mv b n w) (List.replicate (nU b n w) 0) (j + 1))), .num ((j + 1 : Nat) : Int)], _, _, _, _, _, rfl, ?_, rfl, rfl⟩
    have hb2 := h.b2
    have hn2 := h.n2
    have hF := uf_le b w
    have e1 : ((uf b w + j : Nat) : Int) * ((8 * w : Nat) : Int) = ((us b w j : Nat) : Int) := (Int.natCast_mul _ _).symm
    have e2 := shr64 (mHi b n w j - mLo b w j) (by omega)
    have e3 : ((2 ^ (mHi b n w j - mLo b w j) - 1 : Nat) : Int) * 2 ^ min ((mLo b w j : Nat) : Int).toNat IntKind.u64.bits = ((mv b n w j : Nat) : Int) := by
      have : min ((mLo b w j : Nat) : Int).toNat IntKind.u64.bits = mLo b w j := by simp only [IntKind.bits]; omega
      rw [this]; simp only [mv, Int.natCast_mul, Int.natCast_pow]; rfl
    have e4 : mv b n w j < 2 ^ 64 := Nat.lt_of_lt_of_le (mv_lt hw0 h.n1 hj) (Nat.pow_le_pow_right (by decide) (by omega))
    simp only [true_and, and_true, and_assoc, decide_eq_true_eq, h.bit, h.ln, i64_wrap, u64_wrap, e1, e2, e3]
    repeat' apply And.intro
    all_goals first
      | exact True.intro
      | omega
      | (unfold mLo; omega)
      | (unfold mHi; omega)
      | (show j + 1 ≤ _; rw [cU_length, setK_length, List.length_replicate]; omega)
      | exact cU_set _ _ _
  · simp only [decide_eq_false_iff_not, and_true]; omega

end Go.Proofs.Ytgnidbokllmhhaa
