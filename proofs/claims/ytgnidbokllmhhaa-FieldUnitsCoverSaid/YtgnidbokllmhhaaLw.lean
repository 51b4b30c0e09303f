/-
  FieldUnitsCover: it returns true.
-/
import Derived.Test.YtgnidbokllmhhaaLr
import Derived.Test.YtgnidbokllmhhaaLp
import Derived.Test.YtgnidbokllmhhaaLs
set_option linter.unusedSimpArgs false
set_option linter.unusedVariables false
namespace Go.Proofs.Ytgnidbokllmhhaa
open Go Ab
set_option maxRecDepth 100000

/-- m ones, s zeros behind them -/
def run1 (m s : Nat) : Nat := (2 ^ m - 1) * 2 ^ s
theorem run1_low (m s : Nat) : run1 (m + 1) s &&& (run1 (m + 1) s - 1) = run1 m (s + 1) := by
  unfold run1
  have h1 : 0 < 2 ^ m := Nat.pow_pos (by decide)
  have h2 : 0 < 2 ^ s := Nat.pow_pos (by decide)
  have e1 : (2 ^ (m + 1) - 1) * 2 ^ s = 2 ^ (s + 1) * (2 ^ m - 1) + 2 ^ s := by
    rw [Nat.pow_succ, Nat.pow_succ]
    obtain ⟨t, ht⟩ : ∃ t, 2 ^ m = t + 1 := ⟨2 ^ m - 1, by omega⟩
    rw [ht, show (t + 1) * 2 - 1 = 2 * t + 1 by omega, show t + 1 - 1 = t by omega, Nat.add_mul, Nat.one_mul, Nat.mul_comm (2 ^ s) 2, Nat.mul_assoc 2 t, Nat.mul_assoc 2, Nat.mul_comm t]
  have e2 : (2 ^ (m + 1) - 1) * 2 ^ s - 1 = 2 ^ (s + 1) * (2 ^ m - 1) + (2 ^ s - 1) := by omega
  rw [e2, e1, Nat.mul_comm (2 ^ m - 1)]
  have l1 : 2 ^ s < 2 ^ (s + 1) := by rw [Nat.pow_succ]; omega
  refine Nat.eq_of_testBit_eq fun j => ?_
  rw [Nat.testBit_and, Nat.testBit_two_pow_mul_add _ l1, Nat.testBit_two_pow_mul_add _ (show 2 ^ s - 1 < 2 ^ (s + 1) by omega), Nat.testBit_two_pow_mul]
  by_cases hj : j < s + 1
  · rw [if_pos hj, if_pos hj, Nat.testBit_two_pow, Nat.testBit_two_pow_sub_one]
    have : ¬ (s + 1 ≤ j) := by omega
    simp [this]; omega
  · rw [if_neg hj, if_neg hj]
    have : s + 1 ≤ j := by omega
    simp [this]
theorem run1_pos (m s : Nat) : 0 < run1 (m + 1) s := by
  unfold run1
  have h1 : 1 < 2 ^ (m + 1) := Nat.one_lt_two_pow (by omega)
  have h2 : 0 < 2 ^ s := Nat.pow_pos (by decide)
  exact Nat.mul_pos (by omega) h2
theorem run1_lt {m s : Nat} (h : m + s ≤ 64) : run1 m s < 2 ^ 64 := by
  unfold run1
  have h1 : (2 ^ m - 1) * 2 ^ s < 2 ^ m * 2 ^ s := Nat.mul_lt_mul_of_pos_right (by have : 0 < 2 ^ m := Nat.pow_pos (by decide); omega) (Nat.pow_pos (by decide))
  rw [← Nat.pow_add] at h1
  exact Nat.lt_of_lt_of_le h1 (Nat.pow_le_pow_right (by decide) h)

/-- how many bits of the field the first k units hold -/
def cntU (b n w : Nat) : Nat → Nat
  | 0 => 0
  | k + 1 => cntU b n w k + (mHi b n w k - mLo b w k)
theorem us_succ (b w i : Nat) : us b w (i + 1) = us b w i + 8 * w := by unfold us; rw [← Nat.add_assoc, Nat.add_mul (uf b w + i), Nat.one_mul]
theorem cntU_eq {b n w : Nat} (hw : 0 < w) (hn : 1 ≤ n) : ∀ k, k ≤ nU b n w → cntU b n w k = max (min (b + n) (us b w k)) b - b
  | 0, _ => by
    have : us b w 0 ≤ b := by unfold us uf; rw [Nat.add_zero]; exact Nat.div_mul_le_self _ _
    simp only [cntU]; omega
  | k + 1, h => by
    have := unit_range hw hn (show k < nU b n w by omega)
    simp only [cntU]
    rw [cntU_eq hw hn k (by omega), us_succ]
    unfold mHi mLo
    omega
theorem cntU_all {b n w : Nat} (hw : 0 < w) (hn : 1 ≤ n) : cntU b n w (nU b n w) = n := by
  rw [cntU_eq hw hn _ (Nat.le_refl _)]
  have h1 : b + n ≤ us b w (nU b n w) := by
    unfold us
    have h3 := div_le b n (8 * w) hn
    have e : uf b w + nU b n w = (b + n - 1) / (8 * w) + 1 := by unfold nU uf; omega
    rw [e, Nat.add_mul, Nat.one_mul]
    have h1 := Nat.div_add_mod (b + n - 1) (8 * w)
    have h2 := Nat.mod_lt (b + n - 1) (show 0 < 8 * w by omega)
    rw [Nat.mul_comm] at h1
    omega
  omega
theorem cntU_le (b n w k : Nat) (hw : 0 < w) (hn : 1 ≤ n) (h : k ≤ nU b n w) : cntU b n w k ≤ n := by
  rw [cntU_eq hw hn k h]; omega

theorem cover_no {f : Fsp} (hf : f.ok) (h : vld (specF f) = false) : SC Try.prog 6 [f.v] 0 [] (.s (.bool true)) 0 [] := by
  have hg := specF_ok hf
  have c1 := spec_s f hf
  have c2 := validField_s (specF f) hg
  rw [h] at c2
  have c3 := masks_no hg h
  have c4 := acc_no hg h
  generalize specF f = g at *
  refine SC.run hm Try.func6 rfl [.call [] [f.v] [] g.v 0 [], .call [] [g.v] [] (.s (.bool false)) 0 [], .call [] [] [] (.s (.bool true)) 0 [], .call [] [g.v] [] (.s (.slc none 0 (some 0))) 0 [], .dec true, .call [] [g.v] [] (.s (.slc none 0 (some 0))) 0 [], .dec true] [] rfl rfl ?_ (.inl rfl) (EndOK.plain rfl no_mem rfl rfl)
  simp only [true_and, and_true, and_assoc, beq_self_eq_true]
  repeat' apply And.intro
  all_goals first
    | exact True.intro
    | exact call0 awake_s rfl
    | exact call0 c1 rfl
    | exact call0 c2 rfl
    | exact call0 c3 rfl
    | exact call0 c4 rfl
    | (with_reducible show _ = true; kernel_rfl)

def bAn (l : List S) (g : Nat) : Bl := { cells := l, ty := 52, more := true, sym := true, flat := true, gh := some (g, 5) }

theorem acC_at (f : Fsp) (b w : Nat) {n k : Nat} (h : k < n) : (acC f b w n)[k * 5]? = some (.int .i64 f.sp) ∧ (acC f b w n)[k * 5 + 1]? = some (.int .u64 (aA f b w k)) ∧ (acC f b w n)[k * 5 + 2]? = some (.int .i64 f.wd) ∧ (acC f b w n)[k * 5 + 3]? = some (.bool false) := by
  have := acC_get f b w h
  have g : ∀ i, i < 5 → (acC f b w n)[k * 5 + i]? = [S.int .i64 f.sp, .int .u64 (aA f b w k), .int .i64 f.wd, .bool false, .int .u64 0][i]? := by
    intro i hi
    rw [← this, List.getElem?_take, if_pos hi, List.getElem?_drop]
  exact ⟨g 0 (by omega), g 1 (by omega), g 2 (by omega), g 3 (by omega)⟩

set_option maxHeartbeats 4000000 in
theorem cover_v {f : Fsp} {b n w : Nat} (hf : f.ok) (h : FV (specF f) b n w) : SC Try.prog 6 [f.v] 0 [] (.s (.bool true)) 0 [] := by
  have hg := specF_ok hf
  have c1 := spec_s f hf
  have c2 := validField_s (specF f) hg
  rw [h.v] at c2
  have c3 := masks_s hg h
  have c4 := acc_s hg h
  have hN := nU_le h
  have hw0 : 0 < w := by have := h.w; omega
  have hw8 : w ≤ 8 := by have := h.w; omega
  have ewd := h.wd
  have eln := h.ln
  have hn1 := h.n1
  have hn2 := h.n2
  have hbd : ∀ k, k < nU b n w → _ := fun k hk => acc_bound hg h hk
  have hall := cntU_all (b := b) hw0 hn1
  have hcl : ∀ k, k ≤ nU b n w → cntU b n w k ≤ n := fun k hk => cntU_le b n w k hw0 hn1 hk
  have hmv : ∀ k, k < nU b n w → ldAt false 1 (bU (mL b n w)) k = some (.s (.int .u64 ((run1 (mHi b n w k - mLo b w k) (mLo b w k) : Nat) : Int))) := by
    intro k hk
    have := ldU (l := mL b n w) (i := k) (by rw [mL_length]; exact hk) (ty := 22) (m := false) (r := false) (s := true) (f := true) (gh := none)
    rw [mL_getD, if_pos hk] at this; exact this
  have hlh : ∀ k, k < nU b n w → mLo b w k < mHi b n w k ∧ mHi b n w k ≤ 8 * w := fun k hk => mLoHi hw0 hn1 hk
  generalize specF f = g at *
  generalize hNN : nU b n w = N at *
  refine SC.run hm Try.func6 rfl [.call [] [f.v] [] g.v 0 [], .call [] [g.v] [] (.s (.bool true)) 0 [], .call [] [g.v] [] (.s (.slc (some (0, 0)) N (some N))) 1 [(0, some (bU (mL b n w)))], .call [] [g.v] [] (.s (.sla 0 1 N)) 2 [(0, some (bA (acC g b w N)))], .call [] [] [] (.s (.bool true)) 0 [], .dec false,
    .loop (.exit 0) (sp 114 [(3, .s (.ptr (some (1, 0)))), (6, .s (.int .i64 ((n : Nat) : Int)))]) 5 [(1, some { cells := g.c, ty := 26 })], .dec true] [] rfl rfl ?_ (.inl rfl) (EndOK.plain rfl no_mem rfl rfl)
  simp only [true_and, and_true, and_assoc, bne_eq_false_iff_eq, beq_iff_eq]
  repeat' apply And.intro
  all_goals first
    | exact True.intro
    | exact call0 awake_s rfl
    | exact call0 c1 rfl
    | exact call0 c2 rfl
    | exact call0 c3 rfl
    | exact call0 c4 rfl
    | omega
    | refine Ex.turns hm [3, 4, 5, 6, 7] [1, 2, 3] N (fun k => sp 114 [(3, .s (.ptr (some (1, 0)))), (4, .s (.slc (some (2, 0)) N (some N))), (5, .s (.sla 3 4 N)), (6, .s (.int .i64 ((cntU b n w k : Nat) : Int))), (7, .s (.int .i64 ((k : Nat) : Int)))])
        (fun k => [(1, some { cells := g.c, ty := 26 }), (2, some (bU (mL b n w))), (3, some (bAn (acC g b w N) 4))]) (by omega) rfl rfl (fun k => ⟨rfl, rfl⟩) ?_ [3, 6] [1] (by simp) ⟨rfl, rfl⟩ ⟨[.dec false], _, _, _, _, _, rfl, ?_, ?_, rfl⟩
    | (with_reducible show _ = true; kernel_rfl)
  · intro k hk
    obtain ⟨q1, q2, q3, q4⟩ := hbd k hk
    have hld := hmv k hk
    obtain ⟨hlo, hhi⟩ := hlh k hk
    have hck := hcl (k + 1) (by omega)
    simp only [cntU] at hck
    obtain ⟨a0, a1, a2, a3⟩ := acC_at g b w hk
    have l1 : ldAt false 1 (bAn (acC g b w N) 4) (plus (k * 5) 1) = some (.s (.int .u64 (aA g b w k))) := by rw [plus_eq]; simp only [ldAt, bAn, a1]
    have l2 : ldAt false 1 (bAn (acC g b w N) 4) (plus (k * 5) 2) = some (.s (.int .i64 g.wd)) := by rw [plus_eq]; simp only [ldAt, bAn, a2]
    have l3 : ldAt false 1 (bAn (acC g b w N) 4) (plus (k * 5) 3) = some (.s (.bool false)) := by rw [plus_eq]; simp only [ldAt, bAn, a3]
    obtain ⟨d, hd⟩ : ∃ d, mHi b n w k - mLo b w k = d := ⟨_, rfl⟩
    rw [hd] at hld hck
    have hp : 0 < run1 d (mLo b w k) := by
      obtain ⟨d', rfl⟩ : ∃ d', d = d' + 1 := ⟨d - 1, by omega⟩
      exact run1_pos _ _
    have hlt : run1 d (mLo b w k) < 2 ^ 64 := run1_lt (by omega)
    refine ⟨[.dec true, .idx k, .val (.s (.int .u64 ((run1 d (mLo b w k) : Nat) : Int))), .dec false, .idx k, .val (.s (.int .u64 (aA g b w k))), .dec false, .idx k, .val (.s (.int .u64 (aA g b w k))), .num (aA g b w k - g.ba), .num ((w : Nat) : Int), .num (aA g b w k - g.ba + ((w : Nat) : Int)), .dec false,
      .idx k, .val (.s (.int .i64 g.wd)), .dec false, .idx k, .val (.s (.bool false)), .idx k, .val (.s (.int .u64 ((run1 d (mLo b w k) : Nat) : Int))),
      .loop (.exit 2) (sp 114 [(3, .s (.ptr (some (1, 0)))), (4, .s (.slc (some (2, 0)) N (some N))), (5, .s (.sla 3 4 N)), (6, .s (.int .i64 ((cntU b n w k + d : Nat) : Int))), (7, .s (.int .i64 ((k : Nat) : Int)))]) 5 [(1, some { cells := g.c, ty := 26 }), (2, some (bU (mL b n w))), (3, some (bAn (acC g b w N) 4))],
      .num ((k + 1 : Nat) : Int)], _, _, _, _, _, rfl, ?_, ?_, rfl⟩
    · simp only [true_and, and_true, and_assoc, decide_eq_true_eq, decide_eq_false_iff_not, beq_eq_false_iff_ne, bne_eq_false_iff_eq, ne_eq, i64_wrap, u64_wrap]
      repeat' apply And.intro
      all_goals first
        | exact True.intro
        | omega
        | exact hld
        | exact l1
        | exact l2
        | exact l3
        | (unfold aA; omega)
        | refine Ex.turns hm [3, 4, 5, 6, 7, 8] [1, 2, 3] d (fun j => sp 114 [(3, .s (.ptr (some (1, 0)))), (4, .s (.slc (some (2, 0)) N (some N))), (5, .s (.sla 3 4 N)), (6, .s (.int .i64 ((cntU b n w k + j : Nat) : Int))), (7, .s (.int .i64 ((k : Nat) : Int))), (8, .s (.int .u64 ((run1 (d - j) (mLo b w k + j) : Nat) : Int)))])
            (fun j => [(1, some { cells := g.c, ty := 26 }), (2, some (bU (mL b n w))), (3, some (bAn (acC g b w N) 4))]) (by omega) rfl rfl (fun k => ⟨rfl, rfl⟩) ?_ [3, 4, 5, 6, 7] [1, 2, 3] (by simp) ⟨rfl, rfl⟩ ⟨[.dec false], _, _, _, _, _, rfl, ?_, rfl, rfl⟩
        | (with_reducible show _ = true; kernel_rfl)
      · intro j hj
        obtain ⟨e, he⟩ : ∃ e, d - j = e + 1 := ⟨d - j - 1, by omega⟩
        have he2 : d - (j + 1) = e := by omega
        have h1 := run1_pos e (mLo b w k + j)
        have h2 : run1 (e + 1) (mLo b w k + j) < 2 ^ 64 := run1_lt (by omega)
        have h3 := run1_low e (mLo b w k + j)
        have h4 : bitV .and .u64 ((run1 (e + 1) (mLo b w k + j) : Nat) : Int) ((run1 (e + 1) (mLo b w k + j) - 1 : Nat) : Int) = ((run1 (d - (j + 1)) (mLo b w k + (j + 1)) : Nat) : Int) := by
          rw [and64 h2 (by omega), h3, he2, Nat.add_assoc]
        refine ⟨[.dec true, .num ((cntU b n w k + (j + 1) : Nat) : Int), .num ((run1 (e + 1) (mLo b w k + j) - 1 : Nat) : Int), .num ((run1 (d - (j + 1)) (mLo b w k + (j + 1)) : Nat) : Int)], _, _, _, _, _, rfl, ?_, rfl, rfl⟩
        simp only [he, true_and, and_true, and_assoc, decide_eq_true_eq, i64_wrap, u64_wrap, h4]
        repeat' apply And.intro
        all_goals first
          | exact True.intro
          | omega
      · simp only [decide_eq_false_iff_not, and_true, true_and]
        rw [Nat.sub_self]; simp [run1]
    · show _ = sp 114 [(3, _), (4, _), (5, _), (6, .s (.int .i64 ((cntU b n w k + (mHi b n w k - mLo b w k) : Nat) : Int))), (7, _)]
      rw [hd]; rfl
  · simp only [decide_eq_false_iff_not, and_true, true_and]; omega
  · rw [hall]; rfl

theorem cover_s (f : Fsp) (hf : f.ok) : SC Try.prog 6 [f.v] 0 [] (.s (.bool true)) 0 [] := by
  cases h : vld (specF f) with
  | false => exact cover_no hf h
  | true =>
    obtain ⟨b, n, w, hv⟩ := FV.of h
    exact cover_v hf hv

end Go.Proofs.Ytgnidbokllmhhaa
