/-
  Plain laws on the masks of a field. No program in sight.
-/
import Derived.Test.YtgnidbokllmhhaaLm
import Derived.Test.YtgnidbokllmhhaaLc
set_option linter.unusedSimpArgs false
set_option linter.unusedVariables false
namespace Go.Proofs.Ytgnidbokllmhhaa
open Go Ab

def setK (g : Nat → Nat) (l : List Nat) : Nat → List Nat
  | 0 => l
  | k + 1 => (setK g l k).set k (g k)
theorem setK_length {g : Nat → Nat} {l : List Nat} : ∀ k, (setK g l k).length = l.length
  | 0 => rfl
  | k + 1 => by simp only [setK, List.length_set, setK_length k]
theorem setK_getD {g : Nat → Nat} {l : List Nat} (i : Nat) : ∀ k, (setK g l k).getD i 0 = if i < k ∧ i < l.length then g i else l.getD i 0
  | 0 => by simp [setK]
  | k + 1 => by
    simp only [setK]
    rw [getD_set, setK_length, setK_getD i k]
    by_cases h : k = i ∧ k < l.length
    · obtain ⟨rfl, h⟩ := h
      simp [h]
    · rw [if_neg h]
      by_cases h2 : i < k ∧ i < l.length
      · rw [if_pos h2, if_pos ⟨by omega, h2.2⟩]
      · rw [if_neg h2, if_neg (by omega)]

/-- f is valid, and these are its first bit, its length and its width -/
structure FV (f : Fsp) (b n w : Nat) : Prop where
  v : vld f = true
  bit : f.bit = b
  ln : f.ln = n
  wd : f.wd = w
  w : w = 1 ∨ w = 2 ∨ w = 4 ∨ w = 8
  n1 : 1 ≤ n
  n2 : n ≤ 256
  b2 : b ≤ 8388608
  up : f.up = 0 ∨ f.up = 1 ∨ f.up = 2

theorem FV.of {f : Fsp} (h : vld f = true) : ∃ b n w, FV f b n w := by
  obtain ⟨hw, u1, u2, b1, b2, l1, l2, _⟩ := vld_facts h
  exact ⟨f.bit.toNat, f.ln.toNat, f.wd.toNat, h, by omega, by omega, by omega, by omega, by omega, by omega, by omega, by omega⟩

/-- number of units -/
def nU (b n w : Nat) : Nat := (b + n - 1) / (8 * w) - b / (8 * w) + 1
def ui (b w k : Nat) : Nat := (b % (8 * w) + k) / (8 * w)
def bi (b w k : Nat) : Nat := (b % (8 * w) + k) % (8 * w)

section
variable {b n w : Nat}
theorem div_le (b n z : Nat) (h : 1 ≤ n) : b / z ≤ (b + n - 1) / z := Nat.div_le_div_right (by omega)
theorem ui_eq (hw : 0 < w) (k : Nat) : (b + k) / (8 * w) = b / (8 * w) + ui b w k := by
  unfold ui
  have h := Nat.div_add_mod b (8 * w)
  have : b + k = (b % (8 * w) + k) + (8 * w) * (b / (8 * w)) := by omega
  rw [this, Nat.add_mul_div_left _ _ (by omega)]
  omega
theorem bi_eq (hw : 0 < w) (k : Nat) : (b + k) % (8 * w) = bi b w k := by
  unfold bi
  have h := Nat.div_add_mod b (8 * w)
  have : b + k = (b % (8 * w) + k) + (8 * w) * (b / (8 * w)) := by omega
  rw [this, Nat.add_mul_mod_self_left]
theorem ui_lt (hw : 0 < w) (hn : 1 ≤ n) {k : Nat} (hk : k < n) : ui b w k < nU b n w := by
  unfold nU
  have h1 := ui_eq (b := b) hw k
  have h2 : (b + k) / (8 * w) ≤ (b + n - 1) / (8 * w) := Nat.div_le_div_right (by omega)
  have h3 := div_le b n (8 * w) hn
  omega
theorem bi_lt (hw : 0 < w) (k : Nat) : bi b w k < 8 * w := Nat.mod_lt _ (by omega)
theorem ub (hw : 0 < w) (k : Nat) : ui b w k * (8 * w) + bi b w k = b % (8 * w) + k := by
  unfold ui bi; rw [Nat.mul_comm]; exact Nat.div_add_mod _ _
theorem ub_inj (hw : 0 < w) {k m : Nat} (h1 : ui b w k = ui b w m) (h2 : bi b w k = bi b w m) : k = m := by
  have a := ub (b := b) hw k
  have c := ub (b := b) hw m
  rw [h1, h2] at a; omega
end

/-- the first unit; where unit i begins; bits of unit i: from, to; the mask -/
def uf (b w : Nat) : Nat := b / (8 * w)
def us (b w i : Nat) : Nat := (uf b w + i) * (8 * w)
def mLo (b w i : Nat) : Nat := max b (us b w i) - us b w i
def mHi (b n w i : Nat) : Nat := min (b + n) (us b w i + 8 * w) - us b w i
def mv (b n w i : Nat) : Nat := (2 ^ (mHi b n w i - mLo b w i) - 1) * 2 ^ mLo b w i
theorem uf_le (b w : Nat) : uf b w ≤ b := Nat.div_le_self _ _

theorem mul_bounds (q z : Nat) (k : Nat) (h : q * z ≤ k) (h2 : k < q * z + z) : k / z = q ∧ k % z = k - q * z := by
  have hz : 0 < z := by omega
  have e : k = (k - q * z) + z * q := by rw [Nat.mul_comm z q]; omega
  constructor
  · rw [e, Nat.add_mul_div_left _ _ hz, Nat.div_eq_of_lt (by omega)]; omega
  · rw [e, Nat.add_mul_mod_self_left, Nat.mod_eq_of_lt (by omega)]; rw [Nat.mul_comm z q]; omega

theorem unit_range {b n w i : Nat} (hw : 0 < w) (hn : 1 ≤ n) (hi : i < nU b n w) : us b w i < b + n ∧ b < us b w i + 8 * w := by
  unfold nU at hi
  unfold us uf
  have h1 := Nat.div_add_mod b (8 * w)
  have h2 := Nat.mod_lt b (show 0 < 8 * w by omega)
  have h3 := Nat.div_add_mod (b + n - 1) (8 * w)
  have h4 := div_le b n (8 * w) hn
  have h5 : (b / (8 * w) + i) * (8 * w) ≤ (b + n - 1) / (8 * w) * (8 * w) := Nat.mul_le_mul_right _ (by omega)
  have h6 : b / (8 * w) * (8 * w) ≤ (b / (8 * w) + i) * (8 * w) := Nat.mul_le_mul_right _ (by omega)
  rw [Nat.mul_comm] at h1 h3
  omega

theorem mLoHi {b n w i : Nat} (hw : 0 < w) (hn : 1 ≤ n) (hi : i < nU b n w) : mLo b w i < mHi b n w i ∧ mHi b n w i ≤ 8 * w := by
  have := unit_range hw hn hi
  unfold mLo mHi; omega

theorem mv_bit (b n w i j : Nat) : (mv b n w i).testBit j = true ↔ mLo b w i ≤ j ∧ j < mHi b n w i := by
  unfold mv
  rw [← Nat.shiftLeft_eq, Nat.testBit_shiftLeft, Nat.testBit_two_pow_sub_one]
  simp only [Bool.and_eq_true, decide_eq_true_eq]; omega

theorem mv_lt {b n w i : Nat} (hw : 0 < w) (hn : 1 ≤ n) (hi : i < nU b n w) : mv b n w i < 2 ^ (8 * w) := by
  refine Nat.lt_pow_two_of_testBit _ fun j hj => ?_
  rw [Bool.eq_false_iff]
  intro h
  have := (mv_bit b n w i j).1 h
  have := mLoHi hw hn hi
  omega

theorem mv_iff {b n w i j : Nat} (hw : 0 < w) : (mv b n w i).testBit j = true ↔ ∃ m, m < n ∧ ui b w m = i ∧ bi b w m = j := by
  rw [mv_bit]
  unfold mLo mHi us uf
  constructor
  · rintro ⟨h1, h2⟩
    refine ⟨(b / (8 * w) + i) * (8 * w) + j - b, by omega, ?_, ?_⟩
    · have e : b + ((b / (8 * w) + i) * (8 * w) + j - b) = (b / (8 * w) + i) * (8 * w) + j := by omega
      have := mul_bounds (b / (8 * w) + i) (8 * w) ((b / (8 * w) + i) * (8 * w) + j) (by omega) (by omega)
      have h3 := ui_eq (b := b) hw ((b / (8 * w) + i) * (8 * w) + j - b)
      rw [e, this.1] at h3; omega
    · have e : b + ((b / (8 * w) + i) * (8 * w) + j - b) = (b / (8 * w) + i) * (8 * w) + j := by omega
      have := mul_bounds (b / (8 * w) + i) (8 * w) ((b / (8 * w) + i) * (8 * w) + j) (by omega) (by omega)
      have h3 := bi_eq (b := b) hw ((b / (8 * w) + i) * (8 * w) + j - b)
      rw [e, this.2] at h3; omega
  · rintro ⟨m, hm, rfl, rfl⟩
    have h1 := ui_eq (b := b) hw m
    have h2 := bi_eq (b := b) hw m
    have h3 := Nat.div_add_mod (b + m) (8 * w)
    rw [h1, h2, Nat.mul_comm] at h3
    have := bi_lt (b := b) hw m
    omega

/-- the masks, unit by unit -/
def mL (b n w : Nat) : List Nat := setK (mv b n w) (List.replicate (nU b n w) 0) (nU b n w)
theorem mL_length (b n w : Nat) : (mL b n w).length = nU b n w := by unfold mL; rw [setK_length, List.length_replicate]
theorem mL_getD (b n w i : Nat) : (mL b n w).getD i 0 = if i < nU b n w then mv b n w i else 0 := by
  unfold mL; rw [setK_getD, List.length_replicate, rep_getD]; simp only [and_self]
theorem mL_eq {b n w : Nat} (hw : 0 < w) (hn : 1 ≤ n) : orK (ui b w) (bi b w) (fun _ => true) (List.replicate (nU b n w) 0) n = mL b n w := by
  refine list_ext (by rw [orK_length, List.length_replicate, mL_length]) fun i j hi => ?_
  rw [orK_length, List.length_replicate] at hi
  rw [orK_bit, rep_getD, mL_getD, if_pos hi, mv_iff hw, List.length_replicate]
  constructor
  · rintro (h | ⟨_, m, h1, _, h2⟩)
    · simp at h
    · exact ⟨m, h1, h2⟩
  · rintro ⟨m, h1, h2⟩
    exact .inr ⟨hi, m, h1, rfl, h2⟩
theorem mL_lt {b n w : Nat} (hw : 0 < w) (hn : 1 ≤ n) (h8 : w ≤ 8) (i : Nat) : (mL b n w).getD i 0 < 2 ^ 64 := by
  rw [mL_getD]
  split
  · rename_i h
    exact Nat.lt_of_lt_of_le (mv_lt hw hn h) (Nat.pow_le_pow_right (by decide) (by omega))
  · decide

end Go.Proofs.Ytgnidbokllmhhaa
