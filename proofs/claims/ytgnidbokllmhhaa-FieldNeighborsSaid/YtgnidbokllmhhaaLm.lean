/-
  Plain laws on bits of lists of numbers. No program in sight.
-/
import Derived.Test.YtgnidbokllmhhaaAb11
set_option linter.unusedSimpArgs false
set_option linter.unusedVariables false
namespace Go.Proofs.Ytgnidbokllmhhaa
open Go Ab

/-- bit v k of number u k is set, for each k below the count at which p holds -/
def orK (u v : Nat → Nat) (p : Nat → Bool) (l : List Nat) : Nat → List Nat
  | 0 => l
  | k + 1 => match p k with | true => (orK u v p l k).set (u k) ((orK u v p l k).getD (u k) 0 ||| 2 ^ v k) | false => orK u v p l k

section
variable {u v : Nat → Nat} {p : Nat → Bool} {l : List Nat}
theorem orK_length : ∀ k, (orK u v p l k).length = l.length
  | 0 => rfl
  | k + 1 => by
    simp only [orK]
    split
    · rw [List.length_set, orK_length k]
    · exact orK_length k

theorem getD_set (l : List Nat) (i j x : Nat) : (l.set i x).getD j 0 = if i = j ∧ i < l.length then x else l.getD j 0 := by
  simp only [List.getD_eq_getElem?_getD, List.getElem?_set]
  by_cases h : i = j
  · subst h
    by_cases h2 : i < l.length
    · simp [h2]
    · simp [h2]
  · simp [h]

theorem orK_bit (i j : Nat) : ∀ k, ((orK u v p l k).getD i 0).testBit j = true ↔ (l.getD i 0).testBit j = true ∨ i < l.length ∧ ∃ m, m < k ∧ p m = true ∧ u m = i ∧ v m = j
  | 0 => by simp [orK]
  | k + 1 => by
    simp only [orK]
    split
    · rename_i hp
      rw [getD_set, orK_length]
      by_cases h : u k = i ∧ u k < l.length
      · rw [if_pos h, Nat.testBit_or, Bool.or_eq_true, h.1, orK_bit i j k, Nat.testBit_two_pow, decide_eq_true_eq]
        constructor
        · rintro ((h1 | ⟨h1, m, h2, h3⟩) | h1)
          · exact .inl h1
          · exact .inr ⟨h1, m, by omega, h3⟩
          · exact .inr ⟨by omega, k, by omega, hp, h.1, h1⟩
        · rintro (h1 | ⟨h1, m, h2, h3, h4, h5⟩)
          · exact .inl (.inl h1)
          · by_cases e : m = k
            · subst e; exact .inr h5
            · exact .inl (.inr ⟨h1, m, by omega, h3, h4, h5⟩)
      · rw [if_neg h, orK_bit i j k]
        constructor
        · rintro (h1 | ⟨h1, m, h2, h3⟩)
          · exact .inl h1
          · exact .inr ⟨h1, m, by omega, h3⟩
        · rintro (h1 | ⟨h1, m, h2, h3, h4, h5⟩)
          · exact .inl h1
          · by_cases e : m = k
            · subst e; exact absurd ⟨h4, by omega⟩ h
            · exact .inr ⟨h1, m, by omega, h3, h4, h5⟩
    · rename_i hp
      rw [orK_bit i j k]
      constructor
      · rintro (h1 | ⟨h1, m, h2, h3⟩)
        · exact .inl h1
        · exact .inr ⟨h1, m, by omega, h3⟩
      · rintro (h1 | ⟨h1, m, h2, h3, h4⟩)
        · exact .inl h1
        · by_cases e : m = k
          · subst e; rw [hp] at h3; cases h3
          · exact .inr ⟨h1, m, by omega, h3, h4⟩

theorem orK_bound {N : Nat} (hl : ∀ i, l.getD i 0 < 2 ^ N) (hv : ∀ k, v k < N) (k i : Nat) : (orK u v p l k).getD i 0 < 2 ^ N := by
  refine Nat.lt_pow_two_of_testBit _ fun j hj => ?_
  rw [Bool.eq_false_iff]
  intro h
  rcases (orK_bit i j k).1 h with h1 | ⟨_, m, _, _, _, h1⟩
  · have := Nat.testBit_lt_two_pow (Nat.lt_of_lt_of_le (hl i) (Nat.pow_le_pow_right (by decide) hj))
    rw [this] at h1; cases h1
  · have := hv m; omega

theorem orK_congr {p' : Nat → Bool} : ∀ k, (∀ m, m < k → p m = p' m) → orK u v p l k = orK u v p' l k
  | 0, _ => rfl
  | k + 1, h => by
    simp only [orK]
    rw [orK_congr k fun m hm => h m (by omega), h k (by omega)]

theorem orK_stop {N : Nat} (h : ∀ m, N ≤ m → p m = false) : ∀ d, orK u v p l (N + d) = orK u v p l N
  | 0 => rfl
  | d + 1 => by
    rw [← Nat.add_assoc]
    simp only [orK, h (N + d) (by omega)]
    exact orK_stop h d
end

theorem list_ext {a b : List Nat} (hl : a.length = b.length) (h : ∀ i j, i < a.length → ((a.getD i 0).testBit j = true ↔ (b.getD i 0).testBit j = true)) : a = b := by
  refine List.ext_getElem hl fun i h1 h2 => ?_
  refine Nat.eq_of_testBit_eq fun j => ?_
  have := h i j h1
  simp only [List.getD_eq_getElem?_getD, List.getElem?_eq_getElem h1, List.getElem?_eq_getElem h2, Option.getD_some] at this
  rw [Bool.eq_iff_iff]; exact this

/-! ### cells -/
def cU (l : List Nat) : List S := l.map fun x => .int .u64 ((x : Nat) : Int)
def cB (l : List Nat) : List S := l.map fun x => .int .u8 ((x : Nat) : Int)
theorem cU_length (l : List Nat) : (cU l).length = l.length := List.length_map ..
theorem cB_length (l : List Nat) : (cB l).length = l.length := List.length_map ..
theorem cU_get {l : List Nat} {i : Nat} (h : i < l.length) : (cU l)[i]? = some (.int .u64 ((l.getD i 0 : Nat) : Int)) := by
  simp [cU, List.getElem?_map, List.getElem?_eq_getElem h]
theorem cB_get {l : List Nat} {i : Nat} (h : i < l.length) : (cB l)[i]? = some (.int .u8 ((l.getD i 0 : Nat) : Int)) := by
  simp [cB, List.getElem?_map, List.getElem?_eq_getElem h]
theorem cU_set (l : List Nat) (i x : Nat) : cU (l.set i x) = setL (cU l) i [.int .u64 ((x : Nat) : Int)] := by simp [cU, setL, List.map_set]
theorem cB_set (l : List Nat) (i x : Nat) : cB (l.set i x) = setL (cB l) i [.int .u8 ((x : Nat) : Int)] := by simp [cB, setL, List.map_set]
theorem ldU {l : List Nat} {i : Nat} (h : i < l.length) {ty : TypeId} {m r s f : Bool} {gh : Option (Nat × Nat)} : ldAt false 1 ⟨cU l, ty, m, r, s, f, gh⟩ i = some (.s (.int .u64 ((l.getD i 0 : Nat) : Int))) := by
  simp only [ldAt, cU_get h]
theorem ldB {l : List Nat} {i : Nat} (h : i < l.length) {ty : TypeId} {m r s f : Bool} {gh : Option (Nat × Nat)} : ldAt false 1 ⟨cB l, ty, m, r, s, f, gh⟩ i = some (.s (.int .u8 ((l.getD i 0 : Nat) : Int))) := by
  simp only [ldAt, cB_get h]
theorem cU_rep (k : Nat) : rep k [.int .u64 0] = cU (List.replicate k 0) := by simp [rep, cU]
theorem cB_rep (k : Nat) : rep k [.int .u8 0] = cB (List.replicate k 0) := by simp [rep, cB]
theorem rep_getD (k i : Nat) : (List.replicate k 0).getD i 0 = 0 := by
  simp only [List.getD_eq_getElem?_getD, List.getElem?_replicate]; split <;> rfl

/-! ### bit operations -/
theorem bvOf (a : Nat) (n : Nat) (h : a < 2 ^ n) : (BitVec.ofInt n (a : Int)).toNat = a := by
  simp [BitVec.ofInt_natCast, Nat.mod_eq_of_lt h]
theorem or64 {a b : Nat} (ha : a < 2 ^ 64) (hb : b < 2 ^ 64) : bitV .or .u64 (a : Int) (b : Int) = ((a ||| b : Nat) : Int) := by
  have : a ||| b < 2 ^ 64 := Nat.or_lt_two_pow ha hb
  have e : bitV .or .u64 (a : Int) (b : Int) = IntKind.u64.wrap (((BitVec.ofInt 64 (a : Int) ||| BitVec.ofInt 64 (b : Int)).toNat : Nat) : Int) := rfl
  rw [e, BitVec.toNat_or, bvOf _ _ ha, bvOf _ _ hb, u64_wrap]; exact Int.emod_eq_of_lt (by omega) (by omega)
theorem and64 {a b : Nat} (ha : a < 2 ^ 64) (hb : b < 2 ^ 64) : bitV .and .u64 (a : Int) (b : Int) = ((a &&& b : Nat) : Int) := by
  have : a &&& b < 2 ^ 64 := Nat.and_lt_two_pow _ hb
  have e : bitV .and .u64 (a : Int) (b : Int) = IntKind.u64.wrap (((BitVec.ofInt 64 (a : Int) &&& BitVec.ofInt 64 (b : Int)).toNat : Nat) : Int) := rfl
  rw [e, BitVec.toNat_and, bvOf _ _ ha, bvOf _ _ hb, u64_wrap]; exact Int.emod_eq_of_lt (by omega) (by omega)
theorem xor64 {a b : Nat} (ha : a < 2 ^ 64) (hb : b < 2 ^ 64) : bitV .xor .u64 (a : Int) (b : Int) = ((a ^^^ b : Nat) : Int) := by
  have : a ^^^ b < 2 ^ 64 := Nat.xor_lt_two_pow ha hb
  have e : bitV .xor .u64 (a : Int) (b : Int) = IntKind.u64.wrap (((BitVec.ofInt 64 (a : Int) ^^^ BitVec.ofInt 64 (b : Int)).toNat : Nat) : Int) := rfl
  rw [e, BitVec.toNat_xor, bvOf _ _ ha, bvOf _ _ hb, u64_wrap]; exact Int.emod_eq_of_lt (by omega) (by omega)
theorem or8 {a b : Nat} (ha : a < 2 ^ 8) (hb : b < 2 ^ 8) : bitV .or .u8 (a : Int) (b : Int) = ((a ||| b : Nat) : Int) := by
  have : a ||| b < 2 ^ 8 := Nat.or_lt_two_pow ha hb
  have e : bitV .or .u8 (a : Int) (b : Int) = IntKind.u8.wrap (((BitVec.ofInt 8 (a : Int) ||| BitVec.ofInt 8 (b : Int)).toNat : Nat) : Int) := rfl
  rw [e, BitVec.toNat_or, bvOf _ _ ha, bvOf _ _ hb, u8_wrap]; exact Int.emod_eq_of_lt (by omega) (by omega)
theorem and8 {a b : Nat} (ha : a < 2 ^ 8) (hb : b < 2 ^ 8) : bitV .and .u8 (a : Int) (b : Int) = ((a &&& b : Nat) : Int) := by
  have : a &&& b < 2 ^ 8 := Nat.and_lt_two_pow _ hb
  have e : bitV .and .u8 (a : Int) (b : Int) = IntKind.u8.wrap (((BitVec.ofInt 8 (a : Int) &&& BitVec.ofInt 8 (b : Int)).toNat : Nat) : Int) := rfl
  rw [e, BitVec.toNat_and, bvOf _ _ ha, bvOf _ _ hb, u8_wrap]; exact Int.emod_eq_of_lt (by omega) (by omega)
def andN (a b : Nat) : Nat := (BitVec.ofNat 64 a &&& ~~~ BitVec.ofNat 64 b).toNat
theorem andN_lt (a b : Nat) : andN a b < 2 ^ 64 := BitVec.isLt _
theorem andN_bit {a b : Nat} (ha : a < 2 ^ 64) (j : Nat) : (andN a b).testBit j = true ↔ a.testBit j = true ∧ b.testBit j = false := by
  unfold andN
  rw [BitVec.testBit_toNat, BitVec.getLsbD_and, BitVec.getLsbD_not, BitVec.getLsbD_ofNat, BitVec.getLsbD_ofNat]
  by_cases hj : j < 64
  · simp [hj]
  · have := Nat.testBit_lt_two_pow (Nat.lt_of_lt_of_le ha (Nat.pow_le_pow_right (by decide) (show 64 ≤ j by omega)))
    simp [hj, this]
theorem andNot64 (a b : Nat) : bitV .andNot .u64 (a : Int) (b : Int) = ((andN a b : Nat) : Int) := by
  have := andN_lt a b
  have e : bitV .andNot .u64 (a : Int) (b : Int) = IntKind.u64.wrap (((BitVec.ofInt 64 (a : Int) &&& ~~~ BitVec.ofInt 64 (b : Int)).toNat : Nat) : Int) := rfl
  have e2 : (BitVec.ofInt 64 (a : Int) &&& ~~~ BitVec.ofInt 64 (b : Int)).toNat = andN a b := by simp only [andN, BitVec.ofInt_natCast]
  rw [e, e2, u64_wrap]; exact Int.emod_eq_of_lt (by omega) (by omega)

theorem and1 (a : Nat) : a &&& 1 = (a.testBit 0).toNat := by
  rw [Nat.and_one_is_mod, Nat.testBit_zero]
  rcases Nat.mod_two_eq_zero_or_one a with h | h <;> simp [h]
theorem shr_bit (a k : Nat) : (a / 2 ^ k) &&& 1 = (a.testBit k).toNat := by
  rw [and1, ← Nat.shiftRight_eq_div_pow, Nat.testBit_shiftRight, Nat.add_zero]

/-- bit k of a string -/
def sb (s : List UInt8) (k : Nat) : Bool := ((s.getD (k / 8) 0).toNat).testBit (k % 8)
theorem sb_none {s : List UInt8} {k : Nat} (h : 8 * s.length ≤ k) : sb s k = false := by
  unfold sb
  have : s.getD (k / 8) 0 = 0 := by
    rw [List.getD_eq_getElem?_getD, List.getElem?_eq_none (by omega)]; rfl
  rw [this]; simp

/-- the bytes of a list of small numbers -/
def toB (l : List Nat) : List UInt8 := l.map UInt8.ofNat
theorem toB_length (l : List Nat) : (toB l).length = l.length := List.length_map ..
theorem toB_getD (l : List Nat) (i : Nat) (h : l.getD i 0 < 256) : ((toB l).getD i 0).toNat = l.getD i 0 := by
  unfold toB
  rw [List.getD_eq_getElem?_getD] at h ⊢
  rw [List.getElem?_map]
  cases hl : l[i]? with
  | none => simp [hl, List.getD_eq_getElem?_getD]
  | some x =>
    simp only [hl, Option.getD_some] at h
    simp only [Option.map_some, Option.getD_some, List.getD_eq_getElem?_getD, hl]
    simp; omega
theorem byteS_toB {l : List Nat} (h : ∀ i, l.getD i 0 < 256) : byteS (toB l) = cB l := by
  unfold byteS toB cB
  rw [List.map_map]
  refine List.map_congr_left fun x hx => ?_
  obtain ⟨i, hi, rfl⟩ := List.getElem_of_mem hx
  have := h i
  rw [List.getD_eq_getElem?_getD, List.getElem?_eq_getElem hi] at this
  simp only [Option.getD_some] at this
  simp; omega

end Go.Proofs.Ytgnidbokllmhhaa
