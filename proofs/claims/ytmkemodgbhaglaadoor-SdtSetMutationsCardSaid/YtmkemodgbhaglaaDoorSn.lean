/-
  Sets of tables: their encoding, and that it reads back. No program in sight.
-/
import Derived.Test.YtmkemodgbhaglaaDoorSm
set_option linter.unusedSimpArgs false
set_option linter.unusedVariables false
namespace Go.Proofs.YtmkemodgbhaglaaDoor
open Go Ab
set_option maxRecDepth 100000

/-- a table that a set may hold -/
def goodT (t : Tb) : Bool := validB t && !decide (t.sg = rsdt)
/-- the encodings of the first j tables -/
def rst (l : List Tb) : Nat → By
  | 0 => []
  | j + 1 => rst l j ++ encB (l.getD j tb0)
/-- the first j offsets of a directory of n tables -/
def ofs (l : List Tb) (n : Nat) : Nat → By
  | 0 => []
  | j + 1 => ofs l n j ++ le4 (16 + 4 * n + (rst l j).length)
def dirT (b : By) : Tb := ⟨rsdt, 1, plat, b⟩
def encSet (l : List Tb) : By := encB (dirT (ofs l l.length l.length)) ++ rst l l.length
structure setOK (l : List Tb) : Prop where
  lo : 1 ≤ l.length
  hi : l.length ≤ 16
  all : ∀ j, j < l.length → goodT (l.getD j tb0) = true
theorem good_parts {t : Tb} (h : goodT t = true) : validB t = true ∧ t.sg ≠ rsdt := by
  simp only [goodT, Bool.and_eq_true, Bool.not_eq_true', decide_eq_false_iff_not] at h
  exact h
theorem good_bad {t : Tb} (h : goodT t = false) : validB t = false ∨ (validB t = true ∧ t.sg = rsdt) := by
  cases hv : validB t with
  | false => exact .inl rfl
  | true => 
    simp only [goodT, hv, Bool.true_and, Bool.not_eq_false', decide_eq_true_eq] at h
    exact .inr ⟨rfl, h⟩
theorem ofs_len (l : List Tb) (n : Nat) : ∀ j, (ofs l n j).length = 4 * j
  | 0 => rfl
  | j + 1 => by simp only [ofs, List.length_append, ofs_len l n j, le4, List.length_cons, List.length_nil]; omega
theorem rst_le (l : List Tb) : ∀ j, (∀ i, i < j → goodT (l.getD i tb0) = true) → (rst l j).length ≤ j * 65552
  | 0, _ => by simp [rst]
  | j + 1, h => by
    have h1 := rst_le l j fun i hi => h i (by omega)
    obtain ⟨v, _⟩ := good_parts (h j (by omega))
    have h2 := enc_len v
    obtain ⟨_, _, _, _, _, h3⟩ := valid_parts v
    simp only [rst, List.length_append]
    omega
theorem rst_split (l : List Tb) : ∀ k j, j < k → ∃ r, rst l k = rst l j ++ (encB (l.getD j tb0) ++ r)
  | k + 1, j, h => by
    rcases Nat.lt_succ_iff_lt_or_eq.1 h with h | rfl
    · obtain ⟨r, e⟩ := rst_split l k j h
      exact ⟨r ++ encB (l.getD k tb0), by simp only [rst, e, List.append_assoc]⟩
    · exact ⟨[], by simp only [rst, List.append_nil]⟩
theorem ofs_split (l : List Tb) (n : Nat) : ∀ k j, j < k → ∃ r, ofs l n k = ofs l n j ++ (le4 (16 + 4 * n + (rst l j).length) ++ r)
  | k + 1, j, h => by
    rcases Nat.lt_succ_iff_lt_or_eq.1 h with h | rfl
    · obtain ⟨r, e⟩ := ofs_split l n k j h
      exact ⟨r ++ le4 (16 + 4 * n + (rst l k).length), by simp only [ofs, e, List.append_assoc]⟩
    · exact ⟨[], by simp only [ofs, List.append_nil]⟩
theorem dir_ok (b : By) (h : b.length ≤ 65536) : validB (dirT b) = true := by
  show (((((sigOK rsdt && decide ((0 : Int) ≤ 1)) && decide ((1 : Int) ≤ 255)) && decide (plat.length ≤ 6)) && !lastZ plat) && decide (b.length ≤ 65536)) = true
  rw [decide_eq_true h]
  decide
theorem dir_len {b : By} (h : b.length ≤ 65536) : (encB (dirT b)).length = 16 + b.length := enc_len (dir_ok b h)
theorem set_dec {l : List Tb} (h : setOK l) : decB (encSet l) = (dirT (ofs l l.length l.length), 16 + 4 * l.length, 0) := by
  have h1 := h.hi
  have h2 := ofs_len l l.length l.length
  unfold encSet
  rw [dec_enc (dir_ok _ (by omega))]
  show (_, 16 + (ofs l l.length l.length).length, 0) = _
  rw [h2]
theorem set_len {l : List Tb} (h : setOK l) : (encSet l).length = 16 + 4 * l.length + (rst l l.length).length := by
  have h1 := h.hi
  have h2 := ofs_len l l.length l.length
  unfold encSet
  rw [List.length_append, dir_len (by omega), h2]
theorem set_bound {l : List Tb} (h : setOK l) : (encSet l).length ≤ 1100000 := by
  have h1 := h.hi
  have h2 := rst_le l l.length h.all
  rw [set_len h]
  omega
theorem set_one {l : List Tb} (h : setOK l) {j : Nat} (hj : j < l.length) : one (encSet l) ((ofs l l.length l.length).drop (4 * j)) (16 + 4 * l.length + (rst l j).length) = (0, l.getD j tb0, 16 + 4 * l.length + (rst l (j + 1)).length) := by
  have h1 := h.hi
  obtain ⟨r, hr⟩ := rst_split l l.length j hj
  obtain ⟨q, hq⟩ := ofs_split l l.length l.length j hj
  obtain ⟨v, hne⟩ := good_parts (h.all j hj)
  have hb := rst_le l j fun i hi => h.all i (by omega)
  have e1 : (ofs l l.length l.length).drop (4 * j) = le4 (16 + 4 * l.length + (rst l j).length) ++ q := by
    conv => lhs; rw [hq]
    rw [← ofs_len l l.length j, List.drop_left]
  have e2 : num4 ((ofs l l.length l.length).drop (4 * j)) = 16 + 4 * l.length + (rst l j).length := by
    rw [e1]; exact num_le4 _ (by omega) _
  have e3 : (encSet l).drop (16 + 4 * l.length + (rst l j).length) = encB (l.getD j tb0) ++ r := by
    have h2 := ofs_len l l.length l.length
    unfold encSet
    rw [hr, ← List.append_assoc]
    have : 16 + 4 * l.length + (rst l j).length = (encB (dirT (ofs l l.length l.length)) ++ rst l j).length := by
      rw [List.length_append, dir_len (by omega), h2]
    rw [this, List.drop_left]
  have e4 := dec_enc v r
  unfold one
  rw [e2, e3, e4]
  rw [if_neg (by simp), if_neg (by simp), if_neg hne]
  simp only [rst, List.length_append, enc_len v]
  simp only [Prod.mk.injEq, true_and]
  omega
theorem set_got {l : List Tb} (h : setOK l) : ∀ j, j ≤ l.length → got (encSet l) (ofs l l.length l.length) (16 + 4 * l.length) j = (l.take j, 16 + 4 * l.length + (rst l j).length)
  | 0, _ => by simp [got, rst]
  | j + 1, hj => by
    have e := set_got h j (by omega)
    simp only [got]
    rw [e]
    simp only
    rw [set_one h (by omega)]
    have hj' : j < l.length := by omega
    rw [List.take_add_one, List.getElem?_eq_getElem hj', List.getD_eq_getElem?_getD, List.getElem?_eq_getElem hj']
    rfl
theorem set_err {l : List Tb} (h : setOK l) {j : Nat} (hj : j < l.length) : errJ (encSet l) (ofs l l.length l.length) (16 + 4 * l.length) j = 0 := by
  unfold errJ
  rw [set_got h j (by omega)]
  simp only
  rw [set_one h hj]
/-- is a set of tables encoded? the first that may not be in it -/
theorem set_cases (l : List Tb) (h1 : 1 ≤ l.length) (h2 : l.length ≤ 16) : setOK l ∨ ∃ k, k < l.length ∧ (∀ j, j < k → goodT (l.getD j tb0) = true) ∧ goodT (l.getD k tb0) = false := by
  rcases first_bad (fun j => if goodT (l.getD j tb0) = true then 0 else 1) l.length with h | ⟨k, k1, k2, k3⟩
  · refine .inl ⟨h1, h2, fun j hj => ?_⟩
    have := h j hj
    by_cases hg : goodT (l.getD j tb0) = true
    · exact hg
    · simp only [if_neg hg] at this; cases this
  · refine .inr ⟨k, k1, fun j hj => ?_, ?_⟩
    · have := k2 j hj
      by_cases hg : goodT (l.getD j tb0) = true
      · exact hg
      · simp only [if_neg hg] at this; cases this
    · cases hg : goodT (l.getD k tb0) with
      | false => rfl
      | true => simp only [hg, if_true] at k3; exact absurd rfl k3

end Go.Proofs.YtmkemodgbhaglaaDoor
