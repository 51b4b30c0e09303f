/-
  Tables and their encoding, as lists of bytes. No program in sight.
-/
import Derived.Test.YtmkemodgbhaglaaDoorAb15
set_option linter.unusedSimpArgs false
set_option linter.unusedVariables false
namespace Go.Proofs.YtmkemodgbhaglaaDoor
open Go Ab
set_option maxRecDepth 100000

abbrev By := List UInt8
def tot (l : By) : Nat := (l.map UInt8.toNat).sum
def sumN (l : By) : Nat := tot l % 256
def bt (n : Nat) : UInt8 := UInt8.ofNat n
theorem bt_nat (n : Nat) : (bt n).toNat = n % 256 := by simp [bt]
def le4 (n : Nat) : By := [bt n, bt (n / 256), bt (n / 65536), bt (n / 16777216)]
def num4 (s : By) : Nat := (s.getD 0 0).toNat + 256 * (s.getD 1 0).toNat + 65536 * (s.getD 2 0).toNat + 16777216 * (s.getD 3 0).toNat
theorem num_le4 (n : Nat) (h : n < 4294967296) (r : By) : num4 (le4 n ++ r) = n := by
  simp only [num4, le4, List.cons_append, List.getD_cons_zero, List.getD_cons_succ, bt_nat]
  omega
theorem num4_lt (s : By) : num4 s < 4294967296 := by
  have h0 := (s.getD 0 0).toNat_lt
  have h1 := (s.getD 1 0).toNat_lt
  have h2 := (s.getD 2 0).toNat_lt
  have h3 := (s.getD 3 0).toNat_lt
  unfold num4
  omega
def chOK (c : UInt8) : Bool := (decide (65 ≤ c.toNat) && decide (c.toNat ≤ 90)) || (decide (48 ≤ c.toNat) && decide (c.toNat ≤ 57))
def sigOK (s : By) : Bool := Nat.beq s.length 4 && s.all chOK
structure Tb where
  sg : By
  rv : Int
  om : By
  bd : By
def tb0 : Tb := ⟨[], 0, [], []⟩
def lastZ (s : By) : Bool := decide (s ≠ []) && Nat.beq (s.getD (s.length - 1) 0).toNat 0
def validB (t : Tb) : Bool := sigOK t.sg && decide (0 ≤ t.rv) && decide (t.rv ≤ 255) && decide (t.om.length ≤ 6) && !lastZ t.om && decide (t.bd.length ≤ 65536)
def front (t : Tb) : By := t.sg ++ le4 (16 + t.bd.length) ++ [bt t.rv.toNat]
def back (t : Tb) : By := t.om ++ List.replicate (6 - t.om.length) 0 ++ t.bd
def negB (n : Nat) : UInt8 := bt (256 - n)
def encB (t : Tb) : By := front t ++ [negB (sumN (front t ++ back t))] ++ back t
def trimR : By → By
  | [] => []
  | c :: r => match trimR r with | [] => (if c.toNat = 0 then [] else [c]) | d :: e => c :: d :: e
def decB (s : By) : Tb × Nat × Nat :=
  if s.length < 16 then (tb0, 0, 4)
  else if sigOK (s.take 4) = false ∨ num4 (s.drop 4) < 16 ∨ 65552 < num4 (s.drop 4) then (tb0, 0, 3)
  else if s.length < num4 (s.drop 4) then (tb0, 0, 4)
  else if sumN (s.take (num4 (s.drop 4))) ≠ 0 then (tb0, 0, 5)
  else (⟨s.take 4, (((s.getD 8 0).toNat : Nat) : Int), trimR ((s.take 16).drop 10), (s.take (num4 (s.drop 4))).drop 16⟩, num4 (s.drop 4), 0)

theorem sum_step (l : By) {j : Nat} (h : j < l.length) : (sumN (l.take j) + (l.getD j 0).toNat) % 256 = sumN (l.take (j + 1)) := by
  unfold sumN tot
  rw [List.take_add_one, List.map_append, List.sum_append, List.getD_eq_getElem?_getD, List.getElem?_eq_getElem h]
  simp
theorem sum_full (l : By) : sumN (l.take l.length) = sumN l := by rw [List.take_length]
theorem all_upto : ∀ (l : By), l.all chOK = true → ∀ j, j < l.length → chOK (l.getD j 0) = true
  | c :: r, h, 0, _ => by simp only [List.all_cons, Bool.and_eq_true] at h; exact h.1
  | c :: r, h, j + 1, hj => by
    simp only [List.all_cons, Bool.and_eq_true] at h
    exact all_upto r h.2 j (by simpa using hj)
theorem bad_at : ∀ (l : By), l.all chOK = false → ∃ k, k < l.length ∧ (∀ j, j < k → chOK (l.getD j 0) = true) ∧ chOK (l.getD k 0) = false
  | c :: r, h => by
    cases hc : chOK c with
    | false => exact ⟨0, by simp, fun j hj => absurd hj (Nat.not_lt_zero _), hc⟩
    | true =>
      simp only [List.all_cons, hc, Bool.true_and] at h
      obtain ⟨k, h1, h2, h3⟩ := bad_at r h
      refine ⟨k + 1, by simpa using h1, fun j hj => ?_, h3⟩
      cases j with
      | zero => exact hc
      | succ j => exact h2 j (by omega)
theorem tot_app (a b : By) : tot (a ++ b) = tot a + tot b := by simp [tot]
theorem sumN_lt (l : By) : sumN l < 256 := Nat.mod_lt _ (by decide)
theorem valid_parts {t : Tb} (h : validB t = true) : sigOK t.sg = true ∧ 0 ≤ t.rv ∧ t.rv ≤ 255 ∧ t.om.length ≤ 6 ∧ lastZ t.om = false ∧ t.bd.length ≤ 65536 := by
  simp only [validB, Bool.and_eq_true, decide_eq_true_eq, Bool.not_eq_true'] at h
  obtain ⟨⟨⟨⟨⟨h1, h2⟩, h3⟩, h4⟩, h5⟩, h6⟩ := h
  exact ⟨h1, h2, h3, h4, h5, h6⟩
theorem sig_len {s : By} (h : sigOK s = true) : s.length = 4 := by
  simp only [sigOK, Bool.and_eq_true] at h
  exact Nat.eq_of_beq_eq_true h.1
theorem front_len {t : Tb} (h : t.sg.length = 4) : (front t).length = 9 := by simp [front, le4, h]
theorem back_len {t : Tb} (h : t.om.length ≤ 6) : (back t).length = 6 + t.bd.length := by simp [back]; omega
theorem enc_len {t : Tb} (h : validB t = true) : (encB t).length = 16 + t.bd.length := by
  obtain ⟨h1, _, _, h4, _, _⟩ := valid_parts h
  simp only [encB, List.length_append, front_len (sig_len h1), back_len h4, List.length_singleton]; omega
theorem enc_sum (t : Tb) : sumN (encB t) = 0 := by
  have h := sumN_lt (front t ++ back t)
  have e1 : tot [negB (sumN (front t ++ back t))] = (256 - sumN (front t ++ back t)) % 256 := by simp [tot, negB, bt_nat]
  unfold sumN at *
  unfold encB
  rw [tot_app, tot_app]
  rw [show sumN (front t ++ back t) = tot (front t ++ back t) % 256 from rfl] at *
  rw [e1, tot_app] at *
  omega
theorem trimR_last : ∀ (l : By), lastZ l = false → trimR l = l
  | [], _ => rfl
  | [c], h => by
    simp only [trimR]
    rw [if_neg]
    intro e
    simp [lastZ, e] at h
  | c :: d :: r, h => by
    have h' : lastZ (d :: r) = false := by
      unfold lastZ at h ⊢
      simp only [List.length_cons, Nat.add_sub_cancel, List.getD_cons_succ, ne_eq, reduceCtorEq, not_false_eq_true, decide_true, Bool.true_and] at h ⊢
      exact h
    simp only [trimR] at *
    rw [show (match trimR r with | [] => if d.toNat = 0 then [] else [d] | d_1 :: e => d :: d_1 :: e) = trimR (d :: r) from rfl, trimR_last (d :: r) h']
theorem trimR_zeros : ∀ (k : Nat), trimR (List.replicate k 0) = []
  | 0 => rfl
  | k + 1 => by
    rw [List.replicate_succ]
    simp only [trimR, trimR_zeros k]
    rfl
theorem trimR_app : ∀ (l : By) (k : Nat), trimR (l ++ List.replicate k 0) = trimR l
  | [], k => trimR_zeros k
  | c :: r, k => by
    simp only [List.cons_append, trimR, trimR_app r k]
/-- a table reads back -/
theorem dec_enc {t : Tb} (h : validB t = true) (b : By) : decB (encB t ++ b) = (t, 16 + t.bd.length, 0) := by
  obtain ⟨h1, h2, h3, h4, h5, h6⟩ := valid_parts h
  have hs := sig_len h1
  have hl := enc_len h
  have hfl := front_len hs
  have e0 : encB t ++ b = t.sg ++ (le4 (16 + t.bd.length) ++ ([bt t.rv.toNat] ++ ([negB (sumN (front t ++ back t))] ++ (t.om ++ (List.replicate (6 - t.om.length) 0 ++ (t.bd ++ b)))))) := by
    simp only [encB, front, back, List.append_assoc]
  have d4 : (encB t ++ b).drop 4 = le4 (16 + t.bd.length) ++ ([bt t.rv.toNat] ++ ([negB (sumN (front t ++ back t))] ++ (t.om ++ (List.replicate (6 - t.om.length) 0 ++ (t.bd ++ b))))) := by
    rw [e0, ← hs, List.drop_left]
  have hn : num4 ((encB t ++ b).drop 4) = 16 + t.bd.length := by rw [d4]; exact num_le4 _ (by omega) _
  have t4 : (encB t ++ b).take 4 = t.sg := by rw [e0, ← hs, List.take_left]
  have tn : (encB t ++ b).take (16 + t.bd.length) = encB t := by rw [← hl, List.take_left]
  have g8 : (encB t ++ b).getD 8 0 = bt t.rv.toNat := by
    have : (encB t ++ b).getD 8 0 = ((encB t ++ b).drop 4).getD 4 0 := by simp [List.getD_eq_getElem?_getD, List.getElem?_drop]
    rw [this, d4]; rfl
  have dF : ∀ r : By, (front t ++ [negB (sumN (front t ++ back t))] ++ r).drop 10 = r := by
    intro r
    rw [show 10 = (front t ++ [negB (sumN (front t ++ back t))]).length by rw [List.length_append, hfl]; rfl, List.drop_left]
  have t16 : ((encB t ++ b).take 16).drop 10 = t.om ++ List.replicate (6 - t.om.length) 0 := by
    rw [List.drop_take, encB, List.append_assoc _ (back t) b, dF]
    have : (back t ++ b) = (t.om ++ List.replicate (6 - t.om.length) 0) ++ (t.bd ++ b) := by simp [back]
    rw [this, List.take_left' (by simp; omega)]
  have dB : (encB t).drop 16 = t.bd := by
    have : encB t = (front t ++ [negB (sumN (front t ++ back t))] ++ t.om ++ List.replicate (6 - t.om.length) 0) ++ t.bd := by simp [encB, back]
    rw [this, List.drop_left' (by simp [hfl]; omega)]
  unfold decB
  rw [hn, t4, tn, g8, t16, dB, enc_sum, trimR_app, trimR_last _ h5, bt_nat]
  rw [if_neg (by rw [List.length_append, hl]; omega), if_neg (by rw [h1]; simp; omega), if_neg (by rw [List.length_append, hl]; omega), if_neg (by simp)]
  have : (((t.rv.toNat % 256 : Nat) : Nat) : Int) = t.rv := by omega
  rw [this]
/-- a changed byte is seen -/
theorem dec_chg {t : Tb} (h : validB t = true) {k : Nat} (hk : k < (encB t).length) (hk4 : ¬ (4 ≤ k ∧ k < 8)) {c : UInt8} (hc : (encB t).getD k 0 ≠ c) : (decB ((encB t).take k ++ [c] ++ (encB t).drop (k + 1))).2.2 ≠ 0 := by
  obtain ⟨h1, h2, h3, h4, h5, h6⟩ := valid_parts h
  have hl := enc_len h
  have hs := enc_sum t
  generalize hs' : (encB t).take k ++ [c] ++ (encB t).drop (k + 1) = s'
  have es : (encB t) = (encB t).take k ++ [(encB t).getD k 0] ++ (encB t).drop (k + 1) := by
    conv => lhs; rw [← List.take_append_drop k (encB t)]
    rw [List.append_assoc, List.drop_eq_getElem_cons hk, List.getD_eq_getElem?_getD, List.getElem?_eq_getElem hk]; rfl
  have hl' : s'.length = (encB t).length := by rw [← hs']; simp; omega
  have hn : num4 (s'.drop 4) = 16 + t.bd.length := by
    have e0 := num_le4 (16 + t.bd.length) (by omega) []
    have key : ∀ j, j < 4 → (s'.drop 4).getD j 0 = ((encB t).drop 4).getD j 0 := by
      intro j hj
      simp only [List.getD_eq_getElem?_getD, List.getElem?_drop]
      rw [← hs']
      by_cases hlt : 4 + j < k
      · rw [List.append_assoc, List.getElem?_append_left (by simp; omega), List.getElem?_take_of_lt hlt]
      · rw [List.getElem?_append_right (by simp; omega), List.getElem?_drop]
        congr 2
        simp only [List.length_append, List.length_take, List.length_singleton]; omega
    have d4 : num4 ((encB t).drop 4) = 16 + t.bd.length := by
      have := dec_enc h []
      have e1 : (encB t).drop 4 = le4 (16 + t.bd.length) ++ ([bt t.rv.toNat] ++ ([negB (sumN (front t ++ back t))] ++ back t)) := by
        have : encB t = t.sg ++ (le4 (16 + t.bd.length) ++ ([bt t.rv.toNat] ++ ([negB (sumN (front t ++ back t))] ++ back t))) := by
          simp only [encB, front, List.append_assoc]
        rw [this, ← sig_len h1, List.drop_left]
      rw [e1]; exact num_le4 _ (by omega) _
    rw [← d4]
    unfold num4
    rw [key 0 (by decide), key 1 (by decide), key 2 (by decide), key 3 (by decide)]
  have hsum : sumN s' ≠ 0 := by
    intro e
    have e1 : tot s' = tot ((encB t).take k) + c.toNat + tot ((encB t).drop (k + 1)) := by rw [← hs', tot_app, tot_app]; simp [tot]
    have e2 : tot (encB t) = tot ((encB t).take k) + ((encB t).getD k 0).toNat + tot ((encB t).drop (k + 1)) := by
      conv => lhs; rw [es]
      rw [tot_app, tot_app]; simp [tot]
    have b1 := c.toNat_lt
    have b2 := ((encB t).getD k 0).toNat_lt
    unfold sumN at e hs
    have : c.toNat = ((encB t).getD k 0).toNat := by omega
    exact hc (UInt8.toNat_inj.1 this.symm)
  unfold decB
  rw [hn, hl', hl]
  rw [if_neg (by omega)]
  split
  · decide
  · rw [if_neg (by omega), List.take_of_length_le (by omega), if_pos hsum]
    decide

end Go.Proofs.YtmkemodgbhaglaaDoor
