/-
  The frame, part 15: pieces of code joined; what is known beside a piece.
-/
import Derived.Test.YtbokilgdefkmiaaGreatDoorAb14
set_option linter.unusedSimpArgs false
set_option linter.unusedVariables false
namespace Go.Proofs.YtbokilgdefkmiaaGreatDoor
namespace Ab
open Go

/-- a piece of code, by its path: 0 left or inside, 1 right or else -/
def sub : List Nat → Code → Code
  | [], c => c
  | 0 :: p, .seq a _ => sub p a
  | _ :: p, .seq _ b => sub p b
  | _ :: p, .block _ c => sub p c
  | _ :: p, .loop c => sub p c
  | 0 :: p, .cond _ a _ => sub p a
  | _ :: p, .cond _ _ b => sub p b
  | _, c => c

section
variable {P : Program} {b : Nat} {env : List V} {n : Nat} {L : Hp} {R : Post}
theorem Ex.cat {x y : Code} {e : List V} {m : Nat} {M : Hp} (h : Ex P b x env n L (One .normal e m M)) (k : Ex P b y e m M R) : Ex P b (.seq x y) env n L R := by
  refine Ex.seq (h.mono ?_)
  rintro z e' m' M' ⟨rfl, rfl, rfl, rfl⟩
  exact k
theorem Ex.blk {id : Nat} {c : Code} {e : List V} {m : Nat} {M : Hp} (h : Ex P b c env n L (One .normal e m M)) : Ex P b (.block id c) env n L (One .normal e m M) := by
  refine Ex.block (h.mono ?_)
  rintro z e' m' M' ⟨rfl, rfl, rfl, rfl⟩
  exact ⟨rfl, rfl, rfl, rfl⟩
theorem Ex.less {c : Code} {b' : Nat} (h : Ex P b c env n L R) (hb : b' ≤ b) (hn : b ≤ n) : Ex P b' c env n L R := by
  intro φ a w h1 h2 h3 h4
  refine wp_mono (h φ a w h1 h2 h3 hn) ?_
  rintro x a' w' ⟨φ', e, m, M, hR, k1, k2, k3, k4, k5, k6⟩
  exact ⟨φ', e, m, M, hR, k1, k2, k3, by omega, k5, fun i hi => k6 i (by omega)⟩
theorem Ex.stage (hm : P.follows .mixedOrders = true) {c : Code} {x : Exit} {e' : List V} {m' : Nat} {M' : Hp} (tbl keep : List Nat) (hn : tbl.length = m') (ok : okSt b tbl e' M' = true) (h : Lst P b c tbl keep env n L x e' M') : Ex P b c env n L (One x e' m' M') := by
  obtain ⟨ans, e, m, M, as, C, h2, h3, h4, h5⟩ := h
  have hb1 : b ≤ m' := by
    simp only [okSt, Bool.and_eq_true] at ok
    rw [← hn]; exact Nat.le_of_ble_eq_true ok.2
  exact (runC_ok hm _ _ _ _ ans _ _ _ _ as C h2 h3).to hb1 (To.by keep tbl hn h4 h5 ok)
end

theorem lk_app {L F : Hp} {i : Nat} (h : i ∉ keys L) : lk (L ++ F) i = lk F i := by
  induction L with
  | nil => rfl
  | cons x t ih =>
    obtain ⟨j, b⟩ := x
    simp only [keys, List.map_cons, List.mem_cons, not_or] at h
    rw [List.cons_append, lk_cons, if_neg (Ne.symm h.1)]
    exact ih h.2
theorem lk_app_in {L F : Hp} {i : Nat} (h : i ∈ keys L) : lk (L ++ F) i = lk L i := by
  induction L with
  | nil => simp [keys] at h
  | cons x t ih =>
    obtain ⟨j, b⟩ := x
    rw [List.cons_append, lk_cons, lk_cons]
    split
    · rfl
    · rename_i hj
      simp only [keys, List.map_cons, List.mem_cons] at h
      exact ih (h.resolve_left fun e => hj e.symm)
theorem lk_none {L : Hp} {i : Nat} (h : i ∉ keys L) : lk L i = none := by
  induction L with
  | nil => rfl
  | cons x t ih =>
    obtain ⟨j, b⟩ := x
    simp only [keys, List.map_cons, List.mem_cons, not_or] at h
    rw [lk_cons, if_neg (Ne.symm h.1)]
    exact ih h.2

/-- no number of F is one of L -/
def apart (L F : Hp) : Bool := (keys F).all fun i => !(keys L).elem i

/-- What is known beside L, under numbers that stay, is known behind the piece, too. -/
theorem Ex.framed {P : Program} {b : Nat} {c : Code} {env : List V} {n : Nat} {L : Hp} {x : Exit} {e : List V} {m : Nat} {M0 : Hp} (F : Hp) (h : Ex P b c env n L (One x e m M0)) (hF : okH b F = true) (ha : apart L F = true) : Ex P b c env n (L ++ F) (One x e m (M0 ++ F)) := by
  intro φ a w h1 h2 h3 h4
  have hap : ∀ i, i ∈ keys F → i ∉ keys L := by
    intro i hi hl
    have := List.all_eq_true.1 ha i hi
    rw [List.elem_eq_true_of_mem hl] at this; cases this
  have hs : Sub L (L ++ F) := by
    intro i bl hi
    have : i ∈ keys L := by
      rcases Classical.em (i ∈ keys L) with h | h
      · exact h
      · rw [lk_none h] at hi; cases hi
    rw [lk_app_in this]; exact hi
  have hin : ∀ i bl, i ∉ keys L → lk F i = some bl → lk L i = none ∧ lk (L ++ F) i = some bl := fun i bl hi hf => ⟨lk_none hi, by rw [lk_app hi]; exact hf⟩
  refine wp_mono (h φ a w h1 (h2.sub hs) h3 h4) ?_
  rintro x' a' w' ⟨φ', e', m', M', ⟨rfl, rfl, rfl, rfl⟩, g1, hg', k3, k4, st, k6⟩
  -- a block of F: under the same number, not written
  have out : ∀ i bl, i ∉ keys L → lk F i = some bl → ∃ c0, φ i = some c0 ∧ φ' i = some c0 ∧ c0.1 < w.heap.size ∧ ¬ Wr φ L c0.1 ∧ BlAt φ' w' c0 bl := by
    intro i bl hi hf
    obtain ⟨c0, hc0, hat⟩ := h2.hr i bl (hin i bl hi hf).2
    obtain ⟨hib, hok⟩ := okH_at hF hf
    have hnw : ¬ Wr φ L c0.1 := by
      rintro ⟨j, bj, cj, hj, hpj, hcc, hro⟩
      rcases h2.inj i j bl bj c0 cj (hin i bl hi hf).2 (hs j bj hj) hc0 hpj hcc.symm with rfl | ⟨_, e⟩
      · rw [(hin i bl hi hf).1] at hj; cases hj
      · rw [e] at hro; cases hro
    refine ⟨c0, hc0, by rw [k6 i hib]; exact hc0, hat.lt, hnw, ?_⟩
    refine (hat.cut hok).mono ?_ (st.keep c0.1 hat.lt hnw)
    intro j d hj
    simp only [cutPh] at hj
    split at hj
    · rename_i hjb; rw [k6 j hjb]; exact hj
    · cases hj
  have split : ∀ i bl, lk (M' ++ F) i = some bl → lk M' i = some bl ∨ (i ∉ keys L ∧ lk F i = some bl) := by
    intro i bl hi
    rcases Classical.em (i ∈ keys M') with hk | hk
    · rw [lk_app_in hk] at hi; exact .inl hi
    · rw [lk_app hk] at hi
      refine .inr ⟨hap i ?_, hi⟩
      rcases Classical.em (i ∈ keys F) with h | h
      · exact h
      · rw [lk_none h] at hi; cases hi
  have cross : ∀ i j bl bl' c1 c2, i ∉ keys L → lk F i = some bl → φ' i = some c1 → lk M' j = some bl' → φ' j = some c2 → c1.1 = c2.1 → bl.ro = true ∧ bl'.ro = true := by
    intro i j bl bl' c1 c2 hi hf hc1 hj hpj hcc
    obtain ⟨c0, q1, q2, q3, q4, q5⟩ := out i bl hi hf
    rw [q2] at hc1; cases hc1
    obtain ⟨k, bk, ck, hk, hpk, hck, hr, _⟩ := st.fresh j bl' c2 hj hpj (hcc ▸ q3)
    rcases h2.inj i k bl bk c1 ck (hin i bl hi hf).2 (hs k bk hk) q1 hpk (hcc.trans hck.symm) with rfl | ⟨e1, e2⟩
    · rw [(hin i bl hi hf).1] at hk; cases hk
    · exact ⟨e1, hr e2⟩
  refine ⟨φ', _, _, _, ⟨rfl, rfl, rfl, rfl⟩, g1, ⟨fun i bl hi => ?_, fun i j bl bl' c1 c2 hi hj hc1 hc2 hcc => ?_⟩, k3, k4, ⟨st.os, st.tape, st.output, st.size, fun d hd hn => ?_, fun j bl c1 hj hp hlt => ?_⟩, k6⟩
  · rcases split i bl hi with h | ⟨hn, hf⟩
    · exact hg'.hr i bl h
    · obtain ⟨c0, q1, q2, q3, q4, q5⟩ := out i bl hn hf
      exact ⟨c0, q2, q5⟩
  · rcases split i bl hi with h | ⟨hn, hf⟩ <;> rcases split j bl' hj with k | ⟨kn, kf⟩
    · exact hg'.inj i j bl bl' c1 c2 h k hc1 hc2 hcc
    · exact .inr (cross j i bl' bl c2 c1 kn kf hc2 h hc1 hcc.symm).symm
    · exact .inr (cross i j bl bl' c1 c2 hn hf hc1 k hc2 hcc)
    · obtain ⟨d1, q1, q2, _⟩ := out i bl hn hf
      obtain ⟨d2, p1, p2, _⟩ := out j bl' kn kf
      rw [q2] at hc1; cases hc1
      rw [p2] at hc2; cases hc2
      exact h2.inj i j bl bl' c1 c2 (hin i bl hn hf).2 (hin j bl' kn kf).2 q1 p1 hcc
  · exact st.keep d hd fun ⟨i, bl, c0, hi, hp, hcc, hro⟩ => hn ⟨i, bl, c0, hs i bl hi, hp, hcc, hro⟩
  · rcases split j bl hj with h | ⟨hn, hf⟩
    · obtain ⟨k, bk, c0, hk, hpk, hcc, hr⟩ := st.fresh j bl c1 h hp hlt
      exact ⟨k, bk, c0, hs k bk hk, hpk, hcc, hr⟩
    · obtain ⟨c0, q1, q2, _⟩ := out j bl hn hf
      rw [q2] at hp; cases hp
      exact ⟨j, bl, c1, (hin j bl hn hf).2, q1, rfl, id, .inl rfl⟩

end Ab
end Go.Proofs.YtbokilgdefkmiaaGreatDoor
