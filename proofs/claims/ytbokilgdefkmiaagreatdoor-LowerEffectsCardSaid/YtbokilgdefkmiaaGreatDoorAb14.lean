/-
  The frame, part 14: loops that end because a measure falls.
-/
import Derived.Test.YtbokilgdefkmiaaGreatDoorAb13
set_option linter.unusedSimpArgs false
set_option linter.unusedVariables false
namespace Go.Proofs.YtbokilgdefkmiaaGreatDoor
namespace Ab
open Go

/-- A loop over states s: E s, H s are what is known there; each round leads to a state of smaller measure, or leaves the loop as (x, e', M'). -/
theorem Ex.whiles {P : Program} (hm : P.follows .mixedOrders = true) {b : Nat} {c : Code} {env : List V} {n : Nat} {L : Hp} {n0 : Nat} {x : Exit} {e' : List V} {M' : Hp} {n1 : Nat} {σ : Type} (E : σ → List V) (H : σ → Hp) (I : σ → Prop) (mu : σ → Nat) (s0 : σ)
    (keep tbl0 tbl : List Nat) (hn0 : tbl0.length = n0) (hn : tbl.length = n0) (h0 : wkE keep 0 env = (E s0).map (renV (rn tbl0 0))) (h1 : MemP (rn tbl0 0) L (H s0)) (ok0 : okSt b tbl0 (E s0) (H s0) = true) (ok : ∀ s, okSt b tbl (E s) (H s) = true) (i0 : I s0)
    (keep' tbl' : List Nat) (hn' : tbl'.length = n1) (hx : x ≠ .normal) (ok' : okSt b tbl' e' M' = true)
    (step : ∀ s, I s → (∃ s', I s' ∧ mu s' < mu s ∧ Rnd P b c tbl keep (E s) n0 (H s) (E s') (H s')) ∨ Lst P b c tbl' keep' (E s) n0 (H s) x e' M') :
    Ex P b (.loop c) env n L (One x e' n1 M') := by
  have hb : b ≤ n0 := by
    simp only [okSt, Bool.and_eq_true] at ok0
    rw [← hn0]; exact Nat.le_of_ble_eq_true ok0.2
  have hb1 : b ≤ n1 := by
    simp only [okSt, Bool.and_eq_true] at ok'
    rw [← hn']; exact Nat.le_of_ble_eq_true ok'.2
  have fin : ∀ s, Lst P b c tbl' keep' (E s) n0 (H s) x e' M' → Ex P b c (E s) n0 (H s) (One x e' n1 M') := by
    rintro s ⟨ans, e, m, M, as, C, h2, h3, h4, h5⟩
    exact (runC_ok hm _ _ _ _ ans _ _ _ _ as C h2 h3).to hb1 (To.by keep' tbl' hn' h4 h5 ok')
  have main : Ex P b (.loop c) (E s0) n0 (H s0) (One x e' n1 M') := by
    refine Ex.loopT (fun k env L => ∃ s, I s ∧ mu s ≤ k ∧ env = E s ∧ L = H s) hb ?_ ?_ (mu s0) (E s0) (H s0) ⟨s0, i0, Nat.le_refl _, rfl, rfl⟩
    · rintro k env L ⟨s, hI, hmu, rfl, rfl⟩
      rcases step s hI with ⟨s', hI', hlt, ans, e, m, M, as, C, h2, h3, h4, h5⟩ | hl
      · refine (runC_ok hm _ _ _ _ ans _ _ _ _ as C h2 h3).mono ?_
        rintro x' e1 m' M1 ⟨rfl, rfl, rfl, rfl⟩
        exact .inl ⟨rfl, _, _, To.by keep tbl hn h4 h5 (ok s'), s', hI', by omega, rfl, rfl⟩
      · refine (fin s hl).mono ?_
        rintro x' e1 m' M1 ⟨rfl, rfl, rfl, rfl⟩
        exact .inr ⟨hx, rfl, rfl, rfl, rfl⟩
    · rintro env L ⟨s, hI, hmu, rfl, rfl⟩
      rcases step s hI with ⟨s', hI', hlt, _⟩ | hl
      · omega
      · refine (fin s hl).mono ?_
        rintro x' e1 m' M1 ⟨rfl, rfl, rfl, rfl⟩
        exact ⟨hx, rfl, rfl, rfl, rfl⟩
  intro φ a w k1 k2 k3 k4
  obtain ⟨φ2, g1, g2, g3, g4, g5⟩ := To.by keep tbl0 hn0 h0 h1 ok0 φ φ L w w a k1 k2 (Stp.refl _ _ _)
  refine wp_mono (main φ2 a w g1 g2 g3 hb) ?_
  rintro x' a' w' ⟨φ', e, m, M, hR, q1, q2, q3, q4, q5, q6⟩
  exact ⟨φ', e, m, M, hR, q1, q2, q3, q4, g4.trans q5, fun i hi => (q6 i hi).trans (g5 i hi)⟩

end Ab
end Go.Proofs.YtbokilgdefkmiaaGreatDoor
