/-
  The frame, part 13: states renamed; loops whose blocks move.
-/
import Derived.Test.YtbokilgdefkmiaaGreatDoorAb12
set_option linter.unusedSimpArgs false
set_option linter.unusedVariables false
namespace Go.Proofs.YtbokilgdefkmiaaGreatDoor
namespace Ab
open Go

/-- the numbers below b stand; a block under another number than before is one that may be written -/
def idB (b : Nat) (tbl : List Nat) (L' : Hp) : Bool :=
  (List.range b).all (fun i => Nat.beq (tbl.getD i 0) i) && L'.all fun x => match x.2 with | some bl => Nat.beq (tbl.getD x.1 0) x.1 || !bl.ro | none => true

theorem nodup_of {l : List Nat} (h : nodupB l = true) : l.Nodup := by
  induction l with
  | nil => exact .nil
  | cons x t ih =>
    simp only [nodupB, Bool.and_eq_true, Bool.not_eq_true'] at h
    refine List.nodup_cons.2 ⟨fun hm => ?_, ih h.2⟩
    rw [List.elem_eq_true_of_mem hm] at h; cases h.1

theorem To.ren {b : Nat} {env : List V} {L : Hp} {env' : List V} {L' : Hp} (keep tbl : List Nat) (he : wkE keep 0 env = env'.map (renV (rn tbl 0))) (hl : MemP (rn tbl 0) L L') (o1 : env'.all (okV tbl.length) = true) (o2 : okH tbl.length L' = true) (hn : injB (rn tbl 0) L' = true) (hid : idB b tbl L' = true) (hb : b ≤ tbl.length) :
    To b tbl.length env L env' L' := by
  intro φ₀ φ L₀ w₀ w a h1 h2 h3
  simp only [idB, Bool.and_eq_true] at hid
  let r := rn tbl 0
  have hro : ∀ i, i < tbl.length → r i = tbl.getD i 0 := fun i hi => rn_lt hi
  have hinj : ∀ i j bl bl', lk L' i = some bl → lk L' j = some bl' → r i = r j → i = j := by
    intro i j bl bl' hi hj e
    have g := List.all_eq_true.1 (List.all_eq_true.1 hn _ (lk_mem hi)) _ (lk_mem hj)
    simp only [Bool.or_eq_true, Bool.not_eq_true'] at g
    rcases g with g | g
    · exact Nat.eq_of_beq_eq_true g
    · have e' : rn tbl 0 i = rn tbl 0 j := e
      rw [e', Nat.beq_refl] at g; cases g
  refine ⟨cutPh tbl.length fun i => φ (r i), ⟨h1.1, ?_⟩, ⟨fun i bl hi => ?_, fun i j bl bl' c c' hi hj hc hc' hcc => ?_⟩, fun i hi => by simp [cutPh]; omega, ⟨h3.os, h3.tape, h3.output, h3.size, h3.keep, fun j bl c hj hc hlt => ?_⟩, fun i hi => ?_⟩
  · refine all2_cutV ?_ o1
    have := wkE_r (keep := keep) (i := 0) h1.2
    rw [he] at this
    have key : ∀ (l : List V) (xs : List Value), All2 (Vr φ) (l.map (renV r)) xs → All2 (Vr fun i => φ (r i)) l xs := by
      intro l
      induction l with
      | nil => intro xs hl; cases xs <;> first | trivial | exact hl.elim
      | cons y t ih => intro xs hl; cases xs with
        | nil => exact hl.elim
        | cons x xs => exact ⟨Vr_ren.1 hl.1, ih xs hl.2⟩
    exact key _ _ this
  · obtain ⟨c, hc, hat⟩ := h2.hr _ _ (hl.at i bl (lk_mem hi))
    obtain ⟨hlt, hok⟩ := okH_at o2 hi
    exact ⟨c, by simp only [cutPh, if_pos hlt]; exact hc, (BlAt_ren.1 hat).cut hok⟩
  · have hi' := (okH_at o2 hi).1
    have hj' := (okH_at o2 hj).1
    simp only [cutPh, if_pos hi'] at hc
    simp only [cutPh, if_pos hj'] at hc'
    rcases h2.inj _ _ _ _ c c' (hl.at i bl (lk_mem hi)) (hl.at j bl' (lk_mem hj)) hc hc' hcc with e | e
    · exact .inl (hinj i j bl bl' hi hj e)
    · rw [renB_ro, renB_ro] at e; exact .inr e
  · have hj' := (okH_at o2 hj).1
    simp only [cutPh, if_pos hj'] at hc
    obtain ⟨k, bk, d, hk, hpk, hdd, hr, ho⟩ := h3.fresh _ _ c (hl.at j bl (lk_mem hj)) hc hlt
    rw [renB_ro] at hr
    refine ⟨k, bk, d, hk, hpk, hdd, hr, ?_⟩
    rcases ho with ho | ho
    · have := List.all_eq_true.1 hid.2 _ (lk_mem hj)
      simp only [Bool.or_eq_true, Bool.not_eq_true'] at this
      rcases this with e | e
      · refine .inl ?_
        have e := Nat.eq_of_beq_eq_true e
        rw [ho]; show r j = j
        rw [hro j hj', e]
      · refine .inr ?_
        cases hb : bk.ro with
        | false => rfl
        | true => rw [hr hb] at e; cases e
    · exact .inr ho
  · have hit : i < tbl.length := by omega
    have := List.all_eq_true.1 hid.1 i (by simpa using hi)
    have := Nat.eq_of_beq_eq_true this
    simp only [cutPh, if_pos hit, hro i hit, this]

theorem Ex.loopT {P : Program} {b : Nat} {c : Code} {n : Nat} {R : Post} (I : Nat → List V → Hp → Prop) (hb : b ≤ n)
    (step : ∀ k env L, I (k + 1) env L → Ex P b c env n L fun x e m M => (x = .normal ∧ ∃ e' M', To b n e M e' M' ∧ I k e' M') ∨ (x ≠ .normal ∧ R x e m M))
    (last : ∀ env L, I 0 env L → Ex P b c env n L fun x e m M => x ≠ .normal ∧ R x e m M) :
    ∀ k env L, I k env L → Ex P b (.loop c) env n L R := by
  intro k env L hI φ a w h1 h2 h3 h4
  refine wp_loop_rounds (k + 1) ?_
  have key : ∀ k env L φ₁ a₁ w₁, I k env L → EnvR φ₁ env a₁ → Good φ₁ L w₁ → (∀ i, n ≤ i → φ₁ i = none) → ∀ (φ₀ : Ph) (L₀ : Hp) (w₀ : World), Stp φ₀ L₀ w₀ φ₁ L w₁ → (∀ i, i < b → φ₁ i = φ₀ i) →
      Code.rounds P c (fun x a' w' => ∃ φ' env' n' L', R x env' n' L' ∧ EnvR φ' env' a' ∧ Good φ' L' w' ∧ (∀ i, n' ≤ i → φ' i = none) ∧ b ≤ n' ∧ Stp φ₀ L₀ w₀ φ' L' w' ∧ (∀ i, i < b → φ' i = φ₀ i)) (k + 1) a₁ w₁ := by
    intro k
    induction k with
    | zero =>
      intro env L φ₁ a₁ w₁ hI h1 h2 h3 φ₀ L₀ w₀ h5 h6
      rw [rounds_succ]
      refine wp_mono (last env L hI φ₁ a₁ w₁ h1 h2 h3 hb) ?_
      rintro x a' w' ⟨φ', e, m, M, ⟨hx, hR⟩, k1, k2, k3, k4, k5, k6⟩
      cases x with
      | normal => exact absurd rfl hx
      | _ => exact ⟨φ', e, m, M, hR, k1, k2, k3, k4, h5.trans k5, fun i hi => (k6 i hi).trans (h6 i hi)⟩
    | succ k ih =>
      intro env L φ₁ a₁ w₁ hI h1 h2 h3 φ₀ L₀ w₀ h5 h6
      rw [rounds_succ]
      refine wp_mono (step k env L hI φ₁ a₁ w₁ h1 h2 h3 hb) ?_
      rintro x a' w' ⟨φ', e, m, M, hcase, k1, k2, k3, k4, k5, k6⟩
      rcases hcase with ⟨rfl, e', M', hwk, hI'⟩ | ⟨hx, hR⟩
      · simp only [Exit.then]
        obtain ⟨φ2, g1, g2, g3, g4, g5⟩ := hwk φ₀ φ' L₀ w₀ w' a' k1 k2 (h5.trans k5)
        exact ih e' M' _ a' w' hI' g1 g2 g3 φ₀ L₀ w₀ g4 (fun i hi => (g5 i hi).trans ((k6 i hi).trans (h6 i hi)))
      · cases x with
        | normal => exact absurd rfl hx
        | _ => exact ⟨φ', e, m, M, hR, k1, k2, k3, k4, h5.trans k5, fun i hi => (k6 i hi).trans (h6 i hi)⟩
  exact key k env L φ a w hI h1 h2 h3 φ L w (Stp.refl _ _ _) (fun _ _ => rfl)

/-- one round: it goes on in the next state (keep, tbl: the slots that live on, the new numbers of the blocks) or leaves the loop -/
def Rnd (P : Program) (b : Nat) (c : Code) (tbl keep : List Nat) (e0 : List V) (n0 : Nat) (H0 : Hp) (e1 : List V) (H1 : Hp) : Prop :=
  ∃ ans e m M as C, runC P b c e0 n0 H0 ans = some (.normal, e, m, M, as, C) ∧ C ∧ wkE keep 0 e = e1.map (renV (rn tbl 0)) ∧ MemP (rn tbl 0) M H1
def Lst (P : Program) (b : Nat) (c : Code) (tbl keep : List Nat) (e0 : List V) (n0 : Nat) (H0 : Hp) (x : Exit) (e1 : List V) (H1 : Hp) : Prop :=
  ∃ ans e m M as C, runC P b c e0 n0 H0 ans = some (x, e, m, M, as, C) ∧ C ∧ wkE keep 0 e = e1.map (renV (rn tbl 0)) ∧ MemP (rn tbl 0) M H1

/-- what a state must be, that a loop stands at -/
def okSt (b : Nat) (tbl : List Nat) (e : List V) (H : Hp) : Bool := e.all (okV tbl.length) && okH tbl.length H && injB (rn tbl 0) H && idB b tbl H && Nat.ble b tbl.length
theorem To.by {b : Nat} {env : List V} {L : Hp} {env' : List V} {L' : Hp} {n : Nat} (keep tbl : List Nat) (hn : tbl.length = n) (he : wkE keep 0 env = env'.map (renV (rn tbl 0))) (hl : MemP (rn tbl 0) L L') (ok : okSt b tbl env' L' = true) : To b n env L env' L' := by
  subst hn
  simp only [okSt, Bool.and_eq_true] at ok
  exact To.ren keep tbl he hl ok.1.1.1.1 ok.1.1.1.2 ok.1.1.2 ok.1.2 (Nat.le_of_ble_eq_true ok.2)

/-- A loop of N rounds whose blocks may move. tbl0: the numbers at its begin; tbl: those behind a round; tbl': those behind the last. -/
theorem Ex.moves {P : Program} (hm : P.follows .mixedOrders = true) {b : Nat} {c : Code} {env : List V} {n : Nat} {L : Hp} {n0 : Nat} {x : Exit} {e' : List V} {M' : Hp} {n1 : Nat} (keep : List Nat) (N : Nat) (E : Nat → List V) (H : Nat → Hp) (tbl0 tbl : List Nat)
    (hn0 : tbl0.length = n0) (hn : tbl.length = n0) (h0 : wkE keep 0 env = (E 0).map (renV (rn tbl0 0))) (h1 : MemP (rn tbl0 0) L (H 0)) (ok0 : okSt b tbl0 (E 0) (H 0) = true) (ok : ∀ j, okSt b tbl (E (j + 1)) (H (j + 1)) = true)
    (step : ∀ j, j < N → Rnd P b c tbl keep (E j) n0 (H j) (E (j + 1)) (H (j + 1)))
    (keep' tbl' : List Nat) (hn' : tbl'.length = n1) (hx : x ≠ .normal) (ok' : okSt b tbl' e' M' = true)
    (last : Lst P b c tbl' keep' (E N) n0 (H N) x e' M') :
    Ex P b (.loop c) env n L (One x e' n1 M') := by
  have hb : b ≤ n0 := by
    simp only [okSt, Bool.and_eq_true] at ok0
    rw [← hn0]; exact Nat.le_of_ble_eq_true ok0.2
  have hb1 : b ≤ n1 := by
    simp only [okSt, Bool.and_eq_true] at ok'
    rw [← hn']; exact Nat.le_of_ble_eq_true ok'.2
  have main : Ex P b (.loop c) (E 0) n0 (H 0) (One x e' n1 M') := by
    refine Ex.loopT (fun k env L => ∃ j, j + k = N ∧ env = E j ∧ L = H j) hb ?_ ?_ N (E 0) (H 0) ⟨0, by omega, rfl, rfl⟩
    · rintro k env L ⟨j, hj, rfl, rfl⟩
      obtain ⟨ans, e, m, M, as, C, h2, h3, h4, h5⟩ := step j (by omega)
      refine (runC_ok hm _ _ _ _ ans _ _ _ _ as C h2 h3).mono ?_
      rintro x' e1 m' M1 ⟨rfl, rfl, rfl, rfl⟩
      exact .inl ⟨rfl, _, _, To.by keep tbl hn h4 h5 (ok j), j + 1, by omega, rfl, rfl⟩
    · rintro env L ⟨j, hj, rfl, rfl⟩
      obtain rfl : j = N := by omega
      obtain ⟨ans, e, m, M, as, C, h2, h3, h4, h5⟩ := last
      refine ((runC_ok hm _ _ _ _ ans _ _ _ _ as C h2 h3).to hb1 (To.by keep' tbl' hn' h4 h5 ok')).mono ?_
      rintro x' e1 m' M1 ⟨rfl, rfl, rfl, rfl⟩
      exact ⟨hx, rfl, rfl, rfl, rfl⟩
  intro φ a w k1 k2 k3 k4
  obtain ⟨φ2, g1, g2, g3, g4, g5⟩ := To.by keep tbl0 hn0 h0 h1 ok0 φ φ L w w a k1 k2 (Stp.refl _ _ _)
  refine wp_mono (main φ2 a w g1 g2 g3 hb) ?_
  rintro x' a' w' ⟨φ', e, m, M, hR, q1, q2, q3, q4, q5, q6⟩
  exact ⟨φ', e, m, M, hR, q1, q2, q3, q4, g4.trans q5, fun i hi => (q6 i hi).trans (g5 i hi)⟩

/-- A loop of N rounds whose blocks may move, with a table a round. tbl0: the numbers at its begin; tbl: those behind a round; tbl': those behind the last. -/
theorem Ex.movesT {P : Program} (hm : P.follows .mixedOrders = true) {b : Nat} {c : Code} {env : List V} {n : Nat} {L : Hp} {n0 : Nat} {x : Exit} {e' : List V} {M' : Hp} {n1 : Nat} (keep : List Nat) (N : Nat) (E : Nat → List V) (H : Nat → Hp) (tbl0 : List Nat) (tbl : Nat → List Nat)
    (hn0 : tbl0.length = n0) (hn : ∀ j, (tbl j).length = n0) (h0 : wkE keep 0 env = (E 0).map (renV (rn tbl0 0))) (h1 : MemP (rn tbl0 0) L (H 0)) (ok0 : okSt b tbl0 (E 0) (H 0) = true) (ok : ∀ j, okSt b (tbl j) (E (j + 1)) (H (j + 1)) = true)
    (step : ∀ j, j < N → Rnd P b c (tbl j) keep (E j) n0 (H j) (E (j + 1)) (H (j + 1)))
    (keep' tbl' : List Nat) (hn' : tbl'.length = n1) (hx : x ≠ .normal) (ok' : okSt b tbl' e' M' = true)
    (last : Lst P b c tbl' keep' (E N) n0 (H N) x e' M') :
    Ex P b (.loop c) env n L (One x e' n1 M') := by
  have hb : b ≤ n0 := by
    simp only [okSt, Bool.and_eq_true] at ok0
    rw [← hn0]; exact Nat.le_of_ble_eq_true ok0.2
  have hb1 : b ≤ n1 := by
    simp only [okSt, Bool.and_eq_true] at ok'
    rw [← hn']; exact Nat.le_of_ble_eq_true ok'.2
  have main : Ex P b (.loop c) (E 0) n0 (H 0) (One x e' n1 M') := by
    refine Ex.loopT (fun k env L => ∃ j, j + k = N ∧ env = E j ∧ L = H j) hb ?_ ?_ N (E 0) (H 0) ⟨0, by omega, rfl, rfl⟩
    · rintro k env L ⟨j, hj, rfl, rfl⟩
      obtain ⟨ans, e, m, M, as, C, h2, h3, h4, h5⟩ := step j (by omega)
      refine (runC_ok hm _ _ _ _ ans _ _ _ _ as C h2 h3).mono ?_
      rintro x' e1 m' M1 ⟨rfl, rfl, rfl, rfl⟩
      exact .inl ⟨rfl, _, _, To.by keep (tbl j) (hn j) h4 h5 (ok j), j + 1, by omega, rfl, rfl⟩
    · rintro env L ⟨j, hj, rfl, rfl⟩
      obtain rfl : j = N := by omega
      obtain ⟨ans, e, m, M, as, C, h2, h3, h4, h5⟩ := last
      refine ((runC_ok hm _ _ _ _ ans _ _ _ _ as C h2 h3).to hb1 (To.by keep' tbl' hn' h4 h5 ok')).mono ?_
      rintro x' e1 m' M1 ⟨rfl, rfl, rfl, rfl⟩
      exact ⟨hx, rfl, rfl, rfl, rfl⟩
  intro φ a w k1 k2 k3 k4
  obtain ⟨φ2, g1, g2, g3, g4, g5⟩ := To.by keep tbl0 hn0 h0 h1 ok0 φ φ L w w a k1 k2 (Stp.refl _ _ _)
  refine wp_mono (main φ2 a w g1 g2 g3 hb) ?_
  rintro x' a' w' ⟨φ', e, m, M, hR, q1, q2, q3, q4, q5, q6⟩
  exact ⟨φ', e, m, M, hR, q1, q2, q3, q4, g4.trans q5, fun i hi => (q6 i hi).trans (g5 i hi)⟩

end Ab
end Go.Proofs.YtbokilgdefkmiaaGreatDoor
