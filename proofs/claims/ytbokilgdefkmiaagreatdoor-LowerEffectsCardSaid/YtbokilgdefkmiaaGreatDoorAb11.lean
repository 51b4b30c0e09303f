/-
  The frame, part 11: sparse states, counted loops, what is handed back.
-/
import Derived.Test.YtbokilgdefkmiaaGreatDoorAb10
set_option linter.unusedSimpArgs false
set_option linter.unusedVariables false
namespace Go.Proofs.YtbokilgdefkmiaaGreatDoor
namespace Ab
open Go

/-! ### sparse states -/
def spG : List (Nat × V) → Nat → V
  | [], _ => .any
  | (j, v) :: t, i => match Nat.beq j i with | true => v | false => spG t i
def spF (l : List (Nat × V)) : Nat → Nat → List V
  | _, 0 => []
  | i, n + 1 => spG l i :: spF l (i + 1) n
def sp (n : Nat) (l : List (Nat × V)) : List V := spF l 0 n

def keepH (ks : List Nat) : Hp → Hp
  | [] => []
  | (i, b) :: t => match ks.elem i with | true => (i, b) :: keepH ks t | false => keepH ks t
theorem keepH_sub (ks : List Nat) : ∀ L : Hp, Sub (keepH ks L) L
  | [], i, bl, h => h
  | (j, b) :: t, i, bl, h => by
    simp only [keepH] at h
    rw [lk_cons]
    split at h
    · rw [lk_cons] at h
      split
      · rename_i e; rw [if_pos e] at h; exact h
      · rename_i e; rw [if_neg e] at h; exact keepH_sub ks t i bl h
    · rename_i hk
      have h' := keepH_sub ks t i bl h
      split
      · rename_i e; subst e
        exfalso
        have : ∀ t : Hp, lk (keepH ks t) j = none := by
          intro t
          induction t with
          | nil => rfl
          | cons x t ih =>
            obtain ⟨a, c⟩ := x
            simp only [keepH]
            split
            · rename_i ha
              rw [lk_cons, if_neg (by intro e; subst e; rw [ha] at hk; cases hk)]; exact ih
            · exact ih
        rw [this] at h; cases h
      · exact h'

theorem Wk.by {n : Nat} {env : List V} {L : Hp} {env' : List V} {L' : Hp} (keep ks : List Nat) (he : wkE keep 0 env = env') (hl : keepH ks L = L') (o1 : env'.all (okV n) = true) (o2 : okH n L' = true) : Wk n env L env' L' :=
  Wk.of keep he (hl ▸ keepH_sub ks L) o1 o2

theorem Ex.post {P : Program} {b : Nat} {c : Code} {env : List V} {n : Nat} {L : Hp} {R R' : Post} (h : Ex P b c env n L R)
    (hr : ∀ x e m M, R x e m M → ∃ e' m' M', b ≤ m' ∧ Wk m' e M e' M' ∧ R' x e' m' M') : Ex P b c env n L R' := by
  intro φ a w h1 h2 h3 h4
  refine wp_mono (h φ a w h1 h2 h3 h4) ?_
  rintro x a' w' ⟨φ', e, m, M, hR, k1, k2, k3, k4, k5, k6⟩
  obtain ⟨e', m', M', hb, hwk, hR'⟩ := hr x e m M hR
  obtain ⟨g1, g2, g3, g4, g5⟩ := hwk.use k1 k2 k5
  exact ⟨_, e', m', M', hR', g1, g2, g3, hb, g4, fun i hi => (g5 i (by omega)).trans (k6 i hi)⟩

/-- a loop of N rounds; the states are given for each number of rounds done -/
theorem Ex.count {P : Program} {b : Nat} {c : Code} {n : Nat} (N : Nat) (E : Nat → List V) (H : Nat → Hp) {x : Exit} {e' : List V} {M' : Hp} (hb : b ≤ n)
    (step : ∀ j, j < N → ∃ e m M, Ex P b c (E j) n (H j) (One .normal e m M) ∧ Wk n e M (E (j + 1)) (H (j + 1)))
    (last : x ≠ .normal ∧ ∃ e m M, Ex P b c (E N) n (H N) (One x e m M) ∧ Wk n e M e' M') :
    Ex P b (.loop c) (E 0) n (H 0) (One x e' n M') := by
  refine Ex.loop (fun k env L => ∃ j, j + k = N ∧ env = E j ∧ L = H j) hb ?_ ?_ N (E 0) (H 0) ⟨0, by omega, rfl, rfl⟩
  · rintro k env L ⟨j, hj, rfl, rfl⟩
    obtain ⟨e, m, M, hx, hw⟩ := step j (by omega)
    refine hx.mono ?_
    rintro x' e' m' M' ⟨rfl, rfl, rfl, rfl⟩
    exact .inl ⟨rfl, _, _, hw, j + 1, by omega, rfl, rfl⟩
  · rintro env L ⟨j, hj, rfl, rfl⟩
    obtain rfl : j = N := by omega
    obtain ⟨hne, e, m, M, hx, hw⟩ := last
    refine hx.post ?_
    rintro x' e1 m1 M1 ⟨rfl, rfl, rfl, rfl⟩
    exact ⟨e', n, M', hb, hw, hne, rfl, rfl, rfl, rfl⟩

/-- a loop of N rounds, each one run; keep, ks: the slots and blocks that live on from round to round -/
theorem Ex.turns {P : Program} (hm : P.follows .mixedOrders = true) {b : Nat} {c : Code} {env : List V} {n : Nat} {L : Hp} {n0 : Nat} {x : Exit} {e' : List V} {M' : Hp} (keep ks : List Nat) (N : Nat) (E : Nat → List V) (H : Nat → Hp) (hb : b ≤ n0)
    (h0 : wkE keep 0 env = E 0) (h1 : keepH ks L = H 0) (ok : ∀ j, (E j).all (okV n0) = true ∧ okH n0 (H j) = true)
    (step : ∀ j, j < N → ∃ ans e m M as C, runC P b c (E j) n0 (H j) ans = some (.normal, e, m, M, as, C) ∧ C ∧ wkE keep 0 e = E (j + 1) ∧ keepH ks M = H (j + 1))
    (keep' ks' : List Nat) (hx : x ≠ .normal) (ok' : e'.all (okV n0) = true ∧ okH n0 M' = true)
    (last : ∃ ans e m M as C, runC P b c (E N) n0 (H N) ans = some (x, e, m, M, as, C) ∧ C ∧ wkE keep' 0 e = e' ∧ keepH ks' M = M') :
    Ex P b (.loop c) env n L (One x e' n0 M') := by
  refine Ex.wk hb (Wk.by keep ks h0 h1 (ok 0).1 (ok 0).2) (Ex.count N E H hb ?_ ?_)
  · intro j hj
    obtain ⟨ans, e, m, M, as, C, h2, h3, h4, h5⟩ := step j hj
    exact ⟨e, m, M, runC_ok hm _ _ _ _ ans _ _ _ _ as C h2 h3, Wk.by keep ks h4 h5 (ok (j + 1)).1 (ok (j + 1)).2⟩
  · obtain ⟨ans, e, m, M, as, C, h2, h3, h4, h5⟩ := last
    exact ⟨hx, e, m, M, runC_ok hm _ _ _ _ ans _ _ _ _ as C h2 h3, Wk.by keep' ks' h4 h5 ok'.1 ok'.2⟩

/-! ### what is handed back -/
def MemP (r : Nat → Nat) (M : Hp) : Hp → Prop
  | [] => True
  | (_, none) :: t => MemP r M t
  | (i, some bl) :: t => lk M (r i) = some (renB r bl) ∧ MemP r M t
theorem MemP.at {r : Nat → Nat} {M : Hp} : ∀ {L : Hp}, MemP r M L → ∀ i bl, (i, some bl) ∈ L → lk M (r i) = some (renB r bl)
  | (j, c) :: t, h, i, bl, hm => by
    cases hm with
    | head => exact h.1
    | tail _ hm =>
      cases c with
      | none => exact MemP.at (L := t) h i bl hm
      | some c => exact MemP.at (L := t) h.2 i bl hm

theorem EndOK.by {P : Program} {fn : Func} {n : Nat} {v : V} {n' : Nat} {L' : Hp} {new : List Nat} {env : List V} {M : Hp} (h1 : resV P fn env M = some (renV (rn (List.range n ++ new) 0) v))
    (h2 : MemP (rn (List.range n ++ new) 0) M L') (h3 : okV n' v = true) (h4 : okH n' L' = true) (h5 : n' = n + new.length) (h6 : nodupB (List.range n ++ new) = true) : EndOK P fn n v n' L' new env M := by
  refine .nodup h1 (fun i bl h => h2.at i bl (lk_mem h)) h3 h4 h5 ?_
  have : ∀ l : List Nat, nodupB l = true → l.Nodup := by
    intro l
    induction l with
    | nil => intro _; exact .nil
    | cons x t ih =>
      intro h
      simp only [nodupB, Bool.and_eq_true, Bool.not_eq_true'] at h
      refine List.nodup_cons.2 ⟨fun hm => ?_, ih h.2⟩
      rw [List.elem_eq_true_of_mem hm] at h; cases h.1
  exact this _ h6

/-- an end where numbers that were handed in may get new names -/
def injB (r : Nat → Nat) (L' : Hp) : Bool := L'.all fun x => L'.all fun y => match x.2, y.2 with | some _, some _ => Nat.beq x.1 y.1 || !Nat.beq (r x.1) (r y.1) | _, _ => true
def mvB (n : Nat) (r : Nat → Nat) (L' : Hp) : Bool := L'.all fun x => match x.2 with | some bl => Nat.blt x.1 n || !Nat.blt (r x.1) n || !bl.ro | none => true
theorem EndOK.move {P : Program} {fn : Func} {n : Nat} {v : V} {n' : Nat} {L' : Hp} {new : List Nat} {env : List V} {M : Hp} (h1 : resV P fn env M = some (renV (rn (List.range n ++ new) 0) v))
    (h2 : MemP (rn (List.range n ++ new) 0) M L') (h3 : okV n' v = true) (h4 : okH n' L' = true) (h5 : n' = n + new.length) (h6 : injB (rn (List.range n ++ new) 0) L' = true) (h7 : mvB n (rn (List.range n ++ new) 0) L' = true) : EndOK P fn n v n' L' new env M := by
  refine ⟨h1, fun i bl h => h2.at i bl (lk_mem h), h3, h4, h5, fun i j bl bl' hi hj e => ?_, fun j bl hj hjn hlt => ?_⟩
  · have g := List.all_eq_true.1 (List.all_eq_true.1 h6 _ (lk_mem hi)) _ (lk_mem hj)
    simp only [Bool.or_eq_true, Bool.not_eq_true'] at g
    rcases g with g | g
    · exact Nat.eq_of_beq_eq_true g
    · rw [e, Nat.beq_refl] at g; cases g
  · have g := List.all_eq_true.1 h7 _ (lk_mem hj)
    simp only [Bool.or_eq_true, Bool.not_eq_true'] at g
    rcases g with (g | g) | g
    · have := blt_iff.1 g; omega
    · rw [blt_iff.2 hlt] at g; cases g
    · exact g

end Ab
end Go.Proofs.YtbokilgdefkmiaaGreatDoor
