/-
  The quick machine, part 13: a run's outcome whose opaque integers' low bits are left open.
-/
import Derived.Test.YtgbkllbaojkfmaaGreatDoorKq
set_option linter.unusedSimpArgs false
set_option linter.unusedVariables false
namespace Go.Proofs.YtgbkllbaojkfmaaGreatDoor
namespace Ab
open Go
set_option maxRecDepth 100000

abbrev Ob := List (Nat × Nat)
def Ob.hold : Ob → Prop
  | [] => True
  | (x, y) :: t => x = y ∧ Ob.hold t
theorem Ob.hold_app : ∀ {a b : Ob}, Ob.hold (a ++ b) → Ob.hold a ∧ Ob.hold b
  | [], _, h => ⟨trivial, h⟩
  | (x, y) :: t, b, h => ⟨⟨h.1, (Ob.hold_app h.2).1⟩, (Ob.hold_app h.2).2⟩
def joinO (a b : Option Ob) : Option Ob := match a with | some x => (match b with | some y => some (x ++ y) | none => none) | none => none
theorem joinO_some {a b : Option Ob} {l : Ob} (h : joinO a b = some l) : ∃ x y, a = some x ∧ b = some y ∧ l = x ++ y := by
  cases a with
  | none => cases h
  | some x => cases b with
    | none => cases h
    | some y => simp only [joinO, Option.some.injEq] at h; exact ⟨x, y, rfl, rfl, h.symm⟩
def ofB (b : Bool) : Option Ob := match b with | true => some [] | false => none
theorem ofB_some {b : Bool} {l : Ob} (h : ofB b = some l) : b = true := by cases b <;> first | rfl | cases h

def oKn (a b : Kn) : Option Ob :=
  match a, b with
  | ⟨l, h, x⟩, ⟨l', h', y⟩ =>
    match Nat.beq l l' && Nat.beq h h' with
    | true => (match x with | none => (match y with | none => some [] | some _ => none) | some (d, p) => (match y with | some (d', q) => (match Nat.beq d d' with | true => some [(p, q)] | false => none) | none => none))
    | false => none
theorem oKn_ok {a b : Kn} {l : Ob} (h : oKn a b = some l) (hl : Ob.hold l) : a = b := by
  obtain ⟨lo, hi, x⟩ := a
  obtain ⟨lo', hi', y⟩ := b
  simp only [oKn] at h
  split at h
  · rename_i hk
    simp only [Bool.and_eq_true] at hk
    rw [Nat.eq_of_beq_eq_true hk.1, Nat.eq_of_beq_eq_true hk.2]
    split at h
    · split at h
      · rfl
      · cases h
    · split at h
      · split at h
        · rename_i hd
          cases h; rw [hl.1, Nat.eq_of_beq_eq_true hd]
        · cases h
      · cases h
  · cases h
def oS (a b : S) : Option Ob :=
  match a with
  | .opq k t K =>
    match b with
    | .opq k' t' K' => (match kEq k k' && eqTm t t' with | true => oKn K K' | false => none)
    | _ => none
  | a => ofB (eqS a b)
theorem oS_ok {a b : S} {l : Ob} (h : oS a b = some l) (hl : Ob.hold l) : a = b := by
  unfold oS at h
  split at h
  · split at h
    · split at h
      · rename_i hk
        simp only [Bool.and_eq_true] at hk
        rw [kEq_ok hk.1, eqTm_ok hk.2, oKn_ok h hl]
      · cases h
    · cases h
  · exact eqS_ok (ofB_some h)
def oL : List S → List S → Option Ob
  | [], [] => some []
  | a :: s, b :: t => joinO (oS a b) (oL s t)
  | _, _ => none
theorem oL_ok : ∀ {a b : List S} {l : Ob}, oL a b = some l → Ob.hold l → a = b
  | [], [], _, _, _ => rfl
  | a :: s, b :: t, l, h, hl => by
    obtain ⟨x, y, h1, h2, rfl⟩ := joinO_some h
    obtain ⟨g1, g2⟩ := Ob.hold_app hl
    rw [oS_ok h1 g1, oL_ok h2 g2]
  | [], _ :: _, _, h, _ => by cases h
  | _ :: _, [], _, h, _ => by cases h
def oUs : List U → List U → Option Ob
  | [], [] => some []
  | a :: s, b :: t =>
    match a, b with
    | .s x, .s y => joinO (oS x y) (oUs s t)
    | .agg x, .agg y => joinO (oL x y) (oUs s t)
    | _, _ => none
  | _, _ => none
theorem oUs_ok : ∀ {a b : List U} {l : Ob}, oUs a b = some l → Ob.hold l → a = b
  | [], [], _, _, _ => rfl
  | a :: s, b :: t, l, h, hl => by
    cases a <;> cases b <;> simp only [oUs, reduceCtorEq] at h
    · obtain ⟨x, y, h1, h2, rfl⟩ := joinO_some h
      obtain ⟨g1, g2⟩ := Ob.hold_app hl
      rw [oS_ok h1 g1, oUs_ok h2 g2]
    · obtain ⟨x, y, h1, h2, rfl⟩ := joinO_some h
      obtain ⟨g1, g2⟩ := Ob.hold_app hl
      rw [oL_ok h1 g1, oUs_ok h2 g2]
  | [], _ :: _, _, h, _ => by cases h
  | _ :: _, [], _, h, _ => by cases h
def oV (a b : V) : Option Ob :=
  match a, b with
  | .s x, .s y => oS x y
  | .agg x, .agg y => oL x y
  | .tup x, .tup y => oUs x y
  | _, _ => none
theorem oV_ok {a b : V} {l : Ob} (h : oV a b = some l) (hl : Ob.hold l) : a = b := by
  unfold oV at h
  split at h
  · rw [oS_ok h hl]
  · rw [oL_ok h hl]
  · rw [oUs_ok h hl]
  · cases h
def oB (a b : Bl) : Option Ob :=
  match a, b with
  | ⟨c, t, m, r, s, f, g, k, x⟩, ⟨c', t', m', r', s', f', g', k', x'⟩ =>
    match Nat.beq t t' && (m == m') && (r == r') && (s == s') && (f == f') && eqP g g' && eqN x x' && eqM k k' with
    | true => oL c c'
    | false => none
theorem oB_ok {a b : Bl} {l : Ob} (h : oB a b = some l) (hl : Ob.hold l) : a = b := by
  obtain ⟨c, t, m, r, s, f, g, k, x⟩ := a
  obtain ⟨c', t', m', r', s', f', g', k', x'⟩ := b
  simp only [oB] at h
  split at h
  · rename_i e
    simp only [Bool.and_eq_true] at e
    obtain ⟨⟨⟨⟨⟨⟨⟨h2, h3⟩, h4⟩, h5⟩, h6⟩, h7⟩, h8⟩, h9⟩ := e
    rw [oL_ok h hl, Nat.eq_of_beq_eq_true h2, eq_of_beq h3, eq_of_beq h4, eq_of_beq h5, eq_of_beq h6, eqP_ok h7, eqN_ok h8, eqM_ok h9]
  · cases h
def oAll (h : T Bl) : Bs → Option Ob
  | [] => some []
  | (i, b) :: t => match h.get i with | some a => joinO (oB a b) (oAll h t) | none => none
theorem oAll_ok {h : T Bl} : ∀ {hs : Bs} {l : Ob}, oAll h hs = some l → Ob.hold l → ∀ i c, (i, c) ∈ toW hs → h.get i = c
  | (j, b) :: t, l, hh, hl, i, c, hm => by
    simp only [oAll] at hh
    split at hh
    · rename_i a ha
      obtain ⟨x, y, h1, h2, rfl⟩ := joinO_some hh
      obtain ⟨g1, g2⟩ := Ob.hold_app hl
      simp only [toW, List.mem_cons, Prod.mk.injEq] at hm
      rcases hm with ⟨rfl, rfl⟩ | hm
      · rw [ha, oB_ok h1 g1]
      · exact oAll_ok h2 g2 i c hm
    · cases hh
def chkO (r : KC) (v : V) (n' : Nat) (hs : Bs) : Option Ob := match r with | .ok v' m h => (match Nat.beq m n' with | true => joinO (oV v' v) (oAll h hs) | false => none) | .bad _ _ => none
theorem sub_toWO {hs : Bs} {h : T Bl} {L : Hp} (hv : HV L h) (ha : ∀ i c, (i, c) ∈ toW hs → h.get i = c) : Sub (puts [] (toW hs)) L := by
  intro i bl hi
  have hk : i ∈ keys (toW hs) := by
    by_cases hk : i ∈ keys (toW hs)
    · exact hk
    · rw [lk_puts_out _ _ _ hk] at hi; simp [lk] at hi
  obtain ⟨c, hc, he⟩ := lk_puts_mem (toW hs) [] i hk
  rw [he] at hi; subst hi
  rw [hv i]; exact ha i _ hc
theorem Memo.ofO {P : Program} {cl : Cl} (hcl : ClOK P cl) {M : Memo} {l : Ob} (h : chkO (cl M.f M.args M.n M.h) M.v M.n' M.hs = some l) (hl : Ob.hold l) : M.OK P := by
  intro L hv oh oe
  unfold chkO at h
  split at h
  · rename_i v' m h' hr
    split at h
    · rename_i h2
      obtain ⟨x, y, h1, h3, rfl⟩ := joinO_some h
      obtain ⟨g1, g2⟩ := Ob.hold_app hl
      have h1 := oV_ok h1 g1
      have h2 := Nat.eq_of_beq_eq_true h2
      subst h1; subst h2
      obtain ⟨L', k1, k2, k3, k4, k5⟩ := hcl _ _ _ _ _ _ _ hr L hv oh oe
      have hs := sub_toWO k1 (oAll_ok h3 g2)
      exact ⟨_, hv_tOf _, fun i bl hi => k2 i bl (hs i bl hi), k3, k4, k5.sub hs⟩
    · cases h
  · cases h

end Ab
end Go.Proofs.YtgbkllbaojkfmaaGreatDoor
