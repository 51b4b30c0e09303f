/-
  The frame, part 1: abstract values, abstract heaps, and what it means that a world fits them. No program in sight.
-/
import Derived.WalkKit
import Derived.Orders
set_option linter.unusedSimpArgs false
set_option linter.unusedVariables false
namespace Go.Proofs.YtbokilgdefkmiaaGreatDoor
namespace Ab
open Go

/-! ### lists, element by element -/
def All2 {α β : Type} (R : α → β → Prop) : List α → List β → Prop
  | [], [] => True
  | a :: as, b :: bs => R a b ∧ All2 R as bs
  | _, _ => False

section
variable {α β : Type} {R R' : α → β → Prop}
theorem All2.len : ∀ {as : List α} {bs : List β}, All2 R as bs → bs.length = as.length
  | [], [], _ => rfl
  | _ :: _, _ :: _, h => by simp [All2.len h.2]
  | [], _ :: _, h => h.elim
  | _ :: _, [], h => h.elim
theorem All2.mono (hr : ∀ a b, R a b → R' a b) : ∀ {as : List α} {bs : List β}, All2 R as bs → All2 R' as bs
  | [], [], _ => trivial
  | _ :: _, _ :: _, h => ⟨hr _ _ h.1, All2.mono hr h.2⟩
  | [], _ :: _, h => h.elim
  | _ :: _, [], h => h.elim
theorem All2.get : ∀ {as : List α} {bs : List β} {i : Nat} {a : α}, All2 R as bs → as[i]? = some a → ∃ b, bs[i]? = some b ∧ R a b
  | [], [], i, a, _, h => by simp at h
  | x :: _, y :: _, 0, a, h, he => ⟨y, rfl, by simp at he; exact he ▸ h.1⟩
  | _ :: _, _ :: _, i + 1, a, h, he => by simpa using All2.get h.2 (by simpa using he)
  | [], _ :: _, _, _, h, _ => h.elim
  | _ :: _, [], _, _, h, _ => h.elim
theorem All2.get' {as : List α} {bs : List β} {i : Nat} {b : β} (h : All2 R as bs) (hb : bs[i]? = some b) : ∃ a, as[i]? = some a ∧ R a b := by
  have hl := h.len
  have hi : i < bs.length := by
    rcases Nat.lt_or_ge i bs.length with h | h
    · exact h
    · simp [List.getElem?_eq_none h] at hb
  have ha : as[i]? = some (as[i]'(by omega)) := by simp
  obtain ⟨b', hb', hr⟩ := h.get ha
  rw [hb] at hb'; injection hb' with e
  exact ⟨_, ha, e ▸ hr⟩
theorem All2.set : ∀ {as : List α} {bs : List β} {i : Nat} {a : α} {b : β}, All2 R as bs → R a b → All2 R (as.set i a) (bs.set i b)
  | [], [], _, _, _, _, _ => by simp [All2]
  | _ :: _, _ :: _, 0, _, _, h, hr => by simp only [List.set_cons_zero]; exact ⟨hr, h.2⟩
  | _ :: _, _ :: _, i + 1, _, _, h, hr => by simp only [List.set_cons_succ]; exact ⟨h.1, All2.set h.2 hr⟩
  | [], _ :: _, _, _, _, h, _ => h.elim
  | _ :: _, [], _, _, _, h, _ => h.elim
theorem All2.append : ∀ {as : List α} {bs : List β} {cs : List α} {ds : List β}, All2 R as bs → All2 R cs ds → All2 R (as ++ cs) (bs ++ ds)
  | [], [], _, _, _, h => by simpa using h
  | _ :: _, _ :: _, _, _, h, h' => ⟨h.1, All2.append h.2 h'⟩
  | [], _ :: _, _, _, h, _ => h.elim
  | _ :: _, [], _, _, h, _ => h.elim
theorem All2.take : ∀ {as : List α} {bs : List β} (n : Nat), All2 R as bs → All2 R (as.take n) (bs.take n)
  | _, _, 0, _ => by simp [All2]
  | [], [], _ + 1, _ => by simp [All2]
  | _ :: _, _ :: _, n + 1, h => ⟨h.1, All2.take n h.2⟩
  | [], _ :: _, _ + 1, h => h.elim
  | _ :: _, [], _ + 1, h => h.elim
theorem All2.drop : ∀ {as : List α} {bs : List β} (n : Nat), All2 R as bs → All2 R (as.drop n) (bs.drop n)
  | _, _, 0, h => by simpa using h
  | [], [], _ + 1, _ => by simp [All2]
  | _ :: _, _ :: _, n + 1, h => by simpa using All2.drop n h.2
  | [], _ :: _, _ + 1, h => h.elim
  | _ :: _, [], _ + 1, h => h.elim
theorem All2.of_get : ∀ {as : List α} {bs : List β}, bs.length = as.length → (∀ (i : Nat) a b, as[i]? = some a → bs[i]? = some b → R a b) → All2 R as bs
  | [], [], _, _ => trivial
  | a :: as, b :: bs, hl, h => ⟨h 0 a b rfl rfl, All2.of_get (by simpa using hl) fun i x y hx hy => h (i + 1) x y (by simpa using hx) (by simpa using hy)⟩
  | [], _ :: _, hl, _ => by simp at hl
  | _ :: _, [], hl, _ => by simp at hl
theorem All2.map_left {γ : Type} {f : γ → α} : ∀ {cs : List γ} {bs : List β}, All2 (fun c b => R (f c) b) cs bs → All2 R (cs.map f) bs
  | [], [], _ => trivial
  | _ :: _, _ :: _, h => ⟨h.1, All2.map_left h.2⟩
  | [], _ :: _, h => h.elim
  | _ :: _, [], h => h.elim
end

/-! ### values -/
/-- which place a number stands for: a block, and the cell from which on its cells are read; or a capacity, and 0 -/
abbrev Ph := Nat → Option (Nat × Nat)
def Ph.le (φ φ' : Ph) : Prop := ∀ i b, φ i = some b → φ' i = some b
theorem Ph.le_refl (φ : Ph) : φ.le φ := fun _ _ h => h
theorem Ph.le_trans {a b c : Ph} (h : a.le b) (k : b.le c) : a.le c := fun i x hx => k i x (h i x hx)

/-- what one cell holds -/
inductive S where
  | unk
  | bool (b : Bool)
  | int (k : IntKind) (n : Int)
  | str (l : List UInt8)
  | ptr (a : Option (Nat × Nat))
  | slc (a : Option (Nat × Nat)) (len : Nat) (cap : Option Nat)
  /-- a slice from block i's begin on, of n elements; its capacity is what the number g stands for -/
  | sla (i g n : Nat)
  /-- a slice of no element and no room that is not nil -/
  | emp
  /-- nothing is known, not even that it is one cell -/
  | junk
  /-- a map: nil, or the one that the number stands for -/
  | map (a : Option Nat)
  /-- a function by its number, with nothing bound -/
  | fn (f : Nat)
  /-- a place in a block that is known itself -/
  | gp (g o : Nat)

inductive U where
  | s (x : S)
  | agg (l : List S)

/-- what a slot holds -/
inductive V where
  | any
  | undef
  | s (x : S)
  | agg (l : List S)
  | tup (l : List U)
  /-- a slice of m elements of sz cells, from the element k on, of the slice over block i with the capacity g -/
  | w (i g sz k m : Nat)

def isCell : Value → Bool
  | .agg _ => false
  | .tuple _ => false
  | _ => true

def Sr (φ : Ph) : S → Value → Prop
  | .unk, v => isCell v = true
  | .bool b, v => v = .bool b
  | .int k n, v => v = .int k n
  | .str l, v => v = .string ⟨l.toArray⟩
  | .ptr none, v => v = .pointer none
  | .ptr (some (i, o)), v => ∃ b, φ i = some b ∧ v = .pointer (some ⟨b.1, o + b.2, none⟩)
  | .slc none n c, v => n = 0 ∧ c = some 0 ∧ v = .slice none 0 0
  | .slc (some (i, o)) n c, v => ∃ b k, φ i = some b ∧ v = .slice (some ⟨b.1, o + b.2, none⟩) n k ∧ n ≤ k ∧ (c = none ∨ c = some k)
  | .sla i g n, v => ∃ b k, φ i = some b ∧ φ g = some (k, 0) ∧ v = .slice (some ⟨b.1, b.2, none⟩) n k ∧ n ≤ k
  | .emp, v => ∃ a, v = .slice (some a) 0 0
  | .junk, _ => True
  | .map none, v => v = .map none
  | .map (some i), v => ∃ b, φ i = some b ∧ b.2 = 0 ∧ v = .map (some b.1)
  | .fn f, v => v = .func (.func f) #[] #[]
  | .gp g o, v => v = .pointer (some ⟨g, o, none⟩)

def isJ : S → Bool
  | .junk => true
  | _ => false

theorem Sr.cell {φ : Ph} {x : S} {v : Value} (h : Sr φ x v) (hj : isJ x = false) : isCell v = true := by
  cases x with
  | junk => cases hj
  | emp => obtain ⟨a, h⟩ := h; subst h; rfl
  | map a =>
    rcases a with _ | i
    · simp only [Sr] at h; subst h; rfl
    · obtain ⟨b, _, _, h⟩ := h; subst h; rfl
  | fn f => simp only [Sr] at h; subst h; rfl
  | gp g o => simp only [Sr] at h; subst h; rfl
  | sla i g n => obtain ⟨b, k, _, _, h, _⟩ := h; subst h; rfl
  | unk => exact h
  | bool b => simp [Sr] at h; subst h; rfl
  | int k n => simp [Sr] at h; subst h; rfl
  | str l => simp [Sr] at h; subst h; rfl
  | ptr a =>
    rcases a with _ | ⟨i, o⟩
    · simp only [Sr] at h; subst h; rfl
    · obtain ⟨b, _, h⟩ := h; subst h; rfl
  | slc a n c =>
    rcases a with _ | ⟨i, o⟩
    · obtain ⟨_, _, h⟩ := h; subst h; rfl
    · obtain ⟨b, k, _, h, _⟩ := h; subst h; rfl

theorem Sr.mono {φ φ' : Ph} (hl : φ.le φ') {x : S} {v : Value} (h : Sr φ x v) : Sr φ' x v := by
  cases x with
  | unk | bool | int | str | junk | emp | fn | gp => exact h
  | sla i g n => obtain ⟨b, k, hb, hg, hv⟩ := h; exact ⟨b, k, hl _ _ hb, hl _ _ hg, hv⟩
  | map a =>
    rcases a with _ | i
    · exact h
    · obtain ⟨b, hb, hv⟩ := h; exact ⟨b, hl _ _ hb, hv⟩
  | ptr a =>
    rcases a with _ | ⟨i, o⟩
    · exact h
    · obtain ⟨b, hb, hv⟩ := h; exact ⟨b, hl _ _ hb, hv⟩
  | slc a n c =>
    rcases a with _ | ⟨i, o⟩
    · exact h
    · obtain ⟨b, k, hb, hv⟩ := h; exact ⟨b, k, hl _ _ hb, hv⟩

def Ur (φ : Ph) : U → Value → Prop
  | .s x, v => Sr φ x v
  | .agg l, v => ∃ xs : List Value, v = .agg xs.toArray ∧ All2 (Sr φ) l xs

def Vr (φ : Ph) : V → Value → Prop
  | .any, _ => True
  | .undef, v => v = Go.undef
  | .s x, v => Sr φ x v
  | .agg l, v => ∃ xs : List Value, v = .agg xs.toArray ∧ All2 (Sr φ) l xs
  | .tup l, v => ∃ xs : List Value, v = .tuple xs.toArray ∧ All2 (Ur φ) l xs
  | .w i g sz k m, v => ∃ b c, φ i = some b ∧ φ g = some (c, 0) ∧ v = .slice (some ⟨b.1, if c = k then b.2 else b.2 + k * sz, none⟩) m (c - k) ∧ k + m ≤ c

theorem Ur.mono {φ φ' : Ph} (hl : φ.le φ') {x : U} {v : Value} (h : Ur φ x v) : Ur φ' x v := by
  cases x with
  | s x => exact Sr.mono hl h
  | agg l => obtain ⟨xs, hv, ha⟩ := h; exact ⟨xs, hv, ha.mono fun _ _ => Sr.mono hl⟩
theorem Vr.mono {φ φ' : Ph} (hl : φ.le φ') {x : V} {v : Value} (h : Vr φ x v) : Vr φ' x v := by
  cases x with
  | any => trivial
  | undef => exact h
  | s x => exact Sr.mono hl h
  | agg l => obtain ⟨xs, hv, ha⟩ := h; exact ⟨xs, hv, ha.mono fun _ _ => Sr.mono hl⟩
  | tup l => obtain ⟨xs, hv, ha⟩ := h; exact ⟨xs, hv, ha.mono fun _ _ => Ur.mono hl⟩
  | w i g sz k m => obtain ⟨b, c, hb, hg, hv⟩ := h; exact ⟨b, c, hl _ _ hb, hl _ _ hg, hv⟩

/-! ### blocks -/
/-- what is known of a map beside its keys and values: the values' width in cells, whether they are aggregates, when each entry was born, the clock -/
structure MapK where
  w : Nat
  agg : Bool
  born : List Nat
  clock : Nat
def ents (agg : Bool) (w : Nat) : List Nat → List Value → List MapEntry
  | b :: bs, k :: t => { key := k, val := (match agg with | true => .agg (t.take w).toArray | false => (t.take w).headD default), born := b } :: ents agg w bs (t.drop w)
  | _, _ => []
/-- the object that a block's cells are laid in -/
def objOf : Option MapK → List Value → TypeId → Nat × Nat → Obj
  | none, l, ty, fr => .cells l.toArray ty fr
  | some m, l, _, _ => .map (ents m.agg m.w m.born l).toArray m.clock
structure Bl where
  cells : List S
  ty : TypeId
  more : Bool := false
  ro : Bool := false
  sym : Bool := false
  flat : Bool := false
  gh : Option (Nat × Nat) := none
  kind : Option MapK := none
  /-- the block itself, where it is known: a package variable's -/
  abs : Option Nat := none
/-- the numbering under which a block's cells are read: a flat block's cells hold no address -/
def Bl.ph (bl : Bl) (φ : Ph) : Ph := match bl.flat with | true => fun _ => none | false => φ
theorem Bl.ph_le (bl : Bl) {φ φ' : Ph} (h : φ.le φ') : (bl.ph φ).le (bl.ph φ') := by
  unfold Bl.ph; cases bl.flat
  · exact h
  · exact Ph.le_refl _
theorem Bl.ph_le_self (bl : Bl) (φ : Ph) : (bl.ph φ).le φ := by
  unfold Bl.ph; cases bl.flat
  · exact Ph.le_refl _
  · intro i b h; cases h

/-- The cells of block b.1, from b.2 on, read as bl. -/
def BlAt (φ : Ph) (w : World) (b : Nat × Nat) (bl : Bl) : Prop :=
  ∃ (pre xs rest : List Value) (fr : Nat × Nat), w.heap[b.1]? = some (objOf bl.kind (pre ++ (xs ++ rest)) bl.ty fr) ∧ pre.length = b.2 ∧ All2 (Sr (bl.ph φ)) bl.cells xs ∧
    (bl.more = false → rest = []) ∧ (bl.ro = false → ∀ o, o < (pre ++ (xs ++ rest)).length → (fr.1 ≤ o && o < fr.2) = false) ∧
    ((∀ g z, bl.gh = some (g, z) → ∃ k, φ g = some (k, 0) ∧ k * z ≤ (xs ++ rest).length) ∧ (∀ g, bl.abs = some g → b = (g, 0)))

theorem BlAt.mono {φ φ' : Ph} (hl : φ.le φ') {w w' : World} {b : Nat × Nat} {bl : Bl} (hw : w'.heap[b.1]? = w.heap[b.1]?) (h : BlAt φ w b bl) : BlAt φ' w' b bl := by
  obtain ⟨pre, xs, rest, fr, h1, hp, h2, h3, h4, h5⟩ := h
  exact ⟨pre, xs, rest, fr, hw ▸ h1, hp, h2.mono fun _ _ => Sr.mono (bl.ph_le hl), h3, h4, fun g z e => by obtain ⟨k, hk, hz⟩ := h5.1 g z e; exact ⟨k, hl _ _ hk, hz⟩, h5.2⟩
theorem BlAt.lt {φ : Ph} {w : World} {b : Nat × Nat} {bl : Bl} (h : BlAt φ w b bl) : b.1 < w.heap.size := by
  obtain ⟨pre, xs, rest, fr, h1, _⟩ := h
  rcases Nat.lt_or_ge b.1 w.heap.size with h | h
  · exact h
  · simp [Array.getElem?_eq_none h] at h1

abbrev Hp := List (Nat × Option Bl)
def lk : Hp → Nat → Option Bl
  | [], _ => none
  | (j, b) :: t, i => match Nat.beq j i with | true => b | false => lk t i
def put : Hp → Nat → Option Bl → Hp
  | [], i, b => [(i, b)]
  | (j, c) :: t, i, b => match Nat.beq j i with | true => (j, b) :: t | false => (j, c) :: put t i b
def puts : Hp → Hp → Hp
  | L, [] => L
  | L, (i, b) :: r => puts (put L i b) r

theorem beq_no {j i : Nat} (h : ¬ j = i) : Nat.beq j i = false := by
  cases e : Nat.beq j i with
  | false => rfl
  | true => exact absurd (Nat.eq_of_beq_eq_true e) h
theorem lk_cons (j : Nat) (b : Option Bl) (t : Hp) (i : Nat) : lk ((j, b) :: t) i = if j = i then b else lk t i := by
  simp only [lk]
  by_cases h : j = i
  · simp [h]
  · simp [h, beq_no h]
theorem lk_put (L : Hp) (i : Nat) (b : Option Bl) (j : Nat) : lk (put L i b) j = if i = j then b else lk L j := by
  induction L with
  | nil => simp [put, lk_cons, lk]
  | cons x t ih =>
    obtain ⟨k, c⟩ := x
    simp only [put]
    by_cases h : k = i
    · subst h
      simp only [Nat.beq_refl, lk_cons]
      split <;> rfl
    · have hb : Nat.beq k i = false := beq_no h
      simp only [hb, lk_cons, ih]
      by_cases h' : k = j
      · subst h'; simp [Ne.symm h]
      · simp [h']

/-- all that is known of memory fits the world -/
structure Good (φ : Ph) (L : Hp) (w : World) : Prop where
  hr : ∀ i bl, lk L i = some bl → ∃ b, φ i = some b ∧ BlAt φ w b bl
  inj : ∀ i j bl bl' b b', lk L i = some bl → lk L j = some bl' → φ i = some b → φ j = some b' → b.1 = b'.1 → i = j ∨ (bl.ro = true ∧ bl'.ro = true)

/-- may the block b be written by whoever knows L? -/
def Wr (φ : Ph) (L : Hp) (b : Nat) : Prop := ∃ i bl c, lk L i = some bl ∧ φ i = some c ∧ c.1 = b ∧ bl.ro = false

structure Stp (φ : Ph) (L : Hp) (w : World) (φ' : Ph) (L' : Hp) (w' : World) : Prop where
  os : w'.os = w.os
  tape : w'.tape = w.tape
  output : w'.output = w.output
  size : w.heap.size ≤ w'.heap.size
  keep : ∀ b, b < w.heap.size → ¬ Wr φ L b → w'.heap[b]? = w.heap[b]?
  fresh : ∀ j bl b, lk L' j = some bl → φ' j = some b → b.1 < w.heap.size → ∃ k bl' c, lk L k = some bl' ∧ φ k = some c ∧ c.1 = b.1 ∧ (bl'.ro = true → bl.ro = true) ∧ (k = j ∨ bl'.ro = false)

theorem Stp.refl (φ : Ph) (L : Hp) (w : World) : Stp φ L w φ L w :=
  ⟨rfl, rfl, rfl, Nat.le_refl _, fun _ _ _ => rfl, fun j bl b h hb _ => ⟨j, bl, b, h, hb, rfl, id, .inl rfl⟩⟩

theorem Stp.trans {φ φ₁ φ₂ : Ph} {L L₁ L₂ : Hp} {w w₁ w₂ : World} (h : Stp φ L w φ₁ L₁ w₁) (k : Stp φ₁ L₁ w₁ φ₂ L₂ w₂) : Stp φ L w φ₂ L₂ w₂ where
  os := k.os.trans h.os
  tape := k.tape.trans h.tape
  output := k.output.trans h.output
  size := Nat.le_trans h.size k.size
  keep b hb hn := by
    rw [k.keep b (Nat.lt_of_lt_of_le hb h.size) ?_, h.keep b hb hn]
    rintro ⟨i, bl, c, hi, hp, rfl, hro⟩
    obtain ⟨j, bl', c', hj, hpj, hc, hr, _⟩ := h.fresh i bl c hi hp hb
    exact hn ⟨j, bl', c', hj, hpj, hc, by cases e : bl'.ro with | false => rfl | true => rw [hr e] at hro; exact hro⟩
  fresh j bl b hj hp hb := by
    obtain ⟨i, bl', c, hi, hpi, hc, hr, ho⟩ := k.fresh j bl b hj hp (Nat.lt_of_lt_of_le hb h.size)
    obtain ⟨i', bl'', c', hi', hpi', hc', hr', ho'⟩ := h.fresh i bl' c hi hpi (by rw [hc]; exact hb)
    refine ⟨i', bl'', c', hi', hpi', hc'.trans hc, fun e => hr (hr' e), ?_⟩
    rcases ho' with rfl | ho'
    · rcases ho with rfl | ho
      · exact .inl rfl
      · refine .inr ?_
        cases e : bl''.ro with
        | false => rfl
        | true => rw [hr' e] at ho; cases ho
    · exact .inr ho'

/-- forgetting is always sound -/
def Sub (L M : Hp) : Prop := ∀ i bl, lk L i = some bl → lk M i = some bl
theorem Sub.refl (L : Hp) : Sub L L := fun _ _ h => h
theorem Good.sub {φ : Ph} {L M : Hp} {w : World} (h : Good φ M w) (hs : Sub L M) : Good φ L w :=
  ⟨fun i bl hi => h.hr i bl (hs i bl hi), fun i j bl bl' b b' hi hj => h.inj i j bl bl' b b' (hs i bl hi) (hs j bl' hj)⟩

/-- What is known beside L is known behind a step from L to L', too: the frame rule. 'M'' is M, but as L' says where L or L' speak. -/
theorem frame {φ φ' : Ph} {L L' M M' : Hp} {w w' : World} (hM : Good φ M w) (hs : Sub L M) (h' : Good φ' L' w') (st : Stp φ L w φ' L' w') (hl : φ.le φ')
    (hM' : ∀ i bl, lk M' i = some bl → lk L' i = some bl ∨ (lk L i = none ∧ lk M i = some bl)) : Good φ' M' w' ∧ Stp φ M w φ' M' w' := by
  have out : ∀ i bl, lk L i = none → lk M i = some bl → ∃ b, φ i = some b ∧ b.1 < w.heap.size ∧ ¬ Wr φ L b.1 ∧ BlAt φ w b bl := by
    intro i bl hn hm
    obtain ⟨b, hb, hat⟩ := hM.hr i bl hm
    refine ⟨b, hb, hat.lt, ?_, hat⟩
    rintro ⟨j, bl', c, hj, hpj, hc, hro⟩
    rcases hM.inj i j bl bl' b c hm (hs j bl' hj) hb hpj hc.symm with rfl | ⟨_, e⟩
    · rw [hn] at hj; cases hj
    · rw [e] at hro; cases hro
  have cross : ∀ i j bl bl' b b', lk L i = none → lk M i = some bl → φ i = some b → lk L' j = some bl' → φ' j = some b' → b.1 = b'.1 → bl.ro = true ∧ bl'.ro = true := by
    intro i j bl bl' b b' hn hm hb hj hpj hbb
    obtain ⟨b₀, hb₀, hlt, hnw, _⟩ := out i bl hn hm
    rw [hb] at hb₀; cases hb₀
    obtain ⟨k, bk, c, hk, hpk, hc, hr, _⟩ := st.fresh j bl' b' hj hpj (hbb ▸ hlt)
    rcases hM.inj i k bl bk b c hm (hs k bk hk) hb hpk (hbb.trans hc.symm) with rfl | ⟨e1, e2⟩
    · rw [hn] at hk; cases hk
    · exact ⟨e1, hr e2⟩
  refine ⟨⟨fun i bl hi => ?_, fun i j bl bl' b b' hi hj hb hb' hbb => ?_⟩, ⟨st.os, st.tape, st.output, st.size, fun b hb hn => ?_, fun j bl b hj hp hb => ?_⟩⟩
  · rcases hM' i bl hi with h | ⟨hn, hm⟩
    · exact h'.hr i bl h
    · obtain ⟨b, hb, hlt, hnw, hat⟩ := out i bl hn hm
      exact ⟨b, hl _ _ hb, hat.mono hl (st.keep b.1 hlt hnw)⟩
  · rcases hM' i bl hi with h | ⟨hn, hm⟩ <;> rcases hM' j bl' hj with k | ⟨kn, km⟩
    · exact h'.inj i j bl bl' b b' h k hb hb' hbb
    · obtain ⟨b₂, hb₂, _⟩ := out j bl' kn km
      have e := hl _ _ hb₂; rw [hb'] at e; cases e
      exact .inr (cross j i bl' bl b' b kn km hb₂ h hb hbb.symm).symm
    · obtain ⟨b₁, hb₁, _⟩ := out i bl hn hm
      have e := hl _ _ hb₁; rw [hb] at e; cases e
      exact .inr (cross i j bl bl' b b' hn hm hb₁ k hb' hbb)
    · obtain ⟨b₁, hb₁, _⟩ := out i bl hn hm
      obtain ⟨b₂, hb₂, _⟩ := out j bl' kn km
      have e := hl _ _ hb₁; rw [hb] at e; cases e
      have e := hl _ _ hb₂; rw [hb'] at e; cases e
      exact hM.inj i j bl bl' b b' hm km hb₁ hb₂ hbb
  · refine st.keep b hb fun ⟨i, bl, c, hi, hp, hc, hro⟩ => hn ⟨i, bl, c, hs i bl hi, hp, hc, hro⟩
  · rcases hM' j bl hj with h | ⟨hn, hm⟩
    · obtain ⟨k, bk, c, hk, hpk, hc, hr⟩ := st.fresh j bl b h hp hb
      exact ⟨k, bk, c, hs k bk hk, hpk, hc, hr⟩
    · obtain ⟨b₁, hb₁, _⟩ := out j bl hn hm
      have e := hl _ _ hb₁; rw [hp] at e; cases e
      exact ⟨j, bl, b, hm, hb₁, rfl, id, .inl rfl⟩

end Ab
end Go.Proofs.YtbokilgdefkmiaaGreatDoor
