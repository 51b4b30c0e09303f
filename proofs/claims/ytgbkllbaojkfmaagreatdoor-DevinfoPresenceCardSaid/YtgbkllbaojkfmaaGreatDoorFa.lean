import Derived.WalkKit
import Derived.Orders
import Derived.LoopN
/-
  The frame, part 1: abstract values, abstract heaps, and what it means that a world fits them. No program in sight.
-/
set_option linter.unusedSimpArgs false
set_option linter.unusedVariables false
namespace Go.Proofs.YtgbkllbaojkfmaaGreatDoor
namespace Ab
open Go

/-! ### lists, element by element -/
def All2 {α β : Type} (R : α → β → Prop) : List α → List β → Prop
  | [], [] => True
  | a :: as, b :: bs => R a b ∧ All2 R as bs
  | _, _ => False

section
variable {α β : Type} {R R' : α → β → Prop}
theorem All2.len : ∀ {as : List α} {bs : List β}, All2 R as bs → bs.length = as.length
  | [], [], _ => rfl
  | _ :: _, _ :: _, h => by simp [All2.len h.2]
  | [], _ :: _, h => h.elim
  | _ :: _, [], h => h.elim
theorem All2.mono (hr : ∀ a b, R a b → R' a b) : ∀ {as : List α} {bs : List β}, All2 R as bs → All2 R' as bs
  | [], [], _ => trivial
  | _ :: _, _ :: _, h => ⟨hr _ _ h.1, All2.mono hr h.2⟩
  | [], _ :: _, h => h.elim
  | _ :: _, [], h => h.elim
theorem All2.get : ∀ {as : List α} {bs : List β} {i : Nat} {a : α}, All2 R as bs → as[i]? = some a → ∃ b, bs[i]? = some b ∧ R a b
  | [], [], i, a, _, h => by simp at h
  | x :: _, y :: _, 0, a, h, he => ⟨y, rfl, by simp at he; exact he ▸ h.1⟩
  | _ :: _, _ :: _, i + 1, a, h, he => by simpa using All2.get h.2 (by simpa using he)
  | [], _ :: _, _, _, h, _ => h.elim
  | _ :: _, [], _, _, h, _ => h.elim
theorem All2.get' {as : List α} {bs : List β} {i : Nat} {b : β} (h : All2 R as bs) (hb : bs[i]? = some b) : ∃ a, as[i]? = some a ∧ R a b := by
  have hl := h.len
  have hi : i < bs.length := by
    rcases Nat.lt_or_ge i bs.length with h | h
    · exact h
    · simp [List.getElem?_eq_none h] at hb
  have ha : as[i]? = some (as[i]'(by omega)) := by simp
  obtain ⟨b', hb', hr⟩ := h.get ha
  rw [hb] at hb'; injection hb' with e
  exact ⟨_, ha, e ▸ hr⟩
theorem All2.set : ∀ {as : List α} {bs : List β} {i : Nat} {a : α} {b : β}, All2 R as bs → R a b → All2 R (as.set i a) (bs.set i b)
  | [], [], _, _, _, _, _ => by simp [All2]
  | _ :: _, _ :: _, 0, _, _, h, hr => by simp only [List.set_cons_zero]; exact ⟨hr, h.2⟩
  | _ :: _, _ :: _, i + 1, _, _, h, hr => by simp only [List.set_cons_succ]; exact ⟨h.1, All2.set h.2 hr⟩
  | [], _ :: _, _, _, _, h, _ => h.elim
  | _ :: _, [], _, _, _, h, _ => h.elim
theorem All2.append : ∀ {as : List α} {bs : List β} {cs : List α} {ds : List β}, All2 R as bs → All2 R cs ds → All2 R (as ++ cs) (bs ++ ds)
  | [], [], _, _, _, h => by simpa using h
  | _ :: _, _ :: _, _, _, h, h' => ⟨h.1, All2.append h.2 h'⟩
  | [], _ :: _, _, _, h, _ => h.elim
  | _ :: _, [], _, _, h, _ => h.elim
theorem All2.take : ∀ {as : List α} {bs : List β} (n : Nat), All2 R as bs → All2 R (as.take n) (bs.take n)
  | _, _, 0, _ => by simp [All2]
  | [], [], _ + 1, _ => by simp [All2]
  | _ :: _, _ :: _, n + 1, h => ⟨h.1, All2.take n h.2⟩
  | [], _ :: _, _ + 1, h => h.elim
  | _ :: _, [], _ + 1, h => h.elim
theorem All2.drop : ∀ {as : List α} {bs : List β} (n : Nat), All2 R as bs → All2 R (as.drop n) (bs.drop n)
  | _, _, 0, h => by simpa using h
  | [], [], _ + 1, _ => by simp [All2]
  | _ :: _, _ :: _, n + 1, h => by simpa using All2.drop n h.2
  | [], _ :: _, _ + 1, h => h.elim
  | _ :: _, [], _ + 1, h => h.elim
theorem All2.of_get : ∀ {as : List α} {bs : List β}, bs.length = as.length → (∀ (i : Nat) a b, as[i]? = some a → bs[i]? = some b → R a b) → All2 R as bs
  | [], [], _, _ => trivial
  | a :: as, b :: bs, hl, h => ⟨h 0 a b rfl rfl, All2.of_get (by simpa using hl) fun i x y hx hy => h (i + 1) x y (by simpa using hx) (by simpa using hy)⟩
  | [], _ :: _, hl, _ => by simp at hl
  | _ :: _, [], hl, _ => by simp at hl
theorem All2.map_left {γ : Type} {f : γ → α} : ∀ {cs : List γ} {bs : List β}, All2 (fun c b => R (f c) b) cs bs → All2 R (cs.map f) bs
  | [], [], _ => trivial
  | _ :: _, _ :: _, h => ⟨h.1, All2.map_left h.2⟩
  | [], _ :: _, h => h.elim
  | _ :: _, [], h => h.elim
end

/-! ### values -/
/-- which place a number stands for: a block, and the cell from which on its cells are read; or a capacity, and 0 -/
abbrev Ph := Nat → Option (Nat × Nat)
def Ph.le (φ φ' : Ph) : Prop := ∀ i b, φ i = some b → φ' i = some b
theorem Ph.le_refl (φ : Ph) : φ.le φ := fun _ _ h => h
theorem Ph.le_trans {a b c : Ph} (h : a.le b) (k : b.le c) : a.le c := fun i x hx => k i x (h i x hx)

def bitV (op : BinOp) (k : IntKind) (x y : Int) : Int :=
  match op with
  | .and => k.wrap (BitVec.ofInt k.bits x &&& BitVec.ofInt k.bits y).toNat
  | .or => k.wrap (BitVec.ofInt k.bits x ||| BitVec.ofInt k.bits y).toNat
  | .xor => k.wrap (BitVec.ofInt k.bits x ^^^ BitVec.ofInt k.bits y).toNat
  | _ => k.wrap (BitVec.ofInt k.bits x &&& ~~~(BitVec.ofInt k.bits y)).toNat

/-! ### terms over numbers: what an integer comes to that the machine does not look at -/
inductive Tm where
  | v (i : Nat)
  | c (z : Nat)
  | bin (o : BinOp) (k : IntKind) (a b : Tm)
def natI (z : Int) : Option Nat := match z with | .ofNat n => some n | .negSucc _ => none
def tmE (o : BinOp) (k : IntKind) (a b : Int) : Option Int :=
  match o with
  | .add => some (k.wrap (a + b))
  | .sub => some (k.wrap (a - b))
  | .mul => some (k.wrap (a * b))
  | .rem => some (a.tmod b)
  | .and => some (bitV .and k a b)
  | .or => some (bitV .or k a b)
  | .xor => some (bitV .xor k a b)
  | .andNot => some (bitV .andNot k a b)
  | _ => none
def ev1 : Option (Nat × Nat) → Option Nat
  | some (z, 0) => some z
  | _ => none
def ev2 (o : BinOp) (k : IntKind) : Option Nat → Option Nat → Option Nat
  | some x, some y => (tmE o k ((x : Nat) : Int) ((y : Nat) : Int)).bind natI
  | _, _ => none
def Tm.ev (φ : Ph) : Tm → Option Nat
  | .v i => ev1 (φ i)
  | .c z => some z
  | .bin o k a b => ev2 o k (a.ev φ) (b.ev φ)
def Tm.lt (n : Nat) : Tm → Bool
  | .v i => Nat.blt i n
  | .c _ => true
  | .bin _ _ a b => a.lt n && b.lt n
def Tm.ren (r : Nat → Nat) : Tm → Tm
  | .v i => .v (r i)
  | .c z => .c z
  | .bin o k a b => .bin o k (a.ren r) (b.ren r)
theorem ev1_some {x : Option (Nat × Nat)} {z : Nat} (h : ev1 x = some z) : x = some (z, 0) := by
  unfold ev1 at h; split at h
  · cases h; rfl
  · cases h
theorem ev2_some {o : BinOp} {k : IntKind} {x y : Option Nat} {z : Nat} (h : ev2 o k x y = some z) : ∃ a b, x = some a ∧ y = some b ∧ (tmE o k ((a : Nat) : Int) ((b : Nat) : Int)).bind natI = some z := by
  unfold ev2 at h; split at h
  · exact ⟨_, _, rfl, rfl, h⟩
  · cases h
theorem Tm.ev_mono {φ φ' : Ph} (hl : φ.le φ') : ∀ {t : Tm} {z : Nat}, t.ev φ = some z → t.ev φ' = some z
  | .v i, z, h => by
    have := ev1_some h
    simp only [Tm.ev, hl _ _ this]; rfl
  | .c _, z, h => h
  | .bin o k a b, z, h => by
    obtain ⟨x, y, hx, hy, he⟩ := ev2_some h
    simp only [Tm.ev, Tm.ev_mono hl hx, Tm.ev_mono hl hy]
    exact he
theorem Tm.ev_ren {φ : Ph} {r : Nat → Nat} : ∀ {t : Tm}, (t.ren r).ev φ = t.ev fun i => φ (r i)
  | .v i => rfl
  | .c _ => rfl
  | .bin o k a b => by simp only [Tm.ren, Tm.ev, Tm.ev_ren]
/-- what is known of such an integer: bounds, what it leaves -/
structure Kn where
  lo : Nat
  hi : Nat
  m : Option (Nat × Nat) := none
def Kn.ok (K : Kn) (z : Nat) : Prop := K.lo ≤ z ∧ z ≤ K.hi ∧ ∀ d r, K.m = some (d, r) → z % d = r

/-- what one cell holds -/
inductive S where
  | unk
  | bool (b : Bool)
  | int (k : IntKind) (n : Int)
  | str (l : List UInt8)
  | ptr (a : Option (Nat × Nat))
  | slc (a : Option (Nat × Nat)) (len : Nat) (cap : Option Nat)
  /-- a slice from block i's begin on, of n elements; its capacity is what the number g stands for -/
  | sla (i g n : Nat)
  /-- a slice of no element and no room that is not nil -/
  | emp
  /-- nothing is known, not even that it is one cell -/
  | junk
  /-- a map: nil, or the one that the number stands for -/
  | map (a : Option Nat)
  /-- a function by its number, with nothing bound -/
  | fn (f : Nat)
  /-- a place in a block that is known itself -/
  | gp (g o : Nat)
  /-- an iterator over a map: the block r, whose map the number m stands for (m is a hint) -/
  | itr (r m : Nat)
  /-- a function with places bound -/
  | clo (f : Nat) (ps : List (Nat × Nat))
  /-- an integer that is not looked at: what the term comes to; what is known of it -/
  | opq (k : IntKind) (t : Tm) (K : Kn)

inductive U where
  | s (x : S)
  | agg (l : List S)

/-- what a slot holds -/
inductive V where
  | any
  | undef
  | s (x : S)
  | agg (l : List S)
  | tup (l : List U)
  /-- a slice of m elements of sz cells, from the element k on, of the slice over block i with the capacity g -/
  | w (i g sz k m : Nat)

def PtrR (φ : Ph) (p : Nat × Nat) (v : Value) : Prop := ∃ b, φ p.1 = some b ∧ v = .pointer (some ⟨b.1, p.2 + b.2, none⟩)
theorem PtrR.mono {φ φ' : Ph} (hl : φ.le φ') {p : Nat × Nat} {v : Value} (h : PtrR φ p v) : PtrR φ' p v := by obtain ⟨b, hb, hv⟩ := h; exact ⟨b, hl _ _ hb, hv⟩

def isCell : Value → Bool
  | .agg _ => false
  | .tuple _ => false
  | _ => true

def Sr (φ : Ph) : S → Value → Prop
  | .unk, v => isCell v = true
  | .bool b, v => v = .bool b
  | .int k n, v => v = .int k n
  | .str l, v => v = .string ⟨l.toArray⟩
  | .ptr none, v => v = .pointer none
  | .ptr (some (i, o)), v => ∃ b, φ i = some b ∧ v = .pointer (some ⟨b.1, o + b.2, none⟩)
  | .slc none n c, v => n = 0 ∧ c = some 0 ∧ v = .slice none 0 0
  | .slc (some (i, o)) n c, v => ∃ b k, φ i = some b ∧ v = .slice (some ⟨b.1, o + b.2, none⟩) n k ∧ n ≤ k ∧ (c = none ∨ c = some k)
  | .sla i g n, v => ∃ b k, φ i = some b ∧ φ g = some (k, 0) ∧ v = .slice (some ⟨b.1, b.2, none⟩) n k ∧ n ≤ k
  | .emp, v => ∃ a, v = .slice (some a) 0 0
  | .junk, _ => True
  | .map none, v => v = .map none
  | .map (some i), v => ∃ b, φ i = some b ∧ b.2 = 0 ∧ v = .map (some b.1)
  | .fn f, v => v = .func (.func f) #[] #[]
  | .gp g o, v => v = .pointer (some ⟨g, o, none⟩)
  | .itr r _, v => ∃ b, φ r = some b ∧ b.2 = 0 ∧ v = .pointer (some ⟨b.1, 0, none⟩)
  | .clo f ps, v => ∃ vs : List Value, v = .func (.func f) #[] vs.toArray ∧ All2 (PtrR φ) ps vs
  | .opq k t K, v => ∃ z, t.ev φ = some z ∧ K.ok z ∧ v = .int k ((z : Nat) : Int)

def isJ : S → Bool
  | .junk => true
  | _ => false

theorem Sr.cell {φ : Ph} {x : S} {v : Value} (h : Sr φ x v) (hj : isJ x = false) : isCell v = true := by
  cases x with
  | junk => cases hj
  | emp => obtain ⟨a, h⟩ := h; subst h; rfl
  | map a =>
    rcases a with _ | i
    · simp only [Sr] at h; subst h; rfl
    · obtain ⟨b, _, _, h⟩ := h; subst h; rfl
  | fn f => simp only [Sr] at h; subst h; rfl
  | gp g o => simp only [Sr] at h; subst h; rfl
  | itr r m => obtain ⟨b, _, _, h⟩ := h; subst h; rfl
  | clo f ps => obtain ⟨vs, h, _⟩ := h; subst h; rfl
  | opq k t K => obtain ⟨z, _, _, h⟩ := h; subst h; rfl
  | sla i g n => obtain ⟨b, k, _, _, h, _⟩ := h; subst h; rfl
  | unk => exact h
  | bool b => simp [Sr] at h; subst h; rfl
  | int k n => simp [Sr] at h; subst h; rfl
  | str l => simp [Sr] at h; subst h; rfl
  | ptr a =>
    rcases a with _ | ⟨i, o⟩
    · simp only [Sr] at h; subst h; rfl
    · obtain ⟨b, _, h⟩ := h; subst h; rfl
  | slc a n c =>
    rcases a with _ | ⟨i, o⟩
    · obtain ⟨_, _, h⟩ := h; subst h; rfl
    · obtain ⟨b, k, _, h, _⟩ := h; subst h; rfl

theorem Sr.mono {φ φ' : Ph} (hl : φ.le φ') {x : S} {v : Value} (h : Sr φ x v) : Sr φ' x v := by
  cases x with
  | unk | bool | int | str | junk | emp | fn | gp => exact h
  | sla i g n => obtain ⟨b, k, hb, hg, hv⟩ := h; exact ⟨b, k, hl _ _ hb, hl _ _ hg, hv⟩
  | map a =>
    rcases a with _ | i
    · exact h
    · obtain ⟨b, hb, hv⟩ := h; exact ⟨b, hl _ _ hb, hv⟩
  | itr r m => obtain ⟨b, hb, hv⟩ := h; exact ⟨b, hl _ _ hb, hv⟩
  | clo f ps => obtain ⟨vs, hv, ha⟩ := h; exact ⟨vs, hv, ha.mono fun _ _ => PtrR.mono hl⟩
  | opq k t K => obtain ⟨z, hb, hv⟩ := h; exact ⟨z, Tm.ev_mono hl hb, hv⟩
  | ptr a =>
    rcases a with _ | ⟨i, o⟩
    · exact h
    · obtain ⟨b, hb, hv⟩ := h; exact ⟨b, hl _ _ hb, hv⟩
  | slc a n c =>
    rcases a with _ | ⟨i, o⟩
    · exact h
    · obtain ⟨b, k, hb, hv⟩ := h; exact ⟨b, k, hl _ _ hb, hv⟩

def Ur (φ : Ph) : U → Value → Prop
  | .s x, v => Sr φ x v
  | .agg l, v => ∃ xs : List Value, v = .agg xs.toArray ∧ All2 (Sr φ) l xs

def Vr (φ : Ph) : V → Value → Prop
  | .any, _ => True
  | .undef, v => v = Go.undef
  | .s x, v => Sr φ x v
  | .agg l, v => ∃ xs : List Value, v = .agg xs.toArray ∧ All2 (Sr φ) l xs
  | .tup l, v => ∃ xs : List Value, v = .tuple xs.toArray ∧ All2 (Ur φ) l xs
  | .w i g sz k m, v => ∃ b c, φ i = some b ∧ φ g = some (c, 0) ∧ v = .slice (some ⟨b.1, if c = k then b.2 else b.2 + k * sz, none⟩) m (c - k) ∧ k + m ≤ c

theorem Ur.mono {φ φ' : Ph} (hl : φ.le φ') {x : U} {v : Value} (h : Ur φ x v) : Ur φ' x v := by
  cases x with
  | s x => exact Sr.mono hl h
  | agg l => obtain ⟨xs, hv, ha⟩ := h; exact ⟨xs, hv, ha.mono fun _ _ => Sr.mono hl⟩
theorem Vr.mono {φ φ' : Ph} (hl : φ.le φ') {x : V} {v : Value} (h : Vr φ x v) : Vr φ' x v := by
  cases x with
  | any => trivial
  | undef => exact h
  | s x => exact Sr.mono hl h
  | agg l => obtain ⟨xs, hv, ha⟩ := h; exact ⟨xs, hv, ha.mono fun _ _ => Sr.mono hl⟩
  | tup l => obtain ⟨xs, hv, ha⟩ := h; exact ⟨xs, hv, ha.mono fun _ _ => Ur.mono hl⟩
  | w i g sz k m => obtain ⟨b, c, hb, hg, hv⟩ := h; exact ⟨b, c, hl _ _ hb, hl _ _ hg, hv⟩

/-! ### blocks -/
/-- what is known of a map beside its keys and values: the values' width in cells, whether they are aggregates, when each entry was born, the clock -/
structure MapK where
  w : Nat
  agg : Bool
  born : List Nat
  clock : Nat
  /-- an iterator: w since when, born what it has seen, clock when it last stepped; its one cell is the map -/
  it : Bool := false
def mapOf : List Value → Option Nat
  | .map r :: _ => r
  | _ => none
def ents (agg : Bool) (w : Nat) : List Nat → List Value → List MapEntry
  | b :: bs, k :: t => { key := k, val := (match agg with | true => .agg (t.take w).toArray | false => (t.take w).headD default), born := b } :: ents agg w bs (t.drop w)
  | _, _ => []
/-- the object that a block's cells are laid in -/
def objOf : Option MapK → List Value → TypeId → Nat × Nat → Obj
  | none, l, ty, fr => .cells l.toArray ty fr
  | some m, l, _, _ => match m.it with | false => .map (ents m.agg m.w m.born l).toArray m.clock | true => .mapIter (mapOf l) m.w m.born.toArray m.clock
structure Bl where
  cells : List S
  ty : TypeId
  more : Bool := false
  ro : Bool := false
  sym : Bool := false
  flat : Bool := false
  gh : Option (Nat × Nat) := none
  kind : Option MapK := none
  /-- the block itself, where it is known: a package variable's -/
  abs : Option Nat := none
/-- the numbering under which a block's cells are read: a flat block's cells hold no address -/
def Bl.ph (bl : Bl) (φ : Ph) : Ph := match bl.flat with | true => fun _ => none | false => φ
theorem Bl.ph_le (bl : Bl) {φ φ' : Ph} (h : φ.le φ') : (bl.ph φ).le (bl.ph φ') := by
  unfold Bl.ph; cases bl.flat
  · exact h
  · exact Ph.le_refl _
theorem Bl.ph_le_self (bl : Bl) (φ : Ph) : (bl.ph φ).le φ := by
  unfold Bl.ph; cases bl.flat
  · exact Ph.le_refl _
  · intro i b h; cases h

/-- The cells of block b.1, from b.2 on, read as bl. -/
def BlAt (φ : Ph) (w : World) (b : Nat × Nat) (bl : Bl) : Prop :=
  ∃ (pre xs rest : List Value) (fr : Nat × Nat), w.heap[b.1]? = some (objOf bl.kind (pre ++ (xs ++ rest)) bl.ty fr) ∧ pre.length = b.2 ∧ All2 (Sr (bl.ph φ)) bl.cells xs ∧
    (bl.more = false → rest = []) ∧ (bl.ro = false → ∀ o, o < (pre ++ (xs ++ rest)).length → (fr.1 ≤ o && o < fr.2) = false) ∧
    ((∀ g z, bl.gh = some (g, z) → ∃ k, φ g = some (k, 0) ∧ k * z ≤ (xs ++ rest).length) ∧ (∀ g, bl.abs = some g → b = (g, 0)))

theorem BlAt.mono {φ φ' : Ph} (hl : φ.le φ') {w w' : World} {b : Nat × Nat} {bl : Bl} (hw : w'.heap[b.1]? = w.heap[b.1]?) (h : BlAt φ w b bl) : BlAt φ' w' b bl := by
  obtain ⟨pre, xs, rest, fr, h1, hp, h2, h3, h4, h5⟩ := h
  exact ⟨pre, xs, rest, fr, hw ▸ h1, hp, h2.mono fun _ _ => Sr.mono (bl.ph_le hl), h3, h4, fun g z e => by obtain ⟨k, hk, hz⟩ := h5.1 g z e; exact ⟨k, hl _ _ hk, hz⟩, h5.2⟩
theorem BlAt.lt {φ : Ph} {w : World} {b : Nat × Nat} {bl : Bl} (h : BlAt φ w b bl) : b.1 < w.heap.size := by
  obtain ⟨pre, xs, rest, fr, h1, _⟩ := h
  rcases Nat.lt_or_ge b.1 w.heap.size with h | h
  · exact h
  · simp [Array.getElem?_eq_none h] at h1

abbrev Hp := List (Nat × Option Bl)
def lk : Hp → Nat → Option Bl
  | [], _ => none
  | (j, b) :: t, i => match Nat.beq j i with | true => b | false => lk t i
def put : Hp → Nat → Option Bl → Hp
  | [], i, b => [(i, b)]
  | (j, c) :: t, i, b => match Nat.beq j i with | true => (j, b) :: t | false => (j, c) :: put t i b
def puts : Hp → Hp → Hp
  | L, [] => L
  | L, (i, b) :: r => puts (put L i b) r

theorem beq_no {j i : Nat} (h : ¬ j = i) : Nat.beq j i = false := by
  cases e : Nat.beq j i with
  | false => rfl
  | true => exact absurd (Nat.eq_of_beq_eq_true e) h
theorem lk_cons (j : Nat) (b : Option Bl) (t : Hp) (i : Nat) : lk ((j, b) :: t) i = if j = i then b else lk t i := by
  simp only [lk]
  by_cases h : j = i
  · simp [h]
  · simp [h, beq_no h]
theorem lk_put (L : Hp) (i : Nat) (b : Option Bl) (j : Nat) : lk (put L i b) j = if i = j then b else lk L j := by
  induction L with
  | nil => simp [put, lk_cons, lk]
  | cons x t ih =>
    obtain ⟨k, c⟩ := x
    simp only [put]
    by_cases h : k = i
    · subst h
      simp only [Nat.beq_refl, lk_cons]
      split <;> rfl
    · have hb : Nat.beq k i = false := beq_no h
      simp only [hb, lk_cons, ih]
      by_cases h' : k = j
      · subst h'; simp [Ne.symm h]
      · simp [h']

/-- all that is known of memory fits the world -/
structure Good (φ : Ph) (L : Hp) (w : World) : Prop where
  hr : ∀ i bl, lk L i = some bl → ∃ b, φ i = some b ∧ BlAt φ w b bl
  inj : ∀ i j bl bl' b b', lk L i = some bl → lk L j = some bl' → φ i = some b → φ j = some b' → b.1 = b'.1 → i = j ∨ (bl.ro = true ∧ bl'.ro = true)

/-- may the block b be written by whoever knows L? -/
def Wr (φ : Ph) (L : Hp) (b : Nat) : Prop := ∃ i bl c, lk L i = some bl ∧ φ i = some c ∧ c.1 = b ∧ bl.ro = false

structure Stp (φ : Ph) (L : Hp) (w : World) (φ' : Ph) (L' : Hp) (w' : World) : Prop where
  os : w'.os = w.os
  tape : w'.tape = w.tape
  output : w'.output = w.output
  size : w.heap.size ≤ w'.heap.size
  keep : ∀ b, b < w.heap.size → ¬ Wr φ L b → w'.heap[b]? = w.heap[b]?
  fresh : ∀ j bl b, lk L' j = some bl → φ' j = some b → b.1 < w.heap.size → ∃ k bl' c, lk L k = some bl' ∧ φ k = some c ∧ c.1 = b.1 ∧ (bl'.ro = true → bl.ro = true) ∧ (k = j ∨ bl'.ro = false)

theorem Stp.refl (φ : Ph) (L : Hp) (w : World) : Stp φ L w φ L w :=
  ⟨rfl, rfl, rfl, Nat.le_refl _, fun _ _ _ => rfl, fun j bl b h hb _ => ⟨j, bl, b, h, hb, rfl, id, .inl rfl⟩⟩

theorem Stp.trans {φ φ₁ φ₂ : Ph} {L L₁ L₂ : Hp} {w w₁ w₂ : World} (h : Stp φ L w φ₁ L₁ w₁) (k : Stp φ₁ L₁ w₁ φ₂ L₂ w₂) : Stp φ L w φ₂ L₂ w₂ where
  os := k.os.trans h.os
  tape := k.tape.trans h.tape
  output := k.output.trans h.output
  size := Nat.le_trans h.size k.size
  keep b hb hn := by
    rw [k.keep b (Nat.lt_of_lt_of_le hb h.size) ?_, h.keep b hb hn]
    rintro ⟨i, bl, c, hi, hp, rfl, hro⟩
    obtain ⟨j, bl', c', hj, hpj, hc, hr, _⟩ := h.fresh i bl c hi hp hb
    exact hn ⟨j, bl', c', hj, hpj, hc, by cases e : bl'.ro with | false => rfl | true => rw [hr e] at hro; exact hro⟩
  fresh j bl b hj hp hb := by
    obtain ⟨i, bl', c, hi, hpi, hc, hr, ho⟩ := k.fresh j bl b hj hp (Nat.lt_of_lt_of_le hb h.size)
    obtain ⟨i', bl'', c', hi', hpi', hc', hr', ho'⟩ := h.fresh i bl' c hi hpi (by rw [hc]; exact hb)
    refine ⟨i', bl'', c', hi', hpi', hc'.trans hc, fun e => hr (hr' e), ?_⟩
    rcases ho' with rfl | ho'
    · rcases ho with rfl | ho
      · exact .inl rfl
      · refine .inr ?_
        cases e : bl''.ro with
        | false => rfl
        | true => rw [hr' e] at ho; cases ho
    · exact .inr ho'

/-- forgetting is always sound -/
def Sub (L M : Hp) : Prop := ∀ i bl, lk L i = some bl → lk M i = some bl
theorem Sub.refl (L : Hp) : Sub L L := fun _ _ h => h
theorem Good.sub {φ : Ph} {L M : Hp} {w : World} (h : Good φ M w) (hs : Sub L M) : Good φ L w :=
  ⟨fun i bl hi => h.hr i bl (hs i bl hi), fun i j bl bl' b b' hi hj => h.inj i j bl bl' b b' (hs i bl hi) (hs j bl' hj)⟩

/-- What is known beside L is known behind a step from L to L', too: the frame rule. 'M'' is M, but as L' says where L or L' speak. -/
theorem frame {φ φ' : Ph} {L L' M M' : Hp} {w w' : World} (hM : Good φ M w) (hs : Sub L M) (h' : Good φ' L' w') (st : Stp φ L w φ' L' w') (hl : φ.le φ')
    (hM' : ∀ i bl, lk M' i = some bl → lk L' i = some bl ∨ (lk L i = none ∧ lk M i = some bl)) : Good φ' M' w' ∧ Stp φ M w φ' M' w' := by
  have out : ∀ i bl, lk L i = none → lk M i = some bl → ∃ b, φ i = some b ∧ b.1 < w.heap.size ∧ ¬ Wr φ L b.1 ∧ BlAt φ w b bl := by
    intro i bl hn hm
    obtain ⟨b, hb, hat⟩ := hM.hr i bl hm
    refine ⟨b, hb, hat.lt, ?_, hat⟩
    rintro ⟨j, bl', c, hj, hpj, hc, hro⟩
    rcases hM.inj i j bl bl' b c hm (hs j bl' hj) hb hpj hc.symm with rfl | ⟨_, e⟩
    · rw [hn] at hj; cases hj
    · rw [e] at hro; cases hro
  have cross : ∀ i j bl bl' b b', lk L i = none → lk M i = some bl → φ i = some b → lk L' j = some bl' → φ' j = some b' → b.1 = b'.1 → bl.ro = true ∧ bl'.ro = true := by
    intro i j bl bl' b b' hn hm hb hj hpj hbb
    obtain ⟨b₀, hb₀, hlt, hnw, _⟩ := out i bl hn hm
    rw [hb] at hb₀; cases hb₀
    obtain ⟨k, bk, c, hk, hpk, hc, hr, _⟩ := st.fresh j bl' b' hj hpj (hbb ▸ hlt)
    rcases hM.inj i k bl bk b c hm (hs k bk hk) hb hpk (hbb.trans hc.symm) with rfl | ⟨e1, e2⟩
    · rw [hn] at hk; cases hk
    · exact ⟨e1, hr e2⟩
  refine ⟨⟨fun i bl hi => ?_, fun i j bl bl' b b' hi hj hb hb' hbb => ?_⟩, ⟨st.os, st.tape, st.output, st.size, fun b hb hn => ?_, fun j bl b hj hp hb => ?_⟩⟩
  · rcases hM' i bl hi with h | ⟨hn, hm⟩
    · exact h'.hr i bl h
    · obtain ⟨b, hb, hlt, hnw, hat⟩ := out i bl hn hm
      exact ⟨b, hl _ _ hb, hat.mono hl (st.keep b.1 hlt hnw)⟩
  · rcases hM' i bl hi with h | ⟨hn, hm⟩ <;> rcases hM' j bl' hj with k | ⟨kn, km⟩
    · exact h'.inj i j bl bl' b b' h k hb hb' hbb
    · obtain ⟨b₂, hb₂, _⟩ := out j bl' kn km
      have e := hl _ _ hb₂; rw [hb'] at e; cases e
      exact .inr (cross j i bl' bl b' b kn km hb₂ h hb hbb.symm).symm
    · obtain ⟨b₁, hb₁, _⟩ := out i bl hn hm
      have e := hl _ _ hb₁; rw [hb] at e; cases e
      exact .inr (cross i j bl bl' b b' hn hm hb₁ k hb' hbb)
    · obtain ⟨b₁, hb₁, _⟩ := out i bl hn hm
      obtain ⟨b₂, hb₂, _⟩ := out j bl' kn km
      have e := hl _ _ hb₁; rw [hb] at e; cases e
      have e := hl _ _ hb₂; rw [hb'] at e; cases e
      exact hM.inj i j bl bl' b b' hm km hb₁ hb₂ hbb
  · refine st.keep b hb fun ⟨i, bl, c, hi, hp, hc, hro⟩ => hn ⟨i, bl, c, hs i bl hi, hp, hc, hro⟩
  · rcases hM' j bl hj with h | ⟨hn, hm⟩
    · obtain ⟨k, bk, c, hk, hpk, hc, hr⟩ := st.fresh j bl b h hp hb
      exact ⟨k, bk, c, hs k bk hk, hpk, hc, hr⟩
    · obtain ⟨b₁, hb₁, _⟩ := out j bl hn hm
      have e := hl _ _ hb₁; rw [hp] at e; cases e
      exact ⟨j, bl, b, hm, hb₁, rfl, id, .inl rfl⟩

end Ab
end Go.Proofs.YtgbkllbaojkfmaaGreatDoor
/-
  The frame, part 2: one operation, a region in whatever order its edges allow, code, calls.
-/
set_option linter.unusedSimpArgs false
set_option linter.unusedVariables false
namespace Go.Proofs.YtgbkllbaojkfmaaGreatDoor
namespace Ab
open Go

/-! ### slots -/
def ofConst : Value → V
  | .bool b => .s (.bool b)
  | .int k n => .s (.int k n)
  | .string s => .s (.str s.data.toList)
  | .pointer none => .s (.ptr none)
  | .slice none 0 0 => .s (.slc none 0 (some 0))
  | _ => .any

theorem ofConst_r (φ : Ph) (v : Value) : Vr φ (ofConst v) v := by
  unfold ofConst
  split <;> simp [Vr, Sr]

def ev (env : List V) : Operand → V
  | .tmp t => env.getD t .undef
  | .const v => ofConst v
  | .func f => .s (.fn f)
  | .global g => .s (.gp g 0)

def EnvR (φ : Ph) (env : List V) (a : Act) : Prop := a.defers = [] ∧ All2 (Vr φ) env a.tmps.toList

theorem EnvR.mono {φ φ' : Ph} (hl : φ.le φ') {env : List V} {a : Act} (h : EnvR φ env a) : EnvR φ' env a := ⟨h.1, h.2.mono fun _ _ => Vr.mono hl⟩

theorem EnvR.slot {φ : Ph} {env : List V} {a : Act} (h : EnvR φ env a) (t : Nat) : Vr φ (env.getD t .undef) (a.tmps.getD t Go.undef) := by
  have hl := h.2.len
  rcases Nat.lt_or_ge t env.length with hi | hi
  · obtain ⟨b, hb, hr⟩ := h.2.get (i := t) (a := env[t]) (by simp [hi])
    have e1 : env.getD t .undef = env[t] := by simp [List.getD, hi]
    have e2 : a.tmps.getD t Go.undef = b := by simp [Array.getD_eq_getD_getElem?, ← Array.getElem?_toList, hb]
    rw [e1, e2]; exact hr
  · have e1 : env.getD t .undef = .undef := by simp [List.getD, hi]
    have e2 : a.tmps.getD t Go.undef = Go.undef := by
      have : a.tmps.size ≤ t := by rw [← Array.length_toList]; omega
      simp [Array.getD_eq_getD_getElem?, this]
    rw [e1, e2]; rfl

theorem EnvR.ev {φ : Ph} {env : List V} {a : Act} (h : EnvR φ env a) (x : Operand) : Vr φ (ev env x) (a.eval x) := by
  cases x with
  | tmp t => exact h.slot t
  | const v => exact ofConst_r φ v
  | global g => rfl
  | func f => rfl

def setD (env : List V) : Option Tmp → V → List V
  | none, _ => env
  | some d, v => env.set d v

theorem setD_length (env : List V) (d : Option Tmp) (v : V) : (setD env d v).length = env.length := by cases d <;> simp [setD]
theorem setD_get (env : List V) (d : Option Tmp) (v : V) (t : Nat) : (setD env d v)[t]? = if d = some t then (if t < env.length then some v else none) else env[t]? := by
  cases d with
  | none => simp [setD]
  | some d =>
    simp only [setD, Option.some.injEq]
    by_cases h : d = t
    · subst h; simp [List.getElem?_set]
    · simp [h, List.getElem?_set_ne h]

theorem EnvR.put {φ : Ph} {env : List V} {a : Act} (h : EnvR φ env a) (d : Option Tmp) {v : V} {x : Value} (hv : Vr φ v x) : EnvR φ (setD env d v) (a.put d x) := by
  cases d with
  | none => exact h
  | some d => exact ⟨h.1, by simpa [setD, Act.put] using h.2.set hv⟩

/-! ### one operation -/
def OpL (P : Program) (o : Oper) (env : List V) (n : Nat) (L : Hp) (v : V) (n' : Nat) (L' : Hp) : Prop :=
  ∀ (φ : Ph) (a : Act) (w : World) (Q : Exit → Act → World → Prop),
    (∀ x ∈ o.op.operands, Vr φ (ev env x) (a.eval x)) → Good φ L w → (∀ i, n ≤ i → i < n' → φ i = none) →
    o.wp P a w (fun a' w' => ∃ φ' x, a' = a.put o.dst x ∧ Vr φ' v x ∧ Good φ' L' w' ∧ Stp φ L w φ' L' w' ∧ (∀ i, ¬ (n ≤ i ∧ i < n') → φ' i = φ i)) Q

theorem le_of_agree {φ φ' : Ph} {n n' : Nat} (h0 : ∀ i, n ≤ i → i < n' → φ i = none) (h : ∀ i, ¬ (n ≤ i ∧ i < n') → φ' i = φ i) : φ.le φ' := by
  intro i b hb
  by_cases hi : n ≤ i ∧ i < n'
  · rw [h0 i hi.1 hi.2] at hb; cases hb
  · rw [h i hi]; exact hb

/-- what the text-order run says of one operation: which blocks it touches, its value, what it writes, the next free number -/
structure R where
  foot : List Nat
  v : V
  wr : Hp
  n' : Nat

def res (foot : List Nat) (L : Hp) : Hp := foot.map fun i => (i, lk L i)
theorem lk_res (foot : List Nat) (L : Hp) (i : Nat) : lk (res foot L) i = if i ∈ foot then lk L i else none := by
  induction foot with
  | nil => simp [res, lk]
  | cons j t ih =>
    have : res (j :: t) L = (j, lk L j) :: res t L := rfl
    rw [this, lk_cons, ih]
    by_cases h : j = i
    · subst h; simp
    · simp [h, Ne.symm h]

def keys (W : Hp) : List Nat := W.map (·.1)
theorem lk_puts_out (W : Hp) : ∀ (L : Hp) (i : Nat), i ∉ keys W → lk (puts L W) i = lk L i := by
  induction W with
  | nil => intro L i _; rfl
  | cons x t ih =>
    intro L i h
    obtain ⟨j, b⟩ := x
    simp only [keys, List.map_cons, List.mem_cons, not_or] at h
    simp only [puts]
    rw [ih _ _ h.2, lk_put, if_neg (fun e => h.1 e.symm)]
theorem lk_puts_in (W : Hp) : ∀ (L M : Hp) (i : Nat), i ∈ keys W → lk (puts L W) i = lk (puts M W) i := by
  induction W with
  | nil => intro L M i h; simp [keys] at h
  | cons x t ih =>
    intro L M i h
    obtain ⟨j, b⟩ := x
    simp only [puts]
    by_cases ht : i ∈ keys t
    · exact ih _ _ _ ht
    · simp only [keys, List.map_cons, List.mem_cons] at h
      have hj : i = j := h.resolve_right ht
      rw [lk_puts_out _ _ _ ht, lk_puts_out _ _ _ ht, lk_put, lk_put, if_pos hj.symm, if_pos hj.symm]
theorem lk_puts_congr (W : Hp) (L M : Hp) (i : Nat) (h : lk L i = lk M i) : lk (puts L W) i = lk (puts M W) i := by
  by_cases hi : i ∈ keys W
  · exact lk_puts_in W L M i hi
  · rw [lk_puts_out _ _ _ hi, lk_puts_out _ _ _ hi, h]

/-- An operation that is known over the blocks that it touches, done in a state that agrees there. -/
theorem OpL.step {P : Program} {o : Oper} {env envD : List V} {n : Nat} {L LD : Hp} {r : R} (h : OpL P o env n (res r.foot L) r.v r.n' (puts (res r.foot L) r.wr))
    (he : ∀ x ∈ o.op.operands, ev envD x = ev env x) (hL : ∀ i ∈ r.foot, lk LD i = lk L i)
    {φ : Ph} {a : Act} {w : World} (Q : Exit → Act → World → Prop) (ha : EnvR φ envD a) (hg : Good φ LD w) (hf : ∀ i, n ≤ i → i < r.n' → φ i = none) :
    o.wp P a w (fun a' w' => ∃ φ', EnvR φ' (setD envD o.dst r.v) a' ∧ Good φ' (puts LD r.wr) w' ∧ Stp φ LD w φ' (puts LD r.wr) w' ∧ (∀ i, ¬ (n ≤ i ∧ i < r.n') → φ' i = φ i)) Q := by
  have hs : Sub (res r.foot L) LD := by
    intro i bl hi
    rw [lk_res] at hi
    split at hi
    · rename_i hm; rw [hL i hm]; exact hi
    · cases hi
  refine Oper.wp_mono ?_ (h φ a w Q (fun x hx => he x hx ▸ ha.ev x) (hg.sub hs) hf)
  rintro a' w' ⟨φ', x, rfl, hv, hg', st, hag⟩
  have hl := le_of_agree hf hag
  obtain ⟨g2, s2⟩ := frame (M' := puts LD r.wr) hg hs hg' st hl (by
    intro i bl hi
    by_cases hk : i ∈ keys r.wr
    · exact .inl (by rw [lk_puts_in r.wr _ LD i hk]; exact hi)
    · rw [lk_puts_out _ _ _ hk] at hi ⊢
      by_cases hm : i ∈ r.foot
      · exact .inl (by rw [lk_res, if_pos hm, ← hL i hm]; exact hi)
      · exact .inr ⟨by rw [lk_res, if_neg hm], hi⟩)
  exact ⟨φ', (ha.mono hl).put o.dst hv, g2, s2, hag⟩

/-! ### guards -/
def want (ops : Array Oper) (env : List V) (o : Oper) : Option Bool :=
  match o.guard with
  | none => some true
  | some (j, b) =>
    match (ops[j]?).bind (·.dst) with
    | none => some false
    | some t =>
      match env.getD t .undef with
      | .s (.bool c) => some (c == b)
      | .undef => some false
      | _ => none

theorem want_r {φ : Ph} {ops : Array Oper} {env : List V} {o : Oper} {a : Act} {b : Bool} (h : EnvR φ env a) (hw : want ops env o = some b) :
    Region.wanted o (yielded ops a.tmps) = b := by
  unfold want at hw
  unfold Region.wanted
  cases hg : o.guard with
  | none => simp [hg] at hw; simp [← hw]
  | some g =>
    obtain ⟨j, c⟩ := g
    simp only [hg] at hw
    simp only [yielded]
    cases hd : (ops[j]?).bind (·.dst) with
    | none => simp [hd] at hw; simp [← hw]
    | some t =>
      simp only [hd] at hw
      simp only [Option.bind_some]
      have hs := h.slot t
      have e : a.tmps.getD t Go.undef = (a.tmps[t]?).getD Go.undef := by simp [Array.getD_eq_getD_getElem?]
      generalize env.getD t .undef = x at hw hs
      cases x with
      | any => simp at hw
      | agg _ => simp at hw
      | tup _ => simp at hw
      | w => simp at hw
      | undef =>
        simp at hw; subst hw
        simp only [Vr] at hs
        rw [e] at hs
        cases ht : a.tmps[t]? with
        | none => rfl
        | some y => rw [ht] at hs; simp at hs; subst hs; rfl
      | s y =>
        cases y with
        | bool d =>
          simp at hw; subst hw
          simp only [Vr, Sr] at hs
          rw [e] at hs
          cases ht : a.tmps[t]? with
          | none => rw [ht] at hs; simp [Go.undef] at hs
          | some y => rw [ht] at hs; simp at hs; subst hs; cases d <;> cases c <;> rfl
        | _ => simp at hw

/-- one operation of the text-order run -/
def StepOK (P : Program) (ops : Array Oper) (o : Oper) (r : R) (env : List V) (n : Nat) (L : Hp) : Prop :=
  (want ops env o = some true ∧ OpL P o env n (res r.foot L) r.v r.n' (puts (res r.foot L) r.wr) ∧ n ≤ r.n') ∨
  (want ops env o = some false ∧ r.v = .undef ∧ r.wr = [] ∧ r.n' = n)

theorem StepOK.n_le {P : Program} {ops : Array Oper} {o : Oper} {r : R} {env : List V} {n : Nat} {L : Hp} (h : StepOK P ops o r env n L) : n ≤ r.n' := by
  rcases h with ⟨_, _, h⟩ | ⟨_, _, _, h⟩ <;> omega

/-- the slots whose content an operation looks at -/
def looks (ops : Array Oper) (o : Oper) : List Tmp := o.looksAt ops

theorem want_congr {ops : Array Oper} {o : Oper} {env env' : List V} (h : ∀ t ∈ looks ops o, env.getD t .undef = env'.getD t .undef) : want ops env o = want ops env' o := by
  unfold want
  cases hg : o.guard with
  | none => rfl
  | some g =>
    obtain ⟨j, c⟩ := g
    simp only []
    cases hd : (ops[j]?).bind (·.dst) with
    | none => rfl
    | some t => simp only []; rw [h t (by simp [looks, Oper.looksAt, hg, hd])]

theorem ev_congr {ops : Array Oper} {o : Oper} {env env' : List V} (h : ∀ t ∈ looks ops o, env.getD t .undef = env'.getD t .undef) : ∀ x ∈ o.op.operands, ev env x = ev env' x := by
  intro x hx
  cases x with
  | tmp t => exact h t (List.mem_append_left _ (List.mem_filterMap.2 ⟨.tmp t, by simpa using hx, rfl⟩))
  | _ => rfl

/-- The step of a region's run, in a state that agrees with the text order's where the operation looks. -/
theorem StepOK.wpOp {P : Program} {ops : Array Oper} {o : Oper} {r : R} {env envD : List V} {n : Nat} {L LD : Hp} (h : StepOK P ops o r env n L) {i : Nat} (hi : ops[i]? = some o)
    (he : ∀ t ∈ looks ops o, envD.getD t .undef = env.getD t .undef) (hL : ∀ i ∈ r.foot, lk LD i = lk L i)
    {φ : Ph} {a : Act} {w : World} {Q : Exit → Act → World → Prop} (ha : EnvR φ envD a) (hg : Good φ LD w) (hf : ∀ i, n ≤ i → i < r.n' → φ i = none)
    {K : Act → World → Prop} (hK : ∀ φ' a' w', EnvR φ' (setD envD o.dst r.v) a' → Good φ' (puts LD r.wr) w' → Stp φ LD w φ' (puts LD r.wr) w' → (∀ i, ¬ (n ≤ i ∧ i < r.n') → φ' i = φ i) → K a' w') :
    Go.wpOp P ops Q i K a w := by
  unfold Go.wpOp
  simp only [hi]
  rcases h with ⟨hw, hop, _⟩ | ⟨hw, hv, hwr, hn⟩
  · rw [← want_congr he] at hw
    rw [want_r ha hw]
    simp only [if_true]
    refine .inl (Oper.wp_mono ?_ (hop.step (ev_congr he) hL Q ha hg hf))
    rintro a' w' ⟨φ', h1, h2, h3, h4⟩
    exact hK φ' a' w' h1 h2 h3 h4
  · rw [← want_congr he] at hw
    rw [want_r ha hw]
    simp only [Bool.false_eq_true, if_false]
    rw [hv, hwr] at hK
    exact hK φ _ w (ha.put o.dst (show Vr φ .undef Go.undef from rfl)) hg (Stp.refl _ _ _) (fun _ _ => rfl)

end Ab
end Go.Proofs.YtgbkllbaojkfmaaGreatDoor
/-
  The frame, part 3: a region whose conflicting operations are ordered by its edges: every order comes to what the order of the text comes to.
-/
set_option linter.unusedSimpArgs false
set_option linter.unusedVariables false
namespace Go.Proofs.YtgbkllbaojkfmaaGreatDoor
namespace Ab
open Go

abbrev Row := Oper × R

def eD (D : Nat → Bool) : Nat → List Row → List V → List V
  | _, [], e => e
  | k, (o, r) :: t, e => eD D (k + 1) t (match D k with | true => setD e o.dst r.v | false => e)
def hD (D : Nat → Bool) : Nat → List Row → Hp → Hp
  | _, [], L => L
  | k, (_, r) :: t, L => hD D (k + 1) t (match D k with | true => puts L r.wr | false => L)
def nAt : List Row → Nat → Nat → Nat
  | _, n, 0 => n
  | [], n, _ + 1 => n
  | (_, r) :: t, _, i + 1 => nAt t r.n' i

def RunOK (P : Program) (ops : Array Oper) : List Row → List V → Nat → Hp → Prop
  | [], _, _, _ => True
  | (o, r) :: t, env, n, L => StepOK P ops o r env n L ∧ RunOK P ops t (setD env o.dst r.v) r.n' (puts L r.wr)

theorem eD_length (D : Nat → Bool) : ∀ (rows : List Row) (k : Nat) (e : List V), (eD D k rows e).length = e.length
  | [], _, _ => rfl
  | (o, r) :: t, k, e => by
    simp only [eD]; rw [eD_length D t]
    cases D k <;> simp [setD_length]
theorem eD_none {D : Nat → Bool} : ∀ (rows : List Row) (k : Nat) (e : List V), (∀ j, k ≤ j → D j = false) → eD D k rows e = e
  | [], _, _, _ => rfl
  | (o, r) :: t, k, e, h => by
    simp only [eD, h k (Nat.le_refl _)]
    exact eD_none t (k + 1) e fun j hj => h j (by omega)
theorem hD_none {D : Nat → Bool} : ∀ (rows : List Row) (k : Nat) (L : Hp), (∀ j, k ≤ j → D j = false) → hD D k rows L = L
  | [], _, _, _ => rfl
  | (o, r) :: t, k, L, h => by
    simp only [hD, h k (Nat.le_refl _)]
    exact hD_none t (k + 1) L fun j hj => h j (by omega)

theorem slotAgree {D D' : Nat → Bool} {t : Nat} : ∀ (rows : List Row) (k : Nat) (e e' : List V), e[t]? = e'[t]? → e.length = e'.length →
    (∀ (i : Nat) o r, rows[i]? = some (o, r) → o.dst = some t → D (k + i) = D' (k + i)) → (eD D k rows e)[t]? = (eD D' k rows e')[t]?
  | [], _, _, _, h, _, _ => h
  | (o, r) :: rows, k, e, e', h, hl, hd => by
    simp only [eD]
    refine slotAgree rows (k + 1) _ _ ?_ ?_ fun i o' r' hi hdst => by
      have := hd (i + 1) o' r' (by simpa using hi) hdst
      rwa [show k + 1 + i = k + (i + 1) by omega]
    · by_cases hdst : o.dst = some t
      · have := hd 0 o r rfl hdst
        simp only [Nat.add_zero] at this
        rw [this]
        cases D' k <;> simp [setD_get, hdst, hl, h]
      · cases D k <;> cases D' k <;> simp [setD_get, hdst, h]
    · cases D k <;> cases D' k <;> simp [setD_length, hl]

theorem lkAgree {D D' : Nat → Bool} {t : Nat} : ∀ (rows : List Row) (k : Nat) (L L' : Hp), lk L t = lk L' t →
    (∀ (i : Nat) o r, rows[i]? = some (o, r) → t ∈ keys r.wr → D (k + i) = D' (k + i)) → lk (hD D k rows L) t = lk (hD D' k rows L') t
  | [], _, _, _, h, _ => h
  | (o, r) :: rows, k, L, L', h, hd => by
    simp only [hD]
    refine lkAgree rows (k + 1) _ _ ?_ fun i o' r' hi hk => by
      have := hd (i + 1) o' r' (by simpa using hi) hk
      rwa [show k + 1 + i = k + (i + 1) by omega]
    by_cases hk : t ∈ keys r.wr
    · have := hd 0 o r rfl hk
      simp only [Nat.add_zero] at this
      rw [this]
      cases D' k
      · exact h
      · exact lk_puts_congr _ _ _ _ h
    · cases D k <;> cases D' k <;> simp [lk_puts_out _ _ _ hk, h]

theorem eD_succ : ∀ (rows : List Row) (k i : Nat) (e : List V) (o : Oper) (r : R), rows[i]? = some (o, r) →
    eD (fun j => decide (j < k + i + 1)) k rows e = setD (eD (fun j => decide (j < k + i)) k rows e) o.dst r.v
  | [], _, i, _, _, _, h => by simp at h
  | (o', r') :: rows, k, 0, e, o, r, h => by
    simp only [List.length_cons, List.getElem?_cons_zero, Option.some.injEq, Prod.mk.injEq] at h
    obtain ⟨rfl, rfl⟩ := h
    simp only [eD]
    rw [eD_none rows (k + 1) _ (by intro j hj; simp; omega), eD_none rows (k + 1) _ (by intro j hj; simp; omega)]
    simp
  | (o', r') :: rows, k, i + 1, e, o, r, h => by
    simp only [eD]
    have hk1 : decide (k < k + (i + 1) + 1) = true := by simp; omega
    have hk2 : decide (k < k + (i + 1)) = true := by simp
    simp only [hk1, hk2]
    have := eD_succ rows (k + 1) i (setD e o'.dst r'.v) o r (by simpa using h)
    rw [show k + 1 + i + 1 = k + (i + 1) + 1 by omega, show k + 1 + i = k + (i + 1) by omega] at this
    exact this
theorem hD_succ : ∀ (rows : List Row) (k i : Nat) (L : Hp) (o : Oper) (r : R), rows[i]? = some (o, r) →
    hD (fun j => decide (j < k + i + 1)) k rows L = puts (hD (fun j => decide (j < k + i)) k rows L) r.wr
  | [], _, i, _, _, _, h => by simp at h
  | (o', r') :: rows, k, 0, L, o, r, h => by
    simp only [List.length_cons, List.getElem?_cons_zero, Option.some.injEq, Prod.mk.injEq] at h
    obtain ⟨rfl, rfl⟩ := h
    simp only [hD]
    rw [hD_none rows (k + 1) _ (by intro j hj; simp; omega), hD_none rows (k + 1) _ (by intro j hj; simp; omega)]
    simp
  | (o', r') :: rows, k, i + 1, L, o, r, h => by
    simp only [hD]
    have hk1 : decide (k < k + (i + 1) + 1) = true := by simp; omega
    have hk2 : decide (k < k + (i + 1)) = true := by simp
    simp only [hk1, hk2]
    have := hD_succ rows (k + 1) i (puts L r'.wr) o r (by simpa using h)
    rw [show k + 1 + i + 1 = k + (i + 1) + 1 by omega, show k + 1 + i = k + (i + 1) by omega] at this
    exact this

theorem RunOK.at {P : Program} {ops : Array Oper} : ∀ (rows : List Row) (k i : Nat) (env : List V) (n : Nat) (L : Hp) (o : Oper) (r : R), RunOK P ops rows env n L → rows[i]? = some (o, r) →
    StepOK P ops o r (eD (fun j => decide (j < k + i)) k rows env) (nAt rows n i) (hD (fun j => decide (j < k + i)) k rows L) ∧ r.n' = nAt rows n (i + 1)
  | [], _, i, _, _, _, _, _, _, h => by simp at h
  | (o', r') :: rows, k, 0, env, n, L, o, r, hr, h => by
    simp only [List.length_cons, List.getElem?_cons_zero, Option.some.injEq, Prod.mk.injEq] at h
    obtain ⟨rfl, rfl⟩ := h
    rw [eD_none _ k _ (by intro j hj; simp; omega), hD_none _ k _ (by intro j hj; simp; omega)]
    exact ⟨hr.1, by simp [nAt]⟩
  | (o', r') :: rows, k, i + 1, env, n, L, o, r, hr, h => by
    have := RunOK.at rows (k + 1) i _ _ _ o r hr.2 (by simpa using h)
    have hk2 : decide (k < k + (i + 1)) = true := by simp
    simp only [eD, hD, nAt, hk2]
    rw [show k + 1 + i = k + (i + 1) by omega] at this
    exact this

theorem RunOK.n_mono {P : Program} {ops : Array Oper} : ∀ (rows : List Row) (env : List V) (n : Nat) (L : Hp) (i j : Nat), RunOK P ops rows env n L → i ≤ j → nAt rows n i ≤ nAt rows n j
  | rows, env, n, L, i, 0, _, h => by obtain rfl : i = 0 := by omega
                                      exact Nat.le_refl _
  | [], env, n, L, i, j + 1, _, _ => by cases i <;> simp [nAt]
  | (o, r) :: rows, env, n, L, 0, j + 1, hr, _ => by
    simp only [nAt]
    have h1 := hr.1.n_le
    have h2 := RunOK.n_mono rows _ _ _ 0 j hr.2 (by omega)
    have h3 : nAt rows r.n' 0 = r.n' := by cases rows <;> rfl
    omega
  | (o, r) :: rows, env, n, L, i + 1, j + 1, hr, h => by
    simp only [nAt]
    exact RunOK.n_mono rows _ _ _ i j hr.2 (by omega)

/-! ### the order -/
def Closed (ops : Array Oper) (D : Nat → Bool) : Prop := ∀ (j : Nat) o, ops[j]? = some o → D j = true → ∀ e ∈ o.after.toList, Region.binds .any e = true → D e.on = true
def Bef (ops : Array Oper) (i j : Nat) : Prop := ∀ D, Closed ops D → D j = true → D i = true

structure RegOK (ops : Array Oper) (rows : List Row) : Prop where
  hops : rows.map (·.1) = ops.toList
  down : ∀ (i : Nat) o, ops[i]? = some o → ∀ e ∈ o.after.toList, Region.binds .any e = true → e.on < i
  slot : ∀ (i j : Nat) oi ri oj rj t, i < j → rows[i]? = some (oi, ri) → rows[j]? = some (oj, rj) →
    (oi.dst = some t ∧ (oj.dst = some t ∨ t ∈ looks ops oj)) ∨ (oj.dst = some t ∧ t ∈ looks ops oi) → Bef ops i j
  mem : ∀ (i j : Nat) oi ri oj rj t, i < j → rows[i]? = some (oi, ri) → rows[j]? = some (oj, rj) →
    (t ∈ keys ri.wr ∧ (t ∈ keys rj.wr ∨ t ∈ rj.foot)) ∨ (t ∈ keys rj.wr ∧ t ∈ ri.foot) → Bef ops i j

theorem Good.congr {φ : Ph} {L M : Hp} {w : World} (h : Good φ M w) (e : ∀ i, lk L i = lk M i) : Good φ L w := h.sub fun i bl hi => by rw [← e i]; exact hi
theorem Stp.congr {φ φ' : Ph} {L L' M' : Hp} {w w' : World} (h : Stp φ L w φ' M' w') (e : ∀ i, lk L' i = lk M' i) : Stp φ L w φ' L' w' :=
  ⟨h.os, h.tape, h.output, h.size, h.keep, fun j bl b hj => h.fresh j bl b (by rw [← e j]; exact hj)⟩

def addTo (D : Nat → Bool) (i : Nat) : Nat → Bool := fun j => decide (j = i) || D j

section
variable {P : Program} {ops : Array Oper} {rows : List Row} {env : List V} {n : Nat} {L : Hp} {D : Nat → Bool} {i : Nat} {o : Oper} {r : R}

theorem eD_add (ok : RegOK ops rows) (hc : Closed ops D) (hi : rows[i]? = some (o, r)) (hD : D i = false)
    (hpre : ∀ j, Bef ops j i → j ≠ i → D j = true) : eD (addTo D i) 0 rows env = setD (eD D 0 rows env) o.dst r.v := by
  apply List.ext_getElem?
  intro t
  rw [setD_get]
  by_cases hd : o.dst = some t
  · rw [if_pos hd, eD_length]
    have e : (eD (addTo D i) 0 rows env)[t]? = (eD (fun j => decide (j < 0 + i + 1)) 0 rows env)[t]? := by
      refine slotAgree rows 0 env env rfl rfl fun j oj rj hj hdst => ?_
      simp only [Nat.zero_add, addTo]
      rcases Nat.lt_trichotomy j i with h | rfl | h
      · rw [hpre j (ok.slot j i oj rj o r t h hj hi (.inl ⟨hdst, .inl hd⟩)) (by omega)]
        simp; omega
      · simp
      · have : D j = false := by
          cases e : D j with
          | false => rfl
          | true => rw [ok.slot i j o r oj rj t h hi hj (.inl ⟨hd, .inl hdst⟩) D hc e] at hD; cases hD
        rw [this]; simp; omega
    rw [e, eD_succ rows 0 i env o r hi, setD_get, if_pos hd, eD_length]
  · rw [if_neg hd]
    refine slotAgree rows 0 env env rfl rfl fun j oj rj hj hdst => ?_
    simp only [Nat.zero_add, addTo]
    have : j ≠ i := by rintro rfl; rw [hi] at hj; cases hj; exact hd hdst
    simp [this]

theorem hD_add (ok : RegOK ops rows) (hc : Closed ops D) (hi : rows[i]? = some (o, r)) (hD : D i = false)
    (hpre : ∀ j, Bef ops j i → j ≠ i → D j = true) (t : Nat) : lk (Ab.hD (addTo D i) 0 rows L) t = lk (puts (Ab.hD D 0 rows L) r.wr) t := by
  by_cases hk : t ∈ keys r.wr
  · have e : lk (Ab.hD (addTo D i) 0 rows L) t = lk (Ab.hD (fun j => decide (j < 0 + i + 1)) 0 rows L) t := by
      refine lkAgree rows 0 L L rfl fun j oj rj hj hkj => ?_
      simp only [Nat.zero_add, addTo]
      rcases Nat.lt_trichotomy j i with h | rfl | h
      · rw [hpre j (ok.mem j i oj rj o r t h hj hi (.inl ⟨hkj, .inl hk⟩)) (by omega)]
        simp; omega
      · simp
      · have : D j = false := by
          cases e : D j with
          | false => rfl
          | true => rw [ok.mem i j o r oj rj t h hi hj (.inl ⟨hk, .inl hkj⟩) D hc e] at hD; cases hD
        rw [this]; simp; omega
    rw [e, hD_succ rows 0 i L o r hi]
    exact lk_puts_in _ _ _ _ hk
  · rw [lk_puts_out _ _ _ hk]
    refine lkAgree rows 0 L L rfl fun j oj rj hj hkj => ?_
    simp only [Nat.zero_add, addTo]
    have : j ≠ i := by rintro rfl; rw [hi] at hj; cases hj; exact hk hkj
    simp [this]

/-- where operation i looks, the state behind D is the text order's -/
theorem looks_agree (ok : RegOK ops rows) (hc : Closed ops D) (hi : rows[i]? = some (o, r)) (hD : D i = false)
    (hpre : ∀ j, Bef ops j i → j ≠ i → D j = true) : ∀ t ∈ looks ops o, (eD D 0 rows env).getD t .undef = (eD (fun j => decide (j < 0 + i)) 0 rows env).getD t .undef := by
  intro t ht
  have e : (eD D 0 rows env)[t]? = (eD (fun j => decide (j < 0 + i)) 0 rows env)[t]? := by
    refine slotAgree rows 0 env env rfl rfl fun j oj rj hj hdst => ?_
    simp only [Nat.zero_add]
    rcases Nat.lt_trichotomy j i with h | rfl | h
    · rw [hpre j (ok.slot j i oj rj o r t h hj hi (.inl ⟨hdst, .inr ht⟩)) (by omega)]
      simp [h]
    · rw [hD]; simp
    · have : D j = false := by
        cases e : D j with
        | false => rfl
        | true => rw [ok.slot i j o r oj rj t h hi hj (.inr ⟨hdst, ht⟩) D hc e] at hD; cases hD
      rw [this]; simp; omega
  simp only [List.getD_eq_getElem?_getD, e]

theorem foot_agree (ok : RegOK ops rows) (hc : Closed ops D) (hi : rows[i]? = some (o, r)) (hD : D i = false)
    (hpre : ∀ j, Bef ops j i → j ≠ i → D j = true) : ∀ t ∈ r.foot, lk (Ab.hD D 0 rows L) t = lk (Ab.hD (fun j => decide (j < 0 + i)) 0 rows L) t := by
  intro t ht
  refine lkAgree rows 0 L L rfl fun j oj rj hj hkj => ?_
  simp only [Nat.zero_add]
  rcases Nat.lt_trichotomy j i with h | rfl | h
  · rw [hpre j (ok.mem j i oj rj o r t h hj hi (.inl ⟨hkj, .inr ht⟩)) (by omega)]
    simp [h]
  · rw [hD]; simp
  · have : D j = false := by
      cases e : D j with
      | false => rfl
      | true => rw [ok.mem i j o r oj rj t h hi hj (.inr ⟨hkj, ht⟩) D hc e] at hD; cases hD
    rw [this]; simp; omega
end

/-- Where all of an operation's own edges lead into D, all that is before it is in D. -/
theorem bef_in {ops : Array Oper} {D : Nat → Bool} {i : Nat} {o : Oper} (hc : Closed ops D) (hi : ops[i]? = some o)
    (he : ∀ e ∈ o.after.toList, Region.binds .any e = true → D e.on = true) : ∀ j, Bef ops j i → j ≠ i → D j = true := by
  intro j hb hne
  have := hb (addTo D i) ?_ (by simp [addTo])
  · simpa [addTo, hne] using this
  · intro k ok hk hD e hem hbd
    simp only [addTo, Bool.or_eq_true, decide_eq_true_eq] at hD ⊢
    rcases hD with rfl | hD
    · rw [hi] at hk; cases hk; exact .inr (he e hem hbd)
    · exact .inr (hc k ok hk hD e hem hbd)

/-- what holds when the operations of D are done -/
def Inv (P : Program) (rows : List Row) (env : List V) (n : Nat) (L : Hp) (φ₀ : Ph) (w₀ : World) (D : Nat → Bool) (a : Act) (w : World) : Prop :=
  ∃ φ, EnvR φ (eD D 0 rows env) a ∧ Good φ (hD D 0 rows L) w ∧ Stp φ₀ L w₀ φ (hD D 0 rows L) w ∧
    (∀ i, i < rows.length → D i = false → ∀ x, nAt rows n i ≤ x → x < nAt rows n (i + 1) → φ x = none) ∧
    (∀ x, x < n ∨ nAt rows n rows.length ≤ x → φ x = φ₀ x)

def dOf (listed : Array Bool) : Nat → Bool := fun k => listed.getD k false

theorem dOf_set (listed : Array Bool) (i : Nat) (h : i < listed.size) : dOf (listed.setIfInBounds i true) = addTo (dOf listed) i := by
  funext k
  simp only [dOf, addTo, Array.getD_eq_getD_getElem?]
  by_cases hk : k = i
  · subst hk; simp [h]
  · simp [hk, Array.getElem?_setIfInBounds_ne (Ne.symm hk)]

theorem ready_mem {ops : Array Oper} {listed : Array Bool} {i : Nat} (hs : listed.size = ops.size) (h : i ∈ Region.ready .any ops listed) :
    ∃ o, ops[i]? = some o ∧ i < ops.size ∧ dOf listed i = false ∧ ∀ e ∈ o.after.toList, Region.binds .any e = true → dOf listed e.on = true := by
  simp only [Region.ready, List.mem_filter, List.mem_range, Bool.and_eq_true, Bool.not_eq_true'] at h
  obtain ⟨hi, hl, ha⟩ := h
  have ho : ops[i]? = some ops[i] := by simp [hi]
  refine ⟨ops[i], ho, hi, ?_, ?_⟩
  · simp only [dOf, Array.getD_eq_getD_getElem?] at hl ⊢
    have : i < listed.size := by omega
    simp [this] at hl ⊢; exact hl
  · intro e he hb
    simp only [ho, Option.map_some, Option.getD_some] at ha
    rw [← Array.all_toList] at ha
    have := List.all_eq_true.1 ha e he
    simpa [hb, dOf] using this

theorem not_ready {ops : Array Oper} {listed : Array Bool} (hs : listed.size = ops.size) (down : ∀ (i : Nat) o, ops[i]? = some o → ∀ e ∈ o.after.toList, Region.binds .any e = true → e.on < i)
    (h : Region.ready .any ops listed = []) : ∀ i, i < ops.size → dOf listed i = true := by
  intro i
  induction i using Nat.strongRecOn with
  | _ i ih =>
    intro hi
    cases hd : dOf listed i with
    | true => rfl
    | false =>
      exfalso
      have ho : ops[i]? = some ops[i] := by simp [hi]
      have : i ∈ Region.ready .any ops listed := by
        simp only [Region.ready, List.mem_filter, List.mem_range, Bool.and_eq_true, Bool.not_eq_true']
        refine ⟨hi, ?_, ?_⟩
        · simp only [dOf, Array.getD_eq_getD_getElem?] at hd ⊢
          have : i < listed.size := by omega
          simp [this] at hd ⊢; exact hd
        · simp only [ho, Option.map_some, Option.getD_some]
          rw [← Array.all_toList]
          refine List.all_eq_true.2 fun e he => ?_
          cases hb : Region.binds .any e with
          | false => simp
          | true =>
            have hlt := down i _ ho e he hb
            have := ih e.on hlt (by omega)
            simpa [dOf] using this
      rw [h] at this
      cases this

theorem count_set {l : List Bool} {i : Nat} (hi : i < l.length) (h : l[i] = false) : (l.set i true).countP (! ·) + 1 = l.countP (! ·) := by
  induction l generalizing i with
  | nil => simp at hi
  | cons b t ih =>
    cases i with
    | zero => simp at h; subst h; simp [List.countP_cons]
    | succ i =>
      simp only [List.set_cons_succ, List.countP_cons]
      have := ih (i := i) (by simpa using hi) (by simpa using h)
      omega

theorem any_of_inv {P : Program} {ops : Array Oper} {rows : List Row} {env : List V} {n : Nat} {L : Hp} {φ₀ : Ph} {w₀ : World} {Q : Exit → Act → World → Prop}
    (ok : RegOK ops rows) (run : RunOK P ops rows env n L)
    (hQ : ∀ a w, Inv P rows env n L φ₀ w₀ (fun _ => true) a w → Q .normal a w) :
    ∀ (fuel : Nat) (listed : Array Bool) (a : Act) (w : World), listed.size = ops.size → listed.toList.countP (! ·) = fuel → Closed ops (dOf listed) → Inv P rows env n L φ₀ w₀ (dOf listed) a w →
      wpAny P .any ops Q fuel listed a w := by
  have hlen : rows.length = ops.size := by rw [← Array.length_toList, ← ok.hops, List.length_map]
  have fin : ∀ (listed : Array Bool) a w, listed.size = ops.size → Inv P rows env n L φ₀ w₀ (dOf listed) a w → Region.ready .any ops listed = [] → Q .normal a w := by
    intro listed a w hs hinv hr
    refine hQ a w ?_
    have hall := not_ready hs ok.down hr
    obtain ⟨φ, h1, h2, h3, h4, h5⟩ := hinv
    have e1 : eD (dOf listed) 0 rows env = eD (fun _ => true) 0 rows env := by
      apply List.ext_getElem?
      intro t
      refine slotAgree rows 0 env env rfl rfl fun j oj rj hj _ => ?_
      have : j < rows.length := by
        rcases Nat.lt_or_ge j rows.length with h | h
        · exact h
        · simp [List.getElem?_eq_none h] at hj
      simp [hall j (by omega)]
    have e2 : ∀ t, lk (hD (fun _ => true) 0 rows L) t = lk (hD (dOf listed) 0 rows L) t := fun t => by
      refine (lkAgree rows 0 L L rfl fun j oj rj hj _ => ?_).symm
      have : j < rows.length := by
        rcases Nat.lt_or_ge j rows.length with h | h
        · exact h
        · simp [List.getElem?_eq_none h] at hj
      simp [hall j (by omega)]
    exact ⟨φ, e1 ▸ h1, h2.congr e2, h3.congr e2, fun i _ h => by simp at h, h5⟩
  intro fuel
  induction fuel with
  | zero =>
    intro listed a w hs hc _ hinv
    have hr : Region.ready .any ops listed = [] := by
      cases hr : Region.ready .any ops listed with
      | nil => rfl
      | cons i t =>
        exfalso
        obtain ⟨o, ho, hi, hd, _⟩ := ready_mem hs (by rw [hr]; exact .head _)
        have hz : ∀ x ∈ listed.toList, x = true := by
          intro x hx
          have := List.countP_eq_zero.1 hc x hx
          simpa using this
        have : listed[i]'(by omega) = true := hz _ (by simp)
        have hi' : i < listed.size := by omega
        simp [dOf, Array.getD_eq_getD_getElem?, hi', this] at hd
    exact ⟨hr, fin listed a w hs hinv hr⟩
  | succ fuel ih =>
    intro listed a w hs hc hcl hinv
    refine ⟨fin listed a w hs hinv, fun i hi => ?_⟩
    obtain ⟨o, ho, hlt, hd, hedges⟩ := ready_mem hs hi
    have hrow : ∃ r, rows[i]? = some (o, r) := by
      have h1 : (rows.map (·.1))[i]? = some o := by rw [ok.hops]; simpa using ho
      rw [List.getElem?_map] at h1
      cases hx : rows[i]? with
      | none => rw [hx] at h1; cases h1
      | some x => rw [hx] at h1; simp at h1; subst h1; exact ⟨x.2, rfl⟩
    obtain ⟨r, hr⟩ := hrow
    have hpre := bef_in hcl ho hedges
    obtain ⟨hstep, hn'⟩ := run.at rows 0 i env n L o r hr
    have hi' : i < rows.length := by omega
    obtain ⟨φ, h1, h2, h3, h4, h5⟩ := hinv
    refine hstep.wpOp ho (looks_agree ok hcl hr hd hpre) (foot_agree ok hcl hr hd hpre) h1 h2 (fun x hx hx' => h4 i hi' hd x hx (hn' ▸ hx')) ?_
    intro φ' a' w' g1 g2 g3 g4
    have hli : i < listed.size := by omega
    have hdl : listed[i] = false := by simpa [dOf, Array.getD_eq_getD_getElem?, hli] using hd
    refine ih _ a' w' (by simpa using hs) ?_ ?_ ?_
    · have := count_set (l := listed.toList) (i := i) (by simpa using hli) (by simpa using hdl)
      simp only [Array.toList_setIfInBounds]
      omega
    · rw [dOf_set _ _ hli]
      intro k ok' hk hD e hem hbd
      simp only [addTo, Bool.or_eq_true, decide_eq_true_eq] at hD ⊢
      rcases hD with rfl | hD
      · rw [ho] at hk; cases hk; exact .inr (hedges e hem hbd)
      · exact .inr (hcl k ok' hk hD e hem hbd)
    · rw [dOf_set _ _ hli]
      refine ⟨φ', eD_add ok hcl hr hd hpre ▸ g1, g2.congr (hD_add ok hcl hr hd hpre), (h3.trans g3).congr (hD_add ok hcl hr hd hpre), ?_, ?_⟩
      · intro k hk hDk x hx hx'
        simp only [addTo, Bool.or_eq_false_iff, decide_eq_false_iff_not] at hDk
        rw [g4 x ?_]
        · exact h4 k hk hDk.2 x hx hx'
        · rintro ⟨q1, q2⟩
          rw [hn'] at q2
          rcases Nat.lt_trichotomy k i with h | h | h
          · have := run.n_mono rows env n L (k + 1) i (by omega); omega
          · exact hDk.1 h
          · have := run.n_mono rows env n L (i + 1) k (by omega); omega
      · intro x hx
        rw [g4 x ?_]
        · exact h5 x hx
        · rintro ⟨q1, q2⟩
          rw [hn'] at q2
          have m1 := run.n_mono rows env n L 0 i (by omega)
          have m2 := run.n_mono rows env n L (i + 1) rows.length (by omega)
          have m3 : nAt rows n 0 = n := by cases rows <;> rfl
          omega

end Ab
end Go.Proofs.YtgbkllbaojkfmaaGreatDoor
/-
  The frame, part 4: code; numbers renamed; contracts and calls.
-/
set_option linter.unusedSimpArgs false
set_option linter.unusedVariables false
namespace Go.Proofs.YtgbkllbaojkfmaaGreatDoor
namespace Ab
open Go

abbrev Post := Exit → List V → Nat → Hp → Prop

/-- c, begun in a state that fits (env, L), numbers from n on being free, ends in a state that fits one that R allows. -/
def Ex (P : Program) (b : Nat) (c : Code) (env : List V) (n : Nat) (L : Hp) (R : Post) : Prop :=
  ∀ (φ : Ph) (a : Act) (w : World), EnvR φ env a → Good φ L w → (∀ i, n ≤ i → φ i = none) → b ≤ n →
    c.wp P (fun x a' w' => ∃ φ' env' n' L', R x env' n' L' ∧ EnvR φ' env' a' ∧ Good φ' L' w' ∧ (∀ i, n' ≤ i → φ' i = none) ∧ b ≤ n' ∧ Stp φ L w φ' L' w' ∧ (∀ i, i < b → φ' i = φ i)) a w

section
variable {P : Program} {b : Nat} {env : List V} {n : Nat} {L : Hp} {R R' : Post}

theorem Ex.mono {c : Code} (h : Ex P b c env n L R) (hr : ∀ x e m M, R x e m M → R' x e m M) : Ex P b c env n L R' := by
  intro φ a w h1 h2 h3 h4
  refine wp_mono (h φ a w h1 h2 h3 h4) ?_
  rintro x a' w' ⟨φ', e, m, M, hR, rest⟩
  exact ⟨φ', e, m, M, hr _ _ _ _ hR, rest⟩

theorem Ex.here {c : Code} {x : Exit} (hc : ∀ (Q : Exit → Act → World → Prop) a w, Q x a w → c.wp P Q a w) (h : R x env n L) : Ex P b c env n L R := by
  intro φ a w h1 h2 h3 h4
  exact hc _ a w ⟨φ, env, n, L, h, h1, h2, h3, h4, Stp.refl _ _ _, fun _ _ => rfl⟩
theorem Ex.skip (h : R .normal env n L) : Ex P b .skip env n L R := Ex.here (fun _ _ _ h => wp_skip h) h
theorem Ex.ret (h : R .ret env n L) : Ex P b .ret env n L R := Ex.here (fun _ _ _ h => wp_ret h) h
theorem Ex.exit {id : Nat} (h : R (.exit id) env n L) : Ex P b (.exit id) env n L R := Ex.here (fun _ _ _ h => wp_exit h) h

/-- what is to be shown behind the first of two pieces -/
def Then (P : Program) (b : Nat) (y : Code) (R : Post) : Post
  | .normal, e, m, M => Ex P b y e m M R
  | x, e, m, M => R x e m M

theorem Ex.seq {x y : Code} (h : Ex P b x env n L (Then P b y R)) : Ex P b (.seq x y) env n L R := by
  intro φ a w h1 h2 h3 h4
  refine wp_seq (wp_mono (h φ a w h1 h2 h3 h4) ?_)
  rintro e a' w' ⟨φ', e', m, M, hR, g1, g2, g3, g4, g5, g6⟩
  cases e with
  | normal =>
    simp only [Exit.then]
    refine wp_mono (hR φ' a' w' g1 g2 g3 g4) ?_
    rintro x a'' w'' ⟨φ'', e'', m', M', hR', k1, k2, k3, k4, k5, k6⟩
    exact ⟨φ'', e'', m', M', hR', k1, k2, k3, k4, g5.trans k5, fun i hi => (k6 i hi).trans (g6 i hi)⟩
  | _ => exact ⟨φ', e', m, M, hR, g1, g2, g3, g4, g5, g6⟩

theorem Ex.cond {c : Operand} {x y : Code} {t : Bool} (hc : ev env c = .s (.bool t)) (h : Ex P b (match t with | true => x | false => y) env n L R) : Ex P b (.cond c x y) env n L R := by
  intro φ a w h1 h2 h3 h4
  have := h1.ev c
  rw [hc] at this
  simp only [Vr, Sr] at this
  refine wp_cond this ?_
  have h' := h φ a w h1 h2 h3 h4
  cases t <;> exact h'

def InBlock (id : Nat) (R : Post) : Post
  | .exit id', e, m, M => match Nat.beq id' id with | true => R .normal e m M | false => R (.exit id') e m M
  | x, e, m, M => R x e m M

theorem Ex.block {id : Nat} {c : Code} (h : Ex P b c env n L (InBlock id R)) : Ex P b (.block id c) env n L R := by
  intro φ a w h1 h2 h3 h4
  refine wp_block (wp_mono (h φ a w h1 h2 h3 h4) ?_)
  rintro e a' w' ⟨φ', e', m, M, hR, g⟩
  cases e with
  | exit id' =>
    simp only [Exit.inBlock]
    by_cases hi : id' = id
    · subst hi
      rw [if_pos rfl]
      simp only [InBlock, Nat.beq_refl] at hR
      exact ⟨φ', e', m, M, hR, g⟩
    · rw [if_neg hi]
      simp only [InBlock, beq_no hi] at hR
      exact ⟨φ', e', m, M, hR, g⟩
  | _ => exact ⟨φ', e', m, M, hR, g⟩

/-! ### regions -/
theorem Inv.zero {rows : List Row} {φ : Ph} {a : Act} {w : World} (h1 : EnvR φ env a) (h2 : Good φ L w) (h3 : ∀ i, n ≤ i → φ i = none) (mono : ∀ i, n ≤ nAt rows n i) :
    Inv P rows env n L φ w (fun _ => false) a w := by
  refine ⟨φ, ?_, ?_, ?_, ?_, fun _ _ => rfl⟩
  · rw [eD_none _ _ _ (fun _ _ => rfl)]; exact h1
  · rw [hD_none _ _ _ (fun _ _ => rfl)]; exact h2
  · rw [hD_none _ _ _ (fun _ _ => rfl)]; exact Stp.refl _ _ _
  · intro i _ _ x hx _; exact h3 x (Nat.le_trans (mono i) hx)

theorem good_drawn {φ : Ph} {w : World} {d : Nat} (h : Good φ L w) : Good φ L { w with drawn := d } := ⟨h.hr, h.inj⟩
theorem stp_drawn {φ φ' : Ph} {L' : Hp} {w w' : World} {d : Nat} (h : Stp φ L { w with drawn := d } φ' L' w') : Stp φ L w φ' L' w' := ⟨h.os, h.tape, h.output, h.size, h.keep, h.fresh⟩

def regPost (rows : List Row) (env : List V) (n : Nat) (L : Hp) (R : Post) : Prop := R .normal (eD (fun _ => true) 0 rows env) (nAt rows n rows.length) (hD (fun _ => true) 0 rows L)

theorem Ex.regionDraw (hm : P.follows .mixedOrders = true) {id : Nat} {ops : Array Oper} {rows : List Row} (ok : RegOK ops rows) (run : RunOK P ops rows env n L) (h : regPost rows env n L R) :
    Ex P b (.region id ops true) env n L R := by
  intro φ a w h1 h2 h3 h4
  have mono : ∀ i, n ≤ nAt rows n i := fun i => by
    have := run.n_mono rows env n L 0 i (by omega)
    have m3 : nAt rows n 0 = n := by cases rows <;> rfl
    omega
  refine wp_region_any hm (any_of_inv (φ₀ := φ) (w₀ := { w with drawn := w.drawn + 1 }) ok run ?_ ops.size _ a _ (by simp) ?_ ?_ ?_)
  · rintro a' w' ⟨φ', g1, g2, g3, _, g5⟩
    refine ⟨φ', _, _, _, h, g1, g2, fun i hi => ?_, Nat.le_trans h4 (mono _), stp_drawn g3, fun i hi => g5 i (.inl (by omega))⟩
    rw [g5 i (.inr hi)]; exact h3 i (Nat.le_trans (mono _) hi)
  · rw [Array.toList_replicate]; simp [List.countP_replicate]
  · intro j o _ hD; simp [dOf, Array.getD_eq_getD_getElem?, Array.getElem?_replicate] at hD
    split at hD <;> simp at hD
  · have : dOf (Array.replicate ops.size false) = fun _ => false := by
      funext k; simp only [dOf, Array.getD_eq_getD_getElem?, Array.getElem?_replicate]; split <;> rfl
    rw [this]
    exact Inv.zero h1 (good_drawn h2) h3 mono

theorem run_text {ops : Array Oper} {Q : Exit → Act → World → Prop} {φ₀ : Ph} {w₀ : World} {L₀ : Hp} {n₀ : Nat} : ∀ (rows : List Row) (k : Nat) (env : List V) (n : Nat) (L : Hp) (φ : Ph) (a : Act) (w : World),
    (∀ j, ops[k + j]? = (rows[j]?).map (·.1)) → RunOK P ops rows env n L → EnvR φ env a → Good φ L w → (∀ i, n ≤ i → φ i = none) → n₀ ≤ n → Stp φ₀ L₀ w₀ φ L w → (∀ i, i < n₀ → φ i = φ₀ i) →
    (∀ φ' a' w', EnvR φ' (eD (fun _ => true) k rows env) a' → Good φ' (hD (fun _ => true) k rows L) w' → (∀ i, nAt rows n rows.length ≤ i → φ' i = none) →
      n₀ ≤ nAt rows n rows.length → Stp φ₀ L₀ w₀ φ' (hD (fun _ => true) k rows L) w' → (∀ i, i < n₀ → φ' i = φ₀ i) → Q .normal a' w') →
    wpOps P ops Q (List.range' k rows.length) a w
  | [], k, env, n, L, φ, a, w, _, _, h1, h2, h3, h4, h5, h6, hQ => hQ φ a w h1 h2 h3 h4 h5 h6
  | (o, r) :: rows, k, env, n, L, φ, a, w, ho, hr, h1, h2, h3, h4, h5, h6, hQ => by
    rw [List.length_cons, List.range'_succ, wpOps_cons]
    have hle := hr.1.n_le
    refine hr.1.wpOp (i := k) (by simpa using ho 0) (fun _ _ => rfl) (fun _ _ => rfl) h1 h2 (fun i hi _ => h3 i hi) ?_
    intro φ' a' w' g1 g2 g3 g4
    refine run_text rows (k + 1) _ _ _ φ' a' w' (fun j => by rw [show k + 1 + j = k + (j + 1) by omega]; simpa using ho (j + 1)) hr.2 g1 g2 ?_ (by omega) (h5.trans g3) ?_ hQ
    · intro i hi
      rw [g4 i (by omega)]; exact h3 i (by omega)
    · intro i hi
      rw [g4 i (by omega)]; exact h6 i hi

theorem Ex.regionText {id : Nat} {ops : Array Oper} {rows : List Row} (hops : rows.map (·.1) = ops.toList) (run : RunOK P ops rows env n L) (h : regPost rows env n L R) :
    Ex P b (.region id ops false) env n L R := by
  intro φ a w h1 h2 h3 h4
  have hlen : rows.length = ops.size := by rw [← Array.length_toList, ← hops, List.length_map]
  refine wp_region ?_
  rw [List.range_eq_range', ← hlen]
  refine run_text (n₀ := b) rows 0 env n L φ a w (fun j => by rw [Nat.zero_add, ← Array.getElem?_toList, ← hops, List.getElem?_map]) run h1 h2 h3 h4 (Stp.refl _ _ _) (fun _ _ => rfl) ?_
  intro φ' a' w' g1 g2 g3 g4 g5 g6
  exact ⟨φ', _, _, _, h, g1, g2, g3, g4, g5, g6⟩
end

/-! ### forgetting -/
def okS (n : Nat) : S → Bool
  | .ptr (some (i, _)) => Nat.blt i n
  | .slc (some (i, _)) _ _ => Nat.blt i n
  | .sla i g _ => Nat.blt i n && Nat.blt g n
  | .map (some i) => Nat.blt i n
  | .itr r m => Nat.blt r n && Nat.blt m n
  | .clo _ ps => ps.all fun p => Nat.blt p.1 n
  | .opq _ t _ => t.lt n
  | _ => true
def okU (n : Nat) : U → Bool
  | .s x => okS n x
  | .agg l => l.all (okS n)
def okV (n : Nat) : V → Bool
  | .s x => okS n x
  | .agg l => l.all (okS n)
  | .tup l => l.all (okU n)
  | .w i g _ _ _ => Nat.blt i n && Nat.blt g n
  | _ => true
def okG (n : Nat) : Option (Nat × Nat) → Bool
  | some (g, _) => Nat.blt g n
  | none => true
def okB (n : Nat) (bl : Bl) : Bool := okG n bl.gh && match bl.flat with | true => true | false => bl.cells.all (okS n)
def okH (n : Nat) : Hp → Bool
  | [] => true
  | (i, some bl) :: t => Nat.blt i n && okB n bl && okH n t
  | (_, none) :: t => okH n t
def cutPh (n : Nat) (φ : Ph) : Ph := fun i => if i < n then φ i else none

theorem blt_iff {i n : Nat} : Nat.blt i n = true ↔ i < n := by
  unfold Nat.blt; rw [Nat.ble_eq]; omega
theorem Tm.ev_cut {φ : Ph} {n : Nat} : ∀ {t : Tm}, t.lt n = true → t.ev (cutPh n φ) = t.ev φ
  | .v i, h => by simp only [Tm.ev, cutPh, if_pos (blt_iff.1 h)]
  | .c _, _ => rfl
  | .bin o k a b, h => by
    simp only [Tm.lt, Bool.and_eq_true] at h
    simp only [Tm.ev, Tm.ev_cut h.1, Tm.ev_cut h.2]
theorem ptrs_cut {φ : Ph} {n : Nat} : ∀ {ps : List (Nat × Nat)} {vs : List Value}, All2 (PtrR φ) ps vs → (ps.all fun p => Nat.blt p.1 n) = true → All2 (PtrR (cutPh n φ)) ps vs
  | [], [], _, _ => trivial
  | p :: ps, v :: vs, h, ok => by
    simp only [List.all_cons, Bool.and_eq_true] at ok
    obtain ⟨b, hb, hv⟩ := h.1
    exact ⟨⟨b, by simp only [cutPh, if_pos (blt_iff.1 ok.1)]; exact hb, hv⟩, ptrs_cut h.2 ok.2⟩
  | [], _ :: _, h, _ => h.elim
  | _ :: _, [], h, _ => h.elim
theorem Sr.cut {φ : Ph} {n : Nat} {x : S} {v : Value} (h : Sr φ x v) (ok : okS n x = true) : Sr (cutPh n φ) x v := by
  cases x with
  | unk | bool | int | str | junk | emp | fn | gp => exact h
  | map a =>
    rcases a with _ | i
    · exact h
    · obtain ⟨b, hb, hv⟩ := h; exact ⟨b, by simp only [cutPh, if_pos (blt_iff.1 ok)]; exact hb, hv⟩
  | itr r m =>
    simp only [okS, Bool.and_eq_true] at ok
    obtain ⟨b, hb, hv⟩ := h; exact ⟨b, by simp only [cutPh, if_pos (blt_iff.1 ok.1)]; exact hb, hv⟩
  | clo f ps => obtain ⟨vs, hv, ha⟩ := h; exact ⟨vs, hv, ptrs_cut ha ok⟩
  | opq k t K => obtain ⟨z, hb, hv⟩ := h; exact ⟨z, (Tm.ev_cut ok).trans hb, hv⟩
  | sla i g m =>
    simp only [okS, Bool.and_eq_true] at ok
    obtain ⟨b, k, hb, hg, hv⟩ := h
    exact ⟨b, k, by simp only [cutPh, if_pos (blt_iff.1 ok.1)]; exact hb, by simp only [cutPh, if_pos (blt_iff.1 ok.2)]; exact hg, hv⟩
  | ptr a =>
    rcases a with _ | ⟨i, o⟩
    · exact h
    · obtain ⟨b, hb, hv⟩ := h; exact ⟨b, by simp only [cutPh, if_pos (blt_iff.1 ok)]; exact hb, hv⟩
  | slc a m c =>
    rcases a with _ | ⟨i, o⟩
    · exact h
    · obtain ⟨b, k, hb, hv⟩ := h; exact ⟨b, k, by simp only [cutPh, if_pos (blt_iff.1 ok)]; exact hb, hv⟩
theorem all2_cut {φ : Ph} {n : Nat} : ∀ {l : List S} {xs : List Value}, All2 (Sr φ) l xs → l.all (okS n) = true → All2 (Sr (cutPh n φ)) l xs
  | [], [], _, _ => trivial
  | _ :: _, _ :: _, h, ok => by
    simp only [List.all_cons, Bool.and_eq_true] at ok
    exact ⟨h.1.cut ok.1, all2_cut h.2 ok.2⟩
  | [], _ :: _, h, _ => h.elim
  | _ :: _, [], h, _ => h.elim
theorem Ur.cut {φ : Ph} {n : Nat} {x : U} {v : Value} (h : Ur φ x v) (ok : okU n x = true) : Ur (cutPh n φ) x v := by
  cases x with
  | s x => exact Sr.cut h ok
  | agg l => obtain ⟨xs, hv, ha⟩ := h; exact ⟨xs, hv, all2_cut ha ok⟩
theorem all2_cutU {φ : Ph} {n : Nat} : ∀ {l : List U} {xs : List Value}, All2 (Ur φ) l xs → l.all (okU n) = true → All2 (Ur (cutPh n φ)) l xs
  | [], [], _, _ => trivial
  | _ :: _, _ :: _, h, ok => by
    simp only [List.all_cons, Bool.and_eq_true] at ok
    exact ⟨h.1.cut ok.1, all2_cutU h.2 ok.2⟩
  | [], _ :: _, h, _ => h.elim
  | _ :: _, [], h, _ => h.elim
theorem Vr.cut {φ : Ph} {n : Nat} {x : V} {v : Value} (h : Vr φ x v) (ok : okV n x = true) : Vr (cutPh n φ) x v := by
  cases x with
  | any => trivial
  | undef => exact h
  | s x => exact Sr.cut h ok
  | agg l => obtain ⟨xs, hv, ha⟩ := h; exact ⟨xs, hv, all2_cut ha ok⟩
  | tup l => obtain ⟨xs, hv, ha⟩ := h; exact ⟨xs, hv, all2_cutU ha ok⟩
  | w i g sz j m =>
    simp only [okV, Bool.and_eq_true] at ok
    obtain ⟨b, k, hb, hg, hv⟩ := h
    exact ⟨b, k, by simp only [cutPh, if_pos (blt_iff.1 ok.1)]; exact hb, by simp only [cutPh, if_pos (blt_iff.1 ok.2)]; exact hg, hv⟩
theorem all2_cutV {φ : Ph} {n : Nat} : ∀ {l : List V} {xs : List Value}, All2 (Vr φ) l xs → l.all (okV n) = true → All2 (Vr (cutPh n φ)) l xs
  | [], [], _, _ => trivial
  | _ :: _, _ :: _, h, ok => by
    simp only [List.all_cons, Bool.and_eq_true] at ok
    exact ⟨h.1.cut ok.1, all2_cutV h.2 ok.2⟩
  | [], _ :: _, h, _ => h.elim
  | _ :: _, [], h, _ => h.elim
theorem okH_at {n : Nat} : ∀ {L : Hp} {i : Nat} {bl : Bl}, okH n L = true → lk L i = some bl → i < n ∧ okB n bl = true
  | [], _, _, _, h => by simp [lk] at h
  | (j, c) :: t, i, bl, ok, h => by
    rw [lk_cons] at h
    cases c with
    | none =>
      simp only [okH] at ok
      split at h
      · cases h
      · exact okH_at ok h
    | some c =>
      simp only [okH, Bool.and_eq_true] at ok
      split at h
      · rename_i e; subst e; cases h; exact ⟨blt_iff.1 ok.1.1, ok.1.2⟩
      · exact okH_at ok.2 h
theorem BlAt.cut {φ : Ph} {n : Nat} {w : World} {b : Nat × Nat} {bl : Bl} (h : BlAt φ w b bl) (ok : okB n bl = true) : BlAt (cutPh n φ) w b bl := by
  obtain ⟨pre, xs, rest, fr, h1, hp, h2, h3, h4, h5⟩ := h
  unfold okB at ok
  simp only [Bool.and_eq_true] at ok
  obtain ⟨okg, ok⟩ := ok
  refine ⟨pre, xs, rest, fr, h1, hp, ?_, h3, h4, fun g z e => ?_, h5.2⟩
  rotate_left
  · obtain ⟨k, hk, hz⟩ := h5.1 g z e
    rw [e] at okg
    exact ⟨k, by simp only [cutPh, if_pos (blt_iff.1 okg)]; exact hk, hz⟩
  unfold Bl.ph at h2 ⊢
  cases hf : bl.flat with
  | true => simp only [hf] at h2 ⊢; exact h2
  | false => simp only [hf] at h2 ok ⊢; exact all2_cut h2 ok
theorem Good.cut {φ : Ph} {n : Nat} {L : Hp} {w : World} (h : Good φ L w) (ok : okH n L = true) : Good (cutPh n φ) L w := by
  refine ⟨fun i bl hi => ?_, fun i j bl bl' b b' hi hj hb hb' => ?_⟩
  · obtain ⟨b, hb, hat⟩ := h.hr i bl hi
    obtain ⟨hlt, hok⟩ := okH_at ok hi
    exact ⟨b, by simp only [cutPh, if_pos hlt]; exact hb, hat.cut hok⟩
  · have h1 := (okH_at ok hi).1
    have h2 := (okH_at ok hj).1
    simp only [cutPh, if_pos h1] at hb
    simp only [cutPh, if_pos h2] at hb'
    exact h.inj i j bl bl' b b' hi hj hb hb'

/-- the slots that are kept -/
def wkE (keep : List Nat) : Nat → List V → List V
  | _, [] => []
  | i, v :: t => (match keep.elem i with | true => v | false => .any) :: wkE keep (i + 1) t
theorem wkE_r {φ : Ph} {keep : List Nat} : ∀ {i : Nat} {env : List V} {xs : List Value}, All2 (Vr φ) env xs → All2 (Vr φ) (wkE keep i env) xs
  | _, [], [], _ => trivial
  | i, v :: t, x :: xs, h => by
    simp only [wkE]
    refine ⟨?_, wkE_r h.2⟩
    cases keep.elem i
    · trivial
    · exact h.1
  | _, [], _ :: _, h => h.elim
  | _, _ :: _, [], h => h.elim

/-- From (env, L) on one may go on as if in (env', L'), numbers from n on being free. -/
structure Wk (n : Nat) (env : List V) (L : Hp) (env' : List V) (L' : Hp) : Prop where
  e : ∀ φ xs, All2 (Vr φ) env xs → All2 (Vr φ) env' xs
  l : ∀ φ w, Good φ L w → Good φ L' w
  s : ∀ i bl, lk L' i = some bl → ∃ bl', lk L i = some bl' ∧ (bl'.ro = true → bl.ro = true)
  okE : env'.all (okV n) = true
  okL : okH n L' = true

theorem Wk.of {n : Nat} {env : List V} {L : Hp} {env' : List V} {L' : Hp} (keep : List Nat) (he : wkE keep 0 env = env') (hl : Sub L' L) (o1 : env'.all (okV n) = true) (o2 : okH n L' = true) : Wk n env L env' L' :=
  ⟨fun φ xs h => he ▸ wkE_r h, fun _ _ h => h.sub hl, fun i bl h => ⟨bl, hl i bl h, id⟩, o1, o2⟩

theorem Wk.use {n : Nat} {env : List V} {L : Hp} {env' : List V} {L' : Hp} (h : Wk n env L env' L') {φ₀ φ : Ph} {L₀ : Hp} {w₀ w : World} {a : Act} (h1 : EnvR φ env a) (h2 : Good φ L w) (h3 : Stp φ₀ L₀ w₀ φ L w) :
    EnvR (cutPh n φ) env' a ∧ Good (cutPh n φ) L' w ∧ (∀ i, n ≤ i → cutPh n φ i = none) ∧ Stp φ₀ L₀ w₀ (cutPh n φ) L' w ∧ (∀ i, i < n → cutPh n φ i = φ i) := by
  refine ⟨⟨h1.1, all2_cutV (h.e φ _ h1.2) h.okE⟩, (h.l φ w h2).cut h.okL, fun i hi => by simp [cutPh]; omega, ⟨h3.os, h3.tape, h3.output, h3.size, h3.keep, ?_⟩, fun i hi => by simp [cutPh, hi]⟩
  intro j bl b hj hb hlt
  obtain ⟨bl', hj', hro⟩ := h.s j bl hj
  simp only [cutPh] at hb
  split at hb
  · obtain ⟨k, bk, c, hk, hpk, hc, hr, ho⟩ := h3.fresh j bl' b hj' hb hlt
    exact ⟨k, bk, c, hk, hpk, hc, fun e => hro (hr e), ho⟩
  · cases hb

theorem Ex.wk {P : Program} {b : Nat} {c : Code} {env : List V} {n : Nat} {L : Hp} {R : Post} {n' : Nat} {env' : List V} {L' : Hp} (hb : b ≤ n') (h : Wk n' env L env' L') (hx : Ex P b c env' n' L' R) : Ex P b c env n L R := by
  intro φ a w h1 h2 h3 h4
  obtain ⟨g1, g2, g3, g4, g5⟩ := h.use h1 h2 (Stp.refl φ L w)
  refine wp_mono (hx _ a w g1 g2 g3 hb) ?_
  rintro x a' w' ⟨φ', e, m, M, hR, k1, k2, k3, k4, k5, k6⟩
  exact ⟨φ', e, m, M, hR, k1, k2, k3, k4, g4.trans k5, fun i hi => (k6 i hi).trans (g5 i (by omega))⟩

/-! ### loops: I counts the rounds that are still to come -/
theorem Ex.loop {P : Program} {b : Nat} {c : Code} {n : Nat} {R : Post} (I : Nat → List V → Hp → Prop) (hb : b ≤ n)
    (step : ∀ k env L, I (k + 1) env L → Ex P b c env n L fun x e m M => (x = .normal ∧ ∃ e' M', Wk n e M e' M' ∧ I k e' M') ∨ (x ≠ .normal ∧ R x e m M))
    (last : ∀ env L, I 0 env L → Ex P b c env n L fun x e m M => x ≠ .normal ∧ R x e m M) :
    ∀ k env L, I k env L → Ex P b (.loop c) env n L R := by
  intro k env L hI φ a w h1 h2 h3 h4
  refine wp_loop_rounds (k + 1) ?_
  have key : ∀ k env L φ₁ a₁ w₁, I k env L → EnvR φ₁ env a₁ → Good φ₁ L w₁ → (∀ i, n ≤ i → φ₁ i = none) → ∀ (φ₀ : Ph) (L₀ : Hp) (w₀ : World), Stp φ₀ L₀ w₀ φ₁ L w₁ → (∀ i, i < b → φ₁ i = φ₀ i) →
      Code.rounds P c (fun x a' w' => ∃ φ' env' n' L', R x env' n' L' ∧ EnvR φ' env' a' ∧ Good φ' L' w' ∧ (∀ i, n' ≤ i → φ' i = none) ∧ b ≤ n' ∧ Stp φ₀ L₀ w₀ φ' L' w' ∧ (∀ i, i < b → φ' i = φ₀ i)) (k + 1) a₁ w₁ := by
    intro k
    induction k with
    | zero =>
      intro env L φ₁ a₁ w₁ hI h1 h2 h3 φ₀ L₀ w₀ h5 h6
      rw [rounds_succ]
      refine wp_mono (last env L hI φ₁ a₁ w₁ h1 h2 h3 hb) ?_
      rintro x a' w' ⟨φ', e, m, M, ⟨hx, hR⟩, k1, k2, k3, k4, k5, k6⟩
      cases x with
      | normal => exact absurd rfl hx
      | _ => exact ⟨φ', e, m, M, hR, k1, k2, k3, k4, h5.trans k5, fun i hi => (k6 i hi).trans (h6 i hi)⟩
    | succ k ih =>
      intro env L φ₁ a₁ w₁ hI h1 h2 h3 φ₀ L₀ w₀ h5 h6
      rw [rounds_succ]
      refine wp_mono (step k env L hI φ₁ a₁ w₁ h1 h2 h3 hb) ?_
      rintro x a' w' ⟨φ', e, m, M, hcase, k1, k2, k3, k4, k5, k6⟩
      rcases hcase with ⟨rfl, e', M', hwk, hI'⟩ | ⟨hx, hR⟩
      · simp only [Exit.then]
        obtain ⟨g1, g2, g3, g4, g5⟩ := hwk.use k1 k2 (h5.trans k5)
        exact ih e' M' _ a' w' hI' g1 g2 g3 φ₀ L₀ w₀ g4 (fun i hi => (g5 i (by omega)).trans ((k6 i hi).trans (h6 i hi)))
      · cases x with
        | normal => exact absurd rfl hx
        | _ => exact ⟨φ', e, m, M, hR, k1, k2, k3, k4, h5.trans k5, fun i hi => (k6 i hi).trans (h6 i hi)⟩
  exact key k env L φ a w hI h1 h2 h3 φ L w (Stp.refl _ _ _) (fun _ _ => rfl)

end Ab
end Go.Proofs.YtgbkllbaojkfmaaGreatDoor
/-
  The frame, part 5: numbers renamed; contracts; a function entered; a call.
-/
set_option linter.unusedSimpArgs false
set_option linter.unusedVariables false
namespace Go.Proofs.YtgbkllbaojkfmaaGreatDoor
namespace Ab
open Go

/-! ### renaming -/
def renS (r : Nat → Nat) : S → S
  | .ptr (some (i, o)) => .ptr (some (r i, o))
  | .slc (some (i, o)) n c => .slc (some (r i, o)) n c
  | .sla i g n => .sla (r i) (r g) n
  | .map (some i) => .map (some (r i))
  | .itr i m => .itr (r i) (r m)
  | .clo f ps => .clo f (ps.map fun p => (r p.1, p.2))
  | .opq k t K => .opq k (t.ren r) K
  | x => x
def renU (r : Nat → Nat) : U → U
  | .s x => .s (renS r x)
  | .agg l => .agg (l.map (renS r))
def renV (r : Nat → Nat) : V → V
  | .s x => .s (renS r x)
  | .agg l => .agg (l.map (renS r))
  | .tup l => .tup (l.map (renU r))
  | .w i g sz k m => .w (r i) (r g) sz k m
  | x => x
def renG (r : Nat → Nat) : Option (Nat × Nat) → Option (Nat × Nat)
  | some (g, z) => some (r g, z)
  | none => none
def renB (r : Nat → Nat) (bl : Bl) : Bl := match bl.flat with | true => { bl with gh := renG r bl.gh } | false => { bl with cells := bl.cells.map (renS r), gh := renG r bl.gh }

theorem renB_ro (r : Nat → Nat) (bl : Bl) : (renB r bl).ro = bl.ro := by unfold renB; split <;> rfl

theorem Sr_ren {φ : Ph} {r : Nat → Nat} {x : S} {v : Value} : Sr φ (renS r x) v ↔ Sr (fun i => φ (r i)) x v := by
  cases x with
  | unk | bool | int | str | sla | junk | emp | fn | gp | itr => exact Iff.rfl
  | clo f ps =>
    have key : ∀ {ps : List (Nat × Nat)} {vs : List Value}, All2 (PtrR φ) (ps.map fun p => (r p.1, p.2)) vs ↔ All2 (PtrR fun i => φ (r i)) ps vs := by
      intro ps
      induction ps with
      | nil => intro vs; cases vs <;> exact Iff.rfl
      | cons p t ih => intro vs; cases vs with
        | nil => exact Iff.rfl
        | cons v vs => exact and_congr Iff.rfl ih
    simp only [renS, Sr, key]
  | opq k t K => simp only [renS, Sr, Tm.ev_ren]
  | map a => rcases a with _ | i <;> exact Iff.rfl
  | ptr a => rcases a with _ | ⟨i, o⟩ <;> exact Iff.rfl
  | slc a n c => rcases a with _ | ⟨i, o⟩ <;> exact Iff.rfl
theorem all2_ren {φ : Ph} {r : Nat → Nat} : ∀ {l : List S} {xs : List Value}, All2 (Sr φ) (l.map (renS r)) xs ↔ All2 (Sr fun i => φ (r i)) l xs
  | [], [] => Iff.rfl
  | _ :: _, _ :: _ => and_congr Sr_ren all2_ren
  | [], _ :: _ => Iff.rfl
  | _ :: _, [] => Iff.rfl
theorem Ur_ren {φ : Ph} {r : Nat → Nat} {x : U} {v : Value} : Ur φ (renU r x) v ↔ Ur (fun i => φ (r i)) x v := by
  cases x with
  | s x => exact Sr_ren
  | agg l => simp only [Ur, renU, all2_ren]
theorem all2_renU {φ : Ph} {r : Nat → Nat} : ∀ {l : List U} {xs : List Value}, All2 (Ur φ) (l.map (renU r)) xs ↔ All2 (Ur fun i => φ (r i)) l xs
  | [], [] => Iff.rfl
  | _ :: _, _ :: _ => and_congr Ur_ren all2_renU
  | [], _ :: _ => Iff.rfl
  | _ :: _, [] => Iff.rfl
theorem Vr_ren {φ : Ph} {r : Nat → Nat} {x : V} {v : Value} : Vr φ (renV r x) v ↔ Vr (fun i => φ (r i)) x v := by
  cases x with
  | any | undef => exact Iff.rfl
  | s x => exact Sr_ren
  | agg l => simp only [Vr, renV, all2_ren]
  | tup l => simp only [Vr, renV, all2_renU]
  | w => exact Iff.rfl
theorem BlAt_ren {φ : Ph} {r : Nat → Nat} {w : World} {b : Nat × Nat} {bl : Bl} : BlAt φ w b (renB r bl) ↔ BlAt (fun i => φ (r i)) w b bl := by
  have hg : ∀ (m : Nat), (∀ g z, renG r bl.gh = some (g, z) → ∃ k, φ g = some (k, 0) ∧ k * z ≤ m) ↔ (∀ g z, bl.gh = some (g, z) → ∃ k, φ (r g) = some (k, 0) ∧ k * z ≤ m) := by
    intro m
    constructor
    · intro h g z e
      exact h (r g) z (by rw [e]; rfl)
    · intro h g z e
      cases hb : bl.gh with
      | none => rw [hb] at e; cases e
      | some p =>
        obtain ⟨g0, z0⟩ := p
        rw [hb] at e
        simp only [renG, Option.some.injEq, Prod.mk.injEq] at e
        obtain ⟨rfl, rfl⟩ := e
        exact h g0 z0 hb
  unfold renB
  cases hf : bl.flat with
  | true => simp only [BlAt, Bl.ph, hf, hg]
  | false => simp only [BlAt, Bl.ph, hf, all2_ren, hg]

theorem BlAt.weaken {φ : Ph} {w : World} {b : Nat × Nat} {bl : Bl} (h : BlAt φ w b bl) (ro : Bool) (hr : bl.ro = true → ro = true) : BlAt φ w b { bl with ro := ro } := by
  obtain ⟨pre, xs, rest, fr, h1, hp, h2, h3, h4, h5⟩ := h
  exact ⟨pre, xs, rest, fr, h1, hp, h2, h3, fun e => h4 (by cases hb : bl.ro with | false => rfl | true => have := hr hb; simp at e; rw [e] at this; cases this), h5⟩

/-! ### contracts -/
def SC (P : Program) (f : FuncId) (args : List V) (n : Nat) (L : Hp) (v : V) (n' : Nat) (L' : Hp) : Prop :=
  ∀ (φ : Ph) (xs : List Value) (w : World), All2 (Vr φ) args xs → Good φ L w → (∀ i, n ≤ i → φ i = none) →
    Calls P f xs.toArray w fun e w' => ∃ φ' x, e = .returned x ∧ Vr φ' v x ∧ Good φ' L' w' ∧ (∀ i, n' ≤ i → φ' i = none) ∧ Stp φ L w φ' L' w' ∧ n ≤ n' ∧ (∀ i, i < n → φ' i = φ i)

/-- the caller's number of the callee's number i: 'tbl' for what it was handed, then from 'new' on -/
def rn (tbl : List Nat) (new : Nat) (i : Nat) : Nat := match Nat.blt i tbl.length with | true => tbl.getD i 0 | false => new + (i - tbl.length)
theorem rn_lt {tbl : List Nat} {new i : Nat} (h : i < tbl.length) : rn tbl new i = tbl.getD i 0 := by unfold rn; rw [blt_iff.2 h]
theorem rn_ge {tbl : List Nat} {new i : Nat} (h : ¬ i < tbl.length) : rn tbl new i = new + (i - tbl.length) := by
  unfold rn
  have : Nat.blt i tbl.length = false := by
    cases e : Nat.blt i tbl.length with
    | false => rfl
    | true => exact absurd (blt_iff.1 e) h
  rw [this]

/-- what the caller must hold ready -/
structure Fits (tbl : List Nat) (new n0' : Nat) (L0 : Hp) (M : Hp) : Prop where
  old : ∀ i, i < tbl.length → ¬ (new ≤ tbl.getD i 0 ∧ tbl.getD i 0 < new + (n0' - tbl.length))
  fit : ∀ i bl0, lk L0 i = some bl0 → i < tbl.length ∧ ∃ bl', lk M (tbl.getD i 0) = some bl' ∧ { renB (rn tbl new) bl0 with ro := bl'.ro } = bl' ∧ (bl'.ro = true → bl0.ro = true)
  ali : ∀ i j bl bl', lk L0 i = some bl → lk L0 j = some bl' → tbl.getD i 0 = tbl.getD j 0 → i = j ∨ (bl.ro = true ∧ bl'.ro = true)

/-- what the caller then holds -/
def After (tbl : List Nat) (new : Nat) (L0 L0' M M' : Hp) : Prop :=
  ∀ x bl, lk M' x = some bl →
    (∃ i bl0, rn tbl new i = x ∧ lk L0' i = some bl0 ∧ bl = renB (rn tbl new) bl0 ∧ (tbl.length ≤ i ∨ ∃ b, lk L0 i = some b ∧ b.ro = false)) ∨
    (lk M x = some bl ∧ ∀ i, i < tbl.length → tbl.getD i 0 = x → ∀ b, lk L0 i = some b → b.ro = true)

theorem renFrame {φ φc' : Ph} {tbl : List Nat} {new n0' : Nat} {L0 L0' M M' : Hp} {w w' : World} (hn : tbl.length ≤ n0') (hM : Good φ M w) (ft : Fits tbl new n0' L0 M)
    (h' : Good φc' L0' w') (st : Stp (cutPh tbl.length fun i => φ (rn tbl new i)) L0 w φc' L0' w') (hag : ∀ i, i < tbl.length → φc' i = (cutPh tbl.length fun i => φ (rn tbl new i)) i)
    (hnone : ∀ i, n0' ≤ i → φc' i = none) (hfree : ∀ i, new ≤ i → i < new + (n0' - tbl.length) → φ i = none) (af : After tbl new L0 L0' M M') :
    ∃ φ' : Ph, (∀ i b, φc' i = some b → φ' (rn tbl new i) = some b) ∧ Good φ' M' w' ∧ Stp φ M w φ' M' w' ∧ (∀ i, ¬ (new ≤ i ∧ i < new + (n0' - tbl.length)) → φ' i = φ i) := by
  let φ' : Ph := fun x => if new ≤ x ∧ x < new + (n0' - tbl.length) then φc' (x - new + tbl.length) else φ x
  have e1 : ∀ i b, φc' i = some b → φ' (rn tbl new i) = some b := by
    intro i b hb
    by_cases hi : i < tbl.length
    · have h := hag i hi
      rw [hb] at h
      simp only [cutPh, if_pos hi] at h
      rw [rn_lt hi] at h ⊢
      simp only [φ']
      rw [if_neg (ft.old i hi)]
      exact h.symm
    · have hlt : i < n0' := by
        rcases Nat.lt_or_ge i n0' with h | h
        · exact h
        · rw [hnone i h] at hb; cases hb
      rw [rn_ge hi]
      simp only [φ']
      rw [if_pos ⟨by omega, by omega⟩, show new + (i - tbl.length) - new + tbl.length = i by omega]
      exact hb
  have hle : ∀ (x : Nat) (b : Nat × Nat), φ x = some b → φ' x = some b := by
    intro x b hb
    simp only [φ']
    split
    · rename_i h; rw [hfree x h.1 h.2] at hb; cases hb
    · exact hb
  have hmono : Ph.le (fun i => φc' i) (fun i => φ' (rn tbl new i)) := fun i b hb => e1 i b hb
  -- a block of the caller's that the callee may not write
  have out : ∀ x bl b, lk M x = some bl → (∀ i, i < tbl.length → tbl.getD i 0 = x → ∀ b, lk L0 i = some b → b.ro = true) → φ x = some b → ¬ Wr (cutPh tbl.length fun i => φ (rn tbl new i)) L0 b.1 := by
    rintro x bl b hx hro hb ⟨j, bj, c, hj, hpj, hcc, hrj⟩
    obtain ⟨hjl, bl', hbl', hre, hw⟩ := ft.fit j bj hj
    simp only [cutPh, if_pos hjl, rn_lt hjl] at hpj
    rcases hM.inj x (tbl.getD j 0) bl bl' b c hx hbl' hb hpj hcc.symm with e | ⟨_, e⟩
    · rw [hro j hjl e.symm bj hj] at hrj; cases hrj
    · rw [hw e] at hrj; cases hrj
  have cross : ∀ x bl b j blj bb, lk M x = some bl → (∀ i, i < tbl.length → tbl.getD i 0 = x → ∀ b, lk L0 i = some b → b.ro = true) → φ x = some b →
      lk L0' j = some blj → φc' j = some bb → b.1 = bb.1 → (tbl.length ≤ j ∨ ∃ b, lk L0 j = some b ∧ b.ro = false) → bl.ro = true ∧ blj.ro = true := by
    intro x bl b j blj bb hx hro hb hj hpj hbb hcase
    obtain ⟨b', hb', hat⟩ := hM.hr x bl hx
    rw [hb] at hb'; cases hb'
    obtain ⟨k, bk, c, hk, hpk, hcc, hr, ho⟩ := st.fresh j blj bb hj hpj (hbb ▸ hat.lt)
    obtain ⟨hkl, bl', hbl', hre, hw⟩ := ft.fit k bk hk
    simp only [cutPh, if_pos hkl, rn_lt hkl] at hpk
    rcases hM.inj x (tbl.getD k 0) bl bl' b c hx hbl' hb hpk (hbb.trans hcc.symm) with e | ⟨e1, e2⟩
    · have hkro := hro k hkl e.symm bk hk
      rcases ho with rfl | ho
      · rcases hcase with h | ⟨b0, hb0, hro0⟩
        · omega
        · rw [hk] at hb0; cases hb0; rw [hkro] at hro0; cases hro0
      · rw [hkro] at ho; cases ho
    · exact ⟨e1, hr (hw e2)⟩
  refine ⟨φ', e1, ⟨?_, ?_⟩, ⟨st.os, st.tape, st.output, st.size, ?_, ?_⟩, fun i hi => by simp only [φ', if_neg hi]⟩
  · intro x bl hx
    rcases af x bl hx with ⟨i, bl0, rfl, hi, rfl, _⟩ | ⟨hm, hro⟩
    · obtain ⟨b, hb, hat⟩ := h'.hr i bl0 hi
      exact ⟨b, e1 i b hb, BlAt_ren.2 (hat.mono hmono rfl)⟩
    · obtain ⟨b, hb, hat⟩ := hM.hr x bl hm
      exact ⟨b, hle x b hb, hat.mono hle (st.keep b.1 hat.lt (out x bl b hm hro hb))⟩
  · intro x y bl bl' b b' hx hy hb hb' hbb
    rcases af x bl hx with ⟨i, bi, rfl, hi, rfl, hci⟩ | ⟨hm, hro⟩ <;> rcases af y bl' hy with ⟨j, bj, rfl, hj, rfl, hcj⟩ | ⟨km, kro⟩
    · obtain ⟨c, hc, _⟩ := h'.hr i bi hi
      obtain ⟨d, hd, _⟩ := h'.hr j bj hj
      have := e1 i c hc; rw [hb] at this; cases this
      have := e1 j d hd; rw [hb'] at this; cases this
      rcases h'.inj i j bi bj b b' hi hj hc hd hbb with rfl | h
      · exact .inl rfl
      · exact .inr (by rw [renB_ro, renB_ro]; exact h)
    · obtain ⟨c, hc, _⟩ := h'.hr i bi hi
      have := e1 i c hc; rw [hb] at this; cases this
      obtain ⟨d, hd, _⟩ := hM.hr y bl' km
      have := hle y d hd; rw [hb'] at this; cases this
      have := cross y bl' b' i bi b km kro hd hi hc hbb.symm hci
      exact .inr ⟨by rw [renB_ro]; exact this.2, this.1⟩
    · obtain ⟨c, hc, _⟩ := h'.hr j bj hj
      have := e1 j c hc; rw [hb'] at this; cases this
      obtain ⟨d, hd, _⟩ := hM.hr x bl hm
      have := hle x d hd; rw [hb] at this; cases this
      have := cross x bl b j bj b' hm hro hd hj hc hbb hcj
      exact .inr ⟨this.1, by rw [renB_ro]; exact this.2⟩
    · obtain ⟨c, hc, _⟩ := hM.hr x bl hm
      have := hle x c hc; rw [hb] at this; cases this
      obtain ⟨d, hd, _⟩ := hM.hr y bl' km
      have := hle y d hd; rw [hb'] at this; cases this
      exact hM.inj x y bl bl' b b' hm km hc hd hbb
  · intro b hb hn
    refine st.keep b hb ?_
    rintro ⟨j, bj, c, hj, hpj, hcc, hrj⟩
    obtain ⟨hjl, bl', hbl', hre, hw⟩ := ft.fit j bj hj
    simp only [cutPh, if_pos hjl, rn_lt hjl] at hpj
    exact hn ⟨_, bl', c, hbl', hpj, hcc, by cases e : bl'.ro with | false => rfl | true => rw [hw e] at hrj; cases hrj⟩
  · intro x bl b hx hb hlt
    rcases af x bl hx with ⟨i, bi, rfl, hi, rfl, hci⟩ | ⟨hm, hro⟩
    · obtain ⟨c, hc, _⟩ := h'.hr i bi hi
      have := e1 i c hc; rw [hb] at this; cases this
      obtain ⟨k, bk, c, hk, hpk, hcc, hr, ho⟩ := st.fresh i bi b hi hc hlt
      obtain ⟨hkl, bl', hbl', hre, hw⟩ := ft.fit k bk hk
      simp only [cutPh, if_pos hkl] at hpk
      refine ⟨rn tbl new k, bl', c, by rw [rn_lt hkl]; exact hbl', hpk, hcc, fun e => by rw [renB_ro]; exact hr (hw e), ?_⟩
      rcases ho with rfl | ho
      · exact .inl rfl
      · exact .inr (by cases e : bl'.ro with | false => rfl | true => rw [hw e] at ho; cases ho)
    · obtain ⟨c, hc, _⟩ := hM.hr x bl hm
      have := hle x c hc; rw [hb] at this; cases this
      exact ⟨x, bl, b, hm, hc, rfl, id, .inl rfl⟩

/-- the callee's view of what the caller holds -/
theorem Fits.good {φ : Ph} {tbl : List Nat} {new n0' : Nat} {L0 M : Hp} {w : World} (ft : Fits tbl new n0' L0 M) (hM : Good φ M w) (ok : okH tbl.length L0 = true) :
    Good (cutPh tbl.length fun i => φ (rn tbl new i)) L0 w := by
  refine ⟨fun i bl hi => ?_, fun i j bl bl' b b' hi hj hb hb' hbb => ?_⟩
  · obtain ⟨hil, bl', hbl', hre, hw⟩ := ft.fit i bl hi
    obtain ⟨b, hb, hat⟩ := hM.hr _ bl' hbl'
    refine ⟨b, by simp only [cutPh, if_pos hil, rn_lt hil]; exact hb, ?_⟩
    have h1 : BlAt φ w b (renB (rn tbl new) bl) := by
      have h2 := hat.weaken bl.ro hw
      rw [← hre] at h2
      have e : ({ { renB (rn tbl new) bl with ro := bl'.ro } with ro := bl.ro } : Bl) = renB (rn tbl new) bl := by
        have := renB_ro (rn tbl new) bl
        cases hx : renB (rn tbl new) bl with | mk c t m r s f gg => rw [hx] at this; simp at this; subst this; rfl
      rw [e] at h2
      exact h2
    exact (BlAt_ren.1 h1).cut (okH_at ok hi).2
  · obtain ⟨hil, bi, hbi, _, wi⟩ := ft.fit i bl hi
    obtain ⟨hjl, bj, hbj, _, wj⟩ := ft.fit j bl' hj
    simp only [cutPh, if_pos hil, rn_lt hil] at hb
    simp only [cutPh, if_pos hjl, rn_lt hjl] at hb'
    rcases hM.inj _ _ bi bj b b' hbi hbj hb hb' hbb with e | ⟨e1, e2⟩
    · exact ft.ali i j bl bl' hi hj e
    · exact .inr ⟨wi e1, wj e2⟩

/-- A call of a function by its contract. -/
theorem SC.op {P : Program} {f : FuncId} {args0 : List V} {L0 : Hp} {v0 : V} {n0' : Nat} {L0' : Hp} {tbl : List Nat} (h : SC P f args0 tbl.length L0 v0 n0' L0')
    (ok1 : args0.all (okV tbl.length) = true) (ok2 : okH tbl.length L0 = true) {o : Oper} {c : Call} {fn : Func} (ho : o.op = .call c) (hc : c.callee = .value (.func f)) (hfn : P.funcs[f]? = some fn) (hbody : fn.body.isSome = true)
    (hname : (fn.name == "runtime.NumGoroutine") = false) {env : List V} {n : Nat} (hargs : c.args.toList.map (ev env) = args0.map (renV (rn tbl n))) {M M' : Hp} (ft : Fits tbl n n0' L0 M) (af : After tbl n L0 L0' M M') :
    OpL P o env n M (renV (rn tbl n) v0) (n + (n0' - tbl.length)) M' := by
  intro φ a w Q hx hM hfree
  have hrun : (execOp a.eval o).run P w = .ok (.enter f (c.args.map a.eval)) w := by
    have h1 : ¬ fn.name = "runtime.NumGoroutine" := by simpa using hname
    have h2 : ¬ fn.body = none := by intro e; rw [e] at hbody; cases hbody
    simp [execOp, ho, resolve, hc, Deferred.ofValue, Act.eval, invoke, callFunc, hfn, h1, h2]
  unfold Oper.wp
  rw [hrun, Oper.upon_enter]
  have hxs : All2 (Vr φ) (args0.map (renV (rn tbl n))) (c.args.toList.map a.eval) := by
    rw [← hargs]
    have key : ∀ l : List Operand, (∀ x ∈ l, Vr φ (ev env x) (a.eval x)) → All2 (Vr φ) (l.map (ev env)) (l.map a.eval) := by
      intro l
      induction l with
      | nil => intro _; trivial
      | cons y t ih => intro hl; exact ⟨hl y (.head _), ih fun x hx => hl x (.tail _ hx)⟩
    refine key _ fun x hm => hx x ?_
    rw [ho]
    simp only [Op.operands, Call.operands, hc]
    simp at hm ⊢
    exact .inr hm
  have hxs' : All2 (Vr (cutPh tbl.length fun i => φ (rn tbl n i))) args0 (c.args.toList.map a.eval) := by
    refine all2_cutV ?_ ok1
    have key : ∀ (l : List V) (xs : List Value), All2 (Vr φ) (l.map (renV (rn tbl n))) xs → All2 (Vr fun i => φ (rn tbl n i)) l xs := by
      intro l
      induction l with
      | nil => intro xs hl; cases xs <;> first | trivial | exact hl.elim
      | cons y t ih => intro xs hl; cases xs with
        | nil => exact hl.elim
        | cons x xs => exact ⟨Vr_ren.1 hl.1, ih xs hl.2⟩
    exact key _ _ hxs
  have hcall := h (cutPh tbl.length fun i => φ (rn tbl n i)) (c.args.toList.map a.eval) w hxs' (ft.good hM ok2) (fun i hi => by simp [cutPh]; omega)
  have e : (c.args.toList.map a.eval).toArray = c.args.map a.eval := by
    apply Array.ext'; simp
  rw [e] at hcall
  refine Calls.mono hcall ?_
  rintro en w' ⟨φc', x, rfl, hv, hg, hnone, st, hn, hag⟩
  obtain ⟨φ', e1, g1, g2, g3⟩ := renFrame hn hM ft hg st hag hnone hfree af
  exact ⟨φ', x, rfl, Vr_ren.2 (hv.mono e1), g1, g2, g3⟩

/-! ### types and loads -/
/-- is a value of type t one of several cells, and of how many? -/
def tyS (P : Program) (t : TypeId) : Option (Bool × Nat) :=
  match P.underlying t with
  | some (.struct _) => (P.info? t).map fun i => (true, i.size)
  | some (.array _ _) => (P.info? t).map fun i => (true, i.size)
  | some _ => (P.info? t).map fun i => (false, i.size)
  | none => none

def ldAt (agg : Bool) (sz : Nat) (bl : Bl) (o : Nat) : Option V :=
  match bl.kind with
  | some _ => none
  | none =>
    match agg with
    | true => match Nat.ble (o + sz) bl.cells.length with | true => some (.agg ((bl.cells.drop o).take sz)) | false => none
    | false => match bl.cells[o]? with | some x => some (.s x) | none => none

theorem pre_get {α : Type} (pre l : List α) {k : Nat} (h : pre.length = k) (o : Nat) : (pre ++ l)[o + k]? = l[o]? := by
  rw [List.getElem?_append_right (by omega)]
  congr 1; omega

theorem cell_at {φ : Ph} {w : World} {b : Nat × Nat} {bl : Bl} (h : BlAt φ w b bl) (hkd : bl.kind = none) {o : Nat} {x : S} (hx : bl.cells[o]? = some x) : ∃ v, w.cell? ⟨b.1, o + b.2, none⟩ = some v ∧ Sr φ x v := by
  obtain ⟨pre, xs, rest, fr, h1, hp, h2, h3, h4⟩ := h
  rw [hkd] at h1; simp only [objOf] at h1
  obtain ⟨v, hv, hs⟩ := h2.get hx
  refine ⟨v, ?_, hs.mono (bl.ph_le_self φ)⟩
  have hlt : o < xs.length := by
    rcases Nat.lt_or_ge o xs.length with h | h
    · exact h
    · simp [List.getElem?_eq_none h] at hv
  simp only [World.cell?, h1]
  simp only [Option.isSome_none, Bool.false_eq_true, if_false, List.getElem?_toArray]
  rw [pre_get pre _ hp, List.getElem?_append_left hlt, hv]

theorem addr_add (b o n : Nat) : Addr.add ⟨b, o, none⟩ n = ⟨b, o + n, none⟩ := by unfold Addr.add; split <;> simp_all

theorem run_loadCellsFrom {P : Program} {w : World} {b o : Nat} : ∀ (vs : List Value) (i : Nat) (acc : Array Value), (∀ j v, vs[j]? = some v → w.cell? ⟨b, o + (i + j), none⟩ = some v) →
    (loadCellsFrom ⟨b, o, none⟩ i vs.length acc).run P w = .ok (acc ++ vs.toArray) w
  | [], i, acc, _ => by simp [loadCellsFrom]
  | v :: vs, i, acc, h => by
    have h0 := h 0 v rfl
    simp only [List.length_cons, loadCellsFrom, addr_add, Sem.run_bind, run_load]
    rw [Nat.add_zero] at h0
    simp only [h0, Result.andThen_ok]
    rw [run_loadCellsFrom vs (i + 1) _ (fun j v' hj => by
      have := h (j + 1) v' (by simpa using hj)
      rwa [show i + 1 + j = i + (j + 1) by omega])]
    simp

theorem run_loadVar {P : Program} {φ : Ph} {w : World} {b : Nat × Nat} {bl : Bl} (h : BlAt φ w b bl) {t : TypeId} {ag : Bool} {sz o : Nat} (ht : tyS P t = some (ag, sz)) {v : V} (hv : ldAt ag sz bl o = some v) :
    ∃ x, (loadVar t ⟨b.1, o + b.2, none⟩).run P w = .ok x w ∧ Vr φ v x := by
  have hagg : (isAgg t).run P w = .ok ag w ∧ (ag = true → (sizeOf t).run P w = .ok sz w) := by
    unfold tyS at ht
    simp only [isAgg, sizeOf, typeInfo, underlying, Sem.run_bind, run_program, Result.andThen_ok]
    cases hu : P.underlying t with
    | none => simp [hu] at ht
    | some d =>
      simp only [hu] at ht ⊢
      cases hi : P.info? t with
      | none => rw [hi] at ht; cases d <;> simp at ht
      | some i => rw [hi] at ht; cases d <;> simp at ht <;> obtain ⟨rfl, rfl⟩ := ht <;> simp
  unfold ldAt at hv
  cases hkd : bl.kind with
  | some m => rw [hkd] at hv; cases hv
  | none =>
  rw [hkd] at hv
  simp only [] at hv
  cases ag with
  | true =>
    simp only [] at hv
    cases hle : Nat.ble (o + sz) bl.cells.length with
    | false => rw [hle] at hv; cases hv
    | true =>
      rw [hle] at hv
      simp only [Option.some.injEq] at hv
      subst hv
      have hle' := Nat.le_of_ble_eq_true hle
      obtain ⟨pre, xs, rest, fr, h1, hp, h2, h3, h4⟩ := h
      rw [hkd] at h1; simp only [objOf] at h1
      have hl := h2.len
      have hv2 : All2 (Sr φ) ((bl.cells.drop o).take sz) ((xs.drop o).take sz) := ((h2.mono fun _ _ => Sr.mono (bl.ph_le_self φ)).drop o).take sz
      refine ⟨.agg ((xs.drop o).take sz).toArray, ?_, _, rfl, hv2⟩
      have hlen : ((xs.drop o).take sz).length = sz := by simp; omega
      have hld := run_loadCellsFrom (P := P) (w := w) (b := b.1) (o := o + b.2) ((xs.drop o).take sz) 0 #[] (by
        intro j v hj
        have hj' : j < sz := by
          rcases Nat.lt_or_ge j ((xs.drop o).take sz).length with h | h
          · omega
          · simp [List.getElem?_eq_none h] at hj
        simp only [List.getElem?_take, List.getElem?_drop, if_pos hj'] at hj
        simp only [World.cell?, h1]
        have : o + j < xs.length := by omega
        simp only [Option.isSome_none, Bool.false_eq_true, if_false, List.getElem?_toArray, Nat.zero_add]
        rw [show o + b.2 + j = (o + j) + b.2 by omega, pre_get pre _ hp, List.getElem?_append_left this]; exact hj)
      rw [hlen] at hld
      simp only [loadVar, Sem.run_bind, hagg.1, Result.andThen_ok, if_true, hagg.2 rfl, loadCells, hld, Sem.run_pure]
      simp
  | false =>
    simp only [] at hv
    cases hc : bl.cells[o]? with
    | none => rw [hc] at hv; cases hv
    | some y =>
      rw [hc] at hv
      simp only [Option.some.injEq] at hv
      subst hv
      obtain ⟨x, hx, hs⟩ := cell_at h hkd hc
      refine ⟨x, ?_, hs⟩
      simp only [loadVar, Sem.run_bind, hagg.1, Result.andThen_ok, Bool.false_eq_true, if_false, run_load, hx]

/-! ### a function entered, and its results -/
def toU : V → Option U
  | .s x => some (.s x)
  | .agg l => some (.agg l)
  | _ => none
def ofU : U → V
  | .s x => .s x
  | .agg l => .agg l
theorem toU_r {φ : Ph} {v : V} {u : U} {x : Value} (h : toU v = some u) (hv : Vr φ v x) : Ur φ u x := by
  cases v <;> simp [toU] at h <;> subst h <;> exact hv
theorem ofU_r {φ : Ph} {u : U} {x : Value} (hv : Ur φ u x) : Vr φ (ofU u) x := by cases u <;> exact hv

def resOne (P : Program) (env : List V) (M : Hp) : ResultVar → Option U
  | .tmp t => toU (env.getD t .undef)
  | .cell t ty =>
    match env.getD t .undef with
    | .s (.ptr (some (i, o))) =>
      match lk M i, tyS P ty with
      | some bl, some (ag, sz) => (ldAt ag sz bl o).bind toU
      | _, _ => none
    | _ => none
def resL (P : Program) (env : List V) (M : Hp) : List ResultVar → Option (List U)
  | [] => some []
  | x :: t => match resOne P env M x, resL P env M t with | some u, some us => some (u :: us) | _, _ => none
def resV (P : Program) (fn : Func) (env : List V) (M : Hp) : Option V :=
  match resL P env M fn.results.toList with
  | some [u] => some (ofU u)
  | some us => some (.tup us)
  | none => none

def resF (tmps : Array Value) : ResultVar → Sem Value
  | .tmp t => pure (tmps.getD t Go.undef)
  | .cell s t => do loadVar t (← asAddr (tmps.getD s Go.undef))

theorem resOne_r {P : Program} {φ : Ph} {env : List V} {M : Hp} {a : Act} {w : World} (h1 : EnvR φ env a) (h2 : Good φ M w) {x : ResultVar} {u : U} (h : resOne P env M x = some u) :
    ∃ v, (resF a.tmps x).run P w = .ok v w ∧ Ur φ u v := by
  cases x with
  | tmp t => exact ⟨_, rfl, toU_r h (h1.slot t)⟩
  | cell t ty =>
    simp only [resOne] at h
    have hs := h1.slot t
    cases hv : env.getD t .undef with
    | s y =>
      rw [hv] at h hs
      cases y with
      | ptr p =>
        rcases p with _ | ⟨i, o⟩
        · simp at h
        · simp only [] at h
          obtain ⟨b, hb, hval⟩ := hs
          cases hl : lk M i with
          | none => rw [hl] at h; simp at h
          | some bl =>
            cases ht : tyS P ty with
            | none => rw [hl, ht] at h; simp at h
            | some q =>
              obtain ⟨ag, sz⟩ := q
              rw [hl, ht] at h
              simp only [] at h
              cases hld : ldAt ag sz bl o with
              | none => rw [hld] at h; simp at h
              | some v =>
                rw [hld] at h
                obtain ⟨b', hb', hat⟩ := h2.hr i bl hl
                rw [hb] at hb'; cases hb'
                obtain ⟨x, hx, hr⟩ := run_loadVar hat ht hld
                refine ⟨x, ?_, toU_r h hr⟩
                simp only [resF, hval, Sem.run_bind, asAddr, Sem.run_pure, Result.andThen_ok, hx]
      | _ => simp at h
    | _ => rw [hv] at h; simp at h

theorem resV_r {P : Program} {φ : Ph} {fn : Func} {env : List V} {M : Hp} {a : Act} {w : World} (h1 : EnvR φ env a) (h2 : Good φ M w) {v : V} (h : resV P fn env M = some v) :
    ∃ x, (results fn a.tmps).run P w = .ok x w ∧ Vr φ v x := by
  have key : ∀ (l : List ResultVar) (us : List U), resL P env M l = some us → ∃ vs : List Value,
      (l.mapM (resF a.tmps)).run P w = .ok vs w ∧ All2 (Ur φ) us vs := by
    intro l
    induction l with
    | nil => intro us h; simp [resL] at h; subst h; exact ⟨[], by simp, trivial⟩
    | cons x t ih =>
      intro us h
      simp only [resL] at h
      cases hu : resOne P env M x with
      | none => rw [hu] at h; simp at h
      | some u =>
        cases ht : resL P env M t with
        | none => rw [hu, ht] at h; simp at h
        | some us' =>
          rw [hu, ht] at h
          simp only [Option.some.injEq] at h
          subst h
          obtain ⟨y, hy, hr⟩ := resOne_r h1 h2 hu
          obtain ⟨vs, hvs, hall⟩ := ih us' ht
          refine ⟨y :: vs, ?_, hr, hall⟩
          rw [List.mapM_cons]
          simp only [Sem.run_bind, hy, Result.andThen_ok, hvs, Sem.run_pure]
  unfold resV at h
  cases hl : resL P env M fn.results.toList with
  | none => rw [hl] at h; cases h
  | some us =>
    rw [hl] at h
    obtain ⟨vs, hvs, hall⟩ := key _ _ hl
    have hrun : (results fn a.tmps).run P w = .ok (if h : vs.toArray.size = 1 then vs.toArray[0] else .tuple vs.toArray) w := by
      have e : results fn a.tmps = (fn.results.mapM (resF a.tmps) >>= fun vs => pure (if h : vs.size = 1 then vs[0] else .tuple vs)) := by
        unfold results
        refine congrArg (· >>= _) (congrArg (fun f => Array.mapM f fn.results) (funext fun x => ?_))
        cases x <;> rfl
      rw [e, Sem.run_bind, Array.mapM_eq_mapM_toList]
      simp only [Sem.run_map, hvs, Result.andThen_ok, Sem.run_pure]
    refine ⟨_, hrun, ?_⟩
    match us, h, vs, hall with
    | [u], h, [x], hall =>
      simp only [Option.some.injEq] at h
      subst h
      exact ofU_r hall.1
    | [], h, [], _ =>
      simp only [Option.some.injEq] at h
      subst h
      exact ⟨[], by simp, trivial⟩
    | u :: u' :: us, h, x :: x' :: xs, hall =>
      simp only [Option.some.injEq] at h
      subst h
      exact ⟨x :: x' :: xs, by simp, hall⟩
    | [], _, _ :: _, h => exact h.elim
    | [_], _, [], h => exact h.elim
    | [_], _, _ :: _ :: _, h => exact h.2.elim
    | _ :: _ :: _, _, [], h => exact h.elim
    | _ :: _ :: _, _, [_], h => exact h.2.elim

/-- what must stand at a function's end -/
structure EndOK (P : Program) (fn : Func) (n : Nat) (v : V) (n' : Nat) (L' : Hp) (new : List Nat) (env : List V) (M : Hp) : Prop where
  res : resV P fn env M = some (renV (rn (List.range n ++ new) 0) v)
  mem : ∀ i bl, lk L' i = some bl → lk M (rn (List.range n ++ new) 0 i) = some (renB (rn (List.range n ++ new) 0) bl)
  okv : okV n' v = true
  okl : okH n' L' = true
  hn : n' = n + new.length
  inj : ∀ i j bl bl', lk L' i = some bl → lk L' j = some bl' → rn (List.range n ++ new) 0 i = rn (List.range n ++ new) 0 j → i = j
  mv : ∀ j bl, lk L' j = some bl → n ≤ j → rn (List.range n ++ new) 0 j < n → bl.ro = false

theorem rn_inj {n n' : Nat} {new : List Nat} (hn : n' = n + new.length) (hd : (List.range n ++ new).Nodup) {i j : Nat} (hi : i < n') (hj : j < n') (e : rn (List.range n ++ new) 0 i = rn (List.range n ++ new) 0 j) : i = j := by
  have h1 : i < (List.range n ++ new).length := by simp; omega
  have h2 : j < (List.range n ++ new).length := by simp; omega
  rw [rn_lt h1, rn_lt h2] at e
  simp only [List.getD_eq_getElem?_getD, List.getElem?_eq_getElem h1, List.getElem?_eq_getElem h2, Option.getD_some] at e
  exact (List.getElem_inj hd).1 e
theorem rn_id {n : Nat} {new : List Nat} {i : Nat} (hi : i < n) : rn (List.range n ++ new) 0 i = i := by
  rw [rn_lt (by simp; omega), List.getD_eq_getElem?_getD, List.getElem?_append_left (by simpa using hi)]
  simp [hi]
/-- no number is handed back twice -/
theorem EndOK.nodup {P : Program} {fn : Func} {n : Nat} {v : V} {n' : Nat} {L' : Hp} {new : List Nat} {env : List V} {M : Hp} (res : resV P fn env M = some (renV (rn (List.range n ++ new) 0) v))
    (mem : ∀ i bl, lk L' i = some bl → lk M (rn (List.range n ++ new) 0 i) = some (renB (rn (List.range n ++ new) 0) bl)) (okv : okV n' v = true) (okl : okH n' L' = true) (hn : n' = n + new.length) (inj : (List.range n ++ new).Nodup) : EndOK P fn n v n' L' new env M :=
  ⟨res, mem, okv, okl, hn, fun i j bl bl' hi hj e => rn_inj hn inj (okH_at okl hi).1 (okH_at okl hj).1 e, fun j bl hj hjn hlt => by
    have hj' := (okH_at okl hj).1
    have := rn_inj hn inj hj' (show rn (List.range n ++ new) 0 j < n' by omega) (by rw [rn_id hlt])
    omega⟩

theorem SC.intro {P : Program} {f : FuncId} {fn : Func} {c : Code} {args : List V} {n : Nat} {L : Hp} {v : V} {n' : Nat} {L' : Hp} (hf : P.funcs[f]? = some fn) (hb : fn.body = some c)
    (h : Ex P n c (args ++ List.replicate (fn.ntmps - args.length) .undef) n L fun x env m M => (x = .ret ∨ x = .normal) ∧ ∃ new, EndOK P fn n v n' L' new env M) : SC P f args n L v n' L' := by
  intro φ xs w hx hg hnone
  have hlen := hx.len
  refine calls_of_wp hf hb (wp_mono (h φ _ w ⟨rfl, ?_⟩ hg hnone (Nat.le_refl _)) ?_)
  · have : (xs.toArray ++ Array.replicate (fn.ntmps - xs.toArray.size) Go.undef).toList = xs ++ List.replicate (fn.ntmps - args.length) Go.undef := by simp [hlen]
    rw [this]
    refine hx.append ?_
    generalize fn.ntmps - args.length = k
    induction k with
    | zero => simp [All2]
    | succ k ih => simp only [List.replicate_succ]; exact ⟨rfl, ih⟩
  rintro x a' w' ⟨φ', env', m, M, ⟨hxe, new, fin⟩, g1, g2, g3, g4, g5, g6⟩
  obtain ⟨y, hy, hr⟩ := resV_r g1 g2 fin.res
  let r := rn (List.range n ++ new) 0
  let φ2 : Ph := cutPh n' fun i => φ' (r i)
  have hlen2 : (List.range n ++ new).length = n' := by rw [fin.hn]; simp
  have hro : ∀ i, i < n' → r i = (List.range n ++ new).getD i 0 := fun i hi => rn_lt (by omega)
  have hrn : ∀ i, i < n → r i = i := fun i hi => by
    rw [hro i (by have := fin.hn; omega), List.getD_eq_getElem?_getD, List.getElem?_append_left (by simpa using hi)]
    simp [hi]
  have good2 : Good φ2 L' w' := by
    refine ⟨fun i bl hi => ?_, fun i j bl bl' b b' hi hj hb hb' hbb => ?_⟩
    · obtain ⟨b, hb, hat⟩ := g2.hr _ _ (fin.mem i bl hi)
      obtain ⟨hlt, hok⟩ := okH_at fin.okl hi
      exact ⟨b, by simp only [φ2, cutPh, if_pos hlt]; exact hb, (BlAt_ren.1 hat).cut hok⟩
    · have hi' := (okH_at fin.okl hi).1
      have hj' := (okH_at fin.okl hj).1
      simp only [φ2, cutPh, if_pos hi'] at hb
      simp only [φ2, cutPh, if_pos hj'] at hb'
      rcases g2.inj _ _ _ _ b b' (fin.mem i bl hi) (fin.mem j bl' hj) hb hb' hbb with e | e
      · exact .inl (fin.inj i j bl bl' hi hj e)
      · rw [renB_ro, renB_ro] at e; exact .inr e
  have stp2 : Stp φ L w φ2 L' w' := by
    refine ⟨g5.os, g5.tape, g5.output, g5.size, g5.keep, fun j bl b hj hb hlt => ?_⟩
    have hj' := (okH_at fin.okl hj).1
    simp only [φ2, cutPh, if_pos hj'] at hb
    obtain ⟨k, bk, c, hk, hpk, hcc, hr, ho⟩ := g5.fresh _ _ b (fin.mem j bl hj) hb hlt
    rw [renB_ro] at hr
    refine ⟨k, bk, c, hk, hpk, hcc, hr, ?_⟩
    rcases ho with ho | ho
    · have hkn : k < n := by
        rcases Nat.lt_or_ge k n with h | h
        · exact h
        · rw [hnone k h] at hpk; cases hpk
      rcases Nat.lt_or_ge j n with hjn | hjn
      · exact .inl (by rw [ho]; exact hrn j hjn)
      · refine .inr ?_
        have hm := fin.mv j bl hj hjn (by rw [← ho]; exact hkn)
        cases e : bk.ro with
        | false => rfl
        | true => rw [hr e] at hm; cases hm
    · exact .inr ho
  have post : a'.defers = [] ∧ ∃ v', (results fn a'.tmps).run P w' = .ok v' w' ∧ ∃ φ' x, Ending.returned v' = .returned x ∧ Vr φ' v x ∧ Good φ' L' w' ∧ (∀ i, n' ≤ i → φ' i = none) ∧ Stp φ L w φ' L' w' ∧ n ≤ n' ∧ (∀ i, i < n → φ' i = φ i) := by
    refine ⟨g1.1, y, hy, φ2, y, rfl, (Vr_ren.1 hr).cut fin.okv, good2, fun i hi => by simp [φ2, cutPh]; omega, stp2, by have := fin.hn; omega, fun i hi => ?_⟩
    have : i < n' := by have := fin.hn; omega
    simp only [φ2, cutPh, if_pos this, hrn i hi]
    exact g6 i hi
  rcases hxe with rfl | rfl <;> exact post

end Ab
end Go.Proofs.YtgbkllbaojkfmaaGreatDoor
/-
  The frame, part 6: the operations that only compute.
-/
set_option linter.unusedSimpArgs false
set_option linter.unusedVariables false
namespace Go.Proofs.YtgbkllbaojkfmaaGreatDoor
namespace Ab
open Go

theorem wrap_in {k : IntKind} {z : Int} (h1 : k.min ≤ z) (h2 : z ≤ k.max) : k.wrap z = z := by
  cases k <;> simp [IntKind.min, IntKind.max, IntKind.bits, IntKind.signed] at h1 h2 <;> simp [IntKind.wrap, IntKind.bits, IntKind.signed] <;> omega
theorem i64_in {z : Int} (h1 : -9223372036854775808 ≤ z) (h2 : z ≤ 9223372036854775807) : IntKind.i64.wrap z = z := wrap_in (by simpa [IntKind.min, IntKind.bits, IntKind.signed] using h1) (by simpa [IntKind.max, IntKind.bits, IntKind.signed] using h2)
theorem u64_in {z : Int} (h1 : 0 ≤ z) (h2 : z ≤ 18446744073709551615) : IntKind.u64.wrap z = z := wrap_in (by simpa [IntKind.min, IntKind.bits, IntKind.signed] using h1) (by simpa [IntKind.max, IntKind.bits, IntKind.signed] using h2)
theorem u8_in {z : Int} (h1 : 0 ≤ z) (h2 : z ≤ 255) : IntKind.u8.wrap z = z := wrap_in (by simpa [IntKind.min, IntKind.bits, IntKind.signed] using h1) (by simpa [IntKind.max, IntKind.bits, IntKind.signed] using h2)
theorem u64_wrap (z : Int) : IntKind.u64.wrap z = z % 18446744073709551616 := by simp [IntKind.wrap, IntKind.bits, IntKind.signed]

/-- what a run is told: how a comparison comes out, what a number comes to, which place an index is, what a symbolic block holds .. -/
inductive Ans where
  | dec (d : Bool)
  | keep
  | num (z : Int)
  | idx (k : Nat)
  | mk (k : Nat)
  | val (v : V)
  | cells (l : List S)
  | call (tbl : List Nat) (args0 : List V) (L0 : Hp) (v0 : V) (n0' : Nat) (L0' : Hp)
  | loop (x : Exit) (env : List V) (n : Nat) (L : Hp)
  | app (r : Nat) (cs : List S)
  | callw (tbl : List Nat) (args0 : List V) (L0 : Hp) (v0 : V) (n0' : Nat) (L0' : Hp)
  | lazy (l : List Ans) (fin : List (Nat × Bool))
  | eager
  | ldv (v : V)
  | stc (l : List S)
  | ext (args0 : List V) (v : V)
  | join (as1 as2 : List Ans) (z : Exit) (e : List V) (m : Nat) (M : Hp)
  | win (k h : Nat) (cs : List S)
  | wlz (k h : Nat)
  | stw (cs cells : List S)

structure Out where
  r : R
  ans : List Ans
  C : Prop

def finI (k : IntKind) (raw : Int) : List Ans → Int × List Ans × Prop
  | .num z :: as => (z, as, k.wrap raw = z)
  | as => (raw, as, k.wrap raw = raw)
def finE (raw : Int) : List Ans → Int × List Ans × Prop
  | .num z :: as => (z, as, raw = z)
  | as => (raw, as, True)
def finB (b : Bool) : List Ans → Bool × List Ans × Prop
  | .dec d :: as => (d, as, b = d)
  | .keep :: as => (b, as, True)
  | as => (b, as, True)

theorem finI_ok {k : IntKind} {raw : Int} {ans : List Ans} (h : (finI k raw ans).2.2) : k.wrap raw = (finI k raw ans).1 := by
  unfold finI at h ⊢; split at h <;> exact h
theorem finE_ok {raw : Int} {ans : List Ans} (h : (finE raw ans).2.2) : raw = (finE raw ans).1 := by
  unfold finE at h ⊢; split at h
  · exact h
  · rfl
theorem finB_ok {b : Bool} {ans : List Ans} (h : (finB b ans).2.2) : b = (finB b ans).1 := by
  unfold finB at h ⊢; split at h
  · exact h
  · rfl
  · rfl

abbrev SO := Option (S × List Ans × Prop)
def outI (k : IntKind) (t : Int × List Ans × Prop) (C : Prop) : SO := match t with | (z, as, D) => some (.int k z, as, C ∧ D)
def outB (t : Bool × List Ans × Prop) : SO := match t with | (z, as, D) => some (.bool z, as, D)
theorem outI_eq (k : IntKind) (t : Int × List Ans × Prop) (C : Prop) : outI k t C = some (.int k t.1, t.2.1, C ∧ t.2.2) := rfl
theorem outB_eq (t : Bool × List Ans × Prop) : outB t = some (.bool t.1, t.2.1, t.2.2) := rfl

def binI (op : BinOp) (k : IntKind) (a b : Int) (ans : List Ans) : SO :=
  match op with
  | .add => outI k (finI k (a + b) ans) True
  | .sub => outI k (finI k (a - b) ans) True
  | .mul => outI k (finI k (a * b) ans) True
  | .quo => outI k (finI k (a.tdiv b) ans) (b ≠ 0)
  | .rem => outI k (finE (a.tmod b) ans) (b ≠ 0)
  | .and => outI k (finE (bitV .and k a b) ans) True
  | .or => outI k (finE (bitV .or k a b) ans) True
  | .xor => outI k (finE (bitV .xor k a b) ans) True
  | .andNot => outI k (finE (bitV .andNot k a b) ans) True
  | .eql => outB (finB (a == b) ans)
  | .neq => outB (finB (a != b) ans)
  | .lss => outB (finB (decide (a < b)) ans)
  | .leq => outB (finB (decide (a ≤ b)) ans)
  | .gtr => outB (finB (decide (a > b)) ans)
  | .geq => outB (finB (decide (a ≥ b)) ans)
  | _ => none

def kEq : IntKind → IntKind → Bool
  | .i8, .i8 => true | .i16, .i16 => true | .i32, .i32 => true | .i64, .i64 => true
  | .u8, .u8 => true | .u16, .u16 => true | .u32, .u32 => true | .u64, .u64 => true
  | _, _ => false
theorem kEq_eq {a b : IntKind} (h : kEq a b = true) : a = b := by cases a <;> cases b <;> simp [kEq] at h <;> rfl

def aBinI (op : BinOp) (k : IntKind) (a : Int) (k' : IntKind) (b : Int) (ans : List Ans) : SO :=
  match op with
  | .shl => outI k (finI k (a * 2 ^ (min b.toNat k.bits)) ans) (0 ≤ b)
  | .shr => outI k (finE (a.fdiv (2 ^ (min b.toNat k.bits))) ans) (0 ≤ b)
  | op => match kEq k k' with | true => binI op k a b ans | false => none

/-- 'binOp' yields a value that fits s, whatever the world -/
def Yld (P : Program) (m : Sem Value) (s : S) : Prop := ∀ (φ : Ph) (w : World), ∃ v, m.run P w = .ok v w ∧ Sr φ s v

theorem binI_ok {P : Program} {op : BinOp} {k : IntKind} {a b : Int} {t : TypeId} {ans : List Ans} {s : S} {as : List Ans} {C : Prop} (h : binI op k a b ans = some (s, as, C)) (hC : C) :
    Yld P (binOp op t (.int k a) (.int k b)) s := by
  intro φ w
  cases op <;> simp only [binI, outI_eq, outB_eq, Option.some.injEq, Prod.mk.injEq, reduceCtorEq] at h
  all_goals obtain ⟨rfl, rfl, rfl⟩ := h
  case add => exact ⟨_, by simp [binOp, Op.intArith, finI_ok hC.2], rfl⟩
  case sub => exact ⟨_, by simp [binOp, Op.intArith, finI_ok hC.2], rfl⟩
  case mul => exact ⟨_, by simp [binOp, Op.intArith, finI_ok hC.2], rfl⟩
  case quo => exact ⟨_, by simp [binOp, Op.intDiv, hC.1, finI_ok hC.2], rfl⟩
  case rem => exact ⟨_, by simp [binOp, Op.intDiv, hC.1, ← finE_ok hC.2], rfl⟩
  case and => exact ⟨_, by rw [← finE_ok hC.2]; simp only [binOp, Op.intBits, bitV, ne_eq, not_true_eq_false, if_false]; rfl, rfl⟩
  case or => exact ⟨_, by rw [← finE_ok hC.2]; simp only [binOp, Op.intBits, bitV, ne_eq, not_true_eq_false, if_false]; rfl, rfl⟩
  case xor => exact ⟨_, by rw [← finE_ok hC.2]; simp only [binOp, Op.intBits, bitV, ne_eq, not_true_eq_false, if_false]; rfl, rfl⟩
  case andNot => exact ⟨_, by rw [← finE_ok hC.2]; simp only [binOp, Op.intBits, bitV, ne_eq, not_true_eq_false, if_false]; rfl, rfl⟩
  all_goals exact ⟨_, by simp [binOp, Op.intCmp, ← finB_ok hC], rfl⟩

theorem aBinI_ok {P : Program} {op : BinOp} {k k' : IntKind} {a b : Int} {t : TypeId} {ans : List Ans} {s : S} {as : List Ans} {C : Prop} (h : aBinI op k a k' b ans = some (s, as, C)) (hC : C) :
    Yld P (binOp op t (.int k a) (.int k' b)) s := by
  unfold aBinI at h
  split at h
  · intro φ w
    simp only [outI_eq, Option.some.injEq, Prod.mk.injEq] at h
    obtain ⟨rfl, rfl, rfl⟩ := h
    obtain ⟨h1, h2⟩ := hC
    have h1' : ¬ b < 0 := by omega
    exact ⟨_, by simp only [binOp, Op.shift, if_neg h1', finI_ok h2, Sem.run_pure], rfl⟩
  · intro φ w
    simp only [outI_eq, Option.some.injEq, Prod.mk.injEq] at h
    obtain ⟨rfl, rfl, rfl⟩ := h
    obtain ⟨h1, h2⟩ := hC
    have h1' : ¬ b < 0 := by omega
    exact ⟨_, by simp only [binOp, Op.shift, if_neg h1', ← finE_ok h2, Sem.run_pure], rfl⟩
  · split at h
    · rename_i hk
      have := kEq_eq hk; subst this
      exact binI_ok h hC
    · cases h

/-! ### strings -/
theorem toList_mk (l : List UInt8) : (⟨l.toArray⟩ : ByteArray).toList = l := by
  rw [ByteArray.toList_eq]
theorem mk_append (l l' : List UInt8) : (⟨l.toArray⟩ : ByteArray) ++ ⟨l'.toArray⟩ = ⟨(l ++ l').toArray⟩ := by
  apply ByteArray.ext; simp

def aBinStr (op : BinOp) (x y : List UInt8) (ans : List Ans) : SO :=
  match op with
  | .add => some (.str (x ++ y), ans, ((x.length + y.length : Nat) : Int) ≤ 9223372036854775807)
  | .eql => outB (finB (decide (x = y)) ans)
  | .neq => outB (finB (!decide (x = y)) ans)
  | .lss => outB (finB (Op.bytesLess x y) ans)
  | .leq => outB (finB (Op.bytesLess x y || decide (x = y)) ans)
  | .gtr => outB (finB (!(Op.bytesLess x y || decide (x = y))) ans)
  | .geq => outB (finB (!Op.bytesLess x y) ans)
  | _ => none

theorem aBinStr_ok {P : Program} {op : BinOp} {x y : List UInt8} {t : TypeId} {ans : List Ans} {s : S} {as : List Ans} {C : Prop} (h : aBinStr op x y ans = some (s, as, C)) (hC : C) :
    Yld P (binOp op t (.string ⟨x.toArray⟩) (.string ⟨y.toArray⟩)) s := by
  intro φ w
  have hb : (x == y) = decide (x = y) := by
    by_cases e : x = y
    · simp [e]
    · simp [e]
  cases op <;> simp only [aBinStr, outB_eq, Option.some.injEq, Prod.mk.injEq, reduceCtorEq] at h
  all_goals obtain ⟨rfl, rfl, rfl⟩ := h
  case add =>
    refine ⟨.string ⟨(x ++ y).toArray⟩, ?_, rfl⟩
    have hs : ¬ (((⟨x.toArray⟩ : ByteArray).size + (⟨y.toArray⟩ : ByteArray).size : Nat) : Int) > IntKind.i64.max := by
      have e1 : (⟨x.toArray⟩ : ByteArray).size = x.length := by simp [ByteArray.size]
      have e2 : (⟨y.toArray⟩ : ByteArray).size = y.length := by simp [ByteArray.size]
      rw [e1, e2]
      have : IntKind.i64.max = 9223372036854775807 := by decide
      omega
    simp only [binOp, Op.stringOp, if_neg hs, Sem.run_pure, mk_append]
  all_goals exact ⟨_, by simp only [binOp, Op.stringOp, toList_mk, hb, ← finB_ok hC, Sem.run_pure], rfl⟩

/-! ### bools, nil pointers and slices -/
def aEqB (op : BinOp) (b : Bool) (ans : List Ans) : SO :=
  match op with
  | .eql => outB (finB b ans)
  | .neq => outB (finB (!b) ans)
  | _ => none

theorem aEqB_ok {P : Program} {op : BinOp} {b : Bool} {t : TypeId} {x y : Value} {ans : List Ans} {s : S} {as : List Ans} {C : Prop} (h : aEqB op b ans = some (s, as, C)) (hC : C)
    (he : ∀ w, (Op.equal t x y).run P w = .ok b w)
    (h1 : ∀ w, (binOp .eql t x y).run P w = (do pure (.bool (← Op.equal t x y)) : Sem Value).run P w) (h2 : ∀ w, (binOp .neq t x y).run P w = (do pure (.bool (!(← Op.equal t x y))) : Sem Value).run P w) :
    Yld P (binOp op t x y) s := by
  intro φ w
  cases op <;> simp only [aEqB, outB_eq, Option.some.injEq, Prod.mk.injEq, reduceCtorEq] at h
  all_goals obtain ⟨rfl, rfl, rfl⟩ := h
  case eql => exact ⟨_, by rw [h1]; simp only [Sem.run_bind, he, Result.andThen_ok, Sem.run_pure, ← finB_ok hC], rfl⟩
  case neq => exact ⟨_, by rw [h2]; simp only [Sem.run_bind, he, Result.andThen_ok, Sem.run_pure, ← finB_ok hC], rfl⟩

def isBoolTy (P : Program) (t : TypeId) : Bool := match P.underlying t with | some .bool => true | _ => false
def isPtrTy (P : Program) (t : TypeId) : Bool := match P.underlying t with | some (.pointer _) => true | _ => false
def isSliceTy (P : Program) (t : TypeId) : Bool := match P.underlying t with | some (.slice _) => true | _ => false

theorem run_underlying {P : Program} {w : World} {t : TypeId} {d : TypeDesc} (h : P.underlying t = some d) : (underlying t).run P w = .ok d w := by
  simp only [underlying, Sem.run_bind, run_program, Result.andThen_ok, h, Sem.run_pure]

def aBin (P : Program) (op : BinOp) (t : TypeId) (x y : V) (ans : List Ans) : SO :=
  match x, y with
  | .s (.int k a), .s (.int k' b) => aBinI op k a k' b ans
  | .s (.str a), .s (.str b) => aBinStr op a b ans
  | .s (.bool a), .s (.bool b) => match isBoolTy P t with | true => aEqB op (a == b) ans | false => none
  | .s (.ptr none), .s (.ptr q) => match isPtrTy P t with | true => aEqB op q.isNone ans | false => none
  | .s (.ptr (some _)), .s (.ptr none) => match isPtrTy P t with | true => aEqB op false ans | false => none
  | .s (.slc none _ _), .s (.slc q _ _) => match isSliceTy P t with | true => aEqB op q.isNone ans | false => none
  | .s (.slc (some _) _ _), .s (.slc none _ _) => match isSliceTy P t with | true => aEqB op false ans | false => none
  | _, _ => none

def YldR (P : Program) (φ : Ph) (m : Sem Value) (s : S) : Prop := ∀ w, ∃ v, m.run P w = .ok v w ∧ Sr φ s v

section
variable {P : Program} {w : World} {t : TypeId} (d : Nat)
theorem eqIn_bool (hty : P.underlying t = some .bool) (a b : Bool) : (Op.equalIn (d + 1) t (.bool a) (.bool b)).run P w = .ok (a == b) w := by
  simp only [Op.equalIn, Sem.run_bind, run_underlying hty, Result.andThen_ok, Sem.run_pure]
theorem eqIn_nilPtr {e : TypeId} (hty : P.underlying t = some (.pointer e)) (b : Option Addr) : (Op.equalIn (d + 1) t (.pointer none) (.pointer b)).run P w = .ok b.isNone w := by
  simp only [Op.equalIn, Sem.run_bind, run_underlying hty, Result.andThen_ok, Sem.run_pure]
theorem eqIn_ptrNil {e : TypeId} (hty : P.underlying t = some (.pointer e)) (a : Addr) : (Op.equalIn (d + 1) t (.pointer (some a)) (.pointer none)).run P w = .ok false w := by
  simp only [Op.equalIn, Sem.run_bind, run_underlying hty, Result.andThen_ok, Sem.run_pure]
theorem eqIn_nilSlice {e : TypeId} (hty : P.underlying t = some (.slice e)) (b : Option Addr) (n m k l : Nat) : (Op.equalIn (d + 1) t (.slice none n m) (.slice b k l)).run P w = .ok b.isNone w := by
  simp only [Op.equalIn, Sem.run_bind, run_underlying hty, Result.andThen_ok, Sem.run_pure]
theorem eqIn_sliceNil {e : TypeId} (hty : P.underlying t = some (.slice e)) (a : Addr) (n m k l : Nat) : (Op.equalIn (d + 1) t (.slice (some a) n m) (.slice none k l)).run P w = .ok false w := by
  simp only [Op.equalIn, Sem.run_bind, run_underlying hty, Result.andThen_ok, Sem.run_pure]
end

theorem equal_of {P : Program} {w : World} {t : TypeId} {x y : Value} {b : Bool} (h : ∀ d, (Op.equalIn (d + 1) t x y).run P w = .ok b w) : (Op.equal t x y).run P w = .ok b w := h 9999

theorem equal_of2 {P : Program} {w : World} {t : TypeId} {x y : Value} {b : Bool} (h : ∀ d, (Op.equalIn (d + 2) t x y).run P w = .ok b w) : (Op.equal t x y).run P w = .ok b w := h 9998

theorem aBin_ok {P : Program} {φ : Ph} {op : BinOp} {t : TypeId} {x y : V} {ans : List Ans} {s : S} {as : List Ans} {C : Prop} (h : aBin P op t x y ans = some (s, as, C)) (hC : C)
    {ox oy : Operand} {u v : Value} (hu : Vr φ x u) (hv : Vr φ y v) : YldR P φ (do eqGuard op t ox oy u v; binOp op t u v) s := by
  have guard : ∀ (m : Sem Value), (∀ w, (eqGuard op t ox oy u v).run P w = .ok () w) → Yld P m s → YldR P φ (do eqGuard op t ox oy u v; m) s := by
    intro m hg hy w
    obtain ⟨r, h1, h2⟩ := hy φ w
    exact ⟨r, by simp only [Sem.run_bind, hg, Result.andThen_ok, h1], h2⟩
  unfold aBin at h
  split at h
  · simp only [Vr, Sr] at hu hv; subst hu; subst hv
    exact guard _ (fun w => by unfold eqGuard; split <;> simp) (aBinI_ok h hC)
  · simp only [Vr, Sr] at hu hv; subst hu; subst hv
    exact guard _ (fun w => by unfold eqGuard; split <;> simp) (aBinStr_ok h hC)
  · simp only [Vr, Sr] at hu hv; subst hu; subst hv
    split at h
    · rename_i hb
      unfold isBoolTy at hb
      split at hb
      · rename_i hty
        exact guard _ (fun w => by unfold eqGuard; split <;> simp) (aEqB_ok h hC (fun w => equal_of fun d => eqIn_bool d hty _ _) (fun w => by simp only [binOp]) (fun w => by simp only [binOp]))
      · cases hb
    · cases h
  · rename_i q
    simp only [Vr, Sr] at hu; subst hu
    have hq : ∃ b, v = .pointer b ∧ b.isNone = q.isNone := by
      rcases q with _ | ⟨i, o⟩
      · exact ⟨none, hv, rfl⟩
      · obtain ⟨b, _, hv⟩ := hv; exact ⟨_, hv, rfl⟩
    obtain ⟨b, rfl, hbq⟩ := hq
    split at h
    · rename_i hb
      unfold isPtrTy at hb
      split at hb
      · rename_i hty
        rw [← hbq] at h
        exact guard _ (fun w => by unfold eqGuard; split <;> simp) (aEqB_ok h hC (fun w => equal_of fun d => eqIn_nilPtr d hty _) (fun w => by cases b <;> simp only [binOp]) (fun w => by cases b <;> simp only [binOp]))
      · cases hb
    · cases h
  · rename_i p
    obtain ⟨i, o⟩ := p
    obtain ⟨b, _, rfl⟩ := hu
    simp only [Vr, Sr] at hv; subst hv
    split at h
    · rename_i hb
      unfold isPtrTy at hb
      split at hb
      · rename_i hty
        exact guard _ (fun w => by unfold eqGuard; split <;> simp) (aEqB_ok h hC (fun w => equal_of fun d => eqIn_ptrNil d hty _) (fun w => by simp only [binOp]) (fun w => by simp only [binOp]))
      · cases hb
    · cases h
  · rename_i n1 c1 q n2 c2
    obtain ⟨_, _, rfl⟩ := hu
    have hq : ∃ b k l, v = .slice b k l ∧ b.isNone = q.isNone := by
      rcases q with _ | ⟨i, o⟩
      · obtain ⟨_, _, hv⟩ := hv; exact ⟨none, _, _, hv, rfl⟩
      · obtain ⟨b, k, _, hv, _⟩ := hv; exact ⟨_, _, _, hv, rfl⟩
    obtain ⟨b, k, l, rfl, hbq⟩ := hq
    split at h
    · rename_i hb
      unfold isSliceTy at hb
      split at hb
      · rename_i hty
        rw [← hbq] at h
        exact guard _ (fun w => by unfold eqGuard; split <;> simp) (aEqB_ok h hC (fun w => equal_of fun d => eqIn_nilSlice d hty _ _ _ _ _) (fun w => by simp only [binOp]) (fun w => by simp only [binOp]))
      · cases hb
    · cases h
  · rename_i p n1 c1 n2 c2
    obtain ⟨i, o⟩ := p
    obtain ⟨b, k, _, rfl, _⟩ := hu
    obtain ⟨_, _, rfl⟩ := hv
    split at h
    · rename_i hb
      unfold isSliceTy at hb
      split at hb
      · rename_i hty
        exact guard _ (fun w => by unfold eqGuard; split <;> simp) (aEqB_ok h hC (fun w => equal_of fun d => eqIn_sliceNil d hty _ _ _ _ _) (fun w => by simp only [binOp]) (fun w => by simp only [binOp]))
      · cases hb
    · cases h
  · cases h

/-! ### unary operations, conversions of integers, tuples, len, min, max -/
def aUn (op : UnOp) (x : V) (ans : List Ans) : SO :=
  match op, x with
  | .not, .s (.bool b) => some (.bool (match b with | true => false | false => true), ans, True)
  | .neg, .s (.int k n) => outI k (finI k (0 - n) ans) True
  | .xor, .s (.int k n) => outI k (finE (bitV .xor k (if k.signed then -1 else k.max) n) ans) True
  | _, _ => none
theorem aUn_ok {P : Program} {φ : Ph} {op : UnOp} {x : V} {ans : List Ans} {s : S} {as : List Ans} {C : Prop} (h : aUn op x ans = some (s, as, C)) (hC : C) {u : Value} (hu : Vr φ x u) : YldR P φ (Op.unary op u) s := by
  intro w
  unfold aUn at h
  split at h
  · simp only [Vr, Sr] at hu; subst hu
    simp only [Option.some.injEq, Prod.mk.injEq] at h
    obtain ⟨rfl, rfl, rfl⟩ := h
    rename_i b
    exact ⟨.bool !b, by simp only [Op.unary, Sem.run_pure], by cases b <;> rfl⟩
  · simp only [Vr, Sr] at hu; subst hu
    simp only [outI_eq, Option.some.injEq, Prod.mk.injEq] at h
    obtain ⟨rfl, rfl, rfl⟩ := h
    exact ⟨_, by simp only [Op.unary, Op.intArith, finI_ok hC.2, Sem.run_pure], rfl⟩
  · simp only [Vr, Sr] at hu; subst hu
    simp only [outI_eq, Option.some.injEq, Prod.mk.injEq] at h
    obtain ⟨rfl, rfl, rfl⟩ := h
    exact ⟨_, by rw [← finE_ok hC.2]; simp only [Op.unary, Op.intBits, bitV]; rfl, rfl⟩
  · cases h

def aConvI (P : Program) (src dst : TypeId) (x : V) (ans : List Ans) : SO :=
  match x with
  | .s (.int _ n) =>
    match P.underlying src, P.underlying dst with
    | some _, some (.int k) => outI k (finI k n ans) True
    | _, _ => none
  | .s (.str l) =>
    match P.underlying src, P.underlying dst with
    | some .string, some .string => some (.str l, ans, True)
    | _, _ => none
  | _ => none
theorem aConvI_ok {P : Program} {φ : Ph} {src dst : TypeId} {x : V} {ans : List Ans} {s : S} {as : List Ans} {C : Prop} (h : aConvI P src dst x ans = some (s, as, C)) (hC : C) {u : Value} (hu : Vr φ x u) : YldR P φ (convert src dst u) s := by
  intro w
  unfold aConvI at h
  split at h
  · simp only [Vr, Sr] at hu; subst hu
    split at h
    · rename_i h1 h2
      simp only [outI_eq, Option.some.injEq, Prod.mk.injEq] at h
      obtain ⟨rfl, rfl, rfl⟩ := h
      exact ⟨_, by simp only [convert, Sem.run_bind, run_underlying h1, run_underlying h2, Result.andThen_ok, Conv.intToInt, Sem.run_pure, finI_ok hC.2], rfl⟩
    · cases h
  · simp only [Vr, Sr] at hu; subst hu
    split at h
    · rename_i h1 h2
      simp only [Option.some.injEq, Prod.mk.injEq] at h
      obtain ⟨rfl, rfl, rfl⟩ := h
      exact ⟨_, by simp only [convert, Sem.run_bind, run_underlying h1, run_underlying h2, Result.andThen_ok, Sem.run_pure], rfl⟩
    · cases h
  · cases h

def aExt (x : V) (i : Nat) : Option V := match x with | .tup l => (match l[i]? with | some u => some (ofU u) | none => none) | _ => none
theorem aExt_ok {P : Program} {φ : Ph} {x v : V} {i : Nat} (h : aExt x i = some v) {u : Value} (hu : Vr φ x u) (w : World) : ∃ y, (Instr.extract u i).run P w = .ok y w ∧ Vr φ v y := by
  unfold aExt at h
  split at h
  · obtain ⟨xs, rfl, hall⟩ := hu
    split at h
    · rename_i q hq
      cases h
      obtain ⟨y, hy, hr⟩ := hall.get hq
      exact ⟨y, by simp [Instr.extract, hy], ofU_r hr⟩
    · cases h
  · cases h

def aLen (P : Program) (t : TypeId) (x : V) : Option S :=
  match P.underlying t, x with
  | some .string, .s (.str l) => some (.int .i64 l.length)
  | some (.slice _), .s (.slc _ n _) => some (.int .i64 n)
  | some (.slice _), .s (.sla _ _ n) => some (.int .i64 n)
  | some (.slice _), .s .emp => some (.int .i64 0)
  | some (.array n _), _ => some (.int .i64 n)
  | _, _ => none
theorem aLen_ok {P : Program} {φ : Ph} {t : TypeId} {x : V} {s : S} (h : aLen P t x = some s) {u : Value} (hu : Vr φ x u) {ts : Array TypeId} {ty : TypeId} (hts : ts[0]? = some t) : YldR P φ (Builtin.len_ ts ty #[u]) s := by
  intro w
  unfold aLen at h
  split at h
  · rename_i hty
    simp only [Vr, Sr] at hu; subst hu
    cases h
    rename_i l
    have e : (⟨l.toArray⟩ : ByteArray).size = l.length := rfl
    exact ⟨.int .i64 l.length, by simp [Builtin.len_, hts, run_underlying hty, goInt, e], rfl⟩
  · rename_i q n c hty
    cases h
    have : ∃ b k, u = .slice b n k := by
      rcases q with _ | ⟨i, o⟩
      · obtain ⟨rfl, _, hv⟩ := hu; exact ⟨_, _, hv⟩
      · obtain ⟨b, k, _, hv, _⟩ := hu; exact ⟨_, _, hv⟩
    obtain ⟨b, k, rfl⟩ := this
    exact ⟨.int .i64 n, by simp [Builtin.len_, hts, run_underlying hty, goInt], rfl⟩
  · rename_i i g n hty
    cases h
    obtain ⟨b, k, _, _, rfl, _⟩ := hu
    exact ⟨.int .i64 n, by simp [Builtin.len_, hts, run_underlying hty, goInt], rfl⟩
  · rename_i hty
    cases h
    obtain ⟨a, rfl⟩ := hu
    exact ⟨.int .i64 0, by simp [Builtin.len_, hts, run_underlying hty, goInt], rfl⟩
  · rename_i n e hty
    cases h
    exact ⟨.int .i64 n, by simp [Builtin.len_, hts, run_underlying hty, goInt], rfl⟩
  · cases h

def aMinMax (mx : Bool) (x y : V) (ans : List Ans) : SO :=
  match x, y with
  | .s (.int k a), .s (.int _ b) => outI k (finE (match mx with | true => if b > a then b else a | false => if b < a then b else a) ans) True
  | _, _ => none

theorem aMin_ok {P : Program} {φ : Ph} {x y : V} {ans : List Ans} {s : S} {as : List Ans} {C : Prop} (h : aMinMax false x y ans = some (s, as, C)) (hC : C) {u v : Value} (hu : Vr φ x u) (hv : Vr φ y v) {ts : Array TypeId} {ty : TypeId} :
    YldR P φ (Builtin.min_ ts ty #[u, v]) s := by
  intro w
  unfold aMinMax at h
  split at h
  · simp only [Vr, Sr] at hu hv; subst hu; subst hv
    simp only [outI_eq, Option.some.injEq, Prod.mk.injEq] at h
    obtain ⟨rfl, rfl, rfl⟩ := h
    exact ⟨_, by rw [← finE_ok hC.2]; simp [Builtin.min_, Builtin.min2], rfl⟩
  · cases h
theorem aMax_ok {P : Program} {φ : Ph} {x y : V} {ans : List Ans} {s : S} {as : List Ans} {C : Prop} (h : aMinMax true x y ans = some (s, as, C)) (hC : C) {u v : Value} (hu : Vr φ x u) (hv : Vr φ y v) {ts : Array TypeId} {ty : TypeId} :
    YldR P φ (Builtin.max_ ts ty #[u, v]) s := by
  intro w
  unfold aMinMax at h
  split at h
  · simp only [Vr, Sr] at hu hv; subst hu; subst hv
    simp only [outI_eq, Option.some.injEq, Prod.mk.injEq] at h
    obtain ⟨rfl, rfl, rfl⟩ := h
    exact ⟨_, by rw [← finE_ok hC.2]; simp [Builtin.max_, Builtin.max2], rfl⟩
  · cases h

end Ab
end Go.Proofs.YtgbkllbaojkfmaaGreatDoor
/-
  The frame, part 7: memory.
-/
set_option linter.unusedSimpArgs false
set_option linter.unusedVariables false
namespace Go.Proofs.YtgbkllbaojkfmaaGreatDoor
namespace Ab
open Go

/-! ### three ways of proving an operation -/
theorem OpL.light {P : Program} {o : Oper} {env : List V} {n : Nat} {L : Hp} {v : V}
    (h : ∀ φ (a : Act) (w : World), (∀ x ∈ o.op.operands, Vr φ (ev env x) (a.eval x)) → Good φ L w → ∃ y, (execOp a.eval o).run P w = .ok (.value y) w ∧ Vr φ v y) : OpL P o env n L v n L := by
  intro φ a w Q hx hg _
  obtain ⟨y, hr, hv⟩ := h φ a w hx hg
  unfold Oper.wp
  rw [hr, Oper.upon_value]
  exact ⟨φ, y, rfl, hv, hg, Stp.refl _ _ _, fun _ _ => rfl⟩

/-- a new block under the number n -/
theorem OpL.fresh {P : Program} {o : Oper} {env : List V} {n : Nat} {L : Hp} {v : V} {bl : Bl} (hn : lk L n = none)
    (h : ∀ φ (a : Act) (w : World), (∀ x ∈ o.op.operands, Vr φ (ev env x) (a.eval x)) → Good φ L w →
      ∃ y w', (execOp a.eval o).run P w = .ok (.value y) w' ∧ w'.os = w.os ∧ w'.tape = w.tape ∧ w'.output = w.output ∧ (∃ ob, w'.heap = w.heap.push ob) ∧ BlAt φ w' (w.heap.size, 0) bl ∧
        ∀ φ' : Ph, φ' n = some (w.heap.size, 0) → φ.le φ' → Vr φ' v y) : OpL P o env n L v (n + 1) (put L n (some bl)) := by
  intro φ a w Q hx hg hf
  obtain ⟨y, w', hr, h1, h2, h3, ⟨ob, h4⟩, h5, h6⟩ := h φ a w hx hg
  have hfn := hf n (Nat.le_refl _) (by omega)
  let φ' : Ph := fun i => if i = n then some (w.heap.size, 0) else φ i
  have hle : φ.le φ' := by
    intro i b hb
    simp only [φ']
    split
    · rename_i e; subst e; rw [hfn] at hb; cases hb
    · exact hb
  have hsz : w.heap.size ≤ w'.heap.size := by rw [h4]; simp
  have hkeep : ∀ b, b < w.heap.size → w'.heap[b]? = w.heap[b]? := by
    intro b hb; rw [h4, Array.getElem?_push_lt hb]; simp [hb]
  unfold Oper.wp
  rw [hr, Oper.upon_value]
  refine ⟨φ', y, rfl, h6 φ' (by simp [φ']) hle, ⟨?_, ?_⟩, ⟨h1, h2, h3, hsz, fun b hb _ => hkeep b hb, ?_⟩, ?_⟩
  · intro i bi hi
    rw [lk_put] at hi
    split at hi
    · rename_i e; subst e; cases hi
      exact ⟨(w.heap.size, 0), by simp [φ'], h5.mono hle rfl⟩
    · obtain ⟨b, hb, hat⟩ := hg.hr i bi hi
      exact ⟨b, hle i b hb, hat.mono hle (hkeep b.1 hat.lt)⟩
  · intro i j bi bj b b' hi hj hb hb' hbb
    rw [lk_put] at hi hj
    by_cases ei : n = i <;> by_cases ej : n = j
    · exact .inl (ei ▸ ej)
    · rw [if_neg ej] at hj
      obtain ⟨c, hc, hat⟩ := hg.hr j bj hj
      have := hle j c hc; rw [hb'] at this; cases this
      subst ei
      simp only [φ', if_true, Option.some.injEq] at hb
      subst hb; simp only at hbb
      have := hat.lt; omega
    · rw [if_neg ei] at hi
      obtain ⟨c, hc, hat⟩ := hg.hr i bi hi
      have := hle i c hc; rw [hb] at this; cases this
      subst ej
      simp only [φ', if_true, Option.some.injEq] at hb'
      subst hb'; simp only at hbb
      have := hat.lt; omega
    · rw [if_neg ei] at hi
      rw [if_neg ej] at hj
      simp only [φ', if_neg (Ne.symm ei)] at hb
      simp only [φ', if_neg (Ne.symm ej)] at hb'
      exact hg.inj i j bi bj b b' hi hj hb hb' hbb
  · intro j bj b hj hb hlt
    rw [lk_put] at hj
    by_cases ej : n = j
    · subst ej; simp only [φ', if_true, Option.some.injEq] at hb; subst hb; simp only at hlt; omega
    · rw [if_neg ej] at hj
      simp only [φ', if_neg (Ne.symm ej)] at hb
      exact ⟨j, bj, b, hj, hb, rfl, id, .inl rfl⟩
  · intro i hi
    simp only [φ']
    rw [if_neg (by omega)]

/-! ### cells -/
def cellsOf : V → Option (List S)
  | .s x => match isJ x with | false => some [x] | true => none
  | .agg l => some l
  | _ => none
theorem cells_of_cell {v : Value} (h : isCell v = true) : v.cells = #[v] := by cases v <;> first | rfl | cases h
theorem cellsOf_r {φ : Ph} {v : V} {l : List S} {y : Value} (h : cellsOf v = some l) (hv : Vr φ v y) : All2 (Sr φ) l y.cells.toList := by
  cases v <;> simp only [cellsOf, Option.some.injEq, reduceCtorEq] at h
  · split at h
    · rename_i hj
      cases h
      have := Sr.cell hv hj
      rw [cells_of_cell this]
      exact ⟨hv, trivial⟩
    · cases h
  subst h
  · obtain ⟨xs, rfl, hall⟩ := hv
    simpa [Value.cells] using hall

def toS : Value → Option S
  | .bool b => some (.bool b)
  | .int k n => some (.int k n)
  | .string s => some (.str s.data.toList)
  | .pointer none => some (.ptr none)
  | .slice none 0 0 => some (.slc none 0 (some 0))
  | .map none => some (.map none)
  | .agg _ => none
  | .tuple _ => none
  | _ => some .unk
theorem toS_r {φ : Ph} {v : Value} {x : S} (h : toS v = some x) : Sr φ x v := by
  unfold toS at h
  split at h <;> simp only [Option.some.injEq, reduceCtorEq] at h
  all_goals subst h
  all_goals first | rfl | exact ⟨rfl, rfl, rfl⟩ | skip
  · rename_i h6 h7
    cases v <;> first | rfl | exact (h6 _ rfl).elim | exact (h7 _ rfl).elim
def toSs : List Value → Option (List S)
  | [] => some []
  | v :: t => match toS v, toSs t with | some x, some l => some (x :: l) | _, _ => none
theorem toSs_r {φ : Ph} : ∀ {vs : List Value} {l : List S}, toSs vs = some l → All2 (Sr φ) l vs
  | [], l, h => by simp [toSs] at h; subst h; trivial
  | v :: t, l, h => by
    simp only [toSs] at h
    split at h
    · rename_i x l' h1 h2
      cases h
      exact ⟨toS_r h1, toSs_r h2⟩
    · cases h

def zeroOf (P : Program) (t : TypeId) : Option (List S) :=
  match P.info? t with
  | some i => match i.zero with | some v => toSs v.cells.toList | none => none
  | none => none
theorem zeroOf_r {P : Program} {t : TypeId} {l : List S} (h : zeroOf P t = some l) (w : World) : ∃ z, (zeroValue t).run P w = .ok z w ∧ ∀ φ, All2 (Sr φ) l z.cells.toList := by
  unfold zeroOf at h
  split at h
  · rename_i i hi
    split at h
    · rename_i v hv
      exact ⟨v, by simp [zeroValue, typeInfo, hi, hv], fun φ => toSs_r h⟩
    · cases h
  · cases h

/-! ### a new variable -/
def aNew (n : Nat) (ty : TypeId) (l : List S) (ans : List Ans) : Out := ⟨⟨[], .s (.ptr (some (n, 0))), [(n, some { cells := l, ty })], n + 1⟩, ans, True⟩

theorem blAt_new {φ : Ph} {w w' : World} {l : List S} {xs : List Value} {ty : TypeId} (hw : w'.heap = w.heap.push (.cells xs.toArray ty)) (h : All2 (Sr φ) l xs) : BlAt φ w' (w.heap.size, 0) { cells := l, ty } := by
  refine ⟨[], xs, [], (0, 0), by rw [hw]; simp [objOf], rfl, by simpa [Bl.ph] using h, fun _ => rfl, fun _ o _ => by simp, ⟨fun g z (e : (none : Option (Nat × Nat)) = some (g, z)) => (by cases e), fun g (e : (none : Option Nat) = some g) => (by cases e)⟩⟩

/-! ### storing -/
def setL {α : Type} (arr : List α) : Nat → List α → List α
  | _, [] => arr
  | o, v :: t => setL (arr.set o v) (o + 1) t
theorem setL_length {α : Type} : ∀ (vs : List α) (arr : List α) (o : Nat), (setL arr o vs).length = arr.length
  | [], _, _ => rfl
  | v :: t, arr, o => by simp only [setL]; rw [setL_length t]; simp
theorem setL_r {φ : Ph} : ∀ {l : List S} {vs : List Value} {cs : List S} {arr : List Value} (o : Nat), All2 (Sr φ) cs arr → All2 (Sr φ) l vs → All2 (Sr φ) (setL cs o l) (setL arr o vs)
  | [], [], _, _, _, h, _ => h
  | _ :: _, _ :: _, _, _, o, h, h' => setL_r (o + 1) (h.set h'.1) h'.2
  | [], _ :: _, _, _, _, _, h => h.elim
  | _ :: _, [], _, _, _, _, h => h.elim
theorem setL_append {α : Type} : ∀ (vs : List α) (arr rest : List α) (o : Nat), o + vs.length ≤ arr.length → setL (arr ++ rest) o vs = setL arr o vs ++ rest
  | [], _, _, _, _ => rfl
  | v :: t, arr, rest, o, h => by
    simp only [setL]
    rw [List.set_append_left _ _ (by simp at h; omega), setL_append t _ _ _ (by simp at h ⊢; omega)]

theorem setL_pre {α : Type} : ∀ (vs : List α) (pre l : List α) (o k : Nat), pre.length = k → setL (pre ++ l) (o + k) vs = pre ++ setL l o vs
  | [], _, _, _, _, _ => rfl
  | v :: t, pre, l, o, k, h => by
    simp only [setL]
    rw [List.set_append_right _ _ (by omega), show o + k + 1 = (o + 1) + k by omega, setL_pre t pre _ _ k h, show o + k - pre.length = o by omega]

def World.withBlock (w : World) (b : Nat) (ob : Obj) : World := { w with heap := w.heap.setIfInBounds b ob }
theorem withBlock_get (w : World) (b : Nat) (ob : Obj) (h : b < w.heap.size) : (World.withBlock w b ob).heap[b]? = some ob := by simp [World.withBlock, h]
theorem withBlock_ne (w : World) (b : Nat) (ob : Obj) (c : Nat) (h : c ≠ b) : (World.withBlock w b ob).heap[c]? = w.heap[c]? := by simp [World.withBlock, Array.getElem?_setIfInBounds_ne (Ne.symm h)]

theorem setCell_block {w : World} {b o : Nat} {arr : List Value} {ty : TypeId} {fr : Nat × Nat} (hb : w.heap[b]? = some (.cells arr.toArray ty fr)) (v : Value) :
    w.setCell ⟨b, o, none⟩ v = World.withBlock w b (.cells (arr.set o v).toArray ty fr) := by
  have hlt : b < w.heap.size := by
    rcases Nat.lt_or_ge b w.heap.size with h | h
    · exact h
    · simp [Array.getElem?_eq_none h] at hb
  unfold World.setCell World.withBlock
  congr 1
  apply Array.ext_getElem?
  intro i
  rw [Array.getElem?_modify]
  by_cases e : b = i
  · subst e
    rw [if_pos rfl, hb]
    simp [hlt]
  · rw [if_neg e, Array.getElem?_setIfInBounds_ne e]

theorem run_storeCells {P : Program} {b o : Nat} {ty : TypeId} {fr : Nat × Nat} : ∀ (vs : List Value) (i : Nat) (w : World) (arr : List Value), w.heap[b]? = some (.cells arr.toArray ty fr) →
    (∀ v ∈ vs, isCell v = true) → o + i + vs.length ≤ arr.length → (∀ x, x < arr.length → (fr.1 ≤ x && x < fr.2) = false) →
    ∃ w', (storeCells ⟨b, o, none⟩ vs i).run P w = .ok () w' ∧ w'.os = w.os ∧ w'.tape = w.tape ∧ w'.output = w.output ∧ w'.heap.size = w.heap.size ∧ w'.heap[b]? = some (.cells (setL arr (o + i) vs).toArray ty fr) ∧ ∀ c, c ≠ b → w'.heap[c]? = w.heap[c]?
  | [], i, w, arr, hb, _, _, _ => ⟨w, by simp [storeCells], rfl, rfl, rfl, rfl, hb, fun _ _ => rfl⟩
  | v :: vs, i, w, arr, hb, hc, hl, hfr => by
    have hlt : b < w.heap.size := by
      rcases Nat.lt_or_ge b w.heap.size with h | h
      · exact h
      · simp [Array.getElem?_eq_none h] at hb
    have hol : o + i < arr.length := by simp at hl; omega
    have h1 : v.oneCell' = true := by
      have := hc v (.head _)
      cases v <;> first | rfl | cases this
    have hcell : w.cell? ⟨b, o + i, none⟩ = some arr[o + i] := by simp [World.cell?, hb, hol]
    have hfz : w.frozen? ⟨b, o + i, none⟩ = false := by simp only [World.frozen?, hb]; exact hfr _ hol
    obtain ⟨w', hr, g1, g2, g3, g4, g5, g6⟩ := run_storeCells (P := P) (b := b) (o := o) vs (i + 1) (World.withBlock w b (.cells (arr.set (o + i) v).toArray ty fr)) (arr.set (o + i) v) (withBlock_get _ _ _ hlt)
      (fun x hx => hc x (.tail _ hx)) (by simp at hl ⊢; omega) (by simpa using hfr)
    refine ⟨w', ?_, g1, g2, g3, ?_, ?_, ?_⟩
    · simp only [storeCells, addr_add, Sem.run_bind]
      rw [run_store P w _ v _ h1]
      simp only [hcell, hfz, Bool.false_eq_true, if_false, Result.andThen_ok]
      rw [setCell_block hb]
      exact hr
    · rw [g4]; simp [World.withBlock]
    · rw [g5]; simp only [setL]; rw [show o + (i + 1) = o + i + 1 by omega]
    · intro c hcb; rw [g6 c hcb, withBlock_ne _ _ _ _ hcb]

def noPtr : S → Bool
  | .ptr (some _) => false
  | .slc (some _) _ _ => false
  | .sla _ _ _ => false
  | .map (some _) => false
  | .itr _ _ => false
  | .clo _ _ => false
  | .opq _ _ _ => false
  | .junk => false
  | _ => true
theorem noPtr_r {φ ψ : Ph} {x : S} {v : Value} (h : noPtr x = true) (hs : Sr φ x v) : Sr ψ x v := by
  cases x with
  | unk | bool | int | str | emp | fn | gp => exact hs
  | sla i g n => cases h
  | map a => rcases a with _ | i <;> first | exact hs | cases h
  | itr r m => cases h
  | clo f ps => cases h
  | opq k t K => cases h
  | junk => cases h
  | ptr a => rcases a with _ | ⟨i, o⟩ <;> first | exact hs | cases h
  | slc a n c => rcases a with _ | ⟨i, o⟩ <;> first | exact hs | cases h
theorem noPtrs_r {φ ψ : Ph} : ∀ {l : List S} {vs : List Value}, l.all noPtr = true → All2 (Sr φ) l vs → All2 (Sr ψ) l vs
  | [], [], _, _ => trivial
  | _ :: _, _ :: _, h, h' => by
    simp only [List.all_cons, Bool.and_eq_true] at h
    exact ⟨noPtr_r h.1 h'.1, noPtrs_r h.2 h'.2⟩
  | [], _ :: _, _, h => h.elim
  | _ :: _, [], _, h => h.elim

/-- may these cells be put into the block? -/
def nJ (x : S) : Bool := match isJ x with | true => false | false => true
def fitsIn (bl : Bl) (l : List S) : Bool := match bl.flat with | true => l.all noPtr | false => l.all nJ
theorem fitsIn_nj {bl : Bl} {l : List S} (h : fitsIn bl l = true) {j : Nat} {s : S} (hs : l[j]? = some s) : isJ s = false := by
  have hm : s ∈ l := List.mem_of_getElem? hs
  unfold fitsIn at h
  split at h
  · have := List.all_eq_true.1 h s hm
    cases s <;> first | rfl | cases this
  · have := List.all_eq_true.1 h s hm
    unfold nJ at this
    split at this
    · cases this
    · assumption

/-- A store of the cells vs at (b, o): the world behind it. -/
theorem store_good {φ : Ph} {w w' : World} {i : Nat} {b : Nat × Nat} {bl : Bl} (hkd : bl.kind = none) {o : Nat} {l : List S} {vs : List Value} {cs' : List S} (hg : Good φ [(i, some bl)] w) (hb : φ i = some b) (hro : bl.ro = false) (hfit : fitsIn bl l = true)
    (hl : All2 (Sr φ) l vs) (hle : o + l.length ≤ bl.cells.length) (hcs : cs' = setL bl.cells o l)
    (hw : ∃ pre xs rest fr, w.heap[b.1]? = some (.cells (pre ++ (xs ++ rest)).toArray bl.ty fr) ∧ pre.length = b.2 ∧ All2 (Sr (bl.ph φ)) bl.cells xs ∧ (bl.more = false → rest = []) ∧ (∀ x, x < (pre ++ (xs ++ rest)).length → (fr.1 ≤ x && x < fr.2) = false) ∧ ((∀ g z, bl.gh = some (g, z) → ∃ k, φ g = some (k, 0) ∧ k * z ≤ (xs ++ rest).length) ∧ (∀ g, bl.abs = some g → b = (g, 0))) ∧
      w'.heap[b.1]? = some (.cells (setL (pre ++ (xs ++ rest)) (o + b.2) vs).toArray bl.ty fr))
    (h1 : w'.os = w.os) (h2 : w'.tape = w.tape) (h3 : w'.output = w.output) (h4 : w'.heap.size = w.heap.size) (h6 : ∀ c, c ≠ b.1 → w'.heap[c]? = w.heap[c]?) :
    Good φ [(i, some { bl with cells := cs' })] w' ∧ Stp φ [(i, some bl)] w φ [(i, some { bl with cells := cs' })] w' := by
  obtain ⟨pre, xs, rest, fr, e1, hp, e2, e3, e4, e6, e5⟩ := hw
  subst hcs
  have hlen := e2.len
  have hvl := hl.len
  have at' : BlAt φ w' b { bl with cells := setL bl.cells o l } := by
    refine ⟨pre, setL xs o vs, rest, fr, ?_, hp, ?_, e3, fun _ x hx => e4 x (by simpa [setL_length] using hx), fun g z e => by simpa [setL_length] using e6.1 g z e, e6.2⟩
    · rw [show ({ bl with cells := setL bl.cells o l } : Bl).kind = none from hkd]; simp only [objOf]; rw [e5, setL_pre _ _ _ _ _ hp, setL_append _ _ _ _ (by omega)]
    · show All2 (Sr (bl.ph φ)) _ _
      refine setL_r o e2 ?_
      unfold fitsIn at hfit
      unfold Bl.ph
      cases hf : bl.flat with
      | false => simpa [hf] using hl
      | true => rw [hf] at hfit; exact noPtrs_r hfit hl
  have one : ∀ (c : Bl) j bj, lk [(i, some c)] j = some bj → j = i ∧ bj = c := by
    intro c j bj hj
    rw [lk_cons] at hj
    split at hj
    · rename_i e; cases hj; exact ⟨e.symm, rfl⟩
    · simp [lk] at hj
  refine ⟨⟨?_, ?_⟩, ⟨h1, h2, h3, by omega, ?_, ?_⟩⟩
  · intro j bj hj
    obtain ⟨rfl, rfl⟩ := one _ _ _ hj
    exact ⟨b, hb, at'⟩
  · intro j k bj bk c c' hj hk _ _ _
    obtain ⟨rfl, _⟩ := one _ _ _ hj
    obtain ⟨rfl, _⟩ := one _ _ _ hk
    exact .inl rfl
  · intro c _ hn
    exact h6 c fun e => hn ⟨i, bl, b, by simp [lk], hb, e.symm, hro⟩
  · intro j bj c hj hc _
    obtain ⟨rfl, rfl⟩ := one _ _ _ hj
    exact ⟨j, bl, c, by simp [lk], hc, rfl, fun e => e, .inl rfl⟩

end Ab
end Go.Proofs.YtgbkllbaojkfmaaGreatDoor
