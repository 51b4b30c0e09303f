/-
  The frame, part 7: memory.
-/
import Derived.Test.YtbokilgdefkmiaaGreatDoorAb6
set_option linter.unusedSimpArgs false
set_option linter.unusedVariables false
namespace Go.Proofs.YtbokilgdefkmiaaGreatDoor
namespace Ab
open Go

/-! ### three ways of proving an operation -/
theorem OpL.light {P : Program} {o : Oper} {env : List V} {n : Nat} {L : Hp} {v : V}
    (h : ∀ φ (a : Act) (w : World), (∀ x ∈ o.op.operands, Vr φ (ev env x) (a.eval x)) → Good φ L w → ∃ y, (execOp a.eval o).run P w = .ok (.value y) w ∧ Vr φ v y) : OpL P o env n L v n L := by
  intro φ a w Q hx hg _
  obtain ⟨y, hr, hv⟩ := h φ a w hx hg
  unfold Oper.wp
  rw [hr, Oper.upon_value]
  exact ⟨φ, y, rfl, hv, hg, Stp.refl _ _ _, fun _ _ => rfl⟩

/-- a new block under the number n -/
theorem OpL.fresh {P : Program} {o : Oper} {env : List V} {n : Nat} {L : Hp} {v : V} {bl : Bl} (hn : lk L n = none)
    (h : ∀ φ (a : Act) (w : World), (∀ x ∈ o.op.operands, Vr φ (ev env x) (a.eval x)) → Good φ L w →
      ∃ y w', (execOp a.eval o).run P w = .ok (.value y) w' ∧ w'.os = w.os ∧ w'.tape = w.tape ∧ w'.output = w.output ∧ (∃ ob, w'.heap = w.heap.push ob) ∧ BlAt φ w' (w.heap.size, 0) bl ∧
        ∀ φ' : Ph, φ' n = some (w.heap.size, 0) → φ.le φ' → Vr φ' v y) : OpL P o env n L v (n + 1) (put L n (some bl)) := by
  intro φ a w Q hx hg hf
  obtain ⟨y, w', hr, h1, h2, h3, ⟨ob, h4⟩, h5, h6⟩ := h φ a w hx hg
  have hfn := hf n (Nat.le_refl _) (by omega)
  let φ' : Ph := fun i => if i = n then some (w.heap.size, 0) else φ i
  have hle : φ.le φ' := by
    intro i b hb
    simp only [φ']
    split
    · rename_i e; subst e; rw [hfn] at hb; cases hb
    · exact hb
  have hsz : w.heap.size ≤ w'.heap.size := by rw [h4]; simp
  have hkeep : ∀ b, b < w.heap.size → w'.heap[b]? = w.heap[b]? := by
    intro b hb; rw [h4, Array.getElem?_push_lt hb]; simp [hb]
  unfold Oper.wp
  rw [hr, Oper.upon_value]
  refine ⟨φ', y, rfl, h6 φ' (by simp [φ']) hle, ⟨?_, ?_⟩, ⟨h1, h2, h3, hsz, fun b hb _ => hkeep b hb, ?_⟩, ?_⟩
  · intro i bi hi
    rw [lk_put] at hi
    split at hi
    · rename_i e; subst e; cases hi
      exact ⟨(w.heap.size, 0), by simp [φ'], h5.mono hle rfl⟩
    · obtain ⟨b, hb, hat⟩ := hg.hr i bi hi
      exact ⟨b, hle i b hb, hat.mono hle (hkeep b.1 hat.lt)⟩
  · intro i j bi bj b b' hi hj hb hb' hbb
    rw [lk_put] at hi hj
    by_cases ei : n = i <;> by_cases ej : n = j
    · exact .inl (ei ▸ ej)
    · rw [if_neg ej] at hj
      obtain ⟨c, hc, hat⟩ := hg.hr j bj hj
      have := hle j c hc; rw [hb'] at this; cases this
      subst ei
      simp only [φ', if_true, Option.some.injEq] at hb
      subst hb; simp only at hbb
      have := hat.lt; omega
    · rw [if_neg ei] at hi
      obtain ⟨c, hc, hat⟩ := hg.hr i bi hi
      have := hle i c hc; rw [hb] at this; cases this
      subst ej
      simp only [φ', if_true, Option.some.injEq] at hb'
      subst hb'; simp only at hbb
      have := hat.lt; omega
    · rw [if_neg ei] at hi
      rw [if_neg ej] at hj
      simp only [φ', if_neg (Ne.symm ei)] at hb
      simp only [φ', if_neg (Ne.symm ej)] at hb'
      exact hg.inj i j bi bj b b' hi hj hb hb' hbb
  · intro j bj b hj hb hlt
    rw [lk_put] at hj
    by_cases ej : n = j
    · subst ej; simp only [φ', if_true, Option.some.injEq] at hb; subst hb; simp only at hlt; omega
    · rw [if_neg ej] at hj
      simp only [φ', if_neg (Ne.symm ej)] at hb
      exact ⟨j, bj, b, hj, hb, rfl, id, .inl rfl⟩
  · intro i hi
    simp only [φ']
    rw [if_neg (by omega)]

/-! ### cells -/
def cellsOf : V → Option (List S)
  | .s x => match isJ x with | false => some [x] | true => none
  | .agg l => some l
  | _ => none
theorem cells_of_cell {v : Value} (h : isCell v = true) : v.cells = #[v] := by cases v <;> first | rfl | cases h
theorem cellsOf_r {φ : Ph} {v : V} {l : List S} {y : Value} (h : cellsOf v = some l) (hv : Vr φ v y) : All2 (Sr φ) l y.cells.toList := by
  cases v <;> simp only [cellsOf, Option.some.injEq, reduceCtorEq] at h
  · split at h
    · rename_i hj
      cases h
      have := Sr.cell hv hj
      rw [cells_of_cell this]
      exact ⟨hv, trivial⟩
    · cases h
  subst h
  · obtain ⟨xs, rfl, hall⟩ := hv
    simpa [Value.cells] using hall

def toS : Value → Option S
  | .bool b => some (.bool b)
  | .int k n => some (.int k n)
  | .string s => some (.str s.data.toList)
  | .pointer none => some (.ptr none)
  | .slice none 0 0 => some (.slc none 0 (some 0))
  | .map none => some (.map none)
  | .agg _ => none
  | .tuple _ => none
  | _ => some .unk
theorem toS_r {φ : Ph} {v : Value} {x : S} (h : toS v = some x) : Sr φ x v := by
  unfold toS at h
  split at h <;> simp only [Option.some.injEq, reduceCtorEq] at h
  all_goals subst h
  all_goals first | rfl | exact ⟨rfl, rfl, rfl⟩ | skip
  · rename_i h6 h7
    cases v <;> first | rfl | exact (h6 _ rfl).elim | exact (h7 _ rfl).elim
def toSs : List Value → Option (List S)
  | [] => some []
  | v :: t => match toS v, toSs t with | some x, some l => some (x :: l) | _, _ => none
theorem toSs_r {φ : Ph} : ∀ {vs : List Value} {l : List S}, toSs vs = some l → All2 (Sr φ) l vs
  | [], l, h => by simp [toSs] at h; subst h; trivial
  | v :: t, l, h => by
    simp only [toSs] at h
    split at h
    · rename_i x l' h1 h2
      cases h
      exact ⟨toS_r h1, toSs_r h2⟩
    · cases h

def zeroOf (P : Program) (t : TypeId) : Option (List S) :=
  match P.info? t with
  | some i => match i.zero with | some v => toSs v.cells.toList | none => none
  | none => none
theorem zeroOf_r {P : Program} {t : TypeId} {l : List S} (h : zeroOf P t = some l) (w : World) : ∃ z, (zeroValue t).run P w = .ok z w ∧ ∀ φ, All2 (Sr φ) l z.cells.toList := by
  unfold zeroOf at h
  split at h
  · rename_i i hi
    split at h
    · rename_i v hv
      exact ⟨v, by simp [zeroValue, typeInfo, hi, hv], fun φ => toSs_r h⟩
    · cases h
  · cases h

/-! ### a new variable -/
def aNew (n : Nat) (ty : TypeId) (l : List S) (ans : List Ans) : Out := ⟨⟨[], .s (.ptr (some (n, 0))), [(n, some { cells := l, ty })], n + 1⟩, ans, True⟩

theorem blAt_new {φ : Ph} {w w' : World} {l : List S} {xs : List Value} {ty : TypeId} (hw : w'.heap = w.heap.push (.cells xs.toArray ty)) (h : All2 (Sr φ) l xs) : BlAt φ w' (w.heap.size, 0) { cells := l, ty } := by
  refine ⟨[], xs, [], (0, 0), by rw [hw]; simp [objOf], rfl, by simpa [Bl.ph] using h, fun _ => rfl, fun _ o _ => by simp, ⟨fun g z (e : (none : Option (Nat × Nat)) = some (g, z)) => (by cases e), fun g (e : (none : Option Nat) = some g) => (by cases e)⟩⟩

/-! ### storing -/
def setL {α : Type} (arr : List α) : Nat → List α → List α
  | _, [] => arr
  | o, v :: t => setL (arr.set o v) (o + 1) t
theorem setL_length {α : Type} : ∀ (vs : List α) (arr : List α) (o : Nat), (setL arr o vs).length = arr.length
  | [], _, _ => rfl
  | v :: t, arr, o => by simp only [setL]; rw [setL_length t]; simp
theorem setL_r {φ : Ph} : ∀ {l : List S} {vs : List Value} {cs : List S} {arr : List Value} (o : Nat), All2 (Sr φ) cs arr → All2 (Sr φ) l vs → All2 (Sr φ) (setL cs o l) (setL arr o vs)
  | [], [], _, _, _, h, _ => h
  | _ :: _, _ :: _, _, _, o, h, h' => setL_r (o + 1) (h.set h'.1) h'.2
  | [], _ :: _, _, _, _, _, h => h.elim
  | _ :: _, [], _, _, _, _, h => h.elim
theorem setL_append {α : Type} : ∀ (vs : List α) (arr rest : List α) (o : Nat), o + vs.length ≤ arr.length → setL (arr ++ rest) o vs = setL arr o vs ++ rest
  | [], _, _, _, _ => rfl
  | v :: t, arr, rest, o, h => by
    simp only [setL]
    rw [List.set_append_left _ _ (by simp at h; omega), setL_append t _ _ _ (by simp at h ⊢; omega)]

theorem setL_pre {α : Type} : ∀ (vs : List α) (pre l : List α) (o k : Nat), pre.length = k → setL (pre ++ l) (o + k) vs = pre ++ setL l o vs
  | [], _, _, _, _, _ => rfl
  | v :: t, pre, l, o, k, h => by
    simp only [setL]
    rw [List.set_append_right _ _ (by omega), show o + k + 1 = (o + 1) + k by omega, setL_pre t pre _ _ k h, show o + k - pre.length = o by omega]

def World.withBlock (w : World) (b : Nat) (ob : Obj) : World := { w with heap := w.heap.setIfInBounds b ob }
theorem withBlock_get (w : World) (b : Nat) (ob : Obj) (h : b < w.heap.size) : (World.withBlock w b ob).heap[b]? = some ob := by simp [World.withBlock, h]
theorem withBlock_ne (w : World) (b : Nat) (ob : Obj) (c : Nat) (h : c ≠ b) : (World.withBlock w b ob).heap[c]? = w.heap[c]? := by simp [World.withBlock, Array.getElem?_setIfInBounds_ne (Ne.symm h)]

theorem setCell_block {w : World} {b o : Nat} {arr : List Value} {ty : TypeId} {fr : Nat × Nat} (hb : w.heap[b]? = some (.cells arr.toArray ty fr)) (v : Value) :
    w.setCell ⟨b, o, none⟩ v = World.withBlock w b (.cells (arr.set o v).toArray ty fr) := by
  have hlt : b < w.heap.size := by
    rcases Nat.lt_or_ge b w.heap.size with h | h
    · exact h
    · simp [Array.getElem?_eq_none h] at hb
  unfold World.setCell World.withBlock
  congr 1
  apply Array.ext_getElem?
  intro i
  rw [Array.getElem?_modify]
  by_cases e : b = i
  · subst e
    rw [if_pos rfl, hb]
    simp [hlt]
  · rw [if_neg e, Array.getElem?_setIfInBounds_ne e]

theorem run_storeCells {P : Program} {b o : Nat} {ty : TypeId} {fr : Nat × Nat} : ∀ (vs : List Value) (i : Nat) (w : World) (arr : List Value), w.heap[b]? = some (.cells arr.toArray ty fr) →
    (∀ v ∈ vs, isCell v = true) → o + i + vs.length ≤ arr.length → (∀ x, x < arr.length → (fr.1 ≤ x && x < fr.2) = false) →
    ∃ w', (storeCells ⟨b, o, none⟩ vs i).run P w = .ok () w' ∧ w'.os = w.os ∧ w'.tape = w.tape ∧ w'.output = w.output ∧ w'.heap.size = w.heap.size ∧ w'.heap[b]? = some (.cells (setL arr (o + i) vs).toArray ty fr) ∧ ∀ c, c ≠ b → w'.heap[c]? = w.heap[c]?
  | [], i, w, arr, hb, _, _, _ => ⟨w, by simp [storeCells], rfl, rfl, rfl, rfl, hb, fun _ _ => rfl⟩
  | v :: vs, i, w, arr, hb, hc, hl, hfr => by
    have hlt : b < w.heap.size := by
      rcases Nat.lt_or_ge b w.heap.size with h | h
      · exact h
      · simp [Array.getElem?_eq_none h] at hb
    have hol : o + i < arr.length := by simp at hl; omega
    have h1 : v.oneCell' = true := by
      have := hc v (.head _)
      cases v <;> first | rfl | cases this
    have hcell : w.cell? ⟨b, o + i, none⟩ = some arr[o + i] := by simp [World.cell?, hb, hol]
    have hfz : w.frozen? ⟨b, o + i, none⟩ = false := by simp only [World.frozen?, hb]; exact hfr _ hol
    obtain ⟨w', hr, g1, g2, g3, g4, g5, g6⟩ := run_storeCells (P := P) (b := b) (o := o) vs (i + 1) (World.withBlock w b (.cells (arr.set (o + i) v).toArray ty fr)) (arr.set (o + i) v) (withBlock_get _ _ _ hlt)
      (fun x hx => hc x (.tail _ hx)) (by simp at hl ⊢; omega) (by simpa using hfr)
    refine ⟨w', ?_, g1, g2, g3, ?_, ?_, ?_⟩
    · simp only [storeCells, addr_add, Sem.run_bind]
      rw [run_store P w _ v _ h1]
      simp only [hcell, hfz, Bool.false_eq_true, if_false, Result.andThen_ok]
      rw [setCell_block hb]
      exact hr
    · rw [g4]; simp [World.withBlock]
    · rw [g5]; simp only [setL]; rw [show o + (i + 1) = o + i + 1 by omega]
    · intro c hcb; rw [g6 c hcb, withBlock_ne _ _ _ _ hcb]

def noPtr : S → Bool
  | .ptr (some _) => false
  | .slc (some _) _ _ => false
  | .sla _ _ _ => false
  | .map (some _) => false
  | .junk => false
  | _ => true
theorem noPtr_r {φ ψ : Ph} {x : S} {v : Value} (h : noPtr x = true) (hs : Sr φ x v) : Sr ψ x v := by
  cases x with
  | unk | bool | int | str | emp | fn | gp => exact hs
  | sla i g n => cases h
  | map a => rcases a with _ | i <;> first | exact hs | cases h
  | junk => cases h
  | ptr a => rcases a with _ | ⟨i, o⟩ <;> first | exact hs | cases h
  | slc a n c => rcases a with _ | ⟨i, o⟩ <;> first | exact hs | cases h
theorem noPtrs_r {φ ψ : Ph} : ∀ {l : List S} {vs : List Value}, l.all noPtr = true → All2 (Sr φ) l vs → All2 (Sr ψ) l vs
  | [], [], _, _ => trivial
  | _ :: _, _ :: _, h, h' => by
    simp only [List.all_cons, Bool.and_eq_true] at h
    exact ⟨noPtr_r h.1 h'.1, noPtrs_r h.2 h'.2⟩
  | [], _ :: _, _, h => h.elim
  | _ :: _, [], _, h => h.elim

/-- may these cells be put into the block? -/
def nJ (x : S) : Bool := match isJ x with | true => false | false => true
def fitsIn (bl : Bl) (l : List S) : Bool := match bl.flat with | true => l.all noPtr | false => l.all nJ
theorem fitsIn_nj {bl : Bl} {l : List S} (h : fitsIn bl l = true) {j : Nat} {s : S} (hs : l[j]? = some s) : isJ s = false := by
  have hm : s ∈ l := List.mem_of_getElem? hs
  unfold fitsIn at h
  split at h
  · have := List.all_eq_true.1 h s hm
    cases s <;> first | rfl | cases this
  · have := List.all_eq_true.1 h s hm
    unfold nJ at this
    split at this
    · cases this
    · assumption

/-- A store of the cells vs at (b, o): the world behind it. -/
theorem store_good {φ : Ph} {w w' : World} {i : Nat} {b : Nat × Nat} {bl : Bl} (hkd : bl.kind = none) {o : Nat} {l : List S} {vs : List Value} {cs' : List S} (hg : Good φ [(i, some bl)] w) (hb : φ i = some b) (hro : bl.ro = false) (hfit : fitsIn bl l = true)
    (hl : All2 (Sr φ) l vs) (hle : o + l.length ≤ bl.cells.length) (hcs : cs' = setL bl.cells o l)
    (hw : ∃ pre xs rest fr, w.heap[b.1]? = some (.cells (pre ++ (xs ++ rest)).toArray bl.ty fr) ∧ pre.length = b.2 ∧ All2 (Sr (bl.ph φ)) bl.cells xs ∧ (bl.more = false → rest = []) ∧ (∀ x, x < (pre ++ (xs ++ rest)).length → (fr.1 ≤ x && x < fr.2) = false) ∧ ((∀ g z, bl.gh = some (g, z) → ∃ k, φ g = some (k, 0) ∧ k * z ≤ (xs ++ rest).length) ∧ (∀ g, bl.abs = some g → b = (g, 0))) ∧
      w'.heap[b.1]? = some (.cells (setL (pre ++ (xs ++ rest)) (o + b.2) vs).toArray bl.ty fr))
    (h1 : w'.os = w.os) (h2 : w'.tape = w.tape) (h3 : w'.output = w.output) (h4 : w'.heap.size = w.heap.size) (h6 : ∀ c, c ≠ b.1 → w'.heap[c]? = w.heap[c]?) :
    Good φ [(i, some { bl with cells := cs' })] w' ∧ Stp φ [(i, some bl)] w φ [(i, some { bl with cells := cs' })] w' := by
  obtain ⟨pre, xs, rest, fr, e1, hp, e2, e3, e4, e6, e5⟩ := hw
  subst hcs
  have hlen := e2.len
  have hvl := hl.len
  have at' : BlAt φ w' b { bl with cells := setL bl.cells o l } := by
    refine ⟨pre, setL xs o vs, rest, fr, ?_, hp, ?_, e3, fun _ x hx => e4 x (by simpa [setL_length] using hx), fun g z e => by simpa [setL_length] using e6.1 g z e, e6.2⟩
    · rw [show ({ bl with cells := setL bl.cells o l } : Bl).kind = none from hkd]; simp only [objOf]; rw [e5, setL_pre _ _ _ _ _ hp, setL_append _ _ _ _ (by omega)]
    · show All2 (Sr (bl.ph φ)) _ _
      refine setL_r o e2 ?_
      unfold fitsIn at hfit
      unfold Bl.ph
      cases hf : bl.flat with
      | false => simpa [hf] using hl
      | true => rw [hf] at hfit; exact noPtrs_r hfit hl
  have one : ∀ (c : Bl) j bj, lk [(i, some c)] j = some bj → j = i ∧ bj = c := by
    intro c j bj hj
    rw [lk_cons] at hj
    split at hj
    · rename_i e; cases hj; exact ⟨e.symm, rfl⟩
    · simp [lk] at hj
  refine ⟨⟨?_, ?_⟩, ⟨h1, h2, h3, by omega, ?_, ?_⟩⟩
  · intro j bj hj
    obtain ⟨rfl, rfl⟩ := one _ _ _ hj
    exact ⟨b, hb, at'⟩
  · intro j k bj bk c c' hj hk _ _ _
    obtain ⟨rfl, _⟩ := one _ _ _ hj
    obtain ⟨rfl, _⟩ := one _ _ _ hk
    exact .inl rfl
  · intro c _ hn
    exact h6 c fun e => hn ⟨i, bl, b, by simp [lk], hb, e.symm, hro⟩
  · intro j bj c hj hc _
    obtain ⟨rfl, rfl⟩ := one _ _ _ hj
    exact ⟨j, bl, c, by simp [lk], hc, rfl, fun e => e, .inl rfl⟩

end Ab
end Go.Proofs.YtbokilgdefkmiaaGreatDoor
