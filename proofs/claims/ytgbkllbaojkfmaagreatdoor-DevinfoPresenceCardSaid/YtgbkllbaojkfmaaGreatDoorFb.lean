import Derived.Test.YtgbkllbaojkfmaaGreatDoorFa
import Derived.Laws.StructEq
import Derived.Laws.IdiomStrings
import Derived.Laws.Append
/-
  The frame, part 8: the operations, one by one, and what they come to.
-/
set_option linter.unusedSimpArgs false
set_option linter.unusedVariables false
namespace Go.Proofs.YtgbkllbaojkfmaaGreatDoor
namespace Ab
open Go

/-! ### laying terms out -/
def rv {α β : Type} : List α → List α → (List α → β) → β
  | [], out, k => k out
  | x :: t, out, k => rv t (x :: out) k
def frc {α β : Type} : List α → List α → (List α → β) → β
  | [], acc, k => rv acc [] k
  | x :: t, acc, k => frc t (x :: acc) k
theorem rv_eq {α β : Type} (k : List α → β) : ∀ (l out : List α), rv l out k = k (l.reverse ++ out)
  | [], _ => rfl
  | x :: t, out => by simp only [rv]; rw [rv_eq k t]; simp
theorem frc_eq' {α β : Type} (k : List α → β) : ∀ (l acc : List α), frc l acc k = k (acc.reverse ++ l)
  | [], acc => by simp only [frc]; rw [rv_eq]
  | x :: t, acc => by simp only [frc]; rw [frc_eq' k t]; simp
theorem frc_eq {α β : Type} (k : List α → β) (l : List α) : frc l [] k = k l := by rw [frc_eq']; rfl

def frcV {β : Type} (v : V) (k : V → β) : β :=
  match v with
  | .any => k .any
  | .undef => k .undef
  | .s x => k (.s x)
  | .agg l => frc l [] fun l => k (.agg l)
  | .tup l => frc l [] fun l => k (.tup l)
  | .w i g sz j m => k (.w i g sz j m)
theorem frcV_eq {β : Type} (v : V) (k : V → β) : frcV v k = k v := by cases v <;> simp only [frcV, frc_eq]

/-! ### light operations -/
def lt (n : Nat) (v : V) (ans : List Ans) (C : Prop) : Option Out := frcV v fun v => some ⟨⟨[], v, [], n⟩, ans, C⟩
theorem lt_eq (n : Nat) (v : V) (ans : List Ans) (C : Prop) : lt n v ans C = some ⟨⟨[], v, [], n⟩, ans, C⟩ := frcV_eq _ _
def ofSO (n : Nat) (x : SO) : Option Out := match x with | some (s, as, C) => some ⟨⟨[], .s s, [], n⟩, as, C⟩ | none => none

/-- what is to be shown of an operation's answer -/
def OutOK (P : Program) (o : Oper) (env : List V) (n : Nat) (L : Hp) (out : Out) : Prop :=
  OpL P o env n (res out.r.foot L) out.r.v out.r.n' (puts (res out.r.foot L) out.r.wr) ∧ n ≤ out.r.n'

theorem lt_ok {P : Program} {o : Oper} {env : List V} {n : Nat} {L : Hp} {v : V} {ans : List Ans} {C : Prop} {out : Out} (h : lt n v ans C = some out) 
    (hy : ∀ φ (a : Act) (w : World), (∀ x ∈ o.op.operands, Vr φ (ev env x) (a.eval x)) → ∃ y, (execOp a.eval o).run P w = .ok (.value y) w ∧ Vr φ v y) : OutOK P o env n L out := by
  rw [lt_eq] at h; cases h
  exact ⟨OpL.light fun φ a w hx _ => hy φ a w hx, Nat.le_refl _⟩

theorem ofSO_ok {P : Program} {o : Oper} {env : List V} {n : Nat} {L : Hp} {so : SO} {out : Out} (h : ofSO n so = some out) (hC : out.C)
    (hy : ∀ s as C, so = some (s, as, C) → C → ∀ φ (a : Act) (w : World), (∀ x ∈ o.op.operands, Vr φ (ev env x) (a.eval x)) → ∃ y, (execOp a.eval o).run P w = .ok (.value y) w ∧ Sr φ s y) : OutOK P o env n L out := by
  unfold ofSO at h
  split at h
  · rename_i s as C
    cases h
    exact ⟨OpL.light fun φ a w hx _ => hy s as C rfl hC φ a w hx, Nat.le_refl _⟩
  · cases h

/-! ### addresses -/
def plus (o k : Nat) : Nat := match o with | 0 => k | o + 1 => match k with | 0 => o + 1 | k => o + 1 + k
theorem plus_eq (o k : Nat) : plus o k = o + k := by unfold plus; cases o <;> cases k <;> simp
def times (k s : Nat) : Nat := match s with | 1 => k | s => k * s
theorem times_eq (k s : Nat) : times k s = k * s := by unfold times; split <;> simp

def idxOf (z : Int) (len : Nat) : List Ans → Nat × List Ans × Prop
  | .idx k :: as => (k, as, z = (k : Int) ∧ k < len)
  | as => (z.toNat, as, 0 ≤ z ∧ z < (len : Int))
theorem idxOf_ok {z : Int} {len : Nat} {ans : List Ans} {k : Nat} {as : List Ans} {C : Prop} (h : idxOf z len ans = (k, as, C)) (hC : C) : 0 ≤ z ∧ z < (len : Int) ∧ z.toNat = k := by
  unfold idxOf at h
  split at h <;> simp only [Prod.mk.injEq] at h <;> obtain ⟨rfl, rfl, rfl⟩ := h
  · obtain ⟨rfl, h2⟩ := hC; exact ⟨by omega, by omega, by omega⟩
  · exact ⟨hC.1, hC.2, rfl⟩

def fieldOff (P : Program) (s : TypeId) (f : Nat) : Option Nat :=
  match P.underlying s with
  | some (.struct fs) =>
    match fs[f]? with
    | some fd =>
      match P.info? fd.type with
      | some i => match i.size with | 0 => none | _ + 1 => some fd.offset
      | none => none
    | none => none
  | _ => none
theorem fieldOff_ok {P : Program} {s : TypeId} {f off : Nat} (h : fieldOff P s f = some off) (b o : Nat) (w : World) : (Instr.fieldAt s (.pointer (some ⟨b, o, none⟩)) f).run P w = .ok (.pointer (some ⟨b, o + off, none⟩)) w := by
  unfold fieldOff at h
  split at h
  · rename_i fs hty
    split at h
    · rename_i fd hfd
      split at h
      · rename_i i hi
        split at h
        · cases h
        · rename_i k hk
          cases h
          have hs : (sizeOf fd.type).run P w = .ok (k + 1) w := by simp [sizeOf, typeInfo, hi, hk]
          simp only [Instr.fieldAt, Sem.run_bind, run_underlying hty, Result.andThen_ok, hfd, Instr.sureAddr, Sem.run_pure, fieldPlace, hs, addr_add]
          simp
      · cases h
    · cases h
  · cases h

def aField (P : Program) (n : Nat) (s : TypeId) (x : V) (f : Nat) (ans : List Ans) : Option Out :=
  match x with
  | .s (.ptr (some (i, o))) => match fieldOff P s f with | some off => lt n (.s (.ptr (some (i, plus o off)))) ans True | none => none
  | _ => none

def elemSz (P : Program) (e : TypeId) : Option Nat := match P.info? e with | some i => some i.size | none => none
theorem elemSz_ok {P : Program} {e : TypeId} {sz : Nat} (h : elemSz P e = some sz) (w : World) : (sizeOf e).run P w = .ok sz w := by
  unfold elemSz at h; split at h
  · rename_i i hi; cases h; simp [sizeOf, typeInfo, hi]
  · cases h

def aIndexAddr (P : Program) (n : Nat) (t : TypeId) (x ix : V) (ans : List Ans) : Option Out :=
  match ix with
  | .s (.int _ z) =>
    match P.underlying t with
    | some (.slice e) =>
      match x, elemSz P e with
      | .s (.slc (some (i, o)) len _), some sz => match idxOf z len ans with | (k, as, C) => lt n (.s (.ptr (some (i, plus o (times k sz))))) as C
      | _, _ => none
    | some (.array len e) =>
      match x, elemSz P e with
      | .s (.ptr (some (i, o))), some sz => match idxOf z len ans with | (k, as, C) => lt n (.s (.ptr (some (i, plus o (times k sz))))) as C
      | _, _ => none
    | _ => none
  | _ => none

def aIndex (P : Program) (n : Nat) (t : TypeId) (x ix : V) (ans : List Ans) : Option Out :=
  match ix with
  | .s (.int _ z) =>
    match P.underlying t with
    | some .string =>
      match x with
      | .s (.str l) => match idxOf z l.length ans with | (k, as, C) => lt n (.s (.int .u8 ((l.getD k 0).toNat : Int))) as C
      | _ => none
    | _ => none
  | _ => none

theorem aIndexAddr_ok {P : Program} {env : List V} {n : Nat} {L : Hp} {t : TypeId} {x ix : Operand} {ans : List Ans} {out : Out} {o : Oper} (ho : o.op = .indexAddr t x ix)
    (h : aIndexAddr P n t (ev env x) (ev env ix) ans = some out) (hC : out.C) : OutOK P o env n L out := by
  unfold aIndexAddr at h
  split at h
  · rename_i ki z hix
    split at h
    · rename_i e hty
      split at h
      · rename_i i off len c sz hx hsz
        rcases hq : idxOf z len ans with ⟨k, as, C⟩
        rw [hq] at h; dsimp only at h
        have hC' : C := by rw [lt_eq] at h; cases h; exact hC
        obtain ⟨h1, h2, h3⟩ := idxOf_ok hq hC'
        refine lt_ok h fun φ a w hop => ?_
        have g1 := hop x (by simp [ho, Op.operands])
        have g2 := hop ix (by simp [ho, Op.operands])
        rw [hx] at g1; rw [hix] at g2
        obtain ⟨b, cp, hb, hv, _⟩ := g1
        simp only [Vr, Sr] at g2
        refine ⟨.pointer (some ⟨b.1, plus off (times k sz) + b.2, none⟩), ?_, b, hb, rfl⟩
        simp only [execOp, ho, hv, g2, Instr.indexAt, asIntOf, Sem.run_bind, Sem.run_pure, run_underlying hty, Result.andThen_ok, elemSz_ok hsz, addr_add, plus_eq, times_eq, h3]
        rw [if_pos ⟨h1, h2⟩]
        simp [elemSz_ok hsz, addr_add, h3]
      · cases h
    · rename_i len e hty
      split at h
      · rename_i i off sz hx hsz
        rcases hq : idxOf z len ans with ⟨k, as, C⟩
        rw [hq] at h; dsimp only at h
        have hC' : C := by rw [lt_eq] at h; cases h; exact hC
        obtain ⟨h1, h2, h3⟩ := idxOf_ok hq hC'
        refine lt_ok h fun φ a w hop => ?_
        have g1 := hop x (by simp [ho, Op.operands])
        have g2 := hop ix (by simp [ho, Op.operands])
        rw [hx] at g1; rw [hix] at g2
        obtain ⟨b, hb, hv⟩ := g1
        simp only [Vr, Sr] at g2
        refine ⟨.pointer (some ⟨b.1, plus off (times k sz) + b.2, none⟩), ?_, b, hb, rfl⟩
        simp only [execOp, ho, hv, g2, Instr.indexAt, Instr.sureAddr, asIntOf, Sem.run_bind, Sem.run_pure, run_underlying hty, Result.andThen_ok, elemSz_ok hsz, addr_add, plus_eq, times_eq, h3]
        rw [if_pos ⟨h1, h2⟩]
        simp [elemSz_ok hsz, addr_add, h3]
      · cases h
    · cases h
  · cases h

theorem aIndex_ok {P : Program} {env : List V} {n : Nat} {L : Hp} {t : TypeId} {x ix : Operand} {ans : List Ans} {out : Out} {o : Oper} (ho : o.op = .index t x ix)
    (h : aIndex P n t (ev env x) (ev env ix) ans = some out) (hC : out.C) : OutOK P o env n L out := by
  unfold aIndex at h
  split at h
  · rename_i ki z hix
    split at h
    · rename_i hty
      split at h
      · rename_i l hx
        rcases hq : idxOf z l.length ans with ⟨k, as, C⟩
        rw [hq] at h; dsimp only at h
        have hC' : C := by rw [lt_eq] at h; cases h; exact hC
        obtain ⟨h1, h2, h3⟩ := idxOf_ok hq hC'
        refine lt_ok h fun φ a w hop => ?_
        have g1 := hop x (by simp [ho, Op.operands])
        have g2 := hop ix (by simp [ho, Op.operands])
        rw [hx] at g1; rw [hix] at g2
        simp only [Vr, Sr] at g1 g2
        refine ⟨_, ?_, rfl⟩
        have hk : k < l.length := by omega
        have he : (⟨l.toArray⟩ : ByteArray)[k]? = some l[k] := by
          have hk' : k < (⟨l.toArray⟩ : ByteArray).size := hk
          rw [getElem?_pos _ k hk']; rfl
        simp only [execOp, ho, g1, g2, Instr.index, asIntOf, Sem.run_bind, Sem.run_pure, run_underlying hty, Result.andThen_ok, h3, if_pos h1, he]
        simp [hk]
      · cases h
    · cases h
  · cases h

theorem aField_ok {P : Program} {env : List V} {n : Nat} {L : Hp} {s : TypeId} {x : Operand} {f : Nat} {ans : List Ans} {out : Out} {o : Oper} (ho : o.op = .fieldAddr s x f)
    (h : aField P n s (ev env x) f ans = some out) : OutOK P o env n L out := by
  unfold aField at h
  split at h
  · rename_i i off hx
    split at h
    · rename_i d hd
      refine lt_ok h fun φ a w hop => ?_
      have g1 := hop x (by simp [ho, Op.operands])
      rw [hx] at g1
      obtain ⟨b, hb, hv⟩ := g1
      refine ⟨.pointer (some ⟨b.1, plus off d + b.2, none⟩), ?_, b, hb, rfl⟩
      simp only [execOp, ho, hv, Sem.run_bind, fieldOff_ok hd, Result.andThen_ok, Sem.run_pure, plus_eq, Nat.add_right_comm]
    · cases h
  · cases h

/-! ### load and store -/
def aLoad (P : Program) (n : Nat) (L : Hp) (t : TypeId) (x : V) (ans : List Ans) : Option Out :=
  match x with
  | .s (.ptr (some (i, o))) =>
    match lk L i, tyS P t with
    | some bl, some (ag, sz) =>
      match bl.sym with
      | false =>
        match ans with
        | .ldv v :: as => some ⟨⟨[i], v, [], n⟩, as, ldAt ag sz bl o = some v⟩
        | ans => match ldAt ag sz bl o with | some v => frcV v fun v => some ⟨⟨[i], v, [], n⟩, ans, True⟩ | none => none
      | true => match ans with | .val v :: as => some ⟨⟨[i], v, [], n⟩, as, ldAt ag sz bl o = some v⟩ | _ => none
    | _, _ => none
  | _ => none

theorem aLoad_ok {P : Program} {env : List V} {n : Nat} {L : Hp} {t : TypeId} {x : Operand} {ans : List Ans} {out : Out} {o : Oper} (ho : o.op = .load t x)
    (h : aLoad P n L t (ev env x) ans = some out) (hC : out.C) : OutOK P o env n L out := by
  have key : ∀ (i off : Nat) (bl : Bl) (ag : Bool) (sz : Nat) (v : V), ev env x = .s (.ptr (some (i, off))) → lk L i = some bl → tyS P t = some (ag, sz) → ldAt ag sz bl off = some v → OpL P o env n (res [i] L) v n (res [i] L) := by
    intro i off bl ag sz v hx hl ht hld
    refine OpL.light fun φ a w hop hg => ?_
    have g1 := hop x (by simp [ho, Op.operands])
    rw [hx] at g1
    obtain ⟨b, hb, hv⟩ := g1
    obtain ⟨b', hb', hat⟩ := hg.hr i bl (by rw [lk_res]; simp [hl])
    rw [hb] at hb'; cases hb'
    obtain ⟨y, hy, hr⟩ := run_loadVar hat ht hld
    exact ⟨y, by simp only [execOp, ho, hv, Instr.loadAt, Instr.sureAddr, Sem.run_bind, Sem.run_pure, Result.andThen_ok, hy], hr⟩
  unfold aLoad at h
  split at h
  · rename_i i off hx
    split at h
    · rename_i bl ag sz hl ht
      split at h
      · split at h
        · rename_i v as
          cases h
          exact ⟨key i off bl ag sz v hx hl ht hC, Nat.le_refl _⟩
        · split at h
          · rename_i v hld
            rw [frcV_eq] at h
            cases h
            exact ⟨key i off bl ag sz v hx hl ht hld, Nat.le_refl _⟩
          · cases h
      · split at h
        · rename_i v as
          cases h
          exact ⟨key i off bl ag sz v hx hl ht hC, Nat.le_refl _⟩
        · cases h
    · cases h
  · cases h

def aStore (P : Program) (n : Nat) (L : Hp) (t : TypeId) (x v : V) (ans : List Ans) : Option Out :=
  match x with
  | .s (.ptr (some (i, o))) =>
    match lk L i, elemSz P t, cellsOf v with
    | some bl, some sz, some l =>
      match Nat.beq l.length sz && !bl.ro && fitsIn bl l && bl.kind.isNone with
      | true =>
        match bl.sym with
        | false =>
         match ans with
         | .stc cs :: as => some ⟨⟨[i], .undef, [(i, some { bl with cells := cs })], n⟩, as, o + l.length ≤ bl.cells.length ∧ cs = setL bl.cells o l⟩
         | ans => match Nat.ble (o + l.length) bl.cells.length with | true => frc (setL bl.cells o l) [] fun cs => some ⟨⟨[i], .undef, [(i, some { bl with cells := cs })], n⟩, ans, True⟩ | false => none
        | true => match ans with | .cells cs :: as => some ⟨⟨[i], .undef, [(i, some { bl with cells := cs })], n⟩, as, o + l.length ≤ bl.cells.length ∧ cs = setL bl.cells o l⟩ | _ => none
      | false => none
    | _, _, _ => none
  | _ => none

theorem aStore_ok {P : Program} {env : List V} {n : Nat} {L : Hp} {t : TypeId} {x y : Operand} {ans : List Ans} {out : Out} {o : Oper} (ho : o.op = .store t x y)
    (h : aStore P n L t (ev env x) (ev env y) ans = some out) (hC : out.C) : OutOK P o env n L out := by
  have key : ∀ (i off : Nat) (bl : Bl) (sz : Nat) (l cs : List S), ev env x = .s (.ptr (some (i, off))) → lk L i = some bl → elemSz P t = some sz → cellsOf (ev env y) = some l →
      (Nat.beq l.length sz && !bl.ro && fitsIn bl l && bl.kind.isNone) = true → off + l.length ≤ bl.cells.length → cs = setL bl.cells off l →
      OpL P o env n (res [i] L) .undef n (puts (res [i] L) [(i, some { bl with cells := cs })]) := by
    intro i off bl sz l cs hx hl ht hcl hchk hle hcs φ a w Q hop hg hf
    simp only [Bool.and_eq_true, Bool.not_eq_true'] at hchk
    obtain ⟨⟨⟨hsz, hro⟩, hfit⟩, hkd⟩ := hchk
    have hkd : bl.kind = none := by simpa using hkd
    have hsz := Nat.eq_of_beq_eq_true hsz
    have g1 := hop x (by simp [ho, Op.operands])
    have g2 := hop y (by simp [ho, Op.operands])
    rw [hx] at g1
    obtain ⟨b, hb, hv⟩ := g1
    have hall := cellsOf_r hcl g2
    have e1 : res [i] L = [(i, some bl)] := by simp [res, hl]
    have e2 : puts (res [i] L) [(i, some { bl with cells := cs })] = [(i, some { bl with cells := cs })] := by rw [e1]; simp [puts, put]
    rw [e2]; rw [e1] at hg ⊢
    obtain ⟨b', hb', pre, xs, rest, fr, k1, hp, k2, k3, k4, k5⟩ := hg.hr i bl (by simp [lk])
    rw [hkd] at k1; simp only [objOf] at k1
    rw [hb] at hb'; cases hb'
    have hvl := hall.len
    obtain ⟨w', hr, q1, q2, q3, q4, q5, q6⟩ := run_storeCells (P := P) (b := b.1) (o := off + b.2) (a.eval y).cells.toList 0 w (pre ++ (xs ++ rest)) k1
      (fun z hz => by
        obtain ⟨j, hj, hz⟩ := List.getElem_of_mem hz
        obtain ⟨s, hsm, hs⟩ := hall.get' (i := j) (b := z) (by rw [← hz]; simp [hj])
        exact hs.cell (fitsIn_nj hfit hsm))
      (by have := k2.len; simp only [List.length_append]; omega) (k4 hro)
    have hrun : (execOp a.eval o).run P w = .ok .skip w' := by
      have hs := elemSz_ok ht w
      have : ¬ ((a.eval y).cells.size ≠ sz) := by rw [← Array.length_toList]; omega
      simp only [execOp, ho, hv, Instr.storeAt, Instr.sureAddr, storeVar, Sem.run_bind, Sem.run_pure, Result.andThen_ok, hs, if_neg this, hr]
    unfold Oper.wp
    rw [hrun, Oper.upon_skip]
    obtain ⟨good, stp⟩ := store_good (w' := w') (cs' := cs) hkd hg hb hro hfit hall hle hcs ⟨pre, xs, rest, fr, k1, hp, k2, k3, k4 hro, k5, by simpa using q5⟩ q1 q2 q3 q4 q6
    exact ⟨φ, Go.undef, rfl, rfl, good, stp, fun _ _ => rfl⟩
  unfold aStore at h
  split at h
  · rename_i i off hx
    split at h
    · rename_i bl sz l hl ht hcl
      split at h
      · rename_i hchk
        split at h
        · split at h
          · rename_i cs as
            cases h
            exact ⟨key i off bl sz l cs hx hl ht hcl hchk hC.1 hC.2, Nat.le_refl _⟩
          · split at h
            · rename_i hle
              rw [frc_eq] at h
              cases h
              exact ⟨key i off bl sz l _ hx hl ht hcl hchk (Nat.le_of_ble_eq_true hle) rfl, Nat.le_refl _⟩
            · cases h
        · split at h
          · rename_i cs as
            cases h
            exact ⟨key i off bl sz l cs hx hl ht hcl hchk hC.1 hC.2, Nat.le_refl _⟩
          · cases h
      · cases h
    · cases h
  · cases h

/-! ### new variables -/
theorem aNew_ok {P : Program} {o : Oper} {env : List V} {n : Nat} {L : Hp} {ty : TypeId} {l : List S} {ans : List Ans}
    (h : ∀ φ (a : Act) (w : World), (∀ x ∈ o.op.operands, Vr φ (ev env x) (a.eval x)) → ∃ xs : List Value, (execOp a.eval o).run P w = .ok (.value (.pointer (some ⟨w.heap.size, 0, none⟩))) { w with heap := w.heap.push (.cells xs.toArray ty) } ∧ All2 (Sr φ) l xs) :
    OutOK P o env n L (aNew n ty l ans) := by
  refine ⟨?_, Nat.le_succ _⟩
  have e : puts (res (aNew n ty l ans).r.foot L) (aNew n ty l ans).r.wr = put [] n (some { cells := l, ty }) := by simp [aNew, res, puts]
  rw [e]
  refine OpL.fresh (L := []) (by simp [lk]) fun φ a w hop _ => ?_
  obtain ⟨xs, hr, hall⟩ := h φ a w hop
  exact ⟨_, _, hr, rfl, rfl, rfl, ⟨_, rfl⟩, blAt_new rfl hall, fun φ' hn _ => ⟨_, hn, rfl⟩⟩

def aAlloc (P : Program) (n : Nat) (t : TypeId) (ans : List Ans) : Option Out := match zeroOf P t with | some l => frc l [] fun l => some (aNew n t l ans) | none => none
theorem aAlloc_ok {P : Program} {env : List V} {n : Nat} {L : Hp} {t : TypeId} {ans : List Ans} {out : Out} {o : Oper} (ho : o.op = .alloc t) (h : aAlloc P n t ans = some out) : OutOK P o env n L out := by
  unfold aAlloc at h
  split at h
  · rename_i l hz
    rw [frc_eq] at h; cases h
    refine aNew_ok fun φ a w hop => ?_
    obtain ⟨z, hr, hall⟩ := zeroOf_r hz w
    exact ⟨z.cells.toList, by simp [execOp, ho, Instr.alloc, hr, newVar, newRow], hall φ⟩
  · cases h
def aBox (n : Nat) (t : TypeId) (v : V) (ans : List Ans) : Option Out := match cellsOf v with | some l => frc l [] fun l => some (aNew n t l ans) | none => none
theorem aBox_ok {P : Program} {env : List V} {n : Nat} {L : Hp} {t : TypeId} {x : Operand} {ans : List Ans} {out : Out} {o : Oper} (ho : o.op = .box t x) (h : aBox n t (ev env x) ans = some out) : OutOK P o env n L out := by
  unfold aBox at h
  split at h
  · rename_i l hz
    rw [frc_eq] at h; cases h
    refine aNew_ok fun φ a w hop => ?_
    exact ⟨(a.eval x).cells.toList, by simp [execOp, ho, Instr.box, newVar, newRow], cellsOf_r hz (hop x (by simp [ho, Op.operands]))⟩
  · cases h

end Ab
end Go.Proofs.YtgbkllbaojkfmaaGreatDoor
/-
  The frame, part 8b: slices made, cut and built; structs built and taken apart; bytes and strings.
-/
set_option linter.unusedSimpArgs false
set_option linter.unusedVariables false
namespace Go.Proofs.YtgbkllbaojkfmaaGreatDoor
namespace Ab
open Go

/-! ### make -/
def rep (k : Nat) (zs : List S) : List S := match zs with | [z] => List.replicate k z | zs => (List.range (k * zs.length)).map fun i => zs.getD (i % zs.length) .unk

theorem rep_length (k : Nat) (zs : List S) : (rep k zs).length = k * zs.length := by unfold rep; split <;> simp
theorem rep_get (k : Nat) (zs : List S) (i : Nat) (h : i < k * zs.length) : (rep k zs)[i]? = zs[i % zs.length]? := by
  have hpos : 0 < zs.length := by rcases Nat.eq_zero_or_pos zs.length with e | e; · rw [e] at h; omega
                                  · exact e
  have hm := Nat.mod_lt i hpos
  unfold rep
  split
  · simp at h ⊢; rw [List.getElem?_replicate, if_pos h]; simp [Nat.mod_one]
  · rw [List.getElem?_map, List.getElem?_range h]; simp [List.getD_eq_getElem?_getD, hm]

theorem map_range_zero {β : Type} (f : Nat → β) : Array.map f (Array.range 0) = #[] := by
  apply Array.eq_empty_of_size_eq_zero; simp
theorem rep_r {φ : Ph} {zs : List S} {zc : List Value} (hz : All2 (Sr φ) zs zc) (k : Nat) : All2 (Sr φ) (rep k zs) ((Array.range (k * zc.length)).map (fun i => zc.toArray[i % zc.toArray.size]!)).toList := by
  have hl := hz.len
  refine All2.of_get (by rw [rep_length]; simp [hl]) fun i a b ha hb => ?_
  have hi : i < k * zs.length := by
    rcases Nat.lt_or_ge i (rep k zs).length with h | h
    · rwa [rep_length] at h
    · simp [List.getElem?_eq_none h] at ha
  rw [rep_get k zs i hi] at ha
  obtain ⟨c, hc, hr⟩ := hz.get ha
  have hi' : i < k * zc.length := by rw [hl]; exact hi
  simp only [Array.toList_map, Array.toList_range, List.getElem?_map, List.getElem?_range hi', Option.map_some, Option.some.injEq] at hb
  subst hb
  have : i % zs.length < zc.length := by
    rcases Nat.lt_or_ge (i % zs.length) zc.length with h | h
    · exact h
    · simp [List.getElem?_eq_none h] at hc
  have e : zc.toArray[i % zc.toArray.size]! = c := by
    have hs : zc.toArray.size = zs.length := by simp [hl]
    rw [hs, getElem!_pos _ _ (by simpa using this)]
    simpa [this] using hc
  rw [e]; exact hr

def aMake (P : Program) (n : Nat) (t : TypeId) (l c : V) (ans : List Ans) : Option Out :=
  match P.underlying t, l, c with
  | some (.slice e), .s (.int _ zl), .s (.int _ zc) =>
    match P.info? e, zeroOf P e with
    | some inf, some zs =>
      match Nat.beq inf.size zs.length with
      | true =>
        match ans with
        | .idx kl :: .idx kc :: as => some ⟨⟨[], .s (.slc (some (n, 0)) kl (some kc)), [(n, some { cells := rep kc zs, ty := e, sym := true, flat := zs.all noPtr })], n + 1⟩, as, zl = (kl : Int) ∧ zc = (kc : Int) ∧ kl ≤ kc ∧ inf.bytes * kc ≤ 281474976710656 ∧ kc ≤ 281474976710656⟩
        | .mk kl :: .mk kc :: as => frc (rep kc zs) [] fun cs => some ⟨⟨[], .s (.slc (some (n, 0)) kl (some kc)), [(n, some { cells := cs, ty := e })], n + 1⟩, as, zl = (kl : Int) ∧ zc = (kc : Int) ∧ kl ≤ kc ∧ inf.bytes * kc ≤ 281474976710656 ∧ kc ≤ 281474976710656⟩
        | _ => none
      | false => none
    | _, _ => none
  | _, _, _ => none

theorem run_make {P : Program} {w : World} {t e : TypeId} {inf : TypeInfo} {zs : List S} (hty : P.underlying t = some (.slice e)) (hi : P.info? e = some inf) (hz : zeroOf P e = some zs) (hsz : inf.size = zs.length) {k1 k2 : IntKind} {kl kc : Nat} (hle : kl ≤ kc) (hb : inf.bytes * kc ≤ 281474976710656) (hk : kc ≤ 281474976710656) :
    ∃ xs : List Value, (Instr.makeSlice t (.int k1 (kl : Int)) (.int k2 (kc : Int))).run P w = .ok (.slice (some ⟨w.heap.size, 0, none⟩) kl kc) { w with heap := w.heap.push (.cells xs.toArray e) } ∧ ∀ φ, All2 (Sr φ) (rep kc zs) xs := by
  obtain ⟨z, hzr, hall⟩ := zeroOf_r hz w
  have hlen : z.cells.size = zs.length := by rw [← Array.length_toList]; exact (hall fun _ => none).len
  have w1 : IntKind.i64.wrap (kl : Int) = kl := i64_in (by omega) (by omega)
  have w2 : IntKind.i64.wrap (kc : Int) = kc := i64_in (by omega) (by omega)
  refine ⟨((Array.range (kc * z.cells.toList.length)).map (fun i => z.cells.toList.toArray[i % z.cells.toList.toArray.size]!)).toList, ?_, fun φ => rep_r (hall φ) kc⟩
  have hs : (sizeOf e).run P w = .ok inf.size w := by simp [sizeOf, typeInfo, hi]
  have ht : (typeInfo e).run P w = .ok inf w := by simp [typeInfo, hi]
  have c1 : ((decide ((kc : Int) < 0) || decide ((inf.bytes : Int) * (kc : Int) > 2 ^ 48)) || decide ((kl : Int) < 0) || decide ((kl : Int) > (kc : Int))) = false := by
    have h3 : (inf.bytes : Int) * (kc : Int) ≤ 281474976710656 := by rw [← Int.natCast_mul]; omega
    have e48 : (2 : Int) ^ 48 = 281474976710656 := by decide
    rw [e48]
    rw [Bool.eq_false_iff]
    intro h
    simp only [Bool.or_eq_true, decide_eq_true_eq] at h
    omega
  unfold Instr.makeSlice
  simp only [Sem.run_bind, run_underlying hty, Result.andThen_ok, asInt, asIntOf, Sem.run_pure, ht, w1, w2]
  simp only [c1, Bool.false_eq_true, if_false, Sem.run_pure, Result.andThen_ok, run_askRoom, hs, Int.toNat_natCast, Sem.run_bind]
  have hls : z.cells.toList.length = inf.size := by rw [Array.length_toList, hlen, hsz]
  by_cases h0 : kc * inf.size = 0
  · rw [if_pos h0]
    simp only [Sem.run_pure, Result.andThen_ok, newRow, Sem.run_bind, run_newObj, hls]
    simp [h0, map_range_zero]
  · rw [if_neg h0]
    simp only [Sem.run_bind, hzr, Sem.run_pure, Result.andThen_ok, newRow, run_newObj, hls]

theorem aMake_ok {P : Program} {env : List V} {n : Nat} {L : Hp} {t : TypeId} {x y : Operand} {ans : List Ans} {out : Out} {o : Oper} (ho : o.op = .makeSlice t x y)
    (h : aMake P n t (ev env x) (ev env y) ans = some out) (hC : out.C) : OutOK P o env n L out := by
  unfold aMake at h
  split at h
  · rename_i e k1 zl k2 zc hty hx hy
    split at h
    · rename_i inf zs hi hz
      split at h
      · rename_i hsz
        have hsz := Nat.eq_of_beq_eq_true hsz
        split at h
        · rename_i kl kc as
          cases h
          obtain ⟨rfl, rfl, h3, h4, h5⟩ := hC
          refine ⟨?_, Nat.le_succ _⟩
          refine OpL.fresh (L := []) (bl := { cells := rep kc zs, ty := e, sym := true, flat := zs.all noPtr }) (by simp [lk]) fun φ a w hop _ => ?_
          have g1 := hop x (by simp [ho, Op.operands])
          have g2 := hop y (by simp [ho, Op.operands])
          rw [hx] at g1; rw [hy] at g2
          simp only [Vr, Sr] at g1 g2
          obtain ⟨xs, hr, hall⟩ := run_make (w := w) hty hi hz hsz (k1 := k1) (k2 := k2) h3 h4 h5
          refine ⟨.slice (some ⟨w.heap.size, 0, none⟩) kl kc, { w with heap := w.heap.push (.cells xs.toArray e) }, by simp only [execOp, ho, g1, g2]; rw [Sem.run_bind, hr]; rfl, rfl, rfl, rfl, ⟨_, rfl⟩, ⟨[], xs, [], (0, 0), by simp [objOf], rfl, hall _, fun _ => rfl, fun _ _ _ => by simp, ⟨fun _ _ e => (by cases e), fun _ e => (by cases e)⟩⟩, fun φ' hn _ => ⟨_, kc, hn, rfl, h3, .inr rfl⟩⟩
        · rename_i kl kc as
          rw [frc_eq] at h
          cases h
          obtain ⟨rfl, rfl, h3, h4, h5⟩ := hC
          refine ⟨?_, Nat.le_succ _⟩
          refine OpL.fresh (L := []) (bl := { cells := rep kc zs, ty := e }) (by simp [lk]) fun φ a w hop _ => ?_
          have g1 := hop x (by simp [ho, Op.operands])
          have g2 := hop y (by simp [ho, Op.operands])
          rw [hx] at g1; rw [hy] at g2
          simp only [Vr, Sr] at g1 g2
          obtain ⟨xs, hr, hall⟩ := run_make (w := w) hty hi hz hsz (k1 := k1) (k2 := k2) h3 h4 h5
          refine ⟨.slice (some ⟨w.heap.size, 0, none⟩) kl kc, { w with heap := w.heap.push (.cells xs.toArray e) }, by simp only [execOp, ho, g1, g2]; rw [Sem.run_bind, hr]; rfl, rfl, rfl, rfl, ⟨_, rfl⟩, ⟨[], xs, [], (0, 0), by simp [objOf], rfl, hall _, fun _ => rfl, fun _ _ _ => by simp, ⟨fun _ _ e => (by cases e), fun _ e => (by cases e)⟩⟩, fun φ' hn _ => ⟨_, kc, hn, rfl, h3, .inr rfl⟩⟩
        · cases h
      · cases h
    · cases h
  · cases h

/-! ### literals -/
/-- the parts of a literal laid over its cells -/
def fillS (place : Nat → Option (Nat × Nat)) : List S → List (Nat × V) → Option (List S)
  | cs, [] => some cs
  | cs, (i, v) :: t =>
    match place i, cellsOf v with
    | some (off, sz), some l => match Nat.beq l.length sz && Nat.ble (off + l.length) cs.length with | true => fillS place (setL cs off l) t | false => none
    | _, _ => none

theorem foldl_setL {α : Type} : ∀ (vs : List α) (arr : List α) (off k : Nat), (vs.zipIdx k).foldl (fun (cs : Array α) (x : α × Nat) => cs.setIfInBounds (off + x.2) x.1) arr.toArray = (setL arr (off + k) vs).toArray
  | [], _, _, _ => rfl
  | v :: t, arr, off, k => by
    simp only [List.zipIdx_cons, List.foldl_cons, setL]
    rw [List.setIfInBounds_toArray, foldl_setL t, Nat.add_assoc]

theorem fillS_r {φ : Ph} {place : Nat → Option (Nat × Nat)} : ∀ {parts : List (Nat × V)} {vals : List (Nat × Value)} {cs : List S} {arr : List Value} {cs' : List S},
    All2 (fun (p : Nat × V) (q : Nat × Value) => p.1 = q.1 ∧ Vr φ p.2 q.2) parts vals → All2 (Sr φ) cs arr → fillS place cs parts = some cs' → ∃ arr', Instr.fill place arr.toArray vals = some arr'.toArray ∧ All2 (Sr φ) cs' arr'
  | [], [], cs, arr, cs', _, hc, h => by simp [fillS] at h; subst h; exact ⟨arr, rfl, hc⟩
  | (i, v) :: ps, (j, y) :: qs, cs, arr, cs', hp, hc, h => by
    obtain ⟨⟨hij, hv⟩, hp⟩ := hp
    simp only at hij hv
    subst hij
    simp only [fillS] at h
    split at h
    · rename_i off sz l hpl hcl
      split at h
      · rename_i hchk
        simp only [Bool.and_eq_true] at hchk
        have e1 := Nat.eq_of_beq_eq_true hchk.1
        have e2 := Nat.le_of_ble_eq_true hchk.2
        have hall := cellsOf_r hcl hv
        have hl1 := hall.len
        have hl2 := hc.len
        obtain ⟨arr', hf, ha⟩ := fillS_r (place := place) hp (setL_r off hc hall) h
        refine ⟨arr', ?_, ha⟩
        simp only [Instr.fill, hpl]
        have hs : y.cells.size = sz := by rw [← Array.length_toList]; omega
        have : ¬ ((decide (y.cells.size ≠ sz) || decide (off + y.cells.size > arr.toArray.size)) = true) := by simp; omega
        rw [if_neg (by simpa using this)]
        have e3 := foldl_setL y.cells.toList arr off 0
        rw [Nat.add_zero] at e3
        rw [← hf, ← e3]
        congr 1
        rw [← Array.foldl_toList]
        simp
      · cases h
    · cases h
  | [], _ :: _, _, _, _, h, _, _ => h.elim
  | _ :: _, [], _, _, _, h, _, _ => h.elim

def partsOf (env : List V) (parts : Array (Nat × Operand)) : List (Nat × V) := parts.toList.map fun (i, x) => (i, ev env x)
theorem parts_r {φ : Ph} {env : List V} {a : Act} : ∀ (l : List (Nat × Operand)), (∀ x ∈ l.map (·.2), Vr φ (ev env x) (a.eval x)) →
    All2 (fun (p : Nat × V) (q : Nat × Value) => p.1 = q.1 ∧ Vr φ p.2 q.2) (l.map fun (i, x) => (i, ev env x)) (l.map fun (i, x) => (i, a.eval x))
  | [], _ => trivial
  | (i, x) :: t, h => ⟨⟨rfl, h x (by simp)⟩, parts_r t fun y hy => h y (by simp at hy ⊢; exact .inr hy)⟩

def placesOf (P : Program) : List Field → Option (List (Nat × Nat))
  | [] => some []
  | f :: t => match elemSz P f.type, placesOf P t with | some sz, some r => some ((f.offset, sz) :: r) | _, _ => none
theorem placesOf_ok {P : Program} {w : World} : ∀ {fs : List Field} {r : List (Nat × Nat)}, placesOf P fs = some r → (fs.mapM fun (f : Field) => (do pure (f.offset, ← sizeOf f.type) : Sem (Nat × Nat))).run P w = .ok r w
  | [], r, h => by simp [placesOf] at h; subst h; simp
  | f :: t, r, h => by
    simp only [placesOf] at h
    split at h
    · rename_i sz r' h1 h2
      cases h
      rw [List.mapM_cons]
      simp only [Sem.run_bind, elemSz_ok h1, Result.andThen_ok, Sem.run_pure, placesOf_ok h2]
    · cases h

def aBuild (P : Program) (n : Nat) (t : TypeId) (parts : List (Nat × V)) (ans : List Ans) : Option Out :=
  match P.underlying t, zeroOf P t with
  | some (.struct fs), some zs =>
    match placesOf P fs.toList with
    | some pl => match fillS (fun i => pl[i]?) zs parts with | some cs => lt n (.agg cs) ans True | none => none
    | none => none
  | some (.array _ e), some zs =>
    match elemSz P e with
    | some sz => match fillS (fun i => some (i * sz, sz)) zs parts with | some cs => lt n (.agg cs) ans True | none => none
    | none => none
  | _, _ => none

theorem aBuild_ok {P : Program} {env : List V} {n : Nat} {L : Hp} {t : TypeId} {parts : Array (Nat × Operand)} {ans : List Ans} {out : Out} {o : Oper} (ho : o.op = .build t parts)
    (h : aBuild P n t (partsOf env parts) ans = some out) : OutOK P o env n L out := by
  unfold aBuild at h
  split at h
  · rename_i fs zs hty hz
    split at h
    · rename_i pl hpl
      split at h
      · rename_i cs hcs
        refine lt_ok h fun φ a w hop => ?_
        obtain ⟨z, hzr, hall⟩ := zeroOf_r hz w
        have hp := parts_r (φ := φ) (env := env) (a := a) parts.toList (fun x hx => hop x (by rw [ho]; simp only [Op.operands]; simpa using hx))
        obtain ⟨arr', hf, ha⟩ := fillS_r hp (hall φ) hcs
        refine ⟨.agg arr'.toArray, ?_, arr', rfl, ha⟩
        have hm : (Array.mapM (fun (f : Field) => (do pure (f.offset, ← sizeOf f.type) : Sem (Nat × Nat))) fs).run P w = .ok pl.toArray w := by
          rw [Array.mapM_eq_mapM_toList]; simp only [Sem.run_map, placesOf_ok hpl, Result.andThen_ok]
        have e : (parts.map fun (i, x) => (i, a.eval x)).toList = parts.toList.map fun (i, x) => (i, a.eval x) := by simp
        simp only [execOp, ho, Instr.build, Sem.run_bind, hzr, Result.andThen_ok, run_underlying hty, hm, e]
        have e2 : (fun (x : Nat) => pl.toArray[x]?) = (fun (i : Nat) => pl[i]?) := by funext i; simp
        have e3 : z.cells.toList.toArray = z.cells := by simp
        rw [e3] at hf
        simp only [e2, hf, Sem.run_pure, Result.andThen_ok]
      · cases h
    · cases h
  · rename_i len e zs hty hz
    split at h
    · rename_i sz hsz
      split at h
      · rename_i cs hcs
        refine lt_ok h fun φ a w hop => ?_
        obtain ⟨z, hzr, hall⟩ := zeroOf_r hz w
        have hp := parts_r (φ := φ) (env := env) (a := a) parts.toList (fun x hx => hop x (by rw [ho]; simp only [Op.operands]; simpa using hx))
        obtain ⟨arr', hf, ha⟩ := fillS_r hp (hall φ) hcs
        refine ⟨.agg arr'.toArray, ?_, arr', rfl, ha⟩
        have e1 : (parts.map fun (i, x) => (i, a.eval x)).toList = parts.toList.map fun (i, x) => (i, a.eval x) := by simp
        have e3 : z.cells.toList.toArray = z.cells := by simp
        rw [e3] at hf
        simp only [execOp, ho, Instr.build, Sem.run_bind, hzr, Result.andThen_ok, run_underlying hty, elemSz_ok hsz, e1, hf, Sem.run_pure]
      · cases h
    · cases h
  · cases h

def aBuildSlice (P : Program) (n : Nat) (t : TypeId) (len : Nat) (parts : List (Nat × V)) (ans : List Ans) : Option Out :=
  match P.underlying t with
  | some (.slice e) =>
    match elemSz P e, zeroOf P e with
    | some sz, some zs =>
      match Nat.beq sz zs.length && Nat.ble (len * sz) 16777216 with
      | true =>
        match fillS (fun i => some (i * sz, sz)) (rep len zs) parts with
        | some cs => frc cs [] fun cs => some ⟨⟨[], .s (.slc (some (n, 0)) len (some len)), [(n, some { cells := cs, ty := e })], n + 1⟩, ans, True⟩
        | none => none
      | false => none
    | _, _ => none
  | _ => none

theorem aBuildSlice_ok {P : Program} {env : List V} {n : Nat} {L : Hp} {t : TypeId} {len : Nat} {parts : Array (Nat × Operand)} {ans : List Ans} {out : Out} {o : Oper} (ho : o.op = .buildSlice t len parts)
    (h : aBuildSlice P n t len (partsOf env parts) ans = some out) : OutOK P o env n L out := by
  unfold aBuildSlice at h
  split at h
  · rename_i e hty
    split at h
    · rename_i sz zs hsz hz
      split at h
      · rename_i hchk
        simp only [Bool.and_eq_true] at hchk
        have k1 := Nat.eq_of_beq_eq_true hchk.1
        have k2 := Nat.le_of_ble_eq_true hchk.2
        split at h
        · rename_i cs hcs
          rw [frc_eq] at h
          cases h
          refine ⟨?_, Nat.le_succ _⟩
          refine OpL.fresh (L := []) (bl := { cells := cs, ty := e }) (by simp [lk]) fun φ a w hop _ => ?_
          obtain ⟨z, hzr, hall⟩ := zeroOf_r hz w
          have hp := parts_r (φ := φ) (env := env) (a := a) parts.toList (fun x hx => hop x (by rw [ho]; simp only [Op.operands]; simpa using hx))
          have hlen : z.cells.size = sz := by rw [← Array.length_toList, (hall φ).len, k1]
          obtain ⟨arr', hf, ha⟩ := fillS_r hp (rep_r (hall φ) len) hcs
          refine ⟨.slice (some ⟨w.heap.size, 0, none⟩) len len, { w with heap := w.heap.push (.cells arr'.toArray e) }, ?_, rfl, rfl, rfl, ⟨_, rfl⟩, blAt_new rfl ha, fun φ' hn _ => ⟨_, len, hn, rfl, Nat.le_refl _, .inr rfl⟩⟩
          have e1 : (parts.map fun (i, x) => (i, a.eval x)).toList = parts.toList.map fun (i, x) => (i, a.eval x) := by simp
          have k3 : ¬ (len * sz > 2 ^ 24) := by omega
          have hf' : Instr.fill (fun i => some (i * sz, sz)) ((Array.range (len * sz)).map (fun i => z.cells[i % z.cells.size]!)) (parts.toList.map fun (i, x) => (i, a.eval x)) = some arr'.toArray := by
            have e : ((Array.range (len * sz)).map (fun i => z.cells[i % z.cells.size]!)) = ((Array.range (len * z.cells.toList.length)).map (fun i => z.cells.toList.toArray[i % z.cells.toList.toArray.size]!)).toList.toArray := by
              rw [show z.cells.toList.toArray = z.cells by simp, show z.cells.toList.length = sz by simp [hlen]]
            rw [e]; exact hf
          by_cases h0 : len * sz = 0
          · have h0' : ((Array.range (len * sz)).map (fun i => z.cells[i % z.cells.size]!)) = ((Array.range (len * sz)).map (fun i => (#[] : Array Value)[i % (#[] : Array Value).size]!)) := by rw [h0, map_range_zero, map_range_zero]
            rw [h0'] at hf'
            simp only [execOp, ho, Instr.buildSlice, Sem.run_bind, run_underlying hty, Result.andThen_ok, elemSz_ok hsz, if_neg k3, Sem.run_pure, e1]
            rw [if_pos h0]
            simp only [Sem.run_pure, Result.andThen_ok, hf', newRow, Sem.run_bind, run_newObj]
          · simp only [execOp, ho, Instr.buildSlice, Sem.run_bind, run_underlying hty, Result.andThen_ok, elemSz_ok hsz, if_neg k3, Sem.run_pure, e1]
            rw [if_neg h0]
            simp only [Sem.run_bind, hzr, Sem.run_pure, Result.andThen_ok, hf', newRow, run_newObj]
        · cases h
      · cases h
    · cases h
  · cases h

/-! ### strings and slices cut -/
/-- a bound of a slice expression: at most 'top' -/
def bndOf (x : Option V) (dflt top : Nat) (ans : List Ans) : Option (Nat × List Ans × Prop) :=
  match x with
  | none => some (dflt, ans, True)
  | some (.s (.int _ z)) => match ans with | .idx k :: as => some (k, as, z = (k : Int) ∧ k ≤ top) | _ => none
  | _ => none

theorem bndOf_ok {P : Program} {w : World} {φ : Ph} {x : Option V} {y : Option Value} (hxy : match x, y with | none, none => True | some v, some u => Vr φ v u | _, _ => False) {dflt top : Nat} {ans : List Ans} {k : Nat} {as : List Ans} {C : Prop} {code : BoundsCode}
    (h : bndOf x dflt top ans = some (k, as, C)) (hC : C) : (match y with | some v => Instr.sliceBound v top code | none => pure dflt).run P w = .ok k w ∧ (x.isSome = true → k ≤ top) := by
  unfold bndOf at h
  split at h
  · cases y with
    | none => cases h; exact ⟨rfl, by simp⟩
    | some v => exact hxy.elim
  · cases y with
    | none => exact hxy.elim
    | some v =>
      simp only [Vr, Sr] at hxy
      split at h
      · cases h
        obtain ⟨rfl, h2⟩ := hC
        rename_i kk _
        have hb : (0 : Int) ≤ (k : Int) ∧ (k : Int) ≤ (top : Int) := by omega
        exact ⟨by simp only [Instr.sliceBound, hxy, asIntOf, Sem.run_bind, Sem.run_pure, Result.andThen_ok]; rw [if_pos hb]; simp, fun _ => h2⟩
      · cases h
  · cases h

def aSliceStr (n : Nat) (l : List UInt8) (lo hi : Option V) (ans : List Ans) : Option Out :=
  match bndOf hi l.length l.length ans with
  | some (h, as, C) =>
    match bndOf lo 0 h as with
    | some (k, as', D) =>
      match hi, lo with
      | none, none => some ⟨⟨[], .s (.str l), [], n⟩, as', C ∧ D⟩
      | none, some _ => some ⟨⟨[], .s (.str (l.drop k)), [], n⟩, as', C ∧ D⟩
      | some _, none => some ⟨⟨[], .s (.str (l.take h)), [], n⟩, as', C ∧ D⟩
      | some _, some _ => some ⟨⟨[], .s (.str ((l.take h).drop k)), [], n⟩, as', C ∧ D⟩
    | none => none
  | none => none

def topOf (cap : Option Nat) (len : Nat) : Nat := match cap with | some c => c | none => len
def subCap (cap : Option Nat) (k : Nat) : Option Nat := match cap with | some c => some (c - k) | none => none
def ltCap (cap : Option Nat) (k h : Nat) : Prop := match cap with | some c => k < c | none => k < h
/-- a slice of a slice: behind the bounds an answer 'idx m': the new length. 'cap' known, or unknown: then the high bound is at most the length, and the cut is not at its end. -/
def aSliceSl (n i o len : Nat) (cap : Option Nat) (sz : Nat) (lo hi : Option V) (ans : List Ans) : Option Out :=
  match bndOf hi len (topOf cap len) ans with
  | some (h, as, C) =>
    match bndOf lo 0 h as with
    | some (k, as', D) =>
      match lo with
      | none => some ⟨⟨[], .s (.slc (some (i, o)) h cap), [], n⟩, as', C ∧ D⟩
      | some _ =>
        match as' with
        | .idx m :: as'' => some ⟨⟨[], .s (.slc (some (i, plus o (times k sz))) m (subCap cap k)), [], n⟩, as'', (C ∧ D) ∧ h - k = m ∧ ltCap cap k h⟩
        | _ => none
    | none => none
  | none => none

def aSlice (P : Program) (n : Nat) (t : TypeId) (x : V) (lo hi mx : Option V) (ans : List Ans) : Option Out :=
  match mx with
  | some _ => none
  | none =>
    match P.underlying t, x with
    | some .string, .s (.str l) => aSliceStr n l lo hi ans
    | some (.slice e), .s (.slc (some (i, o)) len cap) => match elemSz P e with | some sz => aSliceSl n i o len cap sz lo hi ans | none => none
    | some (.slice e), .s (.slc none len cap) => match lo, hi, elemSz P e with | none, none, some _ => some ⟨⟨[], .s (.slc none len cap), [], n⟩, ans, True⟩ | _, _, _ => none
    | _, _ => none

theorem optR {φ : Ph} {env : List V} {a : Act} (x : Option Operand) (h : ∀ y ∈ x.toList, Vr φ (ev env y) (a.eval y)) : match x.map (ev env), x.map a.eval with | none, none => True | some v, some u => Vr φ v u | _, _ => False := by
  cases x with
  | none => trivial
  | some y => exact h y (by simp)

theorem aSlice_ok {P : Program} {env : List V} {n : Nat} {L : Hp} {t : TypeId} {x : Operand} {lo hi mx : Option Operand} {ans : List Ans} {out : Out} {o : Oper} (ho : o.op = .slice t x lo hi mx)
    (h : aSlice P n t (ev env x) (lo.map (ev env)) (hi.map (ev env)) (mx.map (ev env)) ans = some out) (hC : out.C) : OutOK P o env n L out := by
  have hmx : mx = none := by
    unfold aSlice at h
    cases mx with
    | none => rfl
    | some m => simp at h
  subst hmx
  have lower : ∀ (d : Option Out), d = some out → True := fun _ _ => trivial
  have light : ∀ (v : V) (as : List Ans) (C : Prop), out = ⟨⟨[], v, [], n⟩, as, C⟩ → (∀ φ (a : Act) (w : World), (∀ y ∈ o.op.operands, Vr φ (ev env y) (a.eval y)) → ∃ y, (execOp a.eval o).run P w = .ok (.value y) w ∧ Vr φ v y) → OutOK P o env n L out := by
    intro v as C e hh; subst e
    exact ⟨OpL.light fun φ a w hx _ => hh φ a w hx, Nat.le_refl _⟩
  have opx : x ∈ o.op.operands := by simp [ho, Op.operands]
  have oplo : ∀ y ∈ lo.toList, y ∈ o.op.operands := fun y hy => by rw [ho]; simp [Op.operands]; simp at hy; simp [hy]
  have ophi : ∀ y ∈ hi.toList, y ∈ o.op.operands := fun y hy => by rw [ho]; simp [Op.operands]; simp at hy; simp [hy]
  unfold aSlice at h
  simp only [Option.map_none] at h
  split at h
  · -- a string
    rename_i l hty hx
    unfold aSliceStr at h
    split at h
    · rename_i hb as C hhi
      split at h
      · rename_i k as' D hlo
        have key : C → D → ∀ φ (a : Act) (w : World), (∀ y ∈ o.op.operands, Vr φ (ev env y) (a.eval y)) → (execOp a.eval o).run P w = .ok (.value (.string ⟨((l.take hb).drop k).toArray⟩)) w := by
          intro c1 c2 φ a w hop
          have g := hop x opx
          rw [hx] at g; simp only [Vr, Sr] at g
          have r1 := (bndOf_ok (P := P) (w := w) (code := .sliceAlen) (optR hi fun y hy => hop y (ophi y hy)) hhi c1).1
          have r2 := (bndOf_ok (P := P) (w := w) (code := .sliceB) (optR lo fun y hy => hop y (oplo y hy)) hlo c2).1
          have es : (⟨l.toArray⟩ : ByteArray).size = l.length := rfl
          have ex : (⟨l.toArray⟩ : ByteArray).extract k hb = ⟨((l.take hb).drop k).toArray⟩ := by
            apply ByteArray.ext; simp [ByteArray.data_extract]; rw [List.drop_take]
          have hsb : (Instr.sliceBounds false l.length l.length (lo.map a.eval) (hi.map a.eval) none).run P w = .ok (k, hb, l.length) w := by
            unfold Instr.sliceBounds
            cases hi <;> cases lo <;> simp_all
          simp only [execOp, ho, g, Option.map_none, Instr.sliceAt, Instr.slice, Sem.run_bind, run_underlying hty, Result.andThen_ok, es, Option.isSome_none, Bool.false_eq_true, if_false, Sem.run_pure, hsb, ex]
        have kle : D → lo = none → k = 0 := by
          intro _ e; subst e
          simp [bndOf] at hlo; exact hlo.1.symm
        have hle : C → hi = none → hb = l.length := by
          intro _ e; subst e
          simp [bndOf] at hhi; exact hhi.1.symm
        cases hi with
        | none =>
          cases lo with
          | none =>
            simp at h; subst h
            refine light _ _ _ rfl fun φ a w hop => ⟨_, key hC.1 hC.2 φ a w hop, ?_⟩
            rw [kle hC.2 rfl, hle hC.1 rfl]; simp [Vr, Sr]
          | some _ =>
            simp at h; subst h
            refine light _ _ _ rfl fun φ a w hop => ⟨_, key hC.1 hC.2 φ a w hop, ?_⟩
            rw [hle hC.1 rfl]; simp [Vr, Sr]
        | some _ =>
          cases lo with
          | none =>
            simp at h; subst h
            refine light _ _ _ rfl fun φ a w hop => ⟨_, key hC.1 hC.2 φ a w hop, ?_⟩
            rw [kle hC.2 rfl]; simp [Vr, Sr]
          | some _ =>
            simp at h; subst h
            exact light _ _ _ rfl fun φ a w hop => ⟨_, key hC.1 hC.2 φ a w hop, rfl⟩
      · cases h
    · cases h
  · -- a slice
    rename_i e i off len cap hty hx
    split at h
    · rename_i sz hsz
      unfold aSliceSl at h
      split at h
      · rename_i hb as C hhi
        split at h
        · rename_i k as' D hlo
          have key : ∀ (c : Nat), C → D → (cap = none ∨ cap = some c) → len ≤ c → ∀ φ (a : Act) (w : World) (b off : Nat), (∀ y ∈ o.op.operands, Vr φ (ev env y) (a.eval y)) → a.eval x = .slice (some ⟨b, off, none⟩) len c →
              (execOp a.eval o).run P w = .ok (.value (.slice (if c = k then some ⟨b, off, none⟩ else some ⟨b, off + k * sz, none⟩) (hb - k) (c - k))) w ∧ hb ≤ c := by
            intro c c1 c2 hcap hle φ a w b off hop g
            have hhb : hb ≤ c ∧ (match hi.map a.eval with | some v => Instr.sliceBound v c .sliceAcap | none => pure len).run P w = .ok hb w := by
              have q := optR (φ := φ) (env := env) (a := a) hi fun y hy => hop y (ophi y hy)
              cases hi with
              | none => simp [bndOf] at hhi; obtain ⟨rfl, _, _⟩ := hhi; exact ⟨hle, rfl⟩
              | some yh =>
                simp only [Option.map_some] at q hhi ⊢
                unfold bndOf at hhi
                split at hhi
                · rename_i he; cases he
                · rename_i kd z he
                  simp only [Option.some.injEq] at he
                  rw [he] at q
                  simp only [Vr, Sr] at q
                  split at hhi
                  · simp only [Option.some.injEq, Prod.mk.injEq] at hhi
                    obtain ⟨rfl, rfl, rfl⟩ := hhi
                    obtain ⟨rfl, h2⟩ := c1
                    have h3 : topOf cap len ≤ c := by rcases hcap with rfl | rfl <;> simp [topOf, hle]
                    refine ⟨by omega, ?_⟩
                    simp only [Instr.sliceBound, q, asIntOf, Sem.run_bind, Sem.run_pure, Result.andThen_ok]
                    rw [if_pos (by omega)]; simp
                  · cases hhi
                · cases hhi
            have r2 := (bndOf_ok (P := P) (w := w) (code := .sliceB) (optR lo fun y hy => hop y (oplo y hy)) hlo c2).1
            have hsb : (Instr.sliceBounds true len c (lo.map a.eval) (hi.map a.eval) none).run P w = .ok (k, hb, c) w := by
              have q := hhb.2
              unfold Instr.sliceBounds
              cases hi <;> cases lo <;> simp_all
            refine ⟨?_, hhb.1⟩
            simp only [execOp, ho, g, Option.map_none, Instr.sliceAt, Instr.slice, Sem.run_bind, run_underlying hty, Result.andThen_ok, hsb, elemSz_ok hsz, Option.map_some, addr_add, Sem.run_pure]
          have kle : D → lo = none → k = 0 := by
            intro _ e; subst e
            simp [bndOf] at hlo; exact hlo.1.symm
          cases lo with
          | none =>
            simp at h; subst h
            refine light _ _ _ rfl fun φ a w hop => ?_
            have g := hop x opx
            rw [hx] at g
            obtain ⟨b, c, hb1, hv, hlc, hcc⟩ := g
            obtain ⟨r1, r2⟩ := key c hC.1 hC.2 hcc hlc φ a w b.1 (off + b.2) hop hv
            have hk := kle hC.2 rfl
            subst hk
            refine ⟨_, r1, ?_⟩
            have : (if c = 0 then some (⟨b.1, off + b.2, none⟩ : Addr) else some ⟨b.1, off + b.2 + 0 * sz, none⟩) = some ⟨b.1, off + b.2, none⟩ := by split <;> simp
            rw [this]
            exact ⟨b, c, hb1, by simp, r2, hcc⟩
          | some lv =>
            simp only [Option.map_some] at h
            split at h
            · rename_i m as''
              simp only [Option.some.injEq] at h; subst h
              refine light _ _ _ rfl fun φ a w hop => ?_
              have g := hop x opx
              rw [hx] at g
              obtain ⟨b, c, hb1, hv, hlc, hcc⟩ := g
              obtain ⟨⟨c1, c2⟩, c3, c4⟩ := hC
              obtain ⟨r1, r2⟩ := key c c1 c2 hcc hlc φ a w b.1 (off + b.2) hop hv
              refine ⟨_, r1, ?_⟩
              have hne : ¬ c = k := by
                rcases hcc with rfl | rfl
                · simp only [ltCap] at c4; omega
                · simp only [ltCap] at c4; omega
              rw [if_neg hne]
              refine ⟨b, c - k, hb1, by rw [plus_eq, times_eq, c3, Nat.add_right_comm], by omega, ?_⟩
              rcases hcc with rfl | rfl
              · exact .inl rfl
              · exact .inr rfl
            · cases h
        · cases h
      · cases h
    · cases h
  · -- the nil slice, whole
    rename_i e len cap hty hx
    cases hsz : elemSz P e with
    | none => cases lo <;> cases hi <;> simp [hsz] at h
    | some sz =>
      cases lo <;> cases hi <;> simp [hsz] at h
      subst h
      refine light _ _ _ rfl fun φ a w hop => ?_
      have g := hop x opx
      rw [hx] at g
      obtain ⟨rfl, rfl, hv⟩ := g
      refine ⟨.slice none 0 0, ?_, rfl, rfl, rfl⟩
      have hsb : (Instr.sliceBounds true 0 0 none none none).run P w = .ok (0, 0, 0) w := by simp [Instr.sliceBounds]
      simp only [execOp, ho, hv, Option.map_none, Instr.sliceAt, Instr.slice, Sem.run_bind, run_underlying hty, Result.andThen_ok, hsb, elemSz_ok hsz, Sem.run_pure, if_true, Nat.sub_self]
  · cases h

end Ab
end Go.Proofs.YtgbkllbaojkfmaaGreatDoor
/-
  The frame, part 8c: bytes and strings; structs compared; append and copy.
-/
set_option linter.unusedSimpArgs false
set_option linter.unusedVariables false
namespace Go.Proofs.YtgbkllbaojkfmaaGreatDoor
namespace Ab
open Go

theorem beq_decide (a b : List UInt8) : (a == b) = decide (a = b) := by by_cases e : a = b <;> simp [e]

/-! ### integers that are not looked at, held against each other -/
def eqTm : Tm → Tm → Bool
  | .v i, .v j => Nat.beq i j
  | .c i, .c j => Nat.beq i j
  | .bin o k a b, .bin o' k' a' b' => match o == o' && kEq k k' with | true => (match eqTm a a' with | true => eqTm b b' | false => false) | false => false
  | _, _ => false
theorem eqTm_ok : ∀ {a b : Tm}, eqTm a b = true → a = b
  | .v i, .v j, h => by rw [Nat.eq_of_beq_eq_true h]
  | .c i, .c j, h => by rw [Nat.eq_of_beq_eq_true h]
  | .bin o k a b, .bin o' k' a' b', h => by
    simp only [eqTm] at h
    split at h
    · rename_i h1
      simp only [Bool.and_eq_true] at h1
      have e1 := eq_of_beq h1.1
      have e2 := kEq_eq h1.2
      split at h
      · rename_i h2
        rw [e1, e2, eqTm_ok h2, eqTm_ok h]
      · cases h
    · cases h
  | .v _, .c _, h => by cases h
  | .v _, .bin .., h => by cases h
  | .c _, .v _, h => by cases h
  | .c _, .bin .., h => by cases h
  | .bin .., .v _, h => by cases h
  | .bin .., .c _, h => by cases h
/-- an integer cell: its kind, its term, what is known of it -/
def knO (x : S) : Option (IntKind × Tm × Kn) :=
  match x with
  | .opq k t K => some (k, t, K)
  | .int k z => match natI z with | some n => some (k, .c n, ⟨n, n, none⟩) | none => none
  | _ => none
theorem natI_some {z : Int} {n : Nat} (h : natI z = some n) : z = (n : Int) := by cases z <;> simp [natI] at h; subst h; rfl
theorem knO_ok {φ : Ph} {x : S} {v : Value} {k : IntKind} {t : Tm} {K : Kn} (h : knO x = some (k, t, K)) (hr : Sr φ x v) : ∃ z : Nat, t.ev φ = some z ∧ K.ok z ∧ v = .int k ((z : Nat) : Int) := by
  unfold knO at h
  split at h
  · cases h; exact hr
  · split at h
    · rename_i hn
      cases h
      have := natI_some hn
      subst this
      exact ⟨_, rfl, ⟨Nat.le_refl _, Nat.le_refl _, fun d r hc => by cases hc⟩, hr⟩
    · cases h
  · cases h
def eqK (t t' : Tm) (K K' : Kn) : Option Bool :=
  match Nat.blt K.hi K'.lo || Nat.blt K'.hi K.lo with
  | true => some false
  | false =>
    match eqTm t t' with
    | true => some true
    | false => match Nat.beq K.lo K.hi && Nat.beq K'.lo K'.hi && Nat.beq K.lo K'.lo with | true => some true | false => none
theorem eqK_ok {φ : Ph} {t t' : Tm} {K K' : Kn} {b : Bool} {z z' : Nat} (h : eqK t t' K K' = some b) (h1 : t.ev φ = some z) (h2 : t'.ev φ = some z') (k1 : K.ok z) (k2 : K'.ok z') : b = decide (z = z') := by
  unfold eqK at h
  have p1 := k1.1; have p2 := k1.2.1; have p3 := k2.1; have p4 := k2.2.1
  split at h
  · rename_i hc
    cases h
    simp only [Bool.or_eq_true, blt_iff] at hc
    symm; rw [decide_eq_false_iff_not]; omega
  · split at h
    · rename_i hc
      cases h
      have := eqTm_ok hc; subst this
      rw [h1] at h2; cases h2; simp
    · split at h
      · rename_i hc
        cases h
        simp only [Bool.and_eq_true] at hc
        have a1 := Nat.eq_of_beq_eq_true hc.1.1
        have a2 := Nat.eq_of_beq_eq_true hc.1.2
        have a3 := Nat.eq_of_beq_eq_true hc.2
        symm; rw [decide_eq_true_iff]; omega
      · cases h
/-- two integer cells, one of them not looked at -/
def eqO2 (x y : S) : Option Bool :=
  match knO x, knO y with
  | some (k, t, K), some (k', t', K') => match kEq k k' with | true => eqK t t' K K' | false => none
  | _, _ => none

/-! ### structs compared -/
def eqCell (P : Program) (t : TypeId) (x y : Option S) : Option Bool :=
  match x, y with
  | some (.int k a), some (.int k' b) => match P.underlying t with | some (.int _) => (match kEq k k' with | true => some (a == b) | false => none) | _ => none
  | some (.bool a), some (.bool b) => match isBoolTy P t with | true => some (a == b) | false => none
  | some (.str a), some (.str b) => match P.underlying t with | some .string => some (decide (a = b)) | _ => none
  | some (.opq k a K), some y => match P.underlying t with | some (.int _) => eqO2 (.opq k a K) y | _ => none
  | some x, some (.opq k a K) => match P.underlying t with | some (.int _) => eqO2 x (.opq k a K) | _ => none
  | _, _ => none
theorem eqO2_ok {φ : Ph} {x y : S} {r : Bool} {u v : Value} (h : eqO2 x y = some r) (hx : Sr φ x u) (hy : Sr φ y v) : ∃ k a b, u = .int k a ∧ v = .int k b ∧ (a == b) = r := by
  unfold eqO2 at h
  split at h
  · rename_i k t K k' t' K' h1 h2
    split at h
    · rename_i hk
      have := kEq_eq hk; subst this
      obtain ⟨z, e1, e2, e3⟩ := knO_ok h1 hx
      obtain ⟨z', f1, f2, f3⟩ := knO_ok h2 hy
      refine ⟨_, _, _, e3, f3, ?_⟩
      rw [eqK_ok h e1 f1 e2 f2]
      by_cases e : z = z'
      · subst e; simp
      · have : ¬ ((z : Int) = (z' : Int)) := by omega
        simp [e, this]
    · cases h
  · cases h
def eqFs (P : Program) (xs ys : List S) : List Field → Option Bool
  | [] => some true
  | f :: fs =>
    match f.name == "_" with
    | true => none
    | false => match eqCell P f.type xs[f.offset]? ys[f.offset]?, eqFs P xs ys fs with | some a, some b => some (a && b) | _, _ => none

theorem eqCell_ok {P : Program} {φ : Ph} {w : World} {t : TypeId} {x y : Option S} {r : Bool} (h : eqCell P t x y = some r) {xs ys : List Value} {o : Nat} {xl yl : List S} (hx : All2 (Sr φ) xl xs) (hy : All2 (Sr φ) yl ys)
    (ex : xl[o]? = x) (ey : yl[o]? = y) (d : Nat) : ∃ a b, (part t xs.toArray o).run P w = .ok a w ∧ (part t ys.toArray o).run P w = .ok b w ∧ (Op.equalIn (d + 1) t a b).run P w = .ok r w := by
  have pt : ∀ {l : List S} {vs : List Value} {s : S} {td : TypeDesc}, All2 (Sr φ) l vs → l[o]? = some s → P.underlying t = some td → (∀ fs, td ≠ .struct fs) → (∀ n e, td ≠ .array n e) → ∃ v, (part t vs.toArray o).run P w = .ok v w ∧ Sr φ s v := by
    intro l vs s td ha hs ht h1 h2
    obtain ⟨v, hv, hr⟩ := ha.get hs
    refine ⟨v, ?_, hr⟩
    have hag : (isAgg t).run P w = .ok false w := by
      simp only [isAgg, Sem.run_bind, Ab.run_underlying ht, Result.andThen_ok]
      cases td <;> first | rfl | exact absurd rfl (h1 _) | exact absurd rfl (h2 _ _)
    simp [part, hag, hv]
  unfold eqCell at h
  split at h
  · rename_i k a k' b
    split at h
    · rename_i kd hty
      split at h
      · rename_i hk
        have := kEq_eq hk; subst this
        cases h
        obtain ⟨u, hu, ru⟩ := pt hx ex hty (fun _ => by simp) (fun _ _ => by simp)
        obtain ⟨v, hv, rv⟩ := pt hy ey hty (fun _ => by simp) (fun _ _ => by simp)
        simp only [Sr] at ru rv; subst ru; subst rv
        exact ⟨_, _, hu, hv, run_equalIn_int w d t _ kd _ _ hty⟩
      · cases h
    · cases h
  · split at h
    · rename_i hb
      unfold isBoolTy at hb
      split at hb
      · rename_i hty
        cases h
        obtain ⟨u, hu, ru⟩ := pt hx ex hty (fun _ => by simp) (fun _ _ => by simp)
        obtain ⟨v, hv, rv⟩ := pt hy ey hty (fun _ => by simp) (fun _ _ => by simp)
        simp only [Sr] at ru rv; subst ru; subst rv
        exact ⟨_, _, hu, hv, eqIn_bool d hty _ _⟩
      · cases hb
    · cases h
  · split at h
    · rename_i hty
      cases h
      obtain ⟨u, hu, ru⟩ := pt hx ex hty (fun _ => by simp) (fun _ _ => by simp)
      obtain ⟨v, hv, rv⟩ := pt hy ey hty (fun _ => by simp) (fun _ _ => by simp)
      simp only [Sr] at ru rv; subst ru; subst rv
      refine ⟨_, _, hu, hv, ?_⟩
      rw [run_equalIn_string w d t _ _ hty]
      simp only [Ab.toList_mk]
      rw [beq_decide]
    · cases h
  · split at h
    · rename_i kd hty
      obtain ⟨u, hu, ru⟩ := pt hx ex hty (fun _ => by simp) (fun _ _ => by simp)
      obtain ⟨v, hv, rv⟩ := pt hy ey hty (fun _ => by simp) (fun _ _ => by simp)
      obtain ⟨k, a, b, rfl, rfl, he⟩ := eqO2_ok h ru rv
      exact ⟨_, _, hu, hv, by rw [run_equalIn_int w d t _ kd _ _ hty, he]⟩
    · cases h
  · split at h
    · rename_i kd hty
      obtain ⟨u, hu, ru⟩ := pt hx ex hty (fun _ => by simp) (fun _ _ => by simp)
      obtain ⟨v, hv, rv⟩ := pt hy ey hty (fun _ => by simp) (fun _ _ => by simp)
      obtain ⟨k, a, b, rfl, rfl, he⟩ := eqO2_ok h ru rv
      exact ⟨_, _, hu, hv, by rw [run_equalIn_int w d t _ kd _ _ hty, he]⟩
    · cases h
  · cases h

theorem eqFs_ok {P : Program} {φ : Ph} {w : World} {xl yl : List S} {xs ys : List Value} (hx : All2 (Sr φ) xl xs) (hy : All2 (Sr φ) yl ys) (d : Nat) : ∀ {fs : List Field} {r : Bool}, eqFs P xl yl fs = some r → (Op.eqFields (d + 1) xs.toArray ys.toArray fs).run P w = .ok r w
  | [], r, h => by simp [eqFs] at h; subst h; rfl
  | f :: fs, r, h => by
    simp only [eqFs] at h
    split at h
    · cases h
    · rename_i hn
      have hn : f.name ≠ "_" := by simpa using hn
      split at h
      · rename_i a b h1 h2
        cases h
        obtain ⟨u, v, hu, hv, he⟩ := eqCell_ok (w := w) h1 hx hy rfl rfl d
        have ih := eqFs_ok (w := w) hx hy d h2
        simp only [Op.eqFields, if_pos hn, Sem.run_bind, hu, hv, he, Result.andThen_ok]
        cases a with
        | false => simp
        | true => simpa using ih
      · cases h

def aEqAgg (P : Program) (op : BinOp) (t : TypeId) (xl yl : List S) (ans : List Ans) : SO :=
  match P.underlying t with
  | some (.struct fs) =>
    match eqFs P xl yl fs.toList with
    | some b => match aEqB op b ans with | some (s, as, C) => some (s, as, (P.stoodInHeld t = false ∧ P.eqGuardType P.depth t = false) ∧ C) | none => none
    | none => none
  | _ => none

def aBin2 (P : Program) (op : BinOp) (t : TypeId) (x y : V) (ans : List Ans) : SO :=
  match x, y with
  | .agg l, .agg l' => aEqAgg P op t l l' ans
  | x, y => aBin P op t x y ans

theorem aBin2_ok {P : Program} {φ : Ph} {op : BinOp} {t : TypeId} {x y : V} {ans : List Ans} {s : S} {as : List Ans} {C : Prop} (h : aBin2 P op t x y ans = some (s, as, C)) (hC : C)
    {ox oy : Operand} {u v : Value} (hu : Vr φ x u) (hv : Vr φ y v) : YldR P φ (do eqGuard op t ox oy u v; binOp op t u v) s := by
  unfold aBin2 at h
  split at h
  · obtain ⟨xs, rfl, hx⟩ := hu
    obtain ⟨ys, rfl, hy⟩ := hv
    unfold aEqAgg at h
    split at h
    · rename_i fs hty
      split at h
      · rename_i b hb
        split at h
        · rename_i s' as' C' he
          simp only [Option.some.injEq, Prod.mk.injEq] at h
          obtain ⟨rfl, rfl, rfl⟩ := h
          obtain ⟨⟨c1, c2⟩, c3⟩ := hC
          have hfs : P.fieldsOf t = fs := by simp [Program.fieldsOf, hty]
          have hq : ∀ w, (Op.equal t (.agg xs.toArray) (.agg ys.toArray)).run P w = .ok b w := by
            intro w
            refine equal_of2 fun d => ?_
            rw [run_equalIn_struct (P := P) w (d + 1) t xs.toArray ys.toArray (by rw [hfs]; exact hty) c1, hfs]
            exact eqFs_ok hx hy d hb
          intro w
          obtain ⟨r, h1, h2⟩ := aEqB_ok (P := P) (t := t) (x := .agg xs.toArray) (y := .agg ys.toArray) he c3 hq (fun w => by simp only [binOp]) (fun w => by simp only [binOp]) φ w
          exact ⟨r, by simp only [Sem.run_bind, run_eqGuard_agg w op t ox oy _ _ c2, Result.andThen_ok, h1], h2⟩
        · cases h
      · cases h
    · cases h
  · exact aBin_ok h hC hu hv

/-! ### a field of a struct that is a value -/
def aFieldV (P : Program) (n : Nat) (t : TypeId) (x : V) (f : Nat) (ans : List Ans) : Option Out :=
  match P.underlying t, x with
  | some (.struct fs), .agg l =>
    match fs[f]? with
    | some fd =>
      match tyS P fd.type with
      | some (true, sz) => lt n (.agg ((l.drop fd.offset).take sz)) ans True
      | some (false, _) => match l[fd.offset]? with | some s => lt n (.s s) ans True | none => none
      | none => none
    | none => none
  | _, _ => none

theorem tyS_run {P : Program} {t : TypeId} {ag : Bool} {sz : Nat} (ht : tyS P t = some (ag, sz)) (w : World) : (isAgg t).run P w = .ok ag w ∧ (sizeOf t).run P w = .ok sz w := by
  unfold tyS at ht
  simp only [isAgg, sizeOf, typeInfo, underlying, Sem.run_bind, run_program, Result.andThen_ok]
  cases hu : P.underlying t with
  | none => simp [hu] at ht
  | some d =>
    simp only [hu] at ht ⊢
    cases hi : P.info? t with
    | none => rw [hi] at ht; cases d <;> simp at ht
    | some i => rw [hi] at ht; cases d <;> simp at ht <;> obtain ⟨rfl, rfl⟩ := ht <;> simp

theorem aFieldV_ok {P : Program} {env : List V} {n : Nat} {L : Hp} {t : TypeId} {x : Operand} {f : Nat} {ans : List Ans} {out : Out} {o : Oper} (ho : o.op = .field t x f)
    (h : aFieldV P n t (ev env x) f ans = some out) : OutOK P o env n L out := by
  unfold aFieldV at h
  split at h
  · rename_i fs l hty hx
    split at h
    · rename_i fd hfd
      split at h
      · rename_i sz ht
        refine lt_ok h fun φ a w hop => ?_
        have g := hop x (by simp [ho, Op.operands])
        rw [hx] at g
        obtain ⟨xs, hv, hall⟩ := g
        refine ⟨.agg ((xs.drop fd.offset).take sz).toArray, ?_, _, rfl, (hall.drop _).take _⟩
        have e : xs.toArray.extract fd.offset (fd.offset + sz) = ((xs.drop fd.offset).take sz).toArray := by
          apply Array.ext'; simp [List.extract_eq_take_drop]
        simp only [execOp, ho, hv, Instr.field, Sem.run_bind, Ab.run_underlying hty, Result.andThen_ok, hfd, asAgg, Sem.run_pure, part, (tyS_run ht w).1, (tyS_run ht w).2, if_true, e]
      · rename_i q ht
        split at h
        · rename_i s hs
          refine lt_ok h fun φ a w hop => ?_
          have g := hop x (by simp [ho, Op.operands])
          rw [hx] at g
          obtain ⟨xs, hv, hall⟩ := g
          obtain ⟨v, hv2, hr⟩ := hall.get hs
          refine ⟨v, ?_, hr⟩
          simp [execOp, ho, hv, Instr.field, Ab.run_underlying hty, hfd, asAgg, part, (tyS_run ht w).1, hv2]
        · cases h
      · cases h
    · cases h
  · cases h

/-! ### bytes and strings -/
def byteS (l : List UInt8) : List S := l.map fun b => .int .u8 (b.toNat : Int)

theorem byteS_r {φ : Ph} : ∀ (l : List UInt8), All2 (Sr φ) (byteS l) (l.map fun (b : UInt8) => Value.int .u8 (b.toNat : Int))
  | [] => trivial
  | _ :: t => ⟨rfl, byteS_r t⟩

/-- string(b): the answer is the string -/
def aToStr (P : Program) (n : Nat) (L : Hp) (src dst : TypeId) (x : V) (ans : List Ans) : Option Out :=
  match P.underlying src, P.underlying dst, x with
  | some (.slice e), some .string, .s (.slc (some (i, o)) len _) =>
    match P.underlying e, lk L i, ans with
    | some (.int .u8), some bl, .val (.s (.str l)) :: as => some ⟨⟨[i], .s (.str l), [], n⟩, as, (bl.cells.drop o).take len = byteS l ∧ len = l.length ∧ bl.kind = none⟩
    | _, _, _ => none
  | some (.slice e), some .string, .s (.slc none _ _) =>
    match P.underlying e with
    | some (.int .u8) => some ⟨⟨[], .s (.str []), [], n⟩, ans, True⟩
    | _ => none
  | _, _, _ => none

theorem aToStr_ok {P : Program} {env : List V} {n : Nat} {L : Hp} {src dst : TypeId} {x : Operand} {ans : List Ans} {out : Out} {o : Oper} (ho : o.op = .convert src dst x)
    (h : aToStr P n L src dst (ev env x) ans = some out) (hC : out.C) : OutOK P o env n L out := by
  unfold aToStr at h
  split at h
  · rename_i e i off len c hs hd hx
    split at h
    · rename_i bl l as he hl
      cases h
      obtain ⟨h1, rfl, hkd⟩ := hC
      refine ⟨OpL.light fun φ a w hop hg => ?_, Nat.le_refl _⟩
      have g := hop x (by simp [ho, Op.operands])
      rw [hx] at g
      obtain ⟨b, k, hb, hv, _⟩ := g
      obtain ⟨b', hb', hat⟩ := hg.hr i bl (by rw [lk_res]; simp [hl])
      rw [hb] at hb'; cases hb'
      refine ⟨.string ⟨l.toArray⟩, ?_, rfl⟩
      have := run_convert_bytes_back (P := P) w src dst e ⟨b.1, off + b.2, none⟩ k l hs he hd (fun j hj => by
        have hc : bl.cells[off + j]? = some (.int .u8 (l[j].toNat : Int)) := by
          have h2 : ((bl.cells.drop off).take l.length)[j]? = (byteS l)[j]? := by rw [h1]
          rw [List.getElem?_take, if_pos hj, List.getElem?_drop] at h2
          rw [h2]; simp [byteS, hj]
        obtain ⟨v, hv2, hr⟩ := cell_at hat hkd hc
        simp only [Sr] at hr
        rw [addr_add, Nat.add_right_comm, hv2, hr])
      simp only [execOp, ho, hv]
      rw [Sem.run_bind, this]; rfl
    · cases h
  · rename_i e len c hs hd hx
    split at h
    · rename_i he
      cases h
      refine ⟨OpL.light fun φ a w hop hg => ?_, Nat.le_refl _⟩
      have g := hop x (by simp [ho, Op.operands])
      rw [hx] at g
      obtain ⟨_, _, hv⟩ := g
      refine ⟨.string ⟨#[]⟩, ?_, rfl⟩
      simp only [execOp, ho, hv, Sem.run_bind, convert, Ab.run_underlying hs, Ab.run_underlying hd, Ab.run_underlying he, Result.andThen_ok, Conv.bytesToString, Sem.run_pure]
      rfl
    · cases h
  · cases h

/-- []byte(s) -/
def aToBytes (P : Program) (n : Nat) (src dst : TypeId) (x : V) (ans : List Ans) : Option Out :=
  match P.underlying src, P.underlying dst, x with
  | some .string, some (.slice e), .s (.str l) =>
    match P.underlying e with
    | some (.int .u8) => some ⟨⟨[], .s (.slc (some (n, 0)) l.length none), [(n, some { cells := byteS l, ty := e, more := true, sym := true, flat := true })], n + 1⟩, ans, True⟩
    | _ => none
  | _, _, _ => none

theorem aToBytes_ok {P : Program} {env : List V} {n : Nat} {L : Hp} {src dst : TypeId} {x : Operand} {ans : List Ans} {out : Out} {o : Oper} (ho : o.op = .convert src dst x)
    (h : aToBytes P n src dst (ev env x) ans = some out) : OutOK P o env n L out := by
  unfold aToBytes at h
  split at h
  · rename_i e l hs hd hx
    split at h
    · rename_i he
      cases h
      refine ⟨?_, Nat.le_succ _⟩
      refine OpL.fresh (L := []) (bl := { cells := byteS l, ty := e, more := true, sym := true, flat := true }) (by simp [lk]) fun φ a w hop _ => ?_
      have g := hop x (by simp [ho, Op.operands])
      rw [hx] at g; simp only [Vr, Sr] at g
      have hr := run_bytes_of_string (P := P) w src dst e ⟨l.toArray⟩ hs hd he
      have es : (⟨l.toArray⟩ : ByteArray).size = l.length := rfl
      rw [es] at hr
      generalize hcap : grownCap w l.length 0 e = cap at hr
      have hle : l.length ≤ cap := by rw [← hcap]; unfold grownCap; simp only [Question.cut]; omega
      have hrow : bytesRow ⟨l.toArray⟩ cap = ((l.map fun (b : UInt8) => Value.int .u8 (b.toNat : Int)) ++ List.replicate (cap - l.length) (Value.int .u8 0)).toArray := by
        apply Array.ext'; simp [bytesRow, es]
      refine ⟨.slice (some ⟨w.heap.size, 0, none⟩) l.length cap, w.drew.alloc (.cells (bytesRow ⟨l.toArray⟩ cap) e ((bytesRow ⟨l.toArray⟩ cap).size, (bytesRow ⟨l.toArray⟩ cap).size + 1)), by simp only [execOp, ho, g]; rw [Sem.run_bind, hr]; rfl, rfl, rfl, rfl, ⟨_, rfl⟩, ?_, fun φ' hn _ => ⟨_, cap, hn, rfl, hle, .inl rfl⟩⟩
      refine ⟨[], l.map fun (b : UInt8) => Value.int .u8 (b.toNat : Int), List.replicate (cap - l.length) (Value.int .u8 0), ((bytesRow ⟨l.toArray⟩ cap).size, (bytesRow ⟨l.toArray⟩ cap).size + 1), ?_, rfl, ?_, fun e => by simp at e, fun _ o ho => ?_, ⟨fun _ _ e => (by cases e), fun _ e => (by cases e)⟩⟩
      · show (w.heap.push _)[w.heap.size]? = _
        rw [hrow]; simp [objOf]
      · show All2 (Sr fun _ => none) (byteS l) _
        exact byteS_r l
      · rw [hrow]; simp at ho ⊢; omega
    · cases h
  · cases h

/-! ### append -/
section
variable {P : Program} {ts : Array TypeId} {ty t tx e : TypeId} {inf : TypeInfo} {dx : TypeDesc}

theorem append_fit {w w' : World} (h0 : ts[0]? = some t) (h1 : ts[1]? = some tx) (ht : P.underlying t = some (.slice e)) (hx : P.underlying tx = some dx) (hdx : ∀ k, dx ≠ .int k) (hi : P.info? e = some inf) {a : Addr} {len cap n : Nat} {x : Value} {new : Array Value}
    (hlen : (Builtin.lenOf x).run P w = .ok n w) (hnew : (Builtin.firstCells inf.size n x).run P w = .ok new w) (hfit : len + n ≤ cap) (hst : (storeCells (a.add (len * inf.size)) new.toList).run P w = .ok () w') :
    (Builtin.append_ ts ty #[.slice (some a) len cap, x]).run P w = .ok (.slice (some a) (len + n) cap) w' := by
  have hz : (match dx with | .int _ => true | _ => false) = false := by cases dx <;> first | rfl | exact absurd rfl (hdx _)
  have hsz : (sizeOf e).run P w = .ok inf.size w := by simp [sizeOf, typeInfo, hi]
  unfold Builtin.append_
  simp only [h0, h1, List.getElem?_toArray, List.getElem?_cons_zero, List.getElem?_cons_succ, Sem.run_bind, Ab.run_underlying ht, Ab.run_underlying hx, Result.andThen_ok, hsz, Sem.run_pure]
  cases dx <;> first | exact absurd rfl (hdx _) | (simp only [Bool.false_eq_true, if_false, Bool.not_false, if_true, hlen, Sem.run_bind, Result.andThen_ok, Sem.run_pure, if_pos hfit, hnew, hst])

theorem append_grow {w : World} (h0 : ts[0]? = some t) (h1 : ts[1]? = some tx) (ht : P.underlying t = some (.slice e)) (hx : P.underlying tx = some dx) (hdx : ∀ k, dx ≠ .int k) (hi : P.info? e = some inf) {zv : Value} (hz : inf.zero = some zv) {base : Option Addr} {len cap n : Nat} {x : Value} {old new : Array Value}
    (hlen : ∀ w, (Builtin.lenOf x).run P w = .ok n w) (hold : ∀ d, (Builtin.firstCells inf.size len (.slice base len cap)).run P { w with drawn := d } = .ok old { w with drawn := d }) (hnew : ∀ d, (Builtin.firstCells inf.size n x).run P { w with drawn := d } = .ok new { w with drawn := d })
    (hgrow : cap < len + n) (hbig : (len + n) * inf.bytes ≤ 140737488355328) (hmax : len + n ≤ 140737488355328) :
    ∃ c, len + n ≤ c ∧ ∃ rest : Array Value, (Builtin.append_ ts ty #[.slice base len cap, x]).run P w = .ok (.slice (some ⟨w.heap.size, 0, none⟩) (len + n) c) { w with drawn := w.drawn + 1, heap := w.heap.push (.cells (old ++ new ++ rest) e) } := by
  have hsz : (sizeOf e).run P w = .ok inf.size w := by simp [sizeOf, typeInfo, hi]
  have hti : ∀ w, (typeInfo e).run P w = .ok inf w := fun w => by simp [typeInfo, hi]
  have hzv : ∀ w, (zeroValue e).run P w = .ok zv w := fun w => by simp [zeroValue, typeInfo, hi, hz]
  have c1 : ¬ (len + n ≤ cap) := by omega
  have c2 : ¬ (((len + n : Nat) : Int) > IntKind.i64.max ∧ (False ∨ inf.bytes = 0)) := by
    have : IntKind.i64.max = 9223372036854775807 := by decide
    rw [this]; omega
  have c3 : ¬ (Builtin.nextslicecap (len + n) cap * inf.bytes > 2 ^ 48) := by
    have := growslice_fits (bytes := inf.bytes) hgrow hbig
    have e48 : (2 : Nat) ^ 48 = 281474976710656 := by decide
    omega
  refine ⟨(Question.appendCap (len + n) cap e).cut (w.tape w.drawn (.appendCap (len + n) cap e)), by simp only [Question.cut]; omega, Builtin.zeroCells zv.cells ((Question.appendCap (len + n) cap e).cut (w.tape w.drawn (.appendCap (len + n) cap e)) - (len + n)), ?_⟩
  unfold Builtin.append_
  simp only [h0, h1, List.getElem?_toArray, List.getElem?_cons_zero, List.getElem?_cons_succ, Sem.run_bind, Ab.run_underlying ht, Ab.run_underlying hx, Result.andThen_ok, hsz, Sem.run_pure]
  cases dx <;> first | exact absurd rfl (hdx _) | skip
  all_goals
    simp only [Bool.false_eq_true, if_false, Bool.not_false, if_true, hlen, Sem.run_bind, Result.andThen_ok, Sem.run_pure, if_neg c1, hti, if_neg c2, if_neg c3, run_choose, Question.forced, run_askRoom, hold, hnew, hzv, newRow, run_newObj]
end

/-! ### copy -/
/-- what is copied: the blocks that are looked at, the length, the first k elements' cells (of 'size' cells each), and what must hold -/
def srcOf (L : Hp) (size k : Nat) (x : V) : Option (List Nat × Nat × List S × Prop) :=
  match x with
  | .s (.str l) => match size with | 1 => some ([], l.length, byteS (l.take k), True) | _ => none
  | .s (.slc none _ _) => some ([], 0, [], k = 0)
  | .s .emp => some ([], 0, [], k = 0)
  | .s (.slc (some (j, p)) m _) => match lk L j with | some bl => some ([j], m, (bl.cells.drop p).take (k * size), p + k * size ≤ bl.cells.length ∧ bl.kind = none) | none => none
  | _ => none

theorem srcOf_ok {P : Program} {φ : Ph} {w : World} {L M : Hp} {size k : Nat} {x : V} {foot : List Nat} {m : Nat} {xs : List S} {C : Prop} (h : srcOf L size k x = some (foot, m, xs, C)) (hC : C) (hk : k ≤ m) (hg : Good φ M w) (hf : ∀ i ∈ foot, lk M i = lk L i) {v : Value} (hv : Vr φ x v) :
    (Builtin.lenOf v).run P w = .ok m w ∧ ∃ vs : List Value, (Builtin.firstCells size k v).run P w = .ok vs.toArray w ∧ All2 (Sr φ) xs vs ∧ xs.length = k * size := by
  unfold srcOf at h
  split at h
  · rename_i l
    simp only [Vr, Sr] at hv; subst hv
    split at h
    · simp only [Option.some.injEq, Prod.mk.injEq] at h
      obtain ⟨rfl, rfl, rfl, rfl⟩ := h
      refine ⟨rfl, (l.take k).map fun (b : UInt8) => Value.int .u8 (b.toNat : Int), ?_, byteS_r _, by simp [byteS]; omega⟩
      simp only [Builtin.firstCells, Sem.run_pure]
      congr 1
      apply Array.ext'
      simp [ByteArray.data_extract]
    · cases h
  · simp only [Option.some.injEq, Prod.mk.injEq] at h
    obtain ⟨rfl, rfl, rfl, rfl⟩ := h
    obtain ⟨_, _, rfl⟩ := hv
    exact ⟨rfl, [], rfl, trivial, by simp [hC]⟩
  · simp only [Option.some.injEq, Prod.mk.injEq] at h
    obtain ⟨rfl, rfl, rfl, rfl⟩ := h
    obtain ⟨a, rfl⟩ := hv
    subst hC
    exact ⟨rfl, [], by simp [Builtin.firstCells, loadCells, loadCellsFrom], trivial, by simp⟩
  · rename_i j p mm c
    split at h
    · rename_i bl hl
      simp only [Option.some.injEq, Prod.mk.injEq] at h
      obtain ⟨rfl, rfl, rfl, rfl⟩ := h
      obtain ⟨b, kc, hb, rfl, _⟩ := hv
      obtain ⟨b', hb', hat⟩ := hg.hr j bl (by rw [hf j (by simp)]; exact hl)
      rw [hb] at hb'; cases hb'
      refine ⟨rfl, ?_⟩
      obtain ⟨hC, hkd⟩ := hC
      obtain ⟨pre, ys, rest, fr, h1, hp, h2, h3, h4⟩ := hat
      rw [hkd] at h1; simp only [objOf] at h1
      have hlen := h2.len
      have hv2 : All2 (Sr φ) ((bl.cells.drop p).take (k * size)) ((ys.drop p).take (k * size)) := ((h2.mono fun _ _ => Sr.mono (bl.ph_le_self φ)).drop p).take _
      have hl2 : ((ys.drop p).take (k * size)).length = k * size := by simp; omega
      refine ⟨(ys.drop p).take (k * size), ?_, hv2, by rw [← hv2.len, hl2]⟩
      have hld := run_loadCellsFrom (P := P) (w := w) (b := b.1) (o := p + b.2) ((ys.drop p).take (k * size)) 0 #[] (by
        intro i v hi
        have hi' : i < k * size := by
          rcases Nat.lt_or_ge i ((ys.drop p).take (k * size)).length with h | h
          · omega
          · simp [List.getElem?_eq_none h] at hi
        simp only [List.getElem?_take, List.getElem?_drop, if_pos hi'] at hi
        simp only [World.cell?, h1]
        have : p + i < ys.length := by omega
        simp only [Option.isSome_none, Bool.false_eq_true, if_false, List.getElem?_toArray, Nat.zero_add]
        rw [show p + b.2 + i = (p + i) + b.2 by omega, pre_get pre _ hp, List.getElem?_append_left this]; exact hi)
      rw [hl2] at hld
      simpa [Builtin.firstCells, loadCells] using hld
    · cases h
  · cases h

def aCopy (P : Program) (ts : Array TypeId) (n : Nat) (L : Hp) (d x : V) (ans : List Ans) : Option Out :=
  match ts[0]? with
  | some t =>
    match P.underlying t, d with
    | some (.slice e), .s (.slc (some (i, o)) dl _) =>
      match elemSz P e, lk L i with
      | some sz, some bl =>
        match ans with
        | .idx k :: .cells cs :: as =>
          match srcOf L sz k x with
          | some (foot, m, xs, C) =>
            match !bl.ro && bl.kind.isNone with
            | true => some ⟨⟨i :: foot, .s (.int .i64 (k : Int)), [(i, some { bl with cells := cs })], n⟩, as, C ∧ k = min m dl ∧ o + k * sz ≤ bl.cells.length ∧ cs = setL bl.cells o xs ∧ fitsIn bl xs = true⟩
            | false => none
          | none => none
        | _ => none
      | _, _ => none
    | _, _ => none
  | none => none

theorem aCopy_ok {P : Program} {env : List V} {n : Nat} {L : Hp} {ans : List Ans} {out : Out} {o : Oper} {c : Call} {d x : Operand} (ho : o.op = .call c) (hc : c.callee = .builtin .copy) (hargs : c.args.toList = [d, x])
    (h : aCopy P c.argTypes n L (ev env d) (ev env x) ans = some out) (hC : out.C) : OutOK P o env n L out := by
  unfold aCopy at h
  split at h
  · rename_i t ht
    split at h
    · rename_i e i off dl cap hty hd
      split at h
      · rename_i sz bl hsz hl
        split at h
        · rename_i k cs as
          split at h
          · rename_i foot m xs C hsrc
            split at h
            · rename_i hchk
              simp only [Bool.and_eq_true, Bool.not_eq_true'] at hchk
              cases h
              obtain ⟨c1, c2, c3, c4, c5⟩ := hC
              refine ⟨?_, Nat.le_refl _⟩
              intro φ a w Q hop hg hfree
              have opd : d ∈ o.op.operands := by rw [ho]; simp only [Op.operands, Call.operands, hc]; simp [← Array.mem_toList_iff, hargs]
              have opx : x ∈ o.op.operands := by rw [ho]; simp only [Op.operands, Call.operands, hc]; simp [← Array.mem_toList_iff, hargs]
              have g1 := hop d opd
              have g2 := hop x opx
              rw [hd] at g1
              obtain ⟨b, kc, hb, hv, _⟩ := g1
              obtain ⟨r1, vs, r2, r3, r4⟩ := srcOf_ok (P := P) hsrc c1 (by omega) hg (fun j hj => by rw [lk_res, if_pos (by simp [hj])]) g2
              obtain ⟨b', hb', hat⟩ := hg.hr i bl (by rw [lk_res, if_pos (by simp)]; exact hl)
              rw [hb] at hb'; cases hb'
              obtain ⟨pre, ys, rest, fr, k1, hp, k2, k3, k4, k5⟩ := hat
              have hkd : bl.kind = none := by simpa using hchk.2
              rw [hkd] at k1; simp only [objOf] at k1
              have hl1 := k2.len
              have hl2 := r3.len
              obtain ⟨w', hr, q1, q2, q3, q4, q5, q6⟩ := run_storeCells (P := P) (b := b.1) (o := off + b.2) vs 0 w (pre ++ (ys ++ rest)) k1
                (fun z hz => by
                  obtain ⟨j, hj, hz⟩ := List.getElem_of_mem hz
                  obtain ⟨s, hsm, hs⟩ := r3.get' (i := j) (b := z) (by rw [← hz]; simp [hj])
                  exact hs.cell (fitsIn_nj c5 hsm))
                (by simp only [List.length_append]; omega) (k4 hchk.1)
              have hsub : Sub [(i, some bl)] (res (i :: foot) L) := by
                intro j bj hj
                rw [lk_cons] at hj
                split at hj
                · rename_i e; subst e; cases hj; rw [lk_res, if_pos (by simp)]; exact hl
                · simp [lk] at hj
              obtain ⟨good, stp⟩ := store_good (w' := w') (cs' := cs) hkd (hg.sub hsub) hb hchk.1 c5 r3 (by omega) c4 ⟨pre, ys, rest, fr, k1, hp, k2, k3, k4 hchk.1, k5, by simpa using q5⟩ q1 q2 q3 q4 q6
              obtain ⟨f1, f2⟩ := frame (M' := puts (res (i :: foot) L) [(i, some { bl with cells := cs })]) hg hsub good stp (Ph.le_refl _) (by
                intro j bj hj
                simp only [puts] at hj
                rw [lk_put] at hj
                by_cases e : i = j
                · subst e; rw [if_pos rfl] at hj; exact .inl (by rw [lk_cons, if_pos rfl]; exact hj)
                · rw [if_neg e] at hj; exact .inr ⟨by rw [lk_cons, if_neg e]; rfl, hj⟩)
              have hrun : (execOp a.eval o).run P w = .ok (.value (.int .i64 (k : Int))) w' := by
                have ea : c.args.map a.eval = #[a.eval d, a.eval x] := by apply Array.ext'; simp [hargs]
                have hk : Nat.min m dl = k := c2.symm
                simp only [execOp, ho, resolve, hc, Sem.run_bind, Sem.run_pure, Result.andThen_ok, invoke, builtin, ea, Builtin.copy_, ht, List.getElem?_toArray, List.getElem?_cons_zero, List.getElem?_cons_succ, Ab.run_underlying hty, hv, r1, elemSz_ok hsz, hk, r2, hr, goInt]
              unfold Oper.wp
              rw [hrun, Oper.upon_value]
              exact ⟨φ, _, rfl, rfl, f1, f2, fun _ _ => rfl⟩
            · cases h
          · cases h
        · cases h
      · cases h
    · cases h
  · cases h

end Ab
end Go.Proofs.YtgbkllbaojkfmaaGreatDoor
/-
  The frame, part 8d: append; slices of unknown capacity used as slices.
-/
set_option linter.unusedSimpArgs false
set_option linter.unusedVariables false
namespace Go.Proofs.YtgbkllbaojkfmaaGreatDoor
namespace Ab
open Go

theorem setL_app {α : Type} : ∀ (xs p arr : List α), xs.length ≤ arr.length → setL (p ++ arr) p.length xs = p ++ (xs ++ arr.drop xs.length)
  | [], p, arr, _ => by simp [setL]
  | x :: xs, p, a :: arr, h => by
    simp only [setL]
    have e : (p ++ a :: arr).set p.length x = (p ++ [x]) ++ arr := by simp
    rw [e, show p.length + 1 = (p ++ [x]).length by simp, setL_app xs (p ++ [x]) arr (by simpa using h)]
    simp
  | x :: xs, p, [], h => by simp at h

/-! ### weakening an operand -/
def wkS : S → S
  | .sla i _ n => .slc (some (i, 0)) n none
  | x => x
def wkV : V → V
  | .s x => .s (wkS x)
  | v => v
theorem wkS_r {φ : Ph} {x : S} {v : Value} (h : Sr φ x v) : Sr φ (wkS x) v := by
  cases x with
  | sla i g n => obtain ⟨b, k, hb, _, hv, hn⟩ := h; exact ⟨b, k, hb, by rw [Nat.zero_add]; exact hv, hn, .inl rfl⟩
  | _ => exact h
theorem wkV_r {φ : Ph} {x : V} {v : Value} (h : Vr φ x v) : Vr φ (wkV x) v := by
  cases x with
  | s x => exact wkS_r h
  | _ => exact h
theorem ofConst_wk (v : Value) : wkV (ofConst v) = ofConst v := by
  unfold ofConst; split <;> rfl
theorem ev_wk (env : List V) (x : Operand) : ev (env.map wkV) x = wkV (ev env x) := by
  cases x with
  | tmp t =>
    simp only [ev, List.getD_eq_getElem?_getD, List.getElem?_map]
    cases env[t]? <;> rfl
  | const v => exact (ofConst_wk v).symm
  | _ => rfl
theorem OpL.env {P : Program} {o : Oper} {env env' : List V} {n : Nat} {L : Hp} {v : V} {n' : Nat} {L' : Hp} (h : OpL P o env' n L v n' L') (he : ∀ x ∈ o.op.operands, ∀ φ y, Vr φ (ev env x) y → Vr φ (ev env' x) y) : OpL P o env n L v n' L' :=
  fun φ a w Q hx hg hf => h φ a w Q (fun x hm => he x hm φ _ (hx x hm)) hg hf
theorem OutOK.wk {P : Program} {o : Oper} {env : List V} {n : Nat} {L : Hp} {out : Out} (h : OutOK P o (env.map wkV) n L out) : OutOK P o env n L out :=
  ⟨h.1.env fun x _ φ y hy => by rw [ev_wk]; exact wkV_r hy, h.2⟩

/-! ### append -/
def notInt : TypeDesc → Bool
  | .int _ => false
  | _ => true

def plainS : S → Bool
  | .bool _ => true
  | .int _ _ => true
  | .str _ => true
  | _ => false
/-- what is appended to: its block, its length, the block as known, what must hold -/
def baseOf (P : Program) (L : Hp) (e : TypeId) (sz : Nat) (fl : Bool) : V → Option (Option Nat × Nat × Bl × Prop)
  | .s (.slc none _ _) => match zeroOf P e with | some zs => some (none, 0, { cells := [], ty := e, flat := fl && zs.all plainS }, True) | none => none
  | .s (.sla i g len) =>
    match lk L i with
    | some bl =>
      match bl.gh with
      | some (g', z) => match Nat.beq g' g && Nat.beq z sz && !bl.ro && Nat.beq bl.ty e && bl.kind.isNone && bl.abs.isNone with | true => some (some i, len, bl, len * sz ≤ bl.cells.length) | false => none
      | none => none
    | none => none
  | .s (.slc (some (i, 0)) len (some cap)) =>
    match lk L i with
    | some bl => match !bl.ro && !bl.more && Nat.beq bl.ty e && bl.kind.isNone && bl.abs.isNone with | true => some (some i, len, bl, bl.cells.length = cap * sz) | false => none
    | none => none
  | _ => none

def lenV : V → Option Nat
  | .s (.str l) => some l.length
  | .s (.slc _ m _) => some m
  | .s .emp => some 0
  | _ => none
def dropB : Option Nat → Hp
  | some i => [(i, none)]
  | none => []
def takeS (l : List S) (k : Nat) : List S := match Nat.beq l.length k with | true => l | false => l.take k
theorem takeS_eq (l : List S) (k : Nat) : takeS l k = l.take k := by
  unfold takeS; split
  · rename_i h; have := Nat.eq_of_beq_eq_true h; rw [← this, List.take_length]
  · rfl

def aAppend (P : Program) (ts : Array TypeId) (n : Nat) (L : Hp) (fl : Bool) (d x : V) (ans : List Ans) : Option Out :=
  match ts[0]?, ts[1]? with
  | some t, some tx =>
    match P.underlying t, P.underlying tx with
    | some (.slice e), some dx =>
      match notInt dx, P.info? e, zeroOf P e with
      | true, some inf, some zs =>
        match Nat.beq inf.size zs.length, baseOf P L e inf.size fl d with
        | true, some (bi, len, bl, C) =>
          match lenV x with
          | some m0 =>
           match srcOf L inf.size m0 x with
           | some (foot, m, xs, D) =>
            match ans with
            | .app r cs :: as =>
              some ⟨⟨bi.toList ++ foot, .s (.sla n (n + 1) r), dropB bi ++ [(n, some { bl with cells := cs, more := true, sym := true, gh := some (n + 1, inf.size) })], n + 2⟩, as,
                C ∧ D ∧ m0 = m ∧ r = len + m ∧ cs = bl.cells.take (len * inf.size) ++ xs ∧ fitsIn bl xs = true ∧ (bi = none → 1 ≤ m) ∧ r * inf.bytes ≤ 140737488355328 ∧ r ≤ 140737488355328⟩
            | as =>
              frc (takeS bl.cells (len * inf.size) ++ xs) [] fun cs =>
              some ⟨⟨bi.toList ++ foot, .s (.sla n (n + 1) (len + m)), dropB bi ++ [(n, some { bl with cells := cs, more := true, gh := some (n + 1, inf.size) })], n + 2⟩, as,
                C ∧ D ∧ m0 = m ∧ fitsIn bl xs = true ∧ (bi = none → 1 ≤ m) ∧ (len + m) * inf.bytes ≤ 140737488355328 ∧ len + m ≤ 140737488355328⟩
           | none => none
          | none => none
        | _, _ => none
      | _, _, _ => none
    | _, _ => none
  | _, _ => none

theorem lk_drop {M : Hp} {bi : Option Nat} {n : Nat} {bl : Bl} {j : Nat} : lk (puts M (dropB bi ++ [(n, some bl)])) j = if n = j then some bl else if bi = some j then none else lk M j := by
  cases bi with
  | none => simp only [dropB, List.nil_append, puts, lk_put]; split <;> simp
  | some i =>
    simp only [dropB, List.cons_append, List.nil_append, puts, lk_put]
    split
    · rfl
    · simp only [Option.some.injEq]

/-- An operation whose value is a slice over a block: a new one, or one that it takes over. -/
theorem OpL.moved {P : Program} {o : Oper} {env : List V} {n : Nat} {M : Hp} {bi : Option Nat} {bl' : Bl} {r : Nat}
    (h : ∀ φ (a : Act) (w : World), (∀ x ∈ o.op.operands, Vr φ (ev env x) (a.eval x)) → Good φ M w → ∃ (b' : Nat × Nat) (k : Nat) (w' : World), (execOp a.eval o).run P w = .ok (.value (.slice (some ⟨b'.1, b'.2, none⟩) r k)) w' ∧ w'.os = w.os ∧ w'.tape = w.tape ∧ w'.output = w.output ∧ r ≤ k ∧
      w.heap.size ≤ w'.heap.size ∧ (∀ c, c < w.heap.size → c ≠ b'.1 → w'.heap[c]? = w.heap[c]?) ∧ (b'.1 < w.heap.size → ∃ i blo c, bi = some i ∧ lk M i = some blo ∧ φ i = some c ∧ c.1 = b'.1 ∧ blo.ro = false) ∧
      (∀ φ' : Ph, φ.le φ' → φ' (n + 1) = some (k, 0) → BlAt φ' w' b' bl')) (hro : bl'.ro = false) :
    OpL P o env n M (.s (.sla n (n + 1) r)) (n + 2) (puts M (dropB bi ++ [(n, some bl')])) := by
  intro φ a w Q hx hg hf
  obtain ⟨b', k, w', hr, h1, h2, h3, hrk, hsz, hkeep, hold, hat⟩ := h φ a w hx hg
  have f0 := hf n (Nat.le_refl _) (by omega)
  have f1 := hf (n + 1) (by omega) (by omega)
  let φ' : Ph := fun j => if j = n then some b' else if j = n + 1 then some (k, 0) else φ j
  have hle : φ.le φ' := by
    intro j b hb
    simp only [φ']
    split
    · rename_i e; subst e; rw [f0] at hb; cases hb
    · split
      · rename_i e; subst e; rw [f1] at hb; cases hb
      · exact hb
  have hn : φ' n = some b' := by simp [φ']
  have hn1 : φ' (n + 1) = some (k, 0) := by simp [φ']
  -- another block that is known lies elsewhere
  have apart : ∀ j bj b, lk M j = some bj → φ j = some b → bi ≠ some j → b.1 ≠ b'.1 := by
    intro j bj b hj hb hbi hbb
    obtain ⟨b2, hb2, hatj⟩ := hg.hr j bj hj
    rw [hb] at hb2; cases hb2
    obtain ⟨i, blo, c, rfl, hi, hpi, hcc, hroi⟩ := hold (hbb ▸ hatj.lt)
    rcases hg.inj j i bj blo b c hj hi hb hpi (hbb.trans hcc.symm) with rfl | ⟨_, e⟩
    · exact hbi rfl
    · rw [e] at hroi; cases hroi
  have old : ∀ j bj, lk (puts M (dropB bi ++ [(n, some bl')])) j = some bj → n ≠ j → lk M j = some bj ∧ bi ≠ some j ∧ φ' j = φ j := by
    intro j bj hj hne
    rw [lk_drop, if_neg hne] at hj
    split at hj
    · cases hj
    · rename_i hb
      refine ⟨hj, hb, ?_⟩
      obtain ⟨b, hb, _⟩ := hg.hr j bj hj
      simp only [φ']
      rw [if_neg (Ne.symm hne), if_neg]
      rintro rfl; rw [f1] at hb; cases hb
  unfold Oper.wp
  rw [hr, Oper.upon_value]
  refine ⟨φ', _, rfl, ⟨b', k, hn, hn1, rfl, hrk⟩, ⟨fun j bj hj => ?_, fun j j' bj bj' b b₂ hj hj' hb hb' hbb => ?_⟩, ⟨h1, h2, h3, hsz, fun c hc hnw => ?_, fun j bj b hj hb hlt => ?_⟩, fun i hi => ?_⟩
  · by_cases e : n = j
    · subst e
      rw [lk_drop, if_pos rfl] at hj; cases hj
      exact ⟨b', hn, hat φ' hle hn1⟩
    · obtain ⟨hm, hbi, hφ⟩ := old j bj hj e
      obtain ⟨b, hb, hatj⟩ := hg.hr j bj hm
      exact ⟨b, by rw [hφ]; exact hb, hatj.mono hle (hkeep b.1 hatj.lt (apart j bj b hm hb hbi))⟩
  · by_cases e : n = j <;> by_cases e' : n = j'
    · exact .inl (e ▸ e')
    · subst e
      obtain ⟨hm, hbi, hφ⟩ := old j' bj' hj' e'
      rw [hn] at hb; cases hb
      exact absurd hbb.symm (apart j' bj' b₂ hm (by rw [← hφ]; exact hb') hbi)
    · subst e'
      obtain ⟨hm, hbi, hφ⟩ := old j bj hj e
      rw [hn] at hb'; cases hb'
      exact absurd hbb (apart j bj b hm (by rw [← hφ]; exact hb) hbi)
    · obtain ⟨hm, _, hφ⟩ := old j bj hj e
      obtain ⟨hm', _, hφ'⟩ := old j' bj' hj' e'
      exact hg.inj j j' bj bj' b b₂ hm hm' (by rw [← hφ]; exact hb) (by rw [← hφ']; exact hb') hbb
  · refine hkeep c hc ?_
    rintro rfl
    obtain ⟨i, blo, c, _, hi, hpi, hcc, hroi⟩ := hold hc
    exact hnw ⟨i, blo, c, hi, hpi, hcc, hroi⟩
  · by_cases e : n = j
    · subst e
      rw [hn] at hb; cases hb
      obtain ⟨i, blo, c, _, hi, hpi, hcc, hroi⟩ := hold hlt
      exact ⟨i, blo, c, hi, hpi, hcc, (fun e => by rw [hroi] at e; cases e), .inr hroi⟩
    · obtain ⟨hm, _, hφ⟩ := old j bj hj e
      exact ⟨j, bj, b, hm, by rw [← hφ]; exact hb, rfl, id, .inl rfl⟩
  · simp only [φ']
    rw [if_neg (by omega), if_neg (by omega)]

theorem zeroCells_size (z : Array Value) (k : Nat) : (Builtin.zeroCells z k).size = k * z.size := by simp [Builtin.zeroCells]

section
variable {P : Program} {ts : Array TypeId} {ty t tx e : TypeId} {inf : TypeInfo} {dx : TypeDesc}
theorem append_grow2 {w : World} (h0 : ts[0]? = some t) (h1 : ts[1]? = some tx) (ht : P.underlying t = some (.slice e)) (hx : P.underlying tx = some dx) (hdx : notInt dx = true) (hi : P.info? e = some inf) {zv : Value} (hz : inf.zero = some zv) {base : Option Addr} {len cap n : Nat} {x : Value} {old new : Array Value}
    (hlen : ∀ w, (Builtin.lenOf x).run P w = .ok n w) (hold : ∀ d, (Builtin.firstCells inf.size len (.slice base len cap)).run P { w with drawn := d } = .ok old { w with drawn := d }) (hnew : ∀ d, (Builtin.firstCells inf.size n x).run P { w with drawn := d } = .ok new { w with drawn := d })
    (hgrow : cap < len + n) (hbig : (len + n) * inf.bytes ≤ 140737488355328) (hmax : len + n ≤ 140737488355328) :
    ∃ c, len + n ≤ c ∧ ∃ rest : Array Value, rest.size = (c - (len + n)) * zv.cells.size ∧ (Builtin.append_ ts ty #[.slice base len cap, x]).run P w = .ok (.slice (some ⟨w.heap.size, 0, none⟩) (len + n) c) { w with drawn := w.drawn + 1, heap := w.heap.push (.cells (old ++ new ++ rest) e) } := by
  have hsz : (sizeOf e).run P w = .ok inf.size w := by simp [sizeOf, typeInfo, hi]
  have hti : ∀ w, (typeInfo e).run P w = .ok inf w := fun w => by simp [typeInfo, hi]
  have hzv : ∀ w, (zeroValue e).run P w = .ok zv w := fun w => by simp [zeroValue, typeInfo, hi, hz]
  have c1 : ¬ (len + n ≤ cap) := by omega
  have c2 : ¬ (((len + n : Nat) : Int) > IntKind.i64.max ∧ (False ∨ inf.bytes = 0)) := by
    have : IntKind.i64.max = 9223372036854775807 := by decide
    rw [this]; omega
  have c3 : ¬ (Builtin.nextslicecap (len + n) cap * inf.bytes > 2 ^ 48) := by
    have := growslice_fits (bytes := inf.bytes) hgrow hbig
    have e48 : (2 : Nat) ^ 48 = 281474976710656 := by decide
    omega
  refine ⟨(Question.appendCap (len + n) cap e).cut (w.tape w.drawn (.appendCap (len + n) cap e)), by simp only [Question.cut]; omega, Builtin.zeroCells zv.cells ((Question.appendCap (len + n) cap e).cut (w.tape w.drawn (.appendCap (len + n) cap e)) - (len + n)), zeroCells_size _ _, ?_⟩
  unfold Builtin.append_
  simp only [h0, h1, List.getElem?_toArray, List.getElem?_cons_zero, List.getElem?_cons_succ, Sem.run_bind, Ab.run_underlying ht, Ab.run_underlying hx, Result.andThen_ok, hsz, Sem.run_pure]
  cases dx <;> first | cases hdx | skip
  all_goals
    simp only [Bool.false_eq_true, if_false, Bool.not_false, if_true, hlen, Sem.run_bind, Result.andThen_ok, Sem.run_pure, if_neg c1, hti, if_neg c2, if_neg c3, run_choose, Question.forced, run_askRoom, hold, hnew, hzv, newRow, run_newObj]
end

theorem good_drew {φ : Ph} {M : Hp} {w : World} (h : Good φ M w) (d : Nat) : Good φ M { w with drawn := d } := ⟨h.hr, h.inj⟩

theorem srcOf_ok2 {P : Program} {φ : Ph} {w : World} {L M : Hp} {size k : Nat} {x : V} {foot : List Nat} {m : Nat} {xs : List S} {C : Prop} (h : srcOf L size k x = some (foot, m, xs, C)) (hC : C) (hk : k ≤ m) (hg : Good φ M w) (hf : ∀ i ∈ foot, lk M i = lk L i) {v : Value} (hv : Vr φ x v) :
    (∀ w', (Builtin.lenOf v).run P w' = .ok m w') ∧ ∃ vs : List Value, (∀ d, (Builtin.firstCells size k v).run P { w with drawn := d } = .ok vs.toArray { w with drawn := d }) ∧ All2 (Sr φ) xs vs ∧ xs.length = k * size := by
  unfold srcOf at h
  split at h
  · rename_i l
    simp only [Vr, Sr] at hv; subst hv
    split at h
    · simp only [Option.some.injEq, Prod.mk.injEq] at h
      obtain ⟨rfl, rfl, rfl, rfl⟩ := h
      refine ⟨fun _ => rfl, (l.take k).map fun (b : UInt8) => Value.int .u8 (b.toNat : Int), fun d => ?_, byteS_r _, by simp [byteS]; omega⟩
      simp only [Builtin.firstCells, Sem.run_pure]
      congr 1
      apply Array.ext'
      simp [ByteArray.data_extract]
    · cases h
  · simp only [Option.some.injEq, Prod.mk.injEq] at h
    obtain ⟨rfl, rfl, rfl, rfl⟩ := h
    obtain ⟨_, _, rfl⟩ := hv
    exact ⟨fun _ => rfl, [], fun _ => rfl, trivial, by simp [hC]⟩
  · simp only [Option.some.injEq, Prod.mk.injEq] at h
    obtain ⟨rfl, rfl, rfl, rfl⟩ := h
    obtain ⟨a, rfl⟩ := hv
    subst hC
    exact ⟨fun _ => rfl, [], fun _ => by simp [Builtin.firstCells, loadCells, loadCellsFrom], trivial, by simp⟩
  · rename_i j p mm c
    split at h
    · rename_i bl hl
      simp only [Option.some.injEq, Prod.mk.injEq] at h
      obtain ⟨rfl, rfl, rfl, rfl⟩ := h
      obtain ⟨b, kc, hb, rfl, _⟩ := hv
      obtain ⟨b', hb', hat⟩ := hg.hr j bl (by rw [hf j (by simp)]; exact hl)
      rw [hb] at hb'; cases hb'
      refine ⟨fun _ => rfl, ?_⟩
      obtain ⟨hC, hkd⟩ := hC
      obtain ⟨pre, ys, rest, fr, h1, hp, h2, h3, h4⟩ := hat
      rw [hkd] at h1; simp only [objOf] at h1
      have hlen := h2.len
      have hv2 : All2 (Sr φ) ((bl.cells.drop p).take (k * size)) ((ys.drop p).take (k * size)) := ((h2.mono fun _ _ => Sr.mono (bl.ph_le_self φ)).drop p).take _
      have hl2 : ((ys.drop p).take (k * size)).length = k * size := by simp; omega
      refine ⟨(ys.drop p).take (k * size), fun d => ?_, hv2, by rw [← hv2.len, hl2]⟩
      have hld := run_loadCellsFrom (P := P) (w := { w with drawn := d }) (b := b.1) (o := p + b.2) ((ys.drop p).take (k * size)) 0 #[] (by
        intro i v hi
        have hi' : i < k * size := by
          rcases Nat.lt_or_ge i ((ys.drop p).take (k * size)).length with h | h
          · omega
          · simp [List.getElem?_eq_none h] at hi
        simp only [List.getElem?_take, List.getElem?_drop, if_pos hi'] at hi
        simp only [World.cell?, h1]
        have : p + i < ys.length := by omega
        simp only [Option.isSome_none, Bool.false_eq_true, if_false, List.getElem?_toArray, Nat.zero_add]
        rw [show p + b.2 + i = (p + i) + b.2 by omega, pre_get pre _ hp, List.getElem?_append_left this]; exact hi)
      rw [hl2] at hld
      simpa [Builtin.firstCells, loadCells] using hld
    · cases h
  · cases h

theorem append_core {P : Program} {env : List V} {n : Nat} {L : Hp} {o : Oper} {c : Call} {d x : Operand} {t tx e : TypeId} {dx : TypeDesc} {inf : TypeInfo} {zs : List S} {bi : Option Nat} {len : Nat} {bl : Bl} {C : Prop} {foot : List Nat} {m : Nat} {xs : List S} {D : Prop} {cs : List S} {sy : Bool} {r : Nat}
    (ho : o.op = .call c) (hc : c.callee = .builtin .append) (hargs : c.args.toList = [d, x]) (ht0 : c.argTypes[0]? = some t) (ht1 : c.argTypes[1]? = some tx) (ht : P.underlying t = some (.slice e)) (hx : P.underlying tx = some dx) (hdx : notInt dx = true)
    (hi : P.info? e = some inf) (hz : zeroOf P e = some zs) (hsz : inf.size = zs.length) {fl : Bool} (hb : baseOf P L e inf.size fl (ev env d) = some (bi, len, bl, C)) {m0 : Nat} (hs : srcOf L inf.size m0 (wkV (ev env x)) = some (foot, m, xs, D))
    (hC : C) (hD : D) (hm : m0 = m) (hr : r = len + m) (hcs : cs = bl.cells.take (len * inf.size) ++ xs) (hfit : fitsIn bl xs = true) (hnil : bi = none → 1 ≤ m) (hbig : r * inf.bytes ≤ 140737488355328) (hmax : r ≤ 140737488355328) :
    OpL P o env n (res (bi.toList ++ foot) L) (.s (.sla n (n + 1) r)) (n + 2) (puts (res (bi.toList ++ foot) L) (dropB bi ++ [(n, some { bl with cells := cs, more := true, sym := sy, gh := some (n + 1, inf.size) })])) := by
  subst hr
  have hrk : bl.ro = false ∧ bl.kind = none ∧ bl.abs = none := by
    unfold baseOf at hb
    split at hb
    · split at hb
      · cases hb; exact ⟨rfl, rfl, rfl⟩
      · cases hb
    · split at hb
      · split at hb
        · split at hb
          · rename_i hk
            simp only [Bool.and_eq_true, Bool.not_eq_true', Option.isNone_iff_eq_none] at hk
            cases hb; exact ⟨hk.1.1.1.2, hk.1.2, hk.2⟩
          · cases hb
        · cases hb
      · cases hb
    · split at hb
      · split at hb
        · rename_i hk
          simp only [Bool.and_eq_true, Bool.not_eq_true', Option.isNone_iff_eq_none] at hk
          cases hb; exact ⟨hk.1.1.1.1, hk.1.2, hk.2⟩
        · cases hb
      · cases hb
    · cases hb
  obtain ⟨hro, hkd, habs⟩ := hrk
  refine OpL.moved ?_ hro
  intro φ a w hop hg
  have opd : d ∈ o.op.operands := by rw [ho]; simp only [Op.operands, Call.operands, hc]; simp [← Array.mem_toList_iff, hargs]
  have opx : x ∈ o.op.operands := by rw [ho]; simp only [Op.operands, Call.operands, hc]; simp [← Array.mem_toList_iff, hargs]
  have g1 := hop d opd
  have g2 := wkV_r (hop x opx)
  obtain ⟨hlen, vs, hvs, hall, hxl⟩ := srcOf_ok2 (P := P) hs hD (by rw [hm]; exact Nat.le_refl _) hg (fun j hj => by rw [lk_res, if_pos (by simp [hj])]) g2
  rw [hm] at hvs hxl
  have hvl := hall.len
  have ea : c.args.map a.eval = #[a.eval d, a.eval x] := by apply Array.ext'; simp [hargs]
  have hexec : ∀ y w', (Builtin.append_ c.argTypes o.type #[a.eval d, a.eval x]).run P w = .ok y w' → (execOp a.eval o).run P w = .ok (.value y) w' := by
    intro y w' h
    simp only [execOp, ho, resolve, hc, Sem.run_bind, Sem.run_pure, Result.andThen_ok, invoke, builtin, ea, h]
  obtain ⟨zv, hzv⟩ : ∃ zv, inf.zero = some zv := by
    unfold zeroOf at hz
    rw [hi] at hz
    cases hq : inf.zero with
    | none => simp [hq] at hz
    | some zv => exact ⟨zv, rfl⟩
  have hzs : zv.cells.size = inf.size := by
    obtain ⟨z, hr, ha⟩ := zeroOf_r hz w
    have : z = zv := by simp [zeroValue, typeInfo, hi, hzv] at hr; exact hr.symm
    subst this
    rw [← Array.length_toList, (ha fun _ => none).len, hsz]
  -- the cells that are there, and that the new ones fit the block
  have fits : ∀ (φ' : Ph), φ.le φ' → All2 (Sr (bl.ph φ')) xs vs := by
    intro φ' hle
    unfold fitsIn at hfit
    unfold Bl.ph
    cases hf : bl.flat with
    | false => simpa [hf] using hall.mono fun _ _ => Sr.mono hle
    | true => rw [hf] at hfit; exact noPtrs_r hfit hall
  have grown : ∀ (base : Option Addr) (cap : Nat) (old : List Value), a.eval d = .slice base len cap → cap < len + m → (∀ k, (Builtin.firstCells inf.size len (.slice base len cap)).run P { w with drawn := k } = .ok old.toArray { w with drawn := k }) →
      old.length = len * inf.size → bl.ty = e → (∀ φ' : Ph, φ.le φ' → All2 (Sr (bl.ph φ')) (bl.cells.take (len * inf.size)) old) →
      ∃ (b' : Nat × Nat) (k : Nat) (w' : World), (execOp a.eval o).run P w = .ok (.value (.slice (some ⟨b'.1, b'.2, none⟩) (len + m) k)) w' ∧ w'.os = w.os ∧ w'.tape = w.tape ∧ w'.output = w.output ∧ len + m ≤ k ∧
      w.heap.size ≤ w'.heap.size ∧ (∀ c, c < w.heap.size → c ≠ b'.1 → w'.heap[c]? = w.heap[c]?) ∧ (b'.1 < w.heap.size → ∃ i blo c, bi = some i ∧ lk (res (bi.toList ++ foot) L) i = some blo ∧ φ i = some c ∧ c.1 = b'.1 ∧ blo.ro = false) ∧
      (∀ φ' : Ph, φ.le φ' → φ' (n + 1) = some (k, 0) → BlAt φ' w' b' { bl with cells := cs, more := true, sym := sy, gh := some (n + 1, inf.size) }) := by
    intro base cap old hd hgrow hold holen hty hoall
    obtain ⟨k, hk, rest, hrs, hrun⟩ := append_grow2 (ty := o.type) ht0 ht1 ht hx hdx hi hzv (w := w) (x := a.eval x) (base := base) (cap := cap) hlen hold hvs hgrow hbig hmax
    refine ⟨(w.heap.size, 0), k, { w with drawn := w.drawn + 1, heap := w.heap.push (.cells (old.toArray ++ vs.toArray ++ rest) e) }, hexec _ _ (by rw [hd]; exact hrun), rfl, rfl, rfl, hk, by simp, fun c hc _ => ?_, fun h => absurd h (Nat.lt_irrefl _), fun φ' hle hk' => ?_⟩
    · show (w.heap.push _)[c]? = _
      rw [Array.getElem?_push_lt hc]; simp [hc]
    · refine ⟨[], old ++ vs, rest.toList, (0, 0), ?_, rfl, ?_, (fun e => by cases e), (fun _ o' ho' => by simp), ⟨fun g z e' => ?_, fun g e' => (by rw [show bl.abs = none from habs] at e'; cases e')⟩⟩
      · show (w.heap.push _)[w.heap.size]? = _
        simp [hty, hkd, objOf]
      · rw [hcs]; exact (hoall φ' hle).append (fits φ' hle)
      · simp only [Option.some.injEq, Prod.mk.injEq] at e'
        obtain ⟨rfl, rfl⟩ := e'
        refine ⟨k, hk', ?_⟩
        rw [hzs] at hrs
        simp only [List.length_append, Array.length_toList, hrs, holen, hvl, hxl]
        rw [← Nat.add_mul, ← Nat.add_mul]; exact Nat.mul_le_mul_right _ (by omega)
  have fitted : ∀ (i : Nat) (b : Nat × Nat) (cap : Nat) (pre arr : List Value) (fr : Nat × Nat), pre.length = b.2 → bi = some i → lk (res (bi.toList ++ foot) L) i = some bl → φ i = some b → a.eval d = .slice (some ⟨b.1, b.2, none⟩) len cap → w.heap[b.1]? = some (.cells (pre ++ arr).toArray bl.ty fr) → (∀ x, x < (pre ++ arr).length → (fr.1 ≤ x && x < fr.2) = false) →
      cap * inf.size ≤ arr.length → len * inf.size ≤ bl.cells.length → bl.ty = e → (∀ φ' : Ph, φ.le φ' → All2 (Sr (bl.ph φ')) (bl.cells.take (len * inf.size)) (arr.take (len * inf.size))) → len ≤ cap →
      ∃ (b' : Nat × Nat) (k : Nat) (w' : World), (execOp a.eval o).run P w = .ok (.value (.slice (some ⟨b'.1, b'.2, none⟩) (len + m) k)) w' ∧ w'.os = w.os ∧ w'.tape = w.tape ∧ w'.output = w.output ∧ len + m ≤ k ∧
      w.heap.size ≤ w'.heap.size ∧ (∀ c, c < w.heap.size → c ≠ b'.1 → w'.heap[c]? = w.heap[c]?) ∧ (b'.1 < w.heap.size → ∃ i blo c, bi = some i ∧ lk (res (bi.toList ++ foot) L) i = some blo ∧ φ i = some c ∧ c.1 = b'.1 ∧ blo.ro = false) ∧
      (∀ φ' : Ph, φ.le φ' → φ' (n + 1) = some (k, 0) → BlAt φ' w' b' { bl with cells := cs, more := true, sym := sy, gh := some (n + 1, inf.size) }) := by
    intro i b cap pre arr fr hp hbi hli hpi hd hblk hfr hal hcl hty hoall hlc
    have hlen2 : (arr.take (len * inf.size)).length = len * inf.size := by
      rw [List.length_take]; exact Nat.min_eq_left (Nat.le_trans (Nat.mul_le_mul_right _ hlc) hal)
    by_cases hfits : len + m ≤ cap
    · have hroom : len * inf.size + m * inf.size ≤ arr.length := by rw [← Nat.add_mul]; exact Nat.le_trans (Nat.mul_le_mul_right _ hfits) hal
      have hcellv : ∀ v ∈ vs, isCell v = true := fun z hz => by
        obtain ⟨j, hj, hz⟩ := List.getElem_of_mem hz
        obtain ⟨s, hsm, hs⟩ := hall.get' (i := j) (b := z) (by rw [← hz]; simp [hj])
        exact hs.cell (fitsIn_nj hfit hsm)
      obtain ⟨w', hr, q1, q2, q3, q4, q5, q6⟩ := run_storeCells (P := P) (b := b.1) (o := b.2 + len * inf.size) vs 0 w (pre ++ arr) hblk hcellv (by rw [List.length_append]; omega) hfr
      have hst : (storeCells (Addr.add ⟨b.1, b.2, none⟩ (len * inf.size)) vs.toArray.toList).run P w = .ok () w' := by
        rw [addr_add]; simpa using hr
      have hrun := append_fit (ty := o.type) ht0 ht1 ht hx (fun k hk => by subst hk; cases hdx) hi (a := ⟨b.1, b.2, none⟩) (len := len) (cap := cap) (hlen w) (hvs w.drawn) hfits hst
      refine ⟨b, cap, w', hexec _ _ (by rw [hd]; exact hrun), q1, q2, q3, hfits, by omega, fun c _ hne => q6 c hne, fun _ => ⟨i, bl, b, hbi, hli, hpi, rfl, hro⟩, fun φ' hle hk' => ?_⟩
      have harr : setL (pre ++ arr) (b.2 + len * inf.size + 0) vs = pre ++ (arr.take (len * inf.size) ++ (vs ++ (arr.drop (len * inf.size)).drop vs.length)) := by
        rw [Nat.add_zero, Nat.add_comm, setL_pre _ _ _ _ _ hp]
        have := setL_app vs (arr.take (len * inf.size)) (arr.drop (len * inf.size)) (by rw [List.length_drop]; omega)
        rw [List.take_append_drop, hlen2] at this
        rw [this]
      refine ⟨pre, arr.take (len * inf.size) ++ vs, (arr.drop (len * inf.size)).drop vs.length, fr, ?_, hp, ?_, (fun e => by cases e), (fun _ o' ho' => ?_), ⟨fun g z e' => ?_, fun g e' => (by rw [show bl.abs = none from habs] at e'; cases e')⟩⟩
      · rw [q5, harr, List.append_assoc, show ({ bl with cells := cs, more := true, sym := sy, gh := some (n + 1, inf.size) } : Bl).kind = none from hkd]; rfl
      · rw [hcs]; exact (hoall φ' hle).append (fits φ' hle)
      · refine hfr o' ?_
        simp only [List.length_append, List.length_drop, hlen2] at ho' ⊢
        omega
      · simp only [Option.some.injEq, Prod.mk.injEq] at e'
        obtain ⟨rfl, rfl⟩ := e'
        refine ⟨cap, hk', ?_⟩
        simp only [List.length_append, List.length_drop, hlen2]
        omega
    · refine grown (some ⟨b.1, b.2, none⟩) cap (arr.take (len * inf.size)) hd (by omega) (fun k => ?_) hlen2 hty hoall
      have hld := run_loadCellsFrom (P := P) (w := { w with drawn := k }) (b := b.1) (o := b.2) (arr.take (len * inf.size)) 0 #[] (by
        intro j v hj
        have hj' : j < len * inf.size := by
          rcases Nat.lt_or_ge j (arr.take (len * inf.size)).length with h | h
          · omega
          · simp [List.getElem?_eq_none h] at hj
        rw [List.getElem?_take, if_pos hj'] at hj
        have : w.heap[b.1]? = some (.cells (pre ++ arr).toArray bl.ty fr) := hblk
        show World.cell? { w with drawn := k } _ = _
        simp only [World.cell?, this]
        simp only [Option.isSome_none, Bool.false_eq_true, if_false, List.getElem?_toArray, Nat.zero_add]
        rw [Nat.add_comm, pre_get pre _ hp]; exact hj)
      rw [hlen2] at hld
      simpa [Builtin.firstCells, loadCells] using hld
  have hb0 := hb
  unfold baseOf at hb
  split at hb
  · rename_i q1 q2 hd
    split at hb
    · cases hb
      rw [hd] at g1
      obtain ⟨rfl, _, hv⟩ := g1
      exact grown none 0 [] hv (by have := hnil rfl; omega) (fun k => by simp [Builtin.firstCells]) (by simp) rfl (fun φ' _ => by simp [All2])
    · cases hb
  · rename_i i g ln hd
    split at hb
    · rename_i bl0 hl
      split at hb
      · rename_i g' z hgh
        split at hb
        · rename_i hk
          simp only [Bool.and_eq_true, Bool.not_eq_true'] at hk
          obtain ⟨⟨⟨⟨⟨k1, k2⟩, k3⟩, k4⟩, k6⟩, k7⟩ := hk
          have k6 : bl0.kind = none := by simpa using k6
          have k1 := Nat.eq_of_beq_eq_true k1
          have k2 := Nat.eq_of_beq_eq_true k2
          have k4 := Nat.eq_of_beq_eq_true k4
          simp only [Option.some.injEq, Prod.mk.injEq] at hb
          obtain ⟨rfl, rfl, rfl, rfl⟩ := hb
          rw [hd] at g1
          obtain ⟨b, cap, hpb, hpg, hv, hlc⟩ := g1
          have hli : lk (res ((some i).toList ++ foot) L) i = some bl0 := by rw [lk_res, if_pos (by simp)]; exact hl
          obtain ⟨b2, hb2, pre, ys, rest, fr, p1, hp, p2, p3, p4, p5⟩ := hg.hr i bl0 hli
          rw [hpb] at hb2; cases hb2
          rw [k6] at p1; simp only [objOf] at p1
          obtain ⟨kk, hkk, hlenk⟩ := p5.1 g' z hgh
          rw [k1, hpg] at hkk; cases hkk
          refine fitted i b cap pre (ys ++ rest) fr hp rfl hli hpb hv p1 (p4 k3) (by rw [← k2]; exact hlenk) hC k4 (fun φ' hle => ?_) hlc
          have : (ys ++ rest).take (ln * inf.size) = ys.take (ln * inf.size) := List.take_append_of_le_length (by rw [p2.len]; exact hC)
          rw [this]
          exact (p2.mono fun _ _ => Sr.mono (bl0.ph_le hle)).take _
        · cases hb
      · cases hb
    · cases hb
  · rename_i i ln cap0 hd
    split at hb
    · rename_i bl0 hl
      split at hb
      · rename_i hk
        simp only [Bool.and_eq_true, Bool.not_eq_true'] at hk
        obtain ⟨⟨⟨⟨k1, k2⟩, k4⟩, k6⟩, k7⟩ := hk
        have k6 : bl0.kind = none := by simpa using k6
        have k4 := Nat.eq_of_beq_eq_true k4
        simp only [Option.some.injEq, Prod.mk.injEq] at hb
        obtain ⟨rfl, rfl, rfl, rfl⟩ := hb
        rw [hd] at g1
        obtain ⟨b, cap, hpb, hv, hlc, hcap⟩ := g1
        have hcap : cap0 = cap := by
          rcases hcap with h | h
          · cases h
          · cases h; rfl
        subst hcap
        have hli : lk (res ((some i).toList ++ foot) L) i = some bl0 := by rw [lk_res, if_pos (by simp)]; exact hl
        obtain ⟨b2, hb2, pre, ys, rest, fr, p1, hp, p2, p3, p4, p5⟩ := hg.hr i bl0 hli
        rw [hpb] at hb2; cases hb2
        rw [k6] at p1; simp only [objOf] at p1
        have hrest := p3 k2
        subst hrest
        have hyl := p2.len
        refine fitted i b cap0 pre (ys ++ []) fr hp rfl hli hpb (by rw [Nat.zero_add] at hv; exact hv) p1 (p4 k1) (by rw [List.append_nil, hyl, hC]; exact Nat.le_refl _) (by rw [hC]; exact Nat.mul_le_mul_right _ hlc) k4 (fun φ' hle => ?_) hlc
        rw [List.append_nil]
        exact (p2.mono fun _ _ => Sr.mono (bl0.ph_le hle)).take _
      · cases hb
    · cases hb
  · cases hb

theorem aAppend_ok {P : Program} {env : List V} {n : Nat} {L : Hp} {ans : List Ans} {out : Out} {o : Oper} {c : Call} {d x : Operand} (ho : o.op = .call c) (hc : c.callee = .builtin .append) (hargs : c.args.toList = [d, x])
    {fl : Bool} (h : aAppend P c.argTypes n L fl (ev env d) (wkV (ev env x)) ans = some out) (hC : out.C) : OutOK P o env n L out := by
  unfold aAppend at h
  split at h
  · rename_i t tx h0 h1
    split at h
    · rename_i e dx ht hx
      split at h
      · rename_i inf zs hdx hi hz
        split at h
        · rename_i bi len bl C hsz hb
          have hsz := Nat.eq_of_beq_eq_true hsz
          split at h
          · rename_i m0 hm0
            split at h
            · rename_i foot m xs D hs
              split at h
              · rename_i r cs as
                cases h
                obtain ⟨c1, c2, c3, c4, c5, c6, c7, c8, c9⟩ := hC
                exact ⟨append_core ho hc hargs h0 h1 ht hx hdx hi hz hsz hb hs c1 c2 c3 c4 c5 c6 c7 c8 c9, Nat.le_add_right _ _⟩
              · rw [frc_eq] at h
                cases h
                obtain ⟨c1, c2, c3, c6, c7, c8, c9⟩ := hC
                exact ⟨append_core ho hc hargs h0 h1 ht hx hdx hi hz hsz hb hs c1 c2 c3 rfl (by rw [takeS_eq]) c6 c7 c8 c9, Nat.le_add_right _ _⟩
            · cases h
          · cases h
        · cases h
      · cases h
    · cases h
  · cases h

end Ab
end Go.Proofs.YtgbkllbaojkfmaaGreatDoor
/-
  The frame, part 8e: a slice of a slice of unknown capacity: the window moves.
-/
set_option linter.unusedSimpArgs false
set_option linter.unusedVariables false
namespace Go.Proofs.YtgbkllbaojkfmaaGreatDoor
namespace Ab
open Go
set_option maxRecDepth 100000

def bdV : Option V → Nat → Nat → Option Prop
  | none, k, d => some (k = d)
  | some (.s (.int _ z)), k, _ => some (z = (k : Int))
  | _, _, _ => none

def aWin (P : Program) (n : Nat) (L : Hp) (t : TypeId) (x : V) (lo hi mx : Option V) (k h : Nat) (cs : List S) (as : List Ans) : Option Out :=
  match mx, P.underlying t, x with
  | none, some (.slice e), .s (.sla i g len) =>
    match elemSz P e, lk L i with
    | some sz, some bl =>
      match bl.gh with
      | some (g', z) =>
        match Nat.beq g' g && Nat.beq z sz && !bl.ro with
        | true =>
          match bdV lo k 0, bdV hi h len with
          | some A, some B => some ⟨⟨[i], .s (.sla n (n + 1) (h - k)), dropB (some i) ++ [(n, some { bl with cells := cs, more := true, gh := some (n + 1, sz), abs := none })], n + 2⟩, as, A ∧ B ∧ k ≤ h ∧ h ≤ len ∧ h * sz ≤ bl.cells.length ∧ cs = (bl.cells.drop (k * sz)).take ((h - k) * sz)⟩
          | _, _ => none
        | false => none
      | none => none
    | _, _ => none
  | _, _, _ => none

theorem bdV_ok {P : Program} {φ : Ph} {env : List V} {a : Act} {w : World} {x : Option Operand} {k d top : Nat} {A : Prop} {code : BoundsCode} (hx : ∀ y, x = some y → Vr φ (ev env y) (a.eval y)) (h : bdV (x.map (ev env)) k d = some A) (hA : A) (hk : k ≤ top) :
    (match x.map a.eval with | some v => Instr.sliceBound v top code | none => pure d).run P w = .ok k w := by
  cases x with
  | none => obtain rfl : k = d := by simp [bdV] at h; exact h.2 hA
            rfl
  | some y =>
    have q := hx y rfl
    simp only [Option.map_some] at h ⊢
    cases hv : ev env y with
    | s s =>
      rw [hv] at h q
      cases s with
      | int kk z =>
        simp only [bdV, Option.some.injEq] at h
        subst h; subst hA
        simp only [Vr, Sr] at q
        simp only [Instr.sliceBound, q, asIntOf, Sem.run_bind, Sem.run_pure, Result.andThen_ok]
        rw [if_pos (by omega)]; simp
      | _ => simp [bdV] at h
    | _ => rw [hv] at h; simp [bdV] at h

theorem aWin_ok {P : Program} {env : List V} {n : Nat} {L : Hp} {t : TypeId} {x : Operand} {lo hi mx : Option Operand} {k h : Nat} {cs : List S} {as : List Ans} {out : Out} {o : Oper} (ho : o.op = .slice t x lo hi mx)
    (hh : aWin P n L t (ev env x) (lo.map (ev env)) (hi.map (ev env)) (mx.map (ev env)) k h cs as = some out) (hC : out.C) : OutOK P o env n L out := by
  have hmx : mx = none := by
    cases mx with
    | none => rfl
    | some _ => simp [aWin] at hh
  subst hmx
  unfold aWin at hh
  split at hh
  · rename_i e i g len _ hty hx
    split at hh
    · rename_i sz bl hsz hl
      split at hh
      · rename_i g' z hgh
        split at hh
        · rename_i hchk
          simp only [Bool.and_eq_true, Bool.not_eq_true'] at hchk
          obtain ⟨⟨e1, e2⟩, hro⟩ := hchk
          have e1 := Nat.eq_of_beq_eq_true e1
          have e2 := Nat.eq_of_beq_eq_true e2
          subst e1; subst e2
          split at hh
          · rename_i A B hA hB
            cases hh
            obtain ⟨cA, cB, ckh, chl, ccl, ccs⟩ := hC
            refine ⟨OpL.moved (bi := some i) (r := h - k) (fun φ a w hop hg => ?_) hro, Nat.le_add_right _ _⟩
            have g1 := hop x (by simp [ho, Op.operands])
            rw [hx] at g1
            obtain ⟨b, c, hb, hgc, hv, hlc⟩ := g1
            obtain ⟨b2, hb2, pre, ys, rest, fr, p1, hp, p2, p3, p4, p5⟩ := hg.hr i bl (by rw [lk_res, if_pos (by simp)]; exact hl)
            rw [hb] at hb2; cases hb2
            obtain ⟨kk, hkk, hlenk⟩ := p5.1 _ _ hgh
            rw [hgc] at hkk; cases hkk
            have hyl := p2.len
            have r1 := bdV_ok (P := P) (w := w) (top := h) (code := .sliceB) (fun y hy => hop y (by subst hy; simp [ho, Op.operands])) hA cA ckh
            have r2 := bdV_ok (P := P) (w := w) (top := c) (code := .sliceAcap) (fun y hy => hop y (by subst hy; simp [ho, Op.operands])) hB cB (by omega)
            have hsb : (Instr.sliceBounds true len c (lo.map a.eval) (hi.map a.eval) none).run P w = .ok (k, h, c) w := by
              unfold Instr.sliceBounds
              cases hi <;> cases lo <;> simp_all
            refine ⟨(b.1, if c = k then b.2 else b.2 + k * z), c - k, w, ?_, rfl, rfl, rfl, by omega, Nat.le_refl _, fun _ _ _ => rfl, fun _ => ⟨i, bl, b, rfl, by rw [lk_res, if_pos (by simp)]; exact hl, hb, rfl, hro⟩, fun φ' hle hk' => ?_⟩
            · simp only [execOp, ho, hv, Option.map_none, Instr.sliceAt, Instr.slice, Sem.run_bind, run_underlying hty, Result.andThen_ok, hsb, elemSz_ok hsz, Option.map_some, addr_add, Sem.run_pure]
              split <;> rfl
            · by_cases hck : c = k
              · have h0 : h - k = 0 := by omega
                simp only [if_pos hck]
                refine ⟨pre, [], ys ++ rest, fr, p1, hp, ?_, (fun e => by cases e), fun e => p4 e, ⟨fun g z e' => ?_, fun _ e' => (by cases e')⟩⟩
                · rw [ccs, h0, Nat.zero_mul]; simp [All2]
                · simp only [Option.some.injEq, Prod.mk.injEq] at e'
                  obtain ⟨rfl, rfl⟩ := e'
                  exact ⟨c - k, hk', by rw [hck, Nat.sub_self, Nat.zero_mul]; exact Nat.zero_le _⟩
              · simp only [if_neg hck]
                have hks : k * z ≤ ys.length := by rw [hyl]; exact Nat.le_trans (Nat.mul_le_mul_right _ ckh) ccl
                have hd : (h - k) * z ≤ (ys.drop (k * z)).length := by rw [List.length_drop, hyl, Nat.sub_mul]; omega
                refine ⟨pre ++ ys.take (k * z), (ys.drop (k * z)).take ((h - k) * z), (ys.drop (k * z)).drop ((h - k) * z) ++ rest, fr, ?_, ?_, ?_, (fun e => by cases e), fun e o' ho' => p4 e o' ?_, ⟨fun g z' e' => ?_, fun _ e' => (by cases e')⟩⟩
                · rw [p1]; congr 2
                  rw [List.append_assoc, ← List.append_assoc (List.take _ (List.drop _ ys)), List.take_append_drop, ← List.append_assoc (List.take _ ys), List.take_append_drop]
                · rw [List.length_append, List.length_take, hp, Nat.min_eq_left hks]
                · rw [ccs]; exact ((p2.mono fun _ _ => Sr.mono (bl.ph_le hle)).drop _).take _
                · simp only [List.length_append, List.length_take, List.length_drop] at ho' ⊢; omega
                · simp only [Option.some.injEq, Prod.mk.injEq] at e'
                  obtain ⟨rfl, rfl⟩ := e'
                  refine ⟨c - k, hk', ?_⟩
                  rw [Nat.sub_mul]
                  simp only [List.length_append, List.length_take, List.length_drop] at hlenk ⊢
                  omega
          · cases hh
        · cases hh
      · cases hh
    · cases hh
  · cases hh

/-! ### a window that is not taken yet -/
def aWinL (P : Program) (n : Nat) (t : TypeId) (x : V) (lo hi mx : Option V) (k h : Nat) (as : List Ans) : Option Out :=
  match mx, P.underlying t, x with
  | none, some (.slice e), .s (.sla i g len) =>
    match elemSz P e with
    | some sz =>
      match bdV lo k 0, bdV hi h len with
      | some A, some B => some ⟨⟨[], .w i g sz k (h - k), [], n⟩, as, A ∧ B ∧ k ≤ h ∧ h ≤ len⟩
      | _, _ => none
    | none => none
  | _, _, _ => none

theorem aWinL_ok {P : Program} {env : List V} {n : Nat} {L : Hp} {t : TypeId} {x : Operand} {lo hi mx : Option Operand} {k h : Nat} {as : List Ans} {out : Out} {o : Oper} (ho : o.op = .slice t x lo hi mx)
    (hh : aWinL P n t (ev env x) (lo.map (ev env)) (hi.map (ev env)) (mx.map (ev env)) k h as = some out) (hC : out.C) : OutOK P o env n L out := by
  have hmx : mx = none := by
    cases mx with
    | none => rfl
    | some _ => simp [aWinL] at hh
  subst hmx
  unfold aWinL at hh
  split at hh
  · rename_i e i g len _ hty hx
    split at hh
    · rename_i sz hsz
      split at hh
      · rename_i A B hA hB
        cases hh
        obtain ⟨cA, cB, ckh, chl⟩ := hC
        refine ⟨OpL.light fun φ a w hop hg => ?_, Nat.le_refl _⟩
        have g1 := hop x (by simp [ho, Op.operands])
        rw [hx] at g1
        obtain ⟨b, c, hb, hgc, hv, hlc⟩ := g1
        have r1 := bdV_ok (P := P) (w := w) (top := h) (code := .sliceB) (fun y hy => hop y (by subst hy; simp [ho, Op.operands])) hA cA ckh
        have r2 := bdV_ok (P := P) (w := w) (top := c) (code := .sliceAcap) (fun y hy => hop y (by subst hy; simp [ho, Op.operands])) hB cB (by omega)
        have hsb : (Instr.sliceBounds true len c (lo.map a.eval) (hi.map a.eval) none).run P w = .ok (k, h, c) w := by
          unfold Instr.sliceBounds
          cases hi <;> cases lo <;> simp_all
        refine ⟨.slice (some ⟨b.1, if c = k then b.2 else b.2 + k * sz, none⟩) (h - k) (c - k), ?_, b, c, hb, hgc, rfl, by omega⟩
        simp only [execOp, ho, hv, Option.map_none, Instr.sliceAt, Instr.slice, Sem.run_bind, run_underlying hty, Result.andThen_ok, hsb, elemSz_ok hsz, Option.map_some, addr_add, Sem.run_pure]
        split <;> rfl
      · cases hh
    · cases hh
  · cases hh

/-- the window is taken: its block gets the number n, its capacity n + 1 -/
theorem take_win {φ : Ph} {M : Hp} {w : World} {n i g sz k m : Nat} {bl : Bl} {cs : List S} {v : Value} (hg : Good φ M w) (hl : lk M i = some bl) (hgh : bl.gh = some (g, sz)) (hro : bl.ro = false) (f0 : φ n = none) (f1 : φ (n + 1) = none)
    (hv : Vr φ (.w i g sz k m) v) (hle : (k + m) * sz ≤ bl.cells.length) (hcs : cs = (bl.cells.drop (k * sz)).take (m * sz)) :
    ∃ φ' : Ph, Vr φ' (.s (.sla n (n + 1) m)) v ∧ Good φ' (puts M (dropB (some i) ++ [(n, some { bl with cells := cs, more := true, gh := some (n + 1, sz), abs := none })])) w ∧
      Stp φ M w φ' (puts M (dropB (some i) ++ [(n, some { bl with cells := cs, more := true, gh := some (n + 1, sz), abs := none })])) w ∧ (∀ j, ¬ (n ≤ j ∧ j < n + 2) → φ' j = φ j) := by
  obtain ⟨b, c, hb, hgc, rfl, hkm⟩ := hv
  obtain ⟨b2, hb2, pre, ys, rest, fr, p1, hp, p2, p3, p4, p5⟩ := hg.hr i bl hl
  rw [hb] at hb2; cases hb2
  obtain ⟨kk, hkk, hlenk⟩ := p5.1 _ _ hgh
  rw [hgc] at hkk; cases hkk
  have hyl := p2.len
  let b' : Nat × Nat := (b.1, if c = k then b.2 else b.2 + k * sz)
  let φ' : Ph := fun j => if j = n then some b' else if j = n + 1 then some (c - k, 0) else φ j
  have hle' : φ.le φ' := by
    intro j b hb
    simp only [φ']
    split
    · rename_i e; subst e; rw [f0] at hb; cases hb
    · split
      · rename_i e; subst e; rw [f1] at hb; cases hb
      · exact hb
  have hn : φ' n = some b' := by simp [φ']
  have hn1 : φ' (n + 1) = some (c - k, 0) := by simp [φ']
  have old : ∀ j bj, lk (puts M (dropB (some i) ++ [(n, some { bl with cells := cs, more := true, gh := some (n + 1, sz), abs := none })])) j = some bj → n ≠ j → lk M j = some bj ∧ i ≠ j ∧ φ' j = φ j := by
    intro j bj hj hne
    rw [lk_drop, if_neg hne] at hj
    split at hj
    · cases hj
    · rename_i hbi
      refine ⟨hj, fun e => hbi (by rw [e]), ?_⟩
      obtain ⟨b, hb, _⟩ := hg.hr j bj hj
      simp only [φ']
      rw [if_neg (Ne.symm hne), if_neg]
      rintro rfl; rw [f1] at hb; cases hb
  have apart : ∀ j bj b1, lk M j = some bj → φ j = some b1 → i ≠ j → b1.1 ≠ b.1 := by
    intro j bj b1 hj hb1 hij hbb
    rcases hg.inj j i bj bl b1 b hj hl hb1 hb hbb with rfl | ⟨_, e⟩
    · exact hij rfl
    · rw [e] at hro; cases hro
  refine ⟨φ', ⟨b', c - k, hn, hn1, rfl, by omega⟩, ⟨fun j bj hj => ?_, fun j j' bj bj' b1 b2 hj hj' hb1 hb2 hbb => ?_⟩, ⟨rfl, rfl, rfl, Nat.le_refl _, fun _ _ _ => rfl, fun j bj b1 hj hb1 hlt => ?_⟩, fun j hj => ?_⟩
  · by_cases e : n = j
    · subst e
      rw [lk_drop, if_pos rfl] at hj; cases hj
      refine ⟨b', hn, ?_⟩
      by_cases hck : c = k
      · have h0 : m = 0 := by omega
        refine ⟨pre, [], ys ++ rest, fr, p1, ?_, ?_, (fun e => by cases e), fun e => p4 e, ⟨fun g z e' => ?_, fun _ e' => (by cases e')⟩⟩
        · simp only [b', if_pos hck]; exact hp
        · show All2 _ cs []
          rw [hcs, h0, Nat.zero_mul]; simp [All2]
        · simp only [Option.some.injEq, Prod.mk.injEq] at e'
          obtain ⟨rfl, rfl⟩ := e'
          exact ⟨c - k, hn1, by rw [hck, Nat.sub_self, Nat.zero_mul]; exact Nat.zero_le _⟩
      · have hks : k * sz ≤ ys.length := by rw [hyl]; rw [Nat.add_mul] at hle; omega
        have hd : m * sz ≤ (ys.drop (k * sz)).length := by rw [List.length_drop, hyl]; rw [Nat.add_mul] at hle; omega
        refine ⟨pre ++ ys.take (k * sz), (ys.drop (k * sz)).take (m * sz), (ys.drop (k * sz)).drop (m * sz) ++ rest, fr, ?_, ?_, ?_, (fun e => by cases e), fun e o' ho' => p4 e o' ?_, ⟨fun g z' e' => ?_, fun _ e' => (by cases e')⟩⟩
        · show w.heap[b.1]? = _
          rw [p1]; congr 2
          rw [List.append_assoc, ← List.append_assoc (List.take _ (List.drop _ ys)), List.take_append_drop, ← List.append_assoc (List.take _ ys), List.take_append_drop]
        · simp only [b', if_neg hck]; rw [List.length_append, List.length_take, hp, Nat.min_eq_left hks]
        · show All2 _ cs _
          rw [hcs]; exact ((p2.mono fun _ _ => Sr.mono (bl.ph_le hle')).drop _).take _
        · simp only [List.length_append, List.length_take, List.length_drop] at ho' ⊢; omega
        · simp only [Option.some.injEq, Prod.mk.injEq] at e'
          obtain ⟨rfl, rfl⟩ := e'
          refine ⟨c - k, hn1, ?_⟩
          rw [Nat.sub_mul]
          simp only [List.length_append, List.length_take, List.length_drop] at hlenk ⊢
          omega
    · obtain ⟨hm, hbi, hφ⟩ := old j bj hj e
      obtain ⟨b1, hb1, hatj⟩ := hg.hr j bj hm
      exact ⟨b1, by rw [hφ]; exact hb1, hatj.mono hle' rfl⟩
  · by_cases e : n = j <;> by_cases e' : n = j'
    · exact .inl (e ▸ e')
    · subst e
      obtain ⟨hm, hbi, hφ⟩ := old j' bj' hj' e'
      rw [hn] at hb1; cases hb1
      exact absurd hbb.symm (apart j' bj' b2 hm (by rw [← hφ]; exact hb2) hbi)
    · subst e'
      obtain ⟨hm, hbi, hφ⟩ := old j bj hj e
      rw [hn] at hb2; cases hb2
      exact absurd hbb (apart j bj b1 hm (by rw [← hφ]; exact hb1) hbi)
    · obtain ⟨hm, _, hφ⟩ := old j bj hj e
      obtain ⟨hm', _, hφ'⟩ := old j' bj' hj' e'
      exact hg.inj j j' bj bj' b1 b2 hm hm' (by rw [← hφ]; exact hb1) (by rw [← hφ']; exact hb2) hbb
  · by_cases e : n = j
    · subst e
      rw [hn] at hb1; cases hb1
      exact ⟨i, bl, b, hl, hb, rfl, (fun e => by rw [hro] at e; cases e), .inr hro⟩
    · obtain ⟨hm, _, hφ⟩ := old j bj hj e
      exact ⟨j, bj, b1, hm, by rw [← hφ]; exact hb1, rfl, id, .inl rfl⟩
  · simp only [φ']
    rw [if_neg (by omega), if_neg (by omega)]

/-- a window is stored -/
def aStoreW (P : Program) (n : Nat) (L : Hp) (t : TypeId) (x v : V) (cs cells : List S) (as : List Ans) : Option Out :=
  match x, v with
  | .s (.ptr (some (j, o))), .w i g sz k m =>
    match lk L i, lk L j, elemSz P t with
    | some bl, some bj, some 1 =>
      match bl.gh with
      | some (g', z) =>
        match Nat.beq g' g && Nat.beq z sz && !bl.ro && !bj.ro && !Nat.beq i j && !Nat.beq n j && fitsIn bj [.sla n (n + 1) m] && bj.kind.isNone with
        | true => some ⟨⟨[i, j], .undef, dropB (some i) ++ [(n, some { bl with cells := cs, more := true, gh := some (n + 1, sz), abs := none }), (j, some { bj with cells := cells })], n + 2⟩, as,
            (k + m) * sz ≤ bl.cells.length ∧ cs = (bl.cells.drop (k * sz)).take (m * sz) ∧ o + 1 ≤ bj.cells.length ∧ cells = setL bj.cells o [.sla n (n + 1) m]⟩
        | false => none
      | none => none
    | _, _, _ => none
  | _, _ => none

theorem puts_app : ∀ (A B : Hp) (L : Hp), puts L (A ++ B) = puts (puts L A) B
  | [], B, L => rfl
  | (i, b) :: A, B, L => by simp only [List.cons_append, puts]; exact puts_app A B _

/-- the operand that is the window, as taken -/
def tkW (n : Nat) : V → V
  | .w _ _ _ _ m => .s (.sla n (n + 1) m)
  | v => v
theorem ofConst_tk (n : Nat) (v : Value) : tkW n (ofConst v) = ofConst v := by
  unfold ofConst; split <;> rfl
theorem ev_tk (n : Nat) (env : List V) (x : Operand) : ev (env.map (tkW n)) x = tkW n (ev env x) := by
  cases x with
  | tmp t =>
    simp only [ev, List.getD_eq_getElem?_getD, List.getElem?_map]
    cases env[t]? <;> rfl
  | const v => exact (ofConst_tk n v).symm
  | _ => rfl

theorem aStoreW_ok {P : Program} {env : List V} {n : Nat} {L : Hp} {t : TypeId} {x y : Operand} {cs cells : List S} {as : List Ans} {out : Out} {o : Oper} (ho : o.op = .store t x y)
    (h : aStoreW P n L t (ev env x) (ev env y) cs cells as = some out) (hC : out.C) : OutOK P o env n L out := by
  unfold aStoreW at h
  split at h
  · rename_i j off i g sz k m hx hy
    split at h
    · rename_i bl bj hl hlj ht
      split at h
      · rename_i g' z hgh
        split at h
        · rename_i hchk
          cases h
          simp only [Bool.and_eq_true, Bool.not_eq_true'] at hchk
          obtain ⟨⟨⟨⟨⟨⟨⟨e1, e2⟩, hro⟩, hroj⟩, hij⟩, hnj⟩, hfit⟩, hkdj⟩ := hchk
          have e1 := Nat.eq_of_beq_eq_true e1
          have e2 := Nat.eq_of_beq_eq_true e2
          subst e1; subst e2
          have hij : i ≠ j := fun e => by rw [e, Nat.beq_refl] at hij; cases hij
          have hnj : n ≠ j := fun e => by rw [e, Nat.beq_refl] at hnj; cases hnj
          obtain ⟨c1, c2, c3, c4⟩ := hC
          refine ⟨?_, Nat.le_add_right _ _⟩
          intro φ a w Q hop hg hf
          have hM : lk (res [i, j] L) i = some bl := by rw [lk_res, if_pos (by simp)]; exact hl
          have hMj : lk (res [i, j] L) j = some bj := by rw [lk_res, if_pos (by simp)]; exact hlj
          have gy := hop y (by simp [ho, Op.operands])
          rw [hy] at gy
          obtain ⟨φ1, hv1, hg1, hs1, hag1⟩ := take_win hg hM hgh hro (hf n (Nat.le_refl _) (by show n < n + 2; omega)) (hf (n + 1) (by omega) (by show n + 1 < n + 2; omega)) gy c1 c2
          have hle1 : φ.le φ1 := le_of_agree (n := n) (n' := n + 2) hf hag1
          let M1 : Hp := puts (res [i, j] L) (dropB (some i) ++ [(n, some { bl with cells := cs, more := true, gh := some (n + 1, z), abs := none })])
          have hj1 : lk M1 j = some bj := by
            show lk (puts _ _) j = _
            rw [lk_drop, if_neg hnj, if_neg (by simpa using hij)]; exact hMj
          -- the store, with the window as taken
          have hst : aStore P (n + 2) M1 t (ev (env.map (tkW n)) x) (ev (env.map (tkW n)) y) [match bj.sym with | true => .cells cells | false => .stc cells] = some ⟨⟨[j], .undef, [(j, some { bj with cells := cells })], n + 2⟩, [], off + 1 ≤ bj.cells.length ∧ cells = setL bj.cells off [.sla n (n + 1) m]⟩ := by
            rw [ev_tk, ev_tk, hx, hy]
            simp only [tkW, aStore, hj1, ht, cellsOf, isJ, List.length_cons, List.length_nil, Nat.zero_add, hroj, hfit, hkdj, Nat.beq_refl, Bool.and_self, Bool.not_false]
            cases bj.sym <;> rfl
          have hout := (aStore_ok ho hst ⟨c3, c4⟩).1
          have step := hout φ1 a w Q (fun z hz => by
            rw [ev_tk]
            have g := hop z hz
            cases hev : ev env z with
            | w i' g' sz' k' m' =>
              have hzy : z = y := by
                rw [ho] at hz; simp [Op.operands] at hz
                rcases hz with rfl | rfl
                · rw [hx] at hev; cases hev
                · rfl
              subst hzy
              rw [hy] at hev; cases hev
              exact hv1
            | _ => rw [hev] at g; exact g.mono hle1) (hg1.sub fun i' b' hi' => by
              rw [lk_res] at hi'
              split at hi'
              · exact hi'
              · cases hi') (fun i' h1 h2 => absurd h2 (by show ¬ i' < n + 2; omega))
          refine Oper.wp_mono ?_ step
          rintro a' w' ⟨φ', x', rfl, hv, hg', st, hag⟩
          have hag' : ∀ i', φ' i' = φ1 i' := fun i' => hag i' (by show ¬ (n + 2 ≤ i' ∧ i' < n + 2); omega)
          have hl2 : φ1.le φ' := fun i' b' h' => by rw [hag']; exact h'
          obtain ⟨g2, s2⟩ := frame (L := res [j] M1) (M := M1) (M' := puts M1 [(j, some { bj with cells := cells })]) hg1 (fun i' b' hi' => by
              rw [lk_res] at hi'
              split at hi'
              · exact hi'
              · cases hi') hg' st hl2 (by
            intro i' bl' hi'
            by_cases hk : i' ∈ keys [(j, some { bj with cells := cells })]
            · exact .inl (by rw [lk_puts_in _ _ M1 i' hk]; exact hi')
            · rw [lk_puts_out _ _ _ hk] at hi' ⊢
              by_cases hm : i' ∈ [j]
              · exact .inl (by rw [lk_res, if_pos hm]; exact hi')
              · exact .inr ⟨by rw [lk_res, if_neg hm], hi'⟩)
          have eM : puts (res [i, j] L) (dropB (some i) ++ [(n, some { bl with cells := cs, more := true, gh := some (n + 1, z), abs := none }), (j, some { bj with cells := cells })]) = puts M1 [(j, some { bj with cells := cells })] := by
            show _ = puts (puts _ _) _
            rw [← puts_app]; rfl
          refine ⟨φ', x', rfl, hv, ?_, ?_, fun i' hi' => by rw [hag']; exact hag1 i' hi'⟩
          · show Good φ' (puts (res [i, j] L) _) w'
            rw [eM]; exact g2
          · show Stp φ (res [i, j] L) w φ' (puts (res [i, j] L) _) w'
            rw [eM]; exact hs1.trans s2
        · cases h
      · cases h
    · cases h
  · cases h

/-! ### append of nothing to nil -/
def aApp0 (P : Program) (ts : Array TypeId) (n : Nat) (L : Hp) (d x : V) (as : List Ans) : Option Out :=
  match ts[0]?, ts[1]? with
  | some t, some tx =>
    match P.underlying t, P.underlying tx with
    | some (.slice e), some dx =>
      match notInt dx, elemSz P e, d with
      | true, some sz, .s (.slc none _ _) =>
        match srcOf L sz 0 x with
        | some (foot, m, _, D) => some ⟨⟨foot, .s (.slc none 0 (some 0)), [], n⟩, as, D ∧ m = 0⟩
        | none => none
      | _, _, _ => none
    | _, _ => none
  | _, _ => none

theorem aApp0_ok {P : Program} {env : List V} {n : Nat} {L : Hp} {as : List Ans} {out : Out} {o : Oper} {c : Call} {d x : Operand} (ho : o.op = .call c) (hc : c.callee = .builtin .append) (hargs : c.args.toList = [d, x])
    (h : aApp0 P c.argTypes n L (ev env d) (wkV (ev env x)) as = some out) (hC : out.C) : OutOK P o env n L out := by
  unfold aApp0 at h
  split at h
  · rename_i t tx h0 h1
    split at h
    · rename_i e dx ht hx
      split at h
      · rename_i sz q1 q2 hdx hsz hd
        split at h
        · rename_i foot m xs D hs
          cases h
          obtain ⟨hD, rfl⟩ := hC
          refine ⟨OpL.light fun φ a w hop hg => ?_, Nat.le_refl _⟩
          have opd : d ∈ o.op.operands := by rw [ho]; simp only [Op.operands, Call.operands, hc]; simp [← Array.mem_toList_iff, hargs]
          have opx : x ∈ o.op.operands := by rw [ho]; simp only [Op.operands, Call.operands, hc]; simp [← Array.mem_toList_iff, hargs]
          have g1 := hop d opd
          rw [hd] at g1
          obtain ⟨_, _, hv⟩ := g1
          obtain ⟨r1, vs, r2, r3, r4⟩ := srcOf_ok (P := P) hs hD (Nat.le_refl _) hg (fun j hj => by rw [lk_res, if_pos (by simpa using hj)]) (wkV_r (hop x opx))
          have ea : c.args.map a.eval = #[a.eval d, a.eval x] := by apply Array.ext'; simp [hargs]
          refine ⟨.slice none 0 0, ?_, rfl, rfl, rfl⟩
          simp only [execOp, ho, resolve, hc, Sem.run_bind, Sem.run_pure, Result.andThen_ok, invoke, builtin, ea, hv]
          unfold Builtin.append_
          simp only [h0, h1, List.getElem?_toArray, List.getElem?_cons_zero, List.getElem?_cons_succ, Sem.run_bind, Ab.run_underlying ht, Ab.run_underlying hx, Result.andThen_ok, elemSz_ok hsz, Sem.run_pure]
          cases dx <;> first | cases hdx | skip
          all_goals simp only [Bool.false_eq_true, if_false, Bool.not_false, if_true, r1, r2, Sem.run_bind, Result.andThen_ok, Sem.run_pure, Nat.add_zero, Nat.le_refl]
        · cases h
      · cases h
    · cases h
  · cases h

end Ab
end Go.Proofs.YtgbkllbaojkfmaaGreatDoor
