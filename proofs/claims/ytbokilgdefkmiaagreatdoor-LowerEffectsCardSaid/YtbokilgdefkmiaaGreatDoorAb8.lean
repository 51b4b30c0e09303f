/-
  The frame, part 8: the operations, one by one, and what they come to.
-/
import Derived.Test.YtbokilgdefkmiaaGreatDoorAb7
set_option linter.unusedSimpArgs false
set_option linter.unusedVariables false
namespace Go.Proofs.YtbokilgdefkmiaaGreatDoor
namespace Ab
open Go

/-! ### laying terms out -/
def rv {α β : Type} : List α → List α → (List α → β) → β
  | [], out, k => k out
  | x :: t, out, k => rv t (x :: out) k
def frc {α β : Type} : List α → List α → (List α → β) → β
  | [], acc, k => rv acc [] k
  | x :: t, acc, k => frc t (x :: acc) k
theorem rv_eq {α β : Type} (k : List α → β) : ∀ (l out : List α), rv l out k = k (l.reverse ++ out)
  | [], _ => rfl
  | x :: t, out => by simp only [rv]; rw [rv_eq k t]; simp
theorem frc_eq' {α β : Type} (k : List α → β) : ∀ (l acc : List α), frc l acc k = k (acc.reverse ++ l)
  | [], acc => by simp only [frc]; rw [rv_eq]
  | x :: t, acc => by simp only [frc]; rw [frc_eq' k t]; simp
theorem frc_eq {α β : Type} (k : List α → β) (l : List α) : frc l [] k = k l := by rw [frc_eq']; rfl

def frcV {β : Type} (v : V) (k : V → β) : β :=
  match v with
  | .any => k .any
  | .undef => k .undef
  | .s x => k (.s x)
  | .agg l => frc l [] fun l => k (.agg l)
  | .tup l => frc l [] fun l => k (.tup l)
  | .w i g sz j m => k (.w i g sz j m)
theorem frcV_eq {β : Type} (v : V) (k : V → β) : frcV v k = k v := by cases v <;> simp only [frcV, frc_eq]

/-! ### light operations -/
def lt (n : Nat) (v : V) (ans : List Ans) (C : Prop) : Option Out := frcV v fun v => some ⟨⟨[], v, [], n⟩, ans, C⟩
theorem lt_eq (n : Nat) (v : V) (ans : List Ans) (C : Prop) : lt n v ans C = some ⟨⟨[], v, [], n⟩, ans, C⟩ := frcV_eq _ _
def ofSO (n : Nat) (x : SO) : Option Out := match x with | some (s, as, C) => some ⟨⟨[], .s s, [], n⟩, as, C⟩ | none => none

/-- what is to be shown of an operation's answer -/
def OutOK (P : Program) (o : Oper) (env : List V) (n : Nat) (L : Hp) (out : Out) : Prop :=
  OpL P o env n (res out.r.foot L) out.r.v out.r.n' (puts (res out.r.foot L) out.r.wr) ∧ n ≤ out.r.n'

theorem lt_ok {P : Program} {o : Oper} {env : List V} {n : Nat} {L : Hp} {v : V} {ans : List Ans} {C : Prop} {out : Out} (h : lt n v ans C = some out) 
    (hy : ∀ φ (a : Act) (w : World), (∀ x ∈ o.op.operands, Vr φ (ev env x) (a.eval x)) → ∃ y, (execOp a.eval o).run P w = .ok (.value y) w ∧ Vr φ v y) : OutOK P o env n L out := by
  rw [lt_eq] at h; cases h
  exact ⟨OpL.light fun φ a w hx _ => hy φ a w hx, Nat.le_refl _⟩

theorem ofSO_ok {P : Program} {o : Oper} {env : List V} {n : Nat} {L : Hp} {so : SO} {out : Out} (h : ofSO n so = some out) (hC : out.C)
    (hy : ∀ s as C, so = some (s, as, C) → C → ∀ φ (a : Act) (w : World), (∀ x ∈ o.op.operands, Vr φ (ev env x) (a.eval x)) → ∃ y, (execOp a.eval o).run P w = .ok (.value y) w ∧ Sr φ s y) : OutOK P o env n L out := by
  unfold ofSO at h
  split at h
  · rename_i s as C
    cases h
    exact ⟨OpL.light fun φ a w hx _ => hy s as C rfl hC φ a w hx, Nat.le_refl _⟩
  · cases h

/-! ### addresses -/
def plus (o k : Nat) : Nat := match o with | 0 => k | o + 1 => match k with | 0 => o + 1 | k => o + 1 + k
theorem plus_eq (o k : Nat) : plus o k = o + k := by unfold plus; cases o <;> cases k <;> simp
def times (k s : Nat) : Nat := match s with | 1 => k | s => k * s
theorem times_eq (k s : Nat) : times k s = k * s := by unfold times; split <;> simp

def idxOf (z : Int) (len : Nat) : List Ans → Nat × List Ans × Prop
  | .idx k :: as => (k, as, z = (k : Int) ∧ k < len)
  | as => (z.toNat, as, 0 ≤ z ∧ z < (len : Int))
theorem idxOf_ok {z : Int} {len : Nat} {ans : List Ans} {k : Nat} {as : List Ans} {C : Prop} (h : idxOf z len ans = (k, as, C)) (hC : C) : 0 ≤ z ∧ z < (len : Int) ∧ z.toNat = k := by
  unfold idxOf at h
  split at h <;> simp only [Prod.mk.injEq] at h <;> obtain ⟨rfl, rfl, rfl⟩ := h
  · obtain ⟨rfl, h2⟩ := hC; exact ⟨by omega, by omega, by omega⟩
  · exact ⟨hC.1, hC.2, rfl⟩

def fieldOff (P : Program) (s : TypeId) (f : Nat) : Option Nat :=
  match P.underlying s with
  | some (.struct fs) =>
    match fs[f]? with
    | some fd =>
      match P.info? fd.type with
      | some i => match i.size with | 0 => none | _ + 1 => some fd.offset
      | none => none
    | none => none
  | _ => none
theorem fieldOff_ok {P : Program} {s : TypeId} {f off : Nat} (h : fieldOff P s f = some off) (b o : Nat) (w : World) : (Instr.fieldAt s (.pointer (some ⟨b, o, none⟩)) f).run P w = .ok (.pointer (some ⟨b, o + off, none⟩)) w := by
  unfold fieldOff at h
  split at h
  · rename_i fs hty
    split at h
    · rename_i fd hfd
      split at h
      · rename_i i hi
        split at h
        · cases h
        · rename_i k hk
          cases h
          have hs : (sizeOf fd.type).run P w = .ok (k + 1) w := by simp [sizeOf, typeInfo, hi, hk]
          simp only [Instr.fieldAt, Sem.run_bind, run_underlying hty, Result.andThen_ok, hfd, Instr.sureAddr, Sem.run_pure, fieldPlace, hs, addr_add]
          simp
      · cases h
    · cases h
  · cases h

def aField (P : Program) (n : Nat) (s : TypeId) (x : V) (f : Nat) (ans : List Ans) : Option Out :=
  match x with
  | .s (.ptr (some (i, o))) => match fieldOff P s f with | some off => lt n (.s (.ptr (some (i, plus o off)))) ans True | none => none
  | _ => none

def elemSz (P : Program) (e : TypeId) : Option Nat := match P.info? e with | some i => some i.size | none => none
theorem elemSz_ok {P : Program} {e : TypeId} {sz : Nat} (h : elemSz P e = some sz) (w : World) : (sizeOf e).run P w = .ok sz w := by
  unfold elemSz at h; split at h
  · rename_i i hi; cases h; simp [sizeOf, typeInfo, hi]
  · cases h

def aIndexAddr (P : Program) (n : Nat) (t : TypeId) (x ix : V) (ans : List Ans) : Option Out :=
  match ix with
  | .s (.int _ z) =>
    match P.underlying t with
    | some (.slice e) =>
      match x, elemSz P e with
      | .s (.slc (some (i, o)) len _), some sz => match idxOf z len ans with | (k, as, C) => lt n (.s (.ptr (some (i, plus o (times k sz))))) as C
      | _, _ => none
    | some (.array len e) =>
      match x, elemSz P e with
      | .s (.ptr (some (i, o))), some sz => match idxOf z len ans with | (k, as, C) => lt n (.s (.ptr (some (i, plus o (times k sz))))) as C
      | _, _ => none
    | _ => none
  | _ => none

def aIndex (P : Program) (n : Nat) (t : TypeId) (x ix : V) (ans : List Ans) : Option Out :=
  match ix with
  | .s (.int _ z) =>
    match P.underlying t with
    | some .string =>
      match x with
      | .s (.str l) => match idxOf z l.length ans with | (k, as, C) => lt n (.s (.int .u8 ((l.getD k 0).toNat : Int))) as C
      | _ => none
    | _ => none
  | _ => none

theorem aIndexAddr_ok {P : Program} {env : List V} {n : Nat} {L : Hp} {t : TypeId} {x ix : Operand} {ans : List Ans} {out : Out} {o : Oper} (ho : o.op = .indexAddr t x ix)
    (h : aIndexAddr P n t (ev env x) (ev env ix) ans = some out) (hC : out.C) : OutOK P o env n L out := by
  unfold aIndexAddr at h
  split at h
  · rename_i ki z hix
    split at h
    · rename_i e hty
      split at h
      · rename_i i off len c sz hx hsz
        rcases hq : idxOf z len ans with ⟨k, as, C⟩
        rw [hq] at h; dsimp only at h
        have hC' : C := by rw [lt_eq] at h; cases h; exact hC
        obtain ⟨h1, h2, h3⟩ := idxOf_ok hq hC'
        refine lt_ok h fun φ a w hop => ?_
        have g1 := hop x (by simp [ho, Op.operands])
        have g2 := hop ix (by simp [ho, Op.operands])
        rw [hx] at g1; rw [hix] at g2
        obtain ⟨b, cp, hb, hv, _⟩ := g1
        simp only [Vr, Sr] at g2
        refine ⟨.pointer (some ⟨b.1, plus off (times k sz) + b.2, none⟩), ?_, b, hb, rfl⟩
        simp only [execOp, ho, hv, g2, Instr.indexAt, asIntOf, Sem.run_bind, Sem.run_pure, run_underlying hty, Result.andThen_ok, elemSz_ok hsz, addr_add, plus_eq, times_eq, h3]
        rw [if_pos ⟨h1, h2⟩]
        simp [elemSz_ok hsz, addr_add, h3]
      · cases h
    · rename_i len e hty
      split at h
      · rename_i i off sz hx hsz
        rcases hq : idxOf z len ans with ⟨k, as, C⟩
        rw [hq] at h; dsimp only at h
        have hC' : C := by rw [lt_eq] at h; cases h; exact hC
        obtain ⟨h1, h2, h3⟩ := idxOf_ok hq hC'
        refine lt_ok h fun φ a w hop => ?_
        have g1 := hop x (by simp [ho, Op.operands])
        have g2 := hop ix (by simp [ho, Op.operands])
        rw [hx] at g1; rw [hix] at g2
        obtain ⟨b, hb, hv⟩ := g1
        simp only [Vr, Sr] at g2
        refine ⟨.pointer (some ⟨b.1, plus off (times k sz) + b.2, none⟩), ?_, b, hb, rfl⟩
        simp only [execOp, ho, hv, g2, Instr.indexAt, Instr.sureAddr, asIntOf, Sem.run_bind, Sem.run_pure, run_underlying hty, Result.andThen_ok, elemSz_ok hsz, addr_add, plus_eq, times_eq, h3]
        rw [if_pos ⟨h1, h2⟩]
        simp [elemSz_ok hsz, addr_add, h3]
      · cases h
    · cases h
  · cases h

theorem aIndex_ok {P : Program} {env : List V} {n : Nat} {L : Hp} {t : TypeId} {x ix : Operand} {ans : List Ans} {out : Out} {o : Oper} (ho : o.op = .index t x ix)
    (h : aIndex P n t (ev env x) (ev env ix) ans = some out) (hC : out.C) : OutOK P o env n L out := by
  unfold aIndex at h
  split at h
  · rename_i ki z hix
    split at h
    · rename_i hty
      split at h
      · rename_i l hx
        rcases hq : idxOf z l.length ans with ⟨k, as, C⟩
        rw [hq] at h; dsimp only at h
        have hC' : C := by rw [lt_eq] at h; cases h; exact hC
        obtain ⟨h1, h2, h3⟩ := idxOf_ok hq hC'
        refine lt_ok h fun φ a w hop => ?_
        have g1 := hop x (by simp [ho, Op.operands])
        have g2 := hop ix (by simp [ho, Op.operands])
        rw [hx] at g1; rw [hix] at g2
        simp only [Vr, Sr] at g1 g2
        refine ⟨_, ?_, rfl⟩
        have hk : k < l.length := by omega
        have he : (⟨l.toArray⟩ : ByteArray)[k]? = some l[k] := by
          have hk' : k < (⟨l.toArray⟩ : ByteArray).size := hk
          rw [getElem?_pos _ k hk']; rfl
        simp only [execOp, ho, g1, g2, Instr.index, asIntOf, Sem.run_bind, Sem.run_pure, run_underlying hty, Result.andThen_ok, h3, if_pos h1, he]
        simp [hk]
      · cases h
    · cases h
  · cases h

theorem aField_ok {P : Program} {env : List V} {n : Nat} {L : Hp} {s : TypeId} {x : Operand} {f : Nat} {ans : List Ans} {out : Out} {o : Oper} (ho : o.op = .fieldAddr s x f)
    (h : aField P n s (ev env x) f ans = some out) : OutOK P o env n L out := by
  unfold aField at h
  split at h
  · rename_i i off hx
    split at h
    · rename_i d hd
      refine lt_ok h fun φ a w hop => ?_
      have g1 := hop x (by simp [ho, Op.operands])
      rw [hx] at g1
      obtain ⟨b, hb, hv⟩ := g1
      refine ⟨.pointer (some ⟨b.1, plus off d + b.2, none⟩), ?_, b, hb, rfl⟩
      simp only [execOp, ho, hv, Sem.run_bind, fieldOff_ok hd, Result.andThen_ok, Sem.run_pure, plus_eq, Nat.add_right_comm]
    · cases h
  · cases h

/-! ### load and store -/
def aLoad (P : Program) (n : Nat) (L : Hp) (t : TypeId) (x : V) (ans : List Ans) : Option Out :=
  match x with
  | .s (.ptr (some (i, o))) =>
    match lk L i, tyS P t with
    | some bl, some (ag, sz) =>
      match bl.sym with
      | false =>
        match ans with
        | .ldv v :: as => some ⟨⟨[i], v, [], n⟩, as, ldAt ag sz bl o = some v⟩
        | ans => match ldAt ag sz bl o with | some v => frcV v fun v => some ⟨⟨[i], v, [], n⟩, ans, True⟩ | none => none
      | true => match ans with | .val v :: as => some ⟨⟨[i], v, [], n⟩, as, ldAt ag sz bl o = some v⟩ | _ => none
    | _, _ => none
  | _ => none

theorem aLoad_ok {P : Program} {env : List V} {n : Nat} {L : Hp} {t : TypeId} {x : Operand} {ans : List Ans} {out : Out} {o : Oper} (ho : o.op = .load t x)
    (h : aLoad P n L t (ev env x) ans = some out) (hC : out.C) : OutOK P o env n L out := by
  have key : ∀ (i off : Nat) (bl : Bl) (ag : Bool) (sz : Nat) (v : V), ev env x = .s (.ptr (some (i, off))) → lk L i = some bl → tyS P t = some (ag, sz) → ldAt ag sz bl off = some v → OpL P o env n (res [i] L) v n (res [i] L) := by
    intro i off bl ag sz v hx hl ht hld
    refine OpL.light fun φ a w hop hg => ?_
    have g1 := hop x (by simp [ho, Op.operands])
    rw [hx] at g1
    obtain ⟨b, hb, hv⟩ := g1
    obtain ⟨b', hb', hat⟩ := hg.hr i bl (by rw [lk_res]; simp [hl])
    rw [hb] at hb'; cases hb'
    obtain ⟨y, hy, hr⟩ := run_loadVar hat ht hld
    exact ⟨y, by simp only [execOp, ho, hv, Instr.loadAt, Instr.sureAddr, Sem.run_bind, Sem.run_pure, Result.andThen_ok, hy], hr⟩
  unfold aLoad at h
  split at h
  · rename_i i off hx
    split at h
    · rename_i bl ag sz hl ht
      split at h
      · split at h
        · rename_i v as
          cases h
          exact ⟨key i off bl ag sz v hx hl ht hC, Nat.le_refl _⟩
        · split at h
          · rename_i v hld
            rw [frcV_eq] at h
            cases h
            exact ⟨key i off bl ag sz v hx hl ht hld, Nat.le_refl _⟩
          · cases h
      · split at h
        · rename_i v as
          cases h
          exact ⟨key i off bl ag sz v hx hl ht hC, Nat.le_refl _⟩
        · cases h
    · cases h
  · cases h

def aStore (P : Program) (n : Nat) (L : Hp) (t : TypeId) (x v : V) (ans : List Ans) : Option Out :=
  match x with
  | .s (.ptr (some (i, o))) =>
    match lk L i, elemSz P t, cellsOf v with
    | some bl, some sz, some l =>
      match Nat.beq l.length sz && !bl.ro && fitsIn bl l && bl.kind.isNone with
      | true =>
        match bl.sym with
        | false =>
         match ans with
         | .stc cs :: as => some ⟨⟨[i], .undef, [(i, some { bl with cells := cs })], n⟩, as, o + l.length ≤ bl.cells.length ∧ cs = setL bl.cells o l⟩
         | ans => match Nat.ble (o + l.length) bl.cells.length with | true => frc (setL bl.cells o l) [] fun cs => some ⟨⟨[i], .undef, [(i, some { bl with cells := cs })], n⟩, ans, True⟩ | false => none
        | true => match ans with | .cells cs :: as => some ⟨⟨[i], .undef, [(i, some { bl with cells := cs })], n⟩, as, o + l.length ≤ bl.cells.length ∧ cs = setL bl.cells o l⟩ | _ => none
      | false => none
    | _, _, _ => none
  | _ => none

theorem aStore_ok {P : Program} {env : List V} {n : Nat} {L : Hp} {t : TypeId} {x y : Operand} {ans : List Ans} {out : Out} {o : Oper} (ho : o.op = .store t x y)
    (h : aStore P n L t (ev env x) (ev env y) ans = some out) (hC : out.C) : OutOK P o env n L out := by
  have key : ∀ (i off : Nat) (bl : Bl) (sz : Nat) (l cs : List S), ev env x = .s (.ptr (some (i, off))) → lk L i = some bl → elemSz P t = some sz → cellsOf (ev env y) = some l →
      (Nat.beq l.length sz && !bl.ro && fitsIn bl l && bl.kind.isNone) = true → off + l.length ≤ bl.cells.length → cs = setL bl.cells off l →
      OpL P o env n (res [i] L) .undef n (puts (res [i] L) [(i, some { bl with cells := cs })]) := by
    intro i off bl sz l cs hx hl ht hcl hchk hle hcs φ a w Q hop hg hf
    simp only [Bool.and_eq_true, Bool.not_eq_true'] at hchk
    obtain ⟨⟨⟨hsz, hro⟩, hfit⟩, hkd⟩ := hchk
    have hkd : bl.kind = none := by simpa using hkd
    have hsz := Nat.eq_of_beq_eq_true hsz
    have g1 := hop x (by simp [ho, Op.operands])
    have g2 := hop y (by simp [ho, Op.operands])
    rw [hx] at g1
    obtain ⟨b, hb, hv⟩ := g1
    have hall := cellsOf_r hcl g2
    have e1 : res [i] L = [(i, some bl)] := by simp [res, hl]
    have e2 : puts (res [i] L) [(i, some { bl with cells := cs })] = [(i, some { bl with cells := cs })] := by rw [e1]; simp [puts, put]
    rw [e2]; rw [e1] at hg ⊢
    obtain ⟨b', hb', pre, xs, rest, fr, k1, hp, k2, k3, k4, k5⟩ := hg.hr i bl (by simp [lk])
    rw [hkd] at k1; simp only [objOf] at k1
    rw [hb] at hb'; cases hb'
    have hvl := hall.len
    obtain ⟨w', hr, q1, q2, q3, q4, q5, q6⟩ := run_storeCells (P := P) (b := b.1) (o := off + b.2) (a.eval y).cells.toList 0 w (pre ++ (xs ++ rest)) k1
      (fun z hz => by
        obtain ⟨j, hj, hz⟩ := List.getElem_of_mem hz
        obtain ⟨s, hsm, hs⟩ := hall.get' (i := j) (b := z) (by rw [← hz]; simp [hj])
        exact hs.cell (fitsIn_nj hfit hsm))
      (by have := k2.len; simp only [List.length_append]; omega) (k4 hro)
    have hrun : (execOp a.eval o).run P w = .ok .skip w' := by
      have hs := elemSz_ok ht w
      have : ¬ ((a.eval y).cells.size ≠ sz) := by rw [← Array.length_toList]; omega
      simp only [execOp, ho, hv, Instr.storeAt, Instr.sureAddr, storeVar, Sem.run_bind, Sem.run_pure, Result.andThen_ok, hs, if_neg this, hr]
    unfold Oper.wp
    rw [hrun, Oper.upon_skip]
    obtain ⟨good, stp⟩ := store_good (w' := w') (cs' := cs) hkd hg hb hro hfit hall hle hcs ⟨pre, xs, rest, fr, k1, hp, k2, k3, k4 hro, k5, by simpa using q5⟩ q1 q2 q3 q4 q6
    exact ⟨φ, Go.undef, rfl, rfl, good, stp, fun _ _ => rfl⟩
  unfold aStore at h
  split at h
  · rename_i i off hx
    split at h
    · rename_i bl sz l hl ht hcl
      split at h
      · rename_i hchk
        split at h
        · split at h
          · rename_i cs as
            cases h
            exact ⟨key i off bl sz l cs hx hl ht hcl hchk hC.1 hC.2, Nat.le_refl _⟩
          · split at h
            · rename_i hle
              rw [frc_eq] at h
              cases h
              exact ⟨key i off bl sz l _ hx hl ht hcl hchk (Nat.le_of_ble_eq_true hle) rfl, Nat.le_refl _⟩
            · cases h
        · split at h
          · rename_i cs as
            cases h
            exact ⟨key i off bl sz l cs hx hl ht hcl hchk hC.1 hC.2, Nat.le_refl _⟩
          · cases h
      · cases h
    · cases h
  · cases h

/-! ### new variables -/
theorem aNew_ok {P : Program} {o : Oper} {env : List V} {n : Nat} {L : Hp} {ty : TypeId} {l : List S} {ans : List Ans}
    (h : ∀ φ (a : Act) (w : World), (∀ x ∈ o.op.operands, Vr φ (ev env x) (a.eval x)) → ∃ xs : List Value, (execOp a.eval o).run P w = .ok (.value (.pointer (some ⟨w.heap.size, 0, none⟩))) { w with heap := w.heap.push (.cells xs.toArray ty) } ∧ All2 (Sr φ) l xs) :
    OutOK P o env n L (aNew n ty l ans) := by
  refine ⟨?_, Nat.le_succ _⟩
  have e : puts (res (aNew n ty l ans).r.foot L) (aNew n ty l ans).r.wr = put [] n (some { cells := l, ty }) := by simp [aNew, res, puts]
  rw [e]
  refine OpL.fresh (L := []) (by simp [lk]) fun φ a w hop _ => ?_
  obtain ⟨xs, hr, hall⟩ := h φ a w hop
  exact ⟨_, _, hr, rfl, rfl, rfl, ⟨_, rfl⟩, blAt_new rfl hall, fun φ' hn _ => ⟨_, hn, rfl⟩⟩

def aAlloc (P : Program) (n : Nat) (t : TypeId) (ans : List Ans) : Option Out := match zeroOf P t with | some l => frc l [] fun l => some (aNew n t l ans) | none => none
theorem aAlloc_ok {P : Program} {env : List V} {n : Nat} {L : Hp} {t : TypeId} {ans : List Ans} {out : Out} {o : Oper} (ho : o.op = .alloc t) (h : aAlloc P n t ans = some out) : OutOK P o env n L out := by
  unfold aAlloc at h
  split at h
  · rename_i l hz
    rw [frc_eq] at h; cases h
    refine aNew_ok fun φ a w hop => ?_
    obtain ⟨z, hr, hall⟩ := zeroOf_r hz w
    exact ⟨z.cells.toList, by simp [execOp, ho, Instr.alloc, hr, newVar, newRow], hall φ⟩
  · cases h
def aBox (n : Nat) (t : TypeId) (v : V) (ans : List Ans) : Option Out := match cellsOf v with | some l => frc l [] fun l => some (aNew n t l ans) | none => none
theorem aBox_ok {P : Program} {env : List V} {n : Nat} {L : Hp} {t : TypeId} {x : Operand} {ans : List Ans} {out : Out} {o : Oper} (ho : o.op = .box t x) (h : aBox n t (ev env x) ans = some out) : OutOK P o env n L out := by
  unfold aBox at h
  split at h
  · rename_i l hz
    rw [frc_eq] at h; cases h
    refine aNew_ok fun φ a w hop => ?_
    exact ⟨(a.eval x).cells.toList, by simp [execOp, ho, Instr.box, newVar, newRow], cellsOf_r hz (hop x (by simp [ho, Op.operands]))⟩
  · cases h

end Ab
end Go.Proofs.YtbokilgdefkmiaaGreatDoor
