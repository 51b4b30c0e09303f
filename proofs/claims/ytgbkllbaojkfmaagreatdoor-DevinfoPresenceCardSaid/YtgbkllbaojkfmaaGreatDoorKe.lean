/-
  The quick machine, part 5: make, append, copy, bytes; all operations.
-/
import Derived.Test.YtgbkllbaojkfmaaGreatDoorKd
set_option linter.unusedSimpArgs false
set_option linter.unusedVariables false
namespace Go.Proofs.YtgbkllbaojkfmaaGreatDoor
namespace Ab
open Go
set_option maxRecDepth 100000

def kMake (P : Program) (n : Nat) (t : TypeId) (l c : V) : Option R :=
  match P.underlying t, l, c with
  | some (.slice e), .s (.int _ zl), .s (.int _ zc) =>
    match P.info? e, zeroOf P e with
    | some inf, some zs =>
      match natOf zl, natOf zc with
      | some kl, some kc =>
        match Nat.beq inf.size zs.length && Nat.ble kl kc && Nat.ble (inf.bytes * kc) 281474976710656 && Nat.ble kc 281474976710656 with
        | true => frc (rep kc zs) [] fun cs => some ⟨[], .s (.slc (some (n, 0)) kl (some kc)), [(n, some { cells := cs, ty := e })], n + 1⟩
        | false => none
      | _, _ => none
    | _, _ => none
  | _, _, _ => none
theorem kMake_ok {P : Program} {env : List V} {n : Nat} {L : Hp} {t : TypeId} {x y : Operand} {r : R} {o : Oper} (ho : o.op = .makeSlice t x y) (h : kMake P n t (ev env x) (ev env y) = some r) : OutR P o env n L r := by
  unfold kMake at h
  split at h
  · rename_i e k1 zl k2 zc hty hx hy
    split at h
    · rename_i inf zs hi hz
      split at h
      · rename_i kl kc h1 h2
        have h1 := natOf_eq h1; have h2 := natOf_eq h2
        subst h1; subst h2
        split at h
        · rename_i hc
          rw [frc_eq] at h
          cases h
          simp only [Bool.and_eq_true] at hc
          obtain ⟨⟨⟨c1, c2⟩, c3⟩, c4⟩ := hc
          refine OutR.of (ans := [.mk kl, .mk kc]) (as := []) (C := (kl : Int) = (kl : Int) ∧ (kc : Int) = (kc : Int) ∧ kl ≤ kc ∧ inf.bytes * kc ≤ 281474976710656 ∧ kc ≤ 281474976710656) ?_ ⟨rfl, rfl, Nat.le_of_ble_eq_true c2, Nat.le_of_ble_eq_true c3, Nat.le_of_ble_eq_true c4⟩
          simp only [aop, ho, aMake, hx, hy, hty, hi, hz, c1, frc_eq]
        · cases h
      · cases h
    · cases h
  · cases h

/-! ### append -/
def ckBase (v : V) (bl : Bl) (len sz : Nat) : Bool :=
  match v with
  | .s (.slc none _ _) => true
  | .s (.sla _ _ _) => Nat.ble (len * sz) bl.cells.length
  | .s (.slc (some _) _ (some cap)) => Nat.beq bl.cells.length (cap * sz)
  | _ => false
theorem ckBase_ok {P : Program} {L : Hp} {e : TypeId} {sz : Nat} {v : V} {bi : Option Nat} {len : Nat} {bl : Bl} {C : Prop} {fl : Bool} (h : baseOf P L e sz fl v = some (bi, len, bl, C)) (hk : ckBase v bl len sz = true) : C := by
  unfold baseOf at h
  split at h
  · split at h
    · cases h; trivial
    · cases h
  · split at h
    · split at h
      · split at h
        · cases h; exact Nat.le_of_ble_eq_true hk
        · cases h
      · cases h
    · cases h
  · split at h
    · split at h
      · cases h; exact Nat.eq_of_beq_eq_true hk
      · cases h
    · cases h
  · cases h
def ckSrc (L : Hp) (size k : Nat) (x : V) : Bool :=
  match x with
  | .s (.str _) => true
  | .s (.slc none _ _) => Nat.beq k 0
  | .s .emp => Nat.beq k 0
  | .s (.slc (some (j, p)) _ _) => match lk L j with | some bl => Nat.ble (p + k * size) bl.cells.length && bl.kind.isNone | none => false
  | _ => false
theorem ckSrc_ok {L : Hp} {size k : Nat} {x : V} {foot : List Nat} {m : Nat} {xs : List S} {D : Prop} (h : srcOf L size k x = some (foot, m, xs, D)) (hk : ckSrc L size k x = true) : D := by
  unfold srcOf at h
  split at h
  · split at h
    · cases h; trivial
    · cases h
  · cases h; exact Nat.eq_of_beq_eq_true hk
  · cases h; exact Nat.eq_of_beq_eq_true hk
  · split at h
    · rename_i bl hl
      cases h
      simp only [ckSrc, hl, Bool.and_eq_true] at hk
      exact ⟨Nat.le_of_ble_eq_true hk.1, by simpa using hk.2⟩
    · cases h
  · cases h

def ckApp (P : Program) (ts : Array TypeId) (L : Hp) (d x : V) : Bool :=
  match ts[0]? with
  | some t =>
    match P.underlying t with
    | some (.slice e) =>
      match P.info? e with
      | some inf =>
        match baseOf P L e inf.size false d, lenV x with
        | some (bi, len, bl, _), some m0 =>
          match srcOf L inf.size m0 x with
          | some (foot, m, xs, _) =>
            ckBase d bl len inf.size && ckSrc L inf.size m0 x && Nat.beq m0 m && fitsIn bl xs && (match bi with | none => Nat.ble 1 m | some _ => true) && Nat.ble ((len + m) * inf.bytes) 140737488355328 && Nat.ble (len + m) 140737488355328
          | none => false
        | _, _ => false
      | none => false
    | _ => false
  | none => false
def kApp (P : Program) (ts : Array TypeId) (n : Nat) (L : Hp) (d x : V) : Option R :=
  match ckApp P ts L d x with
  | true => match aAppend P ts n L false d x [] with | some out => some out.r | none => none
  | false => none

theorem ckApp_ok {P : Program} {ts : Array TypeId} {n : Nat} {L : Hp} {d x : V} {out : Out} (h : aAppend P ts n L false d x [] = some out) (hk : ckApp P ts L d x = true) : out.C := by
  unfold aAppend at h
  split at h
  · rename_i t tx ht0 ht1
    split at h
    · rename_i e dx ht htx
      split at h
      · rename_i inf zs hni hi hz
        split at h
        · rename_i bi len bl C hsz hb
          split at h
          · rename_i m0 hm0
            split at h
            · rename_i foot m xs D hs
              simp only [ckApp, ht0, ht, hi, hb, hm0, hs, Bool.and_eq_true] at hk
              obtain ⟨⟨⟨⟨⟨⟨k1, k2⟩, k3⟩, k4⟩, k5⟩, k6⟩, k7⟩ := hk
              simp only [frc_eq] at h
              cases h
              refine ⟨ckBase_ok hb k1, ckSrc_ok hs k2, Nat.eq_of_beq_eq_true k3, k4, ?_, Nat.le_of_ble_eq_true k6, Nat.le_of_ble_eq_true k7⟩
              rintro rfl
              exact Nat.le_of_ble_eq_true k5
            · cases h
          · cases h
        · cases h
      · cases h
    · cases h
  · cases h

def kApp0 (P : Program) (ts : Array TypeId) (n : Nat) (L : Hp) (d x : V) : Option R :=
  match aApp0 P ts n L d x [], lenV x with
  | some out, some 0 => match (match ts[0]? with | some t => (match P.underlying t with | some (.slice e) => (match elemSz P e with | some sz => ckSrc L sz 0 x | none => false) | _ => false) | none => false) with | true => some out.r | false => none
  | _, _ => none
theorem lenV_src {L : Hp} {size k : Nat} {x : V} {foot : List Nat} {m m' : Nat} {xs : List S} {D : Prop} (h : srcOf L size k x = some (foot, m, xs, D)) (hk : lenV x = some m') (hc : ckSrc L size k x = true) (h0 : m' = 0) : m = 0 := by
  subst h0
  unfold srcOf at h
  split at h
  · split at h
    · cases h; simpa [lenV] using hk
    · cases h
  · cases h; rfl
  · cases h; rfl
  · split at h
    · cases h; simpa [lenV] using hk
    · cases h
  · cases h
theorem kApp0_ok {P : Program} {ts : Array TypeId} {n : Nat} {L : Hp} {d x : V} {r : R} (h : kApp0 P ts n L d x = some r) : ∃ as C, aApp0 P ts n L d x [] = some ⟨r, as, C⟩ ∧ C := by
  unfold kApp0 at h
  split at h
  · rename_i out hout hlen
    split at h
    · rename_i hc
      cases h
      refine ⟨out.ans, out.C, hout, ?_⟩
      unfold aApp0 at hout
      split at hout
      · rename_i t tx ht0 ht1
        split at hout
        · rename_i e dx ht htx
          split at hout
          · rename_i sz _ _ hni hsz
            split at hout
            · rename_i foot m xs D hs
              cases hout
              simp only [ht0, ht, hsz] at hc
              exact ⟨ckSrc_ok hs hc, lenV_src hs hlen hc rfl⟩
            · cases hout
          · cases hout
        · cases hout
      · cases hout
    · cases h
  · cases h

/-! ### copy -/
def kCopy (P : Program) (ts : Array TypeId) (n : Nat) (L : Hp) (d x : V) : Option R :=
  match ts[0]?, lenV x with
  | some t, some m0 =>
    match P.underlying t, d with
    | some (.slice e), .s (.slc (some (i, o)) dl _) =>
      match elemSz P e, lk L i with
      | some sz, some bl =>
        match srcOf L sz (min m0 dl) x with
        | some (foot, m, xs, C) =>
          match notB bl.ro && bl.kind.isNone && ckSrc L sz (min m0 dl) x && Nat.beq m m0 && Nat.ble (o + min m0 dl * sz) bl.cells.length && fitsIn bl xs with
          | true => frc (setL bl.cells o xs) [] fun cs => some ⟨i :: foot, .s (.int .i64 (Int.ofNat (min m0 dl))), [(i, some { bl with cells := cs })], n⟩
          | false => none
        | none => none
      | _, _ => none
    | _, _ => none
  | _, _ => none
theorem kCopy_ok {P : Program} {ts : Array TypeId} {n : Nat} {L : Hp} {d x : V} {r : R} (h : kCopy P ts n L d x = some r) : ∃ ans as C, aCopy P ts n L d x ans = some ⟨r, as, C⟩ ∧ C := by
  unfold kCopy at h
  split at h
  · rename_i t m0 ht hm0
    split at h
    · rename_i e i o dl cap hty
      split at h
      · rename_i sz bl hsz hl
        split at h
        · rename_i foot m xs C hs
          split at h
          · rename_i hc
            rw [frc_eq] at h
            cases h
            simp only [Bool.and_eq_true, notB_eq] at hc
            obtain ⟨⟨⟨⟨⟨c1, c2⟩, c3⟩, c4⟩, c5⟩, c6⟩ := hc
            have c4 := Nat.eq_of_beq_eq_true c4
            have hck : (!bl.ro && bl.kind.isNone) = true := by simp only [Bool.and_eq_true]; exact ⟨c1, c2⟩
            refine ⟨[.idx (min m0 dl), .cells (setL bl.cells o xs)], [], (C ∧ min m0 dl = min m dl ∧ o + min m0 dl * sz ≤ bl.cells.length ∧ setL bl.cells o xs = setL bl.cells o xs ∧ fitsIn bl xs = true), ?_, ckSrc_ok hs c3, by rw [c4], Nat.le_of_ble_eq_true c5, rfl, c6⟩
            simp only [aCopy, ht, hty, hsz, hl, hs, hck]; rfl
          · cases h
        · cases h
      · cases h
    · cases h
  · cases h

/-! ### bytes -/
def unB : List S → Option (List UInt8)
  | [] => some []
  | .int .u8 z :: t => match natOf z, unB t with | some k, some l => (match Nat.blt k 256 with | true => some (UInt8.ofNat k :: l) | false => none) | _, _ => none
  | _ => none
theorem unB_ok : ∀ {cs : List S} {l : List UInt8}, unB cs = some l → cs = byteS l
  | [], l, h => by simp [unB] at h; subst h; rfl
  | x :: t, l, h => by
    cases x with
    | int k z =>
      cases k <;> simp only [unB, reduceCtorEq] at h
      split at h
      · rename_i k l' h1 h2
        split at h
        · rename_i hlt
          cases h
          have hz := natOf_eq h1
          have := unB_ok h2
          have hlt := blt_iff.1 hlt
          subst hz
          rw [this]
          simp only [byteS, List.map_cons, UInt8.toNat_ofNat']
          rw [Nat.mod_eq_of_lt (by simpa using hlt)]
        · cases h
      · cases h
    | _ => simp [unB] at h
def kToStr (P : Program) (n : Nat) (L : Hp) (src dst : TypeId) (x : V) : Option R :=
  match P.underlying src, P.underlying dst, x with
  | some (.slice e), some .string, .s (.slc (some (i, o)) len _) =>
    match P.underlying e, lk L i with
    | some (.int .u8), some bl =>
      match unB ((bl.cells.drop o).take len), bl.kind with
      | some l, none => match Nat.beq len l.length with | true => some ⟨[i], .s (.str l), [], n⟩ | false => none
      | _, _ => none
    | _, _ => none
  | some (.slice e), some .string, .s (.slc none _ _) => match P.underlying e with | some (.int .u8) => some ⟨[], .s (.str []), [], n⟩ | _ => none
  | _, _, _ => none
theorem kToStr_ok {P : Program} {n : Nat} {L : Hp} {src dst : TypeId} {x : V} {r : R} (h : kToStr P n L src dst x = some r) : ∃ ans as C, aToStr P n L src dst x ans = some ⟨r, as, C⟩ ∧ C := by
  unfold kToStr at h
  split at h
  · rename_i e i o len c hs hd
    split at h
    · rename_i bl he hl
      split at h
      · rename_i l hu hkd
        split at h
        · rename_i hlen
          cases h
          exact ⟨[.val (.s (.str l))], [], ((bl.cells.drop o).take len = byteS l ∧ len = l.length ∧ bl.kind = none), by simp only [aToStr, hs, hd, he, hl], unB_ok hu, Nat.eq_of_beq_eq_true hlen, hkd⟩
        · cases h
      · cases h
    · cases h
  · rename_i e len c hs hd
    split at h
    · rename_i he
      cases h
      exact ⟨[], [], True, by simp only [aToStr, hs, hd, he], trivial⟩
    · cases h
  · cases h

/-! ### capacity -/
def kCap (P : Program) (t : TypeId) (x : V) : Option S :=
  match P.underlying t, x with
  | some (.slice _), .s (.slc none _ _) => some (.int .i64 0)
  | some (.slice _), .s (.slc (some _) _ (some c)) => some (.int .i64 (Int.ofNat c))
  | _, _ => none

/-! ### all operations -/
def lgt (n : Nat) (s : Option S) : Option R := match s with | some s => some ⟨[], .s s, [], n⟩ | none => none
def outR (o : Option Out) : Option R := match o with | some o => some o.r | none => none

def kBuiltin (P : Program) (b : Builtin) (ts : Array TypeId) (n : Nat) (L : Hp) (args : List V) : Option R :=
  match b, args with
  | .len, [x] => match ts[0]? with | some t => lgt n (aLen P t x) | none => none
  | .cap, [x] => match ts[0]? with | some t => lgt n (kCap P t x) | none => none
  | .min, [x, y] => match aMinMax false x y [] with | some (s, _, _) => some ⟨[], .s s, [], n⟩ | none => none
  | .max, [x, y] => match aMinMax true x y [] with | some (s, _, _) => some ⟨[], .s s, [], n⟩ | none => none
  | .copy, [x, y] => kCopy P ts n L (wkV x) (wkV y)
  | .append, [x, y] => match kApp P ts n L x (wkV y) with | some r => some r | none => kApp0 P ts n L x (wkV y)
  | _, _ => none

def kop (P : Program) (o : Oper) (g : Operand → V) (n : Nat) (L : Hp) : Option R :=
  match o.op with
  | .move x => some ⟨[], g x, [], n⟩
  | .assign x => some ⟨[], g x, [], n⟩
  | .pick c a b => match g c with | .s (.bool t) => (match t with | true => some ⟨[], g a, [], n⟩ | false => some ⟨[], g b, [], n⟩) | _ => none
  | .binOp op t x y _ => lgt n (kBin P op t (wkV (g x)) (wkV (g y)))
  | .unOp op _ x => lgt n (kUn op (g x))
  | .convert src dst x =>
    match P.underlying src, P.underlying dst with
    | some (.slice _), some .string => kToStr P n L src dst (wkV (g x))
    | some .string, some (.slice _) => outR (aToBytes P n src dst (g x) [])
    | _, _ => lgt n (kConv P src dst (g x))
  | .makeSlice t l c => kMake P n t (g l) (g c)
  | .slice t x lo hi mx => lgt n (kSlice P n t (g x) (lo.map g) (hi.map g) (mx.map g))
  | .build t parts => outR (aBuild P n t (parts.toList.map fun (i, x) => (i, g x)) [])
  | .buildSlice t len parts => outR (aBuildSlice P n t len (parts.toList.map fun (i, x) => (i, g x)) [])
  | .field t x f => outR (aFieldV P n t (g x) f [])
  | .extract x i => match aExt (g x) i with | some v => some ⟨[], v, [], n⟩ | none => none
  | .load t a => kLoad P n L t (g a)
  | .store t a x => kStore P n L t (g a) (g x)
  | .alloc t => outR (aAlloc P n t [])
  | .box t x => outR (aBox n t (g x) [])
  | .fieldAddr s x f => outR (aField P n s (g x) f [])
  | .indexAddr t x ix => lgt n (kIdx P t (g x) (g ix))
  | .index t x ix => lgt n (kIndex P t (g x) (g ix))
  | .nilCheck x => outR (aNil n (g x) [])
  | .call c => match c.callee with | .builtin b => kBuiltin P b c.argTypes n L (c.args.toList.map g) | _ => none
  | _ => none

theorem lgt_some {n : Nat} {s : Option S} {r : R} (h : lgt n s = some r) : ∃ x, s = some x ∧ r = ⟨[], .s x, [], n⟩ := by
  cases s with
  | none => simp [lgt] at h
  | some x => simp [lgt] at h; exact ⟨x, rfl, h.symm⟩
theorem outR_some {o : Option Out} {r : R} (h : outR o = some r) : ∃ out, o = some out ∧ r = out.r := by
  cases o with
  | none => simp [outR] at h
  | some x => simp [outR] at h; exact ⟨x, rfl, h.symm⟩

theorem kBuiltin_ok {P : Program} {env : List V} {n : Nat} {L : Hp} {o : Oper} {c : Call} {b : Builtin} {r : R} (ho : o.op = .call c) (hc : c.callee = .builtin b) (h : kBuiltin P b c.argTypes n L (c.args.toList.map (ev env)) = some r) : OutR P o env n L r := by
  have go : ∀ (ans as : List Ans) (C : Prop), aBuiltin P b c.argTypes n L (c.args.toList.map (ev env)) ans = some ⟨r, as, C⟩ → C → OutR P o env n L r := by
    intro ans as C h1 h2
    refine OutR.of (ans := ans) (as := as) (C := C) ?_ h2
    simp only [aop, ho, hc]; exact h1
  unfold kBuiltin at h
  split at h
  · rename_i x hargs
    split at h
    · rename_i t ht
      obtain ⟨s, hs, rfl⟩ := lgt_some h
      exact go [] [] True (by simp only [aBuiltin, hargs, ht, hs, ofSO]) trivial
    · cases h
  · rename_i x hargs
    split at h
    · rename_i t ht
      obtain ⟨s, hs, rfl⟩ := lgt_some h
      have hl : ∃ d, c.args.toList = [d] ∧ ev env d = x := by
        cases hl : c.args.toList with
        | nil => rw [hl] at hargs; simp at hargs
        | cons d r => rw [hl] at hargs; cases r with
          | nil => simp at hargs; exact ⟨d, rfl, hargs⟩
          | cons _ _ => simp at hargs
      obtain ⟨d, hl, hd⟩ := hl
      have ea : ∀ a : Act, c.args.map a.eval = #[a.eval d] := fun a => by apply Array.ext'; simp [hl]
      have opd : d ∈ o.op.operands := by rw [ho]; simp only [Op.operands, Call.operands, hc]; simp [← Array.mem_toList_iff, hl]
      refine ⟨OpL.light fun φ a w hop _ => ?_, Nat.le_refl _⟩
      have g := hop d opd
      unfold kCap at hs
      split at hs
      · rename_i e len cap hty
        rw [hd] at g
        obtain ⟨_, _, hv⟩ := g
        cases hs
        refine ⟨.int .i64 0, ?_, rfl⟩
        simp [execOp, ho, resolve, hc, invoke, builtin, ea, hv, Builtin.cap_, ht, Ab.run_underlying hty, goInt]
      · rename_i e pt len cap hty
        rw [hd] at g
        obtain ⟨i, off⟩ := pt
        obtain ⟨b, k, _, hv, _, hcap⟩ := g
        have : cap = k := by rcases hcap with h | h <;> cases h; rfl
        subst this
        cases hs
        refine ⟨.int .i64 (Int.ofNat cap), ?_, rfl⟩
        simp [execOp, ho, resolve, hc, invoke, builtin, ea, hv, Builtin.cap_, ht, Ab.run_underlying hty, goInt]
      · cases hs
    · cases h
  · rename_i x y hargs
    split at h
    · rename_i s as C hs
      cases h
      refine go [] as C (by simp only [aBuiltin, hargs, hs, ofSO]) ?_
      unfold aMinMax at hs
      split at hs
      · simp only [outI_eq, finE, Option.some.injEq, Prod.mk.injEq] at hs
        obtain ⟨_, _, rfl⟩ := hs
        exact ⟨trivial, trivial⟩
      · cases hs
    · cases h
  · rename_i x y hargs
    split at h
    · rename_i s as C hs
      cases h
      refine go [] as C (by simp only [aBuiltin, hargs, hs, ofSO]) ?_
      unfold aMinMax at hs
      split at hs
      · simp only [outI_eq, finE, Option.some.injEq, Prod.mk.injEq] at hs
        obtain ⟨_, _, rfl⟩ := hs
        exact ⟨trivial, trivial⟩
      · cases hs
    · cases h
  · rename_i x y hargs
    obtain ⟨ans, as, C, h1, h2⟩ := kCopy_ok h
    exact go ans as C (by simp only [aBuiltin, hargs]; exact h1) h2
  · rename_i x y hargs
    split at h
    · rename_i r' hr
      cases h
      unfold kApp at hr
      split at hr
      · rename_i hck
        split at hr
        · rename_i out hout
          cases hr
          refine go [.eager] out.ans out.C ?_ (ckApp_ok hout hck)
          simp only [aBuiltin, hargs]; exact hout
        · cases hr
      · cases hr
    · obtain ⟨as, C, h1, h2⟩ := kApp0_ok h
      exact go [.keep] as C (by simp only [aBuiltin, hargs]; exact h1) h2
  · cases h

theorem aBuild_C {P : Program} {n : Nat} {t : TypeId} {parts : List (Nat × V)} {out : Out} (h : aBuild P n t parts [] = some out) : out.C := by
  unfold aBuild at h
  repeat' split at h
  all_goals first | (cases h; done) | (rw [lt_eq] at h; cases h; trivial)
theorem aBuildSlice_C {P : Program} {n : Nat} {t : TypeId} {len : Nat} {parts : List (Nat × V)} {out : Out} (h : aBuildSlice P n t len parts [] = some out) : out.C := by
  unfold aBuildSlice at h
  repeat' split at h
  all_goals first | (cases h; done) | (rw [frc_eq] at h; cases h; trivial)
theorem aFieldV_C {P : Program} {n : Nat} {t : TypeId} {x : V} {f : Nat} {out : Out} (h : aFieldV P n t x f [] = some out) : out.C := by
  unfold aFieldV at h
  repeat' split at h
  all_goals first | (cases h; done) | (rw [lt_eq] at h; cases h; trivial)
theorem aAlloc_C {P : Program} {n : Nat} {t : TypeId} {out : Out} (h : aAlloc P n t [] = some out) : out.C := by
  unfold aAlloc at h
  split at h
  · rw [frc_eq] at h; cases h; trivial
  · cases h
theorem aBox_C {n : Nat} {t : TypeId} {x : V} {out : Out} (h : aBox n t x [] = some out) : out.C := by
  unfold aBox at h
  split at h
  · rw [frc_eq] at h; cases h; trivial
  · cases h
theorem aField_C {P : Program} {n : Nat} {t : TypeId} {x : V} {f : Nat} {out : Out} (h : aField P n t x f [] = some out) : out.C := by
  unfold aField at h
  repeat' split at h
  all_goals first | (cases h; done) | (rw [lt_eq] at h; cases h; trivial)
theorem aNil_C {n : Nat} {x : V} {out : Out} (h : aNil n x [] = some out) : out.C := by
  unfold aNil at h
  repeat' split at h
  all_goals first | (cases h; done) | (rw [lt_eq] at h; cases h; trivial)
theorem aToBytes_C {P : Program} {n : Nat} {src dst : TypeId} {x : V} {out : Out} (h : aToBytes P n src dst x [] = some out) : out.C := by
  unfold aToBytes at h
  repeat' split at h
  all_goals first | (cases h; done) | (cases h; trivial)

theorem kop_ok {P : Program} {o : Oper} {env : List V} {n : Nat} {L : Hp} {r : R} (h : kop P o (ev env) n L = some r) : OutR P o env n L r := by
  unfold kop at h
  split at h
  · rename_i x ho; cases h; exact OutR.of (ans := []) (as := []) (C := True) (by simp only [aop, ho, lt_eq]) trivial
  · rename_i x ho; cases h; exact OutR.of (ans := []) (as := []) (C := True) (by simp only [aop, ho, lt_eq]) trivial
  · rename_i c a b ho
    split at h
    · rename_i t hc
      split at h
      · cases h; exact OutR.of (ans := []) (as := []) (C := True) (by simp only [aop, ho, hc, lt_eq]) trivial
      · cases h; exact OutR.of (ans := []) (as := []) (C := True) (by simp only [aop, ho, hc, lt_eq]) trivial
    · cases h
  · rename_i op t x y ty ho
    obtain ⟨s, hs, rfl⟩ := lgt_some h
    obtain ⟨ans, as, C, h1, h2⟩ := kBin_ok hs
    exact OutR.of (ans := ans) (as := as) (C := C) (by simp only [aop, ho, h1, ofSO]) h2
  · rename_i op t x ho
    obtain ⟨s, hs, rfl⟩ := lgt_some h
    obtain ⟨ans, as, C, h1, h2⟩ := kUn_ok hs
    exact OutR.of (ans := ans) (as := as) (C := C) (by simp only [aop, ho, h1, ofSO]) h2
  · rename_i src dst x ho
    split at h
    · rename_i e hs hd
      obtain ⟨ans, as, C, h1, h2⟩ := kToStr_ok h
      exact OutR.of (ans := ans) (as := as) (C := C) (by simp only [aop, ho, hs, hd, h1]) h2
    · rename_i e hs hd
      obtain ⟨out, h1, rfl⟩ := outR_some h
      exact OutR.of (ans := []) (as := out.ans) (C := out.C) (by simp only [aop, ho, hs, hd]; exact h1) (aToBytes_C h1)
    · rename_i n1 n2
      obtain ⟨s, hs, rfl⟩ := lgt_some h
      obtain ⟨ans, as, C, h1, h2⟩ := kConv_ok hs
      refine OutR.of (ans := ans) (as := as) (C := C) ?_ h2
      simp only [aop, ho, h1, ofSO]
  · rename_i t l c ho; exact kMake_ok ho h
  · rename_i t x lo hi mx ho
    obtain ⟨s, hs, rfl⟩ := lgt_some h
    exact kSlice_ok ho hs
  · rename_i t parts ho
    obtain ⟨out, h1, rfl⟩ := outR_some h
    exact OutR.of (ans := []) (as := out.ans) (C := out.C) (by simp only [aop, ho]; exact h1) (aBuild_C h1)
  · rename_i t len parts ho
    obtain ⟨out, h1, rfl⟩ := outR_some h
    exact OutR.of (ans := []) (as := out.ans) (C := out.C) (by simp only [aop, ho]; exact h1) (aBuildSlice_C h1)
  · rename_i t x f ho
    obtain ⟨out, h1, rfl⟩ := outR_some h
    exact OutR.of (ans := []) (as := out.ans) (C := out.C) (by simp only [aop, ho]; exact h1) (aFieldV_C h1)
  · rename_i x i ho
    split at h
    · rename_i v hv
      cases h; exact OutR.of (ans := []) (as := []) (C := True) (by simp only [aop, ho, hv, lt_eq]) trivial
    · cases h
  · rename_i t a ho; exact kLoad_ok ho h
  · rename_i t a x ho; exact kStore_ok ho h
  · rename_i t ho
    obtain ⟨out, h1, rfl⟩ := outR_some h
    exact OutR.of (ans := []) (as := out.ans) (C := out.C) (by simp only [aop, ho]; exact h1) (aAlloc_C h1)
  · rename_i t x ho
    obtain ⟨out, h1, rfl⟩ := outR_some h
    exact OutR.of (ans := []) (as := out.ans) (C := out.C) (by simp only [aop, ho]; exact h1) (aBox_C h1)
  · rename_i s x f ho
    obtain ⟨out, h1, rfl⟩ := outR_some h
    exact OutR.of (ans := []) (as := out.ans) (C := out.C) (by simp only [aop, ho]; exact h1) (aField_C h1)
  · rename_i t x ix ho
    obtain ⟨s, hs, rfl⟩ := lgt_some h
    exact kIdx_ok ho hs
  · rename_i t x ix ho
    obtain ⟨s, hs, rfl⟩ := lgt_some h
    exact kIndex_ok ho hs
  · rename_i x ho
    obtain ⟨out, h1, rfl⟩ := outR_some h
    exact OutR.of (ans := []) (as := out.ans) (C := out.C) (by simp only [aop, ho]; exact h1) (aNil_C h1)
  · rename_i c ho
    split at h
    · rename_i b hc; exact kBuiltin_ok ho hc h
    · cases h
  · cases h

end Ab
end Go.Proofs.YtgbkllbaojkfmaaGreatDoor
