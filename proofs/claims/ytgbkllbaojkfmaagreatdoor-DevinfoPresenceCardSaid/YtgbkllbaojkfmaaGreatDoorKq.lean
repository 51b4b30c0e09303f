/-
  The quick machine, part 12: the same machine, what the text alone decides being decided once.
-/
import Derived.Test.YtgbkllbaojkfmaaGreatDoorKn
set_option linter.unusedSimpArgs false
set_option linter.unusedVariables false
namespace Go.Proofs.YtgbkllbaojkfmaaGreatDoor
namespace Ab
open Go
set_option maxRecDepth 100000

inductive Pl where
  | call (x : Operand) (args : List Operand)
  | light (f : (Operand → V) → Option V)
  | mem (ft : List Operand) (f : (Operand → V) → Nat → Hp → Option R)
inductive IB where
  | no
  | f (g : IntKind → Int → Int → Option S)

def intB (op : BinOp) : IB :=
  match op with
  | .add => .f fun k a b => some (.int k (wrapF k (a + b)))
  | .sub => .f fun k a b => some (.int k (wrapF k (a - b)))
  | .eql => .f fun _ a b => some (.bool (eqI a b))
  | .neq => .f fun _ a b => some (.bool (notB (eqI a b)))
  | .lss => .f fun _ a b => some (.bool (ltI a b))
  | .leq => .f fun _ a b => some (.bool (notB (ltI b a)))
  | .gtr => .f fun _ a b => some (.bool (ltI b a))
  | .geq => .f fun _ a b => some (.bool (notB (ltI a b)))
  | _ => .no
def kNo : IntKind → Nat
  | .i8 => 0 | .i16 => 1 | .i32 => 2 | .i64 => 3 | .u8 => 4 | .u16 => 5 | .u32 => 6 | .u64 => 7
theorem kNo_eq (a b : IntKind) : Nat.beq (kNo a) (kNo b) = kEq a b := by cases a <;> cases b <;> rfl
def kBinI (op : BinOp) (k : IntKind) (a : Int) (k' : IntKind) (b : Int) : Option S :=
  match intB op with
  | .f g => match Nat.beq (kNo k) (kNo k') with | true => g k a b | false => none
  | .no => kInt op k a k' b
theorem kBinI_eq (op : BinOp) (k : IntKind) (a : Int) (k' : IntKind) (b : Int) : kBinI op k a k' b = kInt op k a k' b := by
  unfold kBinI
  cases op <;> first | rfl | (simp only [intB, kNo_eq, kInt, kIntE]; done) | (simp only [intB, kNo_eq, kInt, kIntE]; rfl)
def kBinQ (P : Program) (op : BinOp) (t : TypeId) (x y : V) : Option S :=
  match x with
  | .s a =>
    match a with
    | .int k z =>
      match y with
      | .s b => (match b with | .int k' z' => kBinI op k z k' z' | _ => kBin P op t (wkV x) (wkV y))
      | _ => kBin P op t (wkV x) (wkV y)
    | _ => kBin P op t (wkV x) (wkV y)
  | _ => kBin P op t (wkV x) (wkV y)
theorem kBinQ_eq (P : Program) (op : BinOp) (t : TypeId) (x y : V) : kBinQ P op t x y = kBin P op t (wkV x) (wkV y) := by
  unfold kBinQ
  split
  · split
    · split
      · split
        · rw [kBinI_eq]; rfl
        · rfl
      · rfl
    · rfl
  · rfl

def lgtV (s : Option S) : Option V := match s with | some s => some (.s s) | none => none
def outV (o : Option Out) : Option V := match o with | some o => some o.r.v | none => none
def asR (n : Nat) (v : Option V) : Option R := match v with | some v => some ⟨[], v, [], n⟩ | none => none
theorem lgt_asR (n : Nat) (s : Option S) : lgt n s = asR n (lgtV s) := by cases s <;> rfl

def isMapTy (P : Program) (t : TypeId) : Bool := match P.underlying t with | some (.map _ _) => true | _ => false
def plan (P : Program) (o : Oper) : Pl :=
  match o.op with
  | .move x => .light fun g => some (g x)
  | .assign x => .light fun g => some (g x)
  | .pick c a b => .light fun g => match g c with | .s (.bool t) => (match t with | true => some (g a) | false => some (g b)) | _ => none
  | .binOp op t x y _ => .light fun g => match kBinQ P op t (g x) (g y) with | some s => some (.s s) | none => lgtV (kOpqB op (g x) (g y))
  | .unOp op _ x => .light fun g => lgtV (kUn op (g x))
  | .slice t x lo hi mx => .light fun g => lgtV (kSlice P 0 t (g x) (lo.map g) (hi.map g) (mx.map g))
  | .build t parts => .light fun g => outV (aBuild P 0 t (parts.toList.map fun (i, x) => (i, g x)) [])
  | .field t x f => .light fun g => outV (aFieldV P 0 t (g x) f [])
  | .extract x i => .light fun g => aExt (g x) i
  | .fieldAddr s x f => .light fun g => outV (aField P 0 s (g x) f [])
  | .indexAddr t x ix => .light fun g => lgtV (kIdx P t (g x) (g ix))
  | .index t x ix => .light fun g => lgtV (kIndex P t (g x) (g ix))
  | .nilCheck x => .light fun g => outV (aNil 0 (g x) [])
  | .load t a => .mem [a] fun g n L => kLoad P n L t (g a)
  | .store t a x => .mem [a] fun g n L => kStore P n L t (g a) (g x)
  | .convert src dst x => .mem [x] fun g n L => kx P o g n L
  | .lookup t x ix ok => .mem [x] fun g n L => kLookup P n L t (g x) (g ix) ok
  | .mapUpdate t m k v => .mem [m] fun g n L => kMapUp P n L t (g m) (g k) (g v)
  | .range t x => .mem [x] fun g n L => kRange P n L t (g x)
  | .next x s => .mem [x] fun g n L => kNext n L (g x) s
  | .entry x => .mem [x] fun g n L => kEntry n L (g x)
  | .call c =>
    match c.callee with
    | .value x => .call x c.args.toList
    | .builtin .len => (match c.args.toList, c.argTypes[0]? with | [x], some t => (match isMapTy P t with | true => .mem c.args.toList fun g n L => kx P o g n L | false => .light fun g => lgtV (aLen P t (g x))) | _, _ => .mem c.args.toList fun g n L => kx P o g n L)
    | .builtin _ => .mem c.args.toList fun g n L => kx P o g n L
    | .invoke _ _ => .mem [] fun g n L => kx P o g n L
  | _ => .mem [] fun g n L => kx P o g n L

theorem aBuild_n (P : Program) (n : Nat) (t : TypeId) (ps : List (Nat × V)) : outR (aBuild P n t ps []) = asR n (outV (aBuild P 0 t ps [])) := by
  unfold aBuild
  repeat' split
  all_goals first | rfl | (simp only [lt_eq]; rfl)
theorem aFieldV_n (P : Program) (n : Nat) (t : TypeId) (x : V) (f : Nat) : outR (aFieldV P n t x f []) = asR n (outV (aFieldV P 0 t x f [])) := by
  unfold aFieldV
  repeat' split
  all_goals first | rfl | (simp only [lt_eq]; rfl)
theorem aField_n (P : Program) (n : Nat) (t : TypeId) (x : V) (f : Nat) : outR (aField P n t x f []) = asR n (outV (aField P 0 t x f [])) := by
  unfold aField
  repeat' split
  all_goals first | rfl | (simp only [lt_eq]; rfl)
theorem aNil_n (n : Nat) (x : V) : outR (aNil n x []) = asR n (outV (aNil 0 x [])) := by
  unfold aNil
  repeat' split
  all_goals first | rfl | (simp only [lt_eq]; rfl)

/-- what a plan says of its operation -/
def PlOK (P : Program) (o : Oper) (g : Operand → V) : Pl → Prop
  | .call x args => callee g o.op = fnOf (g x) ∧ argsOf g o.op = args.map g ++ capOf (g x) ∧ ∀ n L, kx P o g n L = none
  | .light f => callee g o.op = none ∧ ∀ n L, kx P o g n L = asR n (f g)
  | .mem ft f => callee g o.op = none ∧ kFoot o.op g = blks g ft ∧ ∀ n L, kx P o g n L = f g n L

theorem plan_ok (P : Program) (o : Oper) (g : Operand → V) : PlOK P o g (plan P o) := by
  unfold plan
  split
  · rename_i x ho; exact ⟨by simp only [callee, ho], fun n L => by simp only [kx, kop, ho]; rfl⟩
  · rename_i x ho; exact ⟨by simp only [callee, ho], fun n L => by simp only [kx, kop, ho]; rfl⟩
  · rename_i c a b ho
    refine ⟨by simp only [callee, ho], fun n L => ?_⟩
    simp only [kx, kop, ho]
    cases g c with
    | s y => cases y with
      | bool t => cases t <;> rfl
      | _ => rfl
    | _ => rfl
  · rename_i op t x y ty ho
    refine ⟨by simp only [callee, ho], fun n L => ?_⟩
    simp only [kx, ho, kBinQ_eq]
    cases kBin P op t (wkV (g x)) (wkV (g y)) with
    | some s => rfl
    | none => exact lgt_asR n _
  · rename_i op t x ho; exact ⟨by simp only [callee, ho], fun n L => by simp only [kx, kop, ho, lgt_asR]⟩
  · rename_i t x lo hi mx ho; exact ⟨by simp only [callee, ho], fun n L => by simp only [kx, kop, ho, lgt_asR]; rfl⟩
  · rename_i t parts ho; exact ⟨by simp only [callee, ho], fun n L => by simp only [kx, kop, ho]; exact aBuild_n P n t _⟩
  · rename_i t x f ho; exact ⟨by simp only [callee, ho], fun n L => by simp only [kx, kop, ho]; exact aFieldV_n P n t _ f⟩
  · rename_i x i ho
    refine ⟨by simp only [callee, ho], fun n L => ?_⟩
    simp only [kx, kop, ho]
    cases aExt (g x) i <;> rfl
  · rename_i s x f ho; exact ⟨by simp only [callee, ho], fun n L => by simp only [kx, kop, ho]; exact aField_n P n s _ f⟩
  · rename_i t x ix ho; exact ⟨by simp only [callee, ho], fun n L => by simp only [kx, kop, ho, lgt_asR]⟩
  · rename_i t x ix ho; exact ⟨by simp only [callee, ho], fun n L => by simp only [kx, kop, ho, lgt_asR]⟩
  · rename_i x ho; exact ⟨by simp only [callee, ho], fun n L => by simp only [kx, kop, ho]; exact aNil_n n _⟩
  · rename_i t a ho; exact ⟨by simp only [callee, ho], by simp only [kFoot, ho, blks, List.append_nil], fun n L => by simp only [kx, kop, ho]⟩
  · rename_i t a x ho; exact ⟨by simp only [callee, ho], by simp only [kFoot, ho, blks, List.append_nil], fun n L => by simp only [kx, kop, ho]⟩
  · rename_i src dst x ho; exact ⟨by simp only [callee, ho], by simp only [kFoot, ho, blks, List.append_nil], fun n L => rfl⟩
  · rename_i t x ix ok ho; exact ⟨by simp only [callee, ho], by simp only [kFoot, ho, blks, List.append_nil], fun n L => by simp only [kx, ho]⟩
  · rename_i t m k v ho; exact ⟨by simp only [callee, ho], by simp only [kFoot, ho, blks, List.append_nil], fun n L => by simp only [kx, ho]⟩
  · rename_i t x ho; exact ⟨by simp only [callee, ho], by simp only [kFoot, ho, blks, List.append_nil], fun n L => by simp only [kx, ho]⟩
  · rename_i x s ho; exact ⟨by simp only [callee, ho], by simp only [kFoot, ho, blks, List.append_nil], fun n L => by simp only [kx, ho]⟩
  · rename_i x ho; exact ⟨by simp only [callee, ho], by simp only [kFoot, ho, blks, List.append_nil], fun n L => by simp only [kx, ho]⟩
  · rename_i c ho
    split
    · rename_i x hc
      refine ⟨by simp only [callee, ho, hc], by simp only [argsOf, ho, hc], fun n L => ?_⟩
      simp only [kx, kop, ho, hc]
    · rename_i hc
      split
      · rename_i x t hargs ht
        split
        · exact ⟨by simp only [callee, ho, hc], by simp only [kFoot, ho, hc], fun n L => rfl⟩
        · rename_i hm
          refine ⟨by simp only [callee, ho, hc], fun n L => ?_⟩
          have hz : kLenM P c.argTypes n L (g x) = none := by
            unfold isMapTy at hm
            unfold kLenM
            simp only [ht]
            split at hm
            · cases hm
            · rename_i hn
              split
              · rename_i e1 _; exact absurd e1 (hn _ _)
              · rename_i e1 _; exact absurd e1 (hn _ _)
              · rfl
          simp only [kx, kop, ho, hc, hargs, List.map_cons, List.map_nil, kBuiltin, ht, lgt_asR, hz]
          cases asR n (lgtV (aLen P t (g x))) <;> rfl
      · exact ⟨by simp only [callee, ho, hc], by simp only [kFoot, ho, hc], fun n L => rfl⟩
    · rename_i b hc
      exact ⟨by simp only [callee, ho, hc], by simp only [kFoot, ho, hc], fun n L => rfl⟩
    · rename_i r m hc
      exact ⟨by simp only [callee, ho, hc], by simp only [kFoot, ho, hc, blks], fun n L => rfl⟩
  · rename_i h1 h2 h3 h4 h5 h6 h7 h8 h9 h10 h11 h12 h13 h14 h15 h16 h17 h18 h20 h21 h22 h19
    refine ⟨?_, ?_, fun n L => rfl⟩
    · unfold callee
      split
      · rename_i c ho; exact absurd ho (h19 c)
      · rfl
    · unfold kFoot
      split
      · rename_i t a ho; exact absurd ho (h14 t a)
      · rename_i t a x ho; exact absurd ho (h15 t a x)
      · rename_i s d x ho; exact absurd ho (h16 s d x)
      · rename_i t x ix ok ho; exact absurd ho (h17 t x ix ok)
      · rename_i t m k v ho; exact absurd ho (h18 t m k v)
      · rename_i t x ho; exact absurd ho (h20 t x)
      · rename_i x s ho; exact absurd ho (h21 x s)
      · rename_i x ho; exact absurd ho (h22 x)
      · rename_i c ho; exact absurd ho (h19 c)
      · rfl

/-! ### the machine by plans -/
def kLt (K : Kst) (o : Oper) (env : T V) (n : Nat) (h : T Bl) (acs : List Acc) (k : KK) (r : Option V) : KO :=
  match r with
  | none => .bad o.pos 5
  | some v => match okV n v with | true => (frcW v fun v => kDone K o env n h acs v k) | false => .bad o.pos 6
def kGo (K : Kst) (o : Oper) (j : Nat) (env : T V) (n : Nat) (h : T Bl) (acs : List Acc) (k : KK) (p : Pl) : KO :=
  match p with
  | .light f => kLt K o env n h acs k (f (evT env))
  | .mem ft f => kPlain K o j env n h acs k (blks (evT env) ft) (f (evT env) n (mini h (blks (evT env) ft)))
  | .call x args =>
    match fnOf (evT env x) with
    | some f => kCallOp K o j env n h acs k (K.cl f (args.map (evT env) ++ capOf (evT env x)) n h)
    | none => .bad o.pos 5
def kOneQ (K : Kst) (o : Oper) (j : Nat) (env : T V) (n : Nat) (h : T Bl) (acs : List Acc) (k : KK) : KO :=
  match wantT K.ops env o with
  | some b => (match b with | true => kGo K o j env n h acs k (plan K.P o) | false => kDone K o env n h acs .undef k)
  | none => .bad o.pos 1
theorem kOneQ_eq {K : Kst} (hk : K.kx = kx K.P) (o : Oper) (j : Nat) (env : T V) (n : Nat) (h : T Bl) (acs : List Acc) (k : KK) : kOneQ K o j env n h acs k = kOne K o j env n h acs k := by
  unfold kOneQ kOne
  cases hw : wantT K.ops env o with
  | none => rfl
  | some b =>
    cases b with
    | false => rfl
    | true =>
      simp only [hk]
      have hp := plan_ok K.P o (evT env)
      cases hpl : plan K.P o with
      | light f =>
        rw [hpl] at hp
        obtain ⟨h1, h2⟩ := hp
        simp only [h1, h2, kGo, kLt]
        cases f (evT env) with
        | none => rfl
        | some v =>
          simp only [asR, kPlain, inAll, okW, nilB, Bool.and_self, Bool.or_true, Nat.ble_eq_true_of_le (Nat.le_refl n), Bool.true_and, Bool.and_true, kPut, frcW_eq, frcN_eq]
          cases okV n v <;> rfl
      | mem ft f =>
        rw [hpl] at hp
        obtain ⟨h1, h2, h3⟩ := hp
        simp only [h1, h2, h3, kGo]
      | call x args =>
        rw [hpl] at hp
        obtain ⟨h1, h2, h3⟩ := hp
        simp only [h1, h2, h3, kGo]
        cases fnOf (evT env x) <;> rfl

def kOpsQ (K : Kst) : List Oper → Nat → T V → Nat → T Bl → List Acc → KO
  | [], _, env, n, h, _ => .ok .normal env n h
  | o :: os, j, env, n, h, acs => kOneQ K o j env n h acs fun env n h acs => kOpsQ K os (Nat.succ j) env n h acs
theorem kOpsQ_eq {K : Kst} (hk : K.kx = kx K.P) : ∀ (l : List Oper) (j : Nat) (env : T V) (n : Nat) (h : T Bl) (acs : List Acc), kOpsQ K l j env n h acs = kOps K l j env n h acs
  | [], _, _, _, _, _ => rfl
  | o :: os, j, env, n, h, acs => by
    simp only [kOpsQ, kOps, kOneQ_eq hk]
    congr 1
    funext env n h acs
    exact kOpsQ_eq hk os _ env n h acs

def kCQ (P : Program) (cl : Cl) (lf nt : Nat) : Code → T V → Nat → T Bl → KO
  | .seq a b, env, n, h =>
    match kCQ P cl lf nt a env n h with
    | .ok .normal e m M => kCQ P cl lf nt b e m M
    | r => r
  | .region _ ops d, env, n, h =>
    match d with
    | false => kOpsQ ⟨P, kx P, cl, nt, ops, false⟩ ops.toList 0 env n h []
    | true => match regS ops with | true => kOpsQ ⟨P, kx P, cl, nt, ops, true⟩ ops.toList 0 env n h [] | false => .bad "region" 11
  | .cond c a b, env, n, h =>
    match evT env c with
    | .s (.bool t) => match t with | true => kCQ P cl lf nt a env n h | false => kCQ P cl lf nt b env n h
    | _ => .bad "cond" 10
  | .skip, env, n, h => .ok .normal env n h
  | .ret, env, n, h => .ok .ret env n h
  | .exit id, env, n, h => .ok (.exit id) env n h
  | .block id c, env, n, h =>
    match kCQ P cl lf nt c env n h with
    | .ok (.exit id') e m M => match Nat.beq id' id with | true => .ok .normal e m M | false => .ok (.exit id') e m M
    | r => r
  | .loop c, env, n, h => loopF lf (fun env n h => kCQ P cl lf nt c env n h) env n h
  | _, _, _, _ => .bad "code" 12
theorem kCQ_eq (P : Program) (cl : Cl) (lf nt : Nat) : ∀ (c : Code) (env : T V) (n : Nat) (h : T Bl), kCQ P cl lf nt c env n h = kC P (kx P) cl lf nt c env n h := by
  intro c
  induction c with
  | seq a b iha ihb =>
    intro env n h
    simp only [kCQ, kC, iha]
    cases kC P (kx P) cl lf nt a env n h with
    | bad p w => rfl
    | ok x e m M => cases x <;> first | exact ihb _ _ _ | rfl
  | region id ops d =>
    intro env n h
    simp only [kCQ, kC]
    cases d with
    | false => simp only [notB, Bool.true_or]; exact kOpsQ_eq rfl _ _ _ _ _ _
    | true =>
      simp only [notB, Bool.false_or]
      cases regS ops with
      | true => exact kOpsQ_eq rfl _ _ _ _ _ _
      | false => rfl
  | cond c a b iha ihb =>
    intro env n h
    simp only [kCQ, kC]
    cases evT env c with
    | s y => cases y with
      | bool t => cases t <;> first | exact iha _ _ _ | exact ihb _ _ _
      | _ => rfl
    | _ => rfl
  | block id c ih =>
    intro env n h
    simp only [kCQ, kC, ih]
    cases kC P (kx P) cl lf nt c env n h with
    | bad p w => rfl
    | ok x e m M => cases x <;> rfl
  | loop c ih =>
    intro env n h
    simp only [kCQ, kC]
    congr 1
    funext env n h
    exact ih env n h
  | _ => intro env n h; rfl
def kRunQ (P : Program) (lf : Nat) (cl : Cl) (fn : Func) (c : Code) (args : List V) (n : Nat) (h : T Bl) : KC :=
  match Nat.ble args.length fn.ntmps with
  | false => .bad fn.name 13
  | true =>
    match kCQ P cl lf fn.ntmps c (envOf args 0 .nil) n h with
    | .bad p w => .bad p w
    | .ok x e m M =>
      match (match x with | .ret => true | .normal => true | _ => false) with
      | true => match resT P fn e M with | some v => (frcW v fun v => match okV m v && Nat.ble n m with | true => .ok v m M | false => .bad fn.name 20) | none => .bad fn.name 14
      | false => .bad fn.name 15
theorem kRunQ_eq (P : Program) (lf : Nat) (cl : Cl) (fn : Func) (c : Code) (args : List V) (n : Nat) (h : T Bl) : kRunQ P lf cl fn c args n h = kRun P (kx P) lf cl fn c args n h := by
  simp only [kRunQ, kRun, kCQ_eq]
  rfl
/-- a function's body, if it may be run -/
def bodyOf (P : Program) (f : FuncId) : Option (Func × Code) :=
  match P.funcs[f]? with
  | some fn => match fn.body with | some c => (match fn.name == "runtime.NumGoroutine" with | true => none | false => some (fn, c)) | none => none
  | none => none
def kFQ (P : Program) (ov : FuncId → List V → Nat → T Bl → Option KC) (lf : Nat) : Nat → Cl
  | 0 => fun _ _ _ _ => .bad "depth" 16
  | d + 1 => fun f args n h =>
    match ov f args n h with
    | some r => r
    | none => match bodyOf P f with | some (fn, c) => kRunQ P lf (kFQ P ov lf d) fn c args n h | none => .bad "func" 19

theorem kFQ_ok {P : Program} (hm : P.follows .mixedOrders = true) {ov : FuncId → List V → Nat → T Bl → Option KC} (hov : OvOK P ov) {lf : Nat} : ∀ d, ClOK P (kFQ P ov lf d)
  | 0 => fun f args n h v n' h' hk => by cases hk
  | d + 1 => by
    intro f args n h v n' h' hk L hv oh oe
    simp only [kFQ] at hk
    split at hk
    · rename_i r hr
      exact hov f args n h r hr v n' h' hk L hv oh oe
    · split at hk
      · rename_i fn c hb
        unfold bodyOf at hb
        split at hb
        · rename_i fn' hf
          split at hb
          · rename_i c' hbd
            split at hb
            · cases hb
            · rename_i hname
              cases hb
              rw [kRunQ_eq] at hk
              obtain ⟨L', g1, g2, g3, g5, g4⟩ := kRun_ok hm (kx_ok P) (kFQ_ok hm hov d) hf hbd hk hv oh oe
              exact ⟨L', g1, g2, g3, g5, g4.callOK hf (by rw [hbd]; rfl) hname⟩
          · cases hb
        · cases hb
      · cases hk

/-- A contract out of a run. -/
theorem SC.ofRunQ {P : Program} (hm : P.follows .mixedOrders = true) {ov : FuncId → List V → Nat → T Bl → Option KC} (hov : OvOK P ov) {lf d : Nat} {f : FuncId} {fn : Func} {c : Code} (hf : P.funcs[f]? = some fn) (hb : fn.body = some c)
    {args : List V} {n : Nat} {hs : Bs} {v : V} {n' : Nat} {hs' : Bs} (h : chkM (kRunQ P lf (kFQ P ov lf d) fn c args n (tOf hs)) v n' hs' = true) (oh : okW n (toW hs) = true) (oe : args.all (okV n) = true) : SC P f args n (puts [] (toW hs)) v n' (puts [] (toW hs')) := by
  rw [kRunQ_eq] at h
  unfold chkM at h
  split at h
  · rename_i v' m h' hr
    simp only [Bool.and_eq_true] at h
    obtain ⟨⟨h1, h2⟩, h3⟩ := h
    have h1 := eqV_ok h1
    have h2 := Nat.eq_of_beq_eq_true h2
    subst h1; subst h2
    obtain ⟨L', g1, g2, g3, g4, g5⟩ := kRun_ok hm (kx_ok P) (kFQ_ok hm hov d) hf hb hr (hv_tOf hs) (OH.puts (L := []) (toW hs) (fun i bl hi => by cases hi) oh) (fun y hy => List.all_eq_true.1 oe y hy)
    exact g5.sub (sub_toW g1 h3)
  · cases h

end Ab
end Go.Proofs.YtgbkllbaojkfmaaGreatDoor
