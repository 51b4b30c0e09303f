import Derived.Test.YtbokilgdefkmiaaGreatDoorCzB21
import Derived.Test.YtbokilgdefkmiaaGreatDoorCzB11
import Derived.Test.YtbokilgdefkmiaaGreatDoorCzB10
import Derived.Test.YtbokilgdefkmiaaGreatDoorCzB13
import Derived.Shelf.Strings.OnBuilder
import Derived.Below
import Derived.Test.YtbokilgdefkmiaaGreatDoorRows
import Derived.Test.YtbokilgdefkmiaaGreatDoorCzB18
set_option linter.unusedSimpArgs false
set_option linter.unusedVariables false
namespace Go.Proofs.YtbokilgdefkmiaaGreatDoor
namespace Ab
open Go
set_option maxRecDepth 100000
inductive Pl where
 |call (x:Operand) (args:List Operand)
 |light (f:(Operand→V)→Option V)
 |mem (ft:List Operand) (f:(Operand→V)→Nat→Hp→Option R)
inductive IB where
 |no
 |f (g:IntKind→Int→Int→Option S)
def intB (op:BinOp):IB:=
 match op with
 | .add=> .f fun k a b=>some (.int k (wrapF k (a+b)))
 | .sub=> .f fun k a b=>some (.int k (wrapF k (a-b)))
 | .eql=> .f fun _ a b=>some (.bool (eqI a b))
 | .neq=> .f fun _ a b=>some (.bool (notB (eqI a b)))
 | .lss=> .f fun _ a b=>some (.bool (ltI a b))
 | .leq=> .f fun _ a b=>some (.bool (notB (ltI b a)))
 | .gtr=> .f fun _ a b=>some (.bool (ltI b a))
 | .geq=> .f fun _ a b=>some (.bool (notB (ltI a b)))
 |_=> .no
def kNo:IntKind→Nat
 | .i8=>0| .i16=>1| .i32=>2| .i64=>3| .u8=>4| .u16=>5| .u32=>6| .u64=>7
theorem kNo_eq (a b:IntKind):Nat.beq (kNo a) (kNo b)=kEq a b:=by cases a<;>cases b<;>rfl
def kBinI (op:BinOp) (k:IntKind) (a:Int) (k':IntKind) (b:Int):Option S:=
 match intB op with
 | .f g=>match Nat.beq (kNo k) (kNo k') with|true=>g k a b|false=>none
 | .no=>kInt op k a k' b
theorem kBinI_eq (op:BinOp) (k:IntKind) (a:Int) (k':IntKind) (b:Int):kBinI op k a k' b=kInt op k a k' b:=by
 unfold kBinI
 cases op<;>first|rfl|(simp only[intB,kNo_eq,kInt,kIntE];done)|(simp only[intB,kNo_eq,kInt,kIntE];rfl)
def kBinQ (P:Program) (op:BinOp) (t:TypeId) (x y:V):Option S:=
 match x with
 | .s a=>
   match a with
   | .int k z=>
     match y with
     | .s b=>(match b with| .int k' z'=>kBinI op k z k' z'|_=>kBin P op t (wkV x) (wkV y))
     |_=>kBin P op t (wkV x) (wkV y)
   |_=>kBin P op t (wkV x) (wkV y)
 |_=>kBin P op t (wkV x) (wkV y)
theorem kBinQ_eq (P:Program) (op:BinOp) (t:TypeId) (x y:V):kBinQ P op t x y=kBin P op t (wkV x) (wkV y):=by
 unfold kBinQ;split
 ·split
  ·split
   ·split
    ·rw[kBinI_eq];rfl
    ·rfl
   ·rfl
  ·rfl
 ·rfl
def lgtV (s:Option S):Option V:=match s with|some s=>some (.s s)|none=>none
def outV (o:Option Out):Option V:=match o with|some o=>some o.r.v|none=>none
def asR (n:Nat) (v:Option V):Option R:=match v with|some v=>some ⟨[],v,[],n⟩|none=>none
theorem lgt_asR (n:Nat) (s:Option S):lgt n s=asR n (lgtV s):=by cases s<;>rfl
def isMapTy (P:Program) (t:TypeId):Bool:=match P.underlying t with|some (.map _ _)=>true|_=>false
def plan (P:Program) (o:Oper):Pl:=
 match o.op with
 | .move x=> .light fun g=>some (g x)
 | .assign x=> .light fun g=>some (g x)
 | .pick c a b=> .light fun g=>match g c with| .s (.bool t)=>(match t with|true=>some (g a)|false=>some (g b))|_=>none
 | .binOp op t x y _=> .light fun g=>match kBinQ P op t (g x) (g y) with|some s=>some (.s s)|none=>lgtV (kOpqB op (g x) (g y))
 | .unOp op _ x=> .light fun g=>lgtV (kUn op (g x))
 | .slice t x lo hi mx=> .light fun g=>lgtV (kSlice P 0 t (g x) (lo.map g) (hi.map g) (mx.map g))
 | .build t parts=> .light fun g=>outV (aBuild P 0 t (parts.toList.map fun (i,x)=>(i,g x)) [])
 | .field t x f=> .light fun g=>outV (aFieldV P 0 t (g x) f [])
 | .extract x i=> .light fun g=>aExt (g x) i
 | .fieldAddr s x f=> .light fun g=>outV (aField P 0 s (g x) f [])
 | .indexAddr t x ix=> .light fun g=>lgtV (kIdx P t (g x) (g ix))
 | .index t x ix=> .light fun g=>lgtV (kIndex P t (g x) (g ix))
 | .nilCheck x=> .light fun g=>outV (aNil 0 (g x) [])
 | .load t a=> .mem [a] fun g n L=>kLoad P n L t (g a)
 | .store t a x=> .mem [a] fun g n L=>kStore P n L t (g a) (g x)
 | .convert src dst x=> .mem [x] fun g n L=>kx P o g n L
 | .lookup t x ix ok=> .mem [x] fun g n L=>kLookup P n L t (g x) (g ix) ok
 | .mapUpdate t m k v=> .mem [m] fun g n L=>kMapUp P n L t (g m) (g k) (g v)
 | .range t x=> .mem [x] fun g n L=>kRange P n L t (g x)
 | .next x s=> .mem [x] fun g n L=>kNext n L (g x) s
 | .entry x=> .mem [x] fun g n L=>kEntry n L (g x)
 | .call c=>
   match c.callee with
   | .value x=> .call x c.args.toList
   | .builtin .len=>(match c.args.toList,c.argTypes[0]? with|[x],some t=>(match isMapTy P t with|true=> .mem c.args.toList fun g n L=>kx P o g n L|false=> .light fun g=>lgtV (aLen P t (g x)))|_,_=> .mem c.args.toList fun g n L=>kx P o g n L)
   | .builtin _=> .mem c.args.toList fun g n L=>kx P o g n L
   | .invoke _ _=> .mem [] fun g n L=>kx P o g n L
 |_=> .mem [] fun g n L=>kx P o g n L
theorem aBuild_n (P:Program) (n:Nat) (t:TypeId) (ps:List (Nat×V)):outR (aBuild P n t ps [])=asR n (outV (aBuild P 0 t ps [])):=by
 unfold aBuild
 repeat' split
 all_goals first|rfl|(simp only[lt_eq];rfl)
theorem aFieldV_n (P:Program) (n:Nat) (t:TypeId) (x:V) (f:Nat):outR (aFieldV P n t x f [])=asR n (outV (aFieldV P 0 t x f [])):=by
 unfold aFieldV
 repeat' split
 all_goals first|rfl|(simp only[lt_eq];rfl)
theorem aField_n (P:Program) (n:Nat) (t:TypeId) (x:V) (f:Nat):outR (aField P n t x f [])=asR n (outV (aField P 0 t x f [])):=by
 unfold aField
 repeat' split
 all_goals first|rfl|(simp only[lt_eq];rfl)
theorem aNil_n (n:Nat) (x:V):outR (aNil n x [])=asR n (outV (aNil 0 x [])):=by
 unfold aNil
 repeat' split
 all_goals first|rfl|(simp only[lt_eq];rfl)
def PlOK (P:Program) (o:Oper) (g:Operand→V):Pl→Prop
 | .call x args=>callee g o.op=fnOf (g x)∧argsOf g o.op=args.map g++capOf (g x)∧∀ n L,kx P o g n L=none
 | .light f=>callee g o.op=none∧∀ n L,kx P o g n L=asR n (f g)
 | .mem ft f=>callee g o.op=none∧kFoot o.op g=blks g ft∧∀ n L,kx P o g n L=f g n L
theorem plan_ok (P:Program) (o:Oper) (g:Operand→V):PlOK P o g (plan P o):=by
 unfold plan;split
 ·rename_i x ho;exact⟨by simp only[callee,ho],fun n L=>by simp only[kx,kop,ho];rfl⟩
 ·rename_i x ho;exact⟨by simp only[callee,ho],fun n L=>by simp only[kx,kop,ho];rfl⟩
 ·rename_i c a b ho
  refine⟨by simp only[callee,ho],fun n L=>?_⟩;simp only[kx,kop,ho]
  cases g c with
  |s y=>cases y with
   |bool t=>cases t<;>rfl
   |_=>rfl
  |_=>rfl
 ·rename_i op t x y ty ho
  refine⟨by simp only[callee,ho],fun n L=>?_⟩;simp only[kx,ho,kBinQ_eq]
  cases kBin P op t (wkV (g x)) (wkV (g y)) with
  |some s=>rfl
  |none=>exact lgt_asR n _
 ·rename_i op t x ho;exact⟨by simp only[callee,ho],fun n L=>by simp only[kx,kop,ho,lgt_asR]⟩
 ·rename_i t x lo hi mx ho;exact⟨by simp only[callee,ho],fun n L=>by simp only[kx,kop,ho,lgt_asR];rfl⟩
 ·rename_i t parts ho;exact⟨by simp only[callee,ho],fun n L=>by simp only[kx,kop,ho];exact aBuild_n P n t _⟩
 ·rename_i t x f ho;exact⟨by simp only[callee,ho],fun n L=>by simp only[kx,kop,ho];exact aFieldV_n P n t _ f⟩
 ·rename_i x i ho
  refine⟨by simp only[callee,ho],fun n L=>?_⟩;simp only[kx,kop,ho]
  cases aExt (g x) i<;>rfl
 ·rename_i s x f ho;exact⟨by simp only[callee,ho],fun n L=>by simp only[kx,kop,ho];exact aField_n P n s _ f⟩
 ·rename_i t x ix ho;exact⟨by simp only[callee,ho],fun n L=>by simp only[kx,kop,ho,lgt_asR]⟩
 ·rename_i t x ix ho;exact⟨by simp only[callee,ho],fun n L=>by simp only[kx,kop,ho,lgt_asR]⟩
 ·rename_i x ho;exact⟨by simp only[callee,ho],fun n L=>by simp only[kx,kop,ho];exact aNil_n n _⟩
 ·rename_i t a ho;exact⟨by simp only[callee,ho],by simp only[kFoot,ho,blks,List.append_nil],fun n L=>by simp only[kx,kop,ho]⟩
 ·rename_i t a x ho;exact⟨by simp only[callee,ho],by simp only[kFoot,ho,blks,List.append_nil],fun n L=>by simp only[kx,kop,ho]⟩
 ·rename_i src dst x ho;exact⟨by simp only[callee,ho],by simp only[kFoot,ho,blks,List.append_nil],fun n L=>rfl⟩
 ·rename_i t x ix ok ho;exact⟨by simp only[callee,ho],by simp only[kFoot,ho,blks,List.append_nil],fun n L=>by simp only[kx,ho]⟩
 ·rename_i t m k v ho;exact⟨by simp only[callee,ho],by simp only[kFoot,ho,blks,List.append_nil],fun n L=>by simp only[kx,ho]⟩
 ·rename_i t x ho;exact⟨by simp only[callee,ho],by simp only[kFoot,ho,blks,List.append_nil],fun n L=>by simp only[kx,ho]⟩
 ·rename_i x s ho;exact⟨by simp only[callee,ho],by simp only[kFoot,ho,blks,List.append_nil],fun n L=>by simp only[kx,ho]⟩
 ·rename_i x ho;exact⟨by simp only[callee,ho],by simp only[kFoot,ho,blks,List.append_nil],fun n L=>by simp only[kx,ho]⟩
 ·rename_i c ho
  split
  ·rename_i x hc
   refine⟨by simp only[callee,ho,hc],by simp only[argsOf,ho,hc],fun n L=>?_⟩;simp only[kx,kop,ho,hc]
  ·rename_i hc
   split
   ·rename_i x t hargs ht
    split
    ·exact⟨by simp only[callee,ho,hc],by simp only[kFoot,ho,hc],fun n L=>rfl⟩
    ·rename_i hm
     refine⟨by simp only[callee,ho,hc],fun n L=>?_⟩;have hz:kLenM P c.argTypes n L (g x)=none:=rfl;simp only[kx,kop,ho,hc,hargs,List.map_cons,List.map_nil,kBuiltin,ht,lgt_asR,hz]
     cases asR n (lgtV (aLen P t (g x)))<;>rfl
   ·exact⟨by simp only[callee,ho,hc],by simp only[kFoot,ho,hc],fun n L=>rfl⟩
  ·rename_i b hc
   exact⟨by simp only[callee,ho,hc],by simp only[kFoot,ho,hc],fun n L=>rfl⟩
  ·rename_i r m hc
   exact⟨by simp only[callee,ho,hc],by simp only[kFoot,ho,hc,blks],fun n L=>rfl⟩
 ·rename_i h1 h2 h3 h4 h5 h6 h7 h8 h9 h10 h11 h12 h13 h14 h15 h16 h17 h18 h20 h21 h22 h19
  refine⟨?_,?_,fun n L=>rfl⟩
  ·unfold callee
   split
   ·rename_i c ho;exact absurd ho (h19 c)
   ·rfl
  ·unfold kFoot
   split
   ·rename_i t a ho;exact absurd ho (h14 t a)
   ·rename_i t a x ho;exact absurd ho (h15 t a x)
   ·rename_i s d x ho;exact absurd ho (h16 s d x)
   ·rename_i t x ix ok ho;exact absurd ho (h17 t x ix ok)
   ·rename_i t m k v ho;exact absurd ho (h18 t m k v)
   ·rename_i t x ho;exact absurd ho (h20 t x)
   ·rename_i x s ho;exact absurd ho (h21 x s)
   ·rename_i x ho;exact absurd ho (h22 x)
   ·rename_i c ho;exact absurd ho (h19 c)
   ·rfl
def kLt (K:Kst) (o:Oper) (env:T V) (n:Nat) (h:T Bl) (acs:List Acc) (k:KK) (r:Option V):KO:=
 match r with
 |none=> .bad o.pos 5
 |some v=>match okV n v with|true=>(frcW v fun v=>kDone K o env n h acs v k)|false=> .bad o.pos 6
def kGo (K:Kst) (o:Oper) (j:Nat) (env:T V) (n:Nat) (h:T Bl) (acs:List Acc) (k:KK) (p:Pl):KO:=
 match p with
 | .light f=>kLt K o env n h acs k (f (evT env))
 | .mem ft f=>kPlain K o j env n h acs k (blks (evT env) ft) (f (evT env) n (mini h (blks (evT env) ft)))
 | .call x args=>
   match fnOf (evT env x) with
   |some f=>kCallOp K o j env n h acs k (K.cl f (args.map (evT env)++capOf (evT env x)) n h)
   |none=> .bad o.pos 5
def kOneQ (K:Kst) (o:Oper) (j:Nat) (env:T V) (n:Nat) (h:T Bl) (acs:List Acc) (k:KK):KO:=
 match wantT K.ops env o with
 |some b=>(match b with|true=>kGo K o j env n h acs k (plan K.P o)|false=>kDone K o env n h acs .undef k)
 |none=> .bad o.pos 1
theorem kOneQ_eq {K:Kst} (hk:K.kx=kx K.P) (o:Oper) (j:Nat) (env:T V) (n:Nat) (h:T Bl) (acs:List Acc) (k:KK):kOneQ K o j env n h acs k=kOne K o j env n h acs k:=by
 unfold kOneQ kOne
 cases hw:wantT K.ops env o with
 |none=>rfl
 |some b=>
  cases b with
  |false=>rfl
  |true=>
   simp only[hk];have hp:=plan_ok K.P o (evT env)
   cases hpl:plan K.P o with
   |light f=>
    rw[hpl] at hp;obtain⟨h1,h2⟩:=hp;simp only[h1,h2,kGo,kLt]
    cases f (evT env) with
    |none=>rfl
    |some v=>
     simp only[asR,kPlain,inAll,okW,nilB,Bool.and_self,Bool.or_true,Nat.ble_eq_true_of_le (Nat.le_refl n),Bool.true_and,Bool.and_true,kPut,frcW_eq,frcN_eq]
     cases okV n v<;>rfl
   |mem ft f=>
    rw[hpl] at hp;obtain⟨h1,h2,h3⟩:=hp;simp only[h1,h2,h3,kGo]
   |call x args=>
    rw[hpl] at hp;obtain⟨h1,h2,h3⟩:=hp;simp only[h1,h2,h3,kGo]
    cases fnOf (evT env x)<;>rfl
def kOpsQ (K:Kst):List Oper→Nat→T V→Nat→T Bl→List Acc→KO
 |[],_,env,n,h,_=> .ok .normal env n h
 |o::os,j,env,n,h,acs=>kOneQ K o j env n h acs fun env n h acs=>kOpsQ K os (Nat.succ j) env n h acs
theorem kOpsQ_eq {K:Kst} (hk:K.kx=kx K.P):∀ (l:List Oper) (j:Nat) (env:T V) (n:Nat) (h:T Bl) (acs:List Acc),kOpsQ K l j env n h acs=kOps K l j env n h acs
 |[],_,_,_,_,_=>rfl
 |o::os,j,env,n,h,acs=>by
  simp only[kOpsQ,kOps,kOneQ_eq hk];congr 1
  funext env n h acs
  exact kOpsQ_eq hk os _ env n h acs
def kCQ (P:Program) (cl:Cl) (lf nt:Nat):Code→T V→Nat→T Bl→KO
 | .seq a b,env,n,h=>
   match kCQ P cl lf nt a env n h with
   | .ok .normal e m M=>kCQ P cl lf nt b e m M
   |r=>r
 | .region _ ops d,env,n,h=>
   match d with
   |false=>kOpsQ ⟨P,kx P,cl,nt,ops,false⟩ ops.toList 0 env n h []
   | true => match regS ops with | true => kOpsQ ⟨P, kx P, cl, nt, ops, true⟩ ops.toList 0 env n h [] | false => .bad "region" 11
 | .cond c a b,env,n,h=>
   match evT env c with
   | .s (.bool t)=>match t with|true=>kCQ P cl lf nt a env n h|false=>kCQ P cl lf nt b env n h
   | _ => .bad "cond" 10
 | .skip,env,n,h=> .ok .normal env n h
 | .ret,env,n,h=> .ok .ret env n h
 | .exit id,env,n,h=> .ok (.exit id) env n h
 | .block id c,env,n,h=>
   match kCQ P cl lf nt c env n h with
   | .ok (.exit id') e m M=>match Nat.beq id' id with|true=> .ok .normal e m M|false=> .ok (.exit id') e m M
   |r=>r
 | .loop c,env,n,h=>loopF lf (fun env n h=>kCQ P cl lf nt c env n h) env n h
 | _, _, _, _ => .bad "code" 12
theorem kCQ_eq (P:Program) (cl:Cl) (lf nt:Nat):∀ (c:Code) (env:T V) (n:Nat) (h:T Bl),kCQ P cl lf nt c env n h=kC P (kx P) cl lf nt c env n h:=by
 intro c
 induction c with
 |seq a b iha ihb=>
  intro env n h;simp only[kCQ,kC,iha]
  cases kC P (kx P) cl lf nt a env n h with
  |bad p w=>rfl
  |ok x e m M=>cases x<;>first|exact ihb _ _ _|rfl
 |region id ops d=>
  intro env n h;simp only[kCQ,kC]
  cases d with
  |false=>simp only[notB,Bool.true_or];exact kOpsQ_eq rfl _ _ _ _ _ _
  |true=>
   simp only[notB,Bool.false_or]
   cases regS ops with
   |true=>exact kOpsQ_eq rfl _ _ _ _ _ _
   |false=>rfl
 |cond c a b iha ihb=>
  intro env n h;simp only[kCQ,kC]
  cases evT env c with
  |s y=>cases y with
   |bool t=>cases t<;>first|exact iha _ _ _|exact ihb _ _ _
   |_=>rfl
  |_=>rfl
 |block id c ih=>
  intro env n h;simp only[kCQ,kC,ih]
  all_goals (cases kC P (kx P) cl lf nt c env n h<;>first|rfl|(rename_i x _ _ _;cases x<;>rfl))
 |loop c ih=>
  intro env n h;simp only[kCQ,kC];congr 1
  funext env n h
  exact ih env n h
 |_=>intro env n h;rfl
def kRunQ (P:Program) (lf:Nat) (cl:Cl) (fn:Func) (c:Code) (args:List V) (n:Nat) (h:T Bl):KC:=
 match Nat.ble args.length fn.ntmps with
 |false=> .bad fn.name 13
 |true=>
  match kCQ P cl lf fn.ntmps c (envOf args 0 .nil) n h with
  | .bad p w=> .bad p w
  | .ok x e m M=>
    match (match x with| .ret=>true| .normal=>true|_=>false) with
    |true=>match resT P fn e M with|some v=>(frcW v fun v=>match okV m v&&Nat.ble n m with|true=> .ok v m M|false=> .bad fn.name 20)|none=> .bad fn.name 14
    |false=> .bad fn.name 15
theorem kRunQ_eq (P:Program) (lf:Nat) (cl:Cl) (fn:Func) (c:Code) (args:List V) (n:Nat) (h:T Bl):kRunQ P lf cl fn c args n h=kRun P (kx P) lf cl fn c args n h:=by
 simp only[kRunQ,kRun,kCQ_eq]
 all_goals rfl
def bodyOf (P:Program) (f:FuncId):Option (Func×Code):=
 match P.funcs[f]? with
 | some fn => match fn.body with | some c => (match fn.name == "runtime.NumGoroutine" with | true => none | false => some (fn, c)) | none => none
 |none=>none
def kFQ (P:Program) (ov:FuncId→List V→Nat→T Bl→Option KC) (lf:Nat):Nat→Cl
 | 0 => fun _ _ _ _ => .bad "depth" 16
 |d+1=>fun f args n h=>
  match ov f args n h with
  |some r=>r
  | none => match bodyOf P f with | some (fn, c) => kRunQ P lf (kFQ P ov lf d) fn c args n h | none => .bad "func" 19
theorem kFQ_ok {P:Program} (hm:P.follows .mixedOrders=true) {ov:FuncId→List V→Nat→T Bl→Option KC} (hov:OvOK P ov) {lf:Nat}:∀ d,ClOK P (kFQ P ov lf d)
 |0=>fun f args n h v n' h' hk=>by cases hk
 |d+1=>by
  intro f args n h v n' h' hk L hv oh oe;simp only[kFQ] at hk;split at hk
  ·rename_i r hr
   exact hov f args n h r hr v n' h' hk L hv oh oe
  ·split at hk
   ·rename_i fn c hb
    unfold bodyOf at hb;split at hb
    ·rename_i fn' hf
     split at hb
     ·rename_i c' hbd
      split at hb
      ·cases hb
      ·rename_i hname
       cases hb;rw[kRunQ_eq] at hk;obtain⟨L',g1,g2,g3,g5,g4⟩:=kRun_ok hm (kx_ok P) (kFQ_ok hm hov d) hf hbd hk hv oh oe;exact⟨L',g1,g2,g3,g5,g4.callOK hf (by rw[hbd];rfl) hname⟩
     ·cases hb
    ·cases hb
   ·cases hk
theorem SC.ofRunQ {P:Program} (hm:P.follows .mixedOrders=true) {ov:FuncId→List V→Nat→T Bl→Option KC} (hov:OvOK P ov) {lf d:Nat} {f:FuncId} {fn:Func} {c:Code} (hf:P.funcs[f]? =some fn) (hb:fn.body=some c)
 {args:List V} {n:Nat} {hs:Bs} {v:V} {n':Nat} {hs':Bs} (h:chkM (kRunQ P lf (kFQ P ov lf d) fn c args n (tOf hs)) v n' hs'=true) (oh:okW n (toW hs)=true) (oe:args.all (okV n)=true):SC P f args n (puts [] (toW hs)) v n' (puts [] (toW hs')):=by
 rw[kRunQ_eq] at h;unfold chkM at h;split at h
 ·rename_i v' m h' hr
  simp only[Bool.and_eq_true] at h;obtain⟨⟨h1,h2⟩,h3⟩:=h;have h1:=eqV_ok h1;have h2:=Nat.eq_of_beq_eq_true h2;subst h1;subst h2;obtain⟨L',g1,g2,g3,g4,g5⟩:=kRun_ok hm (kx_ok P) (kFQ_ok hm hov d) hf hb hr (hv_tOf hs) (OH.puts (L:=[]) (toW hs) (fun i bl hi=>by cases hi) oh) (fun y hy=>List.all_eq_true.1 oe y hy);exact g5.sub (sub_toW g1 h3)
 ·cases h
set_option maxRecDepth 100000
abbrev Ob:=List (Nat×Nat)
def Ob.hold:Ob→Prop
 |[]=>True
 |(x,y)::t=>x=y∧Ob.hold t
set_option maxRecDepth 100000
theorem CallOK.frame {P:Program} {f:FuncId} {args:List V} {n:Nat} {L0:Hp} {v:V} {n':Nat} {L0' L L':Hp} (h:CallOK P f args n L0 v n' L0') (hs:Sub L0 L)
 (hM:∀ i bl,lk L' i=some bl→lk L0' i=some bl∨(lk L0 i=none∧lk L i=some bl)):CallOK P f args n L v n' L':=by
 intro φ a w o c x cap Q h1 h2 h3 h4 h5 h6;refine Oper.wp_mono ?_ (h φ a w o c x cap Q h1 h2 h3 h4 (h5.sub hs) h6);rintro a' w' ⟨φ',y,e,hv,hg,st,r1,r2⟩
 have hle:φ.le φ':=by
  refine⟨fun j b hj=>?_,st.zle⟩
  rcases Nat.lt_or_ge j n with hjn|hjn
  ·rw[r1 j hjn];exact hj
  ·rw[h6 j hjn] at hj;cases hj
 obtain⟨g1,g2⟩:=Ab.frame h5 hs hg st hle hM;exact⟨φ',y,e,hv,g1,g2,r1,r2⟩
end Ab
end Go.Proofs.YtbokilgdefkmiaaGreatDoor
namespace Go.Proofs.YtbokilgdefkmiaaGreatDoor
open Go Ab
set_option maxRecDepth 100000
set_option maxHeartbeats 4000000
set_option maxRecDepth 100000
set_option maxHeartbeats 4000000
set_option maxRecDepth 100000
set_option maxHeartbeats 4000000
set_option maxRecDepth 100000
set_option maxHeartbeats 1000000
theorem pathAt_c (p:List Nd) (hw:wfN p) (i:Nat) (hi:i<p.length):
 FC Tryz.prog 92 [.s (.ptr (some (0,0))),nI i] 1 (anP p) (ptV (parseP (p.getD i dN).str).1) 1 (anP p):=by
 have hpp:=parseP_c (p.getD i dN).str (wf_get hw i);refine FC.walk (by kernel_rfl) Tryz.func92 rfl rfl ?_
 repeat'(first|exact y0|refine y1 ?_|refine y2 ?_ ?_|(refine y8 ?_ ?_<;>intro h<;>try exact y6)|(refine wC ?_;first|refine wF 144 (pu hpp ?_))|exact⟨.inl rfl,_,[],VLe.refl _,EndOK.by rfl ⟨rfl,trivial⟩ rfl rfl rfl rfl⟩|refine y3 ?_|refine y7 ?_ ?_|refine y4 ?_|(refine y9 ?_ ?_<;>intro h)|exact y5|fail)
inductive Fo where
 |nil
 |cons (x:Nd) (k n:Fo)
def Fo.flat:Fo→List Nd
 | .nil=>[]
 | .cons x k n=>x::(k.flat++n.flat)
def Fo.cnt:Fo→Nat
 | .nil=>0
 | .cons _ _ n=>n.cnt+1
def Fo.size:Fo→Nat
 | .nil=>0
 | .cons _ k n=>1+k.size+n.size
def Fo.dep:Fo→Nat
 | .nil=>0
 | .cons _ k n=>max (1+k.dep) n.dep
def Fo.At (p:List Nd):Fo→Nat→Prop
 | .nil,_=>True
 | .cons x k n,i=>p[i]? =some x∧x.kids=(k.cnt:Int)∧k.At p (i+1)∧n.At p (i+1+k.size)
def slots (ks:By):List (Bool×Int):=ks.map fun c=>(isBlkB (c.toNat:Int),(c.toNat:Int))
def Fo.V:Fo→List (Bool×Int)→Prop
 | .nil,[]=>True
 | .cons x k n,(true,c)::cs=>(x.op=4∧x.int=0∧x.str=[])∧k.V (List.replicate k.cnt (false,c))∧n.V cs
 | .cons x k n,(false,c)::cs=>(accB c x.op=true∧fieldsB x c=true∧(kindsB x.op x.kids).2=true)∧k.V (slots (kindsB x.op x.kids).1)∧n.V cs
 |_,_=>False
theorem Fo.V_cnt:∀ {t:Fo} {cs:List (Bool×Int)},t.V cs→t.cnt=cs.length
 | .nil,[],_=>rfl
 | .nil,_::_,h=>h.elim
 | .cons x k n,[],h=>by simp[V] at h
 | .cons x k n,(true,c)::cs,h=>by simp only[cnt,List.length_cons,V_cnt h.2.2]
 | .cons x k n,(false,c)::cs,h=>by simp only[cnt,List.length_cons,V_cnt h.2.2]
theorem Fo.cnt_le:∀ t:Fo,t.cnt≤t.size
 | .nil=>Nat.le_refl _
 | .cons x k n=>by have:=cnt_le n;simp only[cnt,size];omega
def TreeAt (p:List Nd) (sl:Bool×Int) (f i e:Nat):Prop:=∃ x k,(Fo.cons x k .nil).At p i∧(Fo.cons x k .nil).V [sl]∧k.dep<f∧e=i+1+k.size
def ForestAt (p:List Nd) (cs:List (Bool×Int)) (f i e:Nat):Prop:=∃ t:Fo,t.At p i∧t.V cs∧t.dep≤f∧e=i+t.size
theorem ForestAt.cons {p:List Nd} {sl:Bool×Int} {cs:List (Bool×Int)} {f i e e':Nat} (h:TreeAt p sl f i e) (r:ForestAt p cs f e e'):ForestAt p (sl::cs) f i e':=by
 obtain⟨x,k,h1,h2,h3,rfl⟩:=h;obtain⟨t,r1,r2,r3,rfl⟩:=r;refine⟨.cons x k t,⟨h1.1,h1.2.1,h1.2.2.1,r1⟩,?_,?_,?_⟩
 ·obtain⟨b,c⟩:=sl
  cases b
  ·exact⟨h2.1,h2.2.1,r2⟩
  ·exact⟨h2.1,h2.2.1,r2⟩
 ·simp only[Fo.dep];omega
 ·simp only[Fo.size];omega
theorem ForestAt.nil (p:List Nd) (f i:Nat):ForestAt p [] f i i:=⟨.nil,trivial,trivial,Nat.zero_le _,rfl⟩
theorem ForestAt.block {p:List Nd} {sl:Bool×Int} {f:Nat} {rec:Nat→Option Nat} (hr:∀ i e,rec i=some e→TreeAt p sl f i e):∀ (k i e:Nat),blockF rec k i=some e→ForestAt p (List.replicate k sl) f i e
 |0,i,e,h=>by simp only[blockF,Option.some.injEq] at h;subst h;exact ForestAt.nil ..
 |k+1,i,e,h=>by
  simp only[blockF] at h;split at h
  ·rename_i e1 h1
   exact ForestAt.cons (hr _ _ h1) (ForestAt.block hr k e1 e h)
  ·cases h
theorem ForestAt.kids {p:List Nd} {f:Nat} {ch:Int→Nat→Option Nat} (hch:∀ k i e,ch k i=some e→TreeAt p (isBlkB k,k) f i e):∀ (ks:By) (i e:Nat),kidsF ch ks i=some e→ForestAt p (slots ks) f i e
 |[],i,e,h=>by simp only[kidsF,Option.some.injEq] at h;subst h;exact ForestAt.nil ..
 |k::ks,i,e,h=>by
  simp only[kidsF] at h;split at h
  ·rename_i e1 h1
   exact ForestAt.cons (hch _ _ _ h1) (ForestAt.kids hch ks e1 e h)
  ·cases h
def TreeP (p:List Nd) (f:Nat) (E:Nat→Int→Option Nat):Prop:=∀ i k e,E i k=some e→TreeAt p (false,k) f i e
theorem TreeP.elemS {p:List Nd} {ok:Bool} {f:Nat} {E0 E1:Nat→Int→Option Nat} (h0:TreeP p f E0) (h1:ok=true→TreeP p (f-1) E1) (hf:ok=true→1≤f):TreeP p (f+1) (elemS p ok E0 E1):=by
 intro i k e h;unfold Go.Proofs.YtbokilgdefkmiaaGreatDoor.elemS at h;split at h
 ·cases h
 ·rename_i x hx
  split at h
  ·rename_i hc
   have hk:=kinds_len _ _ hc.2.2
   obtain⟨t,t1,t2,t3,t4⟩:=ForestAt.kids (p:=p) (f:=f) (fun k i e hch=>(by
    unfold childF at hch;split at hch
    ·rename_i hb
     split at hch
     ·cases hch
     ·rename_i y hy
      split at hch
      ·rename_i hyb
       obtain⟨b1,b2,b3,b4,b5⟩:=hyb;obtain⟨t,t1,t2,t3,t4⟩:=ForestAt.block (fun i e h=>h1 b1 i k e h) _ _ _ hch;have hcnt:=Fo.V_cnt t2;rw[List.length_replicate] at hcnt;rw[hb];refine⟨y,t,⟨hy,by rw[hcnt];omega,t1,trivial⟩,⟨⟨b2,b3,b4⟩,by rw[hcnt];exact t2,trivial⟩,?_,by omega⟩;have:=hf b1;omega
      ·cases hch
    ·rename_i hb
     have hb:isBlkB k=false:=by simpa using hb
     rw[hb]
     exact h0 i k e hch)) _ _ _ h
   have hcnt:=Fo.V_cnt t2;rw[slots,List.length_map] at hcnt;exact⟨x,t,⟨hx,by rw[hcnt,hk],t1,trivial⟩,⟨hc,t2,trivial⟩,by omega,by omega⟩
  ·cases h
theorem TreeP.elemF {p:List Nd}:∀ f,TreeP p f (Go.Proofs.YtbokilgdefkmiaaGreatDoor.elemF p f)∧TreeP p (f+1) (Go.Proofs.YtbokilgdefkmiaaGreatDoor.elemF p (f+1))
 |0=>by
  refine⟨fun i k e h=>(by cases h),?_⟩;rw[elemF_succ];exact TreeP.elemS (fun i k e h=>by cases h) (fun h=>by simp at h) (fun h=>by simp at h)
 |f+1=>by
  have ih:=TreeP.elemF (p:=p) f;refine⟨ih.2,?_⟩;rw[elemF_succ];exact TreeP.elemS ih.2 (fun _=>ih.1) (fun _=>by omega)
theorem top_forest {p:List Nd}:∀ (n i:Nat),i≤p.length→topF p n i=true→∃ t:Fo,t.At p i∧t.V (List.replicate t.cnt (false,68))∧t.dep≤32∧p.length=i+t.size
 |0,i,_,h=>by cases h
 |n+1,i,hi,h=>by
  simp only[topF] at h;split at h
  ·rename_i hlt
   split at h
   ·rename_i e he
    obtain⟨x,k,h1,h2,h3,h4⟩:=(TreeP.elemF (p:=p) 32).1 i 68 e he;obtain⟨t,t1,t2,t3,t4⟩:=top_forest n e (elemF_le he).2 h;subst h4;refine⟨.cons x k t,⟨h1.1,h1.2.1,h1.2.2.1,t1⟩,⟨h2.1,h2.2.1,t2⟩,?_,?_⟩
    ·simp only[Fo.dep];omega
    ·simp only[Fo.size];omega
   ·cases h
  ·rename_i hge
   exact⟨.nil,trivial,trivial,Nat.zero_le _,by simp only[Fo.size];omega⟩
theorem valid_forest {p:List Nd} (h:validN p=true):p.length≤2048∧∃ t:Fo,t.At p 0∧t.V (List.replicate t.cnt (false,68))∧t.dep≤32∧t.size=p.length:=by
 unfold validN at h;simp only[Bool.and_eq_true,decide_eq_true_eq] at h;obtain⟨t,t1,t2,t3,t4⟩:=top_forest _ 0 (Nat.zero_le _) h.2;exact⟨h.1,t,t1,t2,t3,by omega⟩
theorem At.lt {p:List Nd} {x:Nd} {k n:Fo} {i:Nat} (h:(Fo.cons x k n).At p i):i<p.length:=by
 rcases Nat.lt_or_ge i p.length with q|q
 ·exact q
 ·have:=h.1;rw[List.getElem?_eq_none q] at this;cases this
theorem At.get {p:List Nd} {x:Nd} {k n:Fo} {i:Nat} (h:(Fo.cons x k n).At p i):p.getD i dN=x:=by
 rw[List.getD_eq_getElem?_getD,h.1];rfl
theorem At.ends {p:List Nd}:∀ {t:Fo} {i m e:Nat},t.At p i→Ends p e m (i+t.size)→Ends p e (m+t.cnt) i
 | .nil,i,m,e,_,r=>r
 | .cons x k n,i,m,e,h,r=>by
   have hk:(p.getD i dN).kids=(k.cnt:Nat):=by rw[At.get h];exact h.2.1
   have r1:Ends p e (m+n.cnt) (i+1+k.size):=At.ends h.2.2.2 (by simp only[Fo.size] at r;rw[show i+1+k.size+n.size=i+(1+k.size+n.size) by omega];exact r);have r2:Ends p e (m+n.cnt+k.cnt) (i+1):=At.ends h.2.2.1 r1;exact Ends.step (At.lt h) k.cnt hk r2
theorem At.ends1 {p:List Nd} {x:Nd} {k n:Fo} {i:Nat} (h:(Fo.cons x k n).At p i):Ends p (i+1+k.size) 1 i:=by
 have h1:(Fo.cons x k .nil).At p i:=⟨h.1,h.2.1,h.2.2.1,trivial⟩
 have:=At.ends (m:=0) (e:=i+1+k.size) h1 (by simp only[Fo.size];rw[show i+(1+k.size+0)=i+1+k.size by omega];exact Ends.done)
 simpa [Fo.cnt] using this
def Fo.starts:Fo→Nat→List Nat
 | .nil,_=>[]
 | .cons _ k n,i=>i::n.starts (i+1+k.size)
theorem starts_len:∀ (t:Fo) (i:Nat),(t.starts i).length=t.cnt
 | .nil,_=>rfl
 | .cons x k n,i=>by simp only[Fo.starts,List.length_cons,starts_len n,Fo.cnt]
theorem At.chain {p:List Nd}:∀ {t:Fo} {i:Nat},t.At p i→Chain p (i+t.size) i (t.starts i)
 | .nil,i,_=>Chain.nil
 | .cons x k n,i,h=>by
   refine Chain.cons (At.ends1 h) ?_;have:=At.chain h.2.2.2;simp only[Fo.size];rw[show i+1+k.size+n.size=i+(1+k.size+n.size) by omega] at this;exact this
theorem At.size_le {p:List Nd}:∀ {t:Fo} {i:Nat},i≤p.length→t.At p i→i+t.size≤p.length
 | .nil,i,hi,_=>hi
 | .cons x k n,i,hi,h=>by
   have h1:=At.lt h;have h2:=At.size_le h1 h.2.2.1;have:=At.size_le h2 h.2.2.2;simp only[Fo.size];omega
end Go.Proofs.YtbokilgdefkmiaaGreatDoor
namespace Go.Proofs.YtbokilgdefkmiaaGreatDoor
open Go.Shelf Go.RowKit
def Tryz.lays156_ren:Go.Shelf.Ren:=⟨fun|156=>182|165=>197|166=>198|169=>200|240=>211|241=>212|276=>215|277=>216|n=>n,fun|31=>56|9=>9|3=>3|4=>4|0=>0|20=>20|72=>217|76=>220|70=>215|37=>184|75=>219|127=>232|164=>234|5=>5|80=>95|n=>n,fun|n=>n⟩
theorem Tryz.lays156:Go.Proofs.Lays.n156 Tryz.prog Tryz.lays156_ren:={
 mixed:=by kernel_rfl
 f156:=Tryz.func182.trans (congrArg some (by kernel_rfl))
 f165:=Tryz.func197.trans (congrArg some (by kernel_rfl))
 f166:=Tryz.func198.trans (congrArg some (by kernel_rfl))
 f169:=Tryz.func200.trans (congrArg some (by kernel_rfl))
 f240:=Tryz.func211.trans (congrArg some (by kernel_rfl))
 f241:=Tryz.func212.trans (congrArg some (by kernel_rfl))
 f276:=Tryz.func215.trans (congrArg some (by kernel_rfl))
 f277:=Tryz.func216.trans (congrArg some (by kernel_rfl))
 t0:=Tryz.underlying0
 a0:=Tryz.isAgg0
 z0:=Tryz.sizeOf0
 v0:=Tryz.zeroValue0
 t3:=Tryz.underlying3
 a3:=Tryz.isAgg3
 z3:=Tryz.sizeOf3
 v3:=Tryz.zeroValue3
 t4:=Tryz.underlying4
 a4:=Tryz.isAgg4
 z4:=Tryz.sizeOf4
 v4:=Tryz.zeroValue4
 t9:=Tryz.underlying9
 a9:=Tryz.isAgg9
 z9:=Tryz.sizeOf9
 v9:=Tryz.zeroValue9
 t20:=Tryz.underlying20
 a20:=Tryz.isAgg20
 z20:=Tryz.sizeOf20
 v20:=Tryz.zeroValue20
 t31:=Tryz.underlying56
 a31:=Tryz.isAgg56
 z31:=Tryz.sizeOf56
 v31:=Tryz.zeroValue56
 t37:=Tryz.underlying184
 a37:=Tryz.isAgg184
 z37:=Tryz.sizeOf184
 v37:=Tryz.zeroValue184
 t70:=Tryz.underlying215
 a70:=Tryz.isAgg215
 z70:=Tryz.sizeOf215
 v70:=Tryz.zeroValue215
 t72:=Tryz.underlying217
 a72:=Tryz.isAgg217
 z72:=Tryz.sizeOf217
 v72:=Tryz.zeroValue217
 t75:=Tryz.underlying219
 a75:=Tryz.isAgg219
 z75:=Tryz.sizeOf219
 v75:=Tryz.zeroValue219
 t76:=Tryz.underlying220
 a76:=Tryz.isAgg220
 z76:=Tryz.sizeOf220
 v76:=Tryz.zeroValue220
 t127:=Tryz.underlying232
 a127:=Tryz.isAgg232
 z127:=Tryz.sizeOf232
 v127:=Tryz.zeroValue232
 t164:=Tryz.underlying234
 a164:=Tryz.isAgg234
 z164:=Tryz.sizeOf234
 v164:=Tryz.zeroValue234}
theorem Tryz.Builder_Extra_156:Builder.Extra Tryz.prog Tryz.lays156_ren:={
 sizeBuilder:=by kernel_rfl
 liesBuilder:=by kernel_rfl
 t5:=Tryz.underlying5
 a5:=Tryz.isAgg5
 z5:=Tryz.sizeOf5
 v5:=Tryz.zeroValue5
 infoByte:=by kernel_rfl
 cellsByte:=by kernel_rfl
 sizeByte:=by kernel_rfl
 neB5:=by decide}
open Go.RowKit in
theorem Tryz.strings_Join_none (a:Option Addr) (c:Nat) (sep:ByteArray) (w:World):
 Calls Tryz.prog 182 #[.slice a 0 c,.string sep] w fun e w'=>e=.returned (.string ⟨#[]⟩)∧w'=w:=Any.strings_Join_none Tryz.lays156 Tryz.Builder_Extra_156 a c sep w
open Go.RowKit in
theorem Tryz.strings_Join (bk o c:Nat) (xs:List ByteArray) (sep:ByteArray) (w:World) (hcells:∀ (j:Nat) x,xs[j]? =some x→w.cell? ⟨bk,o+j,none⟩=some (.string x)) (hbk:bk<w.heap.size) (hN:xs.length≤140737488355328) (hcap:xs.length≤c) (hlen:(Lib.join (xs.map (·.data.toList)) sep.data.toList).length≤140737488355328):
 Calls Tryz.prog 182 #[.slice (some ⟨bk,o,none⟩) xs.length c,.string sep] w fun e w'=>e=.returned (.string ⟨(Lib.join (xs.map (·.data.toList)) sep.data.toList).toArray⟩)∧Below w.heap.size w w':=Any.strings_Join Tryz.lays156 Tryz.Builder_Extra_156 bk o c xs sep w hcells hbk hN hcap hlen
end Go.Proofs.YtbokilgdefkmiaaGreatDoor
namespace Go.Proofs.YtbokilgdefkmiaaGreatDoor
open Go Ab
set_option maxRecDepth 100000
set_option maxHeartbeats 1000000
theorem sjoin_c (l:List By) (sep:By) (hN:l.length≤140737488355328) (hlen:(Lib.join l sep).length≤140737488355328):FC Tryz.prog 182 [.s (strsF l),sV sep] 0 [] (sV (Lib.join l sep)) 0 []:=by
 refine FC.below (by kernel_rfl) fun φ xs w hx hg=>?_
 match xs,hx with
 |[a,b],⟨h1,h2,_⟩=>
  have h2:b=.string ⟨sep.toArray⟩:=h2;subst h2;have h1:Pr φ.z (strsF l) a:=h1;unfold strsF at h1;generalize hn:l.length=n at h1
  cases h1 with
  |nil _ _ ad k hk=>
   have hl:l=[]:=List.length_eq_zero_iff.1 hn;subst hl;refine (Tryz.strings_Join_none ad k ⟨sep.toArray⟩ w).mono ?_;rintro e w' ⟨rfl,rfl⟩;exact⟨_,rfl,fun _ _=>rfl,Go.RowKit.Below.refl _ _⟩
  |frz _ _ _ bk o k vs hz hle val hl hv hpx=>
   obtain⟨⟨ty,fr,hb⟩,_⟩:=hg.fz bk vs hz
   have hcell:∀ (j:Nat) x,(l.map fun s=>(⟨s.toArray⟩:ByteArray))[j]? =some x→w.cell? ⟨bk,o+j,none⟩=some (.string x):=by
    intro j x hj;rw[List.getElem?_map] at hj
    have hjl:j<l.length:=by
     rcases Nat.lt_or_ge j l.length with q|q
     ·exact q
     ·rw[List.getElem?_eq_none q] at hj;cases hj
    rw[List.getElem?_eq_getElem hjl] at hj;simp only[Option.map_some,Option.some.injEq] at hj;have e0:([S.str (l.getD j [])]:List S)[0]? =some (.str (l.getD j [])):=rfl;have h3:=hv j 0 _ (by omega) e0;have h4:=hpx j 0 _ (by omega) e0
    have h5:val j 0=.string ⟨(l.getD j []).toArray⟩:=by
     generalize val j 0=y at h4;cases h4;rfl
    rw[Nat.mul_one,Nat.add_zero,h5] at h3;simp only[World.cell?,hb,Option.isSome_none,Bool.false_eq_true,if_false,List.getElem?_toArray];rw[h3,←hj,List.getD_eq_getElem?_getD,List.getElem?_eq_getElem hjl];rfl
   have hmap:(l.map fun s=>(⟨s.toArray⟩:ByteArray)).map (·.data.toList)=l:=by rw[List.map_map];simp[Function.comp_def]
   have:=Tryz.strings_Join bk o k (l.map fun s=>(⟨s.toArray⟩:ByteArray)) ⟨sep.toArray⟩ w hcell (hg.fzlt hz) (by simpa using hN) (by simp;omega) (by rw[hmap];simpa using hlen);rw[hmap,List.length_map,hn] at this;refine this.mono ?_;rintro e w' ⟨rfl,hbl⟩;exact⟨_,rfl,fun _ _=>rfl,hbl⟩
theorem repeat0_c (s:By):FC Tryz.prog 181 [sV s,nI 0] 0 [] (sV []) 0 []:=by
 refine FC.walk (by kernel_rfl) Tryz.func181 rfl rfl ?_
 repeat'(first|exact y0|refine y1 ?_|refine y2 ?_ ?_|(refine y8 ?_ ?_<;>intro h<;>try exact y6)|refine Fin.str (.inl rfl) rfl rfl|refine y3 ?_|refine y7 ?_ ?_|refine y4 ?_|(refine y9 ?_ ?_<;>intro h)|exact y5|fail)
def fmtP (p:Pth):By:=if validP p then (if p.root then [92] else List.replicate p.up.toNat 94)++Lib.join p.segs [46] else []
theorem isSeg_len {s:By} (h:isSeg s=true):1≤s.length∧s.length≤4:=by
 unfold isSeg at h;simp only[Bool.and_eq_true,decide_eq_true_eq] at h;exact h.1
theorem join_le:∀ {l:List By},l.all isSeg=true→(Lib.join l [46]).length≤5*l.length
 |[],_=>by simp[Lib.join]
 |[x],h=>by
  simp only[List.all_cons,List.all_nil,Bool.and_true] at h;have:=isSeg_len h;simp[Lib.join];omega
 |x::y::l,h=>by
  have h1:isSeg x=true∧(y::l).all isSeg=true:=by simpa using h
  have:=isSeg_len h1.1;have ih:=join_le h1.2
  have e:Lib.join (x::y::l) [46]=x++46::Lib.join (y::l) [46]:=by simp[Lib.join,List.intercalate]
  rw[e];simp only[List.length_append,List.length_cons] at ih ⊢;omega
theorem fmt_u (up:Int) (segs:List By):FC Tryz.prog 140 [.agg [.bool true,.int .i64 up,strsF segs]] 0 [] (sV (fmtP ⟨true,up,segs⟩)) 0 []:=by
 have hv:=validP_u true up segs;refine FC.walk (by kernel_rfl) Tryz.func140 rfl rfl ?_
 cases h1:validP ⟨true,up,segs⟩<;>rw[h1] at hv
 ·
  repeat'(first|exact y0|refine y1 ?_|refine y2 ?_ ?_|(refine y8 ?_ ?_<;>intro h<;>try exact y6)|(refine wC ?_;first|refine wF 178 (bo hv ?_))|refine Fin.str (.inl rfl) rfl ?_|refine y3 ?_|refine y7 ?_ ?_|refine y4 ?_|(refine y9 ?_ ?_<;>intro h)|exact y5|fail)
  unfold fmtP;rw[h1];rfl
 ·
  obtain⟨v1,v2,v3,v4,v5,v6⟩:=valid_facts h1;simp only at v1 v2 v3 v4 v5 v6;have hu:=v4 trivial;subst hu;have hjl:=join_le v5;have hj:=sjoin_c segs [46] (by omega) (by omega);have hr:=repeat0_c [94]
  repeat'(first|exact y0|refine y1 ?_|refine y2 ?_ ?_|(refine y8 ?_ ?_<;>intro h<;>try exact y6)|(refine wC ?_;first|refine wF 178 (bo hv ?_)|refine wF 181 (pu hr ?_)|refine wF 182 (pu hj ?_))|refine Fin.str (.inl rfl) rfl ?_|refine y3 ?_|refine y7 ?_ ?_|refine y4 ?_|(refine y9 ?_ ?_<;>intro h)|exact y5|fail)
  ·show ((1+(Lib.join segs [46]).length:Nat):Int)≤9223372036854775807
   omega
  ·unfold fmtP;rw[h1];rfl
theorem fmt_c (p:Pth) (h:p.root=true):FC Tryz.prog 140 [ptV p] 0 [] (sV (fmtP p)) 0 []:=by
 obtain⟨r,u,s⟩:=p;simp only at h;subst h;exact fmt_u u s
set_option maxRecDepth 100000
set_option maxHeartbeats 1000000
set_option maxRecDepth 100000
set_option maxHeartbeats 4000000
set_option maxRecDepth 100000
set_option maxHeartbeats 2000000
set_option maxRecDepth 100000
set_option maxHeartbeats 2000000
abbrev Rw:=Int×By×By
def rwC (r:Rw):List S:=[.int .i64 r.1,.str r.2.1,.str r.2.2]
def dR:Rw:=(0,[],[])
def rowsL:List Rw:=[(10,[83,99,111,112,101],[110,68]),(11,[68,101,118,105,99,101],[115,68]),(12,[80,111,119,101,114,82,101,115,111,117,114,99,101],[115,105,105,68]),(13,[78,97,109,101],[115,100]),(14,[77,101,116,104,111,100],[115,105,105,105,83]),(15,[79,112,101,114,97,116,105,111,110,82,101,103,105,111,110],[115,105,105,105]),(16,[70,105,101,108,100],[110,105,105,70]),(17,[73,110,100,101,120,70,105,101,108,100],[110,110,105,105,70]),(18,[85,110,105,116],[115,105]),(19,[83,107,105,112],[105]),(20,[77,117,116,101,120],[115,105]),(21,[69,118,101,110,116],[115]),(30,[83,116,111,114,101],[101,116]),(31,[73,102],[101,83]),(32,[87,104,105,108,101],[101,83]),(33,[82,101,116,117,114,110],[]),(34,[66,114,101,97,107],[]),(35,[67,111,110,116,105,110,117,101],[]),(36,[82,101,108,101,97,115,101],[110]),(37,[83,105,103,110,97,108],[110]),(38,[82,101,115,101,116],[110]),(39,[83,108,101,101,112],[101]),(40,[78,111,116,105,102,121],[110,101]),(41,[65,99,113,117,105,114,101],[110,105]),(42,[87,97,105,116],[110,101]),(50,[66,117,102,102,101,114],[105,73]),(51,[80,97,99,107,97,103,101],[105,80]),(85,[82,101,102,79,102],[116]),(87,[79,98,106,101,99,116,84,121,112,101],[116]),(86,[67,111,110,100,82,101,102,79,102],[110]),(88,[77,105,100],[101,101,101]),(60,[65,100,100],[101,101]),(61,[83,117,98,116,114,97,99,116],[101,101]),(62,[77,117,108,116,105,112,108,121],[101,101]),(63,[68,105,118,105,100,101],[101,101]),(64,[77,111,100],[101,101]),(65,[65,110,100],[101,101]),(66,[79,114],[101,101]),(67,[88,111,114],[101,101]),(68,[83,104,105,102,116,76,101,102,116],[101,101]),(69,[83,104,105,102,116,82,105,103,104,116],[101,101]),(70,[76,65,110,100],[101,101]),(71,[76,79,114],[101,101]),(72,[76,69,113,117,97,108],[101,101]),(73,[76,76,101,115,115],[101,101]),(74,[76,71,114,101,97,116,101,114],[101,101]),(75,[67,111,110,99,97,116,101,110,97,116,101],[101,101]),(76,[73,110,100,101,120],[101,101]),(77,[78,111,116],[101]),(78,[76,78,111,116],[101]),(79,[83,105,122,101,79,102],[101]),(80,[84,111,73,110,116,101,103,101,114],[101]),(81,[84,111,66,117,102,102,101,114],[101]),(82,[84,111,72,101,120,83,116,114,105,110,103],[101]),(83,[84,111,68,101,99,105,109,97,108,83,116,114,105,110,103],[101]),(84,[68,101,114,101,102,79,102],[101])]
def noOv:FuncId→List V→Nat→T Bl→Option KC:=fun _ _ _ _=>none
theorem noOv_ok (P:Program):OvOK P noOv:=fun f args n h r hr=>by cases hr
theorem rows_run:SC Tryz.prog 114 [] 0 (puts [] (toW [])) (.s (.sla 76 77 56)) 78 (puts [] (toW [(76,⟨[.int .i64 10,.str [83,99,111,112,101],.str [110,68],.int .i64 11,.str [68,101,118,105,99,101],.str [115,68],.int .i64 12,.str [80,111,119,101,114,82,101,115,111,117,114,99,101],.str [115,105,105,68],.int .i64 13,.str [78,97,109,101],.str [115,100],.int .i64 14,.str [77,101,116,104,111,100],.str [115,105,105,105,83],.int .i64 15,.str [79,112,101,114,97,116,105,111,110,82,101,103,105,111,110],.str [115,105,105,105],.int .i64 16,.str [70,105,101,108,100],.str [110,105,105,70],.int .i64 17,.str [73,110,100,101,120,70,105,101,108,100],.str [110,110,105,105,70],.int .i64 18,.str [85,110,105,116],.str [115,105],.int .i64 19,.str [83,107,105,112],.str [105],.int .i64 20,.str [77,117,116,101,120],.str [115,105],.int .i64 21,.str [69,118,101,110,116],.str [115],.int .i64 30,.str [83,116,111,114,101],.str [101,116],.int .i64 31,.str [73,102],.str [101,83],.int .i64 32,.str [87,104,105,108,101],.str [101,83],.int .i64 33,.str [82,101,116,117,114,110],.str [],.int .i64 34,.str [66,114,101,97,107],.str [],.int .i64 35,.str [67,111,110,116,105,110,117,101],.str [],.int .i64 36,.str [82,101,108,101,97,115,101],.str [110],.int .i64 37,.str [83,105,103,110,97,108],.str [110],.int .i64 38,.str [82,101,115,101,116],.str [110],.int .i64 39,.str [83,108,101,101,112],.str [101],.int .i64 40,.str [78,111,116,105,102,121],.str [110,101],.int .i64 41,.str [65,99,113,117,105,114,101],.str [110,105],.int .i64 42,.str [87,97,105,116],.str [110,101],.int .i64 50,.str [66,117,102,102,101,114],.str [105,73],.int .i64 51,.str [80,97,99,107,97,103,101],.str [105,80],.int .i64 85,.str [82,101,102,79,102],.str [116],.int .i64 87,.str [79,98,106,101,99,116,84,121,112,101],.str [116],.int .i64 86,.str [67,111,110,100,82,101,102,79,102],.str [110],.int .i64 88,.str [77,105,100],.str [101,101,101],.int .i64 60,.str [65,100,100],.str [101,101],.int .i64 61,.str [83,117,98,116,114,97,99,116],.str [101,101],.int .i64 62,.str [77,117,108,116,105,112,108,121],.str [101,101],.int .i64 63,.str [68,105,118,105,100,101],.str [101,101],.int .i64 64,.str [77,111,100],.str [101,101],.int .i64 65,.str [65,110,100],.str [101,101],.int .i64 66,.str [79,114],.str [101,101],.int .i64 67,.str [88,111,114],.str [101,101],.int .i64 68,.str [83,104,105,102,116,76,101,102,116],.str [101,101],.int .i64 69,.str [83,104,105,102,116,82,105,103,104,116],.str [101,101],.int .i64 70,.str [76,65,110,100],.str [101,101],.int .i64 71,.str [76,79,114],.str [101,101],.int .i64 72,.str [76,69,113,117,97,108],.str [101,101],.int .i64 73,.str [76,76,101,115,115],.str [101,101],.int .i64 74,.str [76,71,114,101,97,116,101,114],.str [101,101],.int .i64 75,.str [67,111,110,99,97,116,101,110,97,116,101],.str [101,101],.int .i64 76,.str [73,110,100,101,120],.str [101,101],.int .i64 77,.str [78,111,116],.str [101],.int .i64 78,.str [76,78,111,116],.str [101],.int .i64 79,.str [83,105,122,101,79,102],.str [101],.int .i64 80,.str [84,111,73,110,116,101,103,101,114],.str [101],.int .i64 81,.str [84,111,66,117,102,102,101,114],.str [101],.int .i64 82,.str [84,111,72,101,120,83,116,114,105,110,103],.str [101],.int .i64 83,.str [84,111,68,101,99,105,109,97,108,83,116,114,105,110,103],.str [101],.int .i64 84,.str [68,101,114,101,102,79,102],.str [101]],121,true,false,false,false,(some (77,3)),none,none⟩)])):=
 SC.ofRunQ hm (noOv_ok _) (lf:=1000) (d:=10) Tryz.func114 rfl (by kernel_rfl) (by kernel_rfl) (by kernel_rfl)
theorem rows_c:FC Tryz.prog 114 [] 0 [] (.s (.frz (fun k=>rwC (rowsL.getD k dR)) 3 56)) 0 []:=by
 refine⟨by kernel_rfl,SC.froz rows_run (fun k=>rwC (rowsL.getD k dR)) 3 (i:=76) rfl rfl rfl (fun _ _=>rfl) (fun k j x hk hx=>⟨?_,?_⟩) (fun φ ψ x h hx=>h _ x rfl hx)⟩
 ·exact flat_get rwC 3 dR (fun _=>rfl) (l:=rowsL) hk hx
 ·rcases j with _|_|_|j
  ·cases hx;rfl
  ·cases hx;rfl
  ·cases hx;rfl
  ·simp[rwC] at hx
set_option maxRecDepth 100000
set_option maxHeartbeats 4000000
def rowG1 (op:Int):List Rw→Rw×Bool
 |[]=>(dR,false)
 |r::t=>if r.1=op then (r,true) else rowG1 op t
def rowF (op:Int):Rw×Bool:=rowG1 op rowsL
theorem rowOf_c (op:Int):FC Tryz.prog 75 [nI op] 0 [] (.tup [.agg (rwC (rowF op).1),.s (.bool (rowF op).2)]) 0 []:=by
 refine FC.walk (by kernel_rfl) Tryz.func75 rfl rfl ?_;have hl:rowsL.length=56:=rfl;unfold rowF;generalize hR:rowG1 op rowsL=R
 repeat'(first|exact y0|refine y1 ?_|refine y2 ?_ ?_|(refine y8 ?_ ?_<;>intro h<;>try exact y6)|(refine wC ?_;first|refine wF 114 (pu rows_c ?_))|refine y3 ?_|refine y7 ?_ ?_|refine y4 ?_|(refine y9 ?_ ?_<;>intro h)|exact y5|fail)
 generalize rowsL=rl at*;refine Ex.inv (σ:=Nat) (fun j=>[(5,nI j)]) (fun _=>[(0,some {cells:=[.int .i64 0,.str [],.str []],ty:=121})]) (fun j=>j≤56∧rowG1 op (rl.drop j)=R) (fun j=>56-j) 0 rfl (fun _=>rfl) ⟨Nat.zero_le _,hR⟩ ⟨VLe.refl _,trivial⟩ ⟨rfl,trivial⟩ ?_;rintro j ⟨hj,hI⟩;by_cases h:j<56
 ·have hd:rl.drop j=rl.getD j dR::rl.drop (j+1):=by
   rw[List.drop_eq_getElem_cons (by omega),List.getD_eq_getElem?_getD,List.getElem?_eq_getElem (by omega)];rfl
  rw[hd] at hI;simp only[rowG1] at hI;by_cases ho:(rl.getD j dR).1=op
  ·rw[if_pos ho] at hI
   subst hI
   repeat'(first|exact y0|refine y1 ?_|refine y2 ?_ ?_|(refine y8 ?_ ?_<;>intro h<;>try(exact y6))|refine Fin.plain (.inl rfl) rfl ?_ rfl|refine y3 ?_|refine y7 ?_ ?_|refine y4 ?_|(refine y9 ?_ ?_<;>intro h)|exact y5|fail)
   all_goals rfl
  ·rw[if_neg ho] at hI
   repeat'(first|exact y0|refine y1 ?_|refine y2 ?_ ?_|(refine y8 ?_ ?_<;>intro h<;>try(exact y6))|refine y3 ?_|refine y7 ?_ ?_|refine y4 ?_|(refine y9 ?_ ?_<;>intro h)|exact y5|fail)
   refine LoopR.same (j+1) ⟨by omega,hI⟩ (by omega) rfl ⟨VLe.refl _,trivial⟩ ⟨rfl,trivial⟩ rfl rfl (by decide)
 ·rw[List.drop_eq_nil_of_le (by omega)] at hI
  subst hI
  repeat'(first|exact y0|refine y1 ?_|refine y2 ?_ ?_|(refine y8 ?_ ?_<;>intro h<;>try exact y6)|refine Fin.plain (.inl rfl) rfl ?_ rfl|refine y3 ?_|refine y7 ?_ ?_|refine y4 ?_|(refine y9 ?_ ?_<;>intro h)|exact y5|fail)
  all_goals rfl
set_option maxRecDepth 100000
set_option maxHeartbeats 4000000
set_option maxRecDepth 100000
set_option maxHeartbeats 4000000
abbrev ndB (g:Nat) (D:List Nd):Option Bl:=opB 31 (g+1) 4 (D.flatMap ndC)
theorem nd_np (r:List Nd):(r.flatMap ndC).all noPtr=true:=by
 induction r with
 |nil=>rfl
 |cons x r ih=>rw[List.flatMap_cons,List.all_append,ih];rfl
theorem nd_ne {r:List Nd} (h:r≠[]):r.flatMap ndC≠[]:=by
 cases r with
 |nil=>exact absurd rfl h
 |cons x r=>simp[ndC]
end Go.Proofs.YtbokilgdefkmiaaGreatDoor
