import Derived.Test.YtphdhedhhlfepaaGreatDoorCzC15
import Derived.Test.YtphdhedhhlfepaaGreatDoorCzC12
import Derived.Test.YtphdhedhhlfepaaGreatDoorCzC10
import Derived.Test.YtphdhedhhlfepaaGreatDoorRows
import Derived.KernelRfl
import Derived.Lib.Bytealg
set_option linter.unusedSimpArgs false
set_option linter.unusedVariables false
namespace Go.Proofs.YtphdhedhhlfepaaGreatDoor
namespace Ab
open Go
set_option maxRecDepth 100000
inductive Pl where
 |call (x:Operand) (args:List Operand)
 |light (f:(Operand→V)→Option V)
 |mem (ft:List Operand) (f:(Operand→V)→Nat→Hp→Option R)
inductive IB where
 |no
 |f (g:IntKind→Int→Int→Option S)
def intB (op:BinOp):IB:=
 match op with
 | .add=> .f fun k a b=>some (.int k (wrapF k (a+b)))
 | .sub=> .f fun k a b=>some (.int k (wrapF k (a-b)))
 | .eql=> .f fun _ a b=>some (.bool (eqI a b))
 | .neq=> .f fun _ a b=>some (.bool (notB (eqI a b)))
 | .lss=> .f fun _ a b=>some (.bool (ltI a b))
 | .leq=> .f fun _ a b=>some (.bool (notB (ltI b a)))
 | .gtr=> .f fun _ a b=>some (.bool (ltI b a))
 | .geq=> .f fun _ a b=>some (.bool (notB (ltI a b)))
 |_=> .no
def kNo:IntKind→Nat
 | .i8=>0| .i16=>1| .i32=>2| .i64=>3| .u8=>4| .u16=>5| .u32=>6| .u64=>7
theorem kNo_eq (a b:IntKind):Nat.beq (kNo a) (kNo b)=kEq a b:=by cases a<;>cases b<;>rfl
def kBinI (op:BinOp) (k:IntKind) (a:Int) (k':IntKind) (b:Int):Option S:=
 match intB op with
 | .f g=>match Nat.beq (kNo k) (kNo k') with|true=>g k a b|false=>none
 | .no=>kInt op k a k' b
theorem kBinI_eq (op:BinOp) (k:IntKind) (a:Int) (k':IntKind) (b:Int):kBinI op k a k' b=kInt op k a k' b:=by
 unfold kBinI
 cases op<;>first|rfl|(simp only[intB,kNo_eq,kInt,kIntE];done)|(simp only[intB,kNo_eq,kInt,kIntE];rfl)
def kBinQ (P:Program) (op:BinOp) (t:TypeId) (x y:V):Option S:=
 match x with
 | .s a=>
   match a with
   | .int k z=>
     match y with
     | .s b=>(match b with| .int k' z'=>kBinI op k z k' z'|_=>kBin P op t (wkV x) (wkV y))
     |_=>kBin P op t (wkV x) (wkV y)
   |_=>kBin P op t (wkV x) (wkV y)
 |_=>kBin P op t (wkV x) (wkV y)
theorem kBinQ_eq (P:Program) (op:BinOp) (t:TypeId) (x y:V):kBinQ P op t x y=kBin P op t (wkV x) (wkV y):=by
 unfold kBinQ;split
 ·split
  ·split
   ·split
    ·rw[kBinI_eq];rfl
    ·rfl
   ·rfl
  ·rfl
 ·rfl
def lgtV (s:Option S):Option V:=match s with|some s=>some (.s s)|none=>none
def outV (o:Option Out):Option V:=match o with|some o=>some o.r.v|none=>none
def asR (n:Nat) (v:Option V):Option R:=match v with|some v=>some ⟨[],v,[],n⟩|none=>none
theorem lgt_asR (n:Nat) (s:Option S):lgt n s=asR n (lgtV s):=by cases s<;>rfl
def isMapTy (P:Program) (t:TypeId):Bool:=match P.underlying t with|some (.map _ _)=>true|_=>false
def plan (P:Program) (o:Oper):Pl:=
 match o.op with
 | .move x=> .light fun g=>some (g x)
 | .assign x=> .light fun g=>some (g x)
 | .pick c a b=> .light fun g=>match g c with| .s (.bool t)=>(match t with|true=>some (g a)|false=>some (g b))|_=>none
 | .binOp op t x y _=> .light fun g=>match kBinQ P op t (g x) (g y) with|some s=>some (.s s)|none=>lgtV (kOpqB op (g x) (g y))
 | .unOp op _ x=> .light fun g=>lgtV (kUn op (g x))
 | .slice t x lo hi mx=> .light fun g=>lgtV (kSlice P 0 t (g x) (lo.map g) (hi.map g) (mx.map g))
 | .build t parts=> .light fun g=>outV (aBuild P 0 t (parts.toList.map fun (i,x)=>(i,g x)) [])
 | .field t x f=> .light fun g=>outV (aFieldV P 0 t (g x) f [])
 | .extract x i=> .light fun g=>aExt (g x) i
 | .fieldAddr s x f=> .light fun g=>outV (aField P 0 s (g x) f [])
 | .indexAddr t x ix=> .light fun g=>lgtV (kIdx P t (g x) (g ix))
 | .index t x ix=> .light fun g=>lgtV (kIndex P t (g x) (g ix))
 | .nilCheck x=> .light fun g=>outV (aNil 0 (g x) [])
 | .load t a=> .mem [a] fun g n L=>kLoad P n L t (g a)
 | .store t a x=> .mem [a] fun g n L=>kStore P n L t (g a) (g x)
 | .convert src dst x=> .mem [x] fun g n L=>kx P o g n L
 | .lookup t x ix ok=> .mem [x] fun g n L=>kLookup P n L t (g x) (g ix) ok
 | .mapUpdate t m k v=> .mem [m] fun g n L=>kMapUp P n L t (g m) (g k) (g v)
 | .range t x=> .mem [x] fun g n L=>kRange P n L t (g x)
 | .next x s=> .mem [x] fun g n L=>kNext n L (g x) s
 | .entry x=> .mem [x] fun g n L=>kEntry n L (g x)
 | .call c=>
   match c.callee with
   | .value x=> .call x c.args.toList
   | .builtin .len=>(match c.args.toList,c.argTypes[0]? with|[x],some t=>(match isMapTy P t with|true=> .mem c.args.toList fun g n L=>kx P o g n L|false=> .light fun g=>lgtV (aLen P t (g x)))|_,_=> .mem c.args.toList fun g n L=>kx P o g n L)
   | .builtin _=> .mem c.args.toList fun g n L=>kx P o g n L
   | .invoke _ _=> .mem [] fun g n L=>kx P o g n L
 |_=> .mem [] fun g n L=>kx P o g n L
theorem aBuild_n (P:Program) (n:Nat) (t:TypeId) (ps:List (Nat×V)):outR (aBuild P n t ps [])=asR n (outV (aBuild P 0 t ps [])):=by
 unfold aBuild
 repeat' split
 all_goals first|rfl|(simp only[lt_eq];rfl)
theorem aFieldV_n (P:Program) (n:Nat) (t:TypeId) (x:V) (f:Nat):outR (aFieldV P n t x f [])=asR n (outV (aFieldV P 0 t x f [])):=by
 unfold aFieldV
 repeat' split
 all_goals first|rfl|(simp only[lt_eq];rfl)
theorem aField_n (P:Program) (n:Nat) (t:TypeId) (x:V) (f:Nat):outR (aField P n t x f [])=asR n (outV (aField P 0 t x f [])):=by
 unfold aField
 repeat' split
 all_goals first|rfl|(simp only[lt_eq];rfl)
theorem aNil_n (n:Nat) (x:V):outR (aNil n x [])=asR n (outV (aNil 0 x [])):=by
 unfold aNil
 repeat' split
 all_goals first|rfl|(simp only[lt_eq];rfl)
def PlOK (P:Program) (o:Oper) (g:Operand→V):Pl→Prop
 | .call x args=>callee g o.op=fnOf (g x)∧argsOf g o.op=args.map g++capOf (g x)∧∀ n L,kx P o g n L=none
 | .light f=>callee g o.op=none∧∀ n L,kx P o g n L=asR n (f g)
 | .mem ft f=>callee g o.op=none∧kFoot o.op g=blks g ft∧∀ n L,kx P o g n L=f g n L
theorem plan_ok (P:Program) (o:Oper) (g:Operand→V):PlOK P o g (plan P o):=by
 unfold plan;split
 ·rename_i x ho;exact⟨by simp only[callee,ho],fun n L=>by simp only[kx,kop,ho];rfl⟩
 ·rename_i x ho;exact⟨by simp only[callee,ho],fun n L=>by simp only[kx,kop,ho];rfl⟩
 ·rename_i c a b ho
  refine⟨by simp only[callee,ho],fun n L=>?_⟩;simp only[kx,kop,ho]
  cases g c with
  |s y=>cases y with
   |bool t=>cases t<;>rfl
   |_=>rfl
  |_=>rfl
 ·rename_i op t x y ty ho
  refine⟨by simp only[callee,ho],fun n L=>?_⟩;simp only[kx,ho,kBinQ_eq]
  cases kBin P op t (wkV (g x)) (wkV (g y)) with
  |some s=>rfl
  |none=>exact lgt_asR n _
 ·rename_i op t x ho;exact⟨by simp only[callee,ho],fun n L=>by simp only[kx,kop,ho,lgt_asR]⟩
 ·rename_i t x lo hi mx ho;exact⟨by simp only[callee,ho],fun n L=>by simp only[kx,kop,ho,lgt_asR];rfl⟩
 ·rename_i t parts ho;exact⟨by simp only[callee,ho],fun n L=>by simp only[kx,kop,ho];exact aBuild_n P n t _⟩
 ·rename_i t x f ho;exact⟨by simp only[callee,ho],fun n L=>by simp only[kx,kop,ho];exact aFieldV_n P n t _ f⟩
 ·rename_i x i ho
  refine⟨by simp only[callee,ho],fun n L=>?_⟩;simp only[kx,kop,ho]
  cases aExt (g x) i<;>rfl
 ·rename_i s x f ho;exact⟨by simp only[callee,ho],fun n L=>by simp only[kx,kop,ho];exact aField_n P n s _ f⟩
 ·rename_i t x ix ho;exact⟨by simp only[callee,ho],fun n L=>by simp only[kx,kop,ho,lgt_asR]⟩
 ·rename_i t x ix ho;exact⟨by simp only[callee,ho],fun n L=>by simp only[kx,kop,ho,lgt_asR]⟩
 ·rename_i x ho;exact⟨by simp only[callee,ho],fun n L=>by simp only[kx,kop,ho];exact aNil_n n _⟩
 ·rename_i t a ho;exact⟨by simp only[callee,ho],by simp only[kFoot,ho,blks,List.append_nil],fun n L=>by simp only[kx,kop,ho]⟩
 ·rename_i t a x ho;exact⟨by simp only[callee,ho],by simp only[kFoot,ho,blks,List.append_nil],fun n L=>by simp only[kx,kop,ho]⟩
 ·rename_i src dst x ho;exact⟨by simp only[callee,ho],by simp only[kFoot,ho,blks,List.append_nil],fun n L=>rfl⟩
 ·rename_i t x ix ok ho;exact⟨by simp only[callee,ho],by simp only[kFoot,ho,blks,List.append_nil],fun n L=>by simp only[kx,ho]⟩
 ·rename_i t m k v ho;exact⟨by simp only[callee,ho],by simp only[kFoot,ho,blks,List.append_nil],fun n L=>by simp only[kx,ho]⟩
 ·rename_i t x ho;exact⟨by simp only[callee,ho],by simp only[kFoot,ho,blks,List.append_nil],fun n L=>by simp only[kx,ho]⟩
 ·rename_i x s ho;exact⟨by simp only[callee,ho],by simp only[kFoot,ho,blks,List.append_nil],fun n L=>by simp only[kx,ho]⟩
 ·rename_i x ho;exact⟨by simp only[callee,ho],by simp only[kFoot,ho,blks,List.append_nil],fun n L=>by simp only[kx,ho]⟩
 ·rename_i c ho
  split
  ·rename_i x hc
   refine⟨by simp only[callee,ho,hc],by simp only[argsOf,ho,hc],fun n L=>?_⟩;simp only[kx,kop,ho,hc]
  ·rename_i hc
   split
   ·rename_i x t hargs ht
    split
    ·exact⟨by simp only[callee,ho,hc],by simp only[kFoot,ho,hc],fun n L=>rfl⟩
    ·rename_i hm
     refine⟨by simp only[callee,ho,hc],fun n L=>?_⟩;have hz:kLenM P c.argTypes n L (g x)=none:=rfl;simp only[kx,kop,ho,hc,hargs,List.map_cons,List.map_nil,kBuiltin,ht,lgt_asR,hz]
     cases asR n (lgtV (aLen P t (g x)))<;>rfl
   ·exact⟨by simp only[callee,ho,hc],by simp only[kFoot,ho,hc],fun n L=>rfl⟩
  ·rename_i b hc
   exact⟨by simp only[callee,ho,hc],by simp only[kFoot,ho,hc],fun n L=>rfl⟩
  ·rename_i r m hc
   exact⟨by simp only[callee,ho,hc],by simp only[kFoot,ho,hc,blks],fun n L=>rfl⟩
 ·rename_i h1 h2 h3 h4 h5 h6 h7 h8 h9 h10 h11 h12 h13 h14 h15 h16 h17 h18 h20 h21 h22 h19
  refine⟨?_,?_,fun n L=>rfl⟩
  ·unfold callee
   split
   ·rename_i c ho;exact absurd ho (h19 c)
   ·rfl
  ·unfold kFoot
   split
   ·rename_i t a ho;exact absurd ho (h14 t a)
   ·rename_i t a x ho;exact absurd ho (h15 t a x)
   ·rename_i s d x ho;exact absurd ho (h16 s d x)
   ·rename_i t x ix ok ho;exact absurd ho (h17 t x ix ok)
   ·rename_i t m k v ho;exact absurd ho (h18 t m k v)
   ·rename_i t x ho;exact absurd ho (h20 t x)
   ·rename_i x s ho;exact absurd ho (h21 x s)
   ·rename_i x ho;exact absurd ho (h22 x)
   ·rename_i c ho;exact absurd ho (h19 c)
   ·rfl
def kLt (K:Kst) (o:Oper) (env:T V) (n:Nat) (h:T Bl) (acs:List Acc) (k:KK) (r:Option V):KO:=
 match r with
 |none=> .bad o.pos 5
 |some v=>match okV n v with|true=>(frcW v fun v=>kDone K o env n h acs v k)|false=> .bad o.pos 6
def kGo (K:Kst) (o:Oper) (j:Nat) (env:T V) (n:Nat) (h:T Bl) (acs:List Acc) (k:KK) (p:Pl):KO:=
 match p with
 | .light f=>kLt K o env n h acs k (f (evT env))
 | .mem ft f=>kPlain K o j env n h acs k (blks (evT env) ft) (f (evT env) n (mini h (blks (evT env) ft)))
 | .call x args=>
   match fnOf (evT env x) with
   |some f=>kCallOp K o j env n h acs k (K.cl f (args.map (evT env)++capOf (evT env x)) n h)
   |none=> .bad o.pos 5
def kOneQ (K:Kst) (o:Oper) (j:Nat) (env:T V) (n:Nat) (h:T Bl) (acs:List Acc) (k:KK):KO:=
 match wantT K.ops env o with
 |some b=>(match b with|true=>kGo K o j env n h acs k (plan K.P o)|false=>kDone K o env n h acs .undef k)
 |none=> .bad o.pos 1
theorem kOneQ_eq {K:Kst} (hk:K.kx=kx K.P) (o:Oper) (j:Nat) (env:T V) (n:Nat) (h:T Bl) (acs:List Acc) (k:KK):kOneQ K o j env n h acs k=kOne K o j env n h acs k:=by
 unfold kOneQ kOne
 cases hw:wantT K.ops env o with
 |none=>rfl
 |some b=>
  cases b with
  |false=>rfl
  |true=>
   simp only[hk];have hp:=plan_ok K.P o (evT env)
   cases hpl:plan K.P o with
   |light f=>
    rw[hpl] at hp;obtain⟨h1,h2⟩:=hp;simp only[h1,h2,kGo,kLt]
    cases f (evT env) with
    |none=>rfl
    |some v=>
     simp only[asR,kPlain,inAll,okW,nilB,Bool.and_self,Bool.or_true,Nat.ble_eq_true_of_le (Nat.le_refl n),Bool.true_and,Bool.and_true,kPut,frcW_eq,frcN_eq]
     cases okV n v<;>rfl
   |mem ft f=>
    rw[hpl] at hp;obtain⟨h1,h2,h3⟩:=hp;simp only[h1,h2,h3,kGo]
   |call x args=>
    rw[hpl] at hp;obtain⟨h1,h2,h3⟩:=hp;simp only[h1,h2,h3,kGo]
    cases fnOf (evT env x)<;>rfl
def kOpsQ (K:Kst):List Oper→Nat→T V→Nat→T Bl→List Acc→KO
 |[],_,env,n,h,_=> .ok .normal env n h
 |o::os,j,env,n,h,acs=>kOneQ K o j env n h acs fun env n h acs=>kOpsQ K os (Nat.succ j) env n h acs
theorem kOpsQ_eq {K:Kst} (hk:K.kx=kx K.P):∀ (l:List Oper) (j:Nat) (env:T V) (n:Nat) (h:T Bl) (acs:List Acc),kOpsQ K l j env n h acs=kOps K l j env n h acs
 |[],_,_,_,_,_=>rfl
 |o::os,j,env,n,h,acs=>by
  simp only[kOpsQ,kOps,kOneQ_eq hk];congr 1
  funext env n h acs
  exact kOpsQ_eq hk os _ env n h acs
def kCQ (P:Program) (cl:Cl) (lf nt:Nat):Code→T V→Nat→T Bl→KO
 | .seq a b,env,n,h=>
   match kCQ P cl lf nt a env n h with
   | .ok .normal e m M=>kCQ P cl lf nt b e m M
   |r=>r
 | .region _ ops d,env,n,h=>
   match d with
   |false=>kOpsQ ⟨P,kx P,cl,nt,ops,false⟩ ops.toList 0 env n h []
   | true => match regS ops with | true => kOpsQ ⟨P, kx P, cl, nt, ops, true⟩ ops.toList 0 env n h [] | false => .bad "region" 11
 | .cond c a b,env,n,h=>
   match evT env c with
   | .s (.bool t)=>match t with|true=>kCQ P cl lf nt a env n h|false=>kCQ P cl lf nt b env n h
   | _ => .bad "cond" 10
 | .skip,env,n,h=> .ok .normal env n h
 | .ret,env,n,h=> .ok .ret env n h
 | .exit id,env,n,h=> .ok (.exit id) env n h
 | .block id c,env,n,h=>
   match kCQ P cl lf nt c env n h with
   | .ok (.exit id') e m M=>match Nat.beq id' id with|true=> .ok .normal e m M|false=> .ok (.exit id') e m M
   |r=>r
 | .loop c,env,n,h=>loopF lf (fun env n h=>kCQ P cl lf nt c env n h) env n h
 | _, _, _, _ => .bad "code" 12
theorem kCQ_eq (P:Program) (cl:Cl) (lf nt:Nat):∀ (c:Code) (env:T V) (n:Nat) (h:T Bl),kCQ P cl lf nt c env n h=kC P (kx P) cl lf nt c env n h:=by
 intro c
 induction c with
 |seq a b iha ihb=>
  intro env n h;simp only[kCQ,kC,iha]
  cases kC P (kx P) cl lf nt a env n h with
  |bad p w=>rfl
  |ok x e m M=>cases x<;>first|exact ihb _ _ _|rfl
 |region id ops d=>
  intro env n h;simp only[kCQ,kC]
  cases d with
  |false=>simp only[notB,Bool.true_or];exact kOpsQ_eq rfl _ _ _ _ _ _
  |true=>
   simp only[notB,Bool.false_or]
   cases regS ops with
   |true=>exact kOpsQ_eq rfl _ _ _ _ _ _
   |false=>rfl
 |cond c a b iha ihb=>
  intro env n h;simp only[kCQ,kC]
  cases evT env c with
  |s y=>cases y with
   |bool t=>cases t<;>first|exact iha _ _ _|exact ihb _ _ _
   |_=>rfl
  |_=>rfl
 |block id c ih=>
  intro env n h;simp only[kCQ,kC,ih]
  all_goals (cases kC P (kx P) cl lf nt c env n h<;>first|rfl|(rename_i x _ _ _;cases x<;>rfl))
 |loop c ih=>
  intro env n h;simp only[kCQ,kC];congr 1
  funext env n h
  exact ih env n h
 |_=>intro env n h;rfl
def kRunQ (P:Program) (lf:Nat) (cl:Cl) (fn:Func) (c:Code) (args:List V) (n:Nat) (h:T Bl):KC:=
 match Nat.ble args.length fn.ntmps with
 |false=> .bad fn.name 13
 |true=>
  match kCQ P cl lf fn.ntmps c (envOf args 0 .nil) n h with
  | .bad p w=> .bad p w
  | .ok x e m M=>
    match (match x with| .ret=>true| .normal=>true|_=>false) with
    |true=>match resT P fn e M with|some v=>(frcW v fun v=>match okV m v&&Nat.ble n m with|true=> .ok v m M|false=> .bad fn.name 20)|none=> .bad fn.name 14
    |false=> .bad fn.name 15
theorem kRunQ_eq (P:Program) (lf:Nat) (cl:Cl) (fn:Func) (c:Code) (args:List V) (n:Nat) (h:T Bl):kRunQ P lf cl fn c args n h=kRun P (kx P) lf cl fn c args n h:=by
 simp only[kRunQ,kRun,kCQ_eq]
 all_goals rfl
def bodyOf (P:Program) (f:FuncId):Option (Func×Code):=
 match P.funcs[f]? with
 | some fn => match fn.body with | some c => (match fn.name == "runtime.NumGoroutine" with | true => none | false => some (fn, c)) | none => none
 |none=>none
def kFQ (P:Program) (ov:FuncId→List V→Nat→T Bl→Option KC) (lf:Nat):Nat→Cl
 | 0 => fun _ _ _ _ => .bad "depth" 16
 |d+1=>fun f args n h=>
  match ov f args n h with
  |some r=>r
  | none => match bodyOf P f with | some (fn, c) => kRunQ P lf (kFQ P ov lf d) fn c args n h | none => .bad "func" 19
theorem kFQ_ok {P:Program} (hm:P.follows .mixedOrders=true) {ov:FuncId→List V→Nat→T Bl→Option KC} (hov:OvOK P ov) {lf:Nat}:∀ d,ClOK P (kFQ P ov lf d)
 |0=>fun f args n h v n' h' hk=>by cases hk
 |d+1=>by
  intro f args n h v n' h' hk L hv oh oe;simp only[kFQ] at hk;split at hk
  ·rename_i r hr
   exact hov f args n h r hr v n' h' hk L hv oh oe
  ·split at hk
   ·rename_i fn c hb
    unfold bodyOf at hb;split at hb
    ·rename_i fn' hf
     split at hb
     ·rename_i c' hbd
      split at hb
      ·cases hb
      ·rename_i hname
       cases hb;rw[kRunQ_eq] at hk;obtain⟨L',g1,g2,g3,g5,g4⟩:=kRun_ok hm (kx_ok P) (kFQ_ok hm hov d) hf hbd hk hv oh oe;exact⟨L',g1,g2,g3,g5,g4.callOK hf (by rw[hbd];rfl) hname⟩
     ·cases hb
    ·cases hb
   ·cases hk
theorem SC.ofRunQ {P:Program} (hm:P.follows .mixedOrders=true) {ov:FuncId→List V→Nat→T Bl→Option KC} (hov:OvOK P ov) {lf d:Nat} {f:FuncId} {fn:Func} {c:Code} (hf:P.funcs[f]? =some fn) (hb:fn.body=some c)
 {args:List V} {n:Nat} {hs:Bs} {v:V} {n':Nat} {hs':Bs} (h:chkM (kRunQ P lf (kFQ P ov lf d) fn c args n (tOf hs)) v n' hs'=true) (oh:okW n (toW hs)=true) (oe:args.all (okV n)=true):SC P f args n (puts [] (toW hs)) v n' (puts [] (toW hs')):=by
 rw[kRunQ_eq] at h;unfold chkM at h;split at h
 ·rename_i v' m h' hr
  simp only[Bool.and_eq_true] at h;obtain⟨⟨h1,h2⟩,h3⟩:=h;have h1:=eqV_ok h1;have h2:=Nat.eq_of_beq_eq_true h2;subst h1;subst h2;obtain⟨L',g1,g2,g3,g4,g5⟩:=kRun_ok hm (kx_ok P) (kFQ_ok hm hov d) hf hb hr (hv_tOf hs) (OH.puts (L:=[]) (toW hs) (fun i bl hi=>by cases hi) oh) (fun y hy=>List.all_eq_true.1 oe y hy);exact g5.sub (sub_toW g1 h3)
 ·cases h
set_option maxRecDepth 100000
abbrev Ob:=List (Nat×Nat)
def Ob.hold:Ob→Prop
 |[]=>True
 |(x,y)::t=>x=y∧Ob.hold t
set_option maxRecDepth 100000
theorem CallOK.frame {P:Program} {f:FuncId} {args:List V} {n:Nat} {L0:Hp} {v:V} {n':Nat} {L0' L L':Hp} (h:CallOK P f args n L0 v n' L0') (hs:Sub L0 L)
 (hM:∀ i bl,lk L' i=some bl→lk L0' i=some bl∨(lk L0 i=none∧lk L i=some bl)):CallOK P f args n L v n' L':=by
 intro φ a w o c x cap Q h1 h2 h3 h4 h5 h6;refine Oper.wp_mono ?_ (h φ a w o c x cap Q h1 h2 h3 h4 (h5.sub hs) h6);rintro a' w' ⟨φ',y,e,hv,hg,st,r1,r2⟩
 have hle:φ.le φ':=by
  refine⟨fun j b hj=>?_,st.zle⟩
  rcases Nat.lt_or_ge j n with hjn|hjn
  ·rw[r1 j hjn];exact hj
  ·rw[h6 j hjn] at hj;cases hj
 obtain⟨g1,g2⟩:=Ab.frame h5 hs hg st hle hM;exact⟨φ',y,e,hv,g1,g2,r1,r2⟩
theorem okV_0 {n:Nat} {v:V} (h:okV 0 v=true):okV n v=true:=okV_mono (Nat.zero_le n) h
theorem SC.up {P:Program} {f:FuncId} {args:List V} {v:V} (h:SC P f args 0 [] v 0 []) (ok:args.all (okV 0)=true) (n:Nat):SC P f args n [] v n []:=by
 intro φ xs w hx hg hf
 have hg0:Good (cutPh 0 φ) [] w:=⟨fun i bl hi=>(by cases hi),fun i j b b' _ _ hi=>(by cases hi),fun b l hb=>⟨(hg.fz b l hb).1,fun hw=>by obtain⟨i,b',c,hi,_⟩:=hw;cases hi⟩,hg.gz⟩
 refine (h (cutPh 0 φ) xs w (all2_cutV hx ok) hg0 (fun i _=>rfl)).mono ?_;rintro e w' ⟨φ',x,rfl,hv,hg',hn,st,_,_⟩;refine⟨⟨φ.f,φ'.z⟩,x,rfl,Vr.mono (show φ'.le ⟨φ.f,φ'.z⟩ from ⟨fun i b hi=>(by rw[hn i (Nat.zero_le _)] at hi;cases hi),fun _ _ q=>q⟩) hv,⟨fun i bl hi=>(by cases hi),fun i j b b' _ _ hi=>(by cases hi),fun b l hb=>⟨(hg'.fz b l hb).1,fun hw=>by obtain⟨i,b',c,hi,_⟩:=hw;cases hi⟩,hg'.gz⟩,hf,⟨st.os,st.tape,st.output,st.size,fun b hb _=>st.keep b hb (fun hw=>by obtain⟨i,b',c,hi,_⟩:=hw;cases hi),fun j b _ hj=>(by cases hj),st.zle,fun b l hb=>?_⟩,Nat.le_refl _,fun _ _=>rfl⟩
 rcases st.zfr b l hb with q|q|⟨i,b',c,hi,_⟩
 ·exact .inl q
 ·exact .inr (.inl q)
 ·cases hi
def ovG (f0:FuncId) (g:List V→Option V) (f:FuncId) (args:List V) (n:Nat) (h:T Bl):Option KC:=
 match Nat.beq f f0 with
 |false=>none
 |true=>match g args with|some v=>some (.ok v n h)|none=>none
theorem ovG_ok {P:Program} {f0:FuncId} {g:List V→Option V} (H:∀ args v,g args=some v→FC P f0 args 0 [] v 0 []∧args.all (okV 0)=true∧okV 0 v=true):OvOK P (ovG f0 g):=by
 intro f args n hh r hr v n' h' e L hv oh oe;unfold ovG at hr;split at hr
 ·cases hr
 ·rename_i hf
  split at hr
  ·rename_i v0 hc
   have hf:=Nat.eq_of_beq_eq_true hf;subst hf;obtain⟨h,h1,h2⟩:=H args v0 hc;cases hr;cases e;obtain⟨hfn,hsc⟩:=h;unfold fnOK at hfn;split at hfn
   ·rename_i fn hfn2
    simp only[Bool.and_eq_true,Bool.not_eq_true'] at hfn;refine⟨L,hv,oh,okV_0 h2,Nat.le_refl _,CallOK.frame (SC.callOK (hsc.up h1 n) hfn2 hfn.1 hfn.2) (fun i bl hi=>(by cases hi)) (fun i bl hi=> .inr ⟨rfl,hi⟩)⟩
   ·cases hfn
  ·cases hr
end Ab
end Go.Proofs.YtphdhedhhlfepaaGreatDoor
namespace Go.Proofs.YtphdhedhhlfepaaGreatDoor
open Go Ab
set_option maxRecDepth 100000
set_option maxHeartbeats 4000000
theorem hm:Tryz.prog.follows .mixedOrders=true:=by decide+kernel
abbrev By:=List UInt8
abbrev nI (z:Int):V:=.s (.int .i64 z)
abbrev n8 (z:Int):V:=.s (.int .u8 z)
abbrev bV (b:Bool):V:=.s (.bool b)
abbrev sV (s:By):V:=.s (.str s)
def isDataB (op:Int):Bool:=decide (op=1)||decide (op=2)||decide (op=50)||decide (op=51)
def isElemB (op:Int):Bool:=decide (op=18)||decide (op=19)
def isExprB (op:Int):Bool:=decide (op=3)||decide (op=5)||decide (op=6)||decide (op=7)||decide (op=41)||decide (op=42)||isDataB op||(decide (60≤op)&&decide (op≤88))
def accB (k op:Int):Bool:=
 if k=110∨k=115 then decide (op=3)
 else if k=105∨k=73 then decide (op=1)
 else if k=101 then isExprB op
 else if k=116 then decide (op=3)||decide (op=6)||decide (op=7)||decide (op=76)||decide (op=84)
 else if k=100 then isDataB op
 else if k=80 then isDataB op||decide (op=3)
 else if k=68 then decide (10≤op)&&decide (op≤21)&& !isElemB op
 else if k=70 then isElemB op
 else if k=83 then (decide (30≤op)&&decide (op≤42))||decide (op=5)
 else false
theorem isElem_c (op:Int):FC Tryz.prog 138 [nI op] 0 [] (bV (isElemB op)) 0 []:=by
 refine FC.walk (by kernel_rfl) Tryz.func138 rfl rfl ?_
 repeat'(first|exact y0|refine y1 ?_|refine y2 ?_ ?_|(refine y8 ?_ ?_<;>intro h<;>try exact y6)|refine Fin.bool (.inl rfl) rfl ?_|refine y3 ?_|refine y7 ?_ ?_|refine y4 ?_|(refine y9 ?_ ?_<;>intro h)|exact y5|fail)
 all_goals simp[isElemB, *]
theorem isData_c (op:Int):FC Tryz.prog 137 [nI op] 0 [] (bV (isDataB op)) 0 []:=by
 refine FC.walk (by kernel_rfl) Tryz.func137 rfl rfl ?_
 repeat'(first|exact y0|refine y1 ?_|refine y2 ?_ ?_|(refine y8 ?_ ?_<;>intro h<;>try exact y6)|refine Fin.bool (.inl rfl) rfl ?_|refine y3 ?_|refine y7 ?_ ?_|refine y4 ?_|(refine y9 ?_ ?_<;>intro h)|exact y5|fail)
 all_goals simp[isDataB, *]
theorem isExpr_c (op:Int):FC Tryz.prog 136 [nI op] 0 [] (bV (isExprB op)) 0 []:=by
 refine FC.walk (by kernel_rfl) Tryz.func136 rfl rfl ?_
 repeat'(first|exact y0|refine y1 ?_|refine y2 ?_ ?_|(refine y8 ?_ ?_<;>intro h<;>try exact y6)|(refine wC ?_;first|refine wF 137 (bo (isData_c _) ?_))|refine Fin.bool (.inl rfl) rfl ?_|refine y3 ?_|refine y7 ?_ ?_|refine y4 ?_|(refine y9 ?_ ?_<;>intro h)|exact y5|fail)
 all_goals simp[isExprB, *]
 all_goals try omega
theorem acc_c (k op:Int):FC Tryz.prog 94 [n8 k,nI op] 0 [] (bV (accB k op)) 0 []:=by
 refine FC.walk (by kernel_rfl) Tryz.func94 rfl rfl ?_
 repeat'(first|exact y0|refine y1 ?_|refine y2 ?_ ?_|(refine y8 ?_ ?_<;>intro h<;>try exact y6)|(refine wC ?_;first|refine wF 137 (bo (isData_c _) ?_)|refine wF 136 (bo (isExpr_c _) ?_)|refine wF 138 (bo (isElem_c _) ?_))|refine Fin.bool (.inl rfl) rfl ?_|refine y3 ?_|refine y7 ?_ ?_|refine y4 ?_|(refine y9 ?_ ?_<;>intro h)|exact y5|fail)
 all_goals simp[accB, *]
set_option maxRecDepth 100000
set_option maxHeartbeats 4000000
def segZ (i:Nat) (z:Int):Bool:=decide (65≤z∧z≤90∨z=95∨48≤z∧z≤57∧0<i)
def segCh (i:Nat) (c:UInt8):Bool:=segZ i (c.toNat:Int)
theorem segZ_t {i:Nat} {z:Int} (h:65≤z∧z≤90∨z=95∨48≤z∧z≤57∧0<i):segZ i z=true:=decide_eq_true h
theorem segZ_f {i:Nat} {z:Int} (h: ¬(65≤z∧z≤90)) (h': ¬z=95) (h'': ¬(48≤z∧z≤57∧0<i)):segZ i z=false:=decide_eq_false fun e=>e.elim h fun e=>e.elim h' h''
def isSeg (s:By):Bool:=decide (1≤s.length)&&decide (s.length≤4)&&(List.range s.length).all fun i=>segCh i (s.getD i 0)
theorem isSeg_no {s:By} {i:Nat} (h:i<s.length) (hc:segCh i (s.getD i 0)=false):isSeg s=false:=by
 unfold isSeg
 have:(List.range s.length).all (fun i=>segCh i (s.getD i 0))=false:=by
  rw[List.all_eq_false];exact⟨i,by simpa using h,by simpa using hc⟩
 rw[this,Bool.and_false]
theorem isSeg_yes {s:By} (h1:1≤s.length) (h2:s.length≤4) (h:∀ i,i<s.length→segCh i (s.getD i 0)=true):isSeg s=true:=by
 unfold isSeg;simp only[Bool.and_eq_true,decide_eq_true_eq,List.all_eq_true,List.mem_range];exact⟨⟨h1,h2⟩,h⟩
theorem ext_all {p:Nat→Prop} {j:Nat} (h:∀ i,i<j→p i) (hj:p j):∀ i,i<j+1→p i:=fun i hi=>by
 rcases Nat.lt_or_eq_of_le (Nat.le_of_lt_succ hi) with h'|rfl
 ·exact h i h'
 ·exact hj
theorem isSeg_c (s:By):FC Tryz.prog 160 [sV s] 0 [] (bV (isSeg s)) 0 []:=by
 refine FC.walk (by kernel_rfl) Tryz.func160 rfl rfl ?_
 repeat'(first|exact y0|refine y1 ?_|refine y2 ?_ ?_|(refine y8 ?_ ?_<;>intro h<;>try exact y6)|refine Fin.bool (.inl rfl) rfl ?_|refine y3 ?_|refine y7 ?_ ?_|refine y4 ?_|(refine y9 ?_ ?_<;>intro h)|exact y5|fail)
 ·unfold isSeg;rw[decide_eq_false (by omega)];rfl
 ·unfold isSeg;rw[decide_eq_false (p:=s.length≤4) (by omega)];simp
 ·refine Ex.inv (σ:=Nat) (fun j=>[(16,nI j)]) (fun _=>[]) (fun j=>j≤s.length∧∀ i,i<j→segCh i (s.getD i 0)=true) (fun j=>s.length-j) 0 rfl (fun _=>rfl) ⟨Nat.zero_le _,fun i hi=>by omega⟩ ⟨VLe.refl _,trivial⟩ trivial ?_
  rintro j ⟨hj,hall⟩
  repeat'(first|exact y0|refine y1 ?_|refine y2 ?_ ?_|(refine y8 ?_ ?_<;>intro h<;>try exact y6)|refine Fin.bool (.inl rfl) rfl ?_|refine LoopR.same (j+1) ⟨?_,?_⟩ ?_ rfl ⟨VLe.refl _,trivial⟩ trivial rfl rfl (Nat.le_refl _)|refine y3 ?_|refine y7 ?_ ?_|refine y4 ?_|(refine y9 ?_ ?_<;>intro h)|exact y5|fail)
  all_goals first
   |rfl
   |omega
   |exact i64_in (by omega) (by omega)
   |exact (isSeg_no (i:=j) (by omega) (segZ_f (by omega) (by omega) (by omega))).symm
   |(refine (isSeg_yes (by omega) (by omega) fun i hi=>hall i (by omega)).symm)
   |exact ext_all hall (segZ_t (by omega))
structure Pth where
 root:Bool
 up:Int
 segs:List By
def strsF (l:List By):S:=.frz (fun k=>[.str (l.getD k [])]) 1 l.length
def ptC (p:Pth):List S:=[.bool p.root,.int .i64 p.up,strsF p.segs]
abbrev ptV (p:Pth):V:=.agg (ptC p)
def validP (p:Pth):Bool:=decide (0≤p.up)&& !(p.root&&decide (p.up≠0))&&decide (p.up≤32)&&decide ((p.segs.length:Int)≤32-p.up)&&p.segs.all isSeg&&(p.root||decide (0<p.up)||decide (0<p.segs.length))
theorem all_no {l:List By} {j:Nat} (h:j<l.length) (hc:isSeg (l.getD j [])=false):l.all isSeg=false:=by
 rw[List.all_eq_false];exact⟨l[j],List.getElem_mem h,by simpa [List.getD_eq_getElem?_getD,h] using hc⟩
theorem all_yes {l:List By} (h:∀ i,i<l.length→isSeg (l.getD i [])=true):l.all isSeg=true:=by
 rw[List.all_eq_true];intro x hx;obtain⟨i,hi,rfl⟩:=List.mem_iff_getElem.1 hx;have:=h i hi
 rwa [List.getD_eq_getElem?_getD,List.getElem?_eq_getElem hi] at this
theorem validP_u (root:Bool) (up:Int) (segs:List By):FC Tryz.prog 143 [.agg [.bool root,.int .i64 up,strsF segs]] 0 [] (bV (validP ⟨root,up,segs⟩)) 0 []:=by
 refine FC.walk (by kernel_rfl) Tryz.func143 rfl rfl ?_;cases root
 all_goals
  repeat'(first|exact y0|refine y1 ?_|refine y2 ?_ ?_|(refine y8 ?_ ?_<;>intro h<;>try exact y6)|refine Fin.bool (.inl rfl) rfl ?_|refine y3 ?_|refine y7 ?_ ?_|refine y4 ?_|(refine y9 ?_ ?_<;>intro h)|exact y5|fail)
  rotate_right
  ·refine Ex.inv (σ:=Nat) (fun j=>[(32,nI j)]) (fun _=>[(0,some {cells:=[.bool _,.int .i64 up,strsF segs],ty:=92})]) (fun j=>j≤segs.length∧∀ i,i<j→isSeg (segs.getD i [])=true) (fun j=>segs.length-j) 0 rfl (fun _=>rfl) ⟨Nat.zero_le _,fun i hi=>by omega⟩ ⟨VLe.refl _,trivial⟩ ⟨rfl,trivial⟩ ?_
   rintro j ⟨hj,hall⟩
   repeat'(first|exact y0|refine y1 ?_|refine y2 ?_ ?_|(refine y8 ?_ ?_<;>intro h<;>try exact y6)|(refine wC ?_;first|refine wF 160 (bo (isSeg_c _) ?_))|refine Fin.bool (.inl rfl) rfl ?_|refine LoopR.same (j+1) ⟨?_,?_⟩ ?_ rfl ⟨VLe.refl _,trivial⟩ ⟨rfl,trivial⟩ rfl rfl (by decide)|refine y3 ?_|refine y7 ?_ ?_|refine y4 ?_|(refine y9 ?_ ?_<;>intro h)|exact y5|fail)
   all_goals first
    |omega
    |exact i64_in (by omega) (by omega)
    |exact ext_all hall (by assumption)
    |(have:=all_no (l:=segs) (j:=j) (by omega) ‹isSeg _=false›;unfold validP;rw[this];simp)
    |(have:=all_yes (l:=segs) fun i hi=>hall i (by omega)
      unfold validP;rw[this];simp;first|done|omega|exact fun _ _ _=>⟨by omega,List.length_eq_zero_iff.1 (by omega)⟩)
  all_goals first
   |exact i64_in (by omega) (by omega)
   |(unfold validP;simp;omega)
def absP (p:Pth):Bool:=p.root&&validP p
theorem absP_u (root:Bool) (up:Int) (segs:List By):FC Tryz.prog 142 [.agg [.bool root,.int .i64 up,strsF segs]] 0 [] (bV (absP ⟨root,up,segs⟩)) 0 []:=by
 refine FC.walk (by kernel_rfl) Tryz.func142 rfl rfl ?_;cases root
 all_goals
  repeat'(first|exact y0|refine y1 ?_|refine y2 ?_ ?_|(refine y8 ?_ ?_<;>intro h<;>try exact y6)|(refine wC ?_;first|refine wF 143 (bo (validP_u _ _ _) ?_))|refine Fin.bool (.inl rfl) rfl ?_|refine y3 ?_|refine y7 ?_ ?_|refine y4 ?_|(refine y9 ?_ ?_<;>intro h)|exact y5|fail)
 all_goals simp[absP, *]
def sglP (p:Pth):Bool:= !p.root&&decide (p.up=0)&&decide ((p.segs.length:Int)=1)
theorem sglP_u (root:Bool) (up:Int) (segs:List By):FC Tryz.prog 139 [.agg [.bool root,.int .i64 up,strsF segs]] 0 [] (bV (sglP ⟨root,up,segs⟩)) 0 []:=by
 refine FC.walk (by kernel_rfl) Tryz.func139 rfl rfl ?_;cases root
 all_goals
  repeat'(first|exact y0|refine y1 ?_|refine y2 ?_ ?_|(refine y8 ?_ ?_<;>intro h<;>try exact y6)|refine Fin.bool (.inl rfl) rfl ?_|refine y3 ?_|refine y7 ?_ ?_|refine y4 ?_|(refine y9 ?_ ?_<;>intro h)|exact y5|fail)
 all_goals simp[sglP, *]
 all_goals try omega
def hasPre (s p:By):Bool:=decide (p.length≤s.length)&&decide (s.take p.length=p)
theorem hasPre0_c (s p:By):FC Tryz.prog 168 [sV s,sV p] 0 [] (bV (hasPre s p)) 0 []:=by
 refine FC.walk (by kernel_rfl) Tryz.func168 rfl rfl ?_
 repeat'(first|exact y0|refine y1 ?_|refine y2 ?_ ?_|(refine y8 ?_ ?_<;>intro h<;>try exact y6)|refine Fin.bool (.inl rfl) rfl ?_|refine y3 ?_|refine y7 ?_ ?_|refine y4 ?_|(refine y9 ?_ ?_<;>intro h)|exact y5|fail)
 all_goals first
  |omega
  |(unfold hasPre;simp[*];done)
  |(unfold hasPre;simp[*];omega)
theorem hasPre_c (s p:By):FC Tryz.prog 150 [sV s,sV p] 0 [] (bV (hasPre s p)) 0 []:=by
 refine FC.walk (by kernel_rfl) Tryz.func150 rfl rfl ?_
 repeat'(first|exact y0|refine y1 ?_|refine y2 ?_ ?_|(refine y8 ?_ ?_<;>intro h<;>try exact y6)|(refine wC ?_;first|refine wF 168 (pu (hasPre0_c _ _) ?_))|refine Fin.bool (.inl rfl) rfl ?_|refine y3 ?_|refine y7 ?_ ?_|refine y4 ?_|(refine y9 ?_ ?_<;>intro h)|exact y5|fail)
 all_goals rfl
def cutPre (s p:By):By×Bool:=if hasPre s p then (s.drop p.length,true) else (s,false)
theorem cutPre0_c (s p:By):FC Tryz.prog 167 [sV s,sV p] 0 [] (.tup [.s (.str (cutPre s p).1),.s (.bool (cutPre s p).2)]) 0 []:=by
 refine FC.walk (by kernel_rfl) Tryz.func167 rfl rfl ?_
 repeat'(first|exact y0|refine y1 ?_|refine y2 ?_ ?_|(refine y8 ?_ ?_<;>intro h<;>try exact y6)|(refine wC ?_;first|refine wF 168 (bo (hasPre0_c _ _) ?_))|refine Fin.plain (.inl rfl) rfl ?_ rfl|refine y3 ?_|refine y7 ?_ ?_|refine y4 ?_|(refine y9 ?_ ?_<;>intro h)|exact y5|fail)
 all_goals first
  |(unfold cutPre;simp[*];done)
  |(unfold hasPre at*;simp at*;done)
  |(unfold hasPre at*;simp at*;omega)
theorem cutPre_c (s p:By):FC Tryz.prog 149 [sV s,sV p] 0 [] (.tup [.s (.str (cutPre s p).1),.s (.bool (cutPre s p).2)]) 0 []:=by
 refine FC.walk (by kernel_rfl) Tryz.func149 rfl rfl ?_
 repeat'(first|exact y0|refine y1 ?_|refine y2 ?_ ?_|(refine y8 ?_ ?_<;>intro h<;>try exact y6)|(refine wC ?_;first|refine wF 167 (pu (cutPre0_c _ _) ?_))|refine Fin.plain (.inl rfl) rfl ?_ rfl|refine y3 ?_|refine y7 ?_ ?_|refine y4 ?_|(refine y9 ?_ ?_<;>intro h)|exact y5|fail)
 all_goals rfl
set_option maxRecDepth 100000
set_option maxHeartbeats 4000000
theorem u8_back (c:UInt8):((c.toNat:Int)).toNat.toUInt8=c:=by simp
theorem countString_x (s:By) (c:UInt8):XT Tryz.prog 170 [sV s,n8 (c.toNat:Int)] (nI ((s.count c:Nat):Int)):=by
 intro φ xs w hx
 match xs,hx with
 |[x,y],⟨h1,h2,_⟩=>
  have h1:x=.string ⟨s.toArray⟩:=h1;have h2:y=.int .u8 (c.toNat:Int):=h2;subst h1;subst h2;refine⟨.int .i64 ((s.count c:Nat):Int),?_,rfl⟩;rw[run_callFunc_extern (e:=Extern.BytealgCount.count) Tryz.func170 (by kernel_rfl) rfl (by rfl) (by rfl)];rw[show [Value.string ⟨s.toArray⟩,Value.int IntKind.u8 (c.toNat:Int)].toArray= #[.string ⟨s.toArray⟩,.int .u8 (c.toNat:Int)] from rfl,Go.Lib.run_countString,u8_back];rfl
theorem indexByte_x (s:By) (c:UInt8):XT Tryz.prog 188 [sV s,n8 (c.toNat:Int)] (nI (Go.Lib.indexByte s c)):=by
 intro φ xs w hx
 match xs,hx with
 |[x,y],⟨h1,h2,_⟩=>
  have h1:x=.string ⟨s.toArray⟩:=h1;have h2:y=.int .u8 (c.toNat:Int):=h2;subst h1;subst h2;refine⟨.int .i64 (Go.Lib.indexByte s c),?_,rfl⟩;rw[run_callFunc_extern (e:=Extern.BytealgIndexByte.indexByte) Tryz.func188 (by kernel_rfl) rfl (by rfl) (by rfl)];rw[show [Value.string ⟨s.toArray⟩,Value.int IntKind.u8 (c.toNat:Int)].toArray= #[.string ⟨s.toArray⟩,.int .u8 (c.toNat:Int)] from rfl,Go.Lib.run_indexByteString,u8_back];rfl
theorem count_c (s:By) (c:UInt8):FC Tryz.prog 151 [sV s,sV [c]] 0 [] (nI ((s.count c:Nat):Int)) 0 []:=by
 refine FC.walk (by kernel_rfl) Tryz.func151 rfl rfl ?_
 repeat'(first|exact y0|refine y1 ?_|refine y2 ?_ ?_|(refine y8 ?_ ?_<;>intro h<;>try exact y6)|(refine wC ?_;first|refine CallG.xt (countString_x _ _) rfl rfl ?_)|refine Fin.int (.inl rfl) rfl ?_|refine y3 ?_|refine y7 ?_ ?_|refine y4 ?_|(refine y9 ?_ ?_<;>intro h)|exact y5|fail)
 all_goals first
  |rfl
  |(simp at*;done)
theorem indexByte_c (s:By) (c:UInt8):FC Tryz.prog 183 [sV s,n8 (c.toNat:Int)] 0 [] (nI (Go.Lib.indexByte s c)) 0 []:=by
 refine FC.walk (by kernel_rfl) Tryz.func183 rfl rfl ?_
 repeat'(first|exact y0|refine y1 ?_|refine y2 ?_ ?_|(refine y8 ?_ ?_<;>intro h<;>try exact y6)|(refine wC ?_;first|refine CallG.xt (indexByte_x _ _) rfl rfl ?_)|refine Fin.int (.inl rfl) rfl ?_|refine y3 ?_|refine y7 ?_ ?_|refine y4 ?_|(refine y9 ?_ ?_<;>intro h)|exact y5|fail)
 all_goals rfl
theorem index0_c (s:By) (c:UInt8):FC Tryz.prog 179 [sV s,sV [c]] 0 [] (nI (Go.Lib.indexByte s c)) 0 []:=by
 refine FC.walk (by kernel_rfl) Tryz.func179 rfl rfl ?_
 repeat'(first|exact y0|refine y1 ?_|refine y2 ?_ ?_|(refine y8 ?_ ?_<;>intro h<;>try(first|exact absurd rfl h|exact y6))|(refine wC ?_;first|refine wF 183 (pu (indexByte_c _ _) ?_))|refine Fin.int (.inl rfl) rfl ?_|refine y3 ?_|refine y7 ?_ ?_|refine y4 ?_|(refine y9 ?_ ?_<;>intro h)|exact y5|fail)
 all_goals first
  |rfl
  |(exfalso;simp at*;done)
  |(subst_vars;simp[Go.Lib.indexByte];done)
  |(simp;done)
theorem index_c (s:By) (c:UInt8):FC Tryz.prog 171 [sV s,sV [c]] 0 [] (nI (Go.Lib.indexByte s c)) 0 []:=by
 refine FC.walk (by kernel_rfl) Tryz.func171 rfl rfl ?_
 repeat'(first|exact y0|refine y1 ?_|refine y2 ?_ ?_|(refine y8 ?_ ?_<;>intro h<;>try exact y6)|(refine wC ?_;first|refine wF 179 (pu (index0_c _ _) ?_))|refine Fin.int (.inl rfl) rfl ?_|refine y3 ?_|refine y7 ?_ ?_|refine y4 ?_|(refine y9 ?_ ?_<;>intro h)|exact y5|fail)
 all_goals rfl
def splitB (c:UInt8):By→List By
 |[]=>[[]]
 |b::l=>if b=c then []::splitB c l else match splitB c l with|h::t=>(b::h)::t|[]=>[[b]]
theorem splitB_len (c:UInt8):∀ s:By,(splitB c s).length=s.count c+1
 |[]=>rfl
 |b::l=>by
  have ih:=splitB_len c l;by_cases h:b=c
  ·simp only[splitB,if_pos h,List.length_cons,ih];rw[h,List.count_cons_self]
  ·simp only[splitB,if_neg h]
   rw[List.count_cons_of_ne h]
   cases e:splitB c l with
   |nil=>rw[e] at ih;simp at ih
   |cons x t=>rw[e] at ih;simpa using ih
theorem splitB_no (c:UInt8):∀ s:By,Go.Lib.indexByte s c= -1→splitB c s=[s]
 |[],_=>rfl
 |b::l,h=>by
  unfold Go.Lib.indexByte at h;split at h
  ·cases h
  ·rename_i hb
   have hb: ¬b=c:=by simpa using hb
   have h1:=Go.Lib.indexByte_ge l c;split at h
   ·rename_i he
    have he:Go.Lib.indexByte l c= -1:=by simpa using he
    simp only[splitB,if_neg hb,splitB_no c l he]
   ·rename_i he
    have he: ¬Go.Lib.indexByte l c= -1:=by simpa using he
    omega
theorem splitB_at (c:UInt8):∀ (s:By) (k:Nat),Go.Lib.indexByte s c=(k:Int)→k<s.length∧splitB c s=s.take k::splitB c (s.drop (k+1))∧s.count c=(s.drop (k+1)).count c+1
 |[],k,h=>by unfold Go.Lib.indexByte at h;omega
 |b::l,k,h=>by
  unfold Go.Lib.indexByte at h;split at h
  ·rename_i hb
   have hb:b=c:=by simpa using hb
   obtain rfl:k=0:=by omega
   subst hb;simp[splitB]
  ·rename_i hb
   have hb: ¬b=c:=by simpa using hb
   split at h
   ·exfalso;omega
   ·have h1:=Go.Lib.indexByte_ge l c
    cases k with
    |zero=>
     rename_i he
     have he: ¬Go.Lib.indexByte l c= -1:=by simpa using he
     omega
    |succ k=>
     obtain⟨i1,i2,i3⟩:=splitB_at c l k (by omega);refine⟨by simp;omega,?_,?_⟩
     ·simp only[splitB,if_neg hb,i2,List.take_succ_cons,List.drop_succ_cons]
     ·rw[List.count_cons_of_ne hb,i3];simp
theorem indexByte_none (c:UInt8):∀ s:By,s.count c=0→Go.Lib.indexByte s c= -1
 |[],_=>rfl
 |b::l,h=>by
  have hb: ¬b=c:=fun e=>by rw[e,List.count_cons_self] at h;omega
  rw[List.count_cons_of_ne hb] at h;unfold Go.Lib.indexByte;rw[if_neg (by simpa using hb),indexByte_none c l h];rfl
theorem count_le (c:UInt8) (s:By):s.count c≤s.length:=List.count_le_length
def rowS (n:Nat) (done:List By):List S:=done.map S.str++List.replicate (n-done.length) (.str [])
theorem rowS_len {n:Nat} {done:List By} (h:done.length≤n):(rowS n done).length=n:=by simp[rowS];omega
theorem rowS_set {n:Nat} {done:List By} (x:By) (h:done.length<n):setL (rowS n done) done.length [.str x]=rowS n (done++[x]):=by
 simp only[setL,rowS];rw[List.set_append_right _ _ (by simp)];simp only[List.length_map,Nat.sub_self,List.map_append,List.map_cons,List.map_nil,List.append_assoc,List.length_append,List.length_singleton];rw[show n-done.length=(n-(done.length+1))+1 by omega,List.replicate_succ,List.set_cons_zero];rfl
theorem rowS_get {n:Nat} {l:List By} {k j:Nat} {x:S} (hk:k<l.length) (h:([S.str (l.getD k [])])[j]? =some x):(rowS n l)[k*1+j]? =some x∧pureS x=true:=by
 cases j with
 |succ j=>simp at h
 |zero=>
  simp only[List.getElem?_cons_zero,Option.some.injEq] at h;subst h;refine⟨?_,rfl⟩;simp only[rowS,Nat.mul_one,Nat.add_zero];rw[List.getElem?_append_left (by simpa using hk)];simp[List.getD_eq_getElem?_getD,hk]
theorem genSplit_c (s:By) (c:UInt8) (hl:s.length<9223372036854775807) (hc:s.count c<1000000):FC Tryz.prog 172 [sV s,sV [c],nI 0,nI (-1)] 0 [] (.s (strsF (splitB c s))) 0 []:=by
 have hcl:=count_le c s;generalize hn:s.count c=n at*;refine FC.walk (by kernel_rfl) Tryz.func172 rfl rfl ?_;have hcc:=count_c s c;rw[hn] at hcc
 repeat'(first|exact y0|refine y1 ?_|refine y2 ?_ ?_|(refine y8 ?_ ?_<;>intro h<;>try exact y6)|(refine wC ?_;first|refine wF 151 (pu hcc ?_))|refine y3 ?_|refine y7 ?_ ?_|refine y4 ?_|(refine y9 ?_ ?_<;>intro h)|exact y5|fail)
 refine RegX.opA [.num ((n:Int)+1)] rfl rfl ⟨trivial,?_⟩ ?_
 ·show (if ((s.length:Int)+1)<(n:Int)+1 then (s.length:Int)+1 else (n:Int)+1)=_
  rw[if_neg (by omega)]
 repeat'(first|exact y0|refine y1 ?_|refine y2 ?_ ?_|(refine y8 ?_ ?_<;>intro h<;>try exact y6)|refine y3 ?_|refine y7 ?_ ?_|refine y4 ?_|(refine y9 ?_ ?_<;>intro h)|exact y5|fail)
 refine RegX.opA [.idx (n+1),.idx (n+1)] rfl rfl ⟨rfl,rfl,Nat.le_refl _,?_,by omega⟩ ?_
 ·rw[show (Tryz.prog.types[9]).bytes=16 by kernel_rfl];omega
 repeat'(first|exact y0|refine y1 ?_|refine y2 ?_ ?_|(refine y8 ?_ ?_<;>intro h<;>try exact y6)|refine y3 ?_|refine y7 ?_ ?_|refine y4 ?_|(refine y9 ?_ ?_<;>intro h)|exact y5|fail)
 refine Ex.inv (σ:=List By×By) (fun x=>[(0,sV x.2),(10,nI x.1.length)]) (fun x=>[(0,some {cells:=rowS (n+1) x.1,ty:=9,sym:=true,flat:=true})]) (fun x=>splitB c s=x.1++splitB c x.2∧x.1.length+x.2.count c=n∧x.2.length≤s.length) (fun x=>n-x.1.length) ([],s) rfl (fun _=>rfl) ⟨rfl,by simpa using hn,Nat.le_refl _⟩ ⟨VLe.refl _,VLe.refl _,trivial⟩ ⟨rfl,trivial⟩ ?_;rintro⟨done,rem⟩ ⟨h1,h2,h3⟩;simp only at h1 h2 h3 ⊢;by_cases hlt:done.length<n
 ·obtain⟨k,hk⟩:∃ k:Nat,Go.Lib.indexByte rem c=(k:Int):=by
   have hge:=Go.Lib.indexByte_ge rem c
   have:Go.Lib.indexByte rem c≠ -1:=fun e=>by
    have:=splitB_len c rem;rw[splitB_no c rem e] at this;simp at this;omega
   exact⟨(Go.Lib.indexByte rem c).toNat,by omega⟩
  obtain⟨k1,k2,k3⟩:=splitB_at c rem k hk;have hidx:=index_c rem c;rw[hk] at hidx
  repeat'(first|exact y0|refine y1 ?_|refine y2 ?_ ?_|(refine y8 ?_ ?_<;>intro h<;>try exact y6)|(refine wC ?_;first|refine wF 171 (pu hidx ?_))|refine y3 ?_|refine y7 ?_ ?_|refine y4 ?_|(refine y9 ?_ ?_<;>intro h)|exact y5|fail)
  refine RegX.opA [.cells (rowS (n+1) (done++[rem.take k]))] rfl rfl ⟨?_,?_⟩ ?_
  ·rw[rowS_len (by omega)];show done.length+1≤n+1;omega
  ·exact (rowS_set _ (by omega)).symm
  repeat'(first|exact y0|refine y1 ?_|refine y2 ?_ ?_|(refine y8 ?_ ?_<;>intro h<;>try exact y6)|refine y3 ?_|refine y7 ?_ ?_|refine y4 ?_|(refine y9 ?_ ?_<;>intro h)|exact y5|fail)
  ·
   refine i64_in ?_ ?_
   ·simp;omega
   ·simp;omega
  ·simp;omega
  ·refine LoopR.same (done++[rem.take k],rem.drop (k+1)) ⟨?_,?_,?_⟩ ?_ rfl ⟨VLe.refl _,VLe.of_eq ?_,trivial⟩ ⟨rfl,trivial⟩ rfl rfl (by decide)
   ·simp only[h1,k2,List.append_assoc,List.singleton_append]
   ·simp only[List.length_append,List.length_singleton];omega
   ·simp only[List.length_drop];omega
   ·simp only[List.length_append,List.length_singleton];omega
   ·simp only[List.length_append,List.length_singleton];rfl
 ·
  have hdn:done.length=n:=by omega
  have hno:Go.Lib.indexByte rem c= -1:=indexByte_none c rem (by omega)
  have hfin:splitB c s=done++[rem]:=by rw[h1,splitB_no c rem hno]
  repeat'(first|exact y0|refine y1 ?_|refine y2 ?_ ?_|(refine y8 ?_ ?_<;>intro h<;>try exact y6)|refine y3 ?_|refine y7 ?_ ?_|refine y4 ?_|(refine y9 ?_ ?_<;>intro h)|exact y5|fail)
  refine RegX.opA [.cells (rowS (n+1) (done++[rem]))] rfl rfl ⟨?_,?_⟩ ?_
  ·rw[rowS_len (by omega)];show done.length+1≤n+1;omega
  ·exact (rowS_set _ (by omega)).symm
  repeat'(first|exact y0|refine y1 ?_|refine y2 ?_ ?_|(refine y8 ?_ ?_<;>intro h<;>try exact y6)|refine y3 ?_|refine y7 ?_ ?_|refine y4 ?_|(refine y9 ?_ ?_<;>intro h)|exact y5|fail)
  refine RegX.opA [.idx (done.length+1)] rfl rfl ⟨⟨rfl,?_⟩,trivial⟩ ?_
  ·show done.length+1≤n+1;omega
  repeat'(first|exact y0|refine y1 ?_|refine y2 ?_ ?_|(refine y8 ?_ ?_<;>intro h<;>try exact y6)|refine Ex.fz 8 (fun k=>[.str ((splitB c s).getD k [])]) 1 rfl rfl rfl rfl (fun _ _=>rfl) ?_ rfl rfl ?_|refine Fin.le (.inl rfl) rfl ?_ rfl|refine y3 ?_|refine y7 ?_ ?_|refine y4 ?_|(refine y9 ?_ ?_<;>intro h)|exact y5|fail)
  ·intro k j x hk hx
   rw[hfin] at hx;exact rowS_get (by simp only[List.length_append,List.length_singleton];exact hk) hx
  ·have:(splitB c s).length=done.length+1:=by rw[hfin];simp
   unfold strsF;rw[this];exact VLe.refl _
theorem split_c (s:By) (c:UInt8) (hl:s.length<9223372036854775807) (hc:s.count c<1000000):FC Tryz.prog 152 [sV s,sV [c]] 0 [] (.s (strsF (splitB c s))) 0 []:=by
 refine FC.walk (by kernel_rfl) Tryz.func152 rfl rfl ?_
 repeat'(first|exact y0|refine y1 ?_|refine y2 ?_ ?_|(refine y8 ?_ ?_<;>intro h<;>try exact y6)|(refine wC ?_;first|refine wF 172 (pu (genSplit_c s c hl hc) ?_))|refine Fin.plain (.inl rfl) rfl ?_ rfl|refine y3 ?_|refine y7 ?_ ?_|refine y4 ?_|(refine y9 ?_ ?_<;>intro h)|exact y5|fail)
 all_goals rfl
end Go.Proofs.YtphdhedhhlfepaaGreatDoor
