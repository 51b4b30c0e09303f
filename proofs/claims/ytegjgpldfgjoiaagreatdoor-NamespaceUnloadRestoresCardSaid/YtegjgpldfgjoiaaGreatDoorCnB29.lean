import Derived.Test.YtegjgpldfgjoiaaGreatDoorCnB28
import Derived.Test.YtegjgpldfgjoiaaGreatDoorCnB22
import Derived.Test.YtegjgpldfgjoiaaGreatDoorCnB13
import Derived.Test.YtegjgpldfgjoiaaGreatDoorCnB12
import Derived.Test.YtegjgpldfgjoiaaGreatDoorCnB14
set_option linter.unusedSimpArgs false
set_option linter.unusedVariables false
namespace Go.Proofs.YtegjgpldfgjoiaaGreatDoor
namespace Ab
open Go
set_option maxRecDepth 100000
inductive Pl where
 |call (x:Operand) (args:List Operand)
 |light (f:(Operand->V)->Option V)
 |mem (ft:List Operand) (f:(Operand->V)->Nat->Hp->Option R)
inductive IB where
 |no
 |f (g:IntKind->Int->Int->Option S)
def Fm (op:BinOp):IB:=
 match op with
 | .add=> .f fun k a b=>some (.int k (cG k (a+b)))
 | .sub=> .f fun k a b=>some (.int k (cG k (a-b)))
 | .eql=> .f fun _ a b=>some (.bool (eqI a b))
 | .neq=> .f fun _ a b=>some (.bool (ce (eqI a b)))
 | .lss=> .f fun _ a b=>some (.bool (ltI a b))
 | .leq=> .f fun _ a b=>some (.bool (ce (ltI b a)))
 | .gtr=> .f fun _ a b=>some (.bool (ltI b a))
 | .geq=> .f fun _ a b=>some (.bool (ce (ltI a b)))
 |_=> .no
def kNo:IntKind->Nat
 | .i8=>0| .i16=>1| .i32=>2| .i64=>3| .u8=>4| .u16=>5| .u32=>6| .u64=>7
theorem zw (a b:IntKind):Nat.beq (kNo a) (kNo b)=kEq a b:=by cases a<;>cases b<;>rfl
def zP (op:BinOp) (k:IntKind) (a:Int) (k':IntKind) (b:Int):Option S:=
 match Fm op with
 | .f g=>match Nat.beq (kNo k) (kNo k') with|true=>g k a b|false=>none
 | .no=>s8 op k a k' b
theorem zO (op:BinOp) (k:IntKind) (a:Int) (k':IntKind) (b:Int):zP op k a k' b=s8 op k a k' b:=by
 unfold zP
 cases op<;>first|rfl|(simp only[Fm,zw,s8,qM];done)|(simp only[Fm,zw,s8,qM];rfl)
def zM (P:Program) (op:BinOp) (t:TypeId) (x y:V):Option S:=
 match x with
 | .s a=>
   match a with
   | .int k z=>
     match y with
     | .s b=>(match b with| .int k' z'=>zP op k z k' z'|_=>mF P op t (wkV x) (wkV y))
     |_=>mF P op t (wkV x) (wkV y)
   |_=>mF P op t (wkV x) (wkV y)
 |_=>mF P op t (wkV x) (wkV y)
theorem zL (P:Program) (op:BinOp) (t:TypeId) (x y:V):zM P op t x y=mF P op t (wkV x) (wkV y):=by
 unfold zM;split
 ·split
  ·split
   ·split
    ·rw[zO];rfl
    ·rfl
   ·rfl
  ·rfl
 ·rfl
def qA (s:Option S):Option V:=match s with|some s=>some (.s s)|none=>none
def qm (o:Option Out):Option V:=match o with|some o=>some o.r.v|none=>none
def asR (n:Nat) (v:Option V):Option R:=match v with|some v=>some ⟨[],v,[],n⟩|none=>none
theorem gL (n:Nat) (s:Option S):lgt n s=asR n (qA s):=by cases s<;>rfl
def CW (P:Program) (t:TypeId):Bool:=match P.underlying t with|some (.map _ _)=>true|_=>false
def Ct (P:Program) (o:Oper):Pl:=
 match o.op with
 | .move x=> .light fun g=>some (g x)
 | .assign x=> .light fun g=>some (g x)
 | .pick c a b=> .light fun g=>match g c with| .s (.bool t)=>(match t with|true=>some (g a)|false=>some (g b))|_=>none
 | .binOp op t x y _=> .light fun g=>match zM P op t (g x) (g y) with|some s=>some (.s s)|none=>qA (Ee op (g x) (g y))
 | .unOp op _ x=> .light fun g=>qA (kUn op (g x))
 | .slice t x lo hi mx=> .light fun g=>qA (lK P 0 t (g x) (lo.map g) (hi.map g) (mx.map g))
 | .build t parts=> .light fun g=>qm (ep P 0 t (parts.toList.map fun (i,x)=>(i,g x)) [])
 | .field t x f=> .light fun g=>qm (cU P 0 t (g x) f [])
 | .extract x i=> .light fun g=>tT (g x) i
 | .fieldAddr s x f=> .light fun g=>qm (eo P 0 s (g x) f [])
 | .indexAddr t x ix=> .light fun g=>qA (CT P t (g x) (g ix))
 | .index t x ix=> .light fun g=>qA (oT P t (g x) (g ix))
 | .nilCheck x=> .light fun g=>qm (mn 0 (g x) [])
 | .load t a=> .mem [a] fun g n L=>uL P n L t (g a)
 | .store t a x=> .mem [a] fun g n L=>oQ P n L t (g a) (g x)
 | .convert src dst x=> .mem [x] fun g n L=>kx P o g n L
 | .lookup t x ix ok=> .mem [x] fun g n L=>uK P n L t (g x) (g ix) ok
 | .mapUpdate t m k v=> .mem [m] fun g n L=>zx P n L t (g m) (g k) (g v)
 | .range t x=> .mem [x] fun g n L=>zn P n L t (g x)
 | .next x s=> .mem [x] fun g n L=>Ef n L (g x) s
 | .entry x=> .mem [x] fun g n L=>zG n L (g x)
 | .call c=>
   match c.callee with
   | .value x=> .call x c.args.toList
   | .builtin .len=>(match c.args.toList,c.argTypes[0]? with|[x],some t=>(match CW P t with|true=> .mem c.args.toList fun g n L=>kx P o g n L|false=> .light fun g=>qA (xg P t (g x)))|_,_=> .mem c.args.toList fun g n L=>kx P o g n L)
   | .builtin _=> .mem c.args.toList fun g n L=>kx P o g n L
   | .invoke _ _=> .mem [] fun g n L=>kx P o g n L
 |_=> .mem [] fun g n L=>kx P o g n L
theorem BC (P:Program) (n:Nat) (t:TypeId) (ps:List (Nat×V)):ia (ep P n t ps [])=asR n (qm (ep P 0 t ps [])):=by
 unfold ep
 repeat' split
 all_goals first|rfl|(simp only[cn];rfl)
theorem xj (P:Program) (n:Nat) (t:TypeId) (x:V) (f:Nat):ia (cU P n t x f [])=asR n (qm (cU P 0 t x f [])):=by
 unfold cU
 repeat' split
 all_goals first|rfl|(simp only[cn];rfl)
theorem Bz (P:Program) (n:Nat) (t:TypeId) (x:V) (f:Nat):ia (eo P n t x f [])=asR n (qm (eo P 0 t x f [])):=by
 unfold eo
 repeat' split
 all_goals first|rfl|(simp only[cn];rfl)
theorem F6 (n:Nat) (x:V):ia (mn n x [])=asR n (qm (mn 0 x [])):=by
 unfold mn
 repeat' split
 all_goals first|rfl|(simp only[cn];rfl)
def PlOK (P:Program) (o:Oper) (g:Operand->V):Pl->Prop
 | .call x args=>callee g o.op=tf (g x)/\jR g o.op=args.map g++j9 (g x)/\∀ n L,kx P o g n L=none
 | .light f=>callee g o.op=none/\∀ n L,kx P o g n L=asR n (f g)
 | .mem ft f=>callee g o.op=none/\dA o.op g=jc g ft/\∀ n L,kx P o g n L=f g n L
theorem Cs (P:Program) (o:Oper) (g:Operand->V):PlOK P o g (Ct P o):=by
 unfold Ct;split
 ·rename_i x ho;exact⟨by simp only[callee,ho],fun n L=>by simp only[kx,kop,ho];rfl⟩
 ·rename_i x ho;exact⟨by simp only[callee,ho],fun n L=>by simp only[kx,kop,ho];rfl⟩
 ·rename_i c a b ho
  refine⟨by simp only[callee,ho],fun n L=>?_⟩;simp only[kx,kop,ho]
  cases g c with
  |s y=>cases y with
   |bool t=>cases t<;>rfl
   |_=>rfl
  |_=>rfl
 ·rename_i op t x y ty ho
  refine⟨by simp only[callee,ho],fun n L=>?_⟩;simp only[kx,ho,zL]
  cases mF P op t (wkV (g x)) (wkV (g y)) with
  |some s=>rfl
  |none=>exact gL n _
 ·rename_i op t x ho;exact⟨by simp only[callee,ho],fun n L=>by simp only[kx,kop,ho,gL]⟩
 ·rename_i t x lo hi mx ho;exact⟨by simp only[callee,ho],fun n L=>by simp only[kx,kop,ho,gL];rfl⟩
 ·rename_i t parts ho;exact⟨by simp only[callee,ho],fun n L=>by simp only[kx,kop,ho];exact BC P n t _⟩
 ·rename_i t x f ho;exact⟨by simp only[callee,ho],fun n L=>by simp only[kx,kop,ho];exact xj P n t _ f⟩
 ·rename_i x i ho
  refine⟨by simp only[callee,ho],fun n L=>?_⟩;simp only[kx,kop,ho]
  cases tT (g x) i<;>rfl
 ·rename_i s x f ho;exact⟨by simp only[callee,ho],fun n L=>by simp only[kx,kop,ho];exact Bz P n s _ f⟩
 ·rename_i t x ix ho;exact⟨by simp only[callee,ho],fun n L=>by simp only[kx,kop,ho,gL]⟩
 ·rename_i t x ix ho;exact⟨by simp only[callee,ho],fun n L=>by simp only[kx,kop,ho,gL]⟩
 ·rename_i x ho;exact⟨by simp only[callee,ho],fun n L=>by simp only[kx,kop,ho];exact F6 n _⟩
 ·rename_i t a ho;exact⟨by simp only[callee,ho],by simp only[dA,ho,jc,List.append_nil],fun n L=>by simp only[kx,kop,ho]⟩
 ·rename_i t a x ho;exact⟨by simp only[callee,ho],by simp only[dA,ho,jc,List.append_nil],fun n L=>by simp only[kx,kop,ho]⟩
 ·rename_i src dst x ho;exact⟨by simp only[callee,ho],by simp only[dA,ho,jc,List.append_nil],fun n L=>rfl⟩
 ·rename_i t x ix ok ho;exact⟨by simp only[callee,ho],by simp only[dA,ho,jc,List.append_nil],fun n L=>by simp only[kx,ho]⟩
 ·rename_i t m k v ho;exact⟨by simp only[callee,ho],by simp only[dA,ho,jc,List.append_nil],fun n L=>by simp only[kx,ho]⟩
 ·rename_i t x ho;exact⟨by simp only[callee,ho],by simp only[dA,ho,jc,List.append_nil],fun n L=>by simp only[kx,ho]⟩
 ·rename_i x s ho;exact⟨by simp only[callee,ho],by simp only[dA,ho,jc,List.append_nil],fun n L=>by simp only[kx,ho]⟩
 ·rename_i x ho;exact⟨by simp only[callee,ho],by simp only[dA,ho,jc,List.append_nil],fun n L=>by simp only[kx,ho]⟩
 ·rename_i c ho
  split
  ·rename_i x hc
   refine⟨by simp only[callee,ho,hc],by simp only[jR,ho,hc],fun n L=>?_⟩;simp only[kx,kop,ho,hc]
  ·rename_i hc
   split
   ·rename_i x t hargs ht
    split
    ·exact⟨by simp only[callee,ho,hc],by simp only[dA,ho,hc],fun n L=>rfl⟩
    ·rename_i hm
     refine⟨by simp only[callee,ho,hc],fun n L=>?_⟩;have hz:Eg P c.argTypes n L (g x)=none:=rfl;simp only[kx,kop,ho,hc,hargs,List.map_cons,List.map_nil,iP,ht,gL,hz]
     cases asR n (qA (xg P t (g x)))<;>rfl
   ·exact⟨by simp only[callee,ho,hc],by simp only[dA,ho,hc],fun n L=>rfl⟩
  ·rename_i b hc
   exact⟨by simp only[callee,ho,hc],by simp only[dA,ho,hc],fun n L=>rfl⟩
  ·rename_i r m hc
   exact⟨by simp only[callee,ho,hc],by simp only[dA,ho,hc,jc],fun n L=>rfl⟩
 ·rename_i h1 h2 h3 h4 h5 h6 h7 h8 h9 h10 h11 h12 h13 h14 h15 h16 h17 h18 h20 h21 h22 h19
  refine⟨?_,?_,fun n L=>rfl⟩
  ·unfold callee
   split
   ·rename_i c ho;exact absurd ho (h19 c)
   ·rfl
  ·unfold dA
   split
   ·rename_i t a ho;exact absurd ho (h14 t a)
   ·rename_i t a x ho;exact absurd ho (h15 t a x)
   ·rename_i s d x ho;exact absurd ho (h16 s d x)
   ·rename_i t x ix ok ho;exact absurd ho (h17 t x ix ok)
   ·rename_i t m k v ho;exact absurd ho (h18 t m k v)
   ·rename_i t x ho;exact absurd ho (h20 t x)
   ·rename_i x s ho;exact absurd ho (h21 x s)
   ·rename_i x ho;exact absurd ho (h22 x)
   ·rename_i c ho;exact absurd ho (h19 c)
   ·rfl
def kLt (K:Kst) (o:Oper) (env:T V) (n:Nat) (h:T Bl) (acs:List Acc) (k:KK) (r:Option V):KO:=
 match r with
 |none=> .bad o.pos 5
 |some v=>match okV n v with|true=>(wE v fun v=>j0 K o env n h acs v k)|false=> .bad o.pos 6
def kGo (K:Kst) (o:Oper) (j:Nat) (env:T V) (n:Nat) (h:T Bl) (acs:List Acc) (k:KK) (p:Pl):KO:=
 match p with
 | .light f=>kLt K o env n h acs k (f (evT env))
 | .mem ft f=>oS K o j env n h acs k (jc (evT env) ft) (f (evT env) n (v8 h (jc (evT env) ft)))
 | .call x args=>
   match tf (evT env x) with
   |some f=>oV K o j env n h acs k (K.cl f (args.map (evT env)++j9 (evT env x)) n h)
   |none=> .bad o.pos 5
def zt (K:Kst) (o:Oper) (j:Nat) (env:T V) (n:Nat) (h:T Bl) (acs:List Acc) (k:KK):KO:=
 match pI K.ops env o with
 |some b=>(match b with|true=>kGo K o j env n h acs k (Ct K.P o)|false=>j0 K o env n h acs .undef k)
 |none=> .bad o.pos 1
theorem zr {K:Kst} (hk:K.kx=kx K.P) (o:Oper) (j:Nat) (env:T V) (n:Nat) (h:T Bl) (acs:List Acc) (k:KK):zt K o j env n h acs k=zu K o j env n h acs k:=by
 unfold zt zu
 cases hw:pI K.ops env o with
 |none=>rfl
 |some b=>
  cases b with
  |false=>rfl
  |true=>
   simp only[hk];have hp:=Cs K.P o (evT env)
   cases hpl:Ct K.P o with
   |light f=>
    rw[hpl] at hp;obtain⟨h1,h2⟩:=hp;simp only[h1,h2,kGo,kLt]
    cases f (evT env) with
    |none=>rfl
    |some v=>
     simp only[asR,oS,qY,okW,yJ,Bool.and_self,Bool.or_true,Nat.ble_eq_true_of_le (Nat.le_refl n),Bool.true_and,Bool.and_true,zo,o0,de]
     cases okV n v<;>rfl
   |mem ft f=>
    rw[hpl] at hp;obtain⟨h1,h2,h3⟩:=hp;simp only[h1,h2,h3,kGo]
   |call x args=>
    rw[hpl] at hp;obtain⟨h1,h2,h3⟩:=hp;simp only[h1,h2,h3,kGo]
    cases tf (evT env x)<;>rfl
def qL (K:Kst):List Oper->Nat->T V->Nat->T Bl->List Acc->KO
 |[],_,env,n,h,_=> .ok .normal env n h
 |o::os,j,env,n,h,acs=>zt K o j env n h acs fun env n h acs=>qL K os (Nat.succ j) env n h acs
theorem lL {K:Kst} (hk:K.kx=kx K.P):∀ (l:List Oper) (j:Nat) (env:T V) (n:Nat) (h:T Bl) (acs:List Acc),qL K l j env n h acs=s6 K l j env n h acs
 |[],_,_,_,_,_=>rfl
 |o::os,j,env,n,h,acs=>by
  simp only[qL,s6,zr hk];congr 1
  funext env n h acs
  exact lL hk os _ env n h acs
def kCQ (P:Program) (cl:Cl) (lf nt:Nat):Code->T V->Nat->T Bl->KO
 | .seq a b,env,n,h=>
   match kCQ P cl lf nt a env n h with
   | .ok .normal e m M=>kCQ P cl lf nt b e m M
   |r=>r
 | .region _ ops d,env,n,h=>
   match d with
   |false=>qL ⟨P,kx P,cl,nt,ops,false⟩ ops.toList 0 env n h []
   | true => match vP ops with | true => qL ⟨P, kx P, cl, nt, ops, true⟩ ops.toList 0 env n h [] | false => .bad "region" 11
 | .cond c a b,env,n,h=>
   match evT env c with
   | .s (.bool t)=>match t with|true=>kCQ P cl lf nt a env n h|false=>kCQ P cl lf nt b env n h
   | _ => .bad "cond" 10
 | .skip,env,n,h=> .ok .normal env n h
 | .ret,env,n,h=> .ok .ret env n h
 | .exit id,env,n,h=> .ok (.exit id) env n h
 | .block id c,env,n,h=>
   match kCQ P cl lf nt c env n h with
   | .ok (.exit id') e m M=>match Nat.beq id' id with|true=> .ok .normal e m M|false=> .ok (.exit id') e m M
   |r=>r
 | .loop c,env,n,h=>qw lf (fun env n h=>kCQ P cl lf nt c env n h) env n h
 | _, _, _, _ => .bad "code" 12
theorem Fl (P:Program) (cl:Cl) (lf nt:Nat):∀ (c:Code) (env:T V) (n:Nat) (h:T Bl),kCQ P cl lf nt c env n h=kC P (kx P) cl lf nt c env n h:=by
 intro c
 induction c with
 |seq a b iha ihb=>
  intro env n h;simp only[kCQ,kC,iha]
  cases kC P (kx P) cl lf nt a env n h with
  |bad p w=>rfl
  |ok x e m M=>cases x<;>first|exact ihb _ _ _|rfl
 |region id ops d=>
  intro env n h;simp only[kCQ,kC]
  cases d with
  |false=>simp only[ce,Bool.true_or];exact lL rfl _ _ _ _ _ _
  |true=>
   simp only[ce,Bool.false_or]
   cases vP ops with
   |true=>exact lL rfl _ _ _ _ _ _
   |false=>rfl
 |cond c a b iha ihb=>
  intro env n h;simp only[kCQ,kC]
  cases evT env c with
  |s y=>cases y with
   |bool t=>cases t<;>first|exact iha _ _ _|exact ihb _ _ _
   |_=>rfl
  |_=>rfl
 |block id c ih=>
  intro env n h;simp only[kCQ,kC,ih]
  all_goals (cases kC P (kx P) cl lf nt c env n h<;>first|rfl|(rename_i x _ _ _;cases x<;>rfl))
 |loop c ih=>
  intro env n h;simp only[kCQ,kC];congr 1
  funext env n h
  exact ih env n h
 |_=>intro env n h;rfl
def uI (P:Program) (lf:Nat) (cl:Cl) (fn:Func) (c:Code) (args:List V) (n:Nat) (h:T Bl):KC:=
 match Nat.ble args.length fn.ntmps with
 |false=> .bad fn.name 13
 |true=>
  match kCQ P cl lf fn.ntmps c (lZ args 0 .nil) n h with
  | .bad p w=> .bad p w
  | .ok x e m M=>
    match (match x with| .ret=>true| .normal=>true|_=>false) with
    |true=>match Cj P fn e M with|some v=>(wE v fun v=>match okV m v&&Nat.ble n m with|true=> .ok v m M|false=> .bad fn.name 20)|none=> .bad fn.name 14
    |false=> .bad fn.name 15
theorem qK (P:Program) (lf:Nat) (cl:Cl) (fn:Func) (c:Code) (args:List V) (n:Nat) (h:T Bl):uI P lf cl fn c args n h=CO P (kx P) lf cl fn c args n h:=by
 simp only[uI,CO,Fl]
 all_goals rfl
def Bi (P:Program) (f:FuncId):Option (Func×Code):=
 match P.funcs[f]? with
 | some fn => match fn.body with | some c => (match fn.name == "runtime.NumGoroutine" with | true => none | false => some (fn, c)) | none => none
 |none=>none
def kFQ (P:Program) (ov:FuncId->List V->Nat->T Bl->Option KC) (lf:Nat):Nat->Cl
 | 0 => fun _ _ _ _ => .bad "depth" 16
 |d+1=>fun f args n h=>
  match ov f args n h with
  |some r=>r
  | none => match Bi P f with | some (fn, c) => uI P lf (kFQ P ov lf d) fn c args n h | none => .bad "func" 19
theorem zE {P:Program} (hm:P.follows .mixedOrders=true) {ov:FuncId->List V->Nat->T Bl->Option KC} (hov:sn P ov) {lf:Nat}:∀ d,BP P (kFQ P ov lf d)
 |0=>fun f args n h v n' h' hk=>by cases hk
 |d+1=>by
  intro f args n h v n' h' hk L hv oh oe;simp only[kFQ] at hk;split at hk
  ·rename_i r hr
   exact hov f args n h r hr v n' h' hk L hv oh oe
  ·split at hk
   ·rename_i fn c hb
    unfold Bi at hb;split at hb
    ·rename_i fn' hf
     split at hb
     ·rename_i c' hbd
      split at hb
      ·cases hb
      ·rename_i hname
       cases hb;rw[qK] at hk;obtain⟨L',g1,g2,g3,g5,g4⟩:=uH hm (Ed P) (zE hm hov d) hf hbd hk hv oh oe;exact⟨L',g1,g2,g3,g5,g4.callOK hf (by rw[hbd];rfl) hname⟩
     ·cases hb
    ·cases hb
   ·cases hk
theorem SC.ofRunQ {P:Program} (hm:P.follows .mixedOrders=true) {ov:FuncId->List V->Nat->T Bl->Option KC} (hov:sn P ov) {lf d:Nat} {f:FuncId} {fn:Func} {c:Code} (hf:P.funcs[f]? =some fn) (hb:fn.body=some c)
 {args:List V} {n:Nat} {hs:Bs} {v:V} {n':Nat} {hs':Bs} (h:GW (uI P lf (kFQ P ov lf d) fn c args n (tOf hs)) v n' hs'=true) (oh:okW n (toW hs)=true) (oe:args.all (okV n)=true):SC P f args n (puts [] (toW hs)) v n' (puts [] (toW hs')):=by
 rw[qK] at h;unfold GW at h;split at h
 ·rename_i v' m h' hr
  simp only[Bool.and_eq_true] at h;obtain⟨⟨h1,h2⟩,h3⟩:=h;have h1:=FH h1;have h2:=Nat.eq_of_beq_eq_true h2;subst h1;subst h2;obtain⟨L',g1,g2,g3,g4,g5⟩:=uH hm (Ed P) (zE hm hov d) hf hb hr (Fq hs) (OH.puts (L:=[]) (toW hs) (fun i bl hi=>by cases hi) oh) (fun y hy=>List.all_eq_true.1 oe y hy);exact g5.sub (B2 g1 h3)
 ·cases h
set_option maxRecDepth 100000
abbrev Ob:=List (Nat×Nat)
def Ob.hold:Ob->Prop
 |[]=>True
 |(x,y)::t=>x=y/\Ob.hold t
set_option maxRecDepth 100000
theorem CallOK.frame {P:Program} {f:FuncId} {args:List V} {n:Nat} {L0:Hp} {v:V} {n':Nat} {L0' L L':Hp} (h:CallOK P f args n L0 v n' L0') (hs:Sub L0 L)
 (hM:∀ i bl,lk L' i=some bl->lk L0' i=some bl\/(lk L0 i=none/\lk L i=some bl)):CallOK P f args n L v n' L':=by
 intro φ a w o c x cap Q h1 h2 h3 h4 h5 h6;refine Oper.wp_mono ?_ (h φ a w o c x cap Q h1 h2 h3 h4 (h5.sub hs) h6);rintro a' w' ⟨φ',y,e,hv,hg,st,r1,r2⟩
 have hle:φ.le φ':=by
  refine⟨fun j b hj=>?_,st.zle⟩
  rcases Nat.lt_or_ge j n with hjn|hjn
  ·rw[r1 j hjn];exact hj
  ·rw[h6 j hjn] at hj;cases hj
 obtain⟨g1,g2⟩:=Ab.frame h5 hs hg st hle hM;exact⟨φ',y,e,hv,g1,g2,r1,r2⟩
theorem Gw {n:Nat} {v:V} (h:okV 0 v=true):okV n v=true:=qo (Nat.zero_le n) h
theorem SC.up {P:Program} {f:FuncId} {args:List V} {v:V} (h:SC P f args 0 [] v 0 []) (ok:args.all (okV 0)=true) (n:Nat):SC P f args n [] v n []:=by
 intro φ xs w hx hg hf
 have hg0:Good (aj 0 φ) [] w:=⟨fun i bl hi=>(by cases hi),fun i j b b' _ _ hi=>(by cases hi),fun b l hb=>⟨(hg.fz b l hb).1,fun hw=>by obtain⟨i,b',c,hi,_⟩:=hw;cases hi⟩,hg.gz⟩
 refine (h (aj 0 φ) xs w (fb hx ok) hg0 (fun i _=>rfl)).mono ?_;rintro e w' ⟨φ',x,rfl,hv,hg',hn,st,_,_⟩;refine⟨⟨φ.f,φ'.z⟩,x,rfl,Vr.mono (show φ'.le ⟨φ.f,φ'.z⟩ from ⟨fun i b hi=>(by rw[hn i (Nat.zero_le _)] at hi;cases hi),fun _ _ q=>q⟩) hv,⟨fun i bl hi=>(by cases hi),fun i j b b' _ _ hi=>(by cases hi),fun b l hb=>⟨(hg'.fz b l hb).1,fun hw=>by obtain⟨i,b',c,hi,_⟩:=hw;cases hi⟩,hg'.gz⟩,hf,⟨st.os,st.tape,st.output,st.size,fun b hb _=>st.keep b hb (fun hw=>by obtain⟨i,b',c,hi,_⟩:=hw;cases hi),fun j b _ hj=>(by cases hj),st.zle,fun b l hb=>?_⟩,Nat.le_refl _,fun _ _=>rfl⟩
 rcases st.zfr b l hb with q|q|⟨i,b',c,hi,_⟩
 ·exact .inl q
 ·exact .inr (.inl q)
 ·cases hi
def ovG (f0:FuncId) (g:List V->Option V) (f:FuncId) (args:List V) (n:Nat) (h:T Bl):Option KC:=
 match Nat.beq f f0 with
 |false=>none
 |true=>match g args with|some v=>some (.ok v n h)|none=>none
theorem yr {P:Program} {f0:FuncId} {g:List V->Option V} (H:∀ args v,g args=some v->FC P f0 args 0 [] v 0 []/\args.all (okV 0)=true/\okV 0 v=true):sn P (ovG f0 g):=by
 intro f args n hh r hr v n' h' e L hv oh oe;unfold ovG at hr;split at hr
 ·cases hr
 ·rename_i hf
  split at hr
  ·rename_i v0 hc
   have hf:=Nat.eq_of_beq_eq_true hf;subst hf;obtain⟨h,h1,h2⟩:=H args v0 hc;cases hr;cases e;obtain⟨hfn,hsc⟩:=h;unfold kq at hfn;split at hfn
   ·rename_i fn hfn2
    simp only[Bool.and_eq_true,Bool.not_eq_true'] at hfn;refine⟨L,hv,oh,Gw h2,Nat.le_refl _,CallOK.frame (SC.callOK (hsc.up h1 n) hfn2 hfn.1 hfn.2) (fun i bl hi=>(by cases hi)) (fun i bl hi=> .inr ⟨rfl,hi⟩)⟩
   ·cases hfn
  ·cases hr
end Ab
end Go.Proofs.YtegjgpldfgjoiaaGreatDoor
namespace Go.Proofs.YtegjgpldfgjoiaaGreatDoor
open Go Ab
set_option maxRecDepth 100000
set_option maxHeartbeats 4000000
theorem sN (k op:Int):FC Tryz.prog 87 [n8 k,nI op] 0 [] (bV (dI k op)) 0 []:=by
 by_cases hd:op=1\/op=2\/op=50\/op=51
 ·rcases hd with rfl|rfl|rfl|rfl
  all_goals
   refine FC.walk (by kernel_rfl) Tryz.func87 rfl rfl ?_
   repeat'(first|exact y0|refine y1 ?_|refine y2 ?_ ?_|(refine y8 ?_ ?_<;>intro h<;>try exact y6)|refine Fin.bool (.inl rfl) rfl ?_|refine y3 ?_|refine y7 ?_ ?_|refine y4 ?_|(refine y9 ?_ ?_<;>intro h)|exact y5|fail)
  all_goals simp[dI,cQ,cO,fu, *]
 ·have hdb:cQ op=false:=by simp[cQ];omega
  refine FC.walk (by kernel_rfl) Tryz.func87 rfl rfl ?_
  repeat'(first|exact y0|refine y1 ?_|refine y2 ?_ ?_|(refine y8 ?_ ?_<;>intro h<;>try exact y6)|refine Fin.bool (.inl rfl) rfl ?_|refine y3 ?_|refine y7 ?_ ?_|refine y4 ?_|(refine y9 ?_ ?_<;>intro h)|exact y5|fail)
  all_goals first
   |omega
   |(simp[dI,cO,fu, *];done)
   |(simp[dI,cO,fu, *];omega)
def Bk (k:Int):Bool:=decide (k=68)||decide (k=83)||decide (k=70)||decide (k=73)||decide (k=80)
theorem Bj (k:Int):FC Tryz.prog 148 [n8 k] 0 [] (bV (Bk k)) 0 []:=by
 refine FC.walk (by kernel_rfl) Tryz.func148 rfl rfl ?_
 repeat'(first|exact y0|refine y1 ?_|refine y2 ?_ ?_|(refine y8 ?_ ?_<;>intro h<;>try exact y6)|refine Fin.bool (.inl rfl) rfl ?_|refine y3 ?_|refine y7 ?_ ?_|refine y4 ?_|(refine y9 ?_ ?_<;>intro h)|exact y5|fail)
 all_goals simp[Bk, *]
set_option maxRecDepth 100000
set_option maxHeartbeats 4000000
def oK (z:Int):Bool:=decide (97<=z/\z<=122)
def lF (z:Int):Bool:=decide (97<=z/\z<=122\/65<=z/\z<=90\/z=95)
def tz (z:Int):Bool:=decide (48<=z/\z<=57)
theorem qB (z:Int):FC Tryz.prog 165 [n8 z] 0 [] (bV (lF z)) 0 []:=by
 refine FC.walk (by kernel_rfl) Tryz.func165 rfl rfl ?_
 repeat'(first|exact y0|refine y1 ?_|refine y2 ?_ ?_|(refine y8 ?_ ?_<;>intro h<;>try exact y6)|refine Fin.bool (.inl rfl) rfl ?_|refine y3 ?_|refine y7 ?_ ?_|refine y4 ?_|(refine y9 ?_ ?_<;>intro h)|exact y5|fail)
 all_goals (unfold lF;simp;omega)
theorem Dj (z:Int):FC Tryz.prog 203 [n8 z] 0 [] (bV (tz z)) 0 []:=by
 refine FC.walk (by kernel_rfl) Tryz.func203 rfl rfl ?_
 repeat'(first|exact y0|refine y1 ?_|refine y2 ?_ ?_|(refine y8 ?_ ?_<;>intro h<;>try exact y6)|refine Fin.bool (.inl rfl) rfl ?_|refine y3 ?_|refine y7 ?_ ?_|refine y4 ?_|(refine y9 ?_ ?_<;>intro h)|exact y5|fail)
 all_goals (unfold tz;simp;omega)
def lO (c:UInt8):Bool:=lF (c.toNat:Int)||tz (c.toNat:Int)
theorem Ge {s:By} {j:Nat} (hj:j<s.length):(s.drop j).takeWhile lO=if lO (s.getD j 0) then s.getD j 0::(s.drop (j+1)).takeWhile lO else []:=by
 rw[List.drop_eq_getElem_cons hj,List.takeWhile_cons,List.getD_eq_getElem?_getD,List.getElem?_eq_getElem hj];rfl
theorem C0 (s:By) (hl0:s.length<9223372036854775807):FC Tryz.prog 166 [sV s,nI 0] 0 [] (nI ((s.takeWhile lO).length:Nat)) 0 []:=by
 refine FC.walk (by kernel_rfl) Tryz.func166 rfl rfl ?_
 repeat'(first|exact y0|refine y1 ?_|refine y2 ?_ ?_|(refine y8 ?_ ?_<;>intro h<;>try exact y6)|refine y3 ?_|refine y7 ?_ ?_|refine y4 ?_|(refine y9 ?_ ?_<;>intro h)|exact y5|fail)
 refine Ex.inv (σ:=Nat) (fun j=>[(1,nI j)]) (fun _=>[]) (fun j=>j<=s.length/\(s.takeWhile lO).length=j+((s.drop j).takeWhile lO).length) (fun j=>s.length-j) 0 rfl (fun _=>rfl) ⟨Nat.zero_le _,by simp⟩ ⟨VLe.refl _,trivial⟩ trivial ?_;rintro j ⟨hj,hE⟩
 rcases Nat.lt_or_ge j s.length with h|h
 ·rw[Ge h] at hE
  have hl:=qB ((s.getD j 0).toNat:Int);have hd:=Dj ((s.getD j 0).toNat:Int);rw[show lO (s.getD j 0)=(lF ((s.getD j 0).toNat:Int)||tz ((s.getD j 0).toNat:Int)) from rfl] at hE;generalize lF ((s.getD j 0).toNat:Int)=b1 at*;generalize tz ((s.getD j 0).toNat:Int)=b2 at*
  cases b1<;>cases b2<;>simp only[Bool.or_true,Bool.or_false,if_true,Bool.true_or,Bool.false_eq_true,if_false,List.length_cons,List.length_nil] at hE
  all_goals
   repeat'(first|exact y0|refine y1 ?_|refine y2 ?_ ?_|(refine y8 ?_ ?_<;>intro h<;>try exact y6)|(refine wC ?_;first|refine wF 165 (bo hl ?_)|refine wF 203 (bo hd ?_))|refine Fin.int (.inl rfl) rfl ?_|refine LoopR.same (j+1) ⟨?_,?_⟩ ?_ rfl ⟨VLe.refl _,trivial⟩ trivial rfl rfl (Nat.le_refl _)|refine y3 ?_|refine y7 ?_ ?_|refine y4 ?_|(refine y9 ?_ ?_<;>intro h)|exact y5|fail)
   all_goals first
    |omega
    |exact aa (by omega) (by omega)
    |(simp only;omega)
    |trace_state
 ·rw[List.drop_eq_nil_of_le h] at hE
  simp only[List.takeWhile_nil,List.length_nil] at hE
  repeat'(first|exact y0|refine y1 ?_|refine y2 ?_ ?_|(refine y8 ?_ ?_<;>intro h<;>try exact y6)|refine Fin.int (.inl rfl) rfl ?_|refine y3 ?_|refine y7 ?_ ?_|refine y4 ?_|(refine y9 ?_ ?_<;>intro h)|exact y5|fail)
  all_goals omega
def wg (s:By):Bool:=s.any fun c=>oK (c.toNat:Int)
theorem Fe {s:By} {j:Nat} (hj:j<s.length):((s.drop j).any fun c=>oK (c.toNat:Int))=(oK ((s.getD j 0).toNat:Int)||((s.drop (j+1)).any fun c=>oK (c.toNat:Int))):=by
 rw[List.drop_eq_getElem_cons hj,List.any_cons,List.getD_eq_getElem?_getD,List.getElem?_eq_getElem hj];rfl
theorem CG (s:By) (hl0:s.length<9223372036854775807):FC Tryz.prog 167 [sV s] 0 [] (bV (wg s)) 0 []:=by
 refine FC.walk (by kernel_rfl) Tryz.func167 rfl rfl ?_
 repeat'(first|exact y0|refine y1 ?_|refine y2 ?_ ?_|(refine y8 ?_ ?_<;>intro h<;>try exact y6)|refine y3 ?_|refine y7 ?_ ?_|refine y4 ?_|(refine y9 ?_ ?_<;>intro h)|exact y5|fail)
 refine Ex.inv (σ:=Nat) (fun j=>[(3,nI j)]) (fun _=>[]) (fun j=>j<=s.length/\wg s=(s.drop j).any fun c=>oK (c.toNat:Int)) (fun j=>s.length-j) 0 rfl (fun _=>rfl) ⟨Nat.zero_le _,by simp[wg]⟩ ⟨VLe.refl _,trivial⟩ trivial ?_;rintro j ⟨hj,hE⟩
 rcases Nat.lt_or_ge j s.length with h|h
 ·rw[Fe h] at hE
  repeat'(first|exact y0|refine y1 ?_|refine y2 ?_ ?_|(refine y8 ?_ ?_<;>intro h<;>try exact y6)|refine Fin.bool (.inl rfl) rfl ?_|refine LoopR.same (j+1) ⟨?_,?_⟩ ?_ rfl ⟨VLe.refl _,trivial⟩ trivial rfl rfl (Nat.le_refl _)|refine y3 ?_|refine y7 ?_ ?_|refine y4 ?_|(refine y9 ?_ ?_<;>intro h)|exact y5|fail)
  all_goals first
   |omega
   |exact aa (by omega) (by omega)
   |(rw[hE,show oK ((s.getD j 0).toNat:Int)=true from decide_eq_true ⟨by omega,by omega⟩];rfl)
   |(rw[hE,show oK ((s.getD j 0).toNat:Int)=false from decide_eq_false (by omega)];rfl)
   |(simp only;omega)
   |trace_state
 ·rw[List.drop_eq_nil_of_le h] at hE
  repeat'(first|exact y0|refine y1 ?_|refine y2 ?_ ?_|(refine y8 ?_ ?_<;>intro h<;>try exact y6)|refine Fin.bool (.inl rfl) rfl ?_|refine y3 ?_|refine y7 ?_ ?_|refine y4 ?_|(refine y9 ?_ ?_<;>intro h)|exact y5|fail)
  all_goals first
   |omega
   |(rw[hE];rfl)
def Cd (s:By):Bool:=decide (1<=s.length)&&decide (s.length<=4)&&lF ((s.getD 0 0).toNat:Int)&&decide ((s.takeWhile lO).length=s.length)&& !wg s
theorem EO (s:By) (hl0:s.length<9223372036854775807):FC Tryz.prog 99 [sV s] 0 [] (bV (Cd s)) 0 []:=by
 have hl:=qB ((s.getD 0 0).toNat:Int);have hi:=C0 s hl0;have hw:=CG s hl0;unfold Cd;generalize lF ((s.getD 0 0).toNat:Int)=b1 at*;generalize wg s=b2 at*;generalize (s.takeWhile lO).length=k at*;refine FC.walk (by kernel_rfl) Tryz.func99 rfl rfl ?_
 cases b1<;>cases b2
 all_goals
  repeat'(first|exact y0|refine y1 ?_|refine y2 ?_ ?_|(refine y8 ?_ ?_<;>intro h<;>try exact y6)|(refine wC ?_;first|refine wF 165 (bo hl ?_)|refine wF 166 (pu hi ?_)|refine wF 167 (bo hw ?_))|refine Fin.bool (.inl rfl) rfl ?_|refine y3 ?_|refine y7 ?_ ?_|refine y4 ?_|(refine y9 ?_ ?_<;>intro h)|exact y5|fail)
  all_goals first
   |omega
   |(simp;done)
   |(simp;omega)
theorem ue {p:UInt8->Bool}:∀ {s:By},(s.takeWhile p).length=s.length↔s.all p=true
 |[]=>by simp
 |c::s=>by
  rw[List.takeWhile_cons,List.all_cons];have:=ue (p:=p) (s:=s);cases h:p c
  ·simp
  ·simp only[if_true,List.length_cons,Bool.true_and,<-this];omega
theorem Cc (s:By):Cd s=aG s:=by
 unfold Cd aG;by_cases h1:1<=s.length
 ·by_cases h2:s.length<=4
  ·rw[decide_eq_true h1,decide_eq_true h2]
   simp only[Bool.true_and];rw[Bool.eq_iff_iff];simp only[Bool.and_eq_true,decide_eq_true_eq,ue,List.all_eq_true,List.mem_range,Bool.not_eq_true',wg,List.any_eq_false];constructor
   ·rintro⟨⟨a,b⟩,c⟩ i hi
    have hm:s.getD i 0∈s:=by rw[List.getD_eq_getElem?_getD,List.getElem?_eq_getElem hi];exact List.getElem_mem hi
    have b:=b _ hm;have c:=c _ hm;unfold iA sF;unfold lO lF tz at b;unfold oK at c;simp only[Bool.or_eq_true,decide_eq_true_eq] at b c |-
    cases i with
    |zero=>
     unfold lF at a;simp only[decide_eq_true_eq] at a;omega
    |succ i=>omega
   ·intro h
    refine⟨⟨?_,fun c hc=>?_⟩,fun c hc=>?_⟩
    ·have:=h 0 (by omega)
     unfold iA sF at this;unfold lF;simp only[decide_eq_true_eq] at this |-;omega
    all_goals
     obtain⟨i,hi,rfl⟩:=List.mem_iff_getElem.1 hc;have:=h i hi;rw[List.getD_eq_getElem?_getD,List.getElem?_eq_getElem hi] at this;unfold iA sF at this
     try unfold lO lF tz
     try unfold oK
     simp only[Bool.or_eq_true,decide_eq_true_eq,Option.getD_some] at this |-;omega
  ·rw[decide_eq_false h2];simp
 ·rw[decide_eq_false h1];simp
theorem jm (s:By) (hl0:s.length<9223372036854775807):FC Tryz.prog 99 [sV s] 0 [] (bV (aG s)) 0 []:=Cc s▸EO s hl0
theorem xW (s:By) (hl0:s.length<9223372036854775807):FC Tryz.prog 138 [sV s] 0 [] (bV (aG s)) 0 []:=by
 refine FC.walk (by kernel_rfl) Tryz.func138 rfl rfl ?_
 repeat'(first|exact y0|refine y1 ?_|refine y2 ?_ ?_|(refine y8 ?_ ?_<;>intro h<;>try exact y6)|(refine wC ?_;first|refine wF 99 (pu (jm s hl0) ?_))|refine Fin.bool (.inl rfl) rfl rfl|refine y3 ?_|refine y7 ?_ ?_|refine y4 ?_|(refine y9 ?_ ?_<;>intro h)|exact y5|fail)
set_option maxRecDepth 100000
set_option maxHeartbeats 4000000
theorem pK (root:Bool) (up:Int) (segs:List By) (hs:∀ i,i<segs.length->(segs.getD i []).length<9223372036854775807):FC Tryz.prog 100 [.agg [.bool root,.int .i64 up,aJ segs]] 0 [] (bV (aC ⟨root,up,segs⟩)) 0 []:=by
 refine FC.walk (by kernel_rfl) Tryz.func100 rfl rfl ?_;cases root
 all_goals
  repeat'(first|exact y0|refine y1 ?_|refine y2 ?_ ?_|(refine y8 ?_ ?_<;>intro h<;>try exact y6)|refine Fin.bool (.inl rfl) rfl ?_|refine y3 ?_|refine y7 ?_ ?_|refine y4 ?_|(refine y9 ?_ ?_<;>intro h)|exact y5|fail)
  all_goals try first
   |exact aa (by omega) (by omega)
   |(unfold aC;simp;done)
   |(unfold aC;simp;omega)
   |(obtain rfl:segs=[]:=List.length_eq_zero_iff.1 (by omega)
     obtain rfl:up=0:=by omega
     rfl)
  all_goals
   refine Ex.inv (σ:=Nat) (fun j=>[(3,nI j)]) (fun _=>[(0,some {cells:=[.bool _,.int .i64 up,aJ segs],ty:=99})]) (fun j=>j<=segs.length/\∀ i,i<j->aG (segs.getD i [])=true) (fun j=>segs.length-j) 0 rfl (fun _=>rfl) ⟨Nat.zero_le _,fun i hi=>by omega⟩ ⟨VLe.refl _,trivial⟩ ⟨rfl,trivial⟩ ?_;rintro j ⟨hj,hall⟩
   repeat'(first|exact y0|refine y1 ?_|refine y2 ?_ ?_|(refine y8 ?_ ?_<;>intro h<;>try exact y6)|(refine wC ?_;first|(refine wF 99 ?_;refine CallG.bo (jm _ (hs j (by omega))) rfl rfl rfl ?_))|refine Fin.bool (.inl rfl) rfl ?_|refine LoopR.same (j+1) ⟨?_,?_⟩ ?_ rfl ⟨VLe.refl _,trivial⟩ ⟨rfl,trivial⟩ rfl rfl (by decide)|refine y3 ?_|refine y7 ?_ ?_|refine y4 ?_|(refine y9 ?_ ?_<;>intro h)|exact y5|fail)
   all_goals first
    |omega
    |exact aa (by omega) (by omega)
    |exact kG hall (by assumption)
    |(have:=Br (l:=segs) (j:=j) (by omega) ‹aG _=false›;unfold aC;rw[this];simp)
    |(have:=vy (l:=segs) fun i hi=>hall i (by omega)
      unfold aC;rw[this];simp;first|done|omega|exact fun _ _ _=>⟨by omega,List.length_eq_zero_iff.1 (by omega)⟩)
    |trace_state
theorem jk {c:UInt8}:∀ {r:By},(∀ j,j<r.length->r.getD j 0≠c)->aw c r=[r]
 |[],_=>rfl
 |b::l,h=>by
  have hb: ¬b=c:=by simpa using h 0 (by simp)
  have ih:=jk (c:=c) (r:=l) fun j hj=>by simpa using h (j+1) (by simpa using hj)
  simp only[aw,if_neg hb,ih]
theorem mP {c:UInt8}:∀ {r:By} {m:Nat},m<r.length->(∀ j,j<m->r.getD j 0≠c)->r.getD m 0=c->aw c r=r.take m::aw c (r.drop (m+1))
 |[],m,h,_,_=>by simp at h
 |b::l,0,_,_,h=>by
  have hb:b=c:=by simpa using h
  simp[aw,if_pos hb]
 |b::l,m+1,hm,h,hc=>by
  have hb: ¬b=c:=by simpa using h 0 (by simp)
  have ih:=mP (c:=c) (r:=l) (m:=m) (by simpa using hm) (fun j hj=>by simpa using h (j+1) (by omega)) (by simpa using hc);simp only[aw,if_neg hb,ih,List.take_succ_cons,List.drop_succ_cons]
theorem pR {c:UInt8} (s:By):aw c s≠[]:=fun h=>by
 have:=fh c s;rw[h] at this;simp at this
theorem eW {a:By} {l:List By} {c:By} (h:l≠[]):Lib.join (a::l) c=a++c++Lib.join l c:=by
 cases l with
 |nil=>exact absurd rfl h
 |cons b t=>simp[Lib.join,List.intercalate]
theorem eV {a:By} {c:By}:Lib.join [a] c=a:=by simp[Lib.join,List.intercalate]
theorem qO {c:By}:Lib.join [] c=[]:=by simp[Lib.join,List.intercalate]
theorem lM (c:UInt8):∀ s:By,Lib.join (aw c s) [c]=s
 |[]=>eV
 |b::l=>by
  have ih:=lM c l;by_cases hb:b=c
  ·subst hb
   simp only[aw,if_true];rw[eW (pR l),ih];rfl
  ·simp only[aw,if_neg hb]
   cases e:aw c l with
   |nil=>exact absurd e (pR l)
   |cons h t=>
    rw[e] at ih;simp only
    cases t with
    |nil=>rw[eV] at ih |-;rw[ih]
    |cons h' t'=>
     rw[eW (by simp)] at ih |-;rw[<-ih];simp
theorem jA {c:By}:∀ {l:List By} {a:By},Lib.join (l++[a]) c=if l=[] then a else Lib.join l c++c++a
 |[],a=>eV
 |b::l,a=>by
  rw[if_neg (by simp)]
  cases l with
  |nil=>
   show Lib.join (b::[a]) c=_;rw[eW (by simp),eV,eV]
  |cons d t=>
   rw[List.cons_append,eW (by simp),jA,if_neg (by simp),eW (a:=b) (by simp)];simp only[List.append_assoc]
theorem C_ {root:Bool} {u:Nat} {l:List By} (h:l.all aG=false):e8 ⟨root,u,l⟩=(z0,false):=by
 unfold e8 aC;simp only[h];simp
theorem wJ {root:Bool} {u:Nat} {l:List By} (h:32<l.length):e8 ⟨root,u,l⟩=(z0,false):=by
 unfold e8 aC;rw[if_neg];simp only[Bool.and_eq_true,decide_eq_true_eq];omega
theorem iz (root:Bool) (u:Nat) (rest:By):er root u rest=if rest=[] then e8 ⟨root,u,[]⟩ else if (aw 46 rest).all aG then e8 ⟨root,u,aw 46 rest⟩ else (z0,false):=by
 unfold er
 by_cases h:rest=[]
 ·rw[if_pos h,if_pos h]
 ·rw[if_neg h,if_neg h]
  by_cases hc:32<=rest.count 46
  ·rw[if_pos hc]
   rw[wJ (by rw[fh];omega)]
   split<;>rfl
  ·rw[if_neg hc]
   cases ha:(aw 46 rest).all aG with
   |true=>rfl
   |false=>rw[C_ ha];rfl
theorem nN:∀ s:By,s=List.replicate (bJ s).1 94++(bJ s).2
 |[]=>rfl
 |b::l=>by
  unfold bJ;split
  ·rename_i h;subst h
   have:=nN l;simp only[List.replicate_succ,List.cons_append];rw[<-this]
  ·rfl
theorem uZ {p q:Pth} (h:e8 p=(q,true)):q=p/\aC p=true:=by
 unfold e8 at h;split at h
 ·rename_i hv;cases h;exact⟨rfl,hv⟩
 ·cases h
theorem nR {root:Bool} {u:Nat} {rest:By} {p:Pth} (h:er root u rest=(p,true)):p=⟨root,u,if rest=[] then [] else aw 46 rest⟩/\aC p=true:=by
 rw[iz] at h;split at h
 ·rename_i hr
  obtain⟨rfl,hv⟩:=uZ h;rw[if_pos hr];exact⟨rfl,hv⟩
 ·rename_i hr
  split at h
  ·obtain⟨rfl,hv⟩:=uZ h
   rw[if_neg hr];exact⟨rfl,hv⟩
  ·cases h
theorem pN {root:Bool} {u:Nat} {rest:By} {p:Pth} (h:er root u rest=(p,true)) (hu:root=true->u=0):aL p=(if root then [92] else List.replicate u 94)++rest:=by
 obtain⟨rfl,hv⟩:=nR h;unfold aL;rw[if_pos hv];simp only;congr 1
 by_cases hr:rest=[]
 ·rw[if_pos hr,hr,qO]
 ·rw[if_neg hr,lM]
theorem El (s:By):(bZ s [92]=(s.drop 1,true)/\s=92::s.drop 1)\/(bZ s [92]=(s,false)/\s.head? ≠some 92):=by
 unfold bZ
 cases s with
 |nil=>exact .inr ⟨by simp[bT],by simp⟩
 |cons b l=>
  by_cases h:b=92
  ·subst h;exact .inl ⟨by simp[bT],rfl⟩
  ·refine .inr ⟨by simp[bT,h],by simpa using h⟩
theorem m8 {s:By} {p:Pth} (h:aq s=(p,true)):aL p=s:=by
 unfold aq at h
 rcases El s with ⟨e1,e2⟩|⟨e1,e2⟩
 ·rw[e1] at h
  simp only[if_true] at h;rw[pN h (fun _=>rfl)];exact e2.symm
 ·rw[e1] at h
  simp only[Bool.false_eq_true,if_false] at h;rw[pN h (fun e=>by cases e)];exact (nN s).symm
theorem jY {s:By} {p:Pth} (h:aq s=(p,true)):aC p=true:=by
 unfold aq at h;split at h
 ·exact (nR h).2
 ·exact (nR h).2
theorem pV {s:By} (h:aG s=true) {c:UInt8} (hc:c∈s):(65<=c.toNat/\c.toNat<=90)\/c.toNat=95\/(48<=c.toNat/\c.toNat<=57):=by
 unfold aG at h;simp only[Bool.and_eq_true,decide_eq_true_eq,List.all_eq_true,List.mem_range] at h;obtain⟨i,hi,rfl⟩:=List.mem_iff_getElem.1 hc;have:=h.2 i hi;rw[List.getD_eq_getElem?_getD,List.getElem?_eq_getElem hi] at this;unfold iA sF at this;simp only[Option.getD_some,decide_eq_true_eq] at this;omega
theorem vK {s:By} (h:aG s=true):aw 46 s=[s]:=by
 refine jk fun j hj e=>?_
 rw[List.getD_eq_getElem?_getD,List.getElem?_eq_getElem hj] at e;have:=pV h (List.getElem_mem hj);simp only[Option.getD_some] at e;rw[e] at this
 revert this;decide
theorem vR {s:By} (h:aG s=true):aq s=(⟨false,0,[s]⟩,true):=by
 have hl:=eX h
 cases s with
 |nil=>simp at hl
 |cons b l=>
  have hb:=pV h (List.mem_cons_self ..)
  have h92: ¬b=92:=fun e=>by subst e;revert hb;decide
  have h94: ¬b=94:=fun e=>by subst e;revert hb;decide
  have e1:bZ (b::l) [92]=(b::l,false):=by simp[bZ,bT,h92]
  unfold aq;rw[e1];simp only[Bool.false_eq_true,if_false]
  have e2:bJ (b::l)=(0,b::l):=by simp[bJ,h94]
  rw[e2];simp only;rw[iz,if_neg (by simp),vK h];simp only[List.all_cons,h,List.all_nil,Bool.and_self,if_true];unfold e8 aC;simp[h]
theorem B_ {s:By} {p:Pth} (h:aq s=(p,true)):vL p=aG s:=by
 have hf:=m8 h;have hv:=jY h;obtain⟨root,up,segs⟩:=p
 cases hs:aG s with
 |true=>
  rw[vR hs] at h;cases h;rfl
 |false=>
  rw[Bool.eq_false_iff];intro hp;unfold vL at hp;simp only[Bool.and_eq_true,Bool.not_eq_true',decide_eq_true_eq] at hp;obtain⟨⟨rfl,rfl⟩,hl⟩:=hp;obtain⟨a,rfl⟩:∃ a,segs=[a]:=List.length_eq_one_iff.1 (by omega);have hall:=(aS hv).2.2.2.2.1;simp only[List.all_cons,List.all_nil,Bool.and_true] at hall
  have:aL ⟨false,0,[a]⟩=a:=by
   unfold aL;rw[if_pos hv];simp[eV]
  rw[this] at hf;subst hf;rw[hall] at hs;cases hs
set_option maxRecDepth 100000
set_option maxHeartbeats 1000000
theorem vI {l:List By} {j:Nat} (h:j<l.length):l.take (j+1)=l.take j++[l.getD j []]:=by
 rw[List.take_add_one,List.getElem?_eq_getElem h,List.getD_eq_getElem?_getD,List.getElem?_eq_getElem h];rfl
theorem oW {l:List By} (h:l.all aG=true) (j:Nat):(Lib.join (l.take j) [46]).length<=5*l.length:=by
 have h2:(l.take j).all aG=true:=by
  rw[List.all_eq_true] at h |-
  exact fun x hx=>h x (List.mem_of_mem_take hx)
 have:=iR h2;rw[List.length_take] at this;omega
theorem jn {l:List By} (h:l.all aG=true) {j:Nat} (hj:j<l.length):(l.getD j []).length<=4:=by
 rw[List.all_eq_true] at h;rw[List.getD_eq_getElem?_getD,List.getElem?_eq_getElem hj];exact (eX (h _ (List.getElem_mem hj))).2
theorem FA (root:Bool) (up:Int) (segs:List By) (hs:∀ i,i<segs.length->(segs.getD i []).length<9223372036854775807):FC Tryz.prog 54 [.agg [.bool root,.int .i64 up,aJ segs]] 0 [] (sV (aL ⟨root,up,segs⟩)) 0 []:=by
 have hv:=pK root up segs hs;refine FC.walk (by kernel_rfl) Tryz.func54 rfl rfl ?_
 cases h1:aC ⟨root,up,segs⟩<;>rw[h1] at hv
 ·
  repeat'(first|exact y0|refine y1 ?_|refine y2 ?_ ?_|(refine y8 ?_ ?_<;>intro h<;>try exact y6)|(refine wC ?_;first|refine wF 100 (bo hv ?_))|refine Fin.str (.inl rfl) rfl ?_|refine y3 ?_|refine y7 ?_ ?_|refine y4 ?_|(refine y9 ?_ ?_<;>intro h)|exact y5|fail)
  unfold aL;rw[h1];rfl
 ·
  obtain⟨v1,v2,v3,v4,v5,v6⟩:=aS h1;simp only at v1 v2 v3 v4 v5 v6;obtain⟨u,rfl⟩:=Int.eq_ofNat_of_zero_le v1
  have hpre:aL ⟨root,u,segs⟩=((if root then [92] else [])++List.replicate u 94)++Lib.join segs [46]:=by
   unfold aL;rw[if_pos h1];simp only;cases root
   ·simp
   ·have:=v4 rfl
    have hu:u=0:=by omega
    subst hu;simp
  rw[hpre];clear hpre
  obtain⟨pre,hpre⟩:∃ pre:By,pre=(if root then [92] else []):=⟨_,rfl⟩
  rw[<-hpre]
  have hpl:pre.length<=1:=by rw[hpre];cases root<;>simp
  cases root
  all_goals
   repeat'(first|exact y0|refine y1 ?_|refine y2 ?_ ?_|(refine y8 ?_ ?_<;>intro h<;>try exact y6)|(refine wC ?_;first|refine wF 100 (bo hv ?_))|refine y3 ?_|refine y7 ?_ ?_|refine y4 ?_|(refine y9 ?_ ?_<;>intro h)|exact y5|fail)
   refine Ex.inv (σ:=Nat) (fun j=>[(4,nI j),(3,sV (pre++List.replicate j 94))]) (fun _=>[(0,some {cells:=[.bool _,.int .i64 (u:Int),aJ segs],ty:=99})]) (fun j=>j<=u) (fun j=>u-j) 0 rfl (fun _=>rfl) (Nat.zero_le _) ⟨VLe.refl _,VLe.of_eq (congrArg sV (by rw[hpre];rfl)),trivial⟩ ⟨rfl,trivial⟩ ?_;intro j hj;by_cases hlt:j<u
   ·
    repeat'(first|exact y0|refine y1 ?_|refine y2 ?_ ?_|(refine y8 ?_ ?_<;>intro h<;>try exact y6)|refine y3 ?_|refine y7 ?_ ?_|refine y4 ?_|(refine y9 ?_ ?_<;>intro h)|exact y5|fail)
    all_goals try first
     |exact aa (by omega) (by omega)
     |(simp only[List.length_append,List.length_replicate,List.length_cons,List.length_nil];omega)
    refine LoopR.same (j+1) (by omega) (by omega) rfl ⟨VLe.refl _,VLe.of_eq (congrArg sV ?_),trivial⟩ ⟨rfl,trivial⟩ rfl rfl (by decide);rw[List.replicate_succ',<-List.append_assoc]
   ·
    obtain rfl:j=u:=by omega
    repeat'(first|exact y0|refine y1 ?_|refine y2 ?_ ?_|(refine y8 ?_ ?_<;>intro h<;>try exact y6)|refine y3 ?_|refine y7 ?_ ?_|refine y4 ?_|(refine y9 ?_ ?_<;>intro h)|exact y5|fail)
    refine Ex.inv (σ:=Nat) (fun i=>[(5,nI i),(3,sV ((pre++List.replicate j 94)++Lib.join (segs.take i) [46]))]) (fun _=>[(0,some {cells:=[.bool _,.int .i64 (j:Int),aJ segs],ty:=99})]) (fun i=>i<=segs.length) (fun i=>segs.length-i) 0 rfl (fun _=>rfl) (Nat.zero_le _) ⟨VLe.refl _,VLe.of_eq (congrArg sV (List.append_nil _).symm),trivial⟩ ⟨rfl,trivial⟩ ?_;intro i hi;have hjl:=oW v5 i;by_cases hlt2:i<segs.length
    ·
     have hsg:=jn v5 hlt2;have htk:=jA (c:=[46]) (l:=segs.take i) (a:=segs.getD i []);rw[<-vI hlt2] at htk;by_cases h0:i=0
     ·subst h0
      repeat'(first|exact y0|refine y1 ?_|refine y2 ?_ ?_|(refine y8 ?_ ?_<;>intro h<;>try exact y6)|refine y3 ?_|refine y7 ?_ ?_|refine y4 ?_|(refine y9 ?_ ?_<;>intro h)|exact y5|fail)
      all_goals try first
       |exact aa (by omega) (by omega)
       |(simp only[List.length_append,List.length_replicate,List.length_cons,List.length_nil];omega)
      refine LoopR.same 1 (by omega) (by omega) rfl ⟨VLe.refl _,VLe.of_eq (congrArg sV ?_),trivial⟩ ⟨rfl,trivial⟩ rfl rfl (by decide);rw[show segs.take 1=segs.take (0+1) from rfl,htk,if_pos (by simp),List.take_zero,qO,List.append_nil]
     ·
      have hne:segs.take i≠[]:=by
       intro e;have:=congrArg List.length e;rw[List.length_take,List.length_nil] at this;omega
      rw[if_neg hne] at htk
      repeat'(first|exact y0|refine y1 ?_|refine y2 ?_ ?_|(refine y8 ?_ ?_<;>intro h<;>try exact y6)|refine y3 ?_|refine y7 ?_ ?_|refine y4 ?_|(refine y9 ?_ ?_<;>intro h)|exact y5|fail)
      all_goals try first
       |exact aa (by omega) (by omega)
       |(simp only[List.length_append,List.length_replicate,List.length_cons,List.length_nil];omega)
      refine LoopR.same (i+1) (by omega) (by omega) rfl ⟨VLe.refl _,VLe.of_eq (congrArg sV ?_),trivial⟩ ⟨rfl,trivial⟩ rfl rfl (by decide);rw[htk];simp only[List.append_assoc]
    ·
     obtain rfl:i=segs.length:=by omega
     repeat'(first|exact y0|refine y1 ?_|refine y2 ?_ ?_|(refine y8 ?_ ?_<;>intro h<;>try exact y6)|refine Fin.str (.inl rfl) rfl ?_|refine y3 ?_|refine y7 ?_ ?_|refine y4 ?_|(refine y9 ?_ ?_<;>intro h)|exact y5|fail)
     all_goals (rw[List.take_length])
theorem FB (p:Pth) (hs:∀ i,i<p.segs.length->(p.segs.getD i []).length<9223372036854775807):FC Tryz.prog 54 [ptV p] 0 [] (sV (aL p)) 0 []:=FA p.root p.up p.segs hs
end Go.Proofs.YtegjgpldfgjoiaaGreatDoor
