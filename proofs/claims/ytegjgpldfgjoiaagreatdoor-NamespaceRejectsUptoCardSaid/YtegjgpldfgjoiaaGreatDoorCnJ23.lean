import Derived.Test.YtegjgpldfgjoiaaGreatDoorCnJ18
import Derived.Test.YtegjgpldfgjoiaaGreatDoorCnJ20
set_option linter.all false
set_option maxHeartbeats 40000000
set_option maxRecDepth 100000
namespace Go.Proofs.YtegjgpldfgjoiaaGreatDoor
open Go Ab
structure Ent where
 path:By
 op:Int
 par:Int
 tab:Int
 node:Int
 sp:Int
 ba:Int
 ln:Int
 bit:Int
 len:Int
 wid:Int
 upd:Int
 idx:Int
 dat:Int
def gX (x:Ent):List S:=[.str x.path,.int .i64 x.op,.int .i64 x.par,.int .i64 x.tab,.int .i64 x.node,.int .i64 x.sp,.int .u64 x.ba,.int .u64 x.ln,.int .i64 x.bit,.int .i64 x.len,.int .i64 x.wid,.int .i64 x.upd,.int .i64 x.idx,.int .i64 x.dat]
def cV (path:By) (op par tab node:Int):Ent:=⟨path,op,par,tab,node,0,0,0,0,0,0,0,0,0⟩
def eZ:Ent:=cV [] 0 0 0 0
structure Tb where
 p:List Nd
 r:List Int
def mC (t:Tb):List S:=[.frz (λk=>ndC (t.p.getD k dN)) 4 t.p.length,.frz (λk=>[.int .i64 (t.r.getD k 0)]) 1 t.r.length]
def mt {α:Type} (b:Nat) (s:Int):List α->En Int α
 |[]=>[]
 |x::t=>(b,s,x)::mt (b+1) (s+1) t
def xG (b:Nat):List Ent->En By Int
 |[]=>[]
 |x::t=>(b,x.path,(b:Int))::xG (b+1) t
theorem ub {α:Type}:∀ (E:List α) (b:Nat) (s:Int),(mt b s E).length=E.length
 |[],_,_=>rfl
 |x::t,b,s=>by simp[mt,ub t]
theorem Fb {α:Type}:∀ (E:List α) (b:Nat) (s k:Int),k<s->qN (mt b s E) k=none
 |[],_,_,_,_=>rfl
 |x::t,b,s,k,h=>by
  rw[mt,qN,if_neg ae];exact Fb t (b+1) (s+1) k aa
theorem gN {α:Type}:∀ (E:List α) (b:Nat) (s k:Int) (j:Nat),k=s+j->qN (mt b s E) k=E[j]?
 |[],_,_,_,_,_=>rfl
 |x::t,b,s,k,0,h=>by
  grind [mt,qN]
 |x::t,b,s,k,j+1,h=>by
  rw[mt,qN,if_neg ae,gN t (b+1) (s+1) k j aa];rfl
theorem yQ {α:Type}:∀ (E:List α) (b:Nat) (s k:Int) (j:Nat) (y:α),k=s+j->xI (mt b s E) k y=mt b s (E.set j y)
 |[],_,_,_,_,_,_=>rfl
 |x::t,b,s,k,0,y,h=>by
  grind [mt,xI]
 |x::t,b,s,k,j+1,y,h=>by
  rw[mt,xI,if_neg ae,yQ t (b+1) (s+1) k j y aa];rfl
theorem qo {α:Type}:∀ (E:List α) (b:Nat) (s:Int) (y:α),mt b s E++[(b+E.length,s+(E.length:Int),y)]=mt b s (E++[y])
 |[],b,s,y=>by simp[mt]
 |x::t,b,s,y=>by
  have ih:=qo t (b+1) (s+1) y;show (b,s,x)::(mt (b+1) (s+1) t++_)=(b,s,x)::mt (b+1) (s+1) (t++[y])
  grind
theorem wT:∀ (E:List Ent) (b:Nat) (y:Ent),xG b E++[(b+E.length,y.path,((b+E.length:Nat):Int))]=xG b (E++[y])
 |[],b,y=>by simp[xG]
 |x::t,b,y=>by
  have ih:=wT t (b+1) y;show (b,x.path,(b:Int))::(xG (b+1) t++_)=(b,x.path,(b:Int))::xG (b+1) (t++[y])
  grind
theorem t_:∀ (E:List Ent) (b j:Nat) (y:Ent),(∀ x,E[j]? =some x->y.path=x.path)->xG b (E.set j y)=xG b E
 |[],_,_,_,_=>rfl
 |x::t,b,0,y,h=>by
  rw[Z3k,xG,xG,h x rfl]
 |x::t,b,j+1,y,h=>by
  rw[Z2j,xG,xG,t_ t (b+1) j y (λz hz=>h z ae)]
def oP (b:Nat):List Ent->By->Option Nat
 |[],_=>none
 |x::t,s=>if x.path=s then some b else oP (b+1) t s
theorem ua:∀ (E:List Ent) (b:Nat) (s:By),qN (xG b E) s=(oP b E s).map λn=>(n:Int)
 |[],_,_=>rfl
 |x::t,b,s=>by
  rw[xG,qN,oP];by_cases h:x.path=s
  ·grind
  ·rw[if_neg h,if_neg h,ua t]
theorem lV:∀ {E:List Ent} {b:Nat} {s:By} {n:Nat},oP b E s=some n->b<=n/\n<b+E.length/\(E.getD (n-b) eZ).path=s
 |[],_,_,_,h=>by cases h
 |x::t,b,s,n,h=>by
  rw[oP] at h;split at h
  ·grind
  ·obtain⟨h1,h2,h3⟩:=lV h
   grind
def iC (z:Int):List S:=[.int .i64 z]
def oB (E:List Ent):Bl:=mB rf true 14 gX (mt 0 0 E) E.length
def pB (E:List Ent):Bl:=mB Lk false 1 iC (xG 0 E) E.length
def tB (T:List Tb):Bl:=mB rf true 2 mC (mt 0 1 T) T.length
section
variable {z:Int} {E:List Ent} {r0:Bool} {T:List Tb}
theorem fA (x:Ent):(gX x).length=14:=rfl
theorem ia (x:Tb):(mC x).length=2:=rfl
theorem AN (x:Ent):(gX x).all bZ=true:=rfl
theorem zQ (x:Tb):(mC x).all bZ=true:=rfl
theorem J4 (E:List Ent) (y:Ent):mB rf true 14 gX (mt 0 0 E++[(E.length,(E.length:Int),y)]) (E.length+1)=oB (E++[y]):=by
 have h:=qo E 0 0 y
 grind [oB]
theorem Jv (T:List Tb) (y:Tb):mB rf true 2 mC (mt 0 1 T++[(T.length,1+(T.length:Int),y)]) (T.length+1)=tB (T++[y]):=by
 have h:=qo T 0 1 y;rw[Z0c] at h;rw[h,tB,Z03];rfl
theorem JV (E:List Ent) (y:Ent):mB Lk false 1 iC (xG 0 E++[(E.length,y.path,(E.length:Int))]) (E.length+1)=pB (E++[y]):=by
 grind [pB,wT]
theorem J3 (E:List Ent) (j:Nat) (y:Ent):mB rf true 14 gX (xI (mt 0 0 E) (j:Int) y) E.length=oB (E.set j y):=by
 rw[yQ E 0 0 j j y aa,oB,Z18]
theorem Ju (T:List Tb) (j:Nat) (y:Tb):mB rf true 2 mC (xI (mt 0 1 T) (1+(j:Int)) y) T.length=tB (T.set j y):=by
 grind [yQ,tB]
section
variable {P:Program} {b:Nat} {ops:Array Oper} {d:Bool} {acc:List Row} {os:List Oper} {env:List V} {n:Nat} {L:Hp} {R:Post}
variable {dst:Option Tmp} {x ix yv:Operand} {tx kt et:TypeId} {t:TypeId} {pos:String} {af:Array Edge} {gd:Option (Nat×Bool)} {i:Nat}
theorem RegX.oNew (y:Ent) (hx:ev env x=.s (.map (some i))) (hix:ev env ix=.s (.int .i64 z)) (hz:z=E.length) (hy:VLe (ev env yv) (.agg (gX y))) (hl:lk L i=some (oB E)) (hty:P.underlying tx=some (.map kt et)) (hd:P.underlying kt=some (.int .i64))
 (hwt:bf ops env ⟨dst,.mapUpdate tx x ix yv,t,pos,af,gd⟩=some true)
 (kk:RegX P ops d (aE d ⟨dst,.mapUpdate tx x ix yv,t,pos,af,gd⟩ [i] [(i,some (oB (E++[y])))] acc) os (bg env dst .undef) n (aA L [(i,some (oB (E++[y])))]) R):
 RegX P ops d acc (⟨dst,.mapUpdate tx x ix yv,t,pos,af,gd⟩::os) env n L R:=by
 subst hz;refine RegX.muN (K:=rf) (agg:=true) (c:=gX) (k:=(E.length:Int)) y hx hix hy hl fA (λh=>by cases h) (AN y) hty hd ?_ hwt ?_
 ·rw[gN E 0 0 _ E.length aa,Z0b (Z02 _)]
 ·rw[J4];exact kk
theorem RegX.oUpd (j:Nat) (y:Ent) (hx:ev env x=.s (.map (some i))) (hix:ev env ix=.s (.int .i64 z)) (hz:z=j) (hj:j<E.length) (hy:VLe (ev env yv) (.agg (gX y))) (hl:lk L i=some (oB E)) (hty:P.underlying tx=some (.map kt et)) (hd:P.underlying kt=some (.int .i64))
 (hwt:bf ops env ⟨dst,.mapUpdate tx x ix yv,t,pos,af,gd⟩=some true)
 (kk:RegX P ops d (aE d ⟨dst,.mapUpdate tx x ix yv,t,pos,af,gd⟩ [i] [(i,some (oB (E.set j y)))] acc) os (bg env dst .undef) n (aA L [(i,some (oB (E.set j y)))]) R):
 RegX P ops d acc (⟨dst,.mapUpdate tx x ix yv,t,pos,af,gd⟩::os) env n L R:=by
 subst hz;refine RegX.muO (K:=rf) (agg:=true) (c:=gX) (k:=(j:Int)) (x0:=E[j]) y hx hix hy hl fA (λh=>by cases h) (AN y) hty hd ?_ hwt ?_
 ·rw[gN E 0 0 _ j aa,Z01 hj]
 ·rw[J3];exact kk
theorem H4 {α:Type} (E:List α) (s z:Int):qN (mt 0 s E) z=if z<s then none else E[(z-s).toNat]? :=by
 grind [Fb,gN]
theorem RegX.oLk {r0:Bool} (j:Nat) (hx:ev env x=.s (.map (some i))) (hix:ev env ix=.s (.int .i64 z)) (hz:z=j) (hj:j<E.length) (hl:lk L i=some {oB E with ro:=r0}) (hty:P.underlying tx=some (.map kt et)) (hd:P.underlying kt=some (.int .i64)) (h0:kG P et true=some (gX eZ))
 (hwt:bf ops env ⟨dst,.lookup tx x ix false,t,pos,af,gd⟩=some true)
 (kk:RegX P ops d (aE d ⟨dst,.lookup tx x ix false,t,pos,af,gd⟩ [i] [] acc) os (bg env dst (.agg (gX (E.getD j eZ)))) n L R):
 RegX P ops d acc (⟨dst,.lookup tx x ix false,t,pos,af,gd⟩::os) env n L R:=by
 subst hz;refine RegX.lk1 (K:=rf) (k:=(j:Int)) (some (E.getD j eZ)) hx hix hl fA (λh=>by cases h) hty hd h0 ?_ hwt kk
 grind [gN]
theorem RegX.oLkT {r0:Bool} (r:Option Ent) (hx:ev env x=.s (.map (some i))) (hix:ev env ix=.s (.int .i64 z)) (hl:lk L i=some {oB E with ro:=r0}) (hty:P.underlying tx=some (.map kt et)) (hd:P.underlying kt=some (.int .i64)) (h0:kG P et true=some (gX eZ)) (hr:(if z<0 then none else E[z.toNat]?)=r)
 (hwt:bf ops env ⟨dst,.lookup tx x ix true,t,pos,af,gd⟩=some true)
 (kk:RegX P ops d (aE d ⟨dst,.lookup tx x ix true,t,pos,af,gd⟩ [i] [] acc) os (bg env dst (.tup [.agg (gX (r.getD eZ)),.s (.bool r.isSome)])) n L R):
 RegX P ops d acc (⟨dst,.lookup tx x ix true,t,pos,af,gd⟩::os) env n L R:=by
 refine RegX.lkT (K:=rf) (k:=z) r hx hix hl fA (λh=>by cases h) hty hd h0 (by rw[H4,Int.sub_zero];exact hr) hwt ?_
 cases r<;>exact kk
theorem RegX.pLk {s:By} {r0:Bool} (r:Option Nat) (hx:ev env x=.s (.map (some i))) (hix:ev env ix=.s (.str s)) (hl:lk L i=some {pB E with ro:=r0}) (hty:P.underlying tx=some (.map kt et)) (hd:P.underlying kt=some .string) (h0:kG P et false=some (iC 0)) (hr:oP 0 E s=r)
 (hwt:bf ops env ⟨dst,.lookup tx x ix true,t,pos,af,gd⟩=some true)
 (kk:RegX P ops d (aE d ⟨dst,.lookup tx x ix true,t,pos,af,gd⟩ [i] [] acc) os (bg env dst (.tup [.s (.int .i64 ((r.getD 0:Nat):Int)),.s (.bool r.isSome)])) n L R):
 RegX P ops d acc (⟨dst,.lookup tx x ix true,t,pos,af,gd⟩::os) env n L R:=by
 refine RegX.lkT (K:=Lk) (k:=s) (r.map λn=>(n:Int)) hx hix hl (λ_=>rfl) (λ_=>rfl) hty hd h0 (by rw[ua,hr]) hwt ?_
 cases r<;>exact kk
theorem RegX.pNew (y:Ent) (hx:ev env x=.s (.map (some i))) (hix:ev env ix=.s (.str y.path)) (hy:ev env yv=.s (.int .i64 z)) (hz:z=E.length) (hr:oP 0 E y.path=none) (hl:lk L i=some (pB E)) (hty:P.underlying tx=some (.map kt et)) (hd:P.underlying kt=some .string)
 (hwt:bf ops env ⟨dst,.mapUpdate tx x ix yv,t,pos,af,gd⟩=some true)
 (kk:RegX P ops d (aE d ⟨dst,.mapUpdate tx x ix yv,t,pos,af,gd⟩ [i] [(i,some (pB (E++[y])))] acc) os (bg env dst .undef) n (aA L [(i,some (pB (E++[y])))]) R):
 RegX P ops d acc (⟨dst,.mapUpdate tx x ix yv,t,pos,af,gd⟩::os) env n L R:=by
 subst hz;refine RegX.muN (K:=Lk) (agg:=false) (c:=iC) (k:=y.path) (E.length:Int) hx hix (by rw[hy];exact ah _) hl (λ_=>rfl) (λ_=>rfl) rfl hty hd (by rw[ua,hr];rfl) hwt ?_;rw[JV];exact kk
theorem RegX.tLk {r0:Bool} (j:Nat) (hx:ev env x=.s (.map (some i))) (hix:ev env ix=.s (.int .i64 z)) (hz:z=1+(j:Int)) (hj:j<T.length) (hl:lk L i=some {tB T with ro:=r0}) {zs:List S} (hty:P.underlying tx=some (.map kt et)) (hd:P.underlying kt=some (.int .i64)) (h0:kG P et true=some zs)
 (hwt:bf ops env ⟨dst,.lookup tx x ix false,t,pos,af,gd⟩=some true)
 (kk:RegX P ops d (aE d ⟨dst,.lookup tx x ix false,t,pos,af,gd⟩ [i] [] acc) os (bg env dst (.agg (mC (T.getD j ⟨[],[]⟩)))) n L R):
 RegX P ops d acc (⟨dst,.lookup tx x ix false,t,pos,af,gd⟩::os) env n L R:=by
 subst hz;refine RegX.lk1 (K:=rf) (k:=1+(j:Int)) (some (T.getD j ⟨[],[]⟩)) hx hix hl ia (λh=>by cases h) hty hd h0 ?_ hwt kk
 grind [gN]
theorem RegX.tNew (y:Tb) (hx:ev env x=.s (.map (some i))) (hix:ev env ix=.s (.int .i64 z)) (hz:z=1+(T.length:Int)) (hy:VLe (ev env yv) (.agg (mC y))) (hl:lk L i=some (tB T)) (hty:P.underlying tx=some (.map kt et)) (hd:P.underlying kt=some (.int .i64))
 (hwt:bf ops env ⟨dst,.mapUpdate tx x ix yv,t,pos,af,gd⟩=some true)
 (kk:RegX P ops d (aE d ⟨dst,.mapUpdate tx x ix yv,t,pos,af,gd⟩ [i] [(i,some (tB (T++[y])))] acc) os (bg env dst .undef) n (aA L [(i,some (tB (T++[y])))]) R):
 RegX P ops d acc (⟨dst,.mapUpdate tx x ix yv,t,pos,af,gd⟩::os) env n L R:=by
 subst hz;refine RegX.muN (K:=rf) (agg:=true) (c:=mC) (k:=1+(T.length:Int)) y hx hix hy hl ia (λh=>by cases h) (zQ y) hty hd ?_ hwt ?_
 ·rw[gN T 0 1 _ T.length rfl,Z0b (Z02 _)]
 ·rw[Jv];exact kk
theorem RegX.tUpd (j:Nat) (y:Tb) (hx:ev env x=.s (.map (some i))) (hix:ev env ix=.s (.int .i64 z)) (hz:z=1+(j:Int)) (hj:j<T.length) (hy:VLe (ev env yv) (.agg (mC y))) (hl:lk L i=some (tB T)) (hty:P.underlying tx=some (.map kt et)) (hd:P.underlying kt=some (.int .i64))
 (hwt:bf ops env ⟨dst,.mapUpdate tx x ix yv,t,pos,af,gd⟩=some true)
 (kk:RegX P ops d (aE d ⟨dst,.mapUpdate tx x ix yv,t,pos,af,gd⟩ [i] [(i,some (tB (T.set j y)))] acc) os (bg env dst .undef) n (aA L [(i,some (tB (T.set j y)))]) R):
 RegX P ops d acc (⟨dst,.mapUpdate tx x ix yv,t,pos,af,gd⟩::os) env n L R:=by
 subst hz;refine RegX.muO (K:=rf) (agg:=true) (c:=mC) (k:=1+(j:Int)) (x0:=T[j]) y hx hix hy hl ia (λh=>by cases h) (zQ y) hty hd ?_ hwt ?_
 ·rw[gN T 0 1 _ j rfl,Z01 hj]
 ·rw[Ju];exact kk
theorem RegX.oLen {r0:Bool} (hx:ev env x=.s (.map (some i))) (hl:lk L i=some {oB E with ro:=r0}) (hty:P.underlying tx=some (.map kt et))
 (hwt:bf ops env ⟨dst,.call ⟨.builtin .len,#[x],#[tx]⟩,t,pos,af,gd⟩=some true)
 (kk:RegX P ops d (aE d ⟨dst,.call ⟨.builtin .len,#[x],#[tx]⟩,t,pos,af,gd⟩ [i] [] acc) os (bg env dst (.s (.int .i64 (E.length:Int)))) n L R):
 RegX P ops d acc (⟨dst,.call ⟨.builtin .len,#[x],#[tx]⟩,t,pos,af,gd⟩::os) env n L R:=by
 refine RegX.lnM (K:=rf) (agg:=true) (w:=14) (c:=gX) (E:=mt 0 0 E) (ck:=E.length) (r0:=r0) hx hl fA hty hwt ?_;rw[ub];exact kk
theorem RegX.tLen {r0:Bool} (hx:ev env x=.s (.map (some i))) (hl:lk L i=some {tB T with ro:=r0}) (hty:P.underlying tx=some (.map kt et))
 (hwt:bf ops env ⟨dst,.call ⟨.builtin .len,#[x],#[tx]⟩,t,pos,af,gd⟩=some true)
 (kk:RegX P ops d (aE d ⟨dst,.call ⟨.builtin .len,#[x],#[tx]⟩,t,pos,af,gd⟩ [i] [] acc) os (bg env dst (.s (.int .i64 (T.length:Int)))) n L R):
 RegX P ops d acc (⟨dst,.call ⟨.builtin .len,#[x],#[tx]⟩,t,pos,af,gd⟩::os) env n L R:=by
 refine RegX.lnM (K:=rf) (agg:=true) (w:=2) (c:=mC) (E:=mt 0 1 T) (ck:=T.length) (r0:=r0) hx hl ia hty hwt ?_;rw[ub];exact kk
end
end
def ldC (nx nt num:Int) (p:List Nd) (Eo:List Nat) (fs rs:S):List S:=[.map (some 1),.map (some 2),.map (some 3),.int .i64 nx,.int .i64 nt,.int .i64 num,.frz (λk=>ndC (p.getD k dN)) 4 p.length,.frz (λk=>[.int .i64 ((Eo.getD k 0:Nat):Int)]) 1 Eo.length,fs,rs]
abbrev gD (nx nt num:Int) (p:List Nd) (Eo:List Nat) (fs rs:S):Bl:={cells:=ldC nx nt num p Eo fs rs,ty:=123}
def cc (p:List Nd) (i:Nat) (sc:Pth):Pth×Bool:=if (ai (p.getD i dN).str).2 then ax sc (ai (p.getD i dN).str).1 else (z0,false)
theorem Ey (nt num:Int) (p:List Nd) (Eo:List Nat) (hw:oh p) (nx:Int) (x y:Value) (i:Nat) (hi:i<p.length) (sc:Pth):
 FQ 183 [.s (.ptr (some (0,0))),hY sc,nI i] 6 [(0,some (gD nx nt num p Eo (.cst x) (.cst y)))] (x6 (cc p i sc)) 6 [(0,some (gD nx nt num p Eo (.cst x) (.cst y)))]:=by
 have hpa:=gq (p.getD i dN).str (sG hw i);unfold cc;generalize ai (p.getD i dN).str=r at hpa |-;obtain⟨q,ok⟩:=r;refine wW Tryz.func183 ?_;cases ok
 ·
  repeat'(first|refine yA ?_|refine y2 ?_ ?_|refine an hpa ?_|exact y5|fail)
  exact⟨.inl rfl,_,[],eu rfl,fY rfl ⟨rfl,trivial⟩ rfl rfl rfl rfl⟩
 ·
  have hj:=Ez sc q;simp only[if_true];generalize ax sc q=r2 at hj |-
  repeat'(first|refine yA ?_|refine y2 ?_ ?_|refine an hpa ?_|refine an hj ?_|exact y5|fail)
  exact bK
def DK (z:Int):Bool:=decide (z=10\/z=11\/z=12)
def fD (E:List Ent) (q:Pth):Int×Bool:=match oP 0 E (aM q) with
 |some k=>if DK (E.getD k eZ).op then ((k:Int),true) else (0,false)
 |none=>(0,false)
theorem FA (nt num:Int) (p:List Nd) (Eo:List Nat) (nx:Int) (x y:Value) (E:List Ent) (q:Pth) (hq:q.root=true):
 FQ 184 [.s (.ptr (some (0,0))),hY q] 6 [(0,some (gD nx nt num p Eo (.cst x) (.cst y))),(1,some (oB E)),(2,some (pB E))] (.tup [.s (.int .i64 (fD E q).1),.s (.bool (fD E q).2)]) 6 [(0,some (gD nx nt num p Eo (.cst x) (.cst y))),(1,some (oB E)),(2,some (pB E))]:=by
 have hf:=qh q hq;unfold fD;generalize aM q=s at hf |-;refine wW Tryz.func184 ?_
 cases h:oP 0 E s with
 |none=>
  repeat'(first|refine y1 ?_|refine y2 ?_ ?_|refine an hf ?_|refine RegX.pLk none rfl rfl rfl rfl rfl rfl h rfl ?_|refine y3 ?_|exact y5|fail)
  exact bK
 |some k=>
  obtain⟨_,hk,_⟩:=lV h;rw[Z0c] at hk;simp only;by_cases ho:DK (E.getD k eZ).op=true
  ·rw[if_pos ho]
   unfold DK at ho;rw[decide_eq_true_eq] at ho
   repeat'(first|refine y1 ?_|refine y2 ?_ ?_|refine y4 λh=>?_|refine an hf ?_|refine RegX.pLk (some k) rfl rfl rfl rfl rfl rfl h rfl ?_|refine RegX.oLk k rfl rfl rfl hk rfl rfl rfl rfl rfl ?_|refine y3 ?_|exact y5|fail)
   all_goals exact bK
  ·rw[if_neg ho]
   unfold DK at ho;rw[decide_eq_true_eq] at ho
   repeat'(first|refine y1 ?_|refine y2 ?_ ?_|refine y4 λh=>?_|refine an hf ?_|refine RegX.pLk (some k) rfl rfl rfl rfl rfl rfl h rfl ?_|refine RegX.oLk k rfl rfl rfl hk rfl rfl rfl rfl rfl ?_|refine y3 ?_|exact y5|fail)
   all_goals exact bK
theorem kY {p:List Nd} {i:Nat} {sc q:Pth} (h:cc p i sc=(q,true)):q.root=true:=by
 grind [cc,kX]
theorem tv {q r:Pth} (h:aW q=(r,true)):r.root=true:=by
 grind [aW]
structure AddOK (p:List Nd) (num:Int) (E:List Ent) (i:Nat) (sc:Pth) (E':List Ent) (q:Pth):Prop where
 join:cc p (i+1) sc=(q,true)
 new:oP 0 E (aM q)=none
 room:E.length<1024
 up:∃ (ab:Pth) (c:Int),aW q=(ab,true)/\fD E ab=(c,true)/\E'=E++[cV (aM q) (p.getD i dN).op c num i]
def bt (p:List Nd) (num:Int) (E:List Ent) (i:Nat) (sc:Pth):List Ent×Int×Pth×Int:=
 if (cc p (i+1) sc).2=false then (E,0,z0,1)
 else if (oP 0 E (aM (cc p (i+1) sc).1)).isSome=true then (E,0,z0,7)
 else if (aW (cc p (i+1) sc).1).2=false then (E,0,z0,6)
 else if (fD E (aW (cc p (i+1) sc).1).1).2=false then (E,0,z0,6)
 else if E.length<1024 then (E++[cV (aM (cc p (i+1) sc).1) (p.getD i dN).op (fD E (aW (cc p (i+1) sc).1).1).1 num i],E.length,(cc p (i+1) sc).1,0)
 else (E,0,z0,8)
abbrev CG (nt num:Int) (p:List Nd) (Eo:List Nat) (fs rs:S) (E:List Ent):Hp:=[(0,some (gD (E.length:Nat) nt num p Eo fs rs)),(1,some (oB E)),(2,some (pB E))]
abbrev KZ (id:Int) (q:Pth) (e:Int):V:=.tup [.s (.int .i64 id),.agg (cH q),.s (.int .i64 e)]
theorem qI (e:Int):VLe (.tup [.s (.int .i64 0),.agg [.bool false,.int .i64 0,.slc none 0 (some 0)],.s (.int .i64 e)]) (KZ 0 z0 e):=
 VLe.tup ⟨ULe.s (SLe.refl _),ULe.agg ⟨SLe.refl _,SLe.refl _,SLe.nil,trivial⟩,ULe.s (SLe.refl _),trivial⟩
theorem Jl (nt num:Int) (p:List Nd) (Eo:List Nat) (hp:p.length<=2048) (hw:oh p) (E:List Ent) (i:Nat) (hi:i+1<p.length) (sc:Pth):
 ∃ (E':List Ent) (id:Int) (q:Pth) (e:Int),bt p num E i sc=(E',id,q,e)/\(E'=E/\e≠0\/(e=0/\id=E.length/\AddOK p num E i sc E' q))/\∀ x y:Value,
   FQ 187 [.s (.ptr (some (0,0))),nI i,hY sc] 6 (CG nt num p Eo (.cst x) (.cst y) E) (KZ id q e) 6 (CG nt num p Eo (.cst x) (.cst y) E'):=by
 have hj:=λx y=>Ey nt num p Eo hw (E.length:Nat) x y (i+1) hi sc
 rw[show ((i+1:Nat):Int)=(i:Int)+1 by omega] at hj
 cases hq:cc p (i+1) sc with|mk q ok
 rw[hq] at hj
 cases ok with
 |false=>
  refine⟨E,0,z0,1,by simp[bt,hq],.inl ⟨rfl,ac⟩,?_⟩;intro x y;have hj:=hj x y;refine wW Tryz.func187 ?_
  repeat'(first|refine yA ?_|refine y2 ?_ ?_|refine wX (bD [0,1,2,3,4,5] hj ?_)|exact y5|fail)
  exact⟨.inl rfl,_,[],qI _,fY rfl ⟨rfl,rfl,rfl,trivial⟩ rfl rfl rfl rfl⟩
 |true=>
 have hf:=qh q (kY hq)
 cases h1:oP 0 E (aM q) with
 |some k=>
  refine⟨E,0,z0,7,by simp[bt,hq,h1],.inl ⟨rfl,ac⟩,?_⟩;intro x y;have hj:=hj x y;refine wW Tryz.func187 ?_
  repeat'(first|refine y1 ?_|refine y2 ?_ ?_|refine wX (bD [0,1,2,3,4,5] hj ?_)|refine an hf ?_|refine RegX.pLk (some k) rfl rfl rfl rfl rfl rfl h1 rfl ?_|refine y3 ?_|exact y5|fail)
  exact⟨.inl rfl,_,[],qI _,fY rfl ⟨rfl,rfl,rfl,trivial⟩ rfl rfl rfl rfl⟩
 |none=>
 have ha:=DD q
 cases h2:aW q with|mk ab ok
 rw[h2] at ha
 cases ok with
 |false=>
  refine⟨E,0,z0,6,by simp[bt,hq,h1,h2],.inl ⟨rfl,ac⟩,?_⟩;intro x y;have hj:=hj x y;refine wW Tryz.func187 ?_
  repeat'(first|refine y1 ?_|refine y2 ?_ ?_|refine wX (bD [0,1,2,3,4,5] hj ?_)|refine an hf ?_|refine an ha ?_|refine RegX.pLk none rfl rfl rfl rfl rfl rfl h1 rfl ?_|refine y3 ?_|exact y5|fail)
  exact⟨.inl rfl,_,[],qI _,fY rfl ⟨rfl,rfl,rfl,trivial⟩ rfl rfl rfl rfl⟩
 |true=>
 have hc:=λx y=>FA nt num p Eo (E.length:Nat) x y E ab (tv h2)
 cases h3:fD E ab with|mk c ok
 rw[h3] at hc
 cases ok with
 |false=>
  refine⟨E,0,z0,6,by simp[bt,hq,h1,h2,h3],.inl ⟨rfl,ac⟩,?_⟩;intro x y;have hj:=hj x y;have hc:=hc x y;refine wW Tryz.func187 ?_
  repeat'(first|refine y1 ?_|refine y2 ?_ ?_|refine wX (bD [0,1,2,3,4,5] hj ?_)|refine an hf ?_|refine an ha ?_|refine wX (bD [0,1,2,3,4,5] hc ?_)|refine RegX.pLk none rfl rfl rfl rfl rfl rfl h1 rfl ?_|refine y3 ?_|exact y5|fail)
  exact⟨.inl rfl,_,[],qI _,fY rfl ⟨rfl,rfl,rfl,trivial⟩ rfl rfl rfl rfl⟩
 |true=>
 by_cases h4:E.length<1024
 ·refine⟨E++[cV (aM q) (p.getD i dN).op c num i],E.length,q,0,by simp[bt,hq,h1,h2,h3,h4],.inr ⟨rfl,rfl,hq,h1,h4,ab,c,h2,h3,rfl⟩,?_⟩
  intro x y;have hj:=hj x y;have hc:=hc x y;refine wW Tryz.func187 ?_
  repeat'(first|refine y1 ?_|refine y2 ?_ ?_|refine y4 λh=>?_|refine wX (bD [0,1,2,3,4,5] hj ?_)|refine an hf ?_|refine an ha ?_|refine wX (bD [0,1,2,3,4,5] hc ?_)|refine RegX.pLk none rfl rfl rfl rfl rfl rfl h1 rfl ?_|refine RegX.oLen rfl rfl rfl rfl ?_|refine RegX.pNew (cV (aM q) (p.getD i dN).op c num i) rfl rfl rfl rfl h1 rfl rfl rfl rfl ?_|refine RegX.oNew (cV (aM q) (p.getD i dN).op c num i) rfl rfl rfl (ah _) rfl rfl rfl rfl ?_|refine y3 ?_|exact y5|fail)
  have hlen:(((E++[cV (aM q) (p.getD i dN).op c num i]).length:Nat):Int)=(E.length:Int)+1:=ae;unfold CG;rw[hlen];exact bK
 ·refine⟨E,0,z0,8,by simp[bt,hq,h1,h2,h3,h4],.inl ⟨rfl,ac⟩,?_⟩
  intro x y;have hj:=hj x y;have hc:=hc x y;refine wW Tryz.func187 ?_
  repeat'(first|refine y1 ?_|refine y2 ?_ ?_|refine y4 λh=>?_|refine wX (bD [0,1,2,3,4,5] hj ?_)|refine an hf ?_|refine an ha ?_|refine wX (bD [0,1,2,3,4,5] hc ?_)|refine RegX.pLk none rfl rfl rfl rfl rfl rfl h1 rfl ?_|refine RegX.oLen rfl rfl rfl rfl ?_|refine y3 ?_|exact y5|fail)
  exact⟨.inl rfl,_,[],qI _,fY rfl ⟨rfl,rfl,rfl,trivial⟩ rfl rfl rfl rfl⟩
theorem pb (nt:Int) (Eo:List Nat) (num:Int) (p:List Nd) (hp:p.length<=2048) (hw:oh p) (E:List Ent) (i:Nat) (hi:i+1<p.length) (sc:Pth):
 ((bt p num E i sc).1=E/\(bt p num E i sc).2.2.2≠0\/((bt p num E i sc).2.2.2=0/\(bt p num E i sc).2.1=E.length/\AddOK p num E i sc (bt p num E i sc).1 (bt p num E i sc).2.2.1)):=by
 obtain⟨E',id,q,e,h0,h1,_⟩:=Jl nt num p Eo hp hw E i hi sc
 grind
theorem Jk (nt num:Int) (p:List Nd) (Eo:List Nat) (hp:p.length<=2048) (hw:oh p) (E:List Ent) (i:Nat) (hi:i+1<p.length) (sc:Pth) (fs rs:S) (hf:Az fs=false) (hr:Az rs=false):
 FQ 187 [.s (.ptr (some (0,0))),nI i,hY sc] 6 (CG nt num p Eo fs rs E) (KZ (bt p num E i sc).2.1 (bt p num E i sc).2.2.1 (bt p num E i sc).2.2.2) 6 (CG nt num p Eo fs rs (bt p num E i sc).1):=by
 obtain⟨E',id,q,e,h0,h1,h2⟩:=Jl nt num p Eo hp hw E i hi sc;rw[h0];refine⟨(h2 (.int .i64 0) (.int .i64 0)).1,?_⟩
 refine SC.cst (i:=0) (o:=8) (i':=0) (o':=8) (s:=fs) rfl rfl rfl rfl hf rfl rfl λx hx=>?_
 refine SC.cst (i:=0) (o:=9) (i':=0) (o':=9) (s:=rs) rfl rfl rfl rfl hr rfl rfl λy hy=>?_
 exact (h2 x y).2
theorem Ends.uniq {p:List Nd} {e n i:Nat} (h:Ends p e n i):∀ {e':Nat},Ends p e' n i->e=e':=by
 induction h with
 |done=>
  intro e' h';cases h';rfl
 |step h k hk r ih=>
  intro e' h'
  cases h' with
  |step _ k' hk' r'=>
   grind
structure EOK (p:List Nd) (E:List Nat):Prop where
 len:E.length=p.length
 on:∀ i,i<p.length->Ends p (E.getD i 0) 1 i
theorem EOK.get {p:List Nd} {E:List Nat} (h:EOK p E) {x:Nd} {k n:Fo} {i:Nat} (ha:(Fo.cons x k n).At p i):E.getD i 0=i+1+k.size:=(h.on i (At.lt ha)).uniq (At.ends1 ha)
theorem KG (p:List Nd) (hp:p.length<=2048) (i e:Nat) (h:Ends p e 1 i):FQ 169 [al p,nI i] 0 [] (nI e) 0 []:=by
 refine wW Tryz.func169 ?_
 repeat'(first|refine yA ?_|refine y2 ?_ ?_|exact y5|fail)
 refine cy (σ:=Nat×Nat) (λx=>[(1,nI x.2),(5,nI x.1)]) (λx=>[]) (λx=>Ends p e x.1 x.2) (λx=>p.length-x.2+(if x.1=0 then 0 else 1)) (1,i) rfl (λ_=>rfl) h aP trivial ?_;rintro⟨n,j⟩ hE;simp only at hE |-
 cases hE with
 |done=>
  repeat'(first|refine y1 ?_|refine y2 ?_ ?_|refine y4 λh=>?_|refine lh (.inl rfl) rfl ?_|refine y3 ?_|exact y5|fail)
 | @step n1 _ hlt k hk r=>
   obtain⟨l1,l2⟩:=r.le;have l3:=l2 aa
   repeat'(first|refine yA ?_|refine y2 ?_ ?_|refine y4 λh=>?_|exact y5|fail)
   refine dz (n1+k,j+1) r ?_ rfl ⟨bB (congrArg nI ?_),bB (congrArg nI ?_),trivial⟩ trivial rfl rfl ac
   ·simp only
    rw[if_neg (Nat.succ_ne_zero n1)]
    split<;>omega
   ·push_cast;rfl
   ·push_cast;omega
theorem ws {a j:Nat} {x:S} (h:[S.int .i64 ((a:Nat):Int)][j]? =some x):bL x=true:=by
 cases j with
 |zero=>cases h;rfl
 |succ j=>simp at h
abbrev Me (i:Nat) (D:List Nat):Option Bl:=fq 3 (i+1) 1 (D.flatMap λj=>[S.int .i64 ((j:Nat):Int)])
theorem EF (D:List Nat):(D.flatMap λj=>[S.int .i64 ((j:Nat):Int)]).length=D.length:=by induction D with
 |nil=>rfl
 |cons a D ih=>rw[Z0g,Z03,ih];simp;omega
theorem HF (p:List Nd) (hp:p.length<=2048) (i f:Nat) (hi:i<p.length) (cs:List Nat) (hk:(p.getD i dN).kids=(cs.length:Nat)) (hc:Chain p f (i+1) cs) (hl:cs.length<=2048):
 FQ 105 [al p,nI i] 0 [] (.s (eQ cs)) 0 []:=by
 have hsz:(Tryz.prog.types[3]).size=1:=aK;have hby:(Tryz.prog.types[3]).bytes=8:=aK;refine wW Tryz.func105 ?_
 repeat'(first|refine yA ?_|refine y2 ?_ ?_|exact y5|fail)
 refine gH 5 (.s (.row 0 1 0)) (VLe.s SLe.nilrow) rfl (Ex.upN (n':=2) aa ?_);refine cy (σ:=List Nat×Nat×List Nat) (λx=>[(5,.s (.row 0 1 x.1.length)),(6,nI x.2.1),(7,nI x.1.length)]) (λx=>[(0,Me 0 x.1)]) (λx=>x.1++x.2.2=cs/\Chain p f x.2.1 x.2.2) (λx=>x.2.2.length) ([],i+1,cs) rfl (λ_=>rfl) ⟨rfl,hc⟩ ⟨ah _,bB (congrArg nI (by push_cast;rfl)),ah _,trivial⟩ trivial ?_;rintro⟨D,j,rest⟩ ⟨h1,h2⟩;simp only at h1 h2 |-
 cases h2 with
 |nil=>
  rw[Z0u] at h1;subst h1
  repeat'(first|refine y1 ?_|refine y2 ?_ ?_|refine y4 λh=>?_|refine Ex.fzR 4 (λj=>[S.int .i64 ((j:Nat):Int)]) 1 0 D rfl rfl (λ_=>rfl) (λa j x h=>ws h) ac rfl rfl ?_|refine dv (.inl rfl) rfl (ah _) rfl|refine y3 ?_|exact y5|fail)
 | @cons _ e rest he r=>
   have hlen:D.length+(rest.length+1)=cs.length:=by rw[<-h1];simp
   have hend:=KG p hp j e he
   repeat'(first|refine y1 ?_|refine y2 ?_ ?_|refine y4 λh=>?_|refine an hend ?_|refine gZ (i:=0) (g:=1) (m:=D.length) (w:=1) (cs:=D.flatMap λj=>[S.int .i64 ((j:Nat):Int)]) (foot:=[2]) (k:=1) (add:=[S.int .i64 (j:Int)]) rfl rfl (by rw[EF];omega) rfl rfl rfl rfl rfl rfl rfl hsz ac rfl ⟨Z02 _,rfl⟩ ac aq rfl (by rw[hby];omega) aa rfl ?_|refine y3 ?_|exact y5|fail)
   refine fX (D++[j],e,rest) ⟨by simpa using h1,r⟩ (by simp only[Z04];omega) [3,4] rfl ?_ ?_ ?_
   ·repeat'(first|exact ah _|exact dd _|exact Z0o|exact bB (congrArg nI aq)|(refine bB (congrArg V.s (?_:S.row 3 4 _=S.row 3 4 _));simp;done)|refine⟨?_,?_⟩)
   ·refine bh ?_ trivial
    rw[Z0r];rfl
   ·unfold Me;generalize List.flatMap _ _=cg;cases cg<;>rfl
