import Derived.Test.YtegjgpldfgjoiaaGreatDoorCnD21
import Derived.Test.YtegjgpldfgjoiaaGreatDoorCnD22
set_option linter.all false
set_option maxHeartbeats 40000000
set_option maxRecDepth 100000
namespace Go.Proofs.YtegjgpldfgjoiaaGreatDoor
open Go Ab
structure Ent where
 path:By
 op:Int
 par:Int
 tab:Int
 node:Int
 sp:Int
 ba:Int
 ln:Int
 bit:Int
 len:Int
 wid:Int
 upd:Int
 idx:Int
 dat:Int
def fL (x:Ent):List S:=[.str x.path,.int .i64 x.op,.int .i64 x.par,.int .i64 x.tab,.int .i64 x.node,.int .i64 x.sp,.int .u64 x.ba,.int .u64 x.ln,.int .i64 x.bit,.int .i64 x.len,.int .i64 x.wid,.int .i64 x.upd,.int .i64 x.idx,.int .i64 x.dat]
def dU (path:By) (op par tab node:Int):Ent:=⟨path,op,par,tab,node,0,0,0,0,0,0,0,0,0⟩
def eZ:Ent:=dU [] 0 0 0 0
structure Tb where
 p:List Nd
 r:List Int
def kR (t:Tb):List S:=[.frz (λk=>ndC (t.p.getD k dN)) 4 t.p.length,.frz (λk=>[.int .i64 (t.r.getD k 0)]) 1 t.r.length]
def kN {α:Type} (b:Nat) (s:Int):List α->En Int α
 |[]=>[]
 |x::t=>(b,s,x)::kN (b+1) (s+1) t
def tV (b:Nat):List Ent->En By Int
 |[]=>[]
 |x::t=>(b,x.path,(b:Int))::tV (b+1) t
theorem qB {α:Type}:∀ (E:List α) (b:Nat) (s:Int),(kN b s E).length=E.length
 |[],_,_=>rfl
 |x::t,b,s=>by simp[kN,qB t]
theorem Bi {α:Type}:∀ (E:List α) (b:Nat) (s k:Int),k<s->ow (kN b s E) k=none
 |[],_,_,_,_=>rfl
 |x::t,b,s,k,h=>by
  rw[kN,ow,if_neg ae];exact Bi t (b+1) (s+1) k aa
theorem fC {α:Type}:∀ (E:List α) (b:Nat) (s k:Int) (j:Nat),k=s+j->ow (kN b s E) k=E[j]?
 |[],_,_,_,_,_=>rfl
 |x::t,b,s,k,0,h=>by
  grind [kN,ow]
 |x::t,b,s,k,j+1,h=>by
  rw[kN,ow,if_neg ae,fC t (b+1) (s+1) k j aa];rfl
theorem uX {α:Type}:∀ (E:List α) (b:Nat) (s k:Int) (j:Nat) (y:α),k=s+j->tY (kN b s E) k y=kN b s (E.set j y)
 |[],_,_,_,_,_,_=>rfl
 |x::t,b,s,k,0,y,h=>by
  grind [kN,tY]
 |x::t,b,s,k,j+1,y,h=>by
  rw[kN,tY,if_neg ae,uX t (b+1) (s+1) k j y aa];rfl
theorem nL {α:Type}:∀ (E:List α) (b:Nat) (s:Int) (y:α),kN b s E++[(b+E.length,s+(E.length:Int),y)]=kN b s (E++[y])
 |[],b,s,y=>by simp[kN]
 |x::t,b,s,y=>by
  have ih:=nL t (b+1) (s+1) y;show (b,s,x)::(kN (b+1) (s+1) t++_)=(b,s,x)::kN (b+1) (s+1) (t++[y])
  grind
theorem ta:∀ (E:List Ent) (b:Nat) (y:Ent),tV b E++[(b+E.length,y.path,((b+E.length:Nat):Int))]=tV b (E++[y])
 |[],b,y=>by simp[tV]
 |x::t,b,y=>by
  have ih:=ta t (b+1) y;show (b,x.path,(b:Int))::(tV (b+1) t++_)=(b,x.path,(b:Int))::tV (b+1) (t++[y])
  grind
theorem qz:∀ (E:List Ent) (b j:Nat) (y:Ent),(∀ x,E[j]? =some x->y.path=x.path)->tV b (E.set j y)=tV b E
 |[],_,_,_,_=>rfl
 |x::t,b,0,y,h=>by
  rw[Z3k,tV,tV,h x rfl]
 |x::t,b,j+1,y,h=>by
  rw[Z2j,tV,tV,qz t (b+1) j y (λz hz=>h z ae)]
def je (b:Nat):List Ent->By->Option Nat
 |[],_=>none
 |x::t,s=>if x.path=s then some b else je (b+1) t s
theorem qA:∀ (E:List Ent) (b:Nat) (s:By),ow (tV b E) s=(je b E s).map λn=>(n:Int)
 |[],_,_=>rfl
 |x::t,b,s=>by
  rw[tV,ow,je];by_cases h:x.path=s
  ·grind
  ·rw[if_neg h,if_neg h,qA t]
theorem iw:∀ {E:List Ent} {b:Nat} {s:By} {n:Nat},je b E s=some n->b<=n/\n<b+E.length/\(E.getD (n-b) eZ).path=s
 |[],_,_,_,h=>by cases h
 |x::t,b,s,n,h=>by
  rw[je] at h;split at h
  ·grind
  ·obtain⟨h1,h2,h3⟩:=iw h
   grind
theorem sI:∀ {E:List Ent} {b:Nat} {s:By},je b E s=none->∀ x∈E,x.path≠s
 |[],_,_,_,x,hx=>by cases hx
 |y::t,b,s,h,x,hx=>by
  rw[je] at h;split at h
  ·cases h
  ·rcases Z0h.1 hx with rfl|hx
   ·assumption
   ·exact sI h x hx
def iC (z:Int):List S:=[.int .i64 z]
def oB (E:List Ent):Bl:=mB oN true 14 fL (kN 0 0 E) E.length
def pB (E:List Ent):Bl:=mB G7 false 1 iC (tV 0 E) E.length
def tB (T:List Tb):Bl:=mB oN true 2 kR (kN 0 1 T) T.length
section
variable {z:Int} {E:List Ent} {r0:Bool} {T:List Tb}
theorem er (x:Ent):(fL x).length=14:=rfl
theorem fP (x:Tb):(kR x).length=2:=rfl
theorem wy (x:Ent):(fL x).all cz=true:=rfl
theorem vK (x:Tb):(kR x).all cz=true:=rfl
theorem FP (E:List Ent) (y:Ent):mB oN true 14 fL (kN 0 0 E++[(E.length,(E.length:Int),y)]) (E.length+1)=oB (E++[y]):=by
 have h:=nL E 0 0 y
 grind [oB]
theorem Fj (T:List Tb) (y:Tb):mB oN true 2 kR (kN 0 1 T++[(T.length,1+(T.length:Int),y)]) (T.length+1)=tB (T++[y]):=by
 have h:=nL T 0 1 y;rw[Z0c] at h;rw[h,tB,Z03];rfl
theorem FI (E:List Ent) (y:Ent):mB G7 false 1 iC (tV 0 E++[(E.length,y.path,(E.length:Int))]) (E.length+1)=pB (E++[y]):=by
 grind [pB,ta]
theorem FO (E:List Ent) (j:Nat) (y:Ent):mB oN true 14 fL (tY (kN 0 0 E) (j:Int) y) E.length=oB (E.set j y):=by
 rw[uX E 0 0 j j y aa,oB,Z18]
theorem Fi (T:List Tb) (j:Nat) (y:Tb):mB oN true 2 kR (tY (kN 0 1 T) (1+(j:Int)) y) T.length=tB (T.set j y):=by
 grind [uX,tB]
section
variable {P:Program} {b:Nat} {ops:Array Oper} {d:Bool} {acc:List Row} {os:List Oper} {env:List V} {n:Nat} {L:Hp} {R:Post}
variable {dst:Option Tmp} {x ix yv:Operand} {tx kt et:TypeId} {t:TypeId} {pos:String} {af:Array Edge} {gd:Option (Nat×Bool)} {i:Nat}
theorem RegX.oNew (y:Ent) (hx:ev env x=.s (.map (some i))) (hix:ev env ix=.s (.int .i64 z)) (hz:z=E.length) (hy:VLe (ev env yv) (.agg (fL y))) (hl:lk L i=some (oB E)) (hty:P.underlying tx=some (.map kt et)) (hd:P.underlying kt=some (.int .i64))
 (hwt:bg ops env ⟨dst,.mapUpdate tx x ix yv,t,pos,af,gd⟩=some true)
 (kk:RegX P ops d (aB d ⟨dst,.mapUpdate tx x ix yv,t,pos,af,gd⟩ [i] [(i,some (oB (E++[y])))] acc) os (a_ env dst .undef) n (az L [(i,some (oB (E++[y])))]) R):
 RegX P ops d acc (⟨dst,.mapUpdate tx x ix yv,t,pos,af,gd⟩::os) env n L R:=by
 subst hz;refine RegX.muN (K:=oN) (agg:=true) (c:=fL) (k:=(E.length:Int)) y hx hix hy hl er (λh=>by cases h) (wy y) hty hd ?_ hwt ?_
 ·rw[fC E 0 0 _ E.length aa,Z0b (Z02 _)]
 ·rw[FP];exact kk
theorem RegX.oUpd (j:Nat) (y:Ent) (hx:ev env x=.s (.map (some i))) (hix:ev env ix=.s (.int .i64 z)) (hz:z=j) (hj:j<E.length) (hy:VLe (ev env yv) (.agg (fL y))) (hl:lk L i=some (oB E)) (hty:P.underlying tx=some (.map kt et)) (hd:P.underlying kt=some (.int .i64))
 (hwt:bg ops env ⟨dst,.mapUpdate tx x ix yv,t,pos,af,gd⟩=some true)
 (kk:RegX P ops d (aB d ⟨dst,.mapUpdate tx x ix yv,t,pos,af,gd⟩ [i] [(i,some (oB (E.set j y)))] acc) os (a_ env dst .undef) n (az L [(i,some (oB (E.set j y)))]) R):
 RegX P ops d acc (⟨dst,.mapUpdate tx x ix yv,t,pos,af,gd⟩::os) env n L R:=by
 subst hz;refine RegX.muO (K:=oN) (agg:=true) (c:=fL) (k:=(j:Int)) (x0:=E[j]) y hx hix hy hl er (λh=>by cases h) (wy y) hty hd ?_ hwt ?_
 ·rw[fC E 0 0 _ j aa,Z01 hj]
 ·rw[FO];exact kk
theorem DL {α:Type} (E:List α) (s z:Int):ow (kN 0 s E) z=if z<s then none else E[(z-s).toNat]? :=by
 grind [Bi,fC]
theorem RegX.oLk {r0:Bool} (j:Nat) (hx:ev env x=.s (.map (some i))) (hix:ev env ix=.s (.int .i64 z)) (hz:z=j) (hj:j<E.length) (hl:lk L i=some {oB E with ro:=r0}) (hty:P.underlying tx=some (.map kt et)) (hd:P.underlying kt=some (.int .i64)) (h0:jg P et true=some (fL eZ))
 (hwt:bg ops env ⟨dst,.lookup tx x ix false,t,pos,af,gd⟩=some true)
 (kk:RegX P ops d (aB d ⟨dst,.lookup tx x ix false,t,pos,af,gd⟩ [i] [] acc) os (a_ env dst (.agg (fL (E.getD j eZ)))) n L R):
 RegX P ops d acc (⟨dst,.lookup tx x ix false,t,pos,af,gd⟩::os) env n L R:=by
 subst hz;refine RegX.lk1 (K:=oN) (k:=(j:Int)) (some (E.getD j eZ)) hx hix hl er (λh=>by cases h) hty hd h0 ?_ hwt kk
 grind [fC]
theorem RegX.oLkT {r0:Bool} (r:Option Ent) (hx:ev env x=.s (.map (some i))) (hix:ev env ix=.s (.int .i64 z)) (hl:lk L i=some {oB E with ro:=r0}) (hty:P.underlying tx=some (.map kt et)) (hd:P.underlying kt=some (.int .i64)) (h0:jg P et true=some (fL eZ)) (hr:(if z<0 then none else E[z.toNat]?)=r)
 (hwt:bg ops env ⟨dst,.lookup tx x ix true,t,pos,af,gd⟩=some true)
 (kk:RegX P ops d (aB d ⟨dst,.lookup tx x ix true,t,pos,af,gd⟩ [i] [] acc) os (a_ env dst (.tup [.agg (fL (r.getD eZ)),.s (.bool r.isSome)])) n L R):
 RegX P ops d acc (⟨dst,.lookup tx x ix true,t,pos,af,gd⟩::os) env n L R:=by
 refine RegX.lkT (K:=oN) (k:=z) r hx hix hl er (λh=>by cases h) hty hd h0 (by rw[DL,Int.sub_zero];exact hr) hwt ?_
 cases r<;>exact kk
theorem RegX.pLk {s:By} {r0:Bool} (r:Option Nat) (hx:ev env x=.s (.map (some i))) (hix:ev env ix=.s (.str s)) (hl:lk L i=some {pB E with ro:=r0}) (hty:P.underlying tx=some (.map kt et)) (hd:P.underlying kt=some .string) (h0:jg P et false=some (iC 0)) (hr:je 0 E s=r)
 (hwt:bg ops env ⟨dst,.lookup tx x ix true,t,pos,af,gd⟩=some true)
 (kk:RegX P ops d (aB d ⟨dst,.lookup tx x ix true,t,pos,af,gd⟩ [i] [] acc) os (a_ env dst (.tup [.s (.int .i64 ((r.getD 0:Nat):Int)),.s (.bool r.isSome)])) n L R):
 RegX P ops d acc (⟨dst,.lookup tx x ix true,t,pos,af,gd⟩::os) env n L R:=by
 refine RegX.lkT (K:=G7) (k:=s) (r.map λn=>(n:Int)) hx hix hl (λ_=>rfl) (λ_=>rfl) hty hd h0 (by rw[qA,hr]) hwt ?_
 cases r<;>exact kk
theorem RegX.pNew (y:Ent) (hx:ev env x=.s (.map (some i))) (hix:ev env ix=.s (.str y.path)) (hy:ev env yv=.s (.int .i64 z)) (hz:z=E.length) (hr:je 0 E y.path=none) (hl:lk L i=some (pB E)) (hty:P.underlying tx=some (.map kt et)) (hd:P.underlying kt=some .string)
 (hwt:bg ops env ⟨dst,.mapUpdate tx x ix yv,t,pos,af,gd⟩=some true)
 (kk:RegX P ops d (aB d ⟨dst,.mapUpdate tx x ix yv,t,pos,af,gd⟩ [i] [(i,some (pB (E++[y])))] acc) os (a_ env dst .undef) n (az L [(i,some (pB (E++[y])))]) R):
 RegX P ops d acc (⟨dst,.mapUpdate tx x ix yv,t,pos,af,gd⟩::os) env n L R:=by
 subst hz;refine RegX.muN (K:=G7) (agg:=false) (c:=iC) (k:=y.path) (E.length:Int) hx hix (by rw[hy];exact ah _) hl (λ_=>rfl) (λ_=>rfl) rfl hty hd (by rw[qA,hr];rfl) hwt ?_;rw[FI];exact kk
theorem RegX.tLk {r0:Bool} (j:Nat) (hx:ev env x=.s (.map (some i))) (hix:ev env ix=.s (.int .i64 z)) (hz:z=1+(j:Int)) (hj:j<T.length) (hl:lk L i=some {tB T with ro:=r0}) {zs:List S} (hty:P.underlying tx=some (.map kt et)) (hd:P.underlying kt=some (.int .i64)) (h0:jg P et true=some zs)
 (hwt:bg ops env ⟨dst,.lookup tx x ix false,t,pos,af,gd⟩=some true)
 (kk:RegX P ops d (aB d ⟨dst,.lookup tx x ix false,t,pos,af,gd⟩ [i] [] acc) os (a_ env dst (.agg (kR (T.getD j ⟨[],[]⟩)))) n L R):
 RegX P ops d acc (⟨dst,.lookup tx x ix false,t,pos,af,gd⟩::os) env n L R:=by
 subst hz;refine RegX.lk1 (K:=oN) (k:=1+(j:Int)) (some (T.getD j ⟨[],[]⟩)) hx hix hl fP (λh=>by cases h) hty hd h0 ?_ hwt kk
 grind [fC]
theorem RegX.tNew (y:Tb) (hx:ev env x=.s (.map (some i))) (hix:ev env ix=.s (.int .i64 z)) (hz:z=1+(T.length:Int)) (hy:VLe (ev env yv) (.agg (kR y))) (hl:lk L i=some (tB T)) (hty:P.underlying tx=some (.map kt et)) (hd:P.underlying kt=some (.int .i64))
 (hwt:bg ops env ⟨dst,.mapUpdate tx x ix yv,t,pos,af,gd⟩=some true)
 (kk:RegX P ops d (aB d ⟨dst,.mapUpdate tx x ix yv,t,pos,af,gd⟩ [i] [(i,some (tB (T++[y])))] acc) os (a_ env dst .undef) n (az L [(i,some (tB (T++[y])))]) R):
 RegX P ops d acc (⟨dst,.mapUpdate tx x ix yv,t,pos,af,gd⟩::os) env n L R:=by
 subst hz;refine RegX.muN (K:=oN) (agg:=true) (c:=kR) (k:=1+(T.length:Int)) y hx hix hy hl fP (λh=>by cases h) (vK y) hty hd ?_ hwt ?_
 ·rw[fC T 0 1 _ T.length rfl,Z0b (Z02 _)]
 ·rw[Fj];exact kk
theorem RegX.tUpd (j:Nat) (y:Tb) (hx:ev env x=.s (.map (some i))) (hix:ev env ix=.s (.int .i64 z)) (hz:z=1+(j:Int)) (hj:j<T.length) (hy:VLe (ev env yv) (.agg (kR y))) (hl:lk L i=some (tB T)) (hty:P.underlying tx=some (.map kt et)) (hd:P.underlying kt=some (.int .i64))
 (hwt:bg ops env ⟨dst,.mapUpdate tx x ix yv,t,pos,af,gd⟩=some true)
 (kk:RegX P ops d (aB d ⟨dst,.mapUpdate tx x ix yv,t,pos,af,gd⟩ [i] [(i,some (tB (T.set j y)))] acc) os (a_ env dst .undef) n (az L [(i,some (tB (T.set j y)))]) R):
 RegX P ops d acc (⟨dst,.mapUpdate tx x ix yv,t,pos,af,gd⟩::os) env n L R:=by
 subst hz;refine RegX.muO (K:=oN) (agg:=true) (c:=kR) (k:=1+(j:Int)) (x0:=T[j]) y hx hix hy hl fP (λh=>by cases h) (vK y) hty hd ?_ hwt ?_
 ·rw[fC T 0 1 _ j rfl,Z01 hj]
 ·rw[Fi];exact kk
theorem RegX.oLen {r0:Bool} (hx:ev env x=.s (.map (some i))) (hl:lk L i=some {oB E with ro:=r0}) (hty:P.underlying tx=some (.map kt et))
 (hwt:bg ops env ⟨dst,.call ⟨.builtin .len,#[x],#[tx]⟩,t,pos,af,gd⟩=some true)
 (kk:RegX P ops d (aB d ⟨dst,.call ⟨.builtin .len,#[x],#[tx]⟩,t,pos,af,gd⟩ [i] [] acc) os (a_ env dst (.s (.int .i64 (E.length:Int)))) n L R):
 RegX P ops d acc (⟨dst,.call ⟨.builtin .len,#[x],#[tx]⟩,t,pos,af,gd⟩::os) env n L R:=by
 refine RegX.lnM (K:=oN) (agg:=true) (w:=14) (c:=fL) (E:=kN 0 0 E) (ck:=E.length) (r0:=r0) hx hl er hty hwt ?_;rw[qB];exact kk
theorem RegX.tLen {r0:Bool} (hx:ev env x=.s (.map (some i))) (hl:lk L i=some {tB T with ro:=r0}) (hty:P.underlying tx=some (.map kt et))
 (hwt:bg ops env ⟨dst,.call ⟨.builtin .len,#[x],#[tx]⟩,t,pos,af,gd⟩=some true)
 (kk:RegX P ops d (aB d ⟨dst,.call ⟨.builtin .len,#[x],#[tx]⟩,t,pos,af,gd⟩ [i] [] acc) os (a_ env dst (.s (.int .i64 (T.length:Int)))) n L R):
 RegX P ops d acc (⟨dst,.call ⟨.builtin .len,#[x],#[tx]⟩,t,pos,af,gd⟩::os) env n L R:=by
 refine RegX.lnM (K:=oN) (agg:=true) (w:=2) (c:=kR) (E:=kN 0 1 T) (ck:=T.length) (r0:=r0) hx hl fP hty hwt ?_;rw[qB];exact kk
end
end
def ldC (nx nt num:Int) (p:List Nd) (Eo:List Nat) (fs rs:S):List S:=[.map (some 1),.map (some 2),.map (some 3),.int .i64 nx,.int .i64 nt,.int .i64 num,.frz (λk=>ndC (p.getD k dN)) 4 p.length,.frz (λk=>[.int .i64 ((Eo.getD k 0:Nat):Int)]) 1 Eo.length,fs,rs]
abbrev fm (nx nt num:Int) (p:List Nd) (Eo:List Nat) (fs rs:S):Bl:={cells:=ldC nx nt num p Eo fs rs,ty:=123}
def bY (p:List Nd) (i:Nat) (sc:Pth):Pth×Bool:=if (ak (p.getD i dN).str).2 then au sc (ak (p.getD i dN).str).1 else (z0,false)
theorem Az (nt num:Int) (p:List Nd) (Eo:List Nat) (hw:mG p) (nx:Int) (x y:Value) (i:Nat) (hi:i<p.length) (sc:Pth):
 FQ 183 [.s (.ptr (some (0,0))),jh sc,nI i] 6 [(0,some (fm nx nt num p Eo (.cst x) (.cst y)))] (xv (bY p i sc)) 6 [(0,some (fm nx nt num p Eo (.cst x) (.cst y)))]:=by
 have hpa:=e9 (p.getD i dN).str (pJ hw i);unfold bY;generalize ak (p.getD i dN).str=r at hpa |-;obtain⟨q,ok⟩:=r;refine wW Tryz.func183 ?_;cases ok
 ·
  repeat'(first|refine yA ?_|refine y2 ?_ ?_|refine an hpa ?_|exact y5|fail)
  exact⟨.inl rfl,_,[],dF rfl,hY rfl ⟨rfl,trivial⟩ rfl rfl rfl rfl⟩
 ·
  have hj:=AA sc q;simp only[if_true];generalize au sc q=r2 at hj |-
  repeat'(first|refine yA ?_|refine y2 ?_ ?_|refine an hpa ?_|refine an hj ?_|exact y5|fail)
  exact bD
def xB (z:Int):Bool:=decide (z=10\/z=11\/z=12)
def dS (E:List Ent) (q:Pth):Int×Bool:=match je 0 E (aH q) with
 |some k=>if xB (E.getD k eZ).op then ((k:Int),true) else (0,false)
 |none=>(0,false)
theorem BI (nt num:Int) (p:List Nd) (Eo:List Nat) (nx:Int) (x y:Value) (E:List Ent) (q:Pth) (hq:q.root=true):
 FQ 184 [.s (.ptr (some (0,0))),jh q] 6 [(0,some (fm nx nt num p Eo (.cst x) (.cst y))),(1,some (oB E)),(2,some (pB E))] (.tup [.s (.int .i64 (dS E q).1),.s (.bool (dS E q).2)]) 6 [(0,some (fm nx nt num p Eo (.cst x) (.cst y))),(1,some (oB E)),(2,some (pB E))]:=by
 have hf:=ny q hq;unfold dS;generalize aH q=s at hf |-;refine wW Tryz.func184 ?_
 cases h:je 0 E s with
 |none=>
  repeat'(first|refine y1 ?_|refine y2 ?_ ?_|refine an hf ?_|refine RegX.pLk none rfl rfl rfl rfl rfl rfl h rfl ?_|refine y3 ?_|exact y5|fail)
  exact bD
 |some k=>
  obtain⟨_,hk,_⟩:=iw h;rw[Z0c] at hk;simp only;by_cases ho:xB (E.getD k eZ).op=true
  ·rw[if_pos ho]
   unfold xB at ho;rw[decide_eq_true_eq] at ho
   repeat'(first|refine y1 ?_|refine y2 ?_ ?_|refine y4 λh=>?_|refine an hf ?_|refine RegX.pLk (some k) rfl rfl rfl rfl rfl rfl h rfl ?_|refine RegX.oLk k rfl rfl rfl hk rfl rfl rfl rfl rfl ?_|refine y3 ?_|exact y5|fail)
   all_goals exact bD
  ·rw[if_neg ho]
   unfold xB at ho;rw[decide_eq_true_eq] at ho
   repeat'(first|refine y1 ?_|refine y2 ?_ ?_|refine y4 λh=>?_|refine an hf ?_|refine RegX.pLk (some k) rfl rfl rfl rfl rfl rfl h rfl ?_|refine RegX.oLk k rfl rfl rfl hk rfl rfl rfl rfl rfl ?_|refine y3 ?_|exact y5|fail)
   all_goals exact bD
theorem jv {p:List Nd} {i:Nat} {sc q:Pth} (h:bY p i sc=(q,true)):q.root=true:=by
 grind [bY,jt]
theorem p9 {q r:Pth} (h:aW q=(r,true)):r.root=true:=by
 grind [aW]
structure AddOK (p:List Nd) (num:Int) (E:List Ent) (i:Nat) (sc:Pth) (E':List Ent) (q:Pth):Prop where
 join:bY p (i+1) sc=(q,true)
 new:je 0 E (aH q)=none
 room:E.length<1024
 up:∃ (ab:Pth) (c:Int),aW q=(ab,true)/\dS E ab=(c,true)/\E'=E++[dU (aH q) (p.getD i dN).op c num i]
def bF (p:List Nd) (num:Int) (E:List Ent) (i:Nat) (sc:Pth):List Ent×Int×Pth×Int:=
 if (bY p (i+1) sc).2=false then (E,0,z0,1)
 else if (je 0 E (aH (bY p (i+1) sc).1)).isSome=true then (E,0,z0,7)
 else if (aW (bY p (i+1) sc).1).2=false then (E,0,z0,6)
 else if (dS E (aW (bY p (i+1) sc).1).1).2=false then (E,0,z0,6)
 else if E.length<1024 then (E++[dU (aH (bY p (i+1) sc).1) (p.getD i dN).op (dS E (aW (bY p (i+1) sc).1).1).1 num i],E.length,(bY p (i+1) sc).1,0)
 else (E,0,z0,8)
abbrev yB (nt num:Int) (p:List Nd) (Eo:List Nat) (fs rs:S) (E:List Ent):Hp:=[(0,some (fm (E.length:Nat) nt num p Eo fs rs)),(1,some (oB E)),(2,some (pB E))]
abbrev GM (id:Int) (q:Pth) (e:Int):V:=.tup [.s (.int .i64 id),.agg (cX q),.s (.int .i64 e)]
theorem ol (e:Int):VLe (.tup [.s (.int .i64 0),.agg [.bool false,.int .i64 0,.slc none 0 (some 0)],.s (.int .i64 e)]) (GM 0 z0 e):=
 VLe.tup ⟨ULe.s (SLe.refl _),ULe.agg ⟨SLe.refl _,SLe.refl _,SLe.nil,trivial⟩,ULe.s (SLe.refl _),trivial⟩
theorem Fa (nt num:Int) (p:List Nd) (Eo:List Nat) (hp:p.length<=2048) (hw:mG p) (E:List Ent) (i:Nat) (hi:i+1<p.length) (sc:Pth):
 ∃ (E':List Ent) (id:Int) (q:Pth) (e:Int),bF p num E i sc=(E',id,q,e)/\(E'=E/\e≠0\/(e=0/\id=E.length/\AddOK p num E i sc E' q))/\∀ x y:Value,
   FQ 187 [.s (.ptr (some (0,0))),nI i,jh sc] 6 (yB nt num p Eo (.cst x) (.cst y) E) (GM id q e) 6 (yB nt num p Eo (.cst x) (.cst y) E'):=by
 have hj:=λx y=>Az nt num p Eo hw (E.length:Nat) x y (i+1) hi sc
 rw[show ((i+1:Nat):Int)=(i:Int)+1 by omega] at hj
 cases hq:bY p (i+1) sc with|mk q ok
 rw[hq] at hj
 cases ok with
 |false=>
  refine⟨E,0,z0,1,by simp[bF,hq],.inl ⟨rfl,ac⟩,?_⟩;intro x y;have hj:=hj x y;refine wW Tryz.func187 ?_
  repeat'(first|refine yA ?_|refine y2 ?_ ?_|refine wX (eO [0,1,2,3,4,5] hj ?_)|exact y5|fail)
  exact⟨.inl rfl,_,[],ol _,hY rfl ⟨rfl,rfl,rfl,trivial⟩ rfl rfl rfl rfl⟩
 |true=>
 have hf:=ny q (jv hq)
 cases h1:je 0 E (aH q) with
 |some k=>
  refine⟨E,0,z0,7,by simp[bF,hq,h1],.inl ⟨rfl,ac⟩,?_⟩;intro x y;have hj:=hj x y;refine wW Tryz.func187 ?_
  repeat'(first|refine y1 ?_|refine y2 ?_ ?_|refine wX (eO [0,1,2,3,4,5] hj ?_)|refine an hf ?_|refine RegX.pLk (some k) rfl rfl rfl rfl rfl rfl h1 rfl ?_|refine y3 ?_|exact y5|fail)
  exact⟨.inl rfl,_,[],ol _,hY rfl ⟨rfl,rfl,rfl,trivial⟩ rfl rfl rfl rfl⟩
 |none=>
 have ha:=zK q
 cases h2:aW q with|mk ab ok
 rw[h2] at ha
 cases ok with
 |false=>
  refine⟨E,0,z0,6,by simp[bF,hq,h1,h2],.inl ⟨rfl,ac⟩,?_⟩;intro x y;have hj:=hj x y;refine wW Tryz.func187 ?_
  repeat'(first|refine y1 ?_|refine y2 ?_ ?_|refine wX (eO [0,1,2,3,4,5] hj ?_)|refine an hf ?_|refine an ha ?_|refine RegX.pLk none rfl rfl rfl rfl rfl rfl h1 rfl ?_|refine y3 ?_|exact y5|fail)
  exact⟨.inl rfl,_,[],ol _,hY rfl ⟨rfl,rfl,rfl,trivial⟩ rfl rfl rfl rfl⟩
 |true=>
 have hc:=λx y=>BI nt num p Eo (E.length:Nat) x y E ab (p9 h2)
 cases h3:dS E ab with|mk c ok
 rw[h3] at hc
 cases ok with
 |false=>
  refine⟨E,0,z0,6,by simp[bF,hq,h1,h2,h3],.inl ⟨rfl,ac⟩,?_⟩;intro x y;have hj:=hj x y;have hc:=hc x y;refine wW Tryz.func187 ?_
  repeat'(first|refine y1 ?_|refine y2 ?_ ?_|refine wX (eO [0,1,2,3,4,5] hj ?_)|refine an hf ?_|refine an ha ?_|refine wX (eO [0,1,2,3,4,5] hc ?_)|refine RegX.pLk none rfl rfl rfl rfl rfl rfl h1 rfl ?_|refine y3 ?_|exact y5|fail)
  exact⟨.inl rfl,_,[],ol _,hY rfl ⟨rfl,rfl,rfl,trivial⟩ rfl rfl rfl rfl⟩
 |true=>
 by_cases h4:E.length<1024
 ·refine⟨E++[dU (aH q) (p.getD i dN).op c num i],E.length,q,0,by simp[bF,hq,h1,h2,h3,h4],.inr ⟨rfl,rfl,hq,h1,h4,ab,c,h2,h3,rfl⟩,?_⟩
  intro x y;have hj:=hj x y;have hc:=hc x y;refine wW Tryz.func187 ?_
  repeat'(first|refine y1 ?_|refine y2 ?_ ?_|refine y4 λh=>?_|refine wX (eO [0,1,2,3,4,5] hj ?_)|refine an hf ?_|refine an ha ?_|refine wX (eO [0,1,2,3,4,5] hc ?_)|refine RegX.pLk none rfl rfl rfl rfl rfl rfl h1 rfl ?_|refine RegX.oLen rfl rfl rfl rfl ?_|refine RegX.pNew (dU (aH q) (p.getD i dN).op c num i) rfl rfl rfl rfl h1 rfl rfl rfl rfl ?_|refine RegX.oNew (dU (aH q) (p.getD i dN).op c num i) rfl rfl rfl (ah _) rfl rfl rfl rfl ?_|refine y3 ?_|exact y5|fail)
  have hlen:(((E++[dU (aH q) (p.getD i dN).op c num i]).length:Nat):Int)=(E.length:Int)+1:=ae;unfold yB;rw[hlen];exact bD
 ·refine⟨E,0,z0,8,by simp[bF,hq,h1,h2,h3,h4],.inl ⟨rfl,ac⟩,?_⟩
  intro x y;have hj:=hj x y;have hc:=hc x y;refine wW Tryz.func187 ?_
  repeat'(first|refine y1 ?_|refine y2 ?_ ?_|refine y4 λh=>?_|refine wX (eO [0,1,2,3,4,5] hj ?_)|refine an hf ?_|refine an ha ?_|refine wX (eO [0,1,2,3,4,5] hc ?_)|refine RegX.pLk none rfl rfl rfl rfl rfl rfl h1 rfl ?_|refine RegX.oLen rfl rfl rfl rfl ?_|refine y3 ?_|exact y5|fail)
  exact⟨.inl rfl,_,[],ol _,hY rfl ⟨rfl,rfl,rfl,trivial⟩ rfl rfl rfl rfl⟩
theorem my (nt:Int) (Eo:List Nat) (num:Int) (p:List Nd) (hp:p.length<=2048) (hw:mG p) (E:List Ent) (i:Nat) (hi:i+1<p.length) (sc:Pth):
 ((bF p num E i sc).1=E/\(bF p num E i sc).2.2.2≠0\/((bF p num E i sc).2.2.2=0/\(bF p num E i sc).2.1=E.length/\AddOK p num E i sc (bF p num E i sc).1 (bF p num E i sc).2.2.1)):=by
 obtain⟨E',id,q,e,h0,h1,_⟩:=Fa nt num p Eo hp hw E i hi sc
 grind
theorem E_ (nt num:Int) (p:List Nd) (Eo:List Nat) (hp:p.length<=2048) (hw:mG p) (E:List Ent) (i:Nat) (hi:i+1<p.length) (sc:Pth) (fs rs:S) (hf:wg fs=false) (hr:wg rs=false):
 FQ 187 [.s (.ptr (some (0,0))),nI i,jh sc] 6 (yB nt num p Eo fs rs E) (GM (bF p num E i sc).2.1 (bF p num E i sc).2.2.1 (bF p num E i sc).2.2.2) 6 (yB nt num p Eo fs rs (bF p num E i sc).1):=by
 obtain⟨E',id,q,e,h0,h1,h2⟩:=Fa nt num p Eo hp hw E i hi sc;rw[h0];refine⟨(h2 (.int .i64 0) (.int .i64 0)).1,?_⟩
 refine SC.cst (i:=0) (o:=8) (i':=0) (o':=8) (s:=fs) rfl rfl rfl rfl hf rfl rfl λx hx=>?_
 refine SC.cst (i:=0) (o:=9) (i':=0) (o':=9) (s:=rs) rfl rfl rfl rfl hr rfl rfl λy hy=>?_
 exact (h2 x y).2
section
variable {p:List Nd} {num:Int} {i m:Nat} {bl:Bl} {A B:List Ent}
section
variable {P:Program} {b:Nat} {env:List V} {n:Nat} {L:Hp} {R:Post}
theorem Ex.cel {c:Code} (j o:Nat) {s s':S} (hl:lk L j=some bl) (ho:bl.cells[o]? =some s) (hle:SLe s s') {L':Hp} (hL:put L j (some {bl with cells:=bl.cells.set o s'})=L') (k:Ex P b c env n L' R):Ex P b c env n L R:=by
 subst hL;refine Ex.subF (λi bl' hi=>?_) k;rw[aE] at hi;split at hi
 ·rename_i e;subst e;cases hi
  refine⟨bl,hl,rfl,λφ w c h=>?_⟩;obtain⟨pre,xs,rest,fr,h1,hp,h2,h3,h4,h5⟩:=h;exact⟨pre,xs,rest,fr,h1,hp,fj h2 (λx hx=>hle _ _ (gO h2 ho hx)),h3,h4,h5⟩
 all_goals grind
theorem Ex.cel16 {ops:Array Oper} {d:Bool} (j o:Nat) {s s':S} (hl:lk L j=some bl) (ho:bl.cells[o]? =some s) (hle:SLe s s') {L':Hp} (hL:put L j (some {bl with cells:=bl.cells.set o s'})=L') (k:Ex P b (.region 16 ops d) env n L' R):Ex P b (.region 16 ops d) env n L R:=Ex.cel j o hl ho hle hL k
theorem Ex.fzC16 {ops:Array Oper} {d:Bool} (j o:Nat) (get:Nat->List S) (sz:Nat) {s:S} {N:Nat} {blj:Bl} (hlj:lk L j=some blj) (hij:i≠j) (hs:blj.cells[o]? =some s) (ht:dB (.s s)=some (i,N)) (hl:lk L i=some bl) (hro:bl.ro=false) (hk:bl.kind=none)
 (hg:∀ k,k<N->(get k).length=sz) (hc:∀ k j x,k<N->(get k)[j]? =some x->bl.cells[k*sz+j]? =some x/\bL x=true)
 {L':Hp} (hL:put (put L i none) j (some {blj with cells:=blj.cells.set o (.frz get sz N)})=L') (k:Ex P b (.region 16 ops d) env n L' R):Ex P b (.region 16 ops d) env n L R:=Ex.fzC j o get sz hlj hij hs ht hl hro hk hg hc hL k
end
structure Fd where
 node:Int
 scope:By
 units:List Int
 bits:Int
def Dv (l:List Int):S:=.frz (λk=>[.int .i64 (l.getD k 0)]) 1 l.length
def kM (d:Fd):List S:=[.int .i64 d.node,.str d.scope,Dv d.units,.int .i64 d.bits]
abbrev lU (c:Nat) (fs:List Fd):Option Bl:=g9 129 (c+1) 4 (fs.flatMap kM)
abbrev gQ (c:Nat) (l:List Int):Option Bl:=g9 3 (c+1) 1 (l.map λz=>S.int .i64 z)
abbrev eL (nt num:Int) (p:List Nd) (Eo:List Nat) (E:List Ent) (fs:List Fd):Hp:=[(0,some (fm (E.length:Nat) nt num p Eo (.row 4 5 fs.length) (.slc none 0 (some 0)))),(1,some (oB E)),(2,some (pB E)),(4,lU 4 fs)]
abbrev yD (nt num:Int) (p:List Nd) (Eo:List Nat) (E:List Ent) (fs:List Fd):Hp:=[(0,some (fm (E.length:Nat) nt num p Eo (.row 6 7 fs.length) (.slc none 0 (some 0)))),(1,some (oB E)),(2,some (pB E)),(4,none),(6,lU 6 fs)]
theorem zS {nt:Int} {Eo:List Nat} {E:List Ent} {fs:List Fd}:e_ 8 (yD nt num p Eo E fs)=true:=by
 unfold yD lU;generalize List.flatMap kM fs=cg
 cases cg<;>rfl
section
variable {P:Program} {fn:Func} {env:List V} {nt num:Int} {p:List Nd} {Eo:List Nat} {E:List Ent} {z z':Int} {e:Exit} {M:Hp} {m:Nat} {fs fs':List Fd}
theorem Fin.fd (c:Nat) (hx:e=.ret\/e=.normal) (h0:lk M 0=some (fm (E.length:Nat) nt num p Eo (.row c (c+1) fs.length) (.slc none 0 (some 0)))) (h1:lk M 1=some (oB E)) (h2:lk M 2=some (pB E)) (h4:lk M c=lU c fs)
 (hr:gU P fn env M=some (.s (.int .i64 z'))) (hn:bZ (List.range 6++[c,c+1])=true) (hz:z'=z) (hf:fs=fs'):Fin P fn 6 (.s (.int .i64 z)) 8 (yD nt num p Eo E fs') e env m M:=by
 subst hz;subst hf;exact⟨hx,_,[c,c+1],ah _,hY hr ⟨h0,h1,h2,bN h4 trivial⟩ rfl zS rfl hn⟩
theorem Fin.f4 (hx:e=.ret\/e=.normal) (h0:lk M 0=some (fm (E.length:Nat) nt num p Eo (.row 4 5 fs.length) (.slc none 0 (some 0)))) (h1:lk M 1=some (oB E)) (h2:lk M 2=some (pB E)) (h4:lk M 4=lU 4 fs)
 (hr:gU P fn env M=some (.s (.int .i64 z'))) (hz:z'=z) (hf:fs=fs'):Fin P fn 6 (.s (.int .i64 z)) 8 (yD nt num p Eo E fs') e env m M:=by
 subst hz;subst hf;refine⟨hx,_,[4,5],ah _,Cx hr ⟨h0,h1,h2,bN h4 trivial⟩ rfl zS rfl ?_ ?_⟩
 ·unfold yD lU
  generalize List.flatMap kM fs=cg
  cases cg<;>rfl
 ·unfold yD lU
  generalize List.flatMap kM fs=cg
  cases cg<;>rfl
end
def Hk (x y:Ent):Prop:=x.path=y.path/\x.op=y.op/\x.par=y.par/\x.tab=y.tab/\x.node=y.node
inductive Gro (p:List Nd) (num:Int) (m:Nat):List Ent->List Ent->Prop where
 |refl (E:List Ent):Gro p num m E E
 |add {E E1 E2:List Ent} {i:Nat} {sc q:Pth} (hi:i+1<p.length) (h:AddOK p num E i sc E1 q) (k:Gro p num m E1 E2):Gro p num m E E2
 |spec {E E2:List Ent} {j:Nat} {y:Ent} (hm:m<=j) (hj:j<E.length) (hs:Hk y (E.getD j eZ)) (k:Gro p num m (E.set j y) E2):Gro p num m E E2
theorem Gro.trans {C:List Ent} (h:Gro p num m A B) (k:Gro p num m B C):Gro p num m A C:=by
 induction h with
 |refl=>exact k
 |add hi h _ ih=>exact .add hi h (ih k)
 |spec hm hj hs _ ih=>exact .spec hm hj hs (ih k)
theorem AddOK.len {E E':List Ent} {sc q:Pth} (h:AddOK p num E i sc E' q):E'.length=E.length+1:=by
 grind [h.up]
theorem Gro.len (h:Gro p num m A B):A.length<=B.length:=by
 induction h with
 |refl=>exact Z02 _
 |add hi h _ ih=>have:=h.len;omega
 |spec hm hj hs _ ih=>rw[Z18] at ih;exact ih
theorem EX {op:Int} (h:bn 70 op=true):op=18\/op=19:=by
 grind [cV,bn]
theorem zO (h:aJ p i=false) (ho:(p.getD i dN).op=18):ai p (i+2)<=256:=by
 grind [aJ]
theorem zN (h:aJ p i=false) (ho:(p.getD i dN).op=19):ai p (i+1)<=8388608:=by
 grind [aJ]
def zf (x:Ent) (bit len wid upd:Int):Ent:={x with sp:=0,ba:=0,ln:=0,bit:=bit,len:=len,wid:=wid,upd:=upd,idx:= -1,dat:= -1}
theorem FH (E:List Ent) (j:Nat) (a b c d:Int):pB (E.set j (zf (E.getD j eZ) a b c d))=pB E:=by
 unfold pB;rw[Z18,qz E 0 j _ (λx hx=>by rw[Z00,hx];rfl)]
def fp (p:List Nd) (num:Int) (sc:Pth) (wid upd:Int):Fo->Nat->List Ent->List Int->Int->List Ent×List Int×Int×Int
 | .nil,_,E,us,bits=>(E,us,bits,0)
 | .cons x k n,c,E,us,bits=>
   if x.op=19 then fp p num sc wid upd n (c+1+k.size) E us (bits+ai p (c+1))
   else if (bF p num E c sc).2.2.2≠0 then ((bF p num E c sc).1,us,bits,(bF p num E c sc).2.2.2)
   else fp p num sc wid upd n (c+1+k.size) ((bF p num E c sc).1.set E.length (zf ((bF p num E c sc).1.getD E.length eZ) bits (ai p (c+2)) wid upd)) (us++[(E.length:Int)]) (bits+ai p (c+2))
def tc (i:Nat) (sc:Pth) (fs:List Fd) (R:List Ent×List Int×Int×Int):List Fd:=if R.2.2.2=0 then fs++[⟨i,aH sc,R.2.1,R.2.2.1⟩] else fs
theorem qw:∀ fs:List Fd,(fs.flatMap kM).length=fs.length*4
 |[]=>rfl
 |x::G=>by rw[Z0g,Z03,qw G];simp only[Z04];simp[kM];omega
theorem yR (l:List Int):∀ (k j:Nat) (x:S),k<l.length->([S.int .i64 (l.getD k 0)])[j]? =some x->(l.map λz=>S.int .i64 z)[k*1+j]? =some x/\bL x=true:=by
 intro k j x hk hx
 cases j with
 |succ j=>simp at hx
 |zero=>
  simp only[Z11,Z06] at hx;subst hx;rw[Z1p,Z0p,Z0t,Z01 hk,Z00,Z01 hk];exact⟨rfl,rfl⟩
theorem Bm (nt num:Int) (p:List Nd) (Eo:List Nat) (hp:p.length<=2048) (hw:mG p) (hI:re p) (hO:∀ j,j<p.length->aJ p j=false) (hNA:∀ j,j<p.length->kK p j) (hE:EOK p Eo) (E:List Ent) (fs:List Fd) (hfs:fs.length<=100000)
 (i b:Nat) (x:Nd) (kf:Fo) (ha:(Fo.cons x kf .nil).At p b) (hv:kf.V (List.replicate kf.cnt (false,70))) (hb:2<=b) (n1:ai p (b-2)<=1000) (n2:ai p (b-1)<=1000) (sc:Pth) (hsc:sc.root=true) (R:List Ent×List Int×Int×Int) (hR:fp p num sc (ai p (b-2)) (ai p (b-1)) kf (b+1) E [] 0=R):
   FQ 186 [.s (.ptr (some (0,0))),nI i,nI b,jh sc] 6 (eL nt num p Eo E fs) (.s (.int .i64 R.2.2.2)) 8 (yD nt num p Eo R.1 (tc i sc fs R)):=by
 have hf:=ny sc hsc;have hbl:=At.lt ha;have heb:=hE.get ha;have hel:=hE.len;have hsz:=At.size_le (Z1k hbl) ha;simp only[Fo.size] at hsz
 obtain⟨s,rt⟩:∃ s,s=aH sc:=⟨_,rfl⟩
 unfold tc;rw[<-rt] at hf |-;refine wW Tryz.func186 ?_
 repeat'(first|refine yA ?_|refine y2 ?_ ?_|refine an hf ?_|exact y5|fail)
 refine Ex.cel 7 2 (s':=.row 8 9 0) rfl rfl SLe.nilrow rfl (Ex.upN (n':=10) ac ?_)
 refine cD (σ:=Fo×Nat×List Ent×List Int×Int) (λq=>[(10,nI q.2.1)]) (λq=>[(0,some (fm (q.2.2.1.length:Nat) nt num p Eo (.row 4 5 fs.length) (.slc none 0 (some 0)))),(1,some (oB q.2.2.1)),(2,some (pB q.2.2.1)),(4,lU 4 fs),(6,some {cells:=cX sc,ty:=99}),(7,some {cells:=[.int .i64 (i:Int),.str s,.row 8 9 q.2.2.2.1.length,.int .i64 q.2.2.2.2],ty:=129}),(8,gQ 8 q.2.2.2.1)])
  (λq=>q.1.At p q.2.1/\q.1.V (List.replicate q.1.cnt (false,70))/\(b+1<=q.2.1/\q.2.1+q.1.size=b+1+kf.size)/\q.2.2.2.1.length+q.1.size<=2048/\0<=q.2.2.2.2/\q.2.2.2.2+8388608*q.1.size<=20000000000/\fp p num sc (ai p (b-2)) (ai p (b-1)) q.1 q.2.1 q.2.2.1 q.2.2.2.1 q.2.2.2.2=R) (λq=>q.1.size) (kf,b+1,E,[],0) rfl (λ_=>rfl) ?_ ?_ ?_ ?_
 ·refine⟨ha.2.2.1,hv,⟨ae,ae⟩,ae,ae,ae,hR⟩
 ·exact⟨bp (congrArg nI ae),trivial⟩
 ·exact⟨rfl,rfl,rfl,iN rfl ⟨rfl,rfl,iN rfl trivial⟩⟩
 rintro⟨t,cur,E1,us,bits⟩ ⟨t1,t2,⟨t3,t4⟩,t5,t6,t7,t8⟩;simp only at t1 t2 t3 t4 t5 t6 t7 t8 |-
 cases t with
 |nil=>
  simp only[fp] at t8;subst t8;simp only[Fo.size] at t4;simp only[if_true];have hsz4:(Tryz.prog.types[129]).size=4:=bd;have hby4:(Tryz.prog.types[129]).bytes=56:=bd;have hfl:=qw fs
  cases us with
  |nil=>
   repeat'(first|refine Ex.cel16 7 2 (s':=Dv []) rfl rfl SLe.row0 rfl ?_|refine y1 ?_|refine y2 ?_ ?_|refine y4 λh=>?_|refine jC (i:=4) (g:=5) (m:=fs.length) (w:=4) (cs:=fs.flatMap kM) (foot:=[10]) (k:=1) (add:=kM ⟨i,s,[],bits⟩) rfl rfl (by rw[qw]) rfl rfl rfl rfl rfl rfl rfl hsz4 ac rfl ⟨Z02 _,rfl⟩ ac (by simp[kM]) rfl (by rw[hby4];omega) aa rfl ?_|refine y3 ?_|exact y5|fail)
   refine Fin.fd 11 (.inl rfl) ?_ rfl rfl ?_ rfl rfl rfl rfl
   ·rw[Z03];rfl
   ·show g9 _ _ _ _=g9 _ _ _ _
    rw[Z0r];rfl
  |cons u us=>
   repeat'(first|refine Ex.fzC16 7 2 (λk=>[.int .i64 ((u::us).getD k 0)]) 1 rfl ac rfl rfl rfl rfl rfl (λ_ _=>rfl) (yR _) rfl ?_|refine y1 ?_|refine y2 ?_ ?_|refine y4 λh=>?_|refine jC (i:=4) (g:=5) (m:=fs.length) (w:=4) (cs:=fs.flatMap kM) (foot:=[10]) (k:=1) (add:=kM ⟨i,s,u::us,bits⟩) rfl rfl (by rw[qw]) rfl rfl rfl rfl rfl rfl rfl hsz4 ac rfl ⟨Z02 _,rfl⟩ ac (by simp[kM]) rfl (by rw[hby4];omega) aa rfl ?_|refine y3 ?_|exact y5|fail)
   refine Fin.fd 11 (.inl rfl) ?_ rfl rfl ?_ rfl rfl rfl rfl
   ·rw[Z03];rfl
   ·show g9 _ _ _ _=g9 _ _ _ _
    rw[Z0r];rfl
 |cons y k n=>
  simp only[Fo.size] at t4 t5 t7;have hcl:=At.lt t1;have hec:=hE.get t1;have hx:=At.get t1;have hac:=t2.1.1
  have hbd:∀ j,j<p.length->0<=(p.getD j dN).int:=λj hj=>cE hI j
  simp only[fp] at t8;by_cases h19:y.op=19
  ·rw[if_pos h19] at t8
   have hop:(p.getD cur dN).op=19:=ae;have ho:=hO cur hcl;have hn:=(hNA cur hcl).2.2.2.2.1 (.inl hop);have hb1:=zN ho hop;have hb0:0<=ai p (cur+1):=cE hI _;unfold ai at hb0 hb1 t8;have wv1:IntKind.i64.wrap (p.getD (cur+1) dN).int=(p.getD (cur+1) dN).int:=aj aa aa;have wv2:IntKind.i64.wrap (bits+(p.getD (cur+1) dN).int)=bits+(p.getD (cur+1) dN).int:=aj aa aa
   repeat'(first|refine y1 ?_|refine y2 ?_ ?_|refine y4 λh=>?_|exact wv1|exact wv2|refine y3 ?_|exact y5|fail)
   refine dT (n,cur+1+k.size,E1,us,bits+(p.getD (cur+1) dN).int) ⟨t1.2.2.2,t2.2.2,⟨ae,ae⟩,ae,ae,ae,t8⟩ (by simp only[Fo.size];omega) rfl ⟨bp (congrArg nI (by rw[hec])),trivial⟩ ⟨rfl,rfl,rfl,iN rfl ⟨rfl,rfl,iN rfl trivial⟩⟩ rfl ?_ ac;unfold lU gQ;generalize List.flatMap kM fs=cg;generalize List.map _ us=cu
   cases cg<;>cases cu<;>rfl
  ·rw[if_neg h19] at t8
   have h18:y.op=18:=by rcases EX hac with h|h;exact h;exact absurd h h19
   have hop:(p.getD cur dN).op=18:=ae;have ho:=hO cur hcl;have hn:=(hNA cur hcl).2.2.2.1 (.inr (.inl hop));have hb1:=zO ho hop;have hb0:0<=ai p (cur+2):=cE hI _;have w0:0<=ai p (b-2):=cE hI _;have w1:0<=ai p (b-1):=cE hI _;have had:=E_ nt num p Eo hp hw E1 cur aa sc (.row 4 5 fs.length) (.slc none 0 (some 0)) rfl rfl;have hao:=my nt Eo num p hp hw E1 cur aa sc;generalize bF p num E1 cur sc=A at had hao t8;obtain⟨E2,id,q,e⟩:=A;simp only at had hao t8;unfold ai at hb0 hb1 t8 w0 w1 n1 n2;have wv1:IntKind.i64.wrap (p.getD (cur+2) dN).int=(p.getD (cur+2) dN).int:=aj aa aa;have wv2:IntKind.i64.wrap (bits+(p.getD (cur+2) dN).int)=bits+(p.getD (cur+2) dN).int:=aj aa aa;have wv3:IntKind.i64.wrap (p.getD (b-2) dN).int=(p.getD (b-2) dN).int:=aj aa aa;have wv4:IntKind.i64.wrap (p.getD (b-1) dN).int=(p.getD (b-1) dN).int:=aj aa aa;have e97:nI ((b:Int)-2)=nI ((b-2:Nat):Int):=congrArg nI aa;have e107:nI ((b:Int)-1)=nI ((b-1:Nat):Int):=congrArg nI aa;by_cases he:e=0
   ·rcases hao with ⟨_,h⟩|⟨_,rfl,hA⟩
    ·grind
    subst he;have hlA:=hA.len;rw[if_neg av] at t8;have hsz1:(Tryz.prog.types[3]).size=1:=bd;have hby1:(Tryz.prog.types[3]).bytes=8:=bd
    repeat'(first|refine y1 ?_|refine y2 ?_ ?_|refine y4 λh=>?_|refine wX (eO [0,1,2,3,4,5] had ?_)|refine RegX.oLk E1.length rfl rfl rfl aa rfl rfl rfl rfl rfl ?_|refine RegX.chunkN 9 rfl rfl ?_ (RegX.eqv 97 e97 rfl ?_)|refine RegX.chunkN 10 rfl rfl ?_ (RegX.eqv 107 e107 rfl ?_)|refine RegX.oUpd E1.length (zf (E2.getD E1.length eZ) bits (p.getD (cur+2) dN).int (p.getD (b-2) dN).int (p.getD (b-1) dN).int) rfl rfl rfl aa (ah _) rfl rfl rfl rfl ?_|refine jC (i:=8) (g:=9) (m:=us.length) (w:=1) (cs:=us.map λz=>S.int .i64 z) (foot:=[12]) (k:=1) (add:=[.int .i64 (E1.length:Int)]) rfl rfl av rfl rfl rfl rfl rfl rfl rfl hsz1 ac rfl ⟨Z02 _,rfl⟩ ac av rfl (by rw[hby1];omega) aa rfl ?_|refine y3 ?_|exact y5|fail)
    have hps:=FH E2 E1.length bits (p.getD (cur+2) dN).int (p.getD (b-2) dN).int (p.getD (b-1) dN).int;have hls:= @Z18 _ E2 E1.length (zf (E2.getD E1.length eZ) bits (p.getD (cur+2) dN).int (p.getD (b-2) dN).int (p.getD (b-1) dN).int);refine fq (n,cur+1+k.size,E2.set E1.length (zf (E2.getD E1.length eZ) bits (p.getD (cur+2) dN).int (p.getD (b-2) dN).int (p.getD (b-1) dN).int),us++[(E1.length:Int)],bits+(p.getD (cur+2) dN).int) ⟨t1.2.2.2,t2.2.2,⟨ae,ae⟩,ae,ae,ae,t8⟩ (by simp only[Fo.size];omega) [0,1,2,3,4,5,6,7,13,14] rfl ?_ ?_ ?_
    ·repeat'(first|exact ah _|exact cT _|exact Z0o|exact bp (congrArg nI (by rw[hec]))|refine⟨?_,?_⟩)
    ·refine⟨?_,rfl,?_,bN rfl ⟨rfl,?_,bN ?_ trivial⟩⟩
     ·simp only[hls];rfl
     ·simp only[hps];rfl
     ·simp only[Z03];rfl
     ·simp only[Z0d];rfl
    ·unfold lU gQ
     generalize List.flatMap kM fs=cg;generalize List.map _ (us++[(E1.length:Int)])=cu
     cases cg<;>cases cu<;>rfl
   ·rcases hao with ⟨rfl,_⟩|⟨h,_⟩
    ·rw[if_pos he] at t8
     subst t8
     repeat'(first|refine yA ?_|refine y2 ?_ ?_|refine y4 λh=>?_|refine wX (eO [0,1,2,3,4,5] had ?_)|exact y5|fail)
     exact Fin.f4 (.inl rfl) rfl rfl rfl rfl rfl rfl (if_neg he).symm
    all_goals grind
end
