import Derived.Test.YtegjgpldfgjoiaaGreatDoorCnM19
import Derived.Test.YtegjgpldfgjoiaaGreatDoorCnM15
import Derived.Test.YtegjgpldfgjoiaaGreatDoorCnM17
import Derived.Test.YtegjgpldfgjoiaaGreatDoorCnM21
set_option linter.all false
namespace Go.Proofs.YtegjgpldfgjoiaaGreatDoor
open Go Ab
set_option maxRecDepth 100000
structure Ent where
 path:By
 op:Int
 par:Int
 tab:Int
 node:Int
 sp:Int
 ba:Int
 ln:Int
 bit:Int
 len:Int
 wid:Int
 upd:Int
 idx:Int
 dat:Int
def io (x:Ent):List S:=[.str x.path,.int .i64 x.op,.int .i64 x.par,.int .i64 x.tab,.int .i64 x.node,.int .i64 x.sp,.int .u64 x.ba,.int .u64 x.ln,.int .i64 x.bit,.int .i64 x.len,.int .i64 x.wid,.int .i64 x.upd,.int .i64 x.idx,.int .i64 x.dat]
def dH (path:By) (op par tab node:Int):Ent:=⟨path,op,par,tab,node,0,0,0,0,0,0,0,0,0⟩
def eZ:Ent:=dH [] 0 0 0 0
structure Tb where
 p:List Nd
 r:List Int
def lu (t:Tb):List S:=[.frz (λk=>ndC (t.p.getD k dN)) 4 t.p.length,.frz (λk=>[.int .i64 (t.r.getD k 0)]) 1 t.r.length]
def my {α:Type} (b:Nat) (s:Int):List α->En Int α
 |[]=>[]
 |x::t=>(b,s,x)::my (b+1) (s+1) t
def vA (b:Nat):List Ent->En By Int
 |[]=>[]
 |x::t=>(b,x.path,(b:Int))::vA (b+1) t
theorem sa {α:Type}:∀ (E:List α) (b:Nat) (s:Int),(my b s E).length=E.length
 |[],_,_=>rfl
 |x::t,b,s=>by simp[my,sa t]
theorem CX {α:Type}:∀ (E:List α) (b:Nat) (s k:Int),k<s->po (my b s E) k=none
 |[],_,_,_,_=>rfl
 |x::t,b,s,k,h=>by
  rw[my,po,if_neg (by show ¬s=k;omega)];exact CX t (b+1) (s+1) k aa
theorem gj {α:Type}:∀ (E:List α) (b:Nat) (s k:Int) (j:Nat),k=s+j->po (my b s E) k=E[j]?
 |[],_,_,_,_,_=>rfl
 |x::t,b,s,k,0,h=>by
  rw[my,po,if_pos (by show s=k;omega)];rfl
 |x::t,b,s,k,j+1,h=>by
  rw[my,po,if_neg (by show ¬s=k;omega),gj t (b+1) (s+1) k j aa];rfl
theorem wM {α:Type}:∀ (E:List α) (b:Nat) (s k:Int) (j:Nat) (y:α),k=s+j->vC (my b s E) k y=my b s (E.set j y)
 |[],_,_,_,_,_,_=>rfl
 |x::t,b,s,k,0,y,h=>by
  have:k=s:=aa;subst this;rw[my,vC,if_pos rfl];rfl
 |x::t,b,s,k,j+1,y,h=>by
  rw[my,vC,if_neg (by show ¬s=k;omega),wM t (b+1) (s+1) k j y aa];rfl
theorem oW {α:Type}:∀ (E:List α) (b:Nat) (s:Int) (y:α),my b s E++[(b+E.length,s+(E.length:Int),y)]=my b s (E++[y])
 |[],b,s,y=>by simp[my]
 |x::t,b,s,y=>by
  have ih:=oW t (b+1) (s+1) y;show (b,s,x)::(my (b+1) (s+1) t++_)=(b,s,x)::my (b+1) (s+1) (t++[y]);rw[<-ih];simp only[Z04];rw[show b+(t.length+1)=b+1+t.length by omega,show s+((t.length+1:Nat):Int)=s+1+t.length by omega]
theorem uV:∀ (E:List Ent) (b:Nat) (y:Ent),vA b E++[(b+E.length,y.path,((b+E.length:Nat):Int))]=vA b (E++[y])
 |[],b,y=>by simp[vA]
 |x::t,b,y=>by
  have ih:=uV t (b+1) y;show (b,x.path,(b:Int))::(vA (b+1) t++_)=(b,x.path,(b:Int))::vA (b+1) (t++[y]);rw[<-ih];simp only[Z04];rw[show b+(t.length+1)=b+1+t.length by omega]
theorem r9:∀ (E:List Ent) (b j:Nat) (y:Ent),(∀ x,E[j]? =some x->y.path=x.path)->vA b (E.set j y)=vA b E
 |[],_,_,_,_=>rfl
 |x::t,b,0,y,h=>by
  rw[Z3k,vA,vA,h x rfl]
 |x::t,b,j+1,y,h=>by
  rw[Z2j,vA,vA,r9 t (b+1) j y (λz hz=>h z (by simpa using hz))]
def mp (b:Nat):List Ent->By->Option Nat
 |[],_=>none
 |x::t,s=>if x.path=s then some b else mp (b+1) t s
theorem r_:∀ (E:List Ent) (b:Nat) (s:By),po (vA b E) s=(mp b E s).map λn=>(n:Int)
 |[],_,_=>rfl
 |x::t,b,s=>by
  rw[vA,po,mp];by_cases h:x.path=s
  ·rw[if_pos h,if_pos h];rfl
  ·rw[if_neg h,if_neg h,r_ t]
theorem kP:∀ {E:List Ent} {b:Nat} {s:By} {n:Nat},mp b E s=some n->b<=n/\n<b+E.length/\(E.getD (n-b) eZ).path=s
 |[],_,_,_,h=>by cases h
 |x::t,b,s,n,h=>by
  rw[mp] at h;split at h
  ·cases h
   rename_i hx;exact⟨Z02 _,an,by rw[Z3r];exact hx⟩
  ·obtain⟨h1,h2,h3⟩:=kP h
   refine⟨aa,by simp only[Z04];omega,?_⟩;rw[show n-b=(n-(b+1))+1 by omega]
   simpa using h3
def iC (z:Int):List S:=[.int .i64 z]
def oB (E:List Ent):Bl:=mB rM true 14 io (my 0 0 E) E.length
def pB (E:List Ent):Bl:=mB IT false 1 iC (vA 0 E) E.length
def tB (T:List Tb):Bl:=mB rM true 2 lu (my 0 1 T) T.length
section
variable {z:Int} {E:List Ent} {r0:Bool} {T:List Tb}
theorem fN (x:Ent):(io x).length=14:=rfl
theorem gA (x:Tb):(lu x).length=2:=rfl
theorem yn (x:Ent):(io x).all bM=true:=rfl
theorem xD (x:Tb):(lu x).all bM=true:=rfl
theorem HN (E:List Ent) (y:Ent):mB rM true 14 io (my 0 0 E++[(E.length,(E.length:Int),y)]) (E.length+1)=oB (E++[y]):=by
 have h:=oW E 0 0 y;rw[Z0c,Z5n] at h;rw[h,oB,Z03];rfl
theorem Hg (T:List Tb) (y:Tb):mB rM true 2 lu (my 0 1 T++[(T.length,1+(T.length:Int),y)]) (T.length+1)=tB (T++[y]):=by
 have h:=oW T 0 1 y;rw[Z0c] at h;rw[h,tB,Z03];rfl
theorem HE (E:List Ent) (y:Ent):mB IT false 1 iC (vA 0 E++[(E.length,y.path,(E.length:Int))]) (E.length+1)=pB (E++[y]):=by
 have h:=uV E 0 y;rw[Z0c] at h;rw[h,pB,Z03];rfl
theorem HM (E:List Ent) (j:Nat) (y:Ent):mB rM true 14 io (vC (my 0 0 E) (j:Int) y) E.length=oB (E.set j y):=by
 rw[wM E 0 0 j j y aa,oB,Z18]
theorem Hf (T:List Tb) (j:Nat) (y:Tb):mB rM true 2 lu (vC (my 0 1 T) (1+(j:Int)) y) T.length=tB (T.set j y):=by
 rw[wM T 0 1 (1+(j:Int)) j y rfl,tB,Z18]
section
variable {P:Program} {b:Nat} {ops:Array Oper} {d:Bool} {acc:List Row} {os:List Oper} {env:List V} {n:Nat} {L:Hp} {R:Post}
variable {dst:Option Tmp} {x ix yv:Operand} {tx kt et:TypeId} {t:TypeId} {pos:String} {af:Array Edge} {gd:Option (Nat×Bool)} {i:Nat}
theorem RegX.oNew (y:Ent) (hx:ev env x=.s (.map (some i))) (hix:ev env ix=.s (.int .i64 z)) (hz:z=E.length) (hy:VLe (ev env yv) (.agg (io y))) (hl:lk L i=some (oB E)) (hty:P.underlying tx=some (.map kt et)) (hd:P.underlying kt=some (.int .i64))
 (hwt:aY ops env ⟨dst,.mapUpdate tx x ix yv,t,pos,af,gd⟩=some true)
 (kk:RegX P ops d (aG d ⟨dst,.mapUpdate tx x ix yv,t,pos,af,gd⟩ [i] [(i,some (oB (E++[y])))] acc) os (a_ env dst .undef) n (aw L [(i,some (oB (E++[y])))]) R):
 RegX P ops d acc (⟨dst,.mapUpdate tx x ix yv,t,pos,af,gd⟩::os) env n L R:=by
 subst hz;refine RegX.muN (K:=rM) (agg:=true) (c:=io) (k:=(E.length:Int)) y hx hix hy hl fN (λh=>by cases h) (yn y) hty hd ?_ hwt ?_
 ·rw[gj E 0 0 _ E.length aa,Z0b (Z02 _)]
 ·rw[HN];exact kk
theorem RegX.oUpd (j:Nat) (y:Ent) (hx:ev env x=.s (.map (some i))) (hix:ev env ix=.s (.int .i64 z)) (hz:z=j) (hj:j<E.length) (hy:VLe (ev env yv) (.agg (io y))) (hl:lk L i=some (oB E)) (hty:P.underlying tx=some (.map kt et)) (hd:P.underlying kt=some (.int .i64))
 (hwt:aY ops env ⟨dst,.mapUpdate tx x ix yv,t,pos,af,gd⟩=some true)
 (kk:RegX P ops d (aG d ⟨dst,.mapUpdate tx x ix yv,t,pos,af,gd⟩ [i] [(i,some (oB (E.set j y)))] acc) os (a_ env dst .undef) n (aw L [(i,some (oB (E.set j y)))]) R):
 RegX P ops d acc (⟨dst,.mapUpdate tx x ix yv,t,pos,af,gd⟩::os) env n L R:=by
 subst hz;refine RegX.muO (K:=rM) (agg:=true) (c:=io) (k:=(j:Int)) (x0:=E[j]) y hx hix hy hl fN (λh=>by cases h) (yn y) hty hd ?_ hwt ?_
 ·rw[gj E 0 0 _ j aa,Z01 hj]
 ·rw[HM];exact kk
theorem FJ {α:Type} (E:List α) (s z:Int):po (my 0 s E) z=if z<s then none else E[(z-s).toNat]? :=by
 by_cases h:z<s
 ·rw[if_pos h,CX _ _ _ _ h]
 ·rw[if_neg h,gj E 0 s z (z-s).toNat aa]
theorem RegX.oLk {r0:Bool} (j:Nat) (hx:ev env x=.s (.map (some i))) (hix:ev env ix=.s (.int .i64 z)) (hz:z=j) (hj:j<E.length) (hl:lk L i=some {oB E with ro:=r0}) (hty:P.underlying tx=some (.map kt et)) (hd:P.underlying kt=some (.int .i64)) (h0:jB P et true=some (io eZ))
 (hwt:aY ops env ⟨dst,.lookup tx x ix false,t,pos,af,gd⟩=some true)
 (kk:RegX P ops d (aG d ⟨dst,.lookup tx x ix false,t,pos,af,gd⟩ [i] [] acc) os (a_ env dst (.agg (io (E.getD j eZ)))) n L R):
 RegX P ops d acc (⟨dst,.lookup tx x ix false,t,pos,af,gd⟩::os) env n L R:=by
 subst hz;refine RegX.lk1 (K:=rM) (k:=(j:Int)) (some (E.getD j eZ)) hx hix hl fN (λh=>by cases h) hty hd h0 ?_ hwt kk;rw[gj E 0 0 _ j aa,Z01 hj,Z00,Z01 hj];rfl
theorem RegX.oLkT {r0:Bool} (r:Option Ent) (hx:ev env x=.s (.map (some i))) (hix:ev env ix=.s (.int .i64 z)) (hl:lk L i=some {oB E with ro:=r0}) (hty:P.underlying tx=some (.map kt et)) (hd:P.underlying kt=some (.int .i64)) (h0:jB P et true=some (io eZ)) (hr:(if z<0 then none else E[z.toNat]?)=r)
 (hwt:aY ops env ⟨dst,.lookup tx x ix true,t,pos,af,gd⟩=some true)
 (kk:RegX P ops d (aG d ⟨dst,.lookup tx x ix true,t,pos,af,gd⟩ [i] [] acc) os (a_ env dst (.tup [.agg (io (r.getD eZ)),.s (.bool r.isSome)])) n L R):
 RegX P ops d acc (⟨dst,.lookup tx x ix true,t,pos,af,gd⟩::os) env n L R:=by
 refine RegX.lkT (K:=rM) (k:=z) r hx hix hl fN (λh=>by cases h) hty hd h0 (by rw[FJ,Int.sub_zero];exact hr) hwt ?_
 cases r<;>exact kk
theorem RegX.pLk {s:By} {r0:Bool} (r:Option Nat) (hx:ev env x=.s (.map (some i))) (hix:ev env ix=.s (.str s)) (hl:lk L i=some {pB E with ro:=r0}) (hty:P.underlying tx=some (.map kt et)) (hd:P.underlying kt=some .string) (h0:jB P et false=some (iC 0)) (hr:mp 0 E s=r)
 (hwt:aY ops env ⟨dst,.lookup tx x ix true,t,pos,af,gd⟩=some true)
 (kk:RegX P ops d (aG d ⟨dst,.lookup tx x ix true,t,pos,af,gd⟩ [i] [] acc) os (a_ env dst (.tup [.s (.int .i64 ((r.getD 0:Nat):Int)),.s (.bool r.isSome)])) n L R):
 RegX P ops d acc (⟨dst,.lookup tx x ix true,t,pos,af,gd⟩::os) env n L R:=by
 refine RegX.lkT (K:=IT) (k:=s) (r.map λn=>(n:Int)) hx hix hl (λ_=>rfl) (λ_=>rfl) hty hd h0 (by rw[r_,hr]) hwt ?_
 cases r<;>exact kk
theorem RegX.pNew (y:Ent) (hx:ev env x=.s (.map (some i))) (hix:ev env ix=.s (.str y.path)) (hy:ev env yv=.s (.int .i64 z)) (hz:z=E.length) (hr:mp 0 E y.path=none) (hl:lk L i=some (pB E)) (hty:P.underlying tx=some (.map kt et)) (hd:P.underlying kt=some .string)
 (hwt:aY ops env ⟨dst,.mapUpdate tx x ix yv,t,pos,af,gd⟩=some true)
 (kk:RegX P ops d (aG d ⟨dst,.mapUpdate tx x ix yv,t,pos,af,gd⟩ [i] [(i,some (pB (E++[y])))] acc) os (a_ env dst .undef) n (aw L [(i,some (pB (E++[y])))]) R):
 RegX P ops d acc (⟨dst,.mapUpdate tx x ix yv,t,pos,af,gd⟩::os) env n L R:=by
 subst hz;refine RegX.muN (K:=IT) (agg:=false) (c:=iC) (k:=y.path) (E.length:Int) hx hix (by rw[hy];exact VLe.refl _) hl (λ_=>rfl) (λ_=>rfl) rfl hty hd (by rw[r_,hr];rfl) hwt ?_;rw[HE];exact kk
theorem RegX.tLk {r0:Bool} (j:Nat) (hx:ev env x=.s (.map (some i))) (hix:ev env ix=.s (.int .i64 z)) (hz:z=1+(j:Int)) (hj:j<T.length) (hl:lk L i=some {tB T with ro:=r0}) {zs:List S} (hty:P.underlying tx=some (.map kt et)) (hd:P.underlying kt=some (.int .i64)) (h0:jB P et true=some zs)
 (hwt:aY ops env ⟨dst,.lookup tx x ix false,t,pos,af,gd⟩=some true)
 (kk:RegX P ops d (aG d ⟨dst,.lookup tx x ix false,t,pos,af,gd⟩ [i] [] acc) os (a_ env dst (.agg (lu (T.getD j ⟨[],[]⟩)))) n L R):
 RegX P ops d acc (⟨dst,.lookup tx x ix false,t,pos,af,gd⟩::os) env n L R:=by
 subst hz;refine RegX.lk1 (K:=rM) (k:=1+(j:Int)) (some (T.getD j ⟨[],[]⟩)) hx hix hl gA (λh=>by cases h) hty hd h0 ?_ hwt kk;rw[gj T 0 1 _ j rfl,Z01 hj,Z00,Z01 hj];rfl
theorem RegX.tNew (y:Tb) (hx:ev env x=.s (.map (some i))) (hix:ev env ix=.s (.int .i64 z)) (hz:z=1+(T.length:Int)) (hy:VLe (ev env yv) (.agg (lu y))) (hl:lk L i=some (tB T)) (hty:P.underlying tx=some (.map kt et)) (hd:P.underlying kt=some (.int .i64))
 (hwt:aY ops env ⟨dst,.mapUpdate tx x ix yv,t,pos,af,gd⟩=some true)
 (kk:RegX P ops d (aG d ⟨dst,.mapUpdate tx x ix yv,t,pos,af,gd⟩ [i] [(i,some (tB (T++[y])))] acc) os (a_ env dst .undef) n (aw L [(i,some (tB (T++[y])))]) R):
 RegX P ops d acc (⟨dst,.mapUpdate tx x ix yv,t,pos,af,gd⟩::os) env n L R:=by
 subst hz;refine RegX.muN (K:=rM) (agg:=true) (c:=lu) (k:=1+(T.length:Int)) y hx hix hy hl gA (λh=>by cases h) (xD y) hty hd ?_ hwt ?_
 ·rw[gj T 0 1 _ T.length rfl,Z0b (Z02 _)]
 ·rw[Hg];exact kk
theorem RegX.tUpd (j:Nat) (y:Tb) (hx:ev env x=.s (.map (some i))) (hix:ev env ix=.s (.int .i64 z)) (hz:z=1+(j:Int)) (hj:j<T.length) (hy:VLe (ev env yv) (.agg (lu y))) (hl:lk L i=some (tB T)) (hty:P.underlying tx=some (.map kt et)) (hd:P.underlying kt=some (.int .i64))
 (hwt:aY ops env ⟨dst,.mapUpdate tx x ix yv,t,pos,af,gd⟩=some true)
 (kk:RegX P ops d (aG d ⟨dst,.mapUpdate tx x ix yv,t,pos,af,gd⟩ [i] [(i,some (tB (T.set j y)))] acc) os (a_ env dst .undef) n (aw L [(i,some (tB (T.set j y)))]) R):
 RegX P ops d acc (⟨dst,.mapUpdate tx x ix yv,t,pos,af,gd⟩::os) env n L R:=by
 subst hz;refine RegX.muO (K:=rM) (agg:=true) (c:=lu) (k:=1+(j:Int)) (x0:=T[j]) y hx hix hy hl gA (λh=>by cases h) (xD y) hty hd ?_ hwt ?_
 ·rw[gj T 0 1 _ j rfl,Z01 hj]
 ·rw[Hf];exact kk
theorem RegX.oLen {r0:Bool} (hx:ev env x=.s (.map (some i))) (hl:lk L i=some {oB E with ro:=r0}) (hty:P.underlying tx=some (.map kt et))
 (hwt:aY ops env ⟨dst,.call ⟨.builtin .len,#[x],#[tx]⟩,t,pos,af,gd⟩=some true)
 (kk:RegX P ops d (aG d ⟨dst,.call ⟨.builtin .len,#[x],#[tx]⟩,t,pos,af,gd⟩ [i] [] acc) os (a_ env dst (.s (.int .i64 (E.length:Int)))) n L R):
 RegX P ops d acc (⟨dst,.call ⟨.builtin .len,#[x],#[tx]⟩,t,pos,af,gd⟩::os) env n L R:=by
 refine RegX.lnM (K:=rM) (agg:=true) (w:=14) (c:=io) (E:=my 0 0 E) (ck:=E.length) (r0:=r0) hx hl fN hty hwt ?_;rw[sa];exact kk
theorem RegX.tLen {r0:Bool} (hx:ev env x=.s (.map (some i))) (hl:lk L i=some {tB T with ro:=r0}) (hty:P.underlying tx=some (.map kt et))
 (hwt:aY ops env ⟨dst,.call ⟨.builtin .len,#[x],#[tx]⟩,t,pos,af,gd⟩=some true)
 (kk:RegX P ops d (aG d ⟨dst,.call ⟨.builtin .len,#[x],#[tx]⟩,t,pos,af,gd⟩ [i] [] acc) os (a_ env dst (.s (.int .i64 (T.length:Int)))) n L R):
 RegX P ops d acc (⟨dst,.call ⟨.builtin .len,#[x],#[tx]⟩,t,pos,af,gd⟩::os) env n L R:=by
 refine RegX.lnM (K:=rM) (agg:=true) (w:=2) (c:=lu) (E:=my 0 1 T) (ck:=T.length) (r0:=r0) hx hl gA hty hwt ?_;rw[sa];exact kk
end
end
set_option maxHeartbeats 40000000
def ldC (nx nt num:Int) (p:List Nd) (Eo:List Nat) (fs rs:S):List S:=[.map (some 1),.map (some 2),.map (some 3),.int .i64 nx,.int .i64 nt,.int .i64 num,.frz (λk=>ndC (p.getD k dN)) 4 p.length,.frz (λk=>[.int .i64 ((Eo.getD k 0:Nat):Int)]) 1 Eo.length,fs,rs]
abbrev fX (nx nt num:Int) (p:List Nd) (Eo:List Nat) (fs rs:S):Bl:={cells:=ldC nx nt num p Eo fs rs,ty:=123}
def bS (p:List Nd) (i:Nat) (sc:Pth):Pth×Bool:=if (ah (p.getD i dN).str).2 then aq sc (ah (p.getD i dN).str).1 else (z0,false)
theorem Cn (nt num:Int) (p:List Nd) (Eo:List Nat) (hw:mS p) (nx:Int) (x y:Value) (i:Nat) (hi:i<p.length) (sc:Pth):
 FC Tryz.prog 183 [.s (.ptr (some (0,0))),gw sc,nI i] 6 [(0,some (fX nx nt num p Eo (.cst x) (.cst y)))] (vR (bS p i sc)) 6 [(0,some (fX nx nt num p Eo (.cst x) (.cst y)))]:=by
 have hpa:=fF (p.getD i dN).str (qI hw i);unfold bS;generalize ah (p.getD i dN).str=r at hpa |-;obtain⟨q,ok⟩:=r;refine wW Tryz.func183 ?_;cases ok
 ·
  repeat'(first|exact y0|refine y1 ?_|refine y2 ?_ ?_|refine y4 λh=>?_|refine wX 48 (pu hpa ?_)|refine y3 ?_|exact y5|fail)
  exact⟨.inl rfl,_,[],dK rfl,EndOK.by rfl ⟨rfl,trivial⟩ rfl rfl rfl rfl⟩
 ·
  have hj:=Co sc q;simp only[if_true];generalize aq sc q=r2 at hj |-
  repeat'(first|exact y0|refine y1 ?_|refine y2 ?_ ?_|refine y4 λh=>?_|refine wX 48 (pu hpa ?_)|refine wX 95 (pu hj ?_)|refine y3 ?_|exact y5|fail)
  exact bh
def BL (z:Int):Bool:=decide (z=10\/z=11\/z=12)
def eT (E:List Ent) (q:Pth):Int×Bool:=match mp 0 E (aI q) with
 |some k=>if BL (E.getD k eZ).op then ((k:Int),true) else (0,false)
 |none=>(0,false)
theorem Dm (nt num:Int) (p:List Nd) (Eo:List Nat) (nx:Int) (x y:Value) (E:List Ent) (q:Pth) (hq:q.root=true):
 FC Tryz.prog 184 [.s (.ptr (some (0,0))),gw q] 6 [(0,some (fX nx nt num p Eo (.cst x) (.cst y))),(1,some (oB E)),(2,some (pB E))] (.tup [.s (.int .i64 (eT E q).1),.s (.bool (eT E q).2)]) 6 [(0,some (fX nx nt num p Eo (.cst x) (.cst y))),(1,some (oB E)),(2,some (pB E))]:=by
 have hf:=oO q hq;unfold eT;generalize aI q=s at hf |-;refine wW Tryz.func184 ?_
 cases h:mp 0 E s with
 |none=>
  repeat'(first|exact y0|refine y1 ?_|refine y2 ?_ ?_|refine y4 λh=>?_|refine wX 50 (pu hf ?_)|refine RegX.pLk none rfl rfl rfl rfl rfl rfl h rfl ?_|refine y3 ?_|exact y5|fail)
  exact bh
 |some k=>
  obtain⟨_,hk,_⟩:=kP h;rw[Z0c] at hk;simp only;by_cases ho:BL (E.getD k eZ).op=true
  ·rw[if_pos ho]
   unfold BL at ho;rw[decide_eq_true_eq] at ho
   repeat'(first|exact y0|refine y1 ?_|refine y2 ?_ ?_|refine y4 λh=>?_|refine wX 50 (pu hf ?_)|refine RegX.pLk (some k) rfl rfl rfl rfl rfl rfl h rfl ?_|refine RegX.oLk k rfl rfl rfl hk rfl rfl rfl rfl rfl ?_|refine y3 ?_|exact y5|fail)
   all_goals exact bh
  ·rw[if_neg ho]
   unfold BL at ho;rw[decide_eq_true_eq] at ho
   repeat'(first|exact y0|refine y1 ?_|refine y2 ?_ ?_|refine y4 λh=>?_|refine wX 50 (pu hf ?_)|refine RegX.pLk (some k) rfl rfl rfl rfl rfl rfl h rfl ?_|refine RegX.oLk k rfl rfl rfl hk rfl rfl rfl rfl rfl ?_|refine y3 ?_|exact y5|fail)
   all_goals exact bh
theorem jP {p:List Nd} {i:Nat} {sc q:Pth} (h:bS p i sc=(q,true)):q.root=true:=by
 unfold bS at h;split at h
 ·have e:=congrArg Prod.snd h
  have:=jO e;rw[h] at this;exact this
 ·cases h
theorem rA {q r:Pth} (h:aO q=(r,true)):r.root=true:=by
 unfold aO at h;split at h
 ·cases h
 ·cases h;rfl
structure AddOK (p:List Nd) (num:Int) (E:List Ent) (i:Nat) (sc:Pth) (E':List Ent) (q:Pth):Prop where
 join:bS p (i+1) sc=(q,true)
 new:mp 0 E (aI q)=none
 room:E.length<1024
 up:∃ (ab:Pth) (c:Int),aO q=(ab,true)/\eT E ab=(c,true)/\E'=E++[dH (aI q) (p.getD i dN).op c num i]
def bt (p:List Nd) (num:Int) (E:List Ent) (i:Nat) (sc:Pth):List Ent×Int×Pth×Int:=
 if (bS p (i+1) sc).2=false then (E,0,z0,1)
 else if (mp 0 E (aI (bS p (i+1) sc).1)).isSome=true then (E,0,z0,7)
 else if (aO (bS p (i+1) sc).1).2=false then (E,0,z0,6)
 else if (eT E (aO (bS p (i+1) sc).1).1).2=false then (E,0,z0,6)
 else if E.length<1024 then (E++[dH (aI (bS p (i+1) sc).1) (p.getD i dN).op (eT E (aO (bS p (i+1) sc).1).1).1 num i],E.length,(bS p (i+1) sc).1,0)
 else (E,0,z0,8)
abbrev AB (nt num:Int) (p:List Nd) (Eo:List Nat) (fs rs:S) (E:List Ent):Hp:=[(0,some (fX (E.length:Nat) nt num p Eo fs rs)),(1,some (oB E)),(2,some (pB E))]
abbrev IB (id:Int) (q:Pth) (e:Int):V:=.tup [.s (.int .i64 id),.agg (bX q),.s (.int .i64 e)]
theorem pf (e:Int):VLe (.tup [.s (.int .i64 0),.agg [.bool false,.int .i64 0,.slc none 0 (some 0)],.s (.int .i64 e)]) (IB 0 z0 e):=
 VLe.tup ⟨ULe.s (SLe.refl _),ULe.agg ⟨SLe.refl _,SLe.refl _,SLe.nil,trivial⟩,ULe.s (SLe.refl _),trivial⟩
theorem G7 (nt num:Int) (p:List Nd) (Eo:List Nat) (hp:p.length<=2048) (hw:mS p) (E:List Ent) (i:Nat) (hi:i+1<p.length) (sc:Pth):
 ∃ (E':List Ent) (id:Int) (q:Pth) (e:Int),bt p num E i sc=(E',id,q,e)/\(E'=E/\e≠0\/(e=0/\id=E.length/\AddOK p num E i sc E' q))/\∀ x y:Value,
   FC Tryz.prog 187 [.s (.ptr (some (0,0))),nI i,gw sc] 6 (AB nt num p Eo (.cst x) (.cst y) E) (IB id q e) 6 (AB nt num p Eo (.cst x) (.cst y) E'):=by
 have hj:=λx y=>Cn nt num p Eo hw (E.length:Nat) x y (i+1) hi sc
 rw[show ((i+1:Nat):Int)=(i:Int)+1 by omega] at hj
 cases hq:bS p (i+1) sc with|mk q ok
 rw[hq] at hj
 cases ok with
 |false=>
  refine⟨E,0,z0,1,by simp[bt,hq],.inl ⟨rfl,ac⟩,?_⟩;intro x y;have hj:=hj x y;refine wW Tryz.func187 ?_
  repeat'(first|exact y0|refine y1 ?_|refine y2 ?_ ?_|refine y4 λh=>?_|refine wX 183 (cf [0,1,2,3,4,5] hj ?_)|refine y3 ?_|exact y5|fail)
  exact⟨.inl rfl,_,[],pf _,EndOK.by rfl ⟨rfl,rfl,rfl,trivial⟩ rfl rfl rfl rfl⟩
 |true=>
 have hf:=oO q (jP hq)
 cases h1:mp 0 E (aI q) with
 |some k=>
  refine⟨E,0,z0,7,by simp[bt,hq,h1],.inl ⟨rfl,ac⟩,?_⟩;intro x y;have hj:=hj x y;refine wW Tryz.func187 ?_
  repeat'(first|exact y0|refine y1 ?_|refine y2 ?_ ?_|refine y4 λh=>?_|refine wX 183 (cf [0,1,2,3,4,5] hj ?_)|refine wX 50 (pu hf ?_)|refine RegX.pLk (some k) rfl rfl rfl rfl rfl rfl h1 rfl ?_|refine y3 ?_|exact y5|fail)
  exact⟨.inl rfl,_,[],pf _,EndOK.by rfl ⟨rfl,rfl,rfl,trivial⟩ rfl rfl rfl rfl⟩
 |none=>
 have ha:=BH q
 cases h2:aO q with|mk ab ok
 rw[h2] at ha
 cases ok with
 |false=>
  refine⟨E,0,z0,6,by simp[bt,hq,h1,h2],.inl ⟨rfl,ac⟩,?_⟩;intro x y;have hj:=hj x y;refine wW Tryz.func187 ?_
  repeat'(first|exact y0|refine y1 ?_|refine y2 ?_ ?_|refine y4 λh=>?_|refine wX 183 (cf [0,1,2,3,4,5] hj ?_)|refine wX 50 (pu hf ?_)|refine wX 96 (pu ha ?_)|refine RegX.pLk none rfl rfl rfl rfl rfl rfl h1 rfl ?_|refine y3 ?_|exact y5|fail)
  exact⟨.inl rfl,_,[],pf _,EndOK.by rfl ⟨rfl,rfl,rfl,trivial⟩ rfl rfl rfl rfl⟩
 |true=>
 have hc:=λx y=>Dm nt num p Eo (E.length:Nat) x y E ab (rA h2)
 cases h3:eT E ab with|mk c ok
 rw[h3] at hc
 cases ok with
 |false=>
  refine⟨E,0,z0,6,by simp[bt,hq,h1,h2,h3],.inl ⟨rfl,ac⟩,?_⟩;intro x y;have hj:=hj x y;have hc:=hc x y;refine wW Tryz.func187 ?_
  repeat'(first|exact y0|refine y1 ?_|refine y2 ?_ ?_|refine y4 λh=>?_|refine wX 183 (cf [0,1,2,3,4,5] hj ?_)|refine wX 50 (pu hf ?_)|refine wX 96 (pu ha ?_)|refine wX 184 (cf [0,1,2,3,4,5] hc ?_)|refine RegX.pLk none rfl rfl rfl rfl rfl rfl h1 rfl ?_|refine y3 ?_|exact y5|fail)
  exact⟨.inl rfl,_,[],pf _,EndOK.by rfl ⟨rfl,rfl,rfl,trivial⟩ rfl rfl rfl rfl⟩
 |true=>
 by_cases h4:E.length<1024
 ·refine⟨E++[dH (aI q) (p.getD i dN).op c num i],E.length,q,0,by simp[bt,hq,h1,h2,h3,h4],.inr ⟨rfl,rfl,hq,h1,h4,ab,c,h2,h3,rfl⟩,?_⟩
  intro x y;have hj:=hj x y;have hc:=hc x y;refine wW Tryz.func187 ?_
  repeat'(first|exact y0|refine y1 ?_|refine y2 ?_ ?_|refine y4 λh=>?_|refine wX 183 (cf [0,1,2,3,4,5] hj ?_)|refine wX 50 (pu hf ?_)|refine wX 96 (pu ha ?_)|refine wX 184 (cf [0,1,2,3,4,5] hc ?_)|refine RegX.pLk none rfl rfl rfl rfl rfl rfl h1 rfl ?_|refine RegX.oLen rfl rfl rfl rfl ?_|refine RegX.pNew (dH (aI q) (p.getD i dN).op c num i) rfl rfl rfl rfl h1 rfl rfl rfl rfl ?_|refine RegX.oNew (dH (aI q) (p.getD i dN).op c num i) rfl rfl rfl (VLe.refl _) rfl rfl rfl rfl ?_|refine y3 ?_|exact y5|fail)
  all_goals try exact y7
  have hlen:(((E++[dH (aI q) (p.getD i dN).op c num i]).length:Nat):Int)=(E.length:Int)+1:=by rw[Z03];rfl
  unfold AB;rw[hlen];exact bh
 ·refine⟨E,0,z0,8,by simp[bt,hq,h1,h2,h3,h4],.inl ⟨rfl,ac⟩,?_⟩
  intro x y;have hj:=hj x y;have hc:=hc x y;refine wW Tryz.func187 ?_
  repeat'(first|exact y0|refine y1 ?_|refine y2 ?_ ?_|refine y4 λh=>?_|refine wX 183 (cf [0,1,2,3,4,5] hj ?_)|refine wX 50 (pu hf ?_)|refine wX 96 (pu ha ?_)|refine wX 184 (cf [0,1,2,3,4,5] hc ?_)|refine RegX.pLk none rfl rfl rfl rfl rfl rfl h1 rfl ?_|refine RegX.oLen rfl rfl rfl rfl ?_|refine y3 ?_|exact y5|fail)
  exact⟨.inl rfl,_,[],pf _,EndOK.by rfl ⟨rfl,rfl,rfl,trivial⟩ rfl rfl rfl rfl⟩
theorem nu (nt:Int) (Eo:List Nat) (num:Int) (p:List Nd) (hp:p.length<=2048) (hw:mS p) (E:List Ent) (i:Nat) (hi:i+1<p.length) (sc:Pth):
 ((bt p num E i sc).1=E/\(bt p num E i sc).2.2.2≠0\/((bt p num E i sc).2.2.2=0/\(bt p num E i sc).2.1=E.length/\AddOK p num E i sc (bt p num E i sc).1 (bt p num E i sc).2.2.1)):=by
 obtain⟨E',id,q,e,h0,h1,_⟩:=G7 nt num p Eo hp hw E i hi sc;rw[h0];exact h1
theorem G6 (nt num:Int) (p:List Nd) (Eo:List Nat) (hp:p.length<=2048) (hw:mS p) (E:List Ent) (i:Nat) (hi:i+1<p.length) (sc:Pth) (fs rs:S) (hf:ya fs=false) (hr:ya rs=false):
 FC Tryz.prog 187 [.s (.ptr (some (0,0))),nI i,gw sc] 6 (AB nt num p Eo fs rs E) (IB (bt p num E i sc).2.1 (bt p num E i sc).2.2.1 (bt p num E i sc).2.2.2) 6 (AB nt num p Eo fs rs (bt p num E i sc).1):=by
 obtain⟨E',id,q,e,h0,h1,h2⟩:=G7 nt num p Eo hp hw E i hi sc;rw[h0];refine⟨(h2 (.int .i64 0) (.int .i64 0)).1,?_⟩
 refine SC.cst (i:=0) (o:=8) (i':=0) (o':=8) (s:=fs) rfl rfl rfl rfl hf rfl rfl λx hx=>?_
 refine SC.cst (i:=0) (o:=9) (i':=0) (o':=9) (s:=rs) rfl rfl rfl rfl hr rfl rfl λy hy=>?_
 exact (h2 x y).2
theorem Ends.uniq {p:List Nd} {e n i:Nat} (h:Ends p e n i):∀ {e':Nat},Ends p e' n i->e=e':=by
 induction h with
 |done=>
  intro e' h';cases h';rfl
 |step h k hk r ih=>
  intro e' h'
  cases h' with
  |step _ k' hk' r'=>
   have:k=k':=aa;subst this;exact ih r'
structure EOK (p:List Nd) (E:List Nat):Prop where
 len:E.length=p.length
 on:∀ i,i<p.length->Ends p (E.getD i 0) 1 i
theorem EOK.get {p:List Nd} {E:List Nat} (h:EOK p E) {x:Nd} {k n:Fo} {i:Nat} (ha:(Fo.cons x k n).At p i):E.getD i 0=i+1+k.size:=(h.on i (At.lt ha)).uniq (At.ends1 ha)
section
variable {p:List Nd} {num:Int} {i m:Nat} {bl:Bl} {A B:List Ent}
section
variable {P:Program} {b:Nat} {env:List V} {n:Nat} {L:Hp} {R:Post}
theorem Ex.cel {c:Code} (j o:Nat) {s s':S} (hl:lk L j=some bl) (ho:bl.cells[o]? =some s) (hle:SLe s s') {L':Hp} (hL:put L j (some {bl with cells:=bl.cells.set o s'})=L') (k:Ex P b c env n L' R):Ex P b c env n L R:=by
 subst hL;refine Ex.subF (λi bl' hi=>?_) k;rw[az] at hi;split at hi
 ·rename_i e;subst e;cases hi
  refine⟨bl,hl,rfl,λφ w c h=>?_⟩;obtain⟨pre,xs,rest,fr,h1,hp,h2,h3,h4,h5⟩:=h;exact⟨pre,xs,rest,fr,h1,hp,eU h2 (λx hx=>hle _ _ (gk h2 ho hx)),h3,h4,h5⟩
 ·exact⟨bl',hi,rfl,λ_ _ _ h=>h⟩
theorem Ex.cel16 {ops:Array Oper} {d:Bool} (j o:Nat) {s s':S} (hl:lk L j=some bl) (ho:bl.cells[o]? =some s) (hle:SLe s s') {L':Hp} (hL:put L j (some {bl with cells:=bl.cells.set o s'})=L') (k:Ex P b (.region 16 ops d) env n L' R):Ex P b (.region 16 ops d) env n L R:=Ex.cel j o hl ho hle hL k
theorem Ex.fzC16 {ops:Array Oper} {d:Bool} (j o:Nat) (get:Nat->List S) (sz:Nat) {s:S} {N:Nat} {blj:Bl} (hlj:lk L j=some blj) (hij:i≠j) (hs:blj.cells[o]? =some s) (ht:dF (.s s)=some (i,N)) (hl:lk L i=some bl) (hro:bl.ro=false) (hk:bl.kind=none)
 (hg:∀ k,k<N->(get k).length=sz) (hc:∀ k j x,k<N->(get k)[j]? =some x->bl.cells[k*sz+j]? =some x/\bE x=true)
 {L':Hp} (hL:put (put L i none) j (some {blj with cells:=blj.cells.set o (.frz get sz N)})=L') (k:Ex P b (.region 16 ops d) env n L' R):Ex P b (.region 16 ops d) env n L R:=Ex.fzC j o get sz hlj hij hs ht hl hro hk hg hc hL k
end
structure Fd where
 node:Int
 scope:By
 units:List Int
 bits:Int
def Fr (l:List Int):S:=.frz (λk=>[.int .i64 (l.getD k 0)]) 1 l.length
def lj (d:Fd):List S:=[.int .i64 d.node,.str d.scope,Fr d.units,.int .i64 d.bits]
abbrev mt (c:Nat) (fs:List Fd):Option Bl:=eI 129 (c+1) 4 (fs.flatMap lj)
abbrev jv (c:Nat) (l:List Int):Option Bl:=eI 3 (c+1) 1 (l.map λz=>S.int .i64 z)
abbrev eL (nt num:Int) (p:List Nd) (Eo:List Nat) (E:List Ent) (fs:List Fd):Hp:=[(0,some (fX (E.length:Nat) nt num p Eo (.row 4 5 fs.length) (.slc none 0 (some 0)))),(1,some (oB E)),(2,some (pB E)),(4,mt 4 fs)]
abbrev AC (nt num:Int) (p:List Nd) (Eo:List Nat) (E:List Ent) (fs:List Fd):Hp:=[(0,some (fX (E.length:Nat) nt num p Eo (.row 6 7 fs.length) (.slc none 0 (some 0)))),(1,some (oB E)),(2,some (pB E)),(4,none),(6,mt 6 fs)]
theorem BQ {nt:Int} {Eo:List Nat} {E:List Ent} {fs:List Fd}:eV 8 (AC nt num p Eo E fs)=true:=by
 unfold AC mt;generalize List.flatMap lj fs=cg
 cases cg<;>rfl
section
variable {P:Program} {fn:Func} {env:List V} {nt num:Int} {p:List Nd} {Eo:List Nat} {E:List Ent} {z z':Int} {e:Exit} {M:Hp} {m:Nat} {fs fs':List Fd}
theorem Fin.fd (c:Nat) (hx:e=.ret\/e=.normal) (h0:lk M 0=some (fX (E.length:Nat) nt num p Eo (.row c (c+1) fs.length) (.slc none 0 (some 0)))) (h1:lk M 1=some (oB E)) (h2:lk M 2=some (pB E)) (h4:lk M c=mt c fs)
 (hr:fU P fn env M=some (.s (.int .i64 z'))) (hn:ce (List.range 6++[c,c+1])=true) (hz:z'=z) (hf:fs=fs'):Fin P fn 6 (.s (.int .i64 z)) 8 (AC nt num p Eo E fs') e env m M:=by
 subst hz;subst hf;exact⟨hx,_,[c,c+1],VLe.refl _,EndOK.by hr ⟨h0,h1,h2,MemP.op h4 trivial⟩ rfl BQ rfl hn⟩
theorem Fin.f4 (hx:e=.ret\/e=.normal) (h0:lk M 0=some (fX (E.length:Nat) nt num p Eo (.row 4 5 fs.length) (.slc none 0 (some 0)))) (h1:lk M 1=some (oB E)) (h2:lk M 2=some (pB E)) (h4:lk M 4=mt 4 fs)
 (hr:fU P fn env M=some (.s (.int .i64 z'))) (hz:z'=z) (hf:fs=fs'):Fin P fn 6 (.s (.int .i64 z)) 8 (AC nt num p Eo E fs') e env m M:=by
 subst hz;subst hf;refine⟨hx,_,[4,5],VLe.refl _,EndOK.move hr ⟨h0,h1,h2,MemP.op h4 trivial⟩ rfl BQ rfl ?_ ?_⟩
 ·unfold AC mt
  generalize List.flatMap lj fs=cg
  cases cg<;>rfl
 ·unfold AC mt
  generalize List.flatMap lj fs=cg
  cases cg<;>rfl
end
def I8 (x y:Ent):Prop:=x.path=y.path/\x.op=y.op/\x.par=y.par/\x.tab=y.tab/\x.node=y.node
inductive Gro (p:List Nd) (num:Int) (m:Nat):List Ent->List Ent->Prop where
 |refl (E:List Ent):Gro p num m E E
 |add {E E1 E2:List Ent} {i:Nat} {sc q:Pth} (hi:i+1<p.length) (h:AddOK p num E i sc E1 q) (k:Gro p num m E1 E2):Gro p num m E E2
 |spec {E E2:List Ent} {j:Nat} {y:Ent} (hm:m<=j) (hj:j<E.length) (hs:I8 y (E.getD j eZ)) (k:Gro p num m (E.set j y) E2):Gro p num m E E2
theorem Gro.trans {C:List Ent} (h:Gro p num m A B) (k:Gro p num m B C):Gro p num m A C:=by
 induction h with
 |refl=>exact k
 |add hi h _ ih=>exact .add hi h (ih k)
 |spec hm hj hs _ ih=>exact .spec hm hj hs (ih k)
theorem AddOK.len {E E':List Ent} {sc q:Pth} (h:AddOK p num E i sc E' q):E'.length=E.length+1:=by
 obtain⟨ab,c,_,_,rfl⟩:=h.up;rw[Z03];rfl
theorem Gro.len (h:Gro p num m A B):A.length<=B.length:=by
 induction h with
 |refl=>exact Z02 _
 |add hi h _ ih=>have:=h.len;omega
 |spec hm hj hs _ ih=>rw[Z18] at ih;exact ih
theorem GT {op:Int} (h:bn 70 op=true):op=18\/op=19:=by
 unfold bn at h;simp[cx] at h;omega
theorem vY (h:aK p i=false) (ho:(p.getD i dN).op=18):ai p (i+2)<=256:=by
 unfold aK at h;rw[ho] at h;simp at h;exact h.2
theorem vX (h:aK p i=false) (ho:(p.getD i dN).op=19):ai p (i+1)<=8388608:=by
 unfold aK at h;rw[ho] at h;simp at h;exact h
def Az (x:Ent) (bit len wid upd:Int):Ent:={x with sp:=0,ba:=0,ln:=0,bit:=bit,len:=len,wid:=wid,upd:=upd,idx:= -1,dat:= -1}
theorem HD (E:List Ent) (j:Nat) (a b c d:Int):pB (E.set j (Az (E.getD j eZ) a b c d))=pB E:=by
 unfold pB;rw[Z18,r9 E 0 j _ (λx hx=>by rw[Z00,hx];rfl)]
def dB (p:List Nd) (num:Int) (sc:Pth) (wid upd:Int):Fo->Nat->List Ent->List Int->Int->List Ent×List Int×Int×Int
 | .nil,_,E,us,bits=>(E,us,bits,0)
 | .cons x k n,c,E,us,bits=>
   if x.op=19 then dB p num sc wid upd n (c+1+k.size) E us (bits+ai p (c+1))
   else if (bt p num E c sc).2.2.2≠0 then ((bt p num E c sc).1,us,bits,(bt p num E c sc).2.2.2)
   else dB p num sc wid upd n (c+1+k.size) ((bt p num E c sc).1.set E.length (Az ((bt p num E c sc).1.getD E.length eZ) bits (ai p (c+2)) wid upd)) (us++[(E.length:Int)]) (bits+ai p (c+2))
def sf (i:Nat) (sc:Pth) (fs:List Fd) (R:List Ent×List Int×Int×Int):List Fd:=if R.2.2.2=0 then fs++[⟨i,aI sc,R.2.1,R.2.2.1⟩] else fs
theorem rX:∀ fs:List Fd,(fs.flatMap lj).length=fs.length*4
 |[]=>rfl
 |x::G=>by rw[Z0g,Z03,rX G];simp only[Z04];simp[lj];omega
theorem vF (l:List Int):∀ (k j:Nat) (x:S),k<l.length->([S.int .i64 (l.getD k 0)])[j]? =some x->(l.map λz=>S.int .i64 z)[k*1+j]? =some x/\bE x=true:=by
 intro k j x hk hx
 cases j with
 |succ j=>simp at hx
 |zero=>
  simp only[Z11,Z06] at hx;subst hx;rw[Z1p,Z0p,Z0t,Z01 hk,Z00,Z01 hk];exact⟨rfl,rfl⟩
theorem C3 (nt num:Int) (p:List Nd) (Eo:List Nat) (hp:p.length<=2048) (hw:mS p) (hI:pR p) (hO:∀ j,j<p.length->aK p j=false) (hNA:∀ j,j<p.length->jH p j) (hE:EOK p Eo) (E:List Ent) (fs:List Fd) (hfs:fs.length<=100000)
 (i b:Nat) (x:Nd) (kf:Fo) (ha:(Fo.cons x kf .nil).At p b) (hv:kf.V (List.replicate kf.cnt (false,70))) (hb:2<=b) (n1:ai p (b-2)<=1000) (n2:ai p (b-1)<=1000) (sc:Pth) (hsc:sc.root=true) (R:List Ent×List Int×Int×Int) (hR:dB p num sc (ai p (b-2)) (ai p (b-1)) kf (b+1) E [] 0=R):
   FC Tryz.prog 186 [.s (.ptr (some (0,0))),nI i,nI b,gw sc] 6 (eL nt num p Eo E fs) (.s (.int .i64 R.2.2.2)) 8 (AC nt num p Eo R.1 (sf i sc fs R)):=by
 have hf:=oO sc hsc;have hbl:=At.lt ha;have heb:=hE.get ha;have hel:=hE.len;have hsz:=At.size_le (Z1k hbl) ha;simp only[Fo.size] at hsz
 obtain⟨s,rt⟩:∃ s,s=aI sc:=⟨_,rfl⟩
 unfold sf;rw[<-rt] at hf |-;refine wW Tryz.func186 ?_
 repeat'(first|exact y0|refine y1 ?_|refine y2 ?_ ?_|refine y4 λh=>?_|refine wX 50 (pu hf ?_)|refine y3 ?_|exact y5|fail)
 refine Ex.cel 7 2 (s':=.row 8 9 0) rfl rfl SLe.nilrow rfl (Ex.upN (n':=10) ac ?_)
 refine Ex.inv (σ:=Fo×Nat×List Ent×List Int×Int) (λq=>[(10,nI q.2.1)]) (λq=>[(0,some (fX (q.2.2.1.length:Nat) nt num p Eo (.row 4 5 fs.length) (.slc none 0 (some 0)))),(1,some (oB q.2.2.1)),(2,some (pB q.2.2.1)),(4,mt 4 fs),(6,some {cells:=bX sc,ty:=99}),(7,some {cells:=[.int .i64 (i:Int),.str s,.row 8 9 q.2.2.2.1.length,.int .i64 q.2.2.2.2],ty:=129}),(8,jv 8 q.2.2.2.1)])
  (λq=>q.1.At p q.2.1/\q.1.V (List.replicate q.1.cnt (false,70))/\(b+1<=q.2.1/\q.2.1+q.1.size=b+1+kf.size)/\q.2.2.2.1.length+q.1.size<=2048/\0<=q.2.2.2.2/\q.2.2.2.2+8388608*q.1.size<=20000000000/\dB p num sc (ai p (b-2)) (ai p (b-1)) q.1 q.2.1 q.2.2.1 q.2.2.2.1 q.2.2.2.2=R) (λq=>q.1.size) (kf,b+1,E,[],0) rfl (λ_=>rfl) ?_ ?_ ?_ ?_
 ·refine⟨ha.2.2.1,hv,⟨by simp only;omega,by simp only⟩,by simp only[Z0e];omega,by simp only;omega,by simp only;omega,hR⟩
 ·exact⟨VLe.of_eq (congrArg nI (by push_cast;rfl)),trivial⟩
 ·exact⟨rfl,rfl,rfl,SubP.op rfl ⟨rfl,rfl,SubP.op rfl trivial⟩⟩
 rintro⟨t,cur,E1,us,bits⟩ ⟨t1,t2,⟨t3,t4⟩,t5,t6,t7,t8⟩;simp only at t1 t2 t3 t4 t5 t6 t7 t8 |-
 cases t with
 |nil=>
  simp only[dB] at t8;subst t8;simp only[Fo.size] at t4;simp only[if_true]
  have hsz4:(Tryz.prog.types[129]).size=4:=by kernel_rfl
  have hby4:(Tryz.prog.types[129]).bytes=56:=by kernel_rfl
  have hfl:=rX fs
  cases us with
  |nil=>
   repeat'(first|refine Ex.cel16 7 2 (s':=Fr []) rfl rfl SLe.row0 rfl ?_|exact y0|refine y1 ?_|refine y2 ?_ ?_|refine y4 λh=>?_|refine RegX.apr (i:=4) (g:=5) (m:=fs.length) (w:=4) (cs:=fs.flatMap lj) (foot:=[10]) (k:=1) (add:=lj ⟨i,s,[],bits⟩) rfl rfl (by rw[rX]) rfl rfl rfl rfl rfl rfl rfl hsz4 ac rfl ⟨Z02 _,rfl⟩ ac (by simp[lj]) rfl (by rw[hby4];omega) aa rfl ?_|refine y3 ?_|exact y5|fail)
   refine Fin.fd 11 (.inl rfl) ?_ rfl rfl ?_ rfl rfl rfl rfl
   ·rw[Z03];rfl
   ·show eI _ _ _ _=eI _ _ _ _
    rw[Z0r];rfl
  |cons u us=>
   repeat'(first|refine Ex.fzC16 7 2 (λk=>[.int .i64 ((u::us).getD k 0)]) 1 rfl ac rfl rfl rfl rfl rfl (λ_ _=>rfl) (vF _) rfl ?_|exact y0|refine y1 ?_|refine y2 ?_ ?_|refine y4 λh=>?_|refine RegX.apr (i:=4) (g:=5) (m:=fs.length) (w:=4) (cs:=fs.flatMap lj) (foot:=[10]) (k:=1) (add:=lj ⟨i,s,u::us,bits⟩) rfl rfl (by rw[rX]) rfl rfl rfl rfl rfl rfl rfl hsz4 ac rfl ⟨Z02 _,rfl⟩ ac (by simp[lj]) rfl (by rw[hby4];omega) aa rfl ?_|refine y3 ?_|exact y5|fail)
   refine Fin.fd 11 (.inl rfl) ?_ rfl rfl ?_ rfl rfl rfl rfl
   ·rw[Z03];rfl
   ·show eI _ _ _ _=eI _ _ _ _
    rw[Z0r];rfl
 |cons y k n=>
  simp only[Fo.size] at t4 t5 t7;have hcl:=At.lt t1;have hec:=hE.get t1;have hx:=At.get t1;have hac:=t2.1.1
  have hbd:∀ j,j<p.length->0<=(p.getD j dN).int:=λj hj=>ca hI j
  simp only[dB] at t8;by_cases h19:y.op=19
  ·rw[if_pos h19] at t8
   have hop:(p.getD cur dN).op=19:=by rw[hx];exact h19
   have ho:=hO cur hcl;have hn:=(hNA cur hcl).2.2.2.2.1 (.inl hop);have hb1:=vX ho hop;have hb0:0<=ai p (cur+1):=ca hI _;unfold ai at hb0 hb1 t8;have wv1:IntKind.i64.wrap (p.getD (cur+1) dN).int=(p.getD (cur+1) dN).int:=ae aa aa;have wv2:IntKind.i64.wrap (bits+(p.getD (cur+1) dN).int)=bits+(p.getD (cur+1) dN).int:=ae aa aa
   repeat'(first|exact y0|refine y1 ?_|refine y2 ?_ ?_|refine y4 λh=>?_|exact wv1|exact wv2|refine y3 ?_|exact y5|fail)
   all_goals try first
    |omega
    |exact wv1
    |exact wv2
   refine LoopR.same (n,cur+1+k.size,E1,us,bits+(p.getD (cur+1) dN).int) ⟨t1.2.2.2,t2.2.2,⟨by simp only;omega,by simp only;omega⟩,by simp only;omega,by simp only;omega,by simp only;omega,t8⟩ (by simp only[Fo.size];omega) rfl ⟨VLe.of_eq (congrArg nI (by rw[hec])),trivial⟩ ⟨rfl,rfl,rfl,SubP.op rfl ⟨rfl,rfl,SubP.op rfl trivial⟩⟩ rfl ?_ ac;unfold mt jv;generalize List.flatMap lj fs=cg;generalize List.map _ us=cu
   cases cg<;>cases cu<;>rfl
  ·rw[if_neg h19] at t8
   have h18:y.op=18:=by rcases GT hac with h|h;exact h;exact absurd h h19
   have hop:(p.getD cur dN).op=18:=by rw[hx];exact h18
   have ho:=hO cur hcl;have hn:=(hNA cur hcl).2.2.2.1 (.inr (.inl hop));have hb1:=vY ho hop;have hb0:0<=ai p (cur+2):=ca hI _;have w0:0<=ai p (b-2):=ca hI _;have w1:0<=ai p (b-1):=ca hI _;have had:=G6 nt num p Eo hp hw E1 cur aa sc (.row 4 5 fs.length) (.slc none 0 (some 0)) rfl rfl;have hao:=nu nt Eo num p hp hw E1 cur aa sc;generalize bt p num E1 cur sc=A at had hao t8;obtain⟨E2,id,q,e⟩:=A;simp only at had hao t8;unfold ai at hb0 hb1 t8 w0 w1 n1 n2;have wv1:IntKind.i64.wrap (p.getD (cur+2) dN).int=(p.getD (cur+2) dN).int:=ae aa aa;have wv2:IntKind.i64.wrap (bits+(p.getD (cur+2) dN).int)=bits+(p.getD (cur+2) dN).int:=ae aa aa;have wv3:IntKind.i64.wrap (p.getD (b-2) dN).int=(p.getD (b-2) dN).int:=ae aa aa;have wv4:IntKind.i64.wrap (p.getD (b-1) dN).int=(p.getD (b-1) dN).int:=ae aa aa;have e97:nI ((b:Int)-2)=nI ((b-2:Nat):Int):=congrArg nI aa;have e107:nI ((b:Int)-1)=nI ((b-1:Nat):Int):=congrArg nI aa;by_cases he:e=0
   ·rcases hao with ⟨_,h⟩|⟨_,rfl,hA⟩
    ·exact absurd he h
    subst he;have hlA:=hA.len;rw[if_neg an] at t8
    have hsz1:(Tryz.prog.types[3]).size=1:=by kernel_rfl
    have hby1:(Tryz.prog.types[3]).bytes=8:=by kernel_rfl
    repeat'(first|exact y0|refine y1 ?_|refine y2 ?_ ?_|refine y4 λh=>?_|refine wX 187 (cf [0,1,2,3,4,5] had ?_)|refine RegX.oLk E1.length rfl rfl rfl aa rfl rfl rfl rfl rfl ?_|refine RegX.chunkN 9 rfl rfl ?_ (RegX.eqv 97 e97 rfl ?_)|refine RegX.chunkN 10 rfl rfl ?_ (RegX.eqv 107 e107 rfl ?_)|refine RegX.oUpd E1.length (Az (E2.getD E1.length eZ) bits (p.getD (cur+2) dN).int (p.getD (b-2) dN).int (p.getD (b-1) dN).int) rfl rfl rfl aa (VLe.refl _) rfl rfl rfl rfl ?_|refine RegX.apr (i:=8) (g:=9) (m:=us.length) (w:=1) (cs:=us.map λz=>S.int .i64 z) (foot:=[12]) (k:=1) (add:=[.int .i64 (E1.length:Int)]) rfl rfl an rfl rfl rfl rfl rfl rfl rfl hsz1 ac rfl ⟨Z02 _,rfl⟩ ac an rfl (by rw[hby1];omega) aa rfl ?_|refine y3 ?_|exact y5|fail)
    all_goals try first
     |omega
     |exact wv1
     |exact wv2
     |exact wv3
     |exact wv4
    have hps:=HD E2 E1.length bits (p.getD (cur+2) dN).int (p.getD (b-2) dN).int (p.getD (b-1) dN).int;have hls:= @Z18 _ E2 E1.length (Az (E2.getD E1.length eZ) bits (p.getD (cur+2) dN).int (p.getD (b-2) dN).int (p.getD (b-1) dN).int);refine LoopR.move (n,cur+1+k.size,E2.set E1.length (Az (E2.getD E1.length eZ) bits (p.getD (cur+2) dN).int (p.getD (b-2) dN).int (p.getD (b-1) dN).int),us++[(E1.length:Int)],bits+(p.getD (cur+2) dN).int) ⟨t1.2.2.2,t2.2.2,⟨by simp only;omega,by simp only;omega⟩,by simp only[Z03,Z0n];omega,by simp only;omega,by simp only;omega,t8⟩ (by simp only[Fo.size];omega) [0,1,2,3,4,5,6,7,13,14] rfl ?_ ?_ ?_
    ·repeat' (first|exact VLe.refl _|exact VLe.any _|exact Z0o|exact VLe.of_eq (congrArg nI (by rw[hec]))|refine⟨?_,?_⟩)
    ·refine⟨?_,rfl,?_,MemP.op rfl ⟨rfl,?_,MemP.op ?_ trivial⟩⟩
     ·simp only[hls];rfl
     ·simp only[hps];rfl
     ·simp only[Z03];rfl
     ·simp only[Z0d];rfl
    ·unfold mt jv
     generalize List.flatMap lj fs=cg;generalize List.map _ (us++[(E1.length:Int)])=cu
     cases cg<;>cases cu<;>rfl
   ·rcases hao with ⟨rfl,_⟩|⟨h,_⟩
    ·rw[if_pos he] at t8
     subst t8
     repeat'(first|exact y0|refine y1 ?_|refine y2 ?_ ?_|refine y4 λh=>?_|refine wX 187 (cf [0,1,2,3,4,5] had ?_)|refine y3 ?_|exact y5|fail)
     exact Fin.f4 (.inl rfl) rfl rfl rfl rfl rfl rfl (if_neg he).symm
    ·exact absurd h he
end
abbrev psB (g:Nat) (D:List Pth):Option Bl:=eI 99 (g+1) 3 (D.flatMap bX)
theorem E4 (ty g w:Nat) (cs:List S) (c:S) (l:List S):eI ty g w (cs++c::l)=some {cells:=cs++c::l,ty:=ty,more:=true,sym:=true,flat:=true,gh:=some (g,w)}:=by cases cs<;>rfl
theorem EU {D:List Pth} {P:Pth} {k j:Nat} {x:S} (hk:k<D.length+1) (hx:(bX ((D++[P]).getD k z0))[j]? =some x):(D.flatMap bX++bX P)[k*3+j]? =some x/\bE x=true:=by
 have:=jc (l:=D++[P]) (by simpa using hk) hx;rw[Z0r] at this
 simpa using this
theorem jK {l:List By} (h:cR l) (k:Nat):cR (l.take k):=λi hi=>by
 rw[Z19] at hi;have:=h i aa;rw[Z00] at this |-;rw[Z2w,if_pos aa];exact this
theorem FV (br:Bool) (bu:Int) (bs:List By) (rr:Bool) (ru:Int) (rs:List By) (h1s:cR bs) (h2s:cR rs):
 FC Tryz.prog 52 [.agg [.bool br,.int .i64 bu,aE bs],.agg [.bool rr,.int .i64 ru,aE rs]] 0 [] (.s (rz (aL ⟨br,bu,bs⟩ ⟨rr,ru,rs⟩))) 0 []:=by
 have ha:=fA br bu bs h1s;have hv:=fA rr ru rs h2s;have hj:=rP br bu bs rr ru rs h1s h2s
 have hsz:(Tryz.prog.types[99]).size=3:=by kernel_rfl
 have hby:(Tryz.prog.types[99]).bytes=40:=by kernel_rfl
 refine wW Tryz.func52 ?_
 cases h1:ay ⟨br,bu,bs⟩<;>rw[h1] at ha
 ·
  repeat'(first|exact y0|refine y1 ?_|refine y2 ?_ ?_|refine y4 λh=>?_|refine wX 100 (bo ha ?_)|refine Fin.le (.inl rfl) rfl ?_ rfl|refine y3 ?_|exact y5|fail)
  simp only[aL,bz,h1,Z4f,true_or,if_true];exact VLe.s SLe.nil
 cases br
 ·
  repeat'(first|exact y0|refine y1 ?_|refine y2 ?_ ?_|refine y4 λh=>?_|refine wX 100 (bo ha ?_)|refine Fin.le (.inl rfl) rfl ?_ rfl|refine y3 ?_|exact y5|fail)
  simp only[aL,bz,Z2c,true_or,if_true];exact VLe.s SLe.nil
 have ha1:bz ⟨true,bu,bs⟩=true:=by unfold bz;rw[h1];rfl
 cases h2:ay ⟨rr,ru,rs⟩<;>rw[h2] at hv
 ·
  repeat'(first|exact y0|refine y1 ?_|refine y2 ?_ ?_|refine y4 λh=>?_|refine wX 100 (bo ha ?_)|refine wX 100 (bo hv ?_)|refine Fin.le (.inl rfl) rfl ?_ rfl|refine y3 ?_|exact y5|fail)
  simp only[aL,h2,or_true,if_true];exact VLe.s SLe.nil
 obtain⟨a1,a2,a3⟩:=cH ha1;obtain⟨v1,v2,v3,v4,v5,v6⟩:=aJ h2;simp only at a1 a2 a3 v1 v2 v3 v4 v5 v6;by_cases hc:rr=true\/0<ru\/rs.length≠1
 ·have hcand:aL ⟨true,bu,bs⟩ ⟨rr,ru,rs⟩=if (aq ⟨true,bu,bs⟩ ⟨rr,ru,rs⟩).2 then [(aq ⟨true,bu,bs⟩ ⟨rr,ru,rs⟩).1] else []:=by
   unfold aL;rw[if_neg (by simp[ha1,h2]),if_pos hc]
  rw[hcand];generalize aq ⟨true,bu,bs⟩ ⟨rr,ru,rs⟩=j at*;obtain⟨p,ok⟩:=j;cases rr
  all_goals
   first|(have hc':0<ru\/rs.length≠1:=by simpa using hc)|skip
   cases ok
   ·
    repeat'(first|exact y0|refine y1 ?_|refine y2 ?_ ?_|refine y4 λh=>?_|refine wX 100 (bo ha ?_)|refine wX 100 (bo hv ?_)|refine wX 101 (pu hj ?_)|refine Fin.le (.inl rfl) rfl ?_ rfl|refine y3 ?_|exact y5|fail)
    all_goals exact VLe.s SLe.nil
   ·
    repeat'(first|exact y0|refine y1 ?_|refine y2 ?_ ?_|refine y4 λh=>?_|refine wX 100 (bo ha ?_)|refine wX 100 (bo hv ?_)|refine wX 101 (pu hj ?_)|refine RegX.app [.app 1 (bX p)] rfl rfl ?_ rfl rfl rfl ?_|refine Ex.fz 4 (λk=>bX ([p].getD k z0)) 3 rfl rfl rfl rfl (λk _=>rfl) (ry p) rfl rfl ?_|refine Fin.le (.inl rfl) rfl ?_ rfl|refine y3 ?_|exact y5|fail)
    all_goals first
     |exact VLe.refl _
     |(rw[hsz];exact Z02 _)
     |(rw[hby];omega)
 ·have hr:rr=false:=by cases rr<;>simp_all
  have hu:ru=0:=by
   have: ¬0<ru:=λh=>hc (.inr (.inl h))
   omega
  have hl:rs.length=1:=Z4c.1 λh=>hc (.inr (.inr h))
  obtain⟨s0,rfl⟩:∃ s0,rs=[s0]:=Z5o.1 hl;subst hr hu a2
  have hcand:aL ⟨true,0,bs⟩ ⟨false,0,[s0]⟩=cJ bs s0 bs.length:=by
   unfold aL;rw[if_neg (by simp[ha1,h2]),if_neg an];rfl
  rw[hcand]
  repeat'(first|exact y0|refine y1 ?_|refine y2 ?_ ?_|refine y4 λh=>?_|refine wX 100 (bo ha ?_)|refine wX 100 (bo hv ?_)|refine y3 ?_|exact y5|fail)
  refine Ex.set 5 (.s (.row 2 3 0)) (VLe.s SLe.nilrow) rfl (Ex.upN (n':=4) aa ?_)
  refine Ex.inv (σ:=Nat×List Pth) (λx=>[(5,.s (.row 2 3 x.2.length))]) (λx=>[(0,some {cells:=[.bool true,.int .i64 0,aE (bs.take x.1)],ty:=99}),(1,some {cells:=[.bool false,.int .i64 0,aE [s0]],ty:=99}),(2,psB 2 (x.2))])
   (λx=>x.1<=bs.length/\x.2++cJ bs s0 x.1=cJ bs s0 bs.length) (λx=>x.1) (bs.length,[]) rfl (λ_=>rfl) ⟨Z02 _,an⟩ aV ⟨?_,rfl,trivial⟩ ?_
  ·simp only[Z1v];rfl
  ·rintro⟨k,D⟩ ⟨i1,i2⟩
   simp only at i1 i2 |-;have hjk:=rP true 0 (bs.take k) false 0 [s0] (jK h1s k) h2s;have hpk:=qb true 0 (bs.take k) (jK h1s k);rw[qf ha1 h2 i1] at hjk;rw[mj ha1 i1] at hpk
   have hlen:D.length<=33:=by
    have e1:=fv bs s0 bs.length;rw[<-i2,Z03] at e1;omega
   cases k with
   |zero=>
    rw[if_neg aa] at hjk;rw[if_pos rfl] at hpk;simp only[cJ] at i2
    repeat'(first|exact y0|refine y1 ?_|refine y2 ?_ ?_|refine y4 λh=>?_|refine wX 101 (pu hjk ?_)|refine y3 ?_|exact y5|fail)
    refine RegX.apr (i:=2) (g:=3) (m:=D.length) (w:=3) (cs:=D.flatMap bX) (foot:=[5]) (k:=1) (add:=bX (Pth.mk true 0 (bs.take 0++[s0]))) rfl rfl (by rw[cn]) rfl rfl rfl rfl rfl rfl rfl hsz ac rfl ⟨Z5a hsz.symm,rfl⟩ ac (by simp[bX]) rfl (by rw[hby];omega) aa rfl ?_
    repeat'(first|exact y0|refine y1 ?_|refine y2 ?_ ?_|refine y4 λh=>?_|refine wX 102 (pu hpk ?_)|refine Ex.fz 4 (λk=>bX ((D++[Pth.mk true 0 (bs.take 0++[s0])]).getD k z0)) 3 rfl (E4 _ _ _ _ _ _) rfl rfl (λk _=>rfl) (λk j x hk hx=>EU hk hx) rfl rfl ?_|refine Fin.le (.inl rfl) rfl ?_ rfl|refine y3 ?_|exact y5|fail)
    rw[<-i2];unfold rz;rw[Z03];exact VLe.refl _
   |succ k=>
    rw[if_neg aa] at hpk;simp only[cJ] at i2;by_cases h32:32<k+2
    ·rw[if_pos h32] at i2
     rw[if_pos aa] at hjk
     repeat'(first|exact y0|refine y1 ?_|refine y2 ?_ ?_|refine y4 λh=>?_|refine wX 101 (pu hjk ?_)|refine wX 102 (pu hpk ?_)|refine y3 ?_|exact y5|fail)
     refine LoopR.move (k,D) ⟨by simp only;omega,i2⟩ (by simp only;omega) [0,1,2,3] rfl ?_ ?_ ?_
     ·repeat' (first|exact VLe.refl _|exact VLe.any _|exact Z0o|refine⟨?_,?_⟩)
     ·exact⟨rfl,rfl,MemP.op rfl trivial⟩
     ·unfold psB;generalize List.flatMap _ _=cg;cases cg<;>rfl
    ·rw[if_neg h32] at i2
     rw[if_neg aa] at hjk
     repeat'(first|exact y0|refine y1 ?_|refine y2 ?_ ?_|refine y4 λh=>?_|refine wX 101 (pu hjk ?_)|refine y3 ?_|exact y5|fail)
     refine RegX.apr (i:=2) (g:=3) (m:=D.length) (w:=3) (cs:=D.flatMap bX) (foot:=[5]) (k:=1) (add:=bX (Pth.mk true 0 (bs.take (k+1)++[s0]))) rfl rfl (by rw[cn]) rfl rfl rfl rfl rfl rfl rfl hsz ac rfl ⟨Z5a hsz.symm,rfl⟩ ac (by simp[bX]) rfl (by rw[hby];omega) aa rfl ?_
     repeat'(first|exact y0|refine y1 ?_|refine y2 ?_ ?_|refine y4 λh=>?_|refine wX 102 (pu hpk ?_)|refine y3 ?_|exact y5|fail)
     refine LoopR.move (k,D++[Pth.mk true 0 (bs.take (k+1)++[s0])]) ⟨by simp only;omega,by simpa using i2⟩ (by simp only;omega) [0,1,6,7] rfl ?_ ?_ ?_
     ·repeat' (first|exact VLe.refl _|exact VLe.any _|exact Z0o|(refine VLe.of_eq (congrArg V.s (?_:S.row 6 7 _=S.row 6 7 _));simp;done)|refine⟨?_,?_⟩)
     ·refine⟨rfl,rfl,MemP.op ?_ trivial⟩
      rw[Z0r];rfl
     ·unfold psB;generalize List.flatMap _ _=cg;cases cg<;>rfl
theorem yE (b r:Pth) (h1:cR b.segs) (h2:cR r.segs):FC Tryz.prog 52 [gw b,gw r] 0 [] (.s (rz (aL b r))) 0 []:=FV b.root b.up b.segs r.root r.up r.segs h1 h2
end Go.Proofs.YtegjgpldfgjoiaaGreatDoor
