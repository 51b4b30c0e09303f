import Derived.Test.YtegjgpldfgjoiaaGreatDoorCnB12
import Derived.Test.YtegjgpldfgjoiaaGreatDoorCnB13
import Derived.Test.YtegjgpldfgjoiaaGreatDoorCnB14
import Derived.Test.YtegjgpldfgjoiaaGreatDoorCnB09
import Derived.Test.YtegjgpldfgjoiaaGreatDoorCnB11
set_option linter.unusedSimpArgs false
set_option linter.unusedVariables false
namespace Go.Proofs.YtegjgpldfgjoiaaGreatDoor
open Go Ab
set_option maxRecDepth 100000
structure Ent where
 path:By
 op:Int
 par:Int
 tab:Int
 node:Int
 sp:Int
 ba:Int
 ln:Int
 bit:Int
 len:Int
 wid:Int
 upd:Int
 idx:Int
 dat:Int
def cf (x:Ent):List S:=[.str x.path,.int .i64 x.op,.int .i64 x.par,.int .i64 x.tab,.int .i64 x.node,.int .i64 x.sp,.int .u64 x.ba,.int .u64 x.ln,.int .i64 x.bit,.int .i64 x.len,.int .i64 x.wid,.int .i64 x.upd,.int .i64 x.idx,.int .i64 x.dat]
def dG (path:By) (op par tab node:Int):Ent:=⟨path,op,par,tab,node,0,0,0,0,0,0,0,0,0⟩
def eZ:Ent:=dG [] 0 0 0 0
structure Tb where
 p:List Nd
 r:List Int
def eF (t:Tb):List S:=[.frz (fun k=>ndC (t.p.getD k dN)) 4 t.p.length,.frz (fun k=>[.int .i64 (t.r.getD k 0)]) 1 t.r.length]
def enI {α:Type} (b:Nat) (s:Int):List α->En Int α
 |[]=>[]
 |x::t=>(b,s,x)::enI (b+1) (s+1) t
def enP (b:Nat):List Ent->En By Int
 |[]=>[]
 |x::t=>(b,x.path,(b:Int))::enP (b+1) t
theorem pk {α:Type}:∀ (E:List α) (b:Nat) (s:Int),(enI b s E).length=E.length
 |[],_,_=>rfl
 |x::t,b,s=>by simp[enI,pk t]
theorem AH {α:Type}:∀ (E:List α) (b:Nat) (s k:Int),k<s->lkM (enI b s E) k=none
 |[],_,_,_,_=>rfl
 |x::t,b,s,k,h=>by
  rw[enI,lkM,if_neg (by show ¬s=k;omega)];exact AH t (b+1) (s+1) k (by omega)
theorem df {α:Type}:∀ (E:List α) (b:Nat) (s k:Int) (j:Nat),k=s+j->lkM (enI b s E) k=E[j]?
 |[],_,_,_,_,_=>rfl
 |x::t,b,s,k,0,h=>by
  rw[enI,lkM,if_pos (by show s=k;omega)];rfl
 |x::t,b,s,k,j+1,h=>by
  rw[enI,lkM,if_neg (by show ¬s=k;omega),df t (b+1) (s+1) k j (by omega)];rfl
theorem tw {α:Type}:∀ (E:List α) (b:Nat) (s k:Int) (j:Nat) (y:α),k=s+j->upM (enI b s E) k y=enI b s (E.set j y)
 |[],_,_,_,_,_,_=>rfl
 |x::t,b,s,k,0,y,h=>by
  have:k=s:=by omega
  subst this;rw[enI,upM,if_pos rfl];rfl
 |x::t,b,s,k,j+1,y,h=>by
  rw[enI,upM,if_neg (by show ¬s=k;omega),tw t (b+1) (s+1) k j y (by omega)];rfl
theorem l5 {α:Type}:∀ (E:List α) (b:Nat) (s:Int) (y:α),enI b s E++[(b+E.length,s+(E.length:Int),y)]=enI b s (E++[y])
 |[],b,s,y=>by simp[enI]
 |x::t,b,s,y=>by
  have ih:=l5 t (b+1) (s+1) y;show (b,s,x)::(enI (b+1) (s+1) t++_)=(b,s,x)::enI (b+1) (s+1) (t++[y]);rw[<-ih];simp only[List.length_cons];rw[show b+(t.length+1)=b+1+t.length by omega,show s+((t.length+1:Nat):Int)=s+1+t.length by omega]
theorem rE:∀ (E:List Ent) (b:Nat) (y:Ent),enP b E++[(b+E.length,y.path,((b+E.length:Nat):Int))]=enP b (E++[y])
 |[],b,y=>by simp[enP]
 |x::t,b,y=>by
  have ih:=rE t (b+1) y;show (b,x.path,(b:Int))::(enP (b+1) t++_)=(b,x.path,(b:Int))::enP (b+1) (t++[y]);rw[<-ih];simp only[List.length_cons];rw[show b+(t.length+1)=b+1+t.length by omega]
theorem pf:∀ (E:List Ent) (b j:Nat) (y:Ent),(∀ x,E[j]? =some x->y.path=x.path)->enP b (E.set j y)=enP b E
 |[],_,_,_,_=>rfl
 |x::t,b,0,y,h=>by
  rw[List.set_cons_zero,enP,enP,h x rfl]
 |x::t,b,j+1,y,h=>by
  rw[List.set_cons_succ,enP,enP,pf t (b+1) j y (fun z hz=>h z (by simpa using hz))]
def ixP (b:Nat):List Ent->By->Option Nat
 |[],_=>none
 |x::t,s=>if x.path=s then some b else ixP (b+1) t s
theorem pj:∀ (E:List Ent) (b:Nat) (s:By),lkM (enP b E) s=(ixP b E s).map fun n=>(n:Int)
 |[],_,_=>rfl
 |x::t,b,s=>by
  rw[enP,lkM,ixP];by_cases h:x.path=s
  ·rw[if_pos h,if_pos h];rfl
  ·rw[if_neg h,if_neg h,pj t]
theorem iS:∀ {E:List Ent} {b:Nat} {s:By} {n:Nat},ixP b E s=some n->b<=n/\n<b+E.length/\(E.getD (n-b) eZ).path=s
 |[],_,_,_,h=>by cases h
 |x::t,b,s,n,h=>by
  rw[ixP] at h;split at h
  ·cases h
   rename_i hx;exact⟨Nat.le_refl _,by simp,by rw[Nat.sub_self];exact hx⟩
  ·obtain⟨h1,h2,h3⟩:=iS h
   refine⟨by omega,by simp only[List.length_cons];omega,?_⟩;rw[show n-b=(n-(b+1))+1 by omega]
   simpa using h3
theorem qP:∀ {E:List Ent} {b:Nat} {s:By},ixP b E s=none->∀ x∈E,x.path≠s
 |[],_,_,_,x,hx=>by cases hx
 |y::t,b,s,h,x,hx=>by
  rw[ixP] at h;split at h
  ·cases h
  ·rcases List.mem_cons.1 hx with rfl|hx
   ·assumption
   ·exact qP h x hx
def iC (z:Int):List S:=[.int .i64 z]
def oB (E:List Ent):Bl:=mB kdI true 14 cf (enI 0 0 E) E.length
def pB (E:List Ent):Bl:=mB kdS false 1 iC (enP 0 E) E.length
def tB (T:List Tb):Bl:=mB kdI true 2 eF (enI 0 1 T) T.length
set_option maxRecDepth 100000
theorem bq (x:Ent):(cf x).length=14:=rfl
theorem bA (x:Tb):(eF x).length=2:=rfl
theorem vd (x:Ent):(cf x).all bD=true:=rfl
theorem ug (x:Tb):(eF x).all bD=true:=rfl
theorem E6 (E:List Ent) (y:Ent):mB kdI true 14 cf (enI 0 0 E++[(E.length,(E.length:Int),y)]) (E.length+1)=oB (E++[y]):=by
 have h:=l5 E 0 0 y;rw[Nat.zero_add,Int.zero_add] at h;rw[h,oB,List.length_append];rfl
theorem EH (T:List Tb) (y:Tb):mB kdI true 2 eF (enI 0 1 T++[(T.length,1+(T.length:Int),y)]) (T.length+1)=tB (T++[y]):=by
 have h:=l5 T 0 1 y;rw[Nat.zero_add] at h;rw[h,tB,List.length_append];rfl
theorem EW (E:List Ent) (y:Ent):mB kdS false 1 iC (enP 0 E++[(E.length,y.path,(E.length:Int))]) (E.length+1)=pB (E++[y]):=by
 have h:=rE E 0 y;rw[Nat.zero_add] at h;rw[h,pB,List.length_append];rfl
theorem E5 (E:List Ent) (j:Nat) (y:Ent):mB kdI true 14 cf (upM (enI 0 0 E) (j:Int) y) E.length=oB (E.set j y):=by
 rw[tw E 0 0 j j y (by omega),oB,List.length_set]
theorem EG (T:List Tb) (j:Nat) (y:Tb):mB kdI true 2 eF (upM (enI 0 1 T) (1+(j:Int)) y) T.length=tB (T.set j y):=by
 rw[tw T 0 1 (1+(j:Int)) j y rfl,tB,List.length_set]
section
variable {P:Program} {b:Nat} {ops:Array Oper} {d:Bool} {acc:List Row} {os:List Oper} {env:List V} {n:Nat} {L:Hp} {R:Post}
variable {dst:Option Tmp} {x ix yv:Operand} {tx kt et:TypeId} {t:TypeId} {pos:String} {af:Array Edge} {gd:Option (Nat×Bool)} {i:Nat}
theorem RegX.oNew {E:List Ent} {z:Int} (y:Ent) (hx:ev env x=.s (.map (some i))) (hix:ev env ix=.s (.int .i64 z)) (hz:z=E.length) (hy:VLe (ev env yv) (.agg (cf y))) (hl:lk L i=some (oB E)) (hty:P.underlying tx=some (.map kt et)) (hd:P.underlying kt=some (.int .i64))
 (hwt:aI ops env ⟨dst,.mapUpdate tx x ix yv,t,pos,af,gd⟩=some true)
 (kk:RegX P ops d (av d ⟨dst,.mapUpdate tx x ix yv,t,pos,af,gd⟩ [i] [(i,some (oB (E++[y])))] acc) os (aB env dst .undef) n (puts L [(i,some (oB (E++[y])))]) R):
 RegX P ops d acc (⟨dst,.mapUpdate tx x ix yv,t,pos,af,gd⟩::os) env n L R:=by
 subst hz;refine RegX.muN (K:=kdI) (agg:=true) (c:=cf) (k:=(E.length:Int)) y hx hix hy hl bq (fun h=>by cases h) (vd y) hty hd ?_ hwt ?_
 ·rw[df E 0 0 _ E.length (by omega),List.getElem?_eq_none (Nat.le_refl _)]
 ·rw[E6];exact kk
theorem RegX.oUpd {E:List Ent} {z:Int} (j:Nat) (y:Ent) (hx:ev env x=.s (.map (some i))) (hix:ev env ix=.s (.int .i64 z)) (hz:z=j) (hj:j<E.length) (hy:VLe (ev env yv) (.agg (cf y))) (hl:lk L i=some (oB E)) (hty:P.underlying tx=some (.map kt et)) (hd:P.underlying kt=some (.int .i64))
 (hwt:aI ops env ⟨dst,.mapUpdate tx x ix yv,t,pos,af,gd⟩=some true)
 (kk:RegX P ops d (av d ⟨dst,.mapUpdate tx x ix yv,t,pos,af,gd⟩ [i] [(i,some (oB (E.set j y)))] acc) os (aB env dst .undef) n (puts L [(i,some (oB (E.set j y)))]) R):
 RegX P ops d acc (⟨dst,.mapUpdate tx x ix yv,t,pos,af,gd⟩::os) env n L R:=by
 subst hz;refine RegX.muO (K:=kdI) (agg:=true) (c:=cf) (k:=(j:Int)) (x0:=E[j]) y hx hix hy hl bq (fun h=>by cases h) (vd y) hty hd ?_ hwt ?_
 ·rw[df E 0 0 _ j (by omega),List.getElem?_eq_getElem hj]
 ·rw[E5];exact kk
theorem vf {α:Type} (E:List α) (s z:Int):lkM (enI 0 s E) z=if z<s then none else E[(z-s).toNat]? :=by
 by_cases h:z<s
 ·rw[if_pos h,AH _ _ _ _ h]
 ·rw[if_neg h,df E 0 s z (z-s).toNat (by omega)]
theorem RegX.oLk {E:List Ent} {z:Int} {r0:Bool} (j:Nat) (hx:ev env x=.s (.map (some i))) (hix:ev env ix=.s (.int .i64 z)) (hz:z=j) (hj:j<E.length) (hl:lk L i=some {oB E with ro:=r0}) (hty:P.underlying tx=some (.map kt et)) (hd:P.underlying kt=some (.int .i64)) (h0:fN P et true=some (cf eZ))
 (hwt:aI ops env ⟨dst,.lookup tx x ix false,t,pos,af,gd⟩=some true)
 (kk:RegX P ops d (av d ⟨dst,.lookup tx x ix false,t,pos,af,gd⟩ [i] [] acc) os (aB env dst (.agg (cf (E.getD j eZ)))) n L R):
 RegX P ops d acc (⟨dst,.lookup tx x ix false,t,pos,af,gd⟩::os) env n L R:=by
 subst hz;refine RegX.lk1 (K:=kdI) (k:=(j:Int)) (some (E.getD j eZ)) hx hix hl bq (fun h=>by cases h) hty hd h0 ?_ hwt kk;rw[df E 0 0 _ j (by omega),List.getElem?_eq_getElem hj,List.getD_eq_getElem?_getD,List.getElem?_eq_getElem hj];rfl
theorem RegX.oLkT {E:List Ent} {z:Int} {r0:Bool} (r:Option Ent) (hx:ev env x=.s (.map (some i))) (hix:ev env ix=.s (.int .i64 z)) (hl:lk L i=some {oB E with ro:=r0}) (hty:P.underlying tx=some (.map kt et)) (hd:P.underlying kt=some (.int .i64)) (h0:fN P et true=some (cf eZ)) (hr:(if z<0 then none else E[z.toNat]?)=r)
 (hwt:aI ops env ⟨dst,.lookup tx x ix true,t,pos,af,gd⟩=some true)
 (kk:RegX P ops d (av d ⟨dst,.lookup tx x ix true,t,pos,af,gd⟩ [i] [] acc) os (aB env dst (.tup [.agg (cf (r.getD eZ)),.s (.bool r.isSome)])) n L R):
 RegX P ops d acc (⟨dst,.lookup tx x ix true,t,pos,af,gd⟩::os) env n L R:=by
 refine RegX.lkT (K:=kdI) (k:=z) r hx hix hl bq (fun h=>by cases h) hty hd h0 (by rw[vf,Int.sub_zero];exact hr) hwt ?_
 cases r<;>exact kk
theorem RegX.pLk {E:List Ent} {s:By} {r0:Bool} (r:Option Nat) (hx:ev env x=.s (.map (some i))) (hix:ev env ix=.s (.str s)) (hl:lk L i=some {pB E with ro:=r0}) (hty:P.underlying tx=some (.map kt et)) (hd:P.underlying kt=some .string) (h0:fN P et false=some (iC 0)) (hr:ixP 0 E s=r)
 (hwt:aI ops env ⟨dst,.lookup tx x ix true,t,pos,af,gd⟩=some true)
 (kk:RegX P ops d (av d ⟨dst,.lookup tx x ix true,t,pos,af,gd⟩ [i] [] acc) os (aB env dst (.tup [.s (.int .i64 ((r.getD 0:Nat):Int)),.s (.bool r.isSome)])) n L R):
 RegX P ops d acc (⟨dst,.lookup tx x ix true,t,pos,af,gd⟩::os) env n L R:=by
 refine RegX.lkT (K:=kdS) (k:=s) (r.map fun n=>(n:Int)) hx hix hl (fun _=>rfl) (fun _=>rfl) hty hd h0 (by rw[pj,hr]) hwt ?_
 cases r<;>exact kk
theorem RegX.pNew {E:List Ent} {z:Int} (y:Ent) (hx:ev env x=.s (.map (some i))) (hix:ev env ix=.s (.str y.path)) (hy:ev env yv=.s (.int .i64 z)) (hz:z=E.length) (hr:ixP 0 E y.path=none) (hl:lk L i=some (pB E)) (hty:P.underlying tx=some (.map kt et)) (hd:P.underlying kt=some .string)
 (hwt:aI ops env ⟨dst,.mapUpdate tx x ix yv,t,pos,af,gd⟩=some true)
 (kk:RegX P ops d (av d ⟨dst,.mapUpdate tx x ix yv,t,pos,af,gd⟩ [i] [(i,some (pB (E++[y])))] acc) os (aB env dst .undef) n (puts L [(i,some (pB (E++[y])))]) R):
 RegX P ops d acc (⟨dst,.mapUpdate tx x ix yv,t,pos,af,gd⟩::os) env n L R:=by
 subst hz;refine RegX.muN (K:=kdS) (agg:=false) (c:=iC) (k:=y.path) (E.length:Int) hx hix (by rw[hy];exact VLe.refl _) hl (fun _=>rfl) (fun _=>rfl) rfl hty hd (by rw[pj,hr];rfl) hwt ?_;rw[EW];exact kk
theorem RegX.tLk {T:List Tb} {z:Int} {r0:Bool} (j:Nat) (hx:ev env x=.s (.map (some i))) (hix:ev env ix=.s (.int .i64 z)) (hz:z=1+(j:Int)) (hj:j<T.length) (hl:lk L i=some {tB T with ro:=r0}) {zs:List S} (hty:P.underlying tx=some (.map kt et)) (hd:P.underlying kt=some (.int .i64)) (h0:fN P et true=some zs)
 (hwt:aI ops env ⟨dst,.lookup tx x ix false,t,pos,af,gd⟩=some true)
 (kk:RegX P ops d (av d ⟨dst,.lookup tx x ix false,t,pos,af,gd⟩ [i] [] acc) os (aB env dst (.agg (eF (T.getD j ⟨[],[]⟩)))) n L R):
 RegX P ops d acc (⟨dst,.lookup tx x ix false,t,pos,af,gd⟩::os) env n L R:=by
 subst hz;refine RegX.lk1 (K:=kdI) (k:=1+(j:Int)) (some (T.getD j ⟨[],[]⟩)) hx hix hl bA (fun h=>by cases h) hty hd h0 ?_ hwt kk;rw[df T 0 1 _ j rfl,List.getElem?_eq_getElem hj,List.getD_eq_getElem?_getD,List.getElem?_eq_getElem hj];rfl
theorem RegX.tNew {T:List Tb} {z:Int} (y:Tb) (hx:ev env x=.s (.map (some i))) (hix:ev env ix=.s (.int .i64 z)) (hz:z=1+(T.length:Int)) (hy:VLe (ev env yv) (.agg (eF y))) (hl:lk L i=some (tB T)) (hty:P.underlying tx=some (.map kt et)) (hd:P.underlying kt=some (.int .i64))
 (hwt:aI ops env ⟨dst,.mapUpdate tx x ix yv,t,pos,af,gd⟩=some true)
 (kk:RegX P ops d (av d ⟨dst,.mapUpdate tx x ix yv,t,pos,af,gd⟩ [i] [(i,some (tB (T++[y])))] acc) os (aB env dst .undef) n (puts L [(i,some (tB (T++[y])))]) R):
 RegX P ops d acc (⟨dst,.mapUpdate tx x ix yv,t,pos,af,gd⟩::os) env n L R:=by
 subst hz;refine RegX.muN (K:=kdI) (agg:=true) (c:=eF) (k:=1+(T.length:Int)) y hx hix hy hl bA (fun h=>by cases h) (ug y) hty hd ?_ hwt ?_
 ·rw[df T 0 1 _ T.length rfl,List.getElem?_eq_none (Nat.le_refl _)]
 ·rw[EH];exact kk
theorem RegX.tUpd {T:List Tb} {z:Int} (j:Nat) (y:Tb) (hx:ev env x=.s (.map (some i))) (hix:ev env ix=.s (.int .i64 z)) (hz:z=1+(j:Int)) (hj:j<T.length) (hy:VLe (ev env yv) (.agg (eF y))) (hl:lk L i=some (tB T)) (hty:P.underlying tx=some (.map kt et)) (hd:P.underlying kt=some (.int .i64))
 (hwt:aI ops env ⟨dst,.mapUpdate tx x ix yv,t,pos,af,gd⟩=some true)
 (kk:RegX P ops d (av d ⟨dst,.mapUpdate tx x ix yv,t,pos,af,gd⟩ [i] [(i,some (tB (T.set j y)))] acc) os (aB env dst .undef) n (puts L [(i,some (tB (T.set j y)))]) R):
 RegX P ops d acc (⟨dst,.mapUpdate tx x ix yv,t,pos,af,gd⟩::os) env n L R:=by
 subst hz;refine RegX.muO (K:=kdI) (agg:=true) (c:=eF) (k:=1+(j:Int)) (x0:=T[j]) y hx hix hy hl bA (fun h=>by cases h) (ug y) hty hd ?_ hwt ?_
 ·rw[df T 0 1 _ j rfl,List.getElem?_eq_getElem hj]
 ·rw[EG];exact kk
theorem RegX.oLen {E:List Ent} {r0:Bool} (hx:ev env x=.s (.map (some i))) (hl:lk L i=some {oB E with ro:=r0}) (hty:P.underlying tx=some (.map kt et))
 (hwt:aI ops env ⟨dst,.call ⟨.builtin .len,#[x],#[tx]⟩,t,pos,af,gd⟩=some true)
 (kk:RegX P ops d (av d ⟨dst,.call ⟨.builtin .len,#[x],#[tx]⟩,t,pos,af,gd⟩ [i] [] acc) os (aB env dst (.s (.int .i64 (E.length:Int)))) n L R):
 RegX P ops d acc (⟨dst,.call ⟨.builtin .len,#[x],#[tx]⟩,t,pos,af,gd⟩::os) env n L R:=by
 refine RegX.lnM (K:=kdI) (agg:=true) (w:=14) (c:=cf) (E:=enI 0 0 E) (ck:=E.length) (r0:=r0) hx hl bq hty hwt ?_;rw[pk];exact kk
theorem RegX.tLen {T:List Tb} {r0:Bool} (hx:ev env x=.s (.map (some i))) (hl:lk L i=some {tB T with ro:=r0}) (hty:P.underlying tx=some (.map kt et))
 (hwt:aI ops env ⟨dst,.call ⟨.builtin .len,#[x],#[tx]⟩,t,pos,af,gd⟩=some true)
 (kk:RegX P ops d (av d ⟨dst,.call ⟨.builtin .len,#[x],#[tx]⟩,t,pos,af,gd⟩ [i] [] acc) os (aB env dst (.s (.int .i64 (T.length:Int)))) n L R):
 RegX P ops d acc (⟨dst,.call ⟨.builtin .len,#[x],#[tx]⟩,t,pos,af,gd⟩::os) env n L R:=by
 refine RegX.lnM (K:=kdI) (agg:=true) (w:=2) (c:=eF) (E:=enI 0 1 T) (ck:=T.length) (r0:=r0) hx hl bA hty hwt ?_;rw[pk];exact kk
end
end Go.Proofs.YtegjgpldfgjoiaaGreatDoor
namespace Go.Proofs.YtegjgpldfgjoiaaGreatDoor
namespace Ab
open Go
theorem OpL.conv {P:Program} {o:Oper} {env env1:List V} {n n':Nat} {M M1 M' M1':Hp} {v v1:V} (he:∀ x∈o.op.operands,VLe (ev env x) (ev env1 x)) (hM:∀ j,lk M1 j=lk M j) (hv:VLe v v1) (hM':SubF M1' M')
 (h:OpL P o env1 n M v n' M'):OpL P o env n M1 v1 n' M1':=by
 intro φ a w Q hx hg hf
 have s1:Sub M M1:=fun i bl hi=>by rw[hM];exact hi
 have s2:Sub M1 M:=fun i bl hi=>by rw[<-hM];exact hi
 refine Oper.wp_mono ?_ (h φ a w Q (fun x hxo=>he x hxo φ _ (hx x hxo)) (hg.sub s1) hf);rintro a' w' ⟨φ',x,e1,e2,g,st,hφ⟩;refine⟨φ',x,e1,hv φ' x e2,g.subF hM',⟨st.os,st.tape,st.output,st.size,fun b hb hn=>st.keep b hb fun hw=>hn (hw.sub s1),fun j bl b hj hb hlt=>?_,st.zle,fun b l hb=>?_⟩,hφ⟩
 ·obtain⟨bl0,q1,q2,_⟩:=hM' j bl hj
  obtain⟨k,bl',c,hk,r1,r2,r3,r4⟩:=st.fresh j bl0 b q1 hb hlt;exact⟨k,bl',c,s1 _ _ hk,r1,r2,fun hr=>q2.trans (r3 hr),r4⟩
 ·rcases st.zfr b l hb with q|q|q
  ·exact .inl q
  ·exact .inr (.inl q)
  ·exact .inr (.inr (q.sub s1))
section
variable {P:Program} {b:Nat} {ops:Array Oper} {d:Bool} {acc:List Row} {os:List Oper} {o:Oper} {env:List V} {n:Nat} {L:Hp} {R:Post}
theorem RegX.apr {dst:Option Tmp} {td tx:Tmp} {t tx' e:TypeId} {t':TypeId} {pos:String} {af:Array Edge} {gd:Option (Nat×Bool)} {dx:TypeDesc} {inf:TypeInfo} {zs:List S} {i g m w:Nat} {cs:List S} {foot:List Nat} {k:Nat} {add:List S} {D:Prop}
 (hd:env.getD td .undef=.s (.row i g m)) (hl:lk L i=opB e g w cs) (hlen:cs.length=m*w) (hne:Nat.beq td tx=false)
 (ht:P.underlying t=some (.slice e)) (htx:P.underlying tx'=some dx) (hdx:jv dx=true) (hi:P.info? e=some inf) (hz:cx P e=some zs) (hsz:inf.size=zs.length) (hw:inf.size=w) (hw0:0<w)
 (hs:dm L w k (wkV (env.getD tx .undef))=some (foot,k,add,D)) (hD:D) (hk:1<=k) (hadd:add≠[]) (hnp:add.all bD=true) (hbig:(m+k)*inf.bytes<=140737488355328) (hmax:m+k<=140737488355328)
 (hwant:aI ops env ⟨dst,.call ⟨.builtin .append,#[.tmp td,.tmp tx],#[t,tx']⟩,t',pos,af,gd⟩=some true)
 (kk:RegX P ops d (av d ⟨dst,.call ⟨.builtin .append,#[.tmp td,.tmp tx],#[t,tx']⟩,t',pos,af,gd⟩ (i::foot) [(i,none),(n,opB e (n+1) w (cs++add))] acc) os (aB env dst (.s (.row n (n+1) (m+k)))) (n+2) (puts L [(i,none),(n,opB e (n+1) w (cs++add))]) R):
 RegX P ops d acc (⟨dst,.call ⟨.builtin .append,#[.tmp td,.tmp tx],#[t,tx']⟩,t',pos,af,gd⟩::os) env n L R:=by
 refine RegX.op (foot:=i::foot) (wr:=[(i,none),(n,opB e (n+1) w (cs++add))]) hwant ?_ (by omega) kk
 have hnetd:td≠tx:=fun h=>by subst h;rw[Nat.beq_refl] at hne;cases hne
 have tdlt:td<env.length:=by
  rcases Nat.lt_or_ge td env.length with h|h
  ·exact h
  ·rw[List.getD_eq_getElem?_getD,List.getElem?_eq_none h] at hd;cases hd
 have e1:∀ v,(env.set td v).getD td .undef=v:=fun v=>by simp[List.getD_eq_getElem?_getD,tdlt]
 have e2:∀ v,(env.set td v).getD tx .undef=env.getD tx .undef:=fun v=>by simp[List.getD_eq_getElem?_getD,List.getElem?_set_ne hnetd]
 have hopr:∀ v,VLe (.s (.row i g m)) v->∀ x∈(⟨dst,.call ⟨.builtin .append,#[.tmp td,.tmp tx],#[t,tx']⟩,t',pos,af,gd⟩:Oper).op.operands,VLe (ev env x) (ev (env.set td v) x):=by
  intro v hv x hx;simp only[Op.operands,Call.operands] at hx
  have hx:x=.tmp td\/x=.tmp tx:=by simpa using hx
  rcases hx with rfl|rfl
  ·show VLe (env.getD td .undef) _
   rw[hd];show VLe _ ((env.set td v).getD td .undef);rw[e1];exact hv
  ·show VLe (env.getD tx .undef) ((env.set td v).getD tx .undef)
   rw[e2];exact VLe.refl _
 subst hw
 cases cs with
 |nil=>
  have hm:m=0:=by
   rcases Nat.mul_eq_zero.1 hlen.symm with h|h
   ·exact h
   ·omega
  subst hm;have hl:lk L i=none:=hl
  have h0:VLe (.s (.row i g 0)) (.s (.slc none 0 (some 0))):=by
   intro φ v hv
   rcases hv with ⟨_,rfl⟩|⟨h,_⟩
   ·exact⟨rfl,rfl,rfl⟩
   ·omega
  have hfit:aR {cells:=[],ty:=e,flat:=false} add=true:=by
   unfold aR
   refine List.all_eq_true.2 fun x hx=>?_
   have:=List.all_eq_true.1 hnp x hx
   cases x<;>first|rfl|cases this
  have core:=eB (P:=P) (env:=env.set td (.s (.slc none 0 (some 0)))) (n:=n) (L:=L) (o:=⟨dst,.call ⟨.builtin .append,#[.tmp td,.tmp tx],#[t,tx']⟩,t',pos,af,gd⟩) (d:=.tmp td) (x:=.tmp tx) (fl:=false) (bi:=none) (len:=0) (bl:={cells:=[],ty:=e,flat:=false}) (C:=True) (m:=k) (m0:=k) (cs:=add) (sy:=true) (r:=0+k)
   rfl rfl rfl rfl rfl ht htx hdx hi hz hsz (by show eh P L e inf.size false ((env.set td _).getD td .undef)=_;rw[e1];simp only[eh,hz,Bool.false_and]) (by show dm L inf.size k (wkV ((env.set td _).getD tx .undef))=_;rw[e2];exact hs) trivial hD rfl rfl (by simp) hfit (fun _=>hk) hbig hmax
  refine OpL.conv (hopr _ h0) (fun j=>?_) ?_ ?_ core
  ·rw[aE,aE]
   by_cases hj:j=i
   ·subst hj;simp[hl]
   ·by_cases hf:j∈foot<;>simp[hj,hf]
  ·exact VLe.s (SLe.slarow (by omega))
  ·intro j bl' hj
   rw[fq]
   cases hadd':([]++add:List S) with
   |nil=>exact absurd (by simpa using hadd') hadd
   |cons c tl=>
    rw[hadd'] at hj;have hj:lk (puts (res (i::foot) L) (dM (some i)++[(n,some {cells:=c::tl,ty:=e,more:=true,sym:=true,flat:=true,gh:=some (n+1,inf.size)})])) j=some bl':=hj;rw[fq] at hj;split at hj
    ·cases hj
     refine⟨_,if_pos ‹_›,rfl,fun φ w b hb=>?_⟩
     have e3:add=c::tl:=by simpa using hadd'
     rw[e3] at hb hnp;exact BlAt.flat (bl:={cells:=c::tl,ty:=e,more:=true,sym:=true,gh:=some (n+1,inf.size)}) hnp hb
    ·split at hj
     ·cases hj
     ·rename_i hnj hij
      have hij: ¬i=j:=fun h=>hij (by rw[h])
      refine⟨bl',?_,rfl,fun _ _ _ h=>h⟩;rw[if_neg hnj,if_neg (by simp)];rw[aE] at hj |-;by_cases hf:j∈foot
      ·simpa [hf] using hj
      ·simp[hf,Ne.symm hij] at hj
 |cons c tl=>
  have hm:0<m:=by
   rcases Nat.eq_zero_or_pos m with h|h
   ·subst h;simp at hlen
   ·exact h
  have hl:lk L i=some {cells:=c::tl,ty:=e,more:=true,sym:=true,flat:=true,gh:=some (g,inf.size)}:=hl
  have core:=eB (P:=P) (env:=env.set td (.s (.sla i g m))) (n:=n) (L:=L) (o:=⟨dst,.call ⟨.builtin .append,#[.tmp td,.tmp tx],#[t,tx']⟩,t',pos,af,gd⟩) (d:=.tmp td) (x:=.tmp tx) (fl:=false) (bi:=some i) (len:=m) (bl:={cells:=c::tl,ty:=e,more:=true,sym:=true,flat:=true,gh:=some (g,inf.size)}) (C:=m*inf.size<=(c::tl).length) (m:=k) (m0:=k) (cs:=(c::tl)++add) (sy:=true) (r:=m+k)
   rfl rfl rfl rfl rfl ht htx hdx hi hz hsz (by show eh P L e inf.size false ((env.set td _).getD td .undef)=_;rw[e1];simp[eh,hl]) (by show dm L inf.size k (wkV ((env.set td _).getD tx .undef))=_;rw[e2];exact hs) (by rw[hlen];exact Nat.le_refl _) hD rfl rfl (by rw[<-hlen,List.take_length]) (by unfold aR;simp only;exact hnp) (fun h=>by cases h) hbig hmax
  refine OpL.conv (hopr _ (VLe.s (SLe.rowsla hm))) (fun j=>rfl) (VLe.s (SLe.slarow (by omega))) (SubF.refl _) core
end
section
variable {P:Program} {b:Nat} {c y:Code} {env:List V} {n:Nat} {L:Hp} {R:Post}
theorem Ex.toC {env':List V} {n':Nat} {L':Hp} (hb:b<=n') (h:To b n' env L env' L') (k:Ex P b c env' n' L' R):Ex P b c env n L R:=by
 intro φ a w h1 h2 h3 h4;obtain⟨φ1,g1,g2,g3,g4,g5⟩:=h φ φ L w w a h1 h2 (Stp.refl _ _ _);refine wp_mono (k φ1 a w g1 g2 g3 hb) ?_;rintro x a' w' ⟨φ',e,m,M,hR,k1,k2,k3,k4,k5,k6⟩;exact⟨φ',e,m,M,hR,k1,k2,k3,k4,g4.trans k5,fun i hi=>(k6 i hi).trans (g5 i hi)⟩
def mkE (X:List (Nat×V)):Nat->Nat->List V
 |_,0=>[]
 |i,k+1=>(match fw X i with|some v=>v|none=> .any)::mkE X (i+1) k
def sJ (r:Nat->Nat) (X:List (Nat×V)):List (Nat×V):=X.map fun p=>(p.1,bv r p.2)
theorem rh {r:Nat->Nat}:∀ {X:List (Nat×V)} {i:Nat},fw (sJ r X) i=(fw X i).map (bv r)
 |[],_=>rfl
 |(j,v)::t,i=>by
  show fw ((j,bv r v)::sJ r t) i=_;simp only[fw];split
  ·rfl
  ·exact rh (X:=t)
theorem uA {r:Nat->Nat} {X:List (Nat×V)}:∀ (k i:Nat),(mkE X i k).map (bv r)=mkE (sJ r X) i k
 |0,_=>rfl
 |k+1,i=>by
  simp only[mkE,List.map_cons,uA k,rh];congr 1
  cases fw X i<;>rfl
theorem yM {X:List (Nat×V)}:∀ {e:List V} {i:Nat},(∀ j v,fw X (i+j)=some v->VLe (e.getD j .undef) v)->All2 VLe e (mkE X i e.length)
 |[],_,_=>trivial
 |v::e,i,h=>by
  simp only[List.length_cons,mkE];refine⟨?_,yM fun j u hj=>?_⟩
  ·have h0:=h 0
   simp only[Nat.add_zero,List.getD_cons_zero] at h0;split
   ·rename_i u hu;exact h0 u hu
   ·exact VLe.any _
  ·have:=h (j+1) u (by rw[<-hj];congr 1;omega)
   simpa using this
def CutOK (b N n':Nat) (X:List (Nat×V)) (H:Hp) (e:List V) (M:Hp):Prop:=
 ∃ tbl:List Nat,tbl.length=n'/\e.length=N/\XLe e (sJ (rn tbl 0) X)/\MemP (rn tbl 0) M H/\oz b tbl (mkE X 0 N) H=true
theorem CutOK.to {b N n':Nat} {X:List (Nat×V)} {H:Hp} {e:List V} {M:Hp} (h:CutOK b N n' X H e M):To b n' e M (mkE X 0 N) H/\b<=n':=by
 obtain⟨tbl,rfl,rfl,h1,h2,h3⟩:=h;refine⟨To.move tbl ?_ h2 h3,?_⟩
 ·rw[uA]
  exact yM fun j v hj=>h1.at (by simpa using hj)
 ·simp only[oz,Bool.and_eq_true] at h3
  exact Nat.le_of_ble_eq_true h3.2
def CutR (b N n':Nat) (X:List (Nat×V)) (H:Hp):Post:=fun x e m M=>x=.normal/\CutOK b N n' X H e M
theorem Ex.cut (N n':Nat) (X:List (Nat×V)) (H:Hp) {E:List V} (hE:eY (mkE X 0 N) [] some=some E) (h:Ex P b c env n L (CutR b N n' X H)) (k:Ex P b y E n' H R):Ex P b c env n L (Then P b y R):=by
 rw[gO] at hE;have hE:mkE X 0 N=E:=Option.some.inj hE;refine h.mono ?_;rintro x e m M ⟨rfl,hc⟩;obtain⟨h1,h2⟩:=hc.to;exact Ex.toC h2 h1 (hE▸k)
theorem Ex.cutB (id N n':Nat) (X:List (Nat×V)) (H:Hp) {E:List V} (hE:eY (mkE X 0 N) [] some=some E) (h:Ex P b (.block id c) env n L (CutR b N n' X H)) (k:Ex P b y E n' H R):Ex P b (.block id c) env n L (Then P b y R):=Ex.cut N n' X H hE h k
theorem Ex.cutS (id N n':Nat) (X:List (Nat×V)) (H:Hp) {E:List V} {ops:Array Oper} {d:Bool} (hE:eY (mkE X 0 N) [] some=some E) (h:Ex P b (.seq (.region id ops d) c) env n L (CutR b N n' X H)) (k:Ex P b y E n' H R):Ex P b (.seq (.region id ops d) c) env n L (Then P b y R):=Ex.cut N n' X H hE h k
theorem Ex.cutC (t:Tmp) (N n':Nat) (X:List (Nat×V)) (H:Hp) {E:List V} {x z:Code} (hE:eY (mkE X 0 N) [] some=some E) (h:Ex P b (.cond (.tmp t) x z) env n L (CutR b N n' X H)) (k:Ex P b y E n' H R):Ex P b (.cond (.tmp t) x z) env n L (Then P b y R):=Ex.cut N n' X H hE h k
theorem Ex.cutBI (id N n':Nat) (X:List (Nat×V)) (H:Hp) {j:Nat} {E:List V} (hE:eY (mkE X 0 N) [] some=some E) (h:Ex P b (.block id c) env n L (CutR b N n' X H)) (k:Ex P b y E n' H R):Ex P b (.block id c) env n L (InBlock j (Then P b y R)):=by
 rw[gO] at hE;have hE:mkE X 0 N=E:=Option.some.inj hE;refine h.mono ?_;rintro x e m M ⟨rfl,hc⟩;obtain⟨h1,h2⟩:=hc.to;exact Ex.toC h2 h1 (hE▸k)
theorem CutR.at {N n':Nat} {X:List (Nat×V)} {H:Hp} {e:List V} {m:Nat} {M:Hp} (tbl:List Nat) (h0:tbl.length=n') (h1:e.length=N) (h2:XLe e (sJ (rn tbl 0) X)) (h3:MemP (rn tbl 0) M H) (h4:oz b tbl (mkE X 0 N) H=true):CutR b N n' X H .normal e m M:=
 ⟨rfl,tbl,h0,h1,h2,h3,h4⟩
theorem Ex.canon (tbl:List Nat) (N:Nat) (X:List (Nat×V)) (H:Hp) {E:List V} (hE:eY (mkE X 0 N) [] some=some E) (h1:env.length=N) (h2:XLe env (sJ (rn tbl 0) X)) (h3:MemP (rn tbl 0) L H) (h4:oz b tbl (mkE X 0 N) H=true)
 (k:Ex P b c E tbl.length H R):Ex P b c env n L R:=by
 rw[gO] at hE;have hE:mkE X 0 N=E:=Option.some.inj hE;obtain⟨g1,g2⟩:=CutOK.to (n':=tbl.length) ⟨tbl,rfl,h1,h2,h3,h4⟩;exact Ex.toC g2 g1 (hE▸k)
theorem Ex.canonB (id:Nat) (tbl:List Nat) (N:Nat) (X:List (Nat×V)) (H:Hp) {E:List V} (hE:eY (mkE X 0 N) [] some=some E) (h1:env.length=N) (k:Ex P b c E tbl.length H (InBlock id R)) (h2:XLe env (sJ (rn tbl 0) X)) (h3:MemP (rn tbl 0) L H) (h4:oz b tbl (mkE X 0 N) H=true):
 Ex P b (.block id c) env n L R:=Ex.canon tbl N X H hE h1 h2 h3 h4 (Ex.block k)
theorem RegX.sto {ops:Array Oper} {d:Bool} {acc:List Row} {os:List Oper} (ans:List Ans) {ty:TypeId} {x z:Operand} {t:TypeId} {pos:String} {af:Array Edge} {gd:Option (Nat×Bool)} {foot:List Nat} {v:V} {wr:Hp} {n':Nat} {as_:List Ans} {C:Prop}
 (hw:aI ops env ⟨none,.store ty x z,t,pos,af,gd⟩=some true) (h:aop P ⟨none,.store ty x z,t,pos,af,gd⟩ env n L ans=some ⟨⟨foot,v,wr,n'⟩,as_,C⟩) (hC:C)
 {L':Hp} (hL:frc (puts L wr) [] some=some L')
 (k:RegX P ops d (av d ⟨none,.store ty x z,t,pos,af,gd⟩ foot wr acc) os env n' L' R):RegX P ops d acc (⟨none,.store ty x z,t,pos,af,gd⟩::os) env n L R:=by
 rw[aQ] at hL;cases hL;exact RegX.opA ans hw h hC k
theorem RegX.ldS {ops:Array Oper} {d:Bool} {acc:List Row} {os:List Oper} (ans:List Ans) {dst:Option Tmp} {ty:TypeId} {x:Operand} {t:TypeId} {pos:String} {af:Array Edge} {gd:Option (Nat×Bool)} {foot:List Nat} {v:V} {as_:List Ans} {C:Prop}
 (hw:aI ops env ⟨dst,.load ty x,t,pos,af,gd⟩=some true) (h:aop P ⟨dst,.load ty x,t,pos,af,gd⟩ env n L ans=some ⟨⟨foot,v,[],n⟩,as_,C⟩) (hC:C)
 {env':List V} (he:eY (aB env dst v) [] some=some env')
 (k:RegX P ops d (av d ⟨dst,.load ty x,t,pos,af,gd⟩ foot [] acc) os env' n L R):RegX P ops d acc (⟨dst,.load ty x,t,pos,af,gd⟩::os) env n L R:=by
 rw[gO] at he;cases he;exact RegX.opA ans hw h hC k
end
theorem kD {φ:Ph} {L:Hp} {w:World} (h2:Good φ L w) (get:Nat->List S) (sz:Nat) {i N:Nat} {bl:Bl} (hl:lk L i=some bl) (hro:bl.ro=false) (hk:bl.kind=none)
 (hg:∀ k,k<N->(get k).length=sz) (hc:∀ k j x,k<N->(get k)[j]? =some x->bl.cells[k*sz+j]? =some x/\aY x=true):
 ∃ φ':Ph,φ'.f=φ.f/\φ.le φ'/\(∀ b l,φ'.z b=some l->φ.z b=some l\/Wr φ L b)/\Good φ' (put L i none) w/\(∀ v x,ct v=some (i,N)->Vr φ v x->Vr φ' (.s (.frz get sz N)) x):=by
 obtain⟨b0,hb0,pre,xs,rest,fr,p1,hp,p2,p3,p4,p5⟩:=h2.hr i bl hl;rw[hk] at p1;simp only[bC] at p1
 let φ':Ph:=⟨φ.f,fun x=>if x=b0.1 then some (pre++(xs++rest)) else φ.z x⟩
 have hz0:φ.z b0.1=none:=by
  cases e:φ.z b0.1 with
  |none=>rfl
  |some l=>exact absurd ⟨i,bl,b0,hl,hb0,rfl,hro⟩ (h2.fz b0.1 l e).2
 have zle:∀ x l,φ.z x=some l->φ'.z x=some l:=by
  intro x l hx;simp only[φ'];split
  ·rename_i e;subst e;rw[hz0] at hx;cases hx
  ·exact hx
 have hle:φ.le φ':=⟨fun _ _ h=>h,zle⟩
 have hlt:b0.1<w.heap.size:=by
  rcases Nat.lt_or_ge b0.1 w.heap.size with h|h
  ·exact h
  ·simp[Array.getElem?_eq_none h] at p1
 have sub:Sub (put L i none) L:=by
  intro j bj hj;rw[ax] at hj;split at hj
  ·cases hj
  ·exact hj
 have good':Good φ' (put L i none) w:=by
  refine⟨fun j bj hj=>?_,fun j j' bj bj' c c' hj hj' hc hc' hcc=>h2.inj j j' bj bj' c c' (sub j bj hj) (sub j' bj' hj') hc hc' hcc,fun x l hx=>?_,h2.gz.mono zle⟩
  ·obtain⟨c,hc,hat⟩:=h2.hr j bj (sub j bj hj)
   exact⟨c,hc,hat.mono hle rfl⟩
  ·by_cases e:x=b0.1
   ·subst e
    simp only[φ',if_true,Option.some.injEq] at hx;subst hx;refine⟨⟨bl.ty,fr,p1⟩,?_⟩;rintro⟨j,bj,c,hj,hc,hcb,hroj⟩;have hj':=sub j bj hj
    rcases h2.inj j i bj bl c b0 hj' hl hc hb0 hcb with rfl|⟨e,_⟩
    ·rw[ax,if_pos rfl] at hj;cases hj
    ·rw[e] at hroj;cases hroj
   ·simp only[φ',if_neg e] at hx
    exact⟨(h2.fz x l hx).1,fun hw=>(h2.fz x l hx).2 (Wr.sub sub (by obtain⟨j,bj,c,hj⟩:=hw;exact⟨j,bj,c,hj⟩))⟩
 have hfz:∀ m kk,m<=N->m<=kk->Sr φ' (.frz get sz m) (.slice (some ⟨b0.1,b0.2,none⟩) m kk):=by
  intro m kk hm hmk;refine .frz get sz m b0.1 b0.2 kk (pre++(xs++rest)) (by simp[φ']) hmk (fun k j=>xs.getD (k*sz+j) Go.undef) (fun k hk=>hg k (by omega)) (fun k j x hk hx=>?_) (fun k j x hk hx=>?_)
  ·obtain⟨e,_⟩:=hc k j x (by omega) hx
   obtain⟨v,hv,_⟩:=p2.get e
   have hlx:k*sz+j<xs.length:=by
    rcases Nat.lt_or_ge (k*sz+j) xs.length with h|h
    ·exact h
    ·simp[List.getElem?_eq_none h] at hv
   rw[Nat.add_comm b0.2,fk pre _ hp,List.getElem?_append_left hlx,List.getD_eq_getElem?_getD,hv];rfl
  ·obtain⟨e,hpx⟩:=hc k j x (by omega) hx
   obtain⟨v,hv,hs⟩:=p2.get e;rw[List.getD_eq_getElem?_getD,hv,Option.getD_some];exact ((hs.mono (bl.ph_le_self φ)).mono hle).pr hpx
 refine⟨φ',rfl,hle,fun x l hx=>?_,good',fun v x ht hv=>?_⟩
 ·by_cases e:x=b0.1
  ·subst e;exact .inr ⟨i,bl,b0,hl,hb0,rfl,hro⟩
  ·simp only[φ',if_neg e] at hx;exact .inl hx
 ·unfold ct at ht
  split at ht
  ·cases ht
   obtain⟨b1,kk,hb1,_,e,hmk⟩:=hv;rw[hb0] at hb1;cases hb1;rw[e];exact hfz _ kk (Nat.le_refl _) hmk
  ·cases ht
   obtain⟨b1,kk,hb1,e,hmk,_⟩:=hv;rw[hb0] at hb1;cases hb1;rw[e,Nat.zero_add];exact hfz _ kk (Nat.le_refl _) hmk
  ·cases ht
   rcases hv with ⟨rfl,e⟩|⟨_,b1,kk,hb1,_,e,hmk⟩
   ·rw[e];exact .nil _ _ _ _ (fun _=>rfl)
   ·rw[hb0] at hb1;cases hb1
    rw[e];exact hfz _ kk (Nat.le_refl _) hmk
  ·cases ht
theorem OpL.preFz {P:Program} {o:Oper} {env:List V} {n n':Nat} {M M':Hp} {v:V} (t:Nat) (get:Nat->List S) (sz:Nat) {i N:Nat} {bl:Bl} (ht:ct (env.getD t .undef)=some (i,N)) (hl:lk M i=some bl) (hro:bl.ro=false) (hk:bl.kind=none)
 (hg:∀ k,k<N->(get k).length=sz) (hc:∀ k j x,k<N->(get k)[j]? =some x->bl.cells[k*sz+j]? =some x/\aY x=true)
 (h:OpL P o (env.set t (.s (.frz get sz N))) n (put M i none) v n' M'):OpL P o env n M v n' M':=by
 intro φ a w Q hx hM hf;obtain⟨φ',e1,hle,hz,hg',hs⟩:=kD hM get sz (i:=i) (N:=N) hl hro hk hg hc
 have sub:Sub (put M i none) M:=by
  intro j bj hj;rw[ax] at hj;split at hj
  ·cases hj
  ·exact hj
 have wsub:∀ b,Wr φ' (put M i none) b->Wr φ M b:=fun b hw=>by
  obtain⟨j,bj,c,hj,hc,h⟩:=hw;exact⟨j,bj,c,sub _ _ hj,by rw[e1] at hc;exact hc,h⟩
 have tlt:t<env.length:=by
  rcases Nat.lt_or_ge t env.length with h|h
  ·exact h
  ·rw[List.getD_eq_getElem?_getD,List.getElem?_eq_none h] at ht;cases ht
 have hx':∀ x∈o.op.operands,Vr φ' (ev (env.set t (.s (.frz get sz N))) x) (a.eval x):=by
  intro x hxo;have h0:=hx x hxo;by_cases e:x=.tmp t
  ·subst e
   have e2:ev (env.set t (.s (.frz get sz N))) (.tmp t)=.s (.frz get sz N):=by
    show (env.set t _).getD t .undef=_;simp[List.getD_eq_getElem?_getD,tlt]
   rw[e2];exact hs _ _ ht h0
  ·have e2:ev (env.set t (.s (.frz get sz N))) x=ev env x:=by
    cases x with
    |tmp s=>
     have hne: ¬t=s:=fun h=>e (by rw[h])
     show (env.set t _).getD s .undef=env.getD s .undef;simp[List.getD_eq_getElem?_getD,List.getElem?_set_ne hne]
    |_=>rfl
   rw[e2];exact Vr.mono hle h0
 refine Oper.wp_mono ?_ (h φ' a w Q hx' hg' (fun j h1 h2=>by rw[e1];exact hf j h1 h2));rintro a' w' ⟨φ2,x,q1,q2,q3,q4,q5⟩;refine⟨φ2,x,q1,q2,q3,⟨q4.os,q4.tape,q4.output,q4.size,fun b hb hn=>q4.keep b hb fun hw=>hn (wsub b hw),fun j bl1 b hj hb hlt=>?_,fun b l hb=>q4.zle b l (hle.z b l hb),fun b l hb=>?_⟩,fun j hj=>(q5 j hj).trans (by rw[e1])⟩
 ·obtain⟨k,bl',c,hk',hc',r⟩:=q4.fresh j bl1 b hj hb hlt
  exact⟨k,bl',c,sub _ _ hk',by rw[e1] at hc';exact hc',r⟩
 ·rcases q4.zfr b l hb with q|q|q
  ·rcases hz b l q with q|q
   ·exact .inl q
   ·exact .inr (.inr q)
  ·exact .inr (.inl q)
  ·exact .inr (.inr (wsub b q))
section
variable {P:Program} {ops:Array Oper} {d:Bool} {acc:List Row} {os:List Oper} {o:Oper} {env:List V} {n:Nat} {L:Hp} {R:Post} {f:FuncId} {xs:Array Operand}
theorem CallG.pz (t:Nat) (get:Nat->List S) (sz:Nat) {args:List V} {v:V} (sc:FC P f args 0 [] v 0 []) {i N:Nat} {bl:Bl} (ht:ct (env.getD t .undef)=some (i,N)) (hl:lk L i=some bl) (hro:bl.ro=false) (hk:bl.kind=none)
 (hg:∀ k,k<N->(get k).length=sz) (hc:∀ k j x,k<N->(get k)[j]? =some x->bl.cells[k*sz+j]? =some x/\aY x=true)
 {args1:List V} (ha:xs.toList.map (ev (env.set t (.s (.frz get sz N))))=args1) (hle:All2 VLe args1 args) (h1:args.all (okV 0)=true) (h2:okV 0 v=true)
 (hw:aI ops env o=some true) (k:RegX P ops d (av d o [i] [(i,none)] acc) os (aB env o.dst v) n (puts L [(i,none)]) R):CallG P ops d acc o f xs os env n L R:=by
 refine⟨fun⟨ts,ho⟩=>?_⟩;obtain⟨hf,sc⟩:=sc;unfold kq at hf;split at hf
 ·rename_i fn hfn
  simp only[Bool.and_eq_true,Bool.not_eq_true'] at hf;have h:=SC.opW (tbl:=[]) (n:=n) (env:=env.set t (.s (.frz get sz N))) (M:=[]) (M':=[]) sc h1 rfl ho rfl hfn hf.1 hf.2 (by rw[ha,qd h1];exact hle) rp (fun x bl h=>by simp[lk] at h);rw[kz h2] at h
  have e1:lk (res [i] L) i=some bl:=by rw[aE];simp[hl]
  refine RegX.op (foot:=[i]) (wr:=[(i,none)]) hw ?_ (Nat.le_refl _) k;refine OpL.preFz t get sz ht e1 hro hk hg hc ?_;refine OpL.conv (M:=[]) (M':=[]) (fun x hx=>VLe.refl _) (fun j=>?_) (VLe.refl _) (fun j bl hj=>?_) h
  ·show lk (put (res [i] L) i none) j=lk [] j
   rw[ax,aE];simp only[List.mem_singleton];by_cases e:i=j
   ·rw[if_pos e];rfl
   ·rw[if_neg e,if_neg (fun h=>e h.symm)];rfl
  ·have hj:lk (put (res [i] L) i none) j=some bl:=hj
   rw[ax,aE] at hj;simp only[List.mem_singleton] at hj;by_cases e:i=j
   ·rw[if_pos e] at hj;cases hj
   ·rw[if_neg e,if_neg (fun h=>e h.symm)] at hj;cases hj
 ·cases hf
end
section
variable {P:Program} {ops:Array Oper} {d:Bool} {acc:List Row} {os:List Oper} {o:Oper} {env:List V} {n:Nat} {L:Hp} {R:Post} {f:FuncId} {xs:Array Operand}
theorem CallG.pl {α:Type} (g:α->S) (dflt:α) (K:List α) (hp:∀ r∈K,aY (g r)=true) {args:List V} {v:V} (sc:FC P f args 0 [] v 0 []) {t:Tmp} (hx:xs.toList.getLast? =some (.tmp t)) {i N:Nat} {bl:Bl} (ht:ct (env.getD t .undef)=some (i,N)) (hl:lk L i=some bl) (hro:bl.ro=false) (hk:bl.kind=none)
 (hN:N=K.length) (hc:bl.cells=K.map g)
 {args1:List V} (ha:xs.toList.map (ev (env.set t (.s (.frz (fun k=>[g (K.getD k dflt)]) 1 K.length))))=args1) (hle:All2 VLe args1 args) (h1:args.all (okV 0)=true) (h2:okV 0 v=true)
 (hw:aI ops env o=some true) (k:RegX P ops d (av d o [i] [(i,none)] acc) os (aB env o.dst v) n (puts L [(i,none)]) R):CallG P ops d acc o f xs os env n L R:=by
 subst hN;refine CallG.pz t (fun k=>[g (K.getD k dflt)]) 1 sc ht hl hro hk (fun _ _=>rfl) (fun kk jj x hkk hjx=>?_) ha hle h1 h2 hw k
 cases jj with
 |succ j=>simp at hjx
 |zero=>
  simp only[List.getElem?_cons_zero,Option.some.injEq] at hjx;subst hjx;rw[hc,Nat.mul_one,Nat.add_zero,List.getElem?_map,List.getElem?_eq_getElem hkk,List.getD_eq_getElem?_getD,List.getElem?_eq_getElem hkk];exact⟨rfl,hp _ (List.getElem_mem hkk)⟩
end
section
variable {P:Program} {ops:Array Oper} {d:Bool} {acc:List Row} {os:List Oper} {o:Oper} {env:List V} {n:Nat} {L:Hp} {R:Post} {f:FuncId} {xs:Array Operand}
theorem CallG.mz {α:Type} (q:Nat) (g:α->S) (dflt:α) (K:List α) (hp:∀ r∈K,aY (g r)=true) (tbl:List Nat) {args0:List V} {L0:Hp} {v0:V} {n0':Nat} {L0':Hp} (sc:FC P f args0 tbl.length L0 v0 n0' L0')
 {t:Tmp} (hx:xs.toList[q]? =some (.tmp t)) {i N:Nat} {bl:Bl} (ht:ct (env.getD t .undef)=some (i,N)) (hl:lk L i=some bl) (hro:bl.ro=false) (hk:bl.kind=none) (hN:N=K.length) (hc:bl.cells=K.map g)
 (hchk:(args0.all (okV tbl.length)&&okH tbl.length L0&&eC L0 L0'&&bY (az L0')&&Nat.ble tbl.length n0'&&vV tbl n n0'&&xc tbl L0)=true) {args1:List V} (ha:xs.toList.map (ev (env.set t (.s (.frz (fun k=>[g (K.getD k dflt)]) 1 K.length))))=args1) (hle:All2 VLe args1 (args0.map (bv (rn tbl n)))) (ft:FitP tbl n (put (res (i::tbl) L) i none) L0)
 (hw:aI ops env o=some true) {v:V} (hv:iX (bv (rn tbl n) v0) some=some v) {wr:Hp} (hwr:frc (bH tbl n L0 L0') [] some=some wr)
 (k:RegX P ops d (av d o (i::tbl) ((i,none)::wr) acc) os (aB env o.dst v) (n+(n0'-tbl.length)) (puts L ((i,none)::wr)) R):CallG P ops d acc o f xs os env n L R:=by
 subst hN;refine⟨fun⟨ts,ho⟩=>?_⟩;obtain⟨hf,sc⟩:=sc;rw[dd] at hv;cases hv;rw[aQ] at hwr;cases hwr;simp only[Bool.and_eq_true] at hchk;obtain⟨⟨⟨⟨⟨⟨k1,k2⟩,k3⟩,k4⟩,k5⟩,k6⟩,k7⟩:=hchk;unfold kq at hf;split at hf
 ·rename_i fn hfn
  simp only[Bool.and_eq_true,Bool.not_eq_true'] at hf;have h:=SC.opW (n:=n) (env:=env.set t (.s (.frz (fun k=>[g (K.getD k dflt)]) 1 K.length))) (M:=put (res (i::tbl) L) i none) sc k1 k2 ho rfl hfn hf.1 hf.2 (ha▸hle) (Fits.of k6 k7 ft) (dT k3 k4)
  have e1:lk (res (i::tbl) L) i=some bl:=by rw[aE];simp[hl]
  refine RegX.op (foot:=i::tbl) (wr:=(i,none)::bH tbl n L0 L0') hw ?_ (Nat.le_add_right _ _) k;refine OpL.preFz t (fun k=>[g (K.getD k dflt)]) 1 ht e1 hro hk (fun _ _=>rfl) (fun kk jj x hkk hjx=>?_) h
  cases jj with
  |succ j=>simp at hjx
  |zero=>
   simp only[List.getElem?_cons_zero,Option.some.injEq] at hjx;subst hjx;rw[hc,Nat.mul_one,Nat.add_zero,List.getElem?_map,List.getElem?_eq_getElem hkk,List.getD_eq_getElem?_getD,List.getElem?_eq_getElem hkk];exact⟨rfl,hp _ (List.getElem_mem hkk)⟩
 ·cases hf
end
theorem gD {α β:Type} {r:α->β->Prop}:∀ {l:List α} {xs:List β} {o:Nat} {v:α},All2 r l xs->(∀ x,xs[o]? =some x->r v x)->All2 r (l.set o v) xs
 |[],[],_,_,_,_=>trivial
 |[],_::_,_,_,h,_=>h.elim
 |_::_,[],_,_,h,_=>h.elim
 |a::l,x::xs,0,v,h,hv=>⟨hv x rfl,h.2⟩
 |a::l,x::xs,o+1,v,h,hv=>⟨h.1,gD h.2 fun y hy=>hv y (by simpa using hy)⟩
theorem kM {α β:Type} {r:α->β->Prop}:∀ {l:List α} {xs:List β} {o:Nat} {s:α} {x:β},All2 r l xs->l[o]? =some s->xs[o]? =some x->r s x
 |[],_,_,_,_,_,h,_=>by simp at h
 |_::_,[],_,_,_,h,_,_=>h.elim
 |a::l,x::xs,0,s,y,h,h1,h2=>by
  simp only[List.getElem?_cons_zero,Option.some.injEq] at h1 h2;subst h1;subst h2;exact h.1
 |a::l,x::xs,o+1,s,y,h,h1,h2=>kM h.2 (by simpa using h1) (by simpa using h2)
section
variable {P:Program} {b:Nat} {env:List V} {n:Nat} {L:Hp} {R:Post} {c:Code}
theorem Ex.fzC (j o:Nat) (get:Nat->List S) (sz:Nat) {s:S} {i N:Nat} {bl blj:Bl} (hlj:lk L j=some blj) (hij:i≠j) (hs:blj.cells[o]? =some s) (ht:ct (.s s)=some (i,N)) (hl:lk L i=some bl) (hro:bl.ro=false) (hk:bl.kind=none)
 (hg:∀ k,k<N->(get k).length=sz) (hc:∀ k j x,k<N->(get k)[j]? =some x->bl.cells[k*sz+j]? =some x/\aY x=true)
 {L':Hp} (hL:put (put L i none) j (some {blj with cells:=blj.cells.set o (.frz get sz N)})=L') (k:Ex P b c env n L' R):Ex P b c env n L R:=by
 subst hL;intro φ a w h1 h2 h3 h4;obtain⟨φ',e1,hle,hz,hg',hsl⟩:=kD h2 get sz (i:=i) (N:=N) hl hro hk hg hc
 have hlj':lk (put L i none) j=some blj:=by rw[ax,if_neg hij];exact hlj
 have sub1:∀ jj b',lk (put (put L i none) j (some {blj with cells:=blj.cells.set o (.frz get sz N)})) jj=some b'->∃ b0,lk (put L i none) jj=some b0/\b'.ro=b0.ro:=by
  intro jj b' h;rw[ax] at h;split at h
  ·rename_i e;subst e;cases h;exact⟨blj,hlj',rfl⟩
  ·exact⟨b',h,rfl⟩
 have subL:∀ jj b',lk (put L i none) jj=some b'->lk L jj=some b':=by
  intro jj b' h;rw[ax] at h;split at h
  ·cases h
  ·exact h
 have wr1:∀ x,Wr φ' (put (put L i none) j (some {blj with cells:=blj.cells.set o (.frz get sz N)})) x->Wr φ' (put L i none) x:=by
  rintro x ⟨jj,bj,c,h1,h2,h3,h4⟩;obtain⟨b0,q1,q2⟩:=sub1 jj bj h1;exact⟨jj,b0,c,q1,h2,h3,q2▸h4⟩
 have wrL:∀ x,Wr φ' (put L i none) x->Wr φ L x:=by
  rintro x ⟨jj,bj,c,h1,h2,h3,h4⟩;exact⟨jj,bj,c,subL _ _ h1,by rw[e1] at h2;exact h2,h3,h4⟩
 have good2:Good φ' (put (put L i none) j (some {blj with cells:=blj.cells.set o (.frz get sz N)})) w:=by
  refine⟨fun jj bj hj=>?_,fun x y bx bl' b1 b2 hx hy hb1 hb2 e=>?_,fun x l hx=>⟨(hg'.fz x l hx).1,fun hw=>(hg'.fz x l hx).2 (wr1 x hw)⟩,hg'.gz⟩
  ·rw[ax] at hj
   split at hj
   ·rename_i e;subst e;cases hj
    obtain⟨b0,hb0,pre,xs,rest,fr,p1,p2,p3,p4,p5,p6,p7⟩:=h2.hr j blj hlj;refine⟨b0,hle _ _ hb0,pre,xs,rest,fr,p1,p2,?_,p4,p5,fun g z e=>?_,p7⟩
    ·refine gD (p3.mono fun _ _=>Sr.mono (blj.ph_le hle)) fun x hx=>?_
     have hx3:Vr φ (.s s) x:=(kM p3 hs hx).mono (blj.ph_le_self φ);have hf:Pr φ'.z (.frz get sz N) x:=hsl (.s s) x ht hx3;show Pr (blj.ph φ').z (.frz get sz N) x;rw[Bl.ph_z];exact hf
    ·obtain⟨k,hk,hz⟩:=p6 g z e
     exact⟨k,hle _ _ hk,hz⟩
   ·exact hg'.hr jj bj hj
  ·obtain⟨x0,q1,q2⟩:=sub1 x bx hx
   obtain⟨y0,r1,r2⟩:=sub1 y bl' hy;rw[q2,r2];exact hg'.inj x y x0 y0 b1 b2 q1 r1 hb1 hb2 e
 refine wp_mono (k φ' a w ⟨h1.1,h1.2.mono fun _ _=>Vr.mono hle⟩ good2 (fun i hi=>by rw[e1];exact h3 i hi) h4) ?_;rintro x a' w' ⟨φ2,e,m,M,hR,k1,k2,k3,k4,k5,k6⟩
 have back:∀ jj b',lk (put (put L i none) j (some {blj with cells:=blj.cells.set o (.frz get sz N)})) jj=some b'->∃ b0,lk L jj=some b0/\b'.ro=b0.ro:=by
  intro jj b' h;obtain⟨b0,q1,q2⟩:=sub1 jj b' h;exact⟨b0,subL _ _ q1,q2⟩
 refine⟨φ2,e,m,M,hR,k1,k2,k3,k4,⟨k5.os,k5.tape,k5.output,k5.size,fun d hd hn=>k5.keep d hd fun hw=>hn (wrL d (wr1 d hw)),fun jj bl1 d hj hd hlt'=>?_,fun x l hx=>k5.zle x l (hle.z x l hx),fun x l hx=>?_⟩,fun i hi=>by rw[k6 i hi,e1]⟩
 ·obtain⟨kk,bl',c,hkk,hc',q1,q2,q3⟩:=k5.fresh jj bl1 d hj hd hlt'
  obtain⟨b0,r1,r2⟩:=back kk bl' hkk;exact⟨kk,b0,c,r1,by rw[e1] at hc';exact hc',q1,fun h=>q2 (r2.trans h),q3.imp id fun h=>r2▸h⟩
 ·rcases k5.zfr x l hx with q|q|q
  ·rcases hz x l q with q|q
   ·exact .inl q
   ·exact .inr (.inr q)
  ·exact .inr (.inl q)
  ·exact .inr (.inr (wrL x (wr1 x q)))
end
end Ab
end Go.Proofs.YtegjgpldfgjoiaaGreatDoor
