import Derived.Test.YtegjgpldfgjoiaaGreatDoorCnM10
import Derived.Below
import Derived.MapKept
import Derived.Test.YtegjgpldfgjoiaaGreatDoorCnM16
import Derived.Shelf.Strings.OnBuilder
import Derived.Test.YtegjgpldfgjoiaaGreatDoorRows
import Derived.Test.YtegjgpldfgjoiaaGreatDoorCnM14
import Derived.Shelf.SlIterI.Sorted
import Derived.Shelf.SortM.Plain
import Derived.Shelf.SortM.SortNone
import Derived.Shelf.SlMaps.Clone
import Derived.Sort.MapsRangeIn
import Derived.Lib.SlKeysI
import Derived.Sort.KeysCollected
import Derived.Sort.OwnSorted
import Derived.Maps.AppendAt
import Derived.Maps.OwnIn
import Derived.WalkKit
import Derived.OwnWalkIn
import Derived.TacticsInMore
import Derived.RegionIn
import Derived.LoopNIn
import Derived.LoopIn
import Derived.CallsIn
set_option linter.all false
namespace Go.Proofs.YtegjgpldfgjoiaaGreatDoor
namespace Ab
open Go
section
variable {t tx e:TypeId} {c:Code} {φ:Ph} {m k n' sz:Nat} {dst:Option Tmp} {pos:String} {af:Array Edge} {gd:Option (Nat×Bool)} {x y:Operand} {L' M:Hp} {inf:TypeInfo} {k':IntKind} {w:World} {bl:Bl}
section
variable {P:Program} {b:Nat} {ops:Array Oper} {d:Bool} {acc:List Row} {os:List Oper} {o:Oper} {env:List V} {n:Nat} {L:Hp} {R:Post}
theorem qS {φ:Ph} (hty:dv P t=true) {a:Addr} {ox oy:Operand} {op:BinOp} {r:Bool} (hop:(op=.eql/\r=false)\/(op=.neq/\r=true)) (w:World):
 (do eqGuard op t ox oy (.slice (some a) m k) (.slice none 0 0);binOp op t (.slice (some a) m k) (.slice none 0 0)).run P w=.ok (.bool r) w:=by
 unfold dv at hty;split at hty
 ·rename_i e hu
  have hg:(eqGuard op t ox oy (.slice (some a) m k) (.slice none 0 0)).run P w=.ok () w:=by unfold eqGuard;split<;>simp
  have he:(Op.equal t (.slice (some a) m k) (.slice none 0 0)).run P w=.ok false w:=gK λd=>jE d hu _ _ _ _ _
  rcases hop with ⟨rfl,rfl⟩|⟨rfl,rfl⟩
  ·simp only[Z09,hg,Z05,binOp,he,Z0f]
  ·simp only[Z09,hg,Z05,binOp,he,Z0f,Z2f]
 ·cases hty
def wa:V->Prop
 | .s (.frz _ _ n)=>0<n
 | .s .emq=>True
 |_=>False
theorem BV {x:V} (h:wa x) {v:Value} (hv:Vr φ x v):∃ a m k,v=.slice (some a) m k:=by
 unfold wa at h;split at h
 ·cases hv with
  |nil get sz a k hk=>omega
  |frz get sz n b o k vs h1 hn val hl hv hx=>exact⟨_,_,_,rfl⟩
 ·obtain⟨a,k,rfl⟩:=hv;exact⟨_,_,_,rfl⟩
 ·exact h.elim
theorem CmpG.nn {op:BinOp} {ty ty':TypeId} {c:Option Nat} (r:Bool) (hx:wa (ev env x)) (hy:ev env y=.s (.slc none m c)) (hop:(op=.eql/\r=false)\/(op=.neq/\r=true)) (hty:dv P ty=true)
 (hw:aY ops env ⟨dst,.binOp op ty x y ty',t,pos,af,gd⟩=some true) (k:RegX P ops d (aG d ⟨dst,.binOp op ty x y ty',t,pos,af,gd⟩ [] [] acc) os (a_ env dst (.s (.bool r))) n L R):
 CmpG P ops d acc ⟨dst,.binOp op ty x y ty',t,pos,af,gd⟩ os env n L R:=by
 refine⟨RegX.op (foot:=[]) (wr:=[]) hw (OpL.light λφ a w hop' _=>?_) (Z02 _) k⟩;have g1:=hop' x (by simp[Op.operands]);have g2:=hop' y (by simp[Op.operands]);rw[hy] at g2;obtain⟨_,_,e2⟩:=g2;obtain⟨ad,m',k',e1⟩:=BV hx g1;refine⟨.bool r,?_,rfl⟩;have:=qS (P:=P) (φ:=φ) hty (a:=ad) (m:=m') (k:=k') (ox:=x) (oy:=y) hop w;rw[<-e1,<-e2] at this;simp only[execOp];rw[Z09,this];rfl
theorem RegX.cap0 {c:Option Nat} (hx:ev env x=.s (.slc none m c)) (hty:dv P tx=true)
 (hw:aY ops env ⟨dst,.call ⟨.builtin .cap,#[x],#[tx]⟩,t,pos,af,gd⟩=some true) (k:RegX P ops d (aG d ⟨dst,.call ⟨.builtin .cap,#[x],#[tx]⟩,t,pos,af,gd⟩ [] [] acc) os (a_ env dst (.s (.int .i64 0))) n L R):
 RegX P ops d acc (⟨dst,.call ⟨.builtin .cap,#[x],#[tx]⟩,t,pos,af,gd⟩::os) env n L R:=by
 refine RegX.op (foot:=[]) (wr:=[]) hw (OpL.light λφ a w hop' _=>?_) (Z02 _) k;have g1:=hop' x (by simp[Op.operands,Call.operands]);rw[hx] at g1;obtain⟨_,_,e1⟩:=g1;refine⟨.int .i64 0,?_,rfl⟩;unfold dv at hty;split at hty
 ·rename_i e hu
  simp only[execOp,resolve,Z09,Z0f,Z05,invoke,builtin,Z3u,Z13,Z3d,e1];simp[Builtin.cap_,run_underlying hu,goInt]
 ·cases hty
theorem pP {ts:Array TypeId} {ty:TypeId} {k:IntKind} (h0:ts[0]? =some t) (h1:ts[1]? =some tx) (ht:P.underlying t=some (.slice e)) (hx:P.underlying tx=some (.int k)) (hi:P.info? e=some inf) {zv:Value} (hz:inf.zero=some zv) (hs:0<inf.size)
 (hm:1<=m) (hbig:m*inf.bytes<=140737488355328) (hmax:m<=140737488355328):
 ∃ c,m<=c/\∃ rest:Array Value,rest.size=(c-m)*zv.cells.size/\(Builtin.append_ ts ty #[.slice none 0 0,.int k' (m:Int)]).run P w=.ok (.slice (some ⟨w.heap.size,0,none⟩) m c) {w with drawn:=w.drawn+1,heap:=w.heap.push (.cells (Builtin.zeroCells zv.cells m++rest) e)}:=by
 have hsz:(sizeOf e).run P w=.ok inf.size w:=by simp[sizeOf,typeInfo,hi]
 have hti:∀ w,(typeInfo e).run P w=.ok inf w:=λw=>by simp[typeInfo,hi]
 have hzv:∀ w,(zeroValue e).run P w=.ok zv w:=λw=>by simp[zeroValue,typeInfo,hi,hz]
 have c1: ¬(0+m<=0):=aa
 have c2: ¬(((0+m:Nat):Int)>IntKind.i64.max/\(True\/inf.bytes=0)):=by
  have:IntKind.i64.max=9223372036854775807:=ac;rw[this];omega
 have c3: ¬(Builtin.nextslicecap (0+m) 0*inf.bytes>2^48):=by
  have:=growslice_fits (bytes:=inf.bytes) (old:=0) (need:=0+m) aa (by rw[Z0c];exact hbig);have e48:(2:Nat)^48=281474976710656:=ac;omega
 have w1:IntKind.i64.wrap (m:Int)=m:=ae aa aa;have c4: ¬((m:Int)<0):=aa
 have c5: ¬((m:Int)*(inf.bytes:Int)>2^48):=by
  have e48:(2:Int)^48=281474976710656:=ac;rw[e48,<-Int.natCast_mul];omega
 have c6: ¬(m*inf.size=0):=by
  intro h
  rcases Nat.mul_eq_zero.1 h with h|h<;>omega
 refine⟨(Question.appendCap (0+m) 0 e).cut (w.tape w.drawn (.appendCap (0+m) 0 e)),by simp only[Question.cut];omega,Builtin.zeroCells zv.cells ((Question.appendCap (0+m) 0 e).cut (w.tape w.drawn (.appendCap (0+m) 0 e))-(0+m)),by rw[fy,Z0c],?_⟩;unfold Builtin.append_;simp only[h0,h1,Z1a,Z11,Z23,Z09,Ab.run_underlying ht,Ab.run_underlying hx,Z05,hsz,Z0f,asInt,asIntOf,w1,if_neg c4,hti,if_neg c5,if_true,Z12];simp only[Z2z,Z0l,if_false,if_neg c1,if_neg c2,if_neg c3,if_neg c6,Z09,Z05,Z0f,hti,run_choose,Question.forced,run_askRoom,hzv,newRow,run_newObj];simp[Builtin.firstCells,newRow];rfl
theorem RegX.mkz {t':TypeId} {zs:List S} {ki:IntKind} {z:Int} {c:Option Nat} {mm:Nat} {op':Op} (m:Nat)
 (hop:op'=.call ⟨.builtin .append,#[x,y],#[t,tx]⟩)
 (hx:ev env x=.s (.slc none mm c)) (hy:ev env y=.s (.int k' z)) (ht:P.underlying t=some (.slice e)) (htx:P.underlying tx=some (.int ki)) (hi:P.info? e=some inf) (hz:dz P e=some zs) (hsz:inf.size=zs.length) (hs0:Nat.blt 0 inf.size=true)
 (hm:z=(m:Int)) (h1:1<=m) (hbig:m*inf.bytes<=140737488355328) (hmax:m<=140737488355328)
 (hw:aY ops env ⟨dst,op',t',pos,af,gd⟩=some true)
 (k:RegX P ops d (aG d ⟨dst,op',t',pos,af,gd⟩ [] [(n,some {cells:=rep m zs,ty:=e,more:=true,sym:=true,flat:=zs.all bM,gh:=some (n+1,inf.size)})] acc) os (a_ env dst (.s (.sla n (n+1) m))) (n+2) (aw L [(n,some {cells:=rep m zs,ty:=e,more:=true,sym:=true,flat:=zs.all bM,gh:=some (n+1,inf.size)})]) R):
 RegX P ops d acc (⟨dst,op',t',pos,af,gd⟩::os) env n L R:=by
 subst hm hop;refine RegX.op (foot:=[]) (wr:=[(n,some {cells:=rep m zs,ty:=e,more:=true,sym:=true,flat:=zs.all bM,gh:=some (n+1,inf.size)})]) hw ?_ aa k;refine OpL.moved (bi:=none) (λφ a w hop _=>?_) rfl;have g1:=hop x (by simp[Op.operands,Call.operands]);have g2:=hop y (by simp[Op.operands,Call.operands]);rw[hx] at g1;rw[hy] at g2;obtain⟨_,_,e1⟩:=g1;have e2:a.eval y=.int k' (m:Int):=g2;obtain⟨zv,hzr,hall⟩:=fx hz w
 have hzv:inf.zero=some zv:=by
  unfold dz at hz;rw[hi] at hz
  cases hq:inf.zero with
  |none=>simp[hq] at hz
  |some zq=>
   have:zq=zv:=by simp[zeroValue,typeInfo,hi,hq] at hzr;exact hzr
   rw[this]
 have hzs:zv.cells.size=zs.length:=by rw[<-Z28];exact (hall ⟨λ_=>none,λ_=>none⟩).len
 obtain⟨cp,hcp,rest,hrs,hrun⟩:=pP (ts:= #[t,tx]) (ty:=t') (k':=k') (w:=w) rfl rfl ht htx hi hzv (aU.1 hs0) (m:=m) h1 hbig hmax;refine⟨(w.heap.size,0),cp,{w with drawn:=w.drawn+1,heap:=w.heap.push (.cells (Builtin.zeroCells zv.cells m++rest) e)},?_,rfl,rfl,rfl,hcp,an,λc hc _=>?_,λh=>absurd h (Z40 _),λφ' hle hk'=>?_⟩
 ·simp only[execOp,resolve,Z09,Z0f,Z05,invoke,builtin,Z3u,Z13,Z3d,e1,e2,hrun]
 ·show (w.heap.push _)[c]? =_
  rw[Z5q hc];simp[hc]
 ·refine⟨[],(Builtin.zeroCells zv.cells m).toList,rest.toList,(0,0),?_,rfl,?_,(λe=>by cases e),(λ_ o' ho'=>by simp),⟨λg q e'=>?_,λg e'=>(by cases e')⟩⟩
  ·show (w.heap.push _)[w.heap.size]? =_
   simp[c_]
  ·have:=Bu (φ:=(Bl.mk (rep m zs) e true false true (zs.all bM) (some (n+1,inf.size)) none none).ph φ') (hall _) m
   simpa [Builtin.zeroCells] using this
  ·simp only[Z06,Z0j] at e'
   obtain⟨rfl,rfl⟩:=e';refine⟨cp,hk',?_⟩;simp only[Z03,Z28,hrs,fy,hzs,hsz];rw[<-Z2q];exact Z1w _ aa
theorem SC.split2 {f:FuncId} {pre post:List V} {a a1 a2:V} {v:V} (h:∀ φ x,Vr φ a x->Vr φ a1 x\/Vr φ a2 x)
 (h1:SC P f (pre++a1::post) n L v n' L') (h2:SC P f (pre++a2::post) n L v n' L'):SC P f (pre++a::post) n L v n' L':=by
 intro φ xs w hx hg hf
 have key:∀ (pre:List V) (xs:List Value),All2 (Vr φ) (pre++a::post) xs->All2 (Vr φ) (pre++a1::post) xs\/All2 (Vr φ) (pre++a2::post) xs:=by
  intro pre
  induction pre with
  |nil=>
   intro xs hx
   cases xs with
   |nil=>exact hx.elim
   |cons x xs=>rcases h φ x hx.1 with h'|h'
               ·exact .inl ⟨h',hx.2⟩
               ·exact .inr ⟨h',hx.2⟩
  |cons p pre ih=>
   intro xs hx
   cases xs with
   |nil=>exact hx.elim
   |cons x xs=>rcases ih xs hx.2 with h'|h'
               ·exact .inl ⟨hx.1,h'⟩
               ·exact .inr ⟨hx.1,h'⟩
 rcases key pre xs hx with h'|h'
 ·exact h1 φ xs w h' hg hf
 ·exact h2 φ xs w h' hg hf
theorem oM {get:Nat->List S} {x:Value} (h:Vr φ (.s (.frz get sz 0)) x):Vr φ (.s (.slc none 0 (some 0))) x\/Vr φ (.s .emq) x:=by
 have h:Pr φ.z (.frz get sz 0) x:=h
 cases h with
 |nil _ _ a k hk=>
  cases a with
  |none=>rw[hk rfl];exact .inl ⟨rfl,rfl,rfl⟩
  |some a=>exact .inr ⟨a,k,rfl⟩
 |frz _ _ _ b o k vs=>exact .inr ⟨_,_,rfl⟩
theorem SLe.slaemq {i g:Nat}:SLe (.sla i g 0) .emq:=λφ x h=>by
 obtain⟨b,k,_,_,e,_⟩:=h;exact⟨_,_,e⟩
theorem SLe.emqfrz {get:Nat->List S}:SLe .emq (.frz get sz 0):=λφ x h=>by
 obtain⟨a,k,e⟩:=h;subst e;exact Pr.nil _ _ (some a) k (λh=>nomatch h)
theorem jS {α:Type} (g:α->List S) (d:α) (l:List α):eP (λk=>g (l.getD k d)) l.length=l.flatMap g:=by
 have key:∀ k,k<=l.length->eP (λk=>g (l.getD k d)) k=(l.take k).flatMap g:=by
  intro k
  induction k with
  |zero=>intro _;rfl
  |succ k ih=>
   intro h;rw[jR,ih aa,Z49,Z0r];congr 1;rw[Z01 aa,Z00,Z01 aa];simp
 rw[key _ (Z02 _),Z1v]
theorem zS {l:List S} (h1:∀ x∈l,bM x=true):bC bl l=true:=by
 unfold bC
 have nj:∀ x,bM x=true->nJ x=true:=λx h=>by cases x<;>first|rfl|cases h
 split
 ·exact Z0i.2 h1
 ·exact Z0i.2 λx hx=>nj x (h1 x hx)
theorem RegX.nilTo {c:Option Nat} {z:Int} (hx:ev env x=.s (.slc none m c)) (hy:ev env y=.s (.int k' z)) (hz:z=0) (hty:P.underlying tx=some (.slice e)) (hsz:ct P e=some sz)
 (hw:aY ops env ⟨dst,.slice tx x none (some y) none,t,pos,af,gd⟩=some true) (k:RegX P ops d (aG d ⟨dst,.slice tx x none (some y) none,t,pos,af,gd⟩ [] [] acc) os (a_ env dst (.s (.slc none 0 (some 0)))) n L R):
 RegX P ops d acc (⟨dst,.slice tx x none (some y) none,t,pos,af,gd⟩::os) env n L R:=by
 refine RegX.op (foot:=[]) (wr:=[]) hw (OpL.light λφ a w hop' _=>?_) (Z02 _) k;have g1:=hop' x (by simp[Op.operands]);have g2:=hop' y (by simp[Op.operands]);rw[hx] at g1;rw[hy,hz] at g2;obtain⟨_,_,e1⟩:=g1;have e2:a.eval y=.int k' 0:=g2;refine⟨.slice none 0 0,?_,rfl,rfl,rfl⟩;have w0:IntKind.i64.wrap 0=0:=ae aa aa
 have hsb:(Instr.sliceBounds true 0 0 none (some (.int k' 0)) none).run P w=.ok (0,0,0) w:=by simp[Instr.sliceBounds,Instr.sliceBound,asIntOf,asInt,w0]
 simp only[execOp,e1,e2,Z2g,Z1j,Instr.sliceAt,Instr.slice,Z09,run_underlying hty,Z05,hsb,aM hsz,Z0f,if_true,Z3r]
def wh:V->Prop
 | .s (.frz _ _ n)=>n=0
 | .s .emq=>True
 | .s (.slc none _ _)=>True
 |_=>False
theorem BX {x:V} (h:wh x) {v:Value} (hv:Vr φ x v):∃ a k,v=.slice a 0 k:=by
 unfold wh at h;split at h
 ·subst h;exact lN hv
 ·obtain⟨a,k,rfl⟩:=hv;exact⟨_,_,rfl⟩
 ·obtain⟨_,_,rfl⟩:=hv;exact⟨_,_,rfl⟩
 ·exact h.elim
theorem RegX.apNil {t':TypeId} {dx:TypeDesc} {c:Option Nat} {mm:Nat}
 (hx:ev env x=.s (.slc none mm c)) (hy:wh (ev env y)) (ht:P.underlying t=some (.slice e)) (htx:P.underlying tx=some dx) (hdx:gY dx=true) (hi:P.info? e=some inf)
 (hw:aY ops env ⟨dst,.call ⟨.builtin .append,#[x,y],#[t,tx]⟩,t',pos,af,gd⟩=some true)
 (k:RegX P ops d (aG d ⟨dst,.call ⟨.builtin .append,#[x,y],#[t,tx]⟩,t',pos,af,gd⟩ [] [] acc) os (a_ env dst (.s (.slc none 0 (some 0)))) n L R):
 RegX P ops d acc (⟨dst,.call ⟨.builtin .append,#[x,y],#[t,tx]⟩,t',pos,af,gd⟩::os) env n L R:=by
 refine RegX.op (foot:=[]) (wr:=[]) hw (OpL.light λφ a w hop' _=>?_) (Z02 _) k;have g1:=hop' x (by simp[Op.operands,Call.operands]);have g2:=hop' y (by simp[Op.operands,Call.operands]);rw[hx] at g1;obtain⟨_,_,e1⟩:=g1;obtain⟨ad,k',e2⟩:=BX hy g2;refine⟨.slice none 0 0,?_,rfl,rfl,rfl⟩
 have hsz:(sizeOf e).run P w=.ok inf.size w:=by simp[sizeOf,typeInfo,hi]
 have hnew:(Builtin.firstCells inf.size 0 (.slice ad 0 k')).run P w=.ok #[] w:=by
  cases ad<;>simp[Builtin.firstCells,loadCells,loadCellsFrom]
 have hrun:(Builtin.append_ #[t,tx] t' #[.slice none 0 0,.slice ad 0 k']).run P w=.ok (.slice none 0 0) w:=by
  unfold Builtin.append_;simp only[Z1a,Z11,Z23,Z09,Ab.run_underlying ht,Ab.run_underlying htx,Z05,hsz,Z0f];have hlen:(Builtin.lenOf (.slice ad 0 k')).run P w=.ok 0 w:=rfl
  cases dx<;>first|(cases hdx;done)|(simp only[Z0l,if_false,Z2f,if_true,hlen,Z09,Z05,Z0f,Z0p,Z02,hnew])
 simp only[execOp,resolve,Z09,Z0f,Z05,invoke,builtin,Z3u,Z13,Z3d,e1,e2,hrun]
def Dj:Nat->List Oper->List Oper->Option (List Oper×List Oper)
 |0,os,acc=>some (acc.reverse,os)
 |_+1,[],_=>none
 |k+1,o::os,acc=>Dj k os (o::acc)
theorem yA:∀ (k:Nat) (os acc a b:List Oper),Dj k os acc=some (a,b)->a++b=acc.reverse++os
 |0,os,acc,a,b,h=>by simp only[Dj,Z06,Z0j] at h;obtain⟨rfl,rfl⟩:=h;rfl
 |k+1,[],acc,a,b,h=>by cases h
 |k+1,o::os,acc,a,b,h=>by
  simp only[Dj] at h;have:=yA k os (o::acc) a b h
  simpa using this
theorem EI {base:List V} (tl:List Oper):∀ (os:List Oper) (s:Bool) (acc:List Row) (u:List (Nat×V)) (n:Nat) (L:Hp) (a:List Row) (os':List Oper) (e:List V) (m:Nat) (M:Hp) (C:Prop),yW u->
 il P ops d base s os acc u n L=some (a,os',e,m,M,C)->(∀ y∈u,y.1<base.length)/\(C->RegX P ops d a (os'++tl) e m M R->RegX P ops d acc (os++tl) (ap base u) n L R):=by
 intro os
 induction os with
 |nil=>
  intro s acc u n L a os' e m M C hs h;unfold il at h;obtain⟨h1,rfl,rfl,rfl,rfl,rfl⟩:=i_ hs h;exact⟨h1,λ_ k=>k⟩
 |cons o os ih=>
  intro s acc u n L a os' e m M C hs h
  have stop:iz s acc (o::os) base u n L=some (a,os',e,m,M,C)->(∀ y∈u,y.1<base.length)/\(C->RegX P ops d a (os'++tl) e m M R->RegX P ops d acc (o::os++tl) (ap base u) n L R):=by
   intro h;obtain⟨h1,rfl,rfl,rfl,rfl,rfl⟩:=i_ hs h;exact⟨h1,λ_ k=>k⟩
  unfold il at h;split at h
  ·rename_i hw
   split at h
   ·exact stop h
   ·split at h
    ·rename_i foot v wr n' as_ C1 ha
     rw[cD,cD] at h
     have go:∀ (acc':List Row),acc'=aG d o foot wr acc->An C1 (il P ops d base true os acc' (rQ o.dst v u) n' (aw L wr))=some (a,os',e,m,M,C)->(∀ y∈u,y.1<base.length)/\(C->RegX P ops d a (os'++tl) e m M R->RegX P ops d acc (o::os++tl) (ap base u) n L R):=by
      intro acc' hacc h;obtain⟨D,h1,h2⟩:=qz h;obtain⟨k1,k2⟩:=ih _ _ _ _ _ _ _ _ _ _ _ (kS hs) h1;have ku:=kT k1;refine⟨ku,λhC k=>?_⟩;obtain⟨hc1,hc2⟩:=h2 hC;rw[rY hs ku] at ha hw;rw[j0] at hw;obtain⟨q1,q2⟩:=yM (show F5 P o (ap base u) n L=_ from ha) hc1;refine RegX.op hw q1 q2 ?_;have:=k2 hc2 k;rw[nr hs,hacc] at this;exact this
     cases d with
     |true=>exact go _ rfl h
     |false=>exact go _ rfl h
    ·exact stop h
  ·rename_i hw
   rw[cD] at h
   have go:∀ (acc':List Row),acc'=aG d o [] [] acc->il P ops d base true os acc' (rQ o.dst .undef u) n L=some (a,os',e,m,M,C)->(∀ y∈u,y.1<base.length)/\(C->RegX P ops d a (os'++tl) e m M R->RegX P ops d acc (o::os++tl) (ap base u) n L R):=by
    intro acc' hacc h;obtain⟨k1,k2⟩:=ih _ _ _ _ _ _ _ _ _ _ _ (kS hs) h;have ku:=kT k1;refine⟨ku,λhC k=>?_⟩;rw[rY hs ku,j0] at hw;refine RegX.skip hw ?_;have:=k2 hC k;rw[nr hs,hacc] at this;exact this
   cases d with
   |true=>exact go _ rfl h
   |false=>exact go _ rfl h
  ·exact stop h
theorem RegX.chunkN (k:Nat) {os1 os2:List Oper} {a:List Row} {e:List V} {C:Prop} (hcut:Dj k os []=some (os1,os2)) (h:il P ops d env false os1 acc [] n L=some (a,[],e,m,M,C)) (hC:C) (kk:RegX P ops d a os2 e m M R):RegX P ops d acc os env n L R:=by
 have e1:=yA k os [] os1 os2 hcut;have:=(EI (R:=R) os2 os1 false acc [] n L a [] e m M C trivial h).2 hC kk;rw[e1] at this;exact this
theorem RegX.eqv (t:Nat) {v:V} {env':List V} (h:env.getD t .undef=v) (he:env.set t v=env') (k:RegX P ops d acc os env' n L R):RegX P ops d acc os env n L R:=by
 have:env'=env:=by
  subst h;rw[<-he]
  rcases Z0a t env.length with ht|ht
  ·rw[Z00,Z01 ht];simp
  ·rw[Z4p ht]
 rw[<-this];exact k
theorem RegX.app (ans:List Ans) {xs:Array Operand} {ts:Array TypeId} {foot:List Nat} {v:V} {wr:Hp} {as_:List Ans} {C:Prop}
 (hw:aY ops env ⟨dst,.call ⟨.builtin .append,xs,ts⟩,t,pos,af,gd⟩=some true) (h:Eh P ⟨dst,.call ⟨.builtin .append,xs,ts⟩,t,pos,af,gd⟩ env n L ans=some ⟨⟨foot,v,wr,n'⟩,as_,C⟩) (hC:C)
 {wr':Hp} (hwr:li wr [] some=some wr') {L':Hp} (hL:li (aw L wr) [] some=some L') {env':List V} (he:fY (a_ env dst v) [] some=some env')
 (k:RegX P ops d (aG d ⟨dst,.call ⟨.builtin .append,xs,ts⟩,t,pos,af,gd⟩ foot wr acc) os env' n' L' R):RegX P ops d acc (⟨dst,.call ⟨.builtin .append,xs,ts⟩,t,pos,af,gd⟩::os) env n L R:=by
 rw[cD] at hL;rw[jk] at he;cases hL;cases he;exact RegX.opA ans hw h hC k
theorem Ex.upN (hn:n<=n') (h:Ex P b c env n' L R):Ex P b c env n L R:=
 λφ a w h1 h2 h3 h4=>h φ a w h1 h2 (λi hi=>h3 i (Z1z hn hi)) (Z1z h4 hn)
def SubF (L' L:Hp):Prop:=∀ i bl',lk L' i=some bl'->∃ bl,lk L i=some bl/\bl'.ro=bl.ro/\∀ φ w b,BlAt φ w b bl->BlAt φ w b bl'
theorem Wr.subF {L:Hp} (hs:SubF L' L) {b:Nat} (h:Wr φ L' b):Wr φ L b:=by
 obtain⟨i,bl,c,hi,h1,h2,h3⟩:=h;obtain⟨bl0,e1,e2,_⟩:=hs i bl hi;exact⟨i,bl0,c,e1,h1,h2,e2▸h3⟩
theorem Good.subF {L:Hp} (h:Good φ L w) (hs:SubF L' L):Good φ L' w:=by
 refine⟨λi bl hi=>?_,λi j bl bl' b b' hi hj hb hb' e=>?_,λb l hb=>⟨(h.fz b l hb).1,λhw=>(h.fz b l hb).2 (hw.subF hs)⟩,h.gz⟩
 ·obtain⟨bl0,e1,_,e3⟩:=hs i bl hi
  obtain⟨b,hb,hat⟩:=h.hr i bl0 e1;exact⟨b,hb,e3 φ w b hat⟩
 ·obtain⟨x,e1,e2,_⟩:=hs i bl hi
  obtain⟨y,f1,f2,_⟩:=hs j bl' hj;rw[e2,f2];exact h.inj i j x y b b' e1 f1 hb hb' e
theorem Ex.subF (h:SubF L' L) (k:Ex P b c env n L' R):Ex P b c env n L R:=by
 intro φ a w h1 h2 h3 h4;refine wp_mono (k φ a w h1 (h2.subF h) h3 h4) ?_;rintro x a' w' ⟨φ',e,m,M,hR,k1,k2,k3,k4,k5,k6⟩;refine⟨φ',e,m,M,hR,k1,k2,k3,k4,⟨k5.os,k5.tape,k5.output,k5.size,λb hb hn=>k5.keep b hb λhw=>hn (hw.subF h),λj bl b hj hb hlt=>?_,k5.zle,λx l hx=>?_⟩,k6⟩
 ·obtain⟨k,bl',c,hk,q1,q2,q3,q4⟩:=k5.fresh j bl b hj hb hlt
  obtain⟨bl0,e1,e2,_⟩:=h k bl' hk;exact⟨k,bl0,c,e1,q1,q2,λhr=>q3 (e2.trans hr),q4.imp id λhr=>e2▸hr⟩
 ·rcases k5.zfr x l hx with q|q|q
  ·exact .inl q
  ·exact .inr (.inl q)
  ·exact .inr (.inr (q.subF h))
theorem BlAt.flat {b:Nat×Nat} (hc:bl.cells.all bM=true) (h:BlAt φ w b bl):BlAt φ w b {bl with flat:=true}:=by
 obtain⟨pre,xs,rest,fr,h1,h2,h3,h4,h5,h6⟩:=h;refine⟨pre,xs,rest,fr,h1,h2,?_,h4,h5,h6⟩
 have hz:∀ x l,(bl.ph φ).z x=some l->(⟨λ_=>none,φ.z⟩:Ph).z x=some l:=λx l e=>by rw[Bl.ph_z] at e;exact e
 exact gF hz hc h3
theorem Ex.flat (i:Nat) {c:Code} (hl:lk L i=some bl) (hf:bl.flat=false) (hc:bl.cells.all bM=true) {L':Hp} (hL:aw L [(i,some {bl with flat:=true})]=L') (k:Ex P b c env n L' R):Ex P b c env n L R:=by
 refine Ex.subF (L':=L') (λj bl' hj=>?_) k;rw[<-hL] at hj;simp only[aw,az] at hj;split at hj
 ·rename_i e;subst e;cases hj
  exact⟨bl,hl,rfl,λφ w b=>BlAt.flat hc⟩
 ·exact⟨bl',hj,rfl,λ_ _ _ h=>h⟩
def Unr (P:Program) (b:Nat) (c:Code) (R:Post):Nat->Post
 |0,.normal,_,_,_=>False
 |k+1,.normal,e,m,M=>Ex P b c e m M (Unr P b c R k)
 |_,x,e,m,M=>R x e m M
theorem Unr.exit {i:Nat} (h:R (.exit i) env n L):Unr P b c R k (.exit i) env n L:=by cases k<;>exact h
theorem Unr.ret (h:R .ret env n L):Unr P b c R k .ret env n L:=by cases k<;>exact h
theorem Ex.unroll (k:Nat) (h:Ex P b c env n L (Unr P b c R k)):Ex P b (.loop c) env n L R:=by
 intro φ a w h1 h2 h3 h4;refine wp_loop_rounds (k+1) ?_
 have key:∀ k env n L φ₁ a₁ w₁,Ex P b c env n L (Unr P b c R k)->EnvR φ₁ env a₁->Good φ₁ L w₁->(∀ i,n<=i->φ₁ i=none)->b<=n->∀ (φ₀:Ph) (L₀:Hp) (w₀:World),Stp φ₀ L₀ w₀ φ₁ L w₁->(∀ i,i<b->φ₁ i=φ₀ i)->
  Code.rounds P c (λx a' w'=>∃ φ' env' n' L',R x env' n' L'/\EnvR φ' env' a'/\Good φ' L' w'/\(∀ i,n'<=i->φ' i=none)/\b<=n'/\Stp φ₀ L₀ w₀ φ' L' w'/\(∀ i,i<b->φ' i=φ₀ i)) (k+1) a₁ w₁:=by
  intro k
  induction k with
  |zero=>
   intro env n L φ₁ a₁ w₁ hE h1 h2 h3 h4 φ₀ L₀ w₀ h5 h6;rw[rounds_succ];refine wp_mono (hE φ₁ a₁ w₁ h1 h2 h3 h4) ?_;rintro x a' w' ⟨φ',e,m,M,hR,k1,k2,k3,k4,k5,k6⟩
   cases x with
   |normal=>exact hR.elim
   |_=>exact⟨φ',e,m,M,hR,k1,k2,k3,k4,h5.trans k5,λi hi=>(k6 i hi).trans (h6 i hi)⟩
  |succ k ih=>
   intro env n L φ₁ a₁ w₁ hE h1 h2 h3 h4 φ₀ L₀ w₀ h5 h6;rw[rounds_succ];refine wp_mono (hE φ₁ a₁ w₁ h1 h2 h3 h4) ?_;rintro x a' w' ⟨φ',e,m,M,hR,k1,k2,k3,k4,k5,k6⟩
   cases x with
   |normal=>
    simp only[Exit.then];exact ih e m M φ' a' w' hR k1 k2 k3 k4 φ₀ L₀ w₀ (h5.trans k5) (λi hi=>(k6 i hi).trans (h6 i hi))
   |_=>exact⟨φ',e,m,M,hR,k1,k2,k3,k4,h5.trans k5,λi hi=>(k6 i hi).trans (h6 i hi)⟩
 exact key k env n L φ a w h h1 h2 h3 h4 φ L w (Stp.refl _ _ _) (λ_ _=>rfl)
theorem AG (keep:List Nat):∀ (i:Nat) (env:List V),(∀ j,i<=j->j<i+env.length->keep.elem j=true)->Ek keep i env=env
 |_,[],_=>rfl
 |i,v::t,h=>by
  simp only[Ek];rw[h i (Z02 _) an,AG keep (i+1) t (λj h1 h2=>h j aa (by simp only[Z04];omega))]
theorem To.move {e e':List V} {M':Hp} (tbl:List Nat) (h1:All2 VLe e (e'.map (bW (rn tbl 0)))) (hl:MemP (rn tbl 0) M M') (ok:mL b tbl e' M'=true):To b tbl.length e M e' M':=by
 intro φ₀ φ L₀ w₀ w a k1 k2 k3
 refine To.by (List.range (e'.map (bW (rn tbl 0))).length) tbl rfl (AG _ 0 _ λj _ hj=>?_) hl ok φ₀ φ L₀ w₀ w a ⟨k1.1,VLe.all h1 k1.2⟩ k2 k3
 rw[List.elem_eq_mem];simpa using hj
theorem LoopR.move {σ:Type} {A:List Nat} {X:σ->List (Nat×V)} {H:σ->Hp} {I:σ->Prop} {mu:σ->Nat} {s:σ} {e:List V} {m':Nat} (s':σ) (hI:I s') (hmu:mu s'<mu s) (tbl:List Nat) (hm':tbl.length=m)
 (h1:All2 VLe e ((qM A (X s') 0 env).map (bW (rn tbl 0)))) (hl:MemP (rn tbl 0) M (H s')) (ok:mL b tbl (qM A (X s') 0 env) (H s')=true):
 LoopR b m A X env H I mu s R .normal e m' M:=
 ⟨s',hI,hmu,by subst hm';exact To.move tbl h1 hl ok⟩
end
instance {P:Program} {b k i:Nat} {c:Code} {R:Post} {e:List V} {n:Nat} {L:Hp}:SgL (Unr P b c R k (.exit i) e n L) (R (.exit i) e n L):=⟨Unr.exit⟩
instance {P:Program} {b k:Nat} {c:Code} {R:Post} {e:List V} {n:Nat} {L:Hp}:SgL (Unr P b c R k .ret e n L) (R .ret e n L):=⟨Unr.ret⟩
end
end Ab
end Go.Proofs.YtegjgpldfgjoiaaGreatDoor
namespace Go.Proofs.YtegjgpldfgjoiaaGreatDoor
namespace Ab
open Go Go.RowKit
section
variable {bl bl1:Bl}
theorem FC.below {P:Program} {f:FuncId} {args:List V} {v:V} (hok:mM P f=true)
 (h:∀ (φ:Ph) (xs:List Value) (w:World),All2 (Vr φ) args xs->Good φ [] w->Calls P f xs.toArray w λe w'=>∃ x,e=.returned x/\(∀ ψ:Ph,ψ.z=φ.z->Vr ψ v x)/\Below w.heap.size w w'):FC P f args 0 [] v 0 []:=by
 refine⟨hok,λφ xs w hx hg hf=>?_⟩;refine (h φ xs w hx hg).mono ?_;rintro e w' ⟨x,rfl,hv,hb⟩;refine⟨φ,x,rfl,hv φ rfl,⟨λi bl hi=>(by cases hi),λi j bl bl' b b' hi=>(by cases hi),λb l hz=>?_,hg.gz⟩,hf,⟨hb.os,hb.tape,hb.output,hb.size,λb hlt _=>hb.block b hlt,λj bl b hj=>(by cases hj),λ_ _ q=>q,λ_ _ q=> .inl q⟩,Z02 _,λ_ _=>rfl⟩;obtain⟨h1,h2⟩:=hg.fz b l hz;exact⟨by rw[hb.block b (hg.fzlt hz)];exact h1,λhw=>by obtain⟨i,bl,c,hi,_⟩:=hw;cases hi⟩
theorem OpL.view {P:Program} {o:Oper} {env:List V} {n:Nat} {M M1 M1' M':Hp} {v:V} {n':Nat} (i:Nat) (hl:lk M i=some bl) (hro:bl1.ro=true) (hv:∀ φ w b,BlAt φ w b bl->BlAt φ w b bl1) (hin:i<n)
 (h1:∀ j,lk M1 j=if i=j then some bl1 else lk M j) (h:OpL P o env n M1 v n' M1') (h2:∀ j bl,lk M' j=some bl->if i=j then some bl=lk M i else lk M1' j=some bl) (hk:lk M1' i=some bl1):OpL P o env n M v n' M':=by
 intro φ a w Q hx hg hf
 have wr1:∀ b,Wr φ M1 b->Wr φ M b/\∀ c,φ i=some c->c.1=b->bl.ro=true:=by
  rintro b ⟨k,blk,c,hk1,hpk,hc,hr⟩;rw[h1] at hk1;split at hk1
  ·cases hk1;rw[hro] at hr;cases hr
  ·rename_i hne
   refine⟨⟨k,blk,c,hk1,hpk,hc,hr⟩,λc' hc' e=>?_⟩
   rcases hg.inj i k bl blk c' c hl hk1 hc' hpk (e.trans hc.symm) with q|q
   ·exact absurd q hne
   ·exact q.1
 have hg1:Good φ M1 w:=by
  refine⟨λj bj hj=>?_,λj k bj bk b b' hj hk' hb hb' e=>?_,λb l hb=>⟨(hg.fz b l hb).1,λhw=>(hg.fz b l hb).2 (wr1 b hw).1⟩,hg.gz⟩
  ·rw[h1] at hj
   split at hj
   ·rename_i e;subst e;cases hj
    obtain⟨b,hb,hat⟩:=hg.hr i bl hl;exact⟨b,hb,hv φ w b hat⟩
   ·exact hg.hr j bj hj
  ·rw[h1] at hj hk'
   split at hj<;>split at hk'
   ·rename_i e1 e2;exact .inl (e1.symm.trans e2)
   ·rename_i e1 e2;subst e1;cases hj
    rcases hg.inj i k bl bk b b' hl hk' hb hb' e with q|q
    ·exact .inl q
    ·exact .inr ⟨hro,q.2⟩
   ·rename_i e1 e2;subst e2;cases hk'
    rcases hg.inj j i bj bl b b' hj hl hb hb' e with q|q
    ·exact .inl q
    ·exact .inr ⟨q.1,hro⟩
   ·exact hg.inj j k bj bk b b' hj hk' hb hb' e
 refine Z4v (λa' w'=>?_) (h φ a w Q hx hg1 hf);rintro⟨φ',x,e1,e2,hg',st,hφ⟩;have hφi:φ' i=φ i:=hφ i (λq=>Z40 _ (Z3w hin q.1));have hle:φ.le φ':=iL hf hφ st.zle;obtain⟨bi,hbi,hat⟩:=hg.hr i bl hl
 have nwr:bl.ro=false-> ¬Wr φ M1 bi.1:=λhr hw=>by have:=(wr1 _ hw).2 bi hbi rfl;rw[hr] at this;cases this
 have kept:bl.ro=false->w'.heap[bi.1]? =w.heap[bi.1]? :=λhr=>st.keep bi.1 hat.lt (nwr hr)
 have keptA:w'.heap[bi.1]? =w.heap[bi.1]? :=by
  cases hr:bl.ro with
  |false=>exact kept hr
  |true=>
   refine st.keep bi.1 hat.lt λhw=>?_
   have hw':=hw;obtain⟨k,blk,c,hk1,hpk,hc,hr'⟩:=hw';have:=h1 k;rw[hk1] at this;split at this
   ·cases this;rw[hro] at hr';cases hr'
   ·rename_i hne
    rcases hg.inj i k bl blk bi c hl this.symm hbi hpk hc.symm with q|q
    ·exact hne q
    ·rw[q.2] at hr';cases hr'
 have wr':∀ b,Wr φ' M' b->Wr φ' M1' b\/(b=bi.1/\bl.ro=false):=by
  rintro b ⟨k,blk,c,hk1,hpk,hc,hr⟩;have:=h2 k blk hk1;split at this
  ·rename_i e;subst e
   rw[hl] at this;cases this;rw[hφi,hbi] at hpk;cases hpk;exact .inr ⟨hc.symm,hr⟩
  ·exact .inl ⟨k,blk,c,this,hpk,hc,hr⟩
 have same:∀ k blk c,i≠k->lk M1' k=some blk->φ' k=some c->c.1=bi.1->bl.ro=true/\blk.ro=true:=by
  intro k blk c hne hk1 hpk hc;obtain⟨k2,b2,c2,q1,q2,q3,q4,q5⟩:=st.fresh k blk c hk1 hpk (by rw[hc];exact hat.lt);have q1':=h1 k2;rw[q1] at q1';split at q1'
  ·rename_i e;subst e;cases q1'
   rcases q5 with q5|q5
   ·exact absurd q5 hne
   ·rw[hro] at q5;cases q5
  ·rename_i hne2
   rcases hg.inj i k2 bl b2 bi c2 hl q1'.symm hbi q2 (hc.symm.trans q3.symm) with q|q
   ·exact absurd q hne2
   ·exact⟨q.1,q4 q.2⟩
 refine⟨φ',x,e1,e2,⟨λj bj hj=>?_,λj k bj bk b b' hj hk' hb hb' e=>?_,λb l hb=>⟨(hg'.fz b l hb).1,λhw=>?_⟩,hg'.gz⟩,⟨st.os,st.tape,st.output,st.size,λb hb hn=>st.keep b hb λhw=>hn (wr1 b hw).1,λj bj b hj hb hlt=>?_,st.zle,λb l hb=>?_⟩,hφ⟩
 ·have:=h2 j bj hj
  split at this
  ·rename_i e;subst e;rw[hl] at this;cases this
   exact⟨bi,by rw[hφi];exact hbi,hat.mono hle keptA⟩
  ·exact hg'.hr j bj this
 ·have a1:=h2 j bj hj
  have a2:=h2 k bk hk'
  split at a1<;>split at a2
  ·rename_i e1 e2;exact .inl (e1.symm.trans e2)
  ·rename_i e1 e2;subst e1;rw[hl] at a1;cases a1
   rw[hφi,hbi] at hb;cases hb;exact .inr (same k bk b' e2 a2 hb' e.symm)
  ·rename_i e1 e2;subst e2;rw[hl] at a2;cases a2
   rw[hφi,hbi] at hb';cases hb';exact .inr ((same j bj b e1 a1 hb e).symm)
  ·exact hg'.inj j k bj bk b b' a1 a2 hb hb' e
 ·rcases wr' b hw with q|⟨q,hr⟩
  ·exact (hg'.fz b l hb).2 q
  ·subst q
   rcases st.zfr _ _ hb with q|q|q
   ·exact (hg.fz _ _ q).2 ⟨i,bl,bi,hl,hbi,rfl,hr⟩
   ·exact absurd hat.lt (Nat.not_lt.2 q)
   ·exact nwr hr q
 ·have:=h2 j bj hj
  split at this
  ·rename_i e;subst e;rw[hl] at this;cases this
   rw[hφi,hbi] at hb;cases hb;exact⟨i,bl,bi,hl,hbi,rfl,id,.inl rfl⟩
  ·rename_i hne
   obtain⟨k2,b2,c2,q1,q2,q3,q4,q5⟩:=st.fresh j bj b this hb hlt;have q1':=h1 k2;rw[q1] at q1';split at q1'
   ·rename_i e;subst e;cases q1'
    rcases q5 with q5|q5
    ·exact absurd q5 hne
    ·rw[hro] at q5;cases q5
   ·exact⟨k2,b2,c2,q1'.symm,q2,q3,q4,q5⟩
 ·rcases st.zfr b l hb with q|q|q
  ·exact .inl q
  ·exact .inr (.inl q)
  ·exact .inr (.inr (wr1 b q).1)
def oX (i:Nat):Hp->Hp
 |[]=>[]
 |(k,b)::t=>match Nat.beq k i with|true=>oX i t|false=>(k,b)::oX i t
theorem oE (i:Nat):∀ (cw:Hp) (M M1:Hp),(∀ j,i≠j->lk M1 j=lk M j)->(lk (aw M (oX i cw)) i=lk M i)/\∀ j,i≠j->lk (aw M (oX i cw)) j=lk (aw M1 cw) j
 |[],M,M1,h=>⟨rfl,λj hj=>(h j hj).symm⟩
 |(k,b)::t,M,M1,h=>by
  simp only[oX];split
  ·rename_i e
   have e:=Z0q e;subst e;have:=oE k t M (put M1 k b) (λj hj=>by rw[az,if_neg hj];exact h j hj);exact this
  ·rename_i e
   have hne: ¬k=i:=λq=>by subst q;simp at e
   have:=oE i t (put M k b) (put M1 k b) (λj hj=>by rw[az,az];split;·rfl
                                                    ·exact h j hj)
   refine⟨this.1.trans (by rw[az,if_neg hne]),this.2⟩
section
variable {P:Program} {b:Nat} {ops:Array Oper} {d:Bool} {acc:List Row} {os:List Oper} {o:Oper} {env:List V} {n:Nat} {L:Hp} {R:Post} {f:FuncId} {xs:Array Operand}
theorem CallG.mv (tbl:List Nat) (i:Nat) {args0:List V} {L0:Hp} {v0:V} {n0':Nat} {L0':Hp} (sc:FC P f args0 tbl.length L0 v0 n0' L0')
 (hchk:(args0.all (fp tbl.length)&&eV tbl.length L0&&dZ L0 L0'&&ce (bw L0')&&Nat.ble tbl.length n0'&&rC tbl n n0'&&sH tbl L0)=true) {args1:List V} (ha:xs.toList.map (ev env)=args1) (hle:All2 VLe args1 (args0.map (bW (rn tbl n))))
 (hl:lk (res tbl L) i=some bl) (hro:bl1.ro=true) (hvw:∀ φ w b,BlAt φ w b bl->BlAt φ w b bl1) (hin:Nat.blt i n=true) (ft:FitP tbl n (put (res tbl L) i (some bl1)) L0) (hk:lk (aw (put (res tbl L) i (some bl1)) (b_ tbl n L0 L0')) i=some bl1)
 (hw:aY ops env o=some true) {v:V} (hv:iR (bW (rn tbl n) v0) some=some v) {wr:Hp} (hwr:li (oX i (b_ tbl n L0 L0')) [] some=some wr)
 (k:RegX P ops d (aG d o tbl wr acc) os (a_ env o.dst v) (n+(n0'-tbl.length)) (aw L wr) R):CallG P ops d acc o f xs os env n L R:=by
 refine⟨λ⟨ts,ho⟩=>?_⟩;obtain⟨hf,sc⟩:=sc;rw[eA] at hv;cases hv;rw[cD] at hwr;cases hwr;simp only[Z07] at hchk;obtain⟨⟨⟨⟨⟨⟨k1,k2⟩,k3⟩,k4⟩,k5⟩,k6⟩,k7⟩:=hchk;unfold mM at hf;split at hf
 ·rename_i fn hfn
  simp only[Z07,Z0v] at hf;have h:=SC.opW (n:=n) (env:=env) (M:=put (res tbl L) i (some bl1)) sc k1 k2 ho rfl hfn hf.1 hf.2 (ha▸hle) (Fits.of k6 k7 ft) (fm k3 k4);have hd:=oE i (b_ tbl n L0 L0') (res tbl L) (put (res tbl L) i (some bl1)) (λj hj=>by rw[az,if_neg hj]);refine RegX.op hw (OpL.view i hl hro hvw (aU.1 hin) (λj=>by rw[az]) h (λj bj hj=>?_) hk) (Z1o _ _) k;split
  ·rename_i e;subst e;rw[<-hj];exact hd.1
  ·rename_i e;rw[<-hj];exact (hd.2 j e).symm
 ·cases hf
theorem ip (tbl:List Nat) (i:Nat) {bl bl1:Bl} {args0:List V} {L0:Hp} {v0:V} {n0':Nat} {L0':Hp} (sc:FC P f args0 tbl.length L0 v0 n0' L0') {args1:List V} {v:V} {wr:Hp} (k:RegX P ops d (aG d o tbl wr acc) os (a_ env o.dst v) (n+(n0'-tbl.length)) (aw L wr) R)
 (hchk:(args0.all (fp tbl.length)&&eV tbl.length L0&&dZ L0 L0'&&ce (bw L0')&&Nat.ble tbl.length n0'&&rC tbl n n0'&&sH tbl L0)=true:=by exact rfl) (ha:xs.toList.map (ev env)=args1:=by exact rfl) (hle:All2 VLe args1 (args0.map (bW (rn tbl n))):=by (repeat first|exact trivial|refine⟨VLe.refl _,?_⟩);first|done|fail)
 (hl:lk (res tbl L) i=some bl:=by exact rfl) (hvw:∀ φ w b,BlAt φ w b bl->BlAt φ w b bl1:=by exact λφ w b=>BlAt.view 1 rfl) (hro:bl1.ro=true:=by exact rfl) (hin:Nat.blt i n=true:=by exact rfl) (ft:FitP tbl n (put (res tbl L) i (some bl1)) L0:=by (repeat first|exact trivial|refine⟨⟨rfl,_,rfl,rfl,λh=>h⟩,?_⟩|refine⟨⟨rfl,_,rfl,rfl,λ_=>rfl⟩,?_⟩|refine FitP.op rfl rfl ?_);first|done|fail) (hk:lk (aw (put (res tbl L) i (some bl1)) (b_ tbl n L0 L0')) i=some bl1:=by exact rfl)
 (hw:aY ops env o=some true:=by exact rfl) (hv:iR (bW (rn tbl n) v0) some=some v:=by exact rfl) (hwr:li (oX i (b_ tbl n L0 L0')) [] some=some wr:=by exact rfl):CallG P ops d acc o f xs os env n L R:=CallG.mv tbl i sc hchk ha hle hl hro hvw hin ft hk hw hv hwr k
end
def Gl (k:Nat) (bl:Bl):Bl:={cells:=bl.cells.take k,ty:=bl.ty,more:=true,ro:=true}
theorem BlAt.view {φ:Ph} {w:World} {b:Nat×Nat} (k:Nat) (hk:bl.kind=none) (h:BlAt φ w b bl):BlAt φ w b (Gl k bl):=by
 obtain⟨pre,xs,rest,fr,h1,h2,h3,h4,h5,h6⟩:=h;refine⟨pre,xs.take k,xs.drop k++rest,fr,?_,h2,?_,(λe=>by cases e),(λe=>by cases e),⟨λg z e=>(by cases e),λg e=>(by cases e)⟩⟩
 ·rw[h1,hk];show _=some (c_ none _ bl.ty fr)
  rw[<-Z14 (xs.take k),Z2m]
 ·exact (h3.mono λ_ _=>Sr.mono (bl.ph_le_self φ)).take k
theorem SLe.slcfrz {i o:Nat} {c:Option Nat} {get:Nat->List S} {sz:Nat}:SLe (.slc (some (i,o)) 0 c) (.frz get sz 0):=λφ x h=>by
 obtain⟨b,k,_,e,_⟩:=h;subst e;exact Pr.nil _ _ (some _) k (λh=>nomatch h)
end
end Ab
end Go.Proofs.YtegjgpldfgjoiaaGreatDoor
namespace Go.Proofs.YtegjgpldfgjoiaaGreatDoor
namespace Ab
open Go
section
variable {cs:List S} {ty g w i:Nat} {t M L0 L0':Hp}
section
variable {P:Program} {f:FuncId} {args:List V} {n:Nat} {L L1:Hp} {v:V} {n':Nat} {L':Hp}
theorem SC.pre (h:SC P f args n L1 v n' L') (hs:SubF L1 L):SC P f args n L v n' L':=by
 intro φ xs w hx hg hf;refine (h φ xs w hx (hg.subF hs) hf).mono ?_;rintro e w' ⟨φ',x,he,hv,hg',hn,st,hle,hag⟩;refine⟨φ',x,he,hv,hg',hn,⟨st.os,st.tape,st.output,st.size,λb hb hn=>st.keep b hb λhw=>hn (hw.subF hs),λj bl b hj hb hlt=>?_,st.zle,λx l hx=>?_⟩,hle,hag⟩
 ·obtain⟨k,bl',c,hk,q1,q2,q3,q4⟩:=st.fresh j bl b hj hb hlt
  obtain⟨bl0,e1,e2,_⟩:=hs k bl' hk;exact⟨k,bl0,c,e1,q1,q2,λhr=>q3 (e2.trans hr),q4.imp id λhr=>e2▸hr⟩
 ·rcases st.zfr x l hx with q|q|q
  ·exact .inl q
  ·exact .inr (.inl q)
  ·exact .inr (.inr (q.subF hs))
theorem FC.pre (h:FC P f args n L1 v n' L') (hs:SubF L1 L):FC P f args n L v n' L':=⟨h.1,h.2.pre hs⟩
end
theorem SubF.refl (L:Hp):SubF L L:=λi bl h=>⟨bl,h,rfl,λ_ _ _ h=>h⟩
theorem SubF.one {L L':Hp} (i:Nat) {bl bl':Bl} (h1:lk L i=some bl) (h2:∀ j,lk L' j=if i=j then some bl' else lk L j) (hr:bl'.ro=bl.ro) (hb:∀ φ w b,BlAt φ w b bl->BlAt φ w b bl'):SubF L' L:=by
 intro j c hj;rw[h2] at hj;split at hj
 ·rename_i e;subst e;cases hj;exact⟨bl,h1,hr,hb⟩
 ·exact⟨c,hj,rfl,λ_ _ _ h=>h⟩
theorem BlAt.cells {φ:Ph} {w:World} {b:Nat×Nat} {bl:Bl} (hc:All2 SLe bl.cells cs) (h:BlAt φ w b bl):BlAt φ w b {bl with cells:=cs}:=by
 obtain⟨pre,xs,rest,fr,h1,h2,h3,h4,h5,h6⟩:=h;refine⟨pre,xs,rest,fr,h1,h2,?_,h4,h5,h6⟩;exact SLe.alls hc h3
def eI (ty g w:Nat):List S->Option Bl
 |[]=>none
 |c::cs=>some {cells:=c::cs,ty:=ty,more:=true,sym:=true,flat:=true,gh:=some (g,w)}
theorem aH {r:Nat->Nat}:Bw r (eI ty g w cs)=eI ty (r g) w cs:=by cases cs<;>rfl
theorem bI {n:Nat} (h1:Nat.blt i n=true) (h2:Nat.blt g n=true) (k:eV n t=true):eV n ((i,eI ty g w cs)::t)=true:=by
 cases cs with
 |nil=>exact k
 |cons c cs=>simp only[eI,eV,Jm,okG,h1,h2,k,Bool.and_self]
theorem FitP.op {tbl:List Nat} {new:Nat} (h1:Nat.blt i tbl.length=true) (h2:lk M (tbl.getD i 0)=eI ty (rn tbl new g) w cs) (k:FitP tbl new M t):FitP tbl new M ((i,eI ty g w cs)::t):=by
 cases cs with
 |nil=>exact k
 |cons c cs=>exact⟨⟨h1,_,h2,rfl,λh=>h⟩,k⟩
theorem MemP.op {r:Nat->Nat} (h2:lk M (r i)=eI ty (r g) w cs) (k:MemP r M t):MemP r M ((i,eI ty g w cs)::t):=by
 cases cs with
 |nil=>exact k
 |cons c cs=>exact⟨h2,k⟩
theorem SubP.op (h2:lk M i=eI ty g w cs) (k:SubP M t):SubP M ((i,eI ty g w cs)::t):=by
 cases cs with
 |nil=>exact k
 |cons c cs=>exact⟨h2,k⟩
def dI (tbl:List Nat) (new:Nat) (L0:Hp):Hp->Hp
 |[]=>[]
 |(i,c)::t=>
  match Nat.blt i tbl.length with
  |true=>
   match c with
   |none=>(rn tbl new i,none)::dI tbl new L0 t
   |some c=>
    match lk L0 i with
    |some b=>match b.ro with|true=>dI tbl new L0 t|false=>(rn tbl new i,some (ed (rn tbl new) c))::dI tbl new L0 t
    |none=>dI tbl new L0 t
  |false=>(rn tbl new i,Bw (rn tbl new) c)::dI tbl new L0 t
theorem oA {tbl:List Nat} {new:Nat} {L0:Hp}:∀ {L0':Hp} {x:Nat} {c:Option Bl},(x,c)∈dI tbl new L0 L0'->
 ∃ i d,(i,d)∈L0'/\rn tbl new i=x/\c=d.map (ed (rn tbl new))/\(d=none\/tbl.length<=i\/∃ b,lk L0 i=some b/\b.ro=false)
 |(j,d)::t,x,c,h=>by
  simp only[dI] at h
  have rest:(x,c)∈dI tbl new L0 t->∃ i d',(i,d')∈(j,d)::t/\rn tbl new i=x/\c=d'.map (ed (rn tbl new))/\(d'=none\/tbl.length<=i\/∃ b,lk L0 i=some b/\b.ro=false):=λh=>by
   obtain⟨i,d',h1,h2⟩:=oA h;exact⟨i,d',.tail _ h1,h2⟩
  have here:∀ d1:Option Bl,d1=d.map (ed (rn tbl new))->(d=none\/tbl.length<=j\/∃ b,lk L0 j=some b/\b.ro=false)->(x,c)∈(rn tbl new j,d1)::dI tbl new L0 t->
   ∃ i d',(i,d')∈(j,d)::t/\rn tbl new i=x/\c=d'.map (ed (rn tbl new))/\(d'=none\/tbl.length<=i\/∃ b,lk L0 i=some b/\b.ro=false):=by
   intro d1 hd1 hc h
   rcases Z0h.1 h with e|h
   ·simp only[Z0j] at e
    exact⟨j,d,.head _,e.1.symm,by rw[e.2,hd1],hc⟩
   ·exact rest h
  split at h
  ·rename_i hlt
   split at h
   ·exact here _ rfl (.inl rfl) h
   ·split at h
    ·rename_i b hb
     split at h
     ·exact rest h
     ·rename_i hro;exact here _ rfl (.inr (.inr ⟨b,hb,hro⟩)) h
    ·exact rest h
  ·rename_i hge
   refine here _ (by cases d<;>rfl) (.inr (.inl ?_)) h
   rcases Z0a j tbl.length with hl|hl
   ·rw[aU.2 hl] at hge;cases hge
   ·exact hl
theorem o8 {tbl:List Nat} {new:Nat} {L0:Hp} {i:Nat} {b:Bl} (hb:lk L0 i=some b) (hro:b.ro=false) (hi:i<tbl.length):∀ {L0':Hp},i∈bw L0'->rn tbl new i∈bw (dI tbl new L0 L0')
 |(j,d)::t,h=>by
  simp only[bw,Z13,Z0h] at h;simp only[dI]
  rcases h with rfl|h
  ·rw[aU.2 hi]
   cases d<;>simp only[hb,hro,bw,Z13,Z0h,true_or]
  ·have ih:=o8 (new:=new) hb hro hi (L0':=t) h
   split
   ·split
    ·simp only[bw,Z13,Z0h];exact .inr ih
    ·split
     ·split
      ·exact ih
      ·simp only[bw,Z13,Z0h];exact .inr ih
     ·exact ih
   ·simp only[bw,Z13,Z0h];exact .inr ih
theorem sI {tbl:List Nat} {new:Nat} (hs:dZ L0 L0'=true) (hn:ce (bw L0')=true):vy tbl new L0 L0' M (aw M (dI tbl new L0 L0')):=by
 intro x bl hx;by_cases hk:x∈bw (dI tbl new L0 L0')
 ·left
  obtain⟨c,hc,he⟩:=iK _ M x hk;rw[he] at hx;subst hx;obtain⟨i,d,h1,h2,h3,h4⟩:=oA hc
  cases d with
  |none=>simp at h3
  |some bl0=>exact⟨i,bl0,h2,lH hn h1,by simpa using h3,h4.resolve_left an⟩
 ·right
  rw[bK _ _ _ hk] at hx;refine⟨hx,λi hi e b hb=>?_⟩
  cases hro:b.ro with
  |true=>rfl
  |false=>
   exfalso;have h1:=Z0i.1 hs _ (cO hb)
   have h2:i∈bw L0':=by simpa using h1
   have:=o8 (tbl:=tbl) (new:=new) hb hro hi h2;rw[eH hi,e] at this;exact hk this
section
variable {P:Program} {b:Nat} {ops:Array Oper} {d:Bool} {acc:List Row} {os:List Oper} {o:Oper} {env:List V} {n:Nat} {L:Hp} {R:Post} {f:FuncId} {xs:Array Operand}
theorem CallG.mo (tbl:List Nat) {args0:List V} {v0:V} {n0':Nat} (sc:FC P f args0 tbl.length L0 v0 n0' L0')
 (k1:args0.all (fp tbl.length)=true) (k2:eV tbl.length L0=true) (hchk:(dZ L0 L0'&&ce (bw L0')&&Nat.ble tbl.length n0'&&rC tbl n n0')=true) (k7:sH tbl L0=true)
 {args1:List V} (ha:xs.toList.map (ev env)=args1) (hle:All2 VLe args1 (args0.map (bW (rn tbl n)))) (ft:FitP tbl n (res tbl L) L0)
 (hw:aY ops env o=some true) {v:V} (hv:iR (bW (rn tbl n) v0) some=some v) {wr:Hp} (hwr:dI tbl n L0 L0'=wr)
 (k:RegX P ops d (aG d o tbl wr acc) os (a_ env o.dst v) (n+(n0'-tbl.length)) (aw L wr) R):CallG P ops d acc o f xs os env n L R:=by
 refine⟨λ⟨ts,ho⟩=>?_⟩;obtain⟨hf,sc⟩:=sc;rw[eA] at hv;cases hv;subst hwr;simp only[Z07] at hchk;obtain⟨⟨⟨k3,k4⟩,k5⟩,k6⟩:=hchk;unfold mM at hf;split at hf
 ·rename_i fn hfn
  simp only[Z07,Z0v] at hf;have h:=SC.opW (n:=n) (env:=env) (M:=res tbl L) sc k1 k2 ho rfl hfn hf.1 hf.2 (ha▸hle) (Fits.of k6 k7 ft) (sI k3 k4);exact RegX.op hw h (Z1o _ _) k
 ·cases hf
theorem iq (tbl:List Nat) {args0:List V} {v0:V} {n0':Nat} (sc:FC P f args0 tbl.length L0 v0 n0' L0') {wr:Hp} {args1:List V} {v:V} (k:RegX P ops d (aG d o tbl wr acc) os (a_ env o.dst v) (n+(n0'-tbl.length)) (aw L wr) R)
 (k1:args0.all (fp tbl.length)=true:=by exact rfl) (k2:eV tbl.length L0=true:=by exact rfl) (hchk:(dZ L0 L0'&&ce (bw L0')&&Nat.ble tbl.length n0'&&rC tbl n n0')=true:=by exact rfl) (k7:sH tbl L0=true:=by exact rfl)
 (ha:xs.toList.map (ev env)=args1:=by exact rfl) (hle:All2 VLe args1 (args0.map (bW (rn tbl n))):=by (repeat first|exact trivial|refine⟨VLe.refl _,?_⟩);first|done|fail) (ft:FitP tbl n (res tbl L) L0:=by (repeat first|exact trivial|refine⟨⟨rfl,_,rfl,rfl,λh=>h⟩,?_⟩|refine⟨⟨rfl,_,rfl,rfl,λ_=>rfl⟩,?_⟩|refine FitP.op rfl rfl ?_);first|done|fail) (hw:aY ops env o=some true:=by exact rfl) (hv:iR (bW (rn tbl n) v0) some=some v:=by exact rfl)
 (hwr:dI tbl n L0 L0'=wr:=by first|(show [_]=_;rw[aH];rfl)|(show [_,_]=_;rw[aH];rfl)|(show [_,_,_]=_;rw[aH];rfl)|(show [_,_,_,_]=_;rw[aH];rfl)|(show [_,_,_,_,_]=_;rw[aH];rfl)|(show [_,_,_,_,_,_]=_;rw[aH];rfl)|(show [_,_,_,_,_,_,_]=_;rw[aH];rfl)|exact rfl):CallG P ops d acc o f xs os env n L R:=CallG.mo tbl sc k1 k2 hchk k7 ha hle ft hw hv hwr k
end
end
end Ab
end Go.Proofs.YtegjgpldfgjoiaaGreatDoor
namespace Go.Proofs.YtegjgpldfgjoiaaGreatDoor
namespace Ab
open Go Go.MapKept
section
variable {F:List (List UInt8×Nat)} {φ:Ph} {w:World} {dst:Option Tmp} {tx t:TypeId} {pos:String} {af:Array Edge} {gd:Option (Nat×Bool)} {i:Nat}
def kvC (x:List UInt8×Nat):List S:=[.str x.1,.int .i64 (x.2:Int)]
def cj (F:List (List UInt8×Nat)):Bl:={cells:=F.flatMap kvC,ty:=0,flat:=true,kind:=some ⟨1,false,List.range F.length,F.length,false⟩}
def pH:List (List UInt8×Nat)->List UInt8->Option Nat
 |[],_=>none
 |x::t,k=>if x.1=k then some x.2 else pH t k
def iy (l:List UInt8):Value:=.string ⟨l.toArray⟩
def Jz (x:List UInt8×Nat):List Value:=[iy x.1,.int .i64 (x.2:Int)]
theorem x_ {φ:Ph}:∀ {F:List (List UInt8×Nat)} {xs:List Value},All2 (Sr φ) (F.flatMap kvC) xs->xs=F.flatMap Jz
 |[],[],_=>rfl
 |[],_::_,h=>h.elim
 |x::F,[],h=>h.elim
 |x::F,[_],h=>h.2.elim
 |x::F,a::b::xs,h=>by
  have h:Sr φ (.str x.1) a/\Sr φ (.int .i64 (x.2:Int)) b/\All2 (Sr φ) (F.flatMap kvC) xs:=h;obtain⟨h1,h2,h3⟩:=h;have h1:a=iy x.1:=h1;have h2:b=.int .i64 (x.2:Int):=h2;rw[x_ h3,h1,h2];rfl
theorem Ci (φ:Ph):∀ F:List (List UInt8×Nat),All2 (Sr φ) (F.flatMap kvC) (F.flatMap Jz)
 |[]=>trivial
 |x::F=>⟨rfl,rfl,Ci φ F⟩
def kW:List Nat->List (List UInt8×Nat)->List MapEntry
 |b::bs,x::t=>{key:=iy x.1,val:=.int .i64 (x.2:Int),born:=b}::kW bs t
 |_,_=>[]
theorem lU:∀ (born:List Nat) (F:List (List UInt8×Nat)),wL false 1 born (F.flatMap Jz)=kW born F
 |[],[]=>rfl
 |[],_::_=>rfl
 |_::_,[]=>rfl
 |b::bs,x::F=>by
  show MapEntry.mk (iy x.1) _ b::wL false 1 bs (F.flatMap Jz)=_;rw[lU bs F];rfl
theorem Dy (x y:List UInt8):((⟨x.toArray⟩:ByteArray)==⟨y.toArray⟩)=decide (x=y):=by
 by_cases h:x=y
 ·subst h;simp only[decide_true];exact (bytes_beq _ _).2 rfl
 ·have hne: ¬((⟨x.toArray⟩:ByteArray)=⟨y.toArray⟩):=λe=>h (by
   have:=congrArg ByteArray.data e
   simpa using this)
  simp only[h,decide_false]
  cases hb:((⟨x.toArray⟩:ByteArray)==⟨y.toArray⟩) with
  |false=>rfl
  |true=>exact absurd ((bytes_beq _ _).1 hb) hne
theorem Bb (x y:List UInt8):Instr.sameNow .string (iy x) (iy y)=some (decide (x=y)):=by
 show some ((⟨x.toArray⟩:ByteArray)==⟨y.toArray⟩)=_;rw[Dy]
theorem lT {k:List UInt8}:∀ (F:List (List UInt8×Nat)) (born:List Nat) (i:Nat),born.length=F.length->
 (∀ v,pH F k=some v->∃ j,Instr.findNow .string (iy k) (kW born F) i=some (some (j,.int .i64 (v:Int))))/\(pH F k=none->Instr.findNow .string (iy k) (kW born F) i=some none)
 |[],[],i,_=>⟨λv h=>(by cases h),λ_=>rfl⟩
 |[],_::_,i,h=>by cases h
 |_::_,[],i,h=>by cases h
 |x::F,b::bs,i,h=>by
  have ih:=lT (k:=k) F bs (i+1) (by simpa using h);simp only[pH,kW,Instr.findNow,Bb];by_cases hx:k=x.1
  ·subst hx;simp
  ·rw[if_neg (λe=>hx e.symm)]
   simp only[hx,decide_false];exact ih
theorem qq:∀ (F:List (List UInt8×Nat)) (born:List Nat) (x:List UInt8×Nat) (c:Nat),born.length=F.length->kW (born++[c]) (F++[x])=kW born F++[{key:=iy x.1,val:=.int .i64 (x.2:Int),born:=c}]
 |[],[],_,_,_=>rfl
 |[],_::_,_,_,h=>by cases h
 |_::_,[],_,_,h=>by cases h
 |y::F,b::bs,x,c,h=>by
  show _::kW (bs++[c]) (F++[x])=_::(kW bs F++_)
  rw[qq F bs x c (by simpa using h)]
theorem B9 {b:Nat×Nat} {r:Bool} (h:BlAt φ w b {cj F with ro:=r}) (hb:b.2=0):w.heap[b.1]? =some (.map (kW (List.range F.length) F).toArray F.length):=by
 obtain⟨pre,xs,rest,fr,h1,h2,h3,h4,h5,h6⟩:=h;rw[hb] at h2;have:=Z15 h2;subst this;have:=h4 rfl;subst this;have:=x_ h3;subst this;rw[h1];simp only[cj,c_,Z1e,Z0u];rw[lU]
theorem DD {b:Nat×Nat} (h:w.heap[b.1]? =some (.map (kW (List.range F.length) F).toArray F.length)) (hb:b.2=0):BlAt φ w b (cj F):=by
 refine⟨[],F.flatMap Jz,[],(0,0),?_,by rw[hb];rfl,Ci _ F,λ_=>rfl,λ_ o ho=>by simp,⟨λg z e=>(by cases e),λg e=>(by cases e)⟩⟩;rw[h];simp only[cj,c_,Z1e,Z0u];rw[lU]
section
variable {P:Program} {b:Nat} {ops:Array Oper} {d:Bool} {acc:List Row} {os:List Oper} {o:Oper} {env:List V} {n:Nat} {L:Hp} {R:Post}
theorem RegX.lkp {r0:Bool} {dst:Option Tmp} {x ix:Operand} {tx kt et:TypeId} {t:TypeId} {pos:String} {af:Array Edge} {gd:Option (Nat×Bool)} {key:List UInt8} (r:Option Nat) (hx:ev env x=.s (.map (some i))) (hix:ev env ix=.s (.str key))
 (hl:lk L i=some {cj F with ro:=r0}) (hty:P.underlying tx=some (.map kt et)) (hd:P.underlying kt=some .string) (hz:∀ w,(zeroValue et).run P w=.ok (.int .i64 0) w) (hr:pH F key=r)
 (hw:aY ops env ⟨dst,.lookup tx x ix true,t,pos,af,gd⟩=some true)
 (k:RegX P ops d (aG d ⟨dst,.lookup tx x ix true,t,pos,af,gd⟩ [i] [] acc) os (a_ env dst (.tup [.s (.int .i64 ((r.getD 0:Nat):Int)),.s (.bool r.isSome)])) n L R):
 RegX P ops d acc (⟨dst,.lookup tx x ix true,t,pos,af,gd⟩::os) env n L R:=by
 refine RegX.op (foot:=[i]) (wr:=[]) hw (OpL.light λφ a w hop hg=>?_) (Z02 _) k;have g1:=hop x (by simp[Op.operands]);have g2:=hop ix (by simp[Op.operands]);rw[hx] at g1;rw[hix] at g2;obtain⟨b,hb,hb2,hv⟩:=g1;have g2:a.eval ix=iy key:=g2;obtain⟨b',hb',hat⟩:=hg.hr i {cj F with ro:=r0} (by rw[bq];simp[hl]);rw[hb] at hb';cases hb';have hm:=B9 hat hb2;have hk:IsKey .string (iy key):=trivial
 have hc:=λem=>run_checkKey (P:=P) (w:=w) hd hk em 9999
 obtain⟨f1,f2⟩:=lT (k:=key) F (List.range F.length) 0 an
 cases r with
 |none=>
  have hf:=run_findKey (P:=P) (w:=w) hd (f2 hr);refine⟨.tuple #[.int .i64 0,.bool false],?_,[.int .i64 0,.bool false],rfl,rfl,rfl,trivial⟩;simp only[execOp,Instr.lookup,Z09,Ab.run_underlying hty,Z05,hv,Z1q hm,Z0f,g2];simp[hc,hf,hz]
 |some v=>
  obtain⟨j,hj⟩:=f1 v hr;have hf:=run_findKey (P:=P) (w:=w) hd hj;refine⟨.tuple #[.int .i64 (v:Int),.bool true],?_,[.int .i64 (v:Int),.bool true],rfl,rfl,rfl,trivial⟩;simp only[execOp,Instr.lookup,Z09,Ab.run_underlying hty,Z05,hv,Z1q hm,Z0f,g2];simp[hc,hf]
theorem rE {b:Nat×Nat} {bl bl':Bl} {ob:Obj} (hg:Good φ [(i,some bl)] w) (hb:φ i=some b) (hro:bl.ro=false) (hro':bl'.ro=false) (hat:BlAt φ {w with heap:=w.heap.setIfInBounds b.1 ob} b bl'):
 Good φ [(i,some bl')] {w with heap:=w.heap.setIfInBounds b.1 ob}/\Stp φ [(i,some bl)] w φ [(i,some bl')] {w with heap:=w.heap.setIfInBounds b.1 ob}:=by
 have one:∀ (c:Bl) j bj,lk [(i,some c)] j=some bj->j=i/\bj=c:=by
  intro c j bj hj;rw[bd] at hj;split at hj
  ·rename_i e;cases hj;exact⟨e.symm,rfl⟩
  ·simp[lk] at hj
 have hwr:Wr φ [(i,some bl)] b.1:=⟨i,bl,b,by simp[lk],hb,rfl,hro⟩
 refine⟨⟨?_,?_,?_,hg.gz⟩,⟨rfl,rfl,rfl,an,?_,?_,λ_ _ h=>h,λ_ _ h=> .inl h⟩⟩
 ·intro j bj hj
  obtain⟨rfl,rfl⟩:=one _ _ _ hj;exact⟨b,hb,hat⟩
 ·intro j k bj bk c c' hj hk _ _ _
  obtain⟨rfl,_⟩:=one _ _ _ hj;obtain⟨rfl,_⟩:=one _ _ _ hk;exact .inl rfl
 ·intro c l hc
  obtain⟨⟨ty,fr,h1⟩,h2⟩:=hg.fz c l hc
  have hne:c≠b.1:=λe=>h2 (e▸hwr)
  refine⟨⟨ty,fr,by simp only[Z3i (Z48 hne)];exact h1⟩,?_⟩;rintro⟨j,bj,c',hj,hc',e,hr⟩;obtain⟨rfl,rfl⟩:=one _ _ _ hj;rw[hb] at hc';cases hc';exact hne e.symm
 ·intro c _ hn
  have:c≠b.1:=λe=>hn (e▸hwr)
  simp[Z3i (Z48 this)]
 ·intro j bj c hj hc _
  obtain⟨rfl,rfl⟩:=one _ _ _ hj;exact⟨j,bl,c,by simp[lk],hc,rfl,(λe=>by rw[hro] at e;cases e),.inl rfl⟩
theorem RegX.mup {x ix y:Operand} {kt et:TypeId} {key:List UInt8} {z:Int} (m:Nat) (hx:ev env x=.s (.map (some i))) (hix:ev env ix=.s (.str key)) (hy:ev env y=.s (.int .i64 z)) (hm:z=(m:Int))
 (hl:lk L i=some (cj F)) (hty:P.underlying tx=some (.map kt et)) (hd:P.underlying kt=some .string) (hr:pH F key=none)
 (hw:aY ops env ⟨dst,.mapUpdate tx x ix y,t,pos,af,gd⟩=some true)
 (k:RegX P ops d (aG d ⟨dst,.mapUpdate tx x ix y,t,pos,af,gd⟩ [i] [(i,some (cj (F++[(key,m)])))] acc) os (a_ env dst .undef) n (aw L [(i,some (cj (F++[(key,m)])))]) R):
 RegX P ops d acc (⟨dst,.mapUpdate tx x ix y,t,pos,af,gd⟩::os) env n L R:=by
 subst hm;refine RegX.op (foot:=[i]) (wr:=[(i,some (cj (F++[(key,m)])))]) hw ?_ (Z02 _) k;intro φ a w Q hop hg hf
 have e1:res [i] L=[(i,some (cj F))]:=by simp[res,hl]
 have e2:aw (res [i] L) [(i,some (cj (F++[(key,m)])))]=[(i,some (cj (F++[(key,m)])))]:=by rw[e1];simp[aw,put]
 have g1:=hop x (by simp[Op.operands]);have g2:=hop ix (by simp[Op.operands]);have g3:=hop y (by simp[Op.operands]);rw[hx] at g1;rw[hix] at g2;rw[hy] at g3;obtain⟨b,hb,hb2,hv⟩:=g1;have g2:a.eval ix=iy key:=g2;have g3:a.eval y=.int .i64 (m:Int):=g3;rw[e1] at hg;obtain⟨b',hb',hat⟩:=hg.hr i (cj F) (by simp[lk]);rw[hb] at hb';cases hb';have hmap:=B9 hat hb2;have hlt:=hat.lt;have hk:IsKey .string (iy key):=trivial
 have hc:=λem=>run_checkKey (P:=P) (w:=w) hd hk em 9999
 obtain⟨_,f2⟩:=lT (k:=key) F (List.range F.length) 0 an;have hfn:=run_findKey (P:=P) (w:=w) hd (f2 hr)
 have hrun:(execOp a.eval ⟨dst,.mapUpdate tx x ix y,t,pos,af,gd⟩).run P w=.ok .skip {w with heap:=w.heap.setIfInBounds b.1 (.map (kW (List.range (F++[(key,m)]).length) (F++[(key,m)])).toArray (F++[(key,m)]).length)}:=by
  simp only[execOp,Instr.mapUpdate,Z09,Ab.run_underlying hty,Z05,hv,Z1q hmap,Z0f,g2,g3,hc,hfn];rw[Z4n _ hmap];simp only[Z05,Z03,Z0n,Z3a];rw[qq _ _ _ _ an];simp
 obtain⟨good,stp⟩:=rE (bl':=cj (F++[(key,m)])) (ob:=.map (kW (List.range (F++[(key,m)]).length) (F++[(key,m)])).toArray (F++[(key,m)]).length) hg hb rfl rfl (DD (by simp[hlt]) hb2);unfold Oper.wp;rw[hrun,Z5w];exact⟨φ,Go.undef,rfl,rfl,by rw[e2];exact good,by rw[e2,e1];exact stp,λ_ _=>rfl⟩
theorem RegX.mkm
 (hw:aY ops env ⟨dst,.makeMap tx none,t,pos,af,gd⟩=some true)
 (k:RegX P ops d (aG d ⟨dst,.makeMap tx none,t,pos,af,gd⟩ [] [(n,some (cj []))] acc) os (a_ env dst (.s (.map (some n)))) (n+1) (aw L [(n,some (cj []))]) R):
 RegX P ops d acc (⟨dst,.makeMap tx none,t,pos,af,gd⟩::os) env n L R:=by
 refine RegX.op (foot:=[]) (wr:=[(n,some (cj []))]) hw ?_ (Z3s _) k
 have e:aw (res ([]:List Nat) L) [(n,some (cj []))]=put [] n (some (cj [])):=by simp[res,aw]
 rw[e]
 refine OpL.fresh (L:=[]) (by simp[lk]) λφ a w hop _=>?_
 refine⟨.map (some w.heap.size),{w with heap:=w.heap.push (.map #[] 0)},?_,rfl,rfl,rfl,⟨_,rfl⟩,DD (F:=[]) (by simp[kW]) rfl,λφ' hn _=>⟨_,hn,rfl,rfl⟩⟩;simp[execOp,Instr.makeMap,newObj,Sem.run]
end
end
end Ab
end Go.Proofs.YtegjgpldfgjoiaaGreatDoor
namespace Go.Proofs.YtegjgpldfgjoiaaGreatDoor
open Go Ab
set_option maxRecDepth 100000
set_option maxHeartbeats 40000000
theorem wV:SC Tryz.prog 158 [.s (.slc none 0 (some 0))] 0 [] (.s (aE [])) 0 []:=by
 refine (FC.walk (v:=.s (aE [])) (by kernel_rfl) Tryz.func158 rfl rfl ?_).2
 repeat'(first|exact y0|refine y1 ?_|refine y2 ?_ ?_|refine y4 λh=>?_|refine Unr.next' rfl ?_|refine BrG.tt ?_|refine Fin.le (.inl rfl) rfl ?_ rfl|refine y3 ?_|exact y5|fail)
 exact VLe.s SLe.nil
theorem wY:SC Tryz.prog 158 [.s .emq] 0 [] (.s (aE [])) 0 []:=by
 refine (FC.walk (v:=.s (aE [])) (by kernel_rfl) Tryz.func158 rfl rfl ?_).2
 repeat'(first|exact y0|refine y1 ?_|refine y2 ?_ ?_|refine y4 λh=>?_|refine Unr.next' rfl ?_|refine RegX.atCmp (CmpG.nn false trivial rfl (.inl ⟨rfl,rfl⟩) rfl rfl ?_)|refine y3 ?_|exact y5|fail)
 refine RegX.opA [.app 0 []] rfl rfl ⟨rfl,rfl,rfl,rfl,rfl,rfl,(λh=>nomatch h),by rw[Z24];decide,ac⟩ ?_
 repeat'(first|exact y0|refine y1 ?_|refine y2 ?_ ?_|refine y4 λh=>?_|refine Unr.next' rfl ?_|refine Ex.set 2 (.s (aE [])) (VLe.s (λφ x h=>SLe.emqfrz φ x (SLe.slaemq φ x h))) rfl ?_|refine Fin.le (.inl rfl) rfl (VLe.refl _) rfl|refine y3 ?_|exact y5|fail)
theorem dq (l:List By):eP (λk=>[S.str (l.getD k [])]) l.length=l.map S.str:=by
 rw[jS (λs=>[S.str s]) [] l]
 induction l with
 |nil=>rfl
 |cons a l ih=>simp only[Z0g,Z13,ih,Z35]
theorem eG {bl:Bl} (l:List By):bC bl (l.map S.str)=true:=zS λx hx=>by
 obtain⟨s,_,rfl⟩:=Z1d.1 hx;rfl
theorem tb {l:List By} {k j:Nat} {x:S} (hk:k<l.length) (hx:[S.str (l.getD k [])][j]? =some x):(l.map S.str)[k*1+j]? =some x/\bE x=true:=by
 cases j with
 |succ j=>simp at hx
 |zero=>
  simp only[Z11,Z06] at hx;subst hx;rw[Z1p,Z0p,Z0t,Z01 hk,Z00,Z01 hk];exact⟨rfl,rfl⟩
theorem yB (l:List By) (hl:l.length<1000000):FC Tryz.prog 158 [.s (aE l)] 0 [] (.s (aE l)) 0 []:=by
 cases l with
 |nil=>exact⟨by kernel_rfl,SC.split2 (pre:=[]) (post:=[]) (λφ x h=>oM h) wV wY⟩
 |cons s t=>
  refine wW Tryz.func158 ?_
  repeat'(first|exact y0|refine y1 ?_|refine y2 ?_ ?_|refine y4 λh=>?_|refine Unr.next' rfl ?_|refine RegX.atCmp (CmpG.nn false (Z1n _) rfl (.inl ⟨rfl,rfl⟩) rfl rfl ?_)|refine y3 ?_|exact y5|fail)
  refine RegX.opA [.app (s::t).length ((s::t).map S.str)] rfl rfl ⟨rfl,trivial,rfl,by rw[Z0c],?_,?_,(λh=>nomatch h),?_,aa⟩ ?_
  ·rw[dq,Z24];rfl
  ·rw[dq];exact eG _
  ·rw[show (Tryz.prog.types[9]).bytes=16 by kernel_rfl];omega
  repeat'(first|exact y0|refine y1 ?_|refine y2 ?_ ?_|refine y4 λh=>?_|refine Unr.next' rfl ?_|refine Ex.fz 2 (λk=>[.str ((s::t).getD k [])]) 1 rfl rfl rfl rfl (λ_ _=>rfl) ?_ rfl rfl ?_|refine Fin.le (.inl rfl) rfl (VLe.refl _) rfl|refine y3 ?_|exact y5|fail)
  intro k j x hk hx;exact tb hk hx
theorem zQ:FC Tryz.prog 213 [.s (.slc none 0 (some 0)),nI 0] 0 [] (.s (.slc none 0 (some 0))) 0 []:=by
 refine wW Tryz.func213 ?_
 repeat'(first|exact y0|refine y1 ?_|refine y2 ?_ ?_|refine y4 λh=>?_|refine Unr.next' rfl ?_|refine RegX.cap0 rfl rfl rfl ?_|refine Fin.plain (.inl rfl) rfl ?_ rfl|refine y3 ?_|exact y5|fail)
 all_goals rfl
theorem H3 (n:Nat) (h0:0<n) (hl:n<4000000):FC Tryz.prog 213 [.s (.slc none 0 (some 0)),nI n] 0 [] (.s (.sla 0 1 0)) 2 [(0,some {cells:=[],ty:=9,more:=true,sym:=true,flat:=true,gh:=some (1,1)})]:=by
 refine wW Tryz.func213 ?_
 repeat'(first|exact y0|refine y1 ?_|refine y2 ?_ ?_|refine y4 λh=>?_|refine Unr.next' rfl ?_|refine RegX.cap0 rfl rfl rfl ?_|refine RegX.nilTo rfl rfl rfl rfl rfl ?_ ?_|refine RegX.mkz n rfl rfl rfl rfl rfl rfl rfl rfl rfl ?_ h0 ?_ aa ?_ ?_|refine y3 ?_|exact y5|fail)
 ·rw[show (Tryz.prog.types[9]).bytes=16 by kernel_rfl];omega
 ·refine RegX.opA [.win 0 0 []] rfl rfl ⟨rfl,rfl,Z02 _,Z08 _,by rw[Z24];exact Z08 _,rfl⟩ ?_
  repeat'(first|exact y0|refine y1 ?_|refine y2 ?_ ?_|refine y4 λh=>?_|refine Unr.next' rfl ?_|exact⟨.inl rfl,_,[2,3],VLe.refl _,EndOK.by rfl ⟨rfl,trivial⟩ rfl rfl rfl rfl⟩|refine y3 ?_|exact y5|fail)
theorem Dn (x y:List By) (n m:Nat) (g1 g2:Nat->List S) (hn:x.length=n) (hm':y.length=m) (f1:eP g1 n=x.map S.str) (f2:eP g2 m=y.map S.str) (hx:n<1000000) (hy:m<1000000):FC Tryz.prog 159 [.s (.slc (some (0,0)) 2 (some 2))] 1 [(0,some {cells:=[.frz g1 1 n,.frz g2 1 m],ty:=23})] (.s (aE (x++y))) 1 [(0,some {cells:=[.frz g1 1 n,.frz g2 1 m],ty:=23})]:=by
 refine wW Tryz.func159 ?_;by_cases h0:n+m=0
 ·obtain rfl:x=[]:=Z15 aa
  obtain rfl:n=0:=aa;obtain rfl:y=[]:=Z15 aa;obtain rfl:m=0:=aa
  repeat'(first|exact y0|refine y1 ?_|refine y2 ?_ ?_|refine y4 λh=>?_|refine wX 213 (pu zQ ?_)|refine Unr.next' rfl ?_|refine Ex.unroll 3 ?_|refine RegX.apNil rfl rfl rfl rfl rfl rfl rfl ?_|refine Ex.set 2 (.s (aE [])) (VLe.s SLe.nil) rfl ?_|exact bh|refine y3 ?_|exact y5|fail)
 ·
  have htot:(0:Int)+n+m=((n+m:Nat):Int):=aa
  repeat'(first|exact y0|refine y1 ?_|refine y2 ?_ ?_|refine y4 λh=>?_|refine Unr.next' rfl ?_|refine Ex.unroll 3 ?_|refine RegX.atCall (CallG.me [] (H3 (n+m) aa aa) rfl (args1:=[.s (.slc none 0 (some 0)),nI (0+n+m)]) rfl ⟨VLe.refl _,VLe.of_eq (congrArg nI htot),trivial⟩ trivial rfl rfl rfl ?_)|refine y3 ?_|exact y5|fail)
  refine RegX.opA [.app n (x.map S.str)] rfl rfl ⟨Z5a (Z24 _),trivial,rfl,by rw[Z0c],?_,?_,(λh=>nomatch h),?_,aa⟩ ?_
  ·rw[f1,Z24];rfl
  ·rw[f1];exact eG _
  ·rw[show (Tryz.prog.types[9]).bytes=16 by kernel_rfl];omega
  repeat'(first|exact y0|refine y1 ?_|refine y2 ?_ ?_|refine y4 λh=>?_|refine Unr.next' rfl ?_|refine Ex.unroll 3 ?_|refine y3 ?_|exact y5|fail)
  have hsz1:(Tryz.prog.types[9]).size=1:=by kernel_rfl
  refine RegX.opA [.app (n+m) ((x++y).map S.str)] rfl rfl ⟨?_,trivial,rfl,rfl,?_,?_,(λh=>nomatch h),?_,aa⟩ ?_
  ·rw[hsz1];show n*1<=(x.map S.str).length;simp[hn]
  ·rw[f2,hsz1];show _=(x.map S.str).take (n*1)++_;rw[Z1p,Z1l (by simp[hn]),Z0d]
  ·rw[f2];exact eG _
  ·rw[show (Tryz.prog.types[9]).bytes=16 by kernel_rfl];omega
  repeat'(first|exact y0|refine y1 ?_|refine y2 ?_ ?_|refine y4 λh=>?_|refine Unr.next' rfl ?_|refine Ex.fz 2 (λk=>[.str ((x++y).getD k [])]) 1 rfl rfl rfl rfl (λ_ _=>rfl) ?_ rfl rfl ?_|refine y3 ?_|exact y5|fail)
  ·intro k j s hk hs
   exact tb (by rw[Z03];omega) hs
  ·refine⟨.inl rfl,.s (.frz (λk=>[.str ((x++y).getD k [])]) 1 (n+m)),[],VLe.of_eq ?_,EndOK.by ?_ ?_ rfl rfl rfl rfl⟩
   ·unfold aE;rw[Z03,hn,hm']
   ·rfl
   ·refine⟨?_,trivial⟩
    rfl
theorem aJ {p:Pth} (h:ay p=true):0<=p.up/\p.up<=32/\(p.segs.length:Int)<=32-p.up/\(p.root=true->p.up=0)/\p.segs.all aT=true/\(p.root=true\/0<p.up\/0<p.segs.length):=by
 unfold ay at h;simp only[Z07,decide_eq_true_eq,Z0v,Z1h] at h;obtain⟨⟨⟨⟨⟨h1,h2⟩,h3⟩,h4⟩,h5⟩,h6⟩:=h;refine⟨h1,h3,h4,λhr=>?_,h5,?_⟩
 ·rw[hr] at h2;simpa using h2
 ·rcases h6 with (h|h)|h
  ·exact .inl h
  ·exact .inr (.inl h)
  ·exact .inr (.inr h)
theorem cH {p:Pth} (h:bz p=true):p.root=true/\p.up=0/\p.segs.length<=32:=by
 unfold bz at h;simp only[Z07] at h;obtain⟨h0,h1⟩:=h;obtain⟨a1,a2,a3,a4,_⟩:=aJ h1;have:=a4 h0;exact⟨h0,this,aa⟩
theorem lR (l:List By) {k:Nat} (h:k<=l.length):eP (λi=>[S.str (l.getD i [])]) k=(l.take k).map S.str:=by
 induction k with
 |zero=>rfl
 |succ k ih=>rw[jR,ih aa,Z49,Z0d,Z00,Z01 aa];rfl
def aq (b r:Pth):Pth×Bool:=
 if bz b=false\/ay r=false then (z0,false)
 else if r.root then (⟨true,0,r.segs⟩,true)
 else if (b.segs.length:Int)-r.up<0\/32<(b.segs.length:Int)-r.up+r.segs.length then (z0,false)
 else (⟨true,0,b.segs.take ((b.segs.length:Int)-r.up).toNat++r.segs⟩,true)
theorem wy (br:Bool) (bu:Int) (bs:List By) (rr:Bool) (ru:Int) (rs:List By):
 FC Tryz.prog 95 [.agg [.bool br,.int .i64 bu,aE bs],.agg [.bool rr,.int .i64 ru,aE rs]] 0 [] (vR (aq ⟨br,bu,bs⟩ ⟨rr,ru,rs⟩)) 0 []:=by
 have ha:=xf br bu bs;have hv:=eF rr ru rs;refine wW Tryz.func95 ?_
 cases h1:bz ⟨br,bu,bs⟩<;>rw[h1] at ha
 ·
  repeat'(first|exact y0|refine y1 ?_|refine y2 ?_ ?_|refine y4 λh=>?_|refine wX 94 (bo ha ?_)|refine Fin.le (.inl rfl) rfl (dK (by simp[aq,h1])) rfl|refine y3 ?_|exact y5|fail)
 cases h2:ay ⟨rr,ru,rs⟩<;>rw[h2] at hv
 ·
  repeat'(first|exact y0|refine y1 ?_|refine y2 ?_ ?_|refine y4 λh=>?_|refine wX 94 (bo ha ?_)|refine wX 93 (bo hv ?_)|refine Fin.le (.inl rfl) rfl (dK (by simp[aq,h2])) rfl|refine y3 ?_|exact y5|fail)
 obtain⟨a1,a2,a3⟩:=cH h1;obtain⟨v1,v2,v3,v4,v5,v6⟩:=aJ h2;simp only at a1 a2 a3 v1 v2 v3 v4 v5 v6;cases rr
 ·by_cases hn:(bs.length:Int)-ru<0
  ·
   repeat'(first|exact y0|refine y1 ?_|refine y2 ?_ ?_|refine y4 λh=>?_|refine wX 94 (bo ha ?_)|refine wX 93 (bo hv ?_)|refine Fin.le (.inl rfl) rfl (dK (by simp[aq,h1,h2];omega)) rfl|refine y3 ?_|exact y5|fail)
  ·obtain⟨k,hk⟩:∃ k:Nat,(bs.length:Int)-ru=(k:Int):=⟨((bs.length:Int)-ru).toNat,aa⟩
   have hcc:=Dn (bs.take k) rs k rs.length (λk=>[.str (bs.getD k [])]) (λk=>[.str (rs.getD k [])]) (by rw[Z19];omega) rfl (lR bs aa) (dq rs) aa aa
   repeat'(first|exact y0|refine y1 ?_|refine y2 ?_ ?_|refine y4 λh=>?_|refine wX 94 (bo ha ?_)|refine wX 93 (bo hv ?_)|refine Ex.set 6 (nI k) (VLe.of_eq (congrArg nI hk)) rfl ?_|refine Fin.le (.inl rfl) rfl (dK (by simp[aq,h1,h2];omega)) rfl|refine y3 ?_|exact y5|fail)
   refine RegX.atCall (cf [3] hcc ?_)
   repeat'(first|exact y0|refine y1 ?_|refine y2 ?_ ?_|refine y4 λh=>?_|refine Fin.le (.inl rfl) rfl (gq ?_) rfl|refine y3 ?_|exact y5|fail)
   simp only[aq,h1,h2];rw[if_neg an,if_neg an,if_neg aa,hk];rfl
 ·
  have hcl:=yB rs aa
  repeat'(first|exact y0|refine y1 ?_|refine y2 ?_ ?_|refine y4 λh=>?_|refine wX 94 (bo ha ?_)|refine wX 93 (bo hv ?_)|refine wX 158 (pu hcl ?_)|refine Fin.le (.inl rfl) rfl (gq (by simp[aq,h1,h2])) rfl|refine y3 ?_|exact y5|fail)
theorem Co (b r:Pth):FC Tryz.prog 95 [gw b,gw r] 0 [] (vR (aq b r)) 0 []:=wy b.root b.up b.segs r.root r.up r.segs
theorem Ev {l:List By} {k:Nat} (h:k<=l.length):VLe (.s (.frz (λi=>[.str (l.getD i [])]) 1 k)) (.s (aE (l.take k))):=by
 unfold aE;rw[Z19,Z45 h];refine VLe.s (SLe.frz λi hi=>?_);rw[Z00,Z00,Z2w,if_pos hi]
def aO (p:Pth):Pth×Bool:=if bz p=false\/p.segs.length=0 then (z0,false) else (⟨true,0,p.segs.take (p.segs.length-1)⟩,true)
theorem tT (br:Bool) (bu:Int) (bs:List By):FC Tryz.prog 96 [.agg [.bool br,.int .i64 bu,aE bs]] 0 [] (vR (aO ⟨br,bu,bs⟩)) 0 []:=by
 have ha:=xf br bu bs;refine wW Tryz.func96 ?_
 cases h1:bz ⟨br,bu,bs⟩<;>rw[h1] at ha
 ·
  repeat'(first|exact y0|refine y1 ?_|refine y2 ?_ ?_|refine y4 λh=>?_|refine wX 94 (bo ha ?_)|refine Fin.le (.inl rfl) rfl (dK (by simp[aO,h1])) rfl|refine y3 ?_|exact y5|fail)
 obtain⟨a1,a2,a3⟩:=cH h1;simp only at a1 a2 a3;by_cases h0:bs.length=0
 ·
  repeat'(first|exact y0|refine y1 ?_|refine y2 ?_ ?_|refine y4 λh=>?_|refine wX 94 (bo ha ?_)|refine Fin.le (.inl rfl) rfl (dK (by simp[aO,h1];simp_all;done)) rfl|refine y3 ?_|exact y5|fail)
 ·
  have hcl:=yB (bs.take (bs.length-1)) (by rw[Z19];omega);have hk:(bs.length:Int)-1=((bs.length-1:Nat):Int):=aa
  repeat'(first|exact y0|refine y1 ?_|refine y2 ?_ ?_|refine y4 λh=>?_|refine wX 94 (bo ha ?_)|refine y3 ?_|exact y5|fail)
  refine RegX.chunkN 6 rfl rfl ?_ (RegX.eqv 19 (congrArg nI hk) rfl ?_)
  all_goals
   repeat'(first|exact y0|refine y1 ?_|refine y2 ?_ ?_|refine y4 λh=>?_|refine RegX.atCall (CallG.we hcl rfl ⟨Ev (k:=bs.length-1) aa,trivial⟩ rfl rfl rfl ?_)|refine Fin.le (.inl rfl) rfl (gq ?_) rfl|refine y3 ?_|exact y5|fail)
  unfold aO;rw[if_neg];simp[h1,h0]
theorem BH (p:Pth):FC Tryz.prog 96 [gw p] 0 [] (vR (aO p)) 0 []:=tT p.root p.up p.segs
section
variable {bs:List By} {k:Nat}
def rz (l:List Pth):S:=.frz (λk=>bX (l.getD k z0)) 3 l.length
def scP (bs:List By) (live:Bool) (k:Nat):Pth:=if live then ⟨true,0,bs.take k⟩ else z0
def cJ (bs:List By) (s:By):Nat->List Pth
 |0=>[⟨true,0,[s]⟩]
 |k+1=>if 32<k+2 then cJ bs s k else ⟨true,0,bs.take (k+1)++[s]⟩::cJ bs s k
def aL (b r:Pth):List Pth:=
 if bz b=false\/ay r=false then []
 else if r.root=true\/0<r.up\/r.segs.length≠1 then (if (aq b r).2 then [(aq b r).1] else [])
 else cJ b.segs (r.segs.headD []) b.segs.length
def resS:List Pth->S
 |[]=> .slc none 0 (some 0)
 |p::l=> .sla 3 4 (l.length+1)
def resH:List Pth->Hp
 |[]=>[]
 |p::l=>[(3,some {cells:=(p::l).flatMap bX,ty:=99,more:=true,sym:=true,flat:=true,gh:=some (4,3)})]
theorem BD {p:Pth} {j:Nat} {x:S} (h:(bX p)[j]? =some x):bE x=true:=by
 unfold bX at h
 match j,h with
 |0,h=>cases h;rfl
 |1,h=>cases h;rfl
 |2,h=>cases h;rfl
 |j+3,h=>simp at h
theorem jc:∀ {l:List Pth} {k j:Nat} {x:S},k<l.length->(bX (l.getD k z0))[j]? =some x->(l.flatMap bX)[k*3+j]? =some x/\bE x=true
 |[],k,j,x,hk,_=>by simp at hk
 |p::l,0,j,x,hk,hx=>by
  refine⟨?_,BD hx⟩
  have hj:j<(bX p).length:=by
   rcases Z0a j (bX p).length with h|h
   ·exact h
   ·exfalso;simp only[Z34] at hx;rw[Z0b h] at hx;cases hx
  rw[Z24,Z0c,Z0g,Z0x hj];exact hx
 |p::l,k+1,j,x,hk,hx=>by
  have:=jc (l:=l) (k:=k) (j:=j) (x:=x) (by simpa using hk) hx;refine⟨?_,this.2⟩;rw[Z0g,Z1f (by simp[bX];omega)];rw[show (k+1)*3+j-(bX p).length=k*3+j by simp[bX];omega];exact this.1
theorem ry (p:Pth):∀ (k j:Nat) (x:S),k<1->(bX ([p].getD k z0))[j]? =some x->(bX p)[k*3+j]? =some x/\bE x=true:=by
 intro k j x hk hx;have:=jc (l:=[p]) (k:=k) (j:=j) (x:=x) hk hx
 simpa using this
theorem vm (h:bz ⟨true,0,bs⟩=true):bz ⟨true,0,bs.take k⟩=true:=by
 unfold bz ay at*;simp only[Z07,decide_eq_true_eq,Z1r,Z3e,Z3m,Z0i,Z19] at*;obtain⟨⟨⟨⟨h1,h2⟩,h3⟩,h4⟩,h5⟩:=h;refine⟨⟨⟨⟨h1,h2⟩,h3⟩,aa⟩,λx hx=>h5 x (Z2x hx)⟩
theorem qf {s0:By} (h:bz ⟨true,0,bs⟩=true) (hv:ay ⟨false,0,[s0]⟩=true) (hk:k<=bs.length):aq ⟨true,0,bs.take k⟩ ⟨false,0,[s0]⟩=if 32<k+1 then (z0,false) else (⟨true,0,bs.take k++[s0]⟩,true):=by
 have h1:=vm (k:=k) h
 have hl:(bs.take k).length=k:=by rw[Z19];omega
 unfold aq;rw[if_neg (by simp[h1,hv]),if_neg an];simp only[hl,Z0n];by_cases h32:32<k+1
 ·rw[if_pos h32,if_pos aa]
 ·rw[if_neg h32,if_neg aa,Int.sub_zero,Z12,List.take_take,Nat.min_self]
theorem mj (h:bz ⟨true,0,bs⟩=true) (hk:k<=bs.length):aO ⟨true,0,bs.take k⟩=if k=0 then (z0,false) else (⟨true,0,bs.take (k-1)⟩,true):=by
 have h1:=vm (k:=k) h
 have hl:(bs.take k).length=k:=by rw[Z19];omega
 unfold aO;simp only[h1,hl];by_cases hk0:k=0
 ·rw[if_pos hk0,if_pos (.inr hk0)]
 ·rw[if_neg hk0,if_neg (by simp[hk0]),List.take_take,Z45 aa]
theorem cn:∀ l:List Pth,(l.flatMap bX).length=l.length*3
 |[]=>rfl
 |p::l=>by rw[Z0g,Z03,cn l];simp only[Z04];simp[bX];omega
theorem fv (bs:List By) (s0:By):∀ k,(cJ bs s0 k).length<=k+1
 |0=>by simp[cJ]
 |k+1=>by
  have:=fv bs s0 k;unfold cJ;split
  ·omega
  ·simp only[Z04];omega
theorem Im (br:Bool) (bu:Int) (bs:List By) (rr:Bool) (ru:Int) (rs:List By):
 FC Tryz.prog 49 [.agg [.bool br,.int .i64 bu,aE bs],.agg [.bool rr,.int .i64 ru,aE rs]] 0 [] (.s (rz (aL ⟨br,bu,bs⟩ ⟨rr,ru,rs⟩))) 0 []:=by
 have ha:=xf br bu bs;have hv:=eF rr ru rs;have hj:=wy br bu bs rr ru rs;refine wW Tryz.func49 ?_
 cases h1:bz ⟨br,bu,bs⟩<;>rw[h1] at ha
 ·
  repeat'(first|exact y0|refine y1 ?_|refine y2 ?_ ?_|refine y4 λh=>?_|refine wX 94 (bo ha ?_)|refine Fin.le (.inl rfl) rfl ?_ rfl|refine y3 ?_|exact y5|fail)
  simp only[aL,h1];exact VLe.s SLe.nil
 cases h2:ay ⟨rr,ru,rs⟩<;>rw[h2] at hv
 ·
  repeat'(first|exact y0|refine y1 ?_|refine y2 ?_ ?_|refine y4 λh=>?_|refine wX 94 (bo ha ?_)|refine wX 93 (bo hv ?_)|refine Fin.le (.inl rfl) rfl ?_ rfl|refine y3 ?_|exact y5|fail)
  simp only[aL,h1,h2];exact VLe.s SLe.nil
 obtain⟨a1,a2,a3⟩:=cH h1;obtain⟨v1,v2,v3,v4,v5,v6⟩:=aJ h2;simp only at a1 a2 a3 v1 v2 v3 v4 v5 v6;by_cases hc:rr=true\/0<ru\/rs.length≠1
 ·have hcand:aL ⟨br,bu,bs⟩ ⟨rr,ru,rs⟩=if (aq ⟨br,bu,bs⟩ ⟨rr,ru,rs⟩).2 then [(aq ⟨br,bu,bs⟩ ⟨rr,ru,rs⟩).1] else []:=by
   unfold aL;rw[if_neg (by simp[h1,h2]),if_pos hc]
  rw[hcand];generalize aq ⟨br,bu,bs⟩ ⟨rr,ru,rs⟩=j at*;obtain⟨p,ok⟩:=j;cases ok
  ·cases rr
   ·have hc':0<ru\/rs.length≠1:=by simpa using hc
    repeat'(first|exact y0|refine y1 ?_|refine y2 ?_ ?_|refine y4 λh=>?_|refine wX 94 (bo ha ?_)|refine wX 93 (bo hv ?_)|refine wX 95 (pu hj ?_)|refine Fin.le (.inl rfl) rfl ?_ rfl|refine y3 ?_|exact y5|fail)
    all_goals exact VLe.s SLe.nil
   ·
    repeat'(first|exact y0|refine y1 ?_|refine y2 ?_ ?_|refine y4 λh=>?_|refine wX 94 (bo ha ?_)|refine wX 93 (bo hv ?_)|refine wX 95 (pu hj ?_)|refine Fin.le (.inl rfl) rfl ?_ rfl|refine y3 ?_|exact y5|fail)
    all_goals exact VLe.s SLe.nil
  ·cases rr
   ·have hc':0<ru\/rs.length≠1:=by simpa using hc
    repeat'(first|exact y0|refine y1 ?_|refine y2 ?_ ?_|refine y4 λh=>?_|refine wX 94 (bo ha ?_)|refine wX 93 (bo hv ?_)|refine wX 95 (pu hj ?_)|refine RegX.app [.app 1 (bX p)] rfl rfl ?_ rfl rfl rfl ?_|refine Ex.fz 4 (λk=>bX ([p].getD k z0)) 3 rfl rfl rfl rfl (λk _=>rfl) (ry p) rfl rfl ?_|refine Fin.le (.inl rfl) rfl ?_ rfl|refine y3 ?_|exact y5|fail)
    all_goals first
     |exact VLe.refl _
     |(rw[show (Tryz.prog.types[99]).size=3 by kernel_rfl];exact Z02 _)
     |(rw[show (Tryz.prog.types[99]).bytes=40 by kernel_rfl];omega)
   ·
    repeat'(first|exact y0|refine y1 ?_|refine y2 ?_ ?_|refine y4 λh=>?_|refine wX 94 (bo ha ?_)|refine wX 93 (bo hv ?_)|refine wX 95 (pu hj ?_)|refine RegX.app [.app 1 (bX p)] rfl rfl ?_ rfl rfl rfl ?_|refine Ex.fz 4 (λk=>bX ([p].getD k z0)) 3 rfl rfl rfl rfl (λk _=>rfl) (ry p) rfl rfl ?_|refine Fin.le (.inl rfl) rfl ?_ rfl|refine y3 ?_|exact y5|fail)
    all_goals first
     |exact VLe.refl _
     |(rw[show (Tryz.prog.types[99]).size=3 by kernel_rfl];exact Z02 _)
     |(rw[show (Tryz.prog.types[99]).bytes=40 by kernel_rfl];omega)
 ·have hr:rr=false:=by cases rr<;>simp_all
  have hu:ru=0:=by
   have: ¬0<ru:=λh=>hc (.inr (.inl h))
   omega
  have hl:rs.length=1:=Z4c.1 λh=>hc (.inr (.inr h))
  obtain⟨s0,rfl⟩:∃ s0,rs=[s0]:=Z5o.1 hl;subst hr hu a1 a2
  have hcand:aL ⟨true,0,bs⟩ ⟨false,0,[s0]⟩=cJ bs s0 bs.length:=by
   unfold aL;rw[if_neg (by simp[h1,h2]),if_neg an];rfl
  rw[hcand]
  repeat'(first|exact y0|refine y1 ?_|refine y2 ?_ ?_|refine y4 λh=>?_|refine wX 94 (bo ha ?_)|refine wX 93 (bo hv ?_)|refine y3 ?_|exact y5|fail)
  refine Ex.upN (n':=5) aa ?_
  refine Ex.inv (σ:=Bool×Nat×List Pth) (λx=>[(5,.s (resS x.2.2)),(8,.s (.ptr (some (2,0)))),(9,.s (.bool x.1))])
   (λx=>(0,some {cells:=[.bool true,.int .i64 0,aE bs],ty:=99})::(1,some {cells:=[.bool false,.int .i64 0,aE [s0]],ty:=99})::(2,some {cells:=bX (scP bs x.1 x.2.1),ty:=99})::resH x.2.2)
   (λx=>x.2.1<=bs.length/\x.2.2++(if x.1 then cJ bs s0 x.2.1 else [])=cJ bs s0 bs.length) (λx=>if x.1 then x.2.1+1 else 0) (true,bs.length,[]) rfl (λ_=>rfl) ⟨Z02 _,an⟩ aV ⟨rfl,rfl,?_,trivial⟩ ?_
  ·simp only[scP,bX,if_true,Z1v];rfl
  ·rintro⟨live,k,done⟩ ⟨i1,i2⟩
   simp only at i1 i2 |-;cases live
   ·simp only[Z0l,if_false,Z0u] at i2
    subst i2
    cases hd:cJ bs s0 bs.length with
    |nil=>
     repeat'(first|exact y0|refine y1 ?_|refine y2 ?_ ?_|refine y4 λh=>?_|refine Fin.le (.inl rfl) rfl (VLe.s SLe.nil) rfl|refine y3 ?_|exact y5|fail)
    |cons d l=>
     repeat'(first|exact y0|refine y1 ?_|refine y2 ?_ ?_|refine y4 λh=>?_|refine Ex.fz 4 (λk=>bX ((d::l).getD k z0)) 3 rfl rfl rfl rfl (λk _=>rfl) (λk j x hk hx=>jc hk hx) rfl rfl ?_|refine Fin.le (.inl rfl) rfl (VLe.refl _) rfl|refine y3 ?_|exact y5|fail)
   ·have hjk:=wy true 0 (bs.take k) false 0 [s0]
    have hpk:=tT true 0 (bs.take k);rw[qf h1 h2 i1] at hjk;rw[mj h1 i1] at hpk;simp only[if_true] at i2
    have hlen:done.length<=33:=by
     have e1:=fv bs s0 bs.length;rw[<-i2,Z03] at e1;omega
    have hsz:(Tryz.prog.types[99]).size=3:=by kernel_rfl
    have hby:(Tryz.prog.types[99]).bytes=40:=by kernel_rfl
    cases k with
    |zero=>
     rw[if_neg aa] at hjk;rw[if_pos rfl] at hpk;simp only[cJ] at i2
     cases done with
     |nil=>
      repeat'(first|refine Ex.flat 7 rfl rfl rfl rfl ?_|exact y0|refine y1 ?_|refine y2 ?_ ?_|refine y4 λh=>?_|refine wX 95 (pu hjk ?_)|refine wX 96 (pu hpk ?_)|refine RegX.app [.app 1 (bX (Pth.mk true 0 (bs.take 0++[s0])))] rfl rfl ?_ rfl rfl rfl ?_|refine y3 ?_|exact y5|fail)
      all_goals try first
       |(rw[hsz];exact Z02 _)
       |(simp only[Z03,Z04,Z0e];done)
       |(rw[hby];simp only[Z04] at hlen;omega)
       |(rw[hby];simp only[Z04,Z03,Z0e] at hlen |-;omega)
       |(simp only[Z04,Z03,Z0e] at hlen |-;omega)
       |(rw[hsz,cn];exact Z02 _)
       |(rw[hsz,Z0r];show _=List.take ((d::l).length*3) (List.flatMap bX (d::l))++_;rw[<-cn,Z1v];rfl)
       |(unfold bC;rfl)
      refine LoopR.move (false,0,[Pth.mk true 0 (bs.take 0++[s0])]) ⟨Z08 _,?_⟩ an [0,1,9,7,8] rfl ?_ ?_ rfl
      ·simpa using i2
      ·repeat' (first|exact VLe.refl _|exact VLe.any _|exact Z0o|refine⟨?_,?_⟩)
      ·exact⟨rfl,rfl,rfl,rfl,trivial⟩
     |cons d l=>
      repeat'(first|exact y0|refine y1 ?_|refine y2 ?_ ?_|refine y4 λh=>?_|refine wX 95 (pu hjk ?_)|refine wX 96 (pu hpk ?_)|refine RegX.app [.app ((l++[Pth.mk true 0 (bs.take 0++[s0])]).length+1) ((d::l++[Pth.mk true 0 (bs.take 0++[s0])]).flatMap bX)] rfl rfl ?_ rfl rfl rfl ?_|refine y3 ?_|exact y5|fail)
      all_goals try first
       |(rw[hsz];exact Z02 _)
       |(simp only[Z03,Z04,Z0e];done)
       |(rw[hby];simp only[Z04] at hlen;omega)
       |(rw[hby];simp only[Z04,Z03,Z0e] at hlen |-;omega)
       |(simp only[Z04,Z03,Z0e] at hlen |-;omega)
       |(rw[hsz,cn];exact Z02 _)
       |(rw[hsz,Z0r];show _=List.take ((d::l).length*3) (List.flatMap bX (d::l))++_;rw[<-cn,Z1v];rfl)
       |(unfold bC;rfl)
      refine LoopR.move (false,0,(d::l++[Pth.mk true 0 (bs.take 0++[s0])])) ⟨Z08 _,?_⟩ an [0,1,9,7,8] rfl ?_ ?_ rfl
      ·simpa using i2
      ·repeat' (first|exact VLe.refl _|exact VLe.any _|exact Z0o|refine⟨?_,?_⟩)
      ·exact⟨rfl,rfl,rfl,rfl,trivial⟩
    |succ k=>
     rw[if_neg aa] at hpk;simp only[cJ] at i2;by_cases h32:32<k+2
     ·rw[if_pos h32] at i2
      rw[if_pos aa] at hjk
      cases done with
      |nil=>
       repeat'(first|exact y0|refine y1 ?_|refine y2 ?_ ?_|refine y4 λh=>?_|refine wX 95 (pu hjk ?_)|refine wX 96 (pu hpk ?_)|refine y3 ?_|exact y5|fail)
       refine LoopR.move (true,k,[]) ⟨by simp only;omega,?_⟩ an [0,1,6,3,4] rfl ?_ ?_ rfl
       ·simpa using i2
       ·repeat' (first|exact VLe.refl _|exact VLe.any _|exact Z0o|refine⟨?_,?_⟩)
       ·exact⟨rfl,rfl,rfl,trivial⟩
      |cons d l=>
       repeat'(first|exact y0|refine y1 ?_|refine y2 ?_ ?_|refine y4 λh=>?_|refine wX 95 (pu hjk ?_)|refine wX 96 (pu hpk ?_)|refine y3 ?_|exact y5|fail)
       refine LoopR.move (true,k,(d::l)) ⟨by simp only;omega,?_⟩ an [0,1,6,3,4] rfl ?_ ?_ rfl
       ·simpa using i2
       ·repeat' (first|exact VLe.refl _|exact VLe.any _|exact Z0o|refine⟨?_,?_⟩)
       ·exact⟨rfl,rfl,rfl,rfl,trivial⟩
     ·rw[if_neg h32] at i2
      rw[if_neg aa] at hjk
      cases done with
      |nil=>
       repeat'(first|refine Ex.flat 7 rfl rfl rfl rfl ?_|exact y0|refine y1 ?_|refine y2 ?_ ?_|refine y4 λh=>?_|refine wX 95 (pu hjk ?_)|refine wX 96 (pu hpk ?_)|refine RegX.app [.app 1 (bX (Pth.mk true 0 (bs.take (k+1)++[s0])))] rfl rfl ?_ rfl rfl rfl ?_|refine y3 ?_|exact y5|fail)
       all_goals try first
        |(rw[hsz];exact Z02 _)
        |(simp only[Z03,Z04,Z0e];done)
        |(rw[hby];simp only[Z04] at hlen;omega)
        |(rw[hby];simp only[Z04,Z03,Z0e] at hlen |-;omega)
        |(simp only[Z04,Z03,Z0e] at hlen |-;omega)
        |(rw[hsz,cn];exact Z02 _)
        |(rw[hsz,Z0r];show _=List.take ((d::l).length*3) (List.flatMap bX (d::l))++_;rw[<-cn,Z1v];rfl)
        |(unfold bC;rfl)
       refine LoopR.move (true,k,[Pth.mk true 0 (bs.take (k+1)++[s0])]) ⟨by simp only;omega,?_⟩ an [0,1,9,7,8] rfl ?_ ?_ rfl
       ·simpa using i2
       ·repeat' (first|exact VLe.refl _|exact VLe.any _|exact Z0o|refine⟨?_,?_⟩)
       ·exact⟨rfl,rfl,rfl,rfl,trivial⟩
      |cons d l=>
       repeat'(first|exact y0|refine y1 ?_|refine y2 ?_ ?_|refine y4 λh=>?_|refine wX 95 (pu hjk ?_)|refine wX 96 (pu hpk ?_)|refine RegX.app [.app ((l++[Pth.mk true 0 (bs.take (k+1)++[s0])]).length+1) ((d::l++[Pth.mk true 0 (bs.take (k+1)++[s0])]).flatMap bX)] rfl rfl ?_ rfl rfl rfl ?_|refine y3 ?_|exact y5|fail)
       all_goals try first
        |(rw[hsz];exact Z02 _)
        |(simp only[Z03,Z04,Z0e];done)
        |(rw[hby];simp only[Z04] at hlen;omega)
        |(rw[hby];simp only[Z04,Z03,Z0e] at hlen |-;omega)
        |(simp only[Z04,Z03,Z0e] at hlen |-;omega)
        |(rw[hsz,cn];exact Z02 _)
        |(rw[hsz,Z0r];show _=List.take ((d::l).length*3) (List.flatMap bX (d::l))++_;rw[<-cn,Z1v];rfl)
        |(unfold bC;rfl)
       refine LoopR.move (true,k,(d::l++[Pth.mk true 0 (bs.take (k+1)++[s0])])) ⟨by simp only;omega,?_⟩ an [0,1,9,7,8] rfl ?_ ?_ rfl
       ·simpa using i2
       ·repeat' (first|exact VLe.refl _|exact VLe.any _|exact Z0o|refine⟨?_,?_⟩)
       ·exact⟨rfl,rfl,rfl,rfl,trivial⟩
theorem w4 (b r:Pth):FC Tryz.prog 49 [gw b,gw r] 0 [] (.s (rz (aL b r))) 0 []:=Im b.root b.up b.segs r.root r.up r.segs
end
inductive Ends (p:List Nd) (e:Nat):Nat->Nat->Prop
 |done:Ends p e 0 e
 |step {n i:Nat} (h:i<p.length) (k:Nat) (hk:(p.getD i dN).kids=k) (r:Ends p e (n+k) (i+1)):Ends p e (n+1) i
theorem qe (op kids:Int) (h:(av op kids).2=true):((av op kids).1.length:Int)=kids:=by
 unfold av at*;split at h
 ·split at h
  ·cases h
  ·rename_i h5 h7
   simp only[if_pos h5,if_neg h7,Z19];show ((min kids.toNat 7:Nat):Int)=kids;omega
 ·split at h
  ·split at h
   ·cases h
   ·rename_i h5 h33 h7
    simp only[if_neg h5,if_pos h33,if_neg h7,Z19];show ((min kids.toNat 7:Nat):Int)=kids;omega
  ·split at h
   ·rename_i h5 h33 h31
    simp only[if_neg h5,if_neg h33,if_pos h31];show (3:Int)=kids;omega
   ·rename_i h5 h33 h31
    simp only[if_neg h5,if_neg h33,if_neg h31]
    simpa using h
theorem Ends.kids {p:List Nd} {ch:Int->Nat->Option Nat} (hch:∀ k i e,ch k i=some e->∀ n e',Ends p e' n e->Ends p e' (n+1) i):∀ (ks:By) (i e:Nat),dX ch ks i=some e->∀ n e',Ends p e' n e->Ends p e' (n+ks.length) i
 |[],i,e,h,n,e',r=>by simp only[dX,Z06] at h;subst h;exact r
 |k::ks,i,e,h,n,e',r=>by
  simp only[dX] at h;split at h
  ·rename_i e1 h1
   exact hch _ _ _ h1 _ _ (Ends.kids hch ks e1 e h n e' r)
  ·cases h
theorem Ends.block {p:List Nd} {rec:Nat->Option Nat} (hr:∀ i e,rec i=some e->∀ n e',Ends p e' n e->Ends p e' (n+1) i):∀ (k i e:Nat),cG rec k i=some e->∀ n e',Ends p e' n e->Ends p e' (n+k) i
 |0,i,e,h,n,e',r=>by simp only[cG,Z06] at h;subst h;exact r
 |k+1,i,e,h,n,e',r=>by
  simp only[cG] at h;split at h
  ·rename_i e1 h1
   exact hr _ _ h1 _ _ (Ends.block hr k e1 e h n e' r)
  ·cases h
def vw (p:List Nd) (E:Nat->Int->Option Nat):Prop:=∀ i k e,E i k=some e->∀ n e',Ends p e' n e->Ends p e' (n+1) i
theorem Ends.elemS {p:List Nd} {ok:Bool} {E0 E1:Nat->Int->Option Nat} (h0:vw p E0) (h1:vw p E1):vw p (elemS p ok E0 E1):=by
 intro i k e h n e' r;unfold Go.Proofs.YtegjgpldfgjoiaaGreatDoor.elemS at h;split at h
 ·cases h
 ·rename_i x hx
  split at h
  ·rename_i hc
   have hi:i<p.length:=by
    rcases Z0a i p.length with q|q
    ·exact q
    ·rw[Z0b q] at hx;cases hx
   have hxe:p.getD i dN=x:=by rw[Z00,hx];rfl
   refine Ends.step hi (av x.op x.kids).1.length (by rw[hxe];exact (qe _ _ hc.2.2).symm) ?_;refine Ends.kids (λk i e hch n e' r=>?_) _ _ _ h n e' r;unfold dm at hch;split at hch
   ·split at hch
    ·cases hch
    ·rename_i y hy
     split at hch
     ·rename_i hb
      have hi2:i<p.length:=by
       rcases Z0a i p.length with q|q
       ·exact q
       ·rw[Z0b q] at hy;cases hy
      have hye:p.getD i dN=y:=by rw[Z00,hy];rfl
      refine Ends.step hi2 y.kids.toNat (by rw[hye];have:=hb.2.2.2.2;omega) ?_;exact Ends.block (λi e h=>h1 i k e h) _ _ _ hch n e' r
     ·cases hch
   ·exact h0 i k e hch n e' r
  ·cases h
theorem Ends.elemF {p:List Nd}:∀ f,vw p (elemF p f)/\vw p (Go.Proofs.YtegjgpldfgjoiaaGreatDoor.elemF p (f+1))
 |0=>by
  refine⟨λi k e h=>(by cases h),?_⟩;rw[eq];exact Ends.elemS (λi k e h=>by cases h) (λi k e h=>by cases h)
 |f+1=>by
  have ih:=Ends.elemF (p:=p) f;refine⟨ih.2,?_⟩;rw[eq];exact Ends.elemS ih.2 ih.1
theorem Ends.le {p:List Nd} {e n i:Nat} (h:Ends p e n i):i+n<=e/\(i<=p.length->e<=p.length):=by
 induction h with
 |done=>exact⟨Z02 _,id⟩
 |step h k hk r ih=>exact⟨aa,λ_=>ih.2 aa⟩
abbrev Ei (p:List Nd):Hp:=[(0,some {cells:=[.frz (λk=>ndC (p.getD k dN)) 4 p.length],ty:=186,more:=true,ro:=true})]
theorem CS (p:List Nd) (hp:p.length<=2048) (i e:Nat) (h:Ends p e 1 i):FC Tryz.prog 227 [.s (.ptr (some (0,0))),nI i] 1 (Ei p) (nI e) 1 (Ei p):=by
 refine wW Tryz.func227 ?_
 repeat'(first|exact y0|refine y1 ?_|refine y2 ?_ ?_|refine y4 λh=>?_|refine y3 ?_|exact y5|fail)
 refine Ex.inv (σ:=Nat×Nat) (λx=>[(1,nI x.2),(5,nI x.1)]) (λx=>Ei p) (λx=>Ends p e x.1 x.2) (λx=>p.length-x.2+(if x.1=0 then 0 else 1)) (1,i) rfl (λ_=>rfl) h aV ⟨rfl,trivial⟩ ?_;rintro⟨n,j⟩ hE;simp only at hE |-
 cases hE with
 |done=>
  repeat'(first|exact y0|refine y1 ?_|refine y2 ?_ ?_|refine y4 λh=>?_|exact bh|refine y3 ?_|exact y5|fail)
 | @step n1 _ hlt k hk r=>
   obtain⟨l1,l2⟩:=r.le;have l3:=l2 aa
   repeat'(first|exact y0|refine y1 ?_|refine y2 ?_ ?_|refine y4 λh=>?_|refine y3 ?_|exact y5|fail)
   all_goals try exact y7
   refine LoopR.same (n1+k,j+1) r ?_ rfl ⟨VLe.of_eq (congrArg nI ?_),VLe.of_eq (congrArg nI ?_),trivial⟩ ⟨rfl,trivial⟩ rfl rfl ac
   ·simp only
    rw[if_neg (Nat.succ_ne_zero n1)]
    split<;>omega
   ·push_cast;rfl
   ·push_cast;omega
inductive Chain (p:List Nd) (f:Nat):Nat->List Nat->Prop
 |nil:Chain p f f []
 |cons {j e:Nat} {l:List Nat} (h:Ends p e 1 j) (r:Chain p f e l):Chain p f j (j::l)
def d9 (l:List Nat):S:=.frz (λk=>[.int .i64 ((l.getD k 0:Nat):Int)]) 1 l.length
abbrev uz (l:List Nat):List S:=l.map λ(j:Nat)=>S.int .i64 (j:Int)
def chS:List Nat->S
 |[]=> .slc (some (1,0)) 0 (some 8)
 |_::l=> .sla 1 2 (l.length+1)
def chB:List Nat->Bl
 |[]=>{cells:=List.replicate 8 (.int .i64 0),ty:=3,sym:=true,flat:=true}
 |j::l=>{cells:=uz (j::l),ty:=3,more:=true,sym:=true,flat:=true,gh:=some (2,1)}
theorem Cs {l:List Nat} {k j:Nat} {x:S} (hk:k<l.length) (hx:[S.int .i64 ((l.getD k 0:Nat):Int)][j]? =some x):(uz l)[k*1+j]? =some x/\bE x=true:=by
 cases j with
 |succ j=>simp at hx
 |zero=>
  simp only[Z11,Z06] at hx;subst hx;rw[Z1p,Z0p,Z0t,Z01 hk,Z00,Z01 hk];exact⟨rfl,rfl⟩
theorem fQ (p:List Nd) (hp:p.length<=2048) (i f:Nat) (hi:i<p.length) (cs:List Nat) (hk:(p.getD i dN).kids=(cs.length:Nat)) (hc:Chain p f (i+1) cs) (hl:cs.length<=2048):
 FC Tryz.prog 228 [.s (.ptr (some (0,0))),nI i] 1 (Ei p) (.s (d9 cs)) 1 (Ei p):=by
 refine wW Tryz.func228 ?_
 repeat'(first|exact y0|refine y1 ?_|refine y2 ?_ ?_|refine y4 λh=>?_|refine y3 ?_|exact y5|fail)
 refine RegX.opA [.idx 0,.idx 8] rfl rfl ⟨rfl,rfl,ac,?_,ac⟩ ?_
 ·rw[show (Tryz.prog.types[3]).bytes=8 by kernel_rfl];decide
 repeat'(first|exact y0|refine y1 ?_|refine y2 ?_ ?_|refine y4 λh=>?_|refine y3 ?_|exact y5|fail)
 refine Ex.set 7 .any (VLe.any _) rfl (Ex.upN (n':=3) aa ?_);refine Ex.inv (σ:=List Nat×Nat×List Nat) (λx=>[(5,.s (chS x.1)),(6,nI x.2.1),(18,nI x.1.length)]) (λx=>(0,some {cells:=[.frz (λk=>ndC (p.getD k dN)) 4 p.length],ty:=186,more:=true,ro:=true})::(1,some (chB x.1))::[]) (λx=>x.1++x.2.2=cs/\Chain p f x.2.1 x.2.2) (λx=>x.2.2.length) ([],i+1,cs) rfl (λ_=>rfl) ⟨rfl,hc⟩ aV ⟨rfl,rfl,trivial⟩ ?_;rintro⟨done,j,rest⟩ ⟨h1,h2⟩;simp only at h1 h2 |-;rw[hk]
 cases h2 with
 |nil=>
  rw[Z0u] at h1;subst h1
  cases done with
  |nil=>
   repeat'(first|exact y0|refine y1 ?_|refine y2 ?_ ?_|refine y4 λh=>?_|refine Ex.set 4 (.s (d9 [])) (VLe.s SLe.slcfrz) rfl ?_|exact bh|refine y3 ?_|exact y5|fail)
  |cons d l=>
   repeat'(first|exact y0|refine y1 ?_|refine y2 ?_ ?_|refine y4 λh=>?_|refine Ex.fz 4 (λk=>[.int .i64 (((d::l).getD k 0:Nat):Int)]) 1 rfl rfl rfl rfl (λ_ _=>rfl) ?_ rfl rfl ?_|exact bh|refine y3 ?_|exact y5|fail)
   exact λk j x hk hx=>Cs hk hx
 | @cons _ e rest he r=>
   have hlen:done.length+(rest.length+1)=cs.length:=by rw[<-h1];simp
   have hsz:(Tryz.prog.types[3]).size=1:=by kernel_rfl
   have hby:(Tryz.prog.types[3]).bytes=8:=by kernel_rfl
   have hend:=CS p hp j e he
   cases done with
   |nil=>
    repeat'(first|exact y0|refine y1 ?_|refine y2 ?_ ?_|refine y4 λh=>?_|refine RegX.app [.app 1 (uz [j])] rfl rfl ?_ rfl rfl rfl ?_|refine RegX.atCall (cm hend ?_)|refine y3 ?_|exact y5|fail)
    all_goals try first
     |(rw[hsz];exact Z02 _)
     |(rw[hby];omega)
    refine LoopR.move ([j],e,rest) ⟨by simpa using h1,r⟩ an [0,4,5] rfl ?_ ?_ rfl
    ·repeat' (first|exact VLe.refl _|exact VLe.any _|exact Z0o|refine⟨?_,?_⟩)
    ·exact⟨rfl,rfl,trivial⟩
   |cons d l=>
    have hlen':l.length+1+(rest.length+1)=cs.length:=hlen
    repeat'(first|exact y0|refine y1 ?_|refine y2 ?_ ?_|refine y4 λh=>?_|refine RegX.app [.app ((l++[j]).length+1) (uz (d::l++[j]))] rfl rfl ?_ rfl rfl rfl ?_|refine RegX.atCall (cm hend ?_)|refine y3 ?_|exact y5|fail)
    all_goals try first
     |(rw[hsz];exact Z02 _)
     |(simp only[Z03,Z04,Z0e];done)
     |(rw[hby];simp only[Z03,Z04,Z0e];omega)
     |(simp only[Z03,Z04,Z0e];omega)
     |(rw[hsz];show (l.length+1)*1<=(uz (d::l)).length;simp)
     |(rw[hsz];show uz (d::l++[j])=List.take ((l.length+1)*1) (uz (d::l))++_;rw[Z1l an,uz,Z0d];rfl)
     |(unfold bC;rfl)
    refine LoopR.move (d::l++[j],e,rest) ⟨by simpa using h1,r⟩ an [0,4,5] rfl ?_ ?_ rfl
    ·repeat' (first|exact VLe.refl _|exact VLe.any _|exact Z0o|exact VLe.of_eq (congrArg nI an)|refine⟨?_,?_⟩)
    ·exact⟨rfl,rfl,trivial⟩
theorem kC (p:List Nd) (hw:mS p) (i:Nat) (hi:i<p.length):
 FC Tryz.prog 178 [.s (.ptr (some (0,0))),nI i] 1 (Ei p) (gw (ah (p.getD i dN).str).1) 1 (Ei p):=by
 have hpp:=fF (p.getD i dN).str (qI hw i);refine wW Tryz.func178 ?_
 repeat'(first|exact y0|refine y1 ?_|refine y2 ?_ ?_|refine y4 λh=>?_|refine wX 48 (pu hpp ?_)|exact bh|refine y3 ?_|exact y5|fail)
section
variable {p:List Nd} {i:Nat} {x:Nd}
inductive Fo where
 |nil
 |cons (x:Nd) (k n:Fo)
def Fo.flat:Fo->List Nd
 | .nil=>[]
 | .cons x k n=>x::(k.flat++n.flat)
def Fo.cnt:Fo->Nat
 | .nil=>0
 | .cons _ _ n=>n.cnt+1
def Fo.size:Fo->Nat
 | .nil=>0
 | .cons _ k n=>1+k.size+n.size
def Fo.dep:Fo->Nat
 | .nil=>0
 | .cons _ k n=>max (1+k.dep) n.dep
def Fo.At (p:List Nd):Fo->Nat->Prop
 | .nil,_=>True
 | .cons x k n,i=>p[i]? =some x/\x.kids=(k.cnt:Int)/\k.At p (i+1)/\n.At p (i+1+k.size)
def dd (ks:By):List (Bool×Int):=ks.map λc=>(dh (c.toNat:Int),(c.toNat:Int))
def Fo.V:Fo->List (Bool×Int)->Prop
 | .nil,[]=>True
 | .cons x k n,(true,c)::cs=>(x.op=4/\x.int=0/\x.str=[])/\k.V (List.replicate k.cnt (false,c))/\n.V cs
 | .cons x k n,(false,c)::cs=>(bn c x.op=true/\bP x c=true/\(av x.op x.kids).2=true)/\k.V (dd (av x.op x.kids).1)/\n.V cs
 |_,_=>False
theorem Fo.V_cnt:∀ {t:Fo} {cs:List (Bool×Int)},t.V cs->t.cnt=cs.length
 | .nil,[],_=>rfl
 | .nil,_::_,h=>h.elim
 | .cons x k n,[],h=>by simp[V] at h
 | .cons x k n,(true,c)::cs,h=>by simp only[cnt,Z04,V_cnt h.2.2]
 | .cons x k n,(false,c)::cs,h=>by simp only[cnt,Z04,V_cnt h.2.2]
theorem Fo.cnt_le:∀ t:Fo,t.cnt<=t.size
 | .nil=>Z02 _
 | .cons x k n=>by have:=cnt_le n;simp only[cnt,size];omega
def sT (p:List Nd) (sl:Bool×Int) (f i e:Nat):Prop:=∃ x k,(Fo.cons x k .nil).At p i/\(Fo.cons x k .nil).V [sl]/\k.dep<f/\e=i+1+k.size
def ForestAt (p:List Nd) (cs:List (Bool×Int)) (f i e:Nat):Prop:=∃ t:Fo,t.At p i/\t.V cs/\t.dep<=f/\e=i+t.size
theorem ForestAt.cons {sl:Bool×Int} {cs:List (Bool×Int)} {f e e':Nat} (h:sT p sl f i e) (r:ForestAt p cs f e e'):ForestAt p (sl::cs) f i e':=by
 obtain⟨x,k,h1,h2,h3,rfl⟩:=h;obtain⟨t,r1,r2,r3,rfl⟩:=r;refine⟨.cons x k t,⟨h1.1,h1.2.1,h1.2.2.1,r1⟩,?_,?_,?_⟩
 ·obtain⟨b,c⟩:=sl
  cases b
  ·exact⟨h2.1,h2.2.1,r2⟩
  ·exact⟨h2.1,h2.2.1,r2⟩
 ·simp only[Fo.dep];omega
 ·simp only[Fo.size];omega
theorem ForestAt.nil (p:List Nd) (f i:Nat):ForestAt p [] f i i:=⟨.nil,trivial,trivial,Z08 _,rfl⟩
theorem ForestAt.block {p:List Nd} {sl:Bool×Int} {f:Nat} {rec:Nat->Option Nat} (hr:∀ i e,rec i=some e->sT p sl f i e):∀ (k i e:Nat),cG rec k i=some e->ForestAt p (List.replicate k sl) f i e
 |0,i,e,h=>by simp only[cG,Z06] at h;subst h;exact ForestAt.nil ..
 |k+1,i,e,h=>by
  simp only[cG] at h;split at h
  ·rename_i e1 h1
   exact ForestAt.cons (hr _ _ h1) (ForestAt.block hr k e1 e h)
  ·cases h
theorem ForestAt.kids {p:List Nd} {f:Nat} {ch:Int->Nat->Option Nat} (hch:∀ k i e,ch k i=some e->sT p (dh k,k) f i e):∀ (ks:By) (i e:Nat),dX ch ks i=some e->ForestAt p (dd ks) f i e
 |[],i,e,h=>by simp only[dX,Z06] at h;subst h;exact ForestAt.nil ..
 |k::ks,i,e,h=>by
  simp only[dX] at h;split at h
  ·rename_i e1 h1
   exact ForestAt.cons (hch _ _ _ h1) (ForestAt.kids hch ks e1 e h)
  ·cases h
def TreeP (p:List Nd) (f:Nat) (E:Nat->Int->Option Nat):Prop:=∀ i k e,E i k=some e->sT p (false,k) f i e
theorem TreeP.elemS {ok:Bool} {f:Nat} {E0 E1:Nat->Int->Option Nat} (h0:TreeP p f E0) (h1:ok=true->TreeP p (f-1) E1) (hf:ok=true->1<=f):TreeP p (f+1) (elemS p ok E0 E1):=by
 intro i k e h;unfold Go.Proofs.YtegjgpldfgjoiaaGreatDoor.elemS at h;split at h
 ·cases h
 ·rename_i x hx
  split at h
  ·rename_i hc
   have hk:=qe _ _ hc.2.2
   obtain⟨t,t1,t2,t3,t4⟩:=ForestAt.kids (p:=p) (f:=f) (λk i e hch=>(by
    unfold dm at hch;split at hch
    ·rename_i hb
     split at hch
     ·cases hch
     ·rename_i y hy
      split at hch
      ·rename_i hyb
       obtain⟨b1,b2,b3,b4,b5⟩:=hyb;obtain⟨t,t1,t2,t3,t4⟩:=ForestAt.block (λi e h=>h1 b1 i k e h) _ _ _ hch;have hcnt:=Fo.V_cnt t2;rw[Z36] at hcnt;rw[hb];refine⟨y,t,⟨hy,by rw[hcnt];omega,t1,trivial⟩,⟨⟨b2,b3,b4⟩,by rw[hcnt];exact t2,trivial⟩,?_,aa⟩;have:=hf b1;omega
      ·cases hch
    ·rename_i hb
     have hb:dh k=false:=by simpa using hb
     rw[hb]
     exact h0 i k e hch)) _ _ _ h
   have hcnt:=Fo.V_cnt t2;rw[dd,Z0z] at hcnt;exact⟨x,t,⟨hx,by rw[hcnt,hk],t1,trivial⟩,⟨hc,t2,trivial⟩,aa,aa⟩
  ·cases h
theorem TreeP.elemF {p:List Nd}:∀ f,TreeP p f (Go.Proofs.YtegjgpldfgjoiaaGreatDoor.elemF p f)/\TreeP p (f+1) (Go.Proofs.YtegjgpldfgjoiaaGreatDoor.elemF p (f+1))
 |0=>by
  refine⟨λi k e h=>(by cases h),?_⟩;rw[eq];exact TreeP.elemS (λi k e h=>by cases h) (λh=>by simp at h) (λh=>by simp at h)
 |f+1=>by
  have ih:=TreeP.elemF (p:=p) f;refine⟨ih.2,?_⟩;rw[eq];exact TreeP.elemS ih.2 (λ_=>ih.1) (λ_=>by omega)
theorem nK {p:List Nd}:∀ (n i:Nat),i<=p.length->pA p n i=true->∃ t:Fo,t.At p i/\t.V (List.replicate t.cnt (false,68))/\t.dep<=32/\p.length=i+t.size
 |0,i,_,h=>by cases h
 |n+1,i,hi,h=>by
  simp only[pA] at h;split at h
  ·rename_i hlt
   split at h
   ·rename_i e he
    obtain⟨x,k,h1,h2,h3,h4⟩:=(TreeP.elemF (p:=p) 32).1 i 68 e he;obtain⟨t,t1,t2,t3,t4⟩:=nK n e (cV he).2 h;subst h4;refine⟨.cons x k t,⟨h1.1,h1.2.1,h1.2.2.1,t1⟩,⟨h2.1,h2.2.1,t2⟩,?_,?_⟩
    ·simp only[Fo.dep];omega
    ·simp only[Fo.size];omega
   ·cases h
  ·rename_i hge
   exact⟨.nil,trivial,trivial,Z08 _,by simp only[Fo.size];omega⟩
theorem j8 (h:cy p=true):p.length<=2048/\∃ t:Fo,t.At p 0/\t.V (List.replicate t.cnt (false,68))/\t.dep<=32/\t.size=p.length:=by
 unfold cy at h;simp only[Z07,decide_eq_true_eq] at h;obtain⟨t,t1,t2,t3,t4⟩:=nK _ 0 (Z08 _) h.2;exact⟨h.1,t,t1,t2,t3,aa⟩
theorem At.lt {k n:Fo} (h:(Fo.cons x k n).At p i):i<p.length:=by
 rcases Z0a i p.length with q|q
 ·exact q
 ·have:=h.1;rw[Z0b q] at this;cases this
theorem At.get {k n:Fo} (h:(Fo.cons x k n).At p i):p.getD i dN=x:=by
 rw[Z00,h.1];rfl
theorem At.ends {p:List Nd}:∀ {t:Fo} {i m e:Nat},t.At p i->Ends p e m (i+t.size)->Ends p e (m+t.cnt) i
 | .nil,i,m,e,_,r=>r
 | .cons x k n,i,m,e,h,r=>by
   have hk:(p.getD i dN).kids=(k.cnt:Nat):=by rw[At.get h];exact h.2.1
   have r1:Ends p e (m+n.cnt) (i+1+k.size):=At.ends h.2.2.2 (by simp only[Fo.size] at r;rw[show i+1+k.size+n.size=i+(1+k.size+n.size) by omega];exact r);have r2:Ends p e (m+n.cnt+k.cnt) (i+1):=At.ends h.2.2.1 r1;exact Ends.step (At.lt h) k.cnt hk r2
theorem At.ends1 {k n:Fo} (h:(Fo.cons x k n).At p i):Ends p (i+1+k.size) 1 i:=by
 have h1:(Fo.cons x k .nil).At p i:=⟨h.1,h.2.1,h.2.2.1,trivial⟩
 have:=At.ends (m:=0) (e:=i+1+k.size) h1 (by simp only[Fo.size];rw[show i+(1+k.size+0)=i+1+k.size by omega];exact Ends.done)
 simpa [Fo.cnt] using this
def Fo.starts:Fo->Nat->List Nat
 | .nil,_=>[]
 | .cons _ k n,i=>i::n.starts (i+1+k.size)
theorem bp:∀ (t:Fo) (i:Nat),(t.starts i).length=t.cnt
 | .nil,_=>rfl
 | .cons x k n,i=>by simp only[Fo.starts,Z04,bp n,Fo.cnt]
theorem At.chain {p:List Nd}:∀ {t:Fo} {i:Nat},t.At p i->Chain p (i+t.size) i (t.starts i)
 | .nil,i,_=>Chain.nil
 | .cons x k n,i,h=>by
   refine Chain.cons (At.ends1 h) ?_;have:=At.chain h.2.2.2;simp only[Fo.size];rw[show i+1+k.size+n.size=i+(1+k.size+n.size) by omega] at this;exact this
theorem At.size_le {p:List Nd}:∀ {t:Fo} {i:Nat},i<=p.length->t.At p i->i+t.size<=p.length
 | .nil,i,hi,_=>hi
 | .cons x k n,i,hi,h=>by
   have h1:=At.lt h;have h2:=At.size_le h1 h.2.2.1;have:=At.size_le h2 h.2.2.2;simp only[Fo.size];omega
end
end Go.Proofs.YtegjgpldfgjoiaaGreatDoor
namespace Go.Proofs.YtegjgpldfgjoiaaGreatDoor
open Go.Shelf Go.RowKit
def Tryz.lays156_ren:Go.Shelf.Ren:=⟨fun|156=>98|165=>161|166=>162|169=>164|240=>216|241=>217|276=>249|277=>250|n=>n,fun|31=>23|9=>9|3=>3|4=>4|0=>0|20=>20|72=>222|76=>225|70=>219|37=>220|75=>224|127=>273|164=>289|5=>5|80=>42|n=>n,fun|n=>n⟩
theorem Tryz.lays156:Go.Proofs.Lays.n156 Tryz.prog Tryz.lays156_ren:={
 mixed:=by kernel_rfl
 f156:=Tryz.func98.trans (congrArg some (by kernel_rfl))
 f165:=Tryz.func161.trans (congrArg some (by kernel_rfl))
 f166:=Tryz.func162.trans (congrArg some (by kernel_rfl))
 f169:=Tryz.func164.trans (congrArg some (by kernel_rfl))
 f240:=Tryz.func216.trans (congrArg some (by kernel_rfl))
 f241:=Tryz.func217.trans (congrArg some (by kernel_rfl))
 f276:=Tryz.func249.trans (congrArg some (by kernel_rfl))
 f277:=Tryz.func250.trans (congrArg some (by kernel_rfl))
 t0:=Tryz.underlying0
 a0:=Tryz.isAgg0
 z0:=Tryz.sizeOf0
 v0:=Tryz.zeroValue0
 t3:=Tryz.underlying3
 a3:=Tryz.isAgg3
 z3:=Tryz.sizeOf3
 v3:=Tryz.zeroValue3
 t4:=Tryz.underlying4
 a4:=Tryz.isAgg4
 z4:=Tryz.sizeOf4
 v4:=Tryz.zeroValue4
 t9:=Tryz.underlying9
 a9:=Tryz.isAgg9
 z9:=Tryz.sizeOf9
 v9:=Tryz.zeroValue9
 t20:=Tryz.underlying20
 a20:=Tryz.isAgg20
 z20:=Tryz.sizeOf20
 v20:=Tryz.zeroValue20
 t31:=Tryz.underlying23
 a31:=Tryz.isAgg23
 z31:=Tryz.sizeOf23
 v31:=Tryz.zeroValue23
 t37:=Tryz.underlying220
 a37:=Tryz.isAgg220
 z37:=Tryz.sizeOf220
 v37:=Tryz.zeroValue220
 t70:=Tryz.underlying219
 a70:=Tryz.isAgg219
 z70:=Tryz.sizeOf219
 v70:=Tryz.zeroValue219
 t72:=Tryz.underlying222
 a72:=Tryz.isAgg222
 z72:=Tryz.sizeOf222
 v72:=Tryz.zeroValue222
 t75:=Tryz.underlying224
 a75:=Tryz.isAgg224
 z75:=Tryz.sizeOf224
 v75:=Tryz.zeroValue224
 t76:=Tryz.underlying225
 a76:=Tryz.isAgg225
 z76:=Tryz.sizeOf225
 v76:=Tryz.zeroValue225
 t127:=Tryz.underlying273
 a127:=Tryz.isAgg273
 z127:=Tryz.sizeOf273
 v127:=Tryz.zeroValue273
 t164:=Tryz.underlying289
 a164:=Tryz.isAgg289
 z164:=Tryz.sizeOf289
 v164:=Tryz.zeroValue289}
theorem Tryz.Builder_Extra_156:Builder.Extra Tryz.prog Tryz.lays156_ren:={
 sizeBuilder:=by kernel_rfl
 liesBuilder:=by kernel_rfl
 t5:=Tryz.underlying5
 a5:=Tryz.isAgg5
 z5:=Tryz.sizeOf5
 v5:=Tryz.zeroValue5
 infoByte:=by kernel_rfl
 cellsByte:=by kernel_rfl
 sizeByte:=by kernel_rfl
 neB5:=by decide}
open Go.RowKit in
theorem Tryz.strings_Join_none (a:Option Addr) (c:Nat) (sep:ByteArray) (w:World):
 Calls Tryz.prog 98 #[.slice a 0 c,.string sep] w λe w'=>e=.returned (.string ⟨#[]⟩)/\w'=w:=Any.strings_Join_none Tryz.lays156 Tryz.Builder_Extra_156 a c sep w
open Go.RowKit in
theorem Tryz.strings_Join (bk o c:Nat) (xs:List ByteArray) (sep:ByteArray) (w:World) (hcells:∀ (j:Nat) x,xs[j]? =some x->w.cell? ⟨bk,o+j,none⟩=some (.string x)) (hbk:bk<w.heap.size) (hN:xs.length<=140737488355328) (hcap:xs.length<=c) (hlen:(Lib.join (xs.map (·.data.toList)) sep.data.toList).length<=140737488355328):
 Calls Tryz.prog 98 #[.slice (some ⟨bk,o,none⟩) xs.length c,.string sep] w λe w'=>e=.returned (.string ⟨(Lib.join (xs.map (·.data.toList)) sep.data.toList).toArray⟩)/\Below w.heap.size w w':=Any.strings_Join Tryz.lays156 Tryz.Builder_Extra_156 bk o c xs sep w hcells hbk hN hcap hlen
end Go.Proofs.YtegjgpldfgjoiaaGreatDoor
namespace Go.Proofs.YtegjgpldfgjoiaaGreatDoor
open Go Ab
set_option maxRecDepth 100000
set_option maxHeartbeats 40000000
theorem EC (l:List By) (sep:By) (hN:l.length<=140737488355328) (hlen:(Lib.join l sep).length<=140737488355328):FC Tryz.prog 98 [.s (aE l),sV sep] 0 [] (sV (Lib.join l sep)) 0 []:=by
 refine FC.below (by kernel_rfl) λφ xs w hx hg=>?_
 match xs,hx with
 |[a,b],⟨h1,h2,_⟩=>
  have h2:b=.string ⟨sep.toArray⟩:=h2;subst h2;have h1:Pr φ.z (aE l) a:=h1;unfold aE at h1;generalize hn:l.length=n at h1
  cases h1 with
  |nil _ _ ad k hk=>
   have hl:l=[]:=Z4u.1 hn;subst hl;refine (Tryz.strings_Join_none ad k ⟨sep.toArray⟩ w).mono ?_;rintro e w' ⟨rfl,rfl⟩;exact⟨_,rfl,λ_ _=>rfl,Go.RowKit.Below.refl _ _⟩
  |frz _ _ _ bk o k vs hz hle val hl hv hpx=>
   obtain⟨⟨ty,fr,hb⟩,_⟩:=hg.fz bk vs hz
   have hcell:∀ (j:Nat) x,(l.map λs=>(⟨s.toArray⟩:ByteArray))[j]? =some x->w.cell? ⟨bk,o+j,none⟩=some (.string x):=by
    intro j x hj;rw[Z0t] at hj
    have hjl:j<l.length:=by
     rcases Z0a j l.length with q|q
     ·exact q
     ·rw[Z0b q] at hj;cases hj
    rw[Z01 hjl] at hj;simp only[Z1j,Z06] at hj;have e0:([S.str (l.getD j [])]:List S)[0]? =some (.str (l.getD j [])):=rfl;have h3:=hv j 0 _ aa e0;have h4:=hpx j 0 _ aa e0
    have h5:val j 0=.string ⟨(l.getD j []).toArray⟩:=by
     generalize val j 0=y at h4;cases h4;rfl
    rw[Z1p,Z0p,h5] at h3;simp only[World.cell?,hb,Z2b,Z0l,if_false,Z1a];rw[h3,<-hj,Z00,Z01 hjl];rfl
   have hmap:(l.map λs=>(⟨s.toArray⟩:ByteArray)).map (·.data.toList)=l:=by rw[List.map_map];simp[Function.comp_def]
   have:=Tryz.strings_Join bk o k (l.map λs=>(⟨s.toArray⟩:ByteArray)) ⟨sep.toArray⟩ w hcell (hg.fzlt hz) (by simpa using hN) (by simp;omega) (by rw[hmap];simpa using hlen);rw[hmap,Z0z,hn] at this;refine this.mono ?_;rintro e w' ⟨rfl,hbl⟩;exact⟨_,rfl,λ_ _=>rfl,hbl⟩
theorem zt (s:By):FC Tryz.prog 97 [sV s,nI 0] 0 [] (sV []) 0 []:=by
 refine wW Tryz.func97 ?_
 repeat'(first|exact y0|refine y1 ?_|refine y2 ?_ ?_|refine y4 λh=>?_|refine Fin.str (.inl rfl) rfl rfl|refine y3 ?_|exact y5|fail)
def aI (p:Pth):By:=if ay p then (if p.root then [92] else List.replicate p.up.toNat 94)++Lib.join p.segs [46] else []
theorem ek {s:By} (h:aT s=true):1<=s.length/\s.length<=4:=by
 unfold aT at h;simp only[Z07,decide_eq_true_eq] at h;exact h.1
theorem m7:∀ {l:List By},l.all aT=true->(Lib.join l [46]).length<=5*l.length
 |[],_=>by simp[Lib.join]
 |[x],h=>by
  simp only[Z1b,Z2u,Z3m] at h;have:=ek h;simp[Lib.join];omega
 |x::y::l,h=>by
  have h1:aT x=true/\(y::l).all aT=true:=by simpa using h
  have:=ek h1.1;have ih:=m7 h1.2
  have e:Lib.join (x::y::l) [46]=x++46::Lib.join (y::l) [46]:=by simp[Lib.join,List.intercalate]
  rw[e];simp only[Z03,Z04] at ih |-;omega
theorem JI (up:Int) (segs:List By):FC Tryz.prog 50 [.agg [.bool true,.int .i64 up,aE segs]] 0 [] (sV (aI ⟨true,up,segs⟩)) 0 []:=by
 have hv:=eF true up segs;refine wW Tryz.func50 ?_
 cases h1:ay ⟨true,up,segs⟩<;>rw[h1] at hv
 ·
  repeat'(first|exact y0|refine y1 ?_|refine y2 ?_ ?_|refine y4 λh=>?_|refine wX 93 (bo hv ?_)|refine Fin.str (.inl rfl) rfl ?_|refine y3 ?_|exact y5|fail)
  unfold aI;rw[h1];rfl
 ·
  obtain⟨v1,v2,v3,v4,v5,v6⟩:=aJ h1;simp only at v1 v2 v3 v4 v5 v6;have hu:=v4 trivial;subst hu;have hjl:=m7 v5;have hj:=EC segs [46] aa aa;have hr:=zt [94]
  repeat'(first|exact y0|refine y1 ?_|refine y2 ?_ ?_|refine y4 λh=>?_|refine wX 93 (bo hv ?_)|refine wX 97 (pu hr ?_)|refine wX 98 (pu hj ?_)|refine Fin.str (.inl rfl) rfl ?_|refine y3 ?_|exact y5|fail)
  ·show ((1+(Lib.join segs [46]).length:Nat):Int)<=9223372036854775807
   omega
  ·unfold aI;rw[h1];rfl
theorem oO (p:Pth) (h:p.root=true):FC Tryz.prog 50 [gw p] 0 [] (sV (aI p)) 0 []:=by
 obtain⟨r,u,s⟩:=p;simp only at h;subst h;exact JI u s
end Go.Proofs.YtegjgpldfgjoiaaGreatDoor
namespace Go.Proofs.YtegjgpldfgjoiaaGreatDoor
namespace Ab
open Go
theorem OpL.conv {P:Program} {o:Oper} {env env1:List V} {n n':Nat} {M M1 M' M1':Hp} {v v1:V} (he:∀ x∈o.op.operands,VLe (ev env x) (ev env1 x)) (hM:∀ j,lk M1 j=lk M j) (hv:VLe v v1) (hM':SubF M1' M')
 (h:OpL P o env1 n M v n' M'):OpL P o env n M1 v1 n' M1':=by
 intro φ a w Q hx hg hf
 have s1:vv M M1:=λi bl hi=>by rw[hM];exact hi
 have s2:vv M1 M:=λi bl hi=>by rw[<-hM];exact hi
 refine Z4v ?_ (h φ a w Q (λx hxo=>he x hxo φ _ (hx x hxo)) (hg.sub s1) hf);rintro a' w' ⟨φ',x,e1,e2,g,st,hφ⟩;refine⟨φ',x,e1,hv φ' x e2,g.subF hM',⟨st.os,st.tape,st.output,st.size,λb hb hn=>st.keep b hb λhw=>hn (hw.sub s1),λj bl b hj hb hlt=>?_,st.zle,λb l hb=>?_⟩,hφ⟩
 ·obtain⟨bl0,q1,q2,_⟩:=hM' j bl hj
  obtain⟨k,bl',c,hk,r1,r2,r3,r4⟩:=st.fresh j bl0 b q1 hb hlt;exact⟨k,bl',c,s1 _ _ hk,r1,r2,λhr=>q2.trans (r3 hr),r4⟩
 ·rcases st.zfr b l hb with q|q|q
  ·exact .inl q
  ·exact .inr (.inl q)
  ·exact .inr (.inr (q.sub s1))
section
variable {P:Program} {b:Nat} {ops:Array Oper} {d:Bool} {acc:List Row} {os:List Oper} {o:Oper} {env:List V} {n:Nat} {L:Hp} {R:Post}
theorem RegX.apr {dst:Option Tmp} {td tx:Tmp} {t tx' e:TypeId} {t':TypeId} {pos:String} {af:Array Edge} {gd:Option (Nat×Bool)} {dx:TypeDesc} {inf:TypeInfo} {zs:List S} {i g m w:Nat} {cs:List S} {foot:List Nat} {k:Nat} {add:List S} {D:Prop}
 (hd:env.getD td .undef=.s (.row i g m)) (hl:lk L i=eI e g w cs) (hlen:cs.length=m*w) (hne:Nat.beq td tx=false)
 (ht:P.underlying t=some (.slice e)) (htx:P.underlying tx'=some dx) (hdx:gY dx=true) (hi:P.info? e=some inf) (hz:dz P e=some zs) (hsz:inf.size=zs.length) (hw:inf.size=w) (hw0:0<w)
 (hs:fE L w k (gT (env.getD tx .undef))=some (foot,k,add,D)) (hD:D) (hk:1<=k) (hadd:add≠[]) (hnp:add.all bM=true) (hbig:(m+k)*inf.bytes<=140737488355328) (hmax:m+k<=140737488355328)
 (hwant:aY ops env ⟨dst,.call ⟨.builtin .append,#[.tmp td,.tmp tx],#[t,tx']⟩,t',pos,af,gd⟩=some true)
 (kk:RegX P ops d (aG d ⟨dst,.call ⟨.builtin .append,#[.tmp td,.tmp tx],#[t,tx']⟩,t',pos,af,gd⟩ (i::foot) [(i,none),(n,eI e (n+1) w (cs++add))] acc) os (a_ env dst (.s (.row n (n+1) (m+k)))) (n+2) (aw L [(i,none),(n,eI e (n+1) w (cs++add))]) R):
 RegX P ops d acc (⟨dst,.call ⟨.builtin .append,#[.tmp td,.tmp tx],#[t,tx']⟩,t',pos,af,gd⟩::os) env n L R:=by
 refine RegX.op (foot:=i::foot) (wr:=[(i,none),(n,eI e (n+1) w (cs++add))]) hwant ?_ aa kk
 have hnetd:td≠tx:=λh=>by subst h;rw[Z2n] at hne;cases hne
 have tdlt:td<env.length:=by
  rcases Z0a td env.length with h|h
  ·exact h
  ·rw[Z00,Z0b h] at hd;cases hd
 have e1:∀ v,(env.set td v).getD td .undef=v:=λv=>by simp[Z00,tdlt]
 have e2:∀ v,(env.set td v).getD tx .undef=env.getD tx .undef:=λv=>by simp[Z00,Z53 hnetd]
 have hopr:∀ v,VLe (.s (.row i g m)) v->∀ x∈(⟨dst,.call ⟨.builtin .append,#[.tmp td,.tmp tx],#[t,tx']⟩,t',pos,af,gd⟩:Oper).op.operands,VLe (ev env x) (ev (env.set td v) x):=by
  intro v hv x hx;simp only[Op.operands,Call.operands] at hx
  have hx:x=.tmp td\/x=.tmp tx:=by simpa using hx
  rcases hx with rfl|rfl
  ·show VLe (env.getD td .undef) _
   rw[hd];show VLe _ ((env.set td v).getD td .undef);rw[e1];exact hv
  ·show VLe (env.getD tx .undef) ((env.set td v).getD tx .undef)
   rw[e2];exact VLe.refl _
 subst hw
 cases cs with
 |nil=>
  have hm:m=0:=by
   rcases Nat.mul_eq_zero.1 hlen.symm with h|h
   ·exact h
   ·omega
  subst hm;have hl:lk L i=none:=hl
  have h0:VLe (.s (.row i g 0)) (.s (.slc none 0 (some 0))):=by
   intro φ v hv
   rcases hv with ⟨_,rfl⟩|⟨h,_⟩
   ·exact⟨rfl,rfl,rfl⟩
   ·omega
  have hfit:bC {cells:=[],ty:=e,flat:=false} add=true:=by
   unfold bC
   refine Z0i.2 λx hx=>?_
   have:=Z0i.1 hnp x hx
   cases x<;>first|rfl|cases this
  have core:=dL (P:=P) (env:=env.set td (.s (.slc none 0 (some 0)))) (n:=n) (L:=L) (o:=⟨dst,.call ⟨.builtin .append,#[.tmp td,.tmp tx],#[t,tx']⟩,t',pos,af,gd⟩) (d:=.tmp td) (x:=.tmp tx) (fl:=false) (bi:=none) (len:=0) (bl:={cells:=[],ty:=e,flat:=false}) (C:=True) (m:=k) (m0:=k) (cs:=add) (sy:=true) (r:=0+k)
   rfl rfl rfl rfl rfl ht htx hdx hi hz hsz (by show eY P L e inf.size false ((env.set td _).getD td .undef)=_;rw[e1];simp only[eY,hz,Z2c]) (by show fE L inf.size k (gT ((env.set td _).getD tx .undef))=_;rw[e2];exact hs) trivial hD rfl rfl an hfit (λ_=>hk) hbig hmax
  refine OpL.conv (hopr _ h0) (λj=>?_) ?_ ?_ core
  ·rw[bq,bq]
   by_cases hj:j=i
   ·subst hj;simp[hl]
   ·by_cases hf:j∈foot<;>simp[hj,hf]
  ·exact VLe.s (SLe.slarow aa)
  ·intro j bl' hj
   rw[g9]
   cases hadd':([]++add:List S) with
   |nil=>exact absurd (by simpa using hadd') hadd
   |cons c tl=>
    rw[hadd'] at hj;have hj:lk (aw (res (i::foot) L) (eR (some i)++[(n,some {cells:=c::tl,ty:=e,more:=true,sym:=true,flat:=true,gh:=some (n+1,inf.size)})])) j=some bl':=hj;rw[g9] at hj;split at hj
    ·cases hj
     refine⟨_,if_pos ‹_›,rfl,λφ w b hb=>?_⟩
     have e3:add=c::tl:=by simpa using hadd'
     rw[e3] at hb hnp;exact BlAt.flat (bl:={cells:=c::tl,ty:=e,more:=true,sym:=true,gh:=some (n+1,inf.size)}) hnp hb
    ·split at hj
     ·cases hj
     ·rename_i hnj hij
      have hij: ¬i=j:=λh=>hij (by rw[h])
      refine⟨bl',?_,rfl,λ_ _ _ h=>h⟩;rw[if_neg hnj,if_neg an];rw[bq] at hj |-;by_cases hf:j∈foot
      ·simpa [hf] using hj
      ·simp[hf,Z48 hij] at hj
 |cons c tl=>
  have hm:0<m:=by
   rcases Z21 m with h|h
   ·subst h;simp at hlen
   ·exact h
  have hl:lk L i=some {cells:=c::tl,ty:=e,more:=true,sym:=true,flat:=true,gh:=some (g,inf.size)}:=hl
  have core:=dL (P:=P) (env:=env.set td (.s (.sla i g m))) (n:=n) (L:=L) (o:=⟨dst,.call ⟨.builtin .append,#[.tmp td,.tmp tx],#[t,tx']⟩,t',pos,af,gd⟩) (d:=.tmp td) (x:=.tmp tx) (fl:=false) (bi:=some i) (len:=m) (bl:={cells:=c::tl,ty:=e,more:=true,sym:=true,flat:=true,gh:=some (g,inf.size)}) (C:=m*inf.size<=(c::tl).length) (m:=k) (m0:=k) (cs:=(c::tl)++add) (sy:=true) (r:=m+k)
   rfl rfl rfl rfl rfl ht htx hdx hi hz hsz (by show eY P L e inf.size false ((env.set td _).getD td .undef)=_;rw[e1];simp[eY,hl]) (by show fE L inf.size k (gT ((env.set td _).getD tx .undef))=_;rw[e2];exact hs) (by rw[hlen];exact Z02 _) hD rfl rfl (by rw[<-hlen,Z1v]) (by unfold bC;simp only;exact hnp) (λh=>by cases h) hbig hmax
  refine OpL.conv (hopr _ (VLe.s (SLe.rowsla hm))) (λj=>rfl) (VLe.s (SLe.slarow aa)) (SubF.refl _) core
end
section
variable {n':Nat} {ops:Array Oper} {d:Bool}
section
variable {P:Program} {b:Nat} {c y:Code} {env:List V} {n:Nat} {L:Hp} {R:Post}
theorem Ex.toC {env':List V} {L':Hp} (hb:b<=n') (h:To b n' env L env' L') (k:Ex P b c env' n' L' R):Ex P b c env n L R:=by
 intro φ a w h1 h2 h3 h4;obtain⟨φ1,g1,g2,g3,g4,g5⟩:=h φ φ L w w a h1 h2 (Stp.refl _ _ _);refine wp_mono (k φ1 a w g1 g2 g3 hb) ?_;rintro x a' w' ⟨φ',e,m,M,hR,k1,k2,k3,k4,k5,k6⟩;exact⟨φ',e,m,M,hR,k1,k2,k3,k4,g4.trans k5,λi hi=>(k6 i hi).trans (g5 i hi)⟩
def ov (X:List (Nat×V)):Nat->Nat->List V
 |_,0=>[]
 |i,k+1=>(match hY X i with|some v=>v|none=> .any)::ov X (i+1) k
def vP (r:Nat->Nat) (X:List (Nat×V)):List (Nat×V):=X.map λp=>(p.1,bW r p.2)
theorem uK {r:Nat->Nat}:∀ {X:List (Nat×V)} {i:Nat},hY (vP r X) i=(hY X i).map (bW r)
 |[],_=>rfl
 |(j,v)::t,i=>by
  show hY ((j,bW r v)::vP r t) i=_;simp only[hY];split
  ·rfl
  ·exact uK (X:=t)
theorem xZ {r:Nat->Nat} {X:List (Nat×V)}:∀ (k i:Nat),(ov X i k).map (bW r)=ov (vP r X) i k
 |0,_=>rfl
 |k+1,i=>by
  simp only[ov,Z13,xZ k,uK];congr 1
  cases hY X i<;>rfl
theorem B5 {X:List (Nat×V)}:∀ {e:List V} {i:Nat},(∀ j v,hY X (i+j)=some v->VLe (e.getD j .undef) v)->All2 VLe e (ov X i e.length)
 |[],_,_=>trivial
 |v::e,i,h=>by
  simp only[Z04,ov];refine⟨?_,B5 λj u hj=>?_⟩
  ·have h0:=h 0
   simp only[Z0p,Z34] at h0;split
   ·rename_i u hu;exact h0 u hu
   ·exact VLe.any _
  ·have:=h (j+1) u (by rw[<-hj];congr 1;omega)
   simpa using this
def CutOK (b N n':Nat) (X:List (Nat×V)) (H:Hp) (e:List V) (M:Hp):Prop:=
 ∃ tbl:List Nat,tbl.length=n'/\e.length=N/\XLe e (vP (rn tbl 0) X)/\MemP (rn tbl 0) M H/\mL b tbl (ov X 0 N) H=true
theorem CutOK.to {b N:Nat} {X:List (Nat×V)} {H:Hp} {e:List V} {M:Hp} (h:CutOK b N n' X H e M):To b n' e M (ov X 0 N) H/\b<=n':=by
 obtain⟨tbl,rfl,rfl,h1,h2,h3⟩:=h;refine⟨To.move tbl ?_ h2 h3,?_⟩
 ·rw[xZ]
  exact B5 λj v hj=>h1.at (by simpa using hj)
 ·simp only[mL,Z07] at h3
  exact Z1y h3.2
def CutR (b N n':Nat) (X:List (Nat×V)) (H:Hp):Post:=λx e m M=>x=.normal/\CutOK b N n' X H e M
theorem Ex.cut (N n':Nat) (X:List (Nat×V)) (H:Hp) {E:List V} (hE:fY (ov X 0 N) [] some=some E) (h:Ex P b c env n L (CutR b N n' X H)) (k:Ex P b y E n' H R):Ex P b c env n L (Then P b y R):=by
 rw[jk] at hE;have hE:ov X 0 N=E:=Z1c hE;refine h.mono ?_;rintro x e m M ⟨rfl,hc⟩;obtain⟨h1,h2⟩:=hc.to;exact Ex.toC h2 h1 (hE▸k)
theorem Ex.cutB (id N n':Nat) (X:List (Nat×V)) (H:Hp) {E:List V} (hE:fY (ov X 0 N) [] some=some E) (h:Ex P b (.block id c) env n L (CutR b N n' X H)) (k:Ex P b y E n' H R):Ex P b (.block id c) env n L (Then P b y R):=Ex.cut N n' X H hE h k
theorem Ex.cutS (id N n':Nat) (X:List (Nat×V)) (H:Hp) {E:List V} (hE:fY (ov X 0 N) [] some=some E) (h:Ex P b (.seq (.region id ops d) c) env n L (CutR b N n' X H)) (k:Ex P b y E n' H R):Ex P b (.seq (.region id ops d) c) env n L (Then P b y R):=Ex.cut N n' X H hE h k
theorem Ex.cutC (t:Tmp) (N n':Nat) (X:List (Nat×V)) (H:Hp) {E:List V} {x z:Code} (hE:fY (ov X 0 N) [] some=some E) (h:Ex P b (.cond (.tmp t) x z) env n L (CutR b N n' X H)) (k:Ex P b y E n' H R):Ex P b (.cond (.tmp t) x z) env n L (Then P b y R):=Ex.cut N n' X H hE h k
theorem Ex.cutBI (id N n':Nat) (X:List (Nat×V)) (H:Hp) {j:Nat} {E:List V} (hE:fY (ov X 0 N) [] some=some E) (h:Ex P b (.block id c) env n L (CutR b N n' X H)) (k:Ex P b y E n' H R):Ex P b (.block id c) env n L (InBlock j (Then P b y R)):=by
 rw[jk] at hE;have hE:ov X 0 N=E:=Z1c hE;refine h.mono ?_;rintro x e m M ⟨rfl,hc⟩;obtain⟨h1,h2⟩:=hc.to;exact Ex.toC h2 h1 (hE▸k)
theorem CutR.at {N:Nat} {X:List (Nat×V)} {H:Hp} {e:List V} {m:Nat} {M:Hp} (tbl:List Nat) (h0:tbl.length=n') (h1:e.length=N) (h2:XLe e (vP (rn tbl 0) X)) (h3:MemP (rn tbl 0) M H) (h4:mL b tbl (ov X 0 N) H=true):CutR b N n' X H .normal e m M:=
 ⟨rfl,tbl,h0,h1,h2,h3,h4⟩
theorem Ex.canon (tbl:List Nat) (N:Nat) (X:List (Nat×V)) (H:Hp) {E:List V} (hE:fY (ov X 0 N) [] some=some E) (h1:env.length=N) (h2:XLe env (vP (rn tbl 0) X)) (h3:MemP (rn tbl 0) L H) (h4:mL b tbl (ov X 0 N) H=true)
 (k:Ex P b c E tbl.length H R):Ex P b c env n L R:=by
 rw[jk] at hE;have hE:ov X 0 N=E:=Z1c hE;obtain⟨g1,g2⟩:=CutOK.to (n':=tbl.length) ⟨tbl,rfl,h1,h2,h3,h4⟩;exact Ex.toC g2 g1 (hE▸k)
theorem Ex.canonB (id:Nat) (tbl:List Nat) (N:Nat) (X:List (Nat×V)) (H:Hp) {E:List V} (hE:fY (ov X 0 N) [] some=some E) (h1:env.length=N) (k:Ex P b c E tbl.length H (InBlock id R)) (h2:XLe env (vP (rn tbl 0) X)) (h3:MemP (rn tbl 0) L H) (h4:mL b tbl (ov X 0 N) H=true):
 Ex P b (.block id c) env n L R:=Ex.canon tbl N X H hE h1 h2 h3 h4 (Ex.block k)
theorem RegX.sto {acc:List Row} {os:List Oper} (ans:List Ans) {ty:TypeId} {x z:Operand} {t:TypeId} {pos:String} {af:Array Edge} {gd:Option (Nat×Bool)} {foot:List Nat} {v:V} {wr:Hp} {as_:List Ans} {C:Prop}
 (hw:aY ops env ⟨none,.store ty x z,t,pos,af,gd⟩=some true) (h:Eh P ⟨none,.store ty x z,t,pos,af,gd⟩ env n L ans=some ⟨⟨foot,v,wr,n'⟩,as_,C⟩) (hC:C)
 {L':Hp} (hL:li (aw L wr) [] some=some L')
 (k:RegX P ops d (aG d ⟨none,.store ty x z,t,pos,af,gd⟩ foot wr acc) os env n' L' R):RegX P ops d acc (⟨none,.store ty x z,t,pos,af,gd⟩::os) env n L R:=by
 rw[cD] at hL;cases hL;exact RegX.opA ans hw h hC k
theorem RegX.ldS {acc:List Row} {os:List Oper} (ans:List Ans) {dst:Option Tmp} {ty:TypeId} {x:Operand} {t:TypeId} {pos:String} {af:Array Edge} {gd:Option (Nat×Bool)} {foot:List Nat} {v:V} {as_:List Ans} {C:Prop}
 (hw:aY ops env ⟨dst,.load ty x,t,pos,af,gd⟩=some true) (h:Eh P ⟨dst,.load ty x,t,pos,af,gd⟩ env n L ans=some ⟨⟨foot,v,[],n⟩,as_,C⟩) (hC:C)
 {env':List V} (he:fY (a_ env dst v) [] some=some env')
 (k:RegX P ops d (aG d ⟨dst,.load ty x,t,pos,af,gd⟩ foot [] acc) os env' n L R):RegX P ops d acc (⟨dst,.load ty x,t,pos,af,gd⟩::os) env n L R:=by
 rw[jk] at he;cases he;exact RegX.opA ans hw h hC k
end
end
section
variable {i N:Nat} {bl:Bl}
theorem yf {φ:Ph} {L:Hp} {w:World} (h2:Good φ L w) (get:Nat->List S) (sz:Nat) (hl:lk L i=some bl) (hro:bl.ro=false) (hk:bl.kind=none)
 (hg:∀ k,k<N->(get k).length=sz) (hc:∀ k j x,k<N->(get k)[j]? =some x->bl.cells[k*sz+j]? =some x/\bE x=true):
 ∃ φ':Ph,φ'.f=φ.f/\φ.le φ'/\(∀ b l,φ'.z b=some l->φ.z b=some l\/Wr φ L b)/\Good φ' (put L i none) w/\(∀ v x,dF v=some (i,N)->Vr φ v x->Vr φ' (.s (.frz get sz N)) x):=by
 obtain⟨b0,hb0,pre,xs,rest,fr,p1,hp,p2,p3,p4,p5⟩:=h2.hr i bl hl;rw[hk] at p1;simp only[c_] at p1
 let φ':Ph:=⟨φ.f,λx=>if x=b0.1 then some (pre++(xs++rest)) else φ.z x⟩
 have hz0:φ.z b0.1=none:=by
  cases e:φ.z b0.1 with
  |none=>rfl
  |some l=>exact absurd ⟨i,bl,b0,hl,hb0,rfl,hro⟩ (h2.fz b0.1 l e).2
 have zle:∀ x l,φ.z x=some l->φ'.z x=some l:=by
  intro x l hx;simp only[φ'];split
  ·rename_i e;subst e;rw[hz0] at hx;cases hx
  ·exact hx
 have hle:φ.le φ':=⟨λ_ _ h=>h,zle⟩
 have hlt:b0.1<w.heap.size:=by
  rcases Z0a b0.1 w.heap.size with h|h
  ·exact h
  ·simp[Z32 h] at p1
 have sub:vv (put L i none) L:=by
  intro j bj hj;rw[az] at hj;split at hj
  ·cases hj
  ·exact hj
 have good':Good φ' (put L i none) w:=by
  refine⟨λj bj hj=>?_,λj j' bj bj' c c' hj hj' hc hc' hcc=>h2.inj j j' bj bj' c c' (sub j bj hj) (sub j' bj' hj') hc hc' hcc,λx l hx=>?_,h2.gz.mono zle⟩
  ·obtain⟨c,hc,hat⟩:=h2.hr j bj (sub j bj hj)
   exact⟨c,hc,hat.mono hle rfl⟩
  ·by_cases e:x=b0.1
   ·subst e
    simp only[φ',if_true,Z06] at hx;subst hx;refine⟨⟨bl.ty,fr,p1⟩,?_⟩;rintro⟨j,bj,c,hj,hc,hcb,hroj⟩;have hj':=sub j bj hj
    rcases h2.inj j i bj bl c b0 hj' hl hc hb0 hcb with rfl|⟨e,_⟩
    ·rw[az,if_pos rfl] at hj;cases hj
    ·rw[e] at hroj;cases hroj
   ·simp only[φ',if_neg e] at hx
    exact⟨(h2.fz x l hx).1,λhw=>(h2.fz x l hx).2 (Wr.sub sub (by obtain⟨j,bj,c,hj⟩:=hw;exact⟨j,bj,c,hj⟩))⟩
 have hfz:∀ m kk,m<=N->m<=kk->Sr φ' (.frz get sz m) (.slice (some ⟨b0.1,b0.2,none⟩) m kk):=by
  intro m kk hm hmk;refine .frz get sz m b0.1 b0.2 kk (pre++(xs++rest)) (by simp[φ']) hmk (λk j=>xs.getD (k*sz+j) Go.undef) (λk hk=>hg k aa) (λk j x hk hx=>?_) (λk j x hk hx=>?_)
  ·obtain⟨e,_⟩:=hc k j x aa hx
   obtain⟨v,hv,_⟩:=p2.get e
   have hlx:k*sz+j<xs.length:=by
    rcases Z0a (k*sz+j) xs.length with h|h
    ·exact h
    ·simp[Z0b h] at hv
   rw[Z4k b0.2,f_ pre _ hp,Z0x hlx,Z00,hv];rfl
  ·obtain⟨e,hpx⟩:=hc k j x aa hx
   obtain⟨v,hv,hs⟩:=p2.get e;rw[Z00,hv,Z22];exact ((hs.mono (bl.ph_le_self φ)).mono hle).pr hpx
 refine⟨φ',rfl,hle,λx l hx=>?_,good',λv x ht hv=>?_⟩
 ·by_cases e:x=b0.1
  ·subst e;exact .inr ⟨i,bl,b0,hl,hb0,rfl,hro⟩
  ·simp only[φ',if_neg e] at hx;exact .inl hx
 ·unfold dF at ht
  split at ht
  ·cases ht
   obtain⟨b1,kk,hb1,_,e,hmk⟩:=hv;rw[hb0] at hb1;cases hb1;rw[e];exact hfz _ kk (Z02 _) hmk
  ·cases ht
   obtain⟨b1,kk,hb1,e,hmk,_⟩:=hv;rw[hb0] at hb1;cases hb1;rw[e,Z0c];exact hfz _ kk (Z02 _) hmk
  ·cases ht
   rcases hv with ⟨rfl,e⟩|⟨_,b1,kk,hb1,_,e,hmk⟩
   ·rw[e];exact .nil _ _ _ _ (λ_=>rfl)
   ·rw[hb0] at hb1;cases hb1
    rw[e];exact hfz _ kk (Z02 _) hmk
  ·cases ht
theorem OpL.preFz {P:Program} {o:Oper} {env:List V} {n n':Nat} {M M':Hp} {v:V} (t:Nat) (get:Nat->List S) (sz:Nat) (ht:dF (env.getD t .undef)=some (i,N)) (hl:lk M i=some bl) (hro:bl.ro=false) (hk:bl.kind=none)
 (hg:∀ k,k<N->(get k).length=sz) (hc:∀ k j x,k<N->(get k)[j]? =some x->bl.cells[k*sz+j]? =some x/\bE x=true)
 (h:OpL P o (env.set t (.s (.frz get sz N))) n (put M i none) v n' M'):OpL P o env n M v n' M':=by
 intro φ a w Q hx hM hf;obtain⟨φ',e1,hle,hz,hg',hs⟩:=yf hM get sz (i:=i) (N:=N) hl hro hk hg hc
 have sub:vv (put M i none) M:=by
  intro j bj hj;rw[az] at hj;split at hj
  ·cases hj
  ·exact hj
 have wsub:∀ b,Wr φ' (put M i none) b->Wr φ M b:=λb hw=>by
  obtain⟨j,bj,c,hj,hc,h⟩:=hw;exact⟨j,bj,c,sub _ _ hj,by rw[e1] at hc;exact hc,h⟩
 have tlt:t<env.length:=by
  rcases Z0a t env.length with h|h
  ·exact h
  ·rw[Z00,Z0b h] at ht;cases ht
 have hx':∀ x∈o.op.operands,Vr φ' (ev (env.set t (.s (.frz get sz N))) x) (a.eval x):=by
  intro x hxo;have h0:=hx x hxo;by_cases e:x=.tmp t
  ·subst e
   have e2:ev (env.set t (.s (.frz get sz N))) (.tmp t)=.s (.frz get sz N):=by
    show (env.set t _).getD t .undef=_;simp[Z00,tlt]
   rw[e2];exact hs _ _ ht h0
  ·have e2:ev (env.set t (.s (.frz get sz N))) x=ev env x:=by
    cases x with
    |tmp s=>
     have hne: ¬t=s:=λh=>e (by rw[h])
     show (env.set t _).getD s .undef=env.getD s .undef;simp[Z00,Z53 hne]
    |_=>rfl
   rw[e2];exact Vr.mono hle h0
 refine Z4v ?_ (h φ' a w Q hx' hg' (λj h1 h2=>by rw[e1];exact hf j h1 h2));rintro a' w' ⟨φ2,x,q1,q2,q3,q4,q5⟩;refine⟨φ2,x,q1,q2,q3,⟨q4.os,q4.tape,q4.output,q4.size,λb hb hn=>q4.keep b hb λhw=>hn (wsub b hw),λj bl1 b hj hb hlt=>?_,λb l hb=>q4.zle b l (hle.z b l hb),λb l hb=>?_⟩,λj hj=>(q5 j hj).trans (by rw[e1])⟩
 ·obtain⟨k,bl',c,hk',hc',r⟩:=q4.fresh j bl1 b hj hb hlt
  exact⟨k,bl',c,sub _ _ hk',by rw[e1] at hc';exact hc',r⟩
 ·rcases q4.zfr b l hb with q|q|q
  ·rcases hz b l q with q|q
   ·exact .inl q
   ·exact .inr (.inr q)
  ·exact .inr (.inl q)
  ·exact .inr (.inr (wsub b q))
section
variable {P:Program} {ops:Array Oper} {d:Bool} {acc:List Row} {os:List Oper} {o:Oper} {env:List V} {n:Nat} {L:Hp} {R:Post} {f:FuncId} {xs:Array Operand}
theorem CallG.pz (t:Nat) (get:Nat->List S) (sz:Nat) {args:List V} {v:V} (sc:FC P f args 0 [] v 0 []) (ht:dF (env.getD t .undef)=some (i,N)) (hl:lk L i=some bl) (hro:bl.ro=false) (hk:bl.kind=none)
 (hg:∀ k,k<N->(get k).length=sz) (hc:∀ k j x,k<N->(get k)[j]? =some x->bl.cells[k*sz+j]? =some x/\bE x=true)
 {args1:List V} (ha:xs.toList.map (ev (env.set t (.s (.frz get sz N))))=args1) (hle:All2 VLe args1 args) (h1:args.all (fp 0)=true) (h2:fp 0 v=true)
 (hw:aY ops env o=some true) (k:RegX P ops d (aG d o [i] [(i,none)] acc) os (a_ env o.dst v) n (aw L [(i,none)]) R):CallG P ops d acc o f xs os env n L R:=by
 refine⟨λ⟨ts,ho⟩=>?_⟩;obtain⟨hf,sc⟩:=sc;unfold mM at hf;split at hf
 ·rename_i fn hfn
  simp only[Z07,Z0v] at hf;have h:=SC.opW (tbl:=[]) (n:=n) (env:=env.set t (.s (.frz get sz N))) (M:=[]) (M':=[]) sc h1 rfl ho rfl hfn hf.1 hf.2 (by rw[ha,tH h1];exact hle) uM (λx bl h=>by simp[lk] at h);rw[mU h2] at h
  have e1:lk (res [i] L) i=some bl:=by rw[bq];simp[hl]
  refine RegX.op (foot:=[i]) (wr:=[(i,none)]) hw ?_ (Z02 _) k;refine OpL.preFz t get sz ht e1 hro hk hg hc ?_;refine OpL.conv (M:=[]) (M':=[]) (λx hx=>VLe.refl _) (λj=>?_) (VLe.refl _) (λj bl hj=>?_) h
  ·show lk (put (res [i] L) i none) j=lk [] j
   rw[az,bq];simp only[Z0m];by_cases e:i=j
   ·rw[if_pos e];rfl
   ·rw[if_neg e,if_neg (λh=>e h.symm)];rfl
  ·have hj:lk (put (res [i] L) i none) j=some bl:=hj
   rw[az,bq] at hj;simp only[Z0m] at hj;by_cases e:i=j
   ·rw[if_pos e] at hj;cases hj
   ·rw[if_neg e,if_neg (λh=>e h.symm)] at hj;cases hj
 ·cases hf
end
end
section
variable {P:Program} {ops:Array Oper} {d:Bool} {acc:List Row} {os:List Oper} {o:Oper} {env:List V} {n:Nat} {L:Hp} {R:Post} {f:FuncId} {xs:Array Operand}
theorem CallG.pl {α:Type} (g:α->S) (dflt:α) (K:List α) (hp:∀ r∈K,bE (g r)=true) {args:List V} {v:V} (sc:FC P f args 0 [] v 0 []) {t:Tmp} (hx:xs.toList.getLast? =some (.tmp t)) {i N:Nat} {bl:Bl} (ht:dF (env.getD t .undef)=some (i,N)) (hl:lk L i=some bl) (hro:bl.ro=false) (hk:bl.kind=none)
 (hN:N=K.length) (hc:bl.cells=K.map g)
 {args1:List V} (ha:xs.toList.map (ev (env.set t (.s (.frz (λk=>[g (K.getD k dflt)]) 1 K.length))))=args1) (hle:All2 VLe args1 args) (h1:args.all (fp 0)=true) (h2:fp 0 v=true)
 (hw:aY ops env o=some true) (k:RegX P ops d (aG d o [i] [(i,none)] acc) os (a_ env o.dst v) n (aw L [(i,none)]) R):CallG P ops d acc o f xs os env n L R:=by
 subst hN;refine CallG.pz t (λk=>[g (K.getD k dflt)]) 1 sc ht hl hro hk (λ_ _=>rfl) (λkk jj x hkk hjx=>?_) ha hle h1 h2 hw k
 cases jj with
 |succ j=>simp at hjx
 |zero=>
  simp only[Z11,Z06] at hjx;subst hjx;rw[hc,Z1p,Z0p,Z0t,Z01 hkk,Z00,Z01 hkk];exact⟨rfl,hp _ (Z0s hkk)⟩
theorem fw {α:Type} (g:α->S) (dflt:α) (K:List α) {args:List V} {v:V} (sc:FC P f args 0 [] v 0 []) {t:Tmp} {i N:Nat} {bl:Bl} {args1:List V} (k:RegX P ops d (aG d o [i] [(i,none)] acc) os (a_ env o.dst v) n (aw L [(i,none)]) R) (hp:∀ r∈K,bE (g r)=true:=by exact λ_ _=>rfl) (hx:xs.toList.getLast? =some (.tmp t):=by exact rfl) (ht:dF (env.getD t .undef)=some (i,N):=by exact rfl) (hl:lk L i=some bl:=by exact rfl) (hro:bl.ro=false:=by exact rfl) (hk:bl.kind=none:=by exact rfl)
 (hN:N=K.length:=by (first|rfl|simp);first|done|fail) (hc:bl.cells=K.map g:=by (first|rfl|(simp;first|done|fail)|(rw[Z0d];rfl));first|done|fail) (ha:xs.toList.map (ev (env.set t (.s (.frz (λk=>[g (K.getD k dflt)]) 1 K.length))))=args1:=by exact rfl) (hle:All2 VLe args1 args:=by (repeat first|exact trivial|refine⟨VLe.refl _,?_⟩);first|done|fail) (h1:args.all (fp 0)=true:=by exact rfl) (h2:fp 0 v=true:=by exact rfl) (hw:aY ops env o=some true:=by exact rfl):CallG P ops d acc o f xs os env n L R:=CallG.pl g dflt K hp sc hx ht hl hro hk hN hc ha hle h1 h2 hw k
end
section
variable {P:Program} {ops:Array Oper} {d:Bool} {acc:List Row} {os:List Oper} {o:Oper} {env:List V} {n:Nat} {L:Hp} {R:Post} {f:FuncId} {xs:Array Operand}
theorem CallG.mz {α:Type} (q:Nat) (g:α->S) (dflt:α) (K:List α) (hp:∀ r∈K,bE (g r)=true) (tbl:List Nat) {args0:List V} {L0:Hp} {v0:V} {n0':Nat} {L0':Hp} (sc:FC P f args0 tbl.length L0 v0 n0' L0')
 {t:Tmp} (hx:xs.toList[q]? =some (.tmp t)) {i N:Nat} {bl:Bl} (ht:dF (env.getD t .undef)=some (i,N)) (hl:lk L i=some bl) (hro:bl.ro=false) (hk:bl.kind=none) (hN:N=K.length) (hc:bl.cells=K.map g)
 (hchk:(args0.all (fp tbl.length)&&eV tbl.length L0&&dZ L0 L0'&&ce (bw L0')&&Nat.ble tbl.length n0'&&rC tbl n n0'&&sH tbl L0)=true) {args1:List V} (ha:xs.toList.map (ev (env.set t (.s (.frz (λk=>[g (K.getD k dflt)]) 1 K.length))))=args1) (hle:All2 VLe args1 (args0.map (bW (rn tbl n)))) (ft:FitP tbl n (put (res (i::tbl) L) i none) L0)
 (hw:aY ops env o=some true) {v:V} (hv:iR (bW (rn tbl n) v0) some=some v) {wr:Hp} (hwr:li (b_ tbl n L0 L0') [] some=some wr)
 (k:RegX P ops d (aG d o (i::tbl) ((i,none)::wr) acc) os (a_ env o.dst v) (n+(n0'-tbl.length)) (aw L ((i,none)::wr)) R):CallG P ops d acc o f xs os env n L R:=by
 subst hN;refine⟨λ⟨ts,ho⟩=>?_⟩;obtain⟨hf,sc⟩:=sc;rw[eA] at hv;cases hv;rw[cD] at hwr;cases hwr;simp only[Z07] at hchk;obtain⟨⟨⟨⟨⟨⟨k1,k2⟩,k3⟩,k4⟩,k5⟩,k6⟩,k7⟩:=hchk;unfold mM at hf;split at hf
 ·rename_i fn hfn
  simp only[Z07,Z0v] at hf;have h:=SC.opW (n:=n) (env:=env.set t (.s (.frz (λk=>[g (K.getD k dflt)]) 1 K.length))) (M:=put (res (i::tbl) L) i none) sc k1 k2 ho rfl hfn hf.1 hf.2 (ha▸hle) (Fits.of k6 k7 ft) (fm k3 k4)
  have e1:lk (res (i::tbl) L) i=some bl:=by rw[bq];simp[hl]
  refine RegX.op (foot:=i::tbl) (wr:=(i,none)::b_ tbl n L0 L0') hw ?_ (Z1o _ _) k;refine OpL.preFz t (λk=>[g (K.getD k dflt)]) 1 ht e1 hro hk (λ_ _=>rfl) (λkk jj x hkk hjx=>?_) h
  cases jj with
  |succ j=>simp at hjx
  |zero=>
   simp only[Z11,Z06] at hjx;subst hjx;rw[hc,Z1p,Z0p,Z0t,Z01 hkk,Z00,Z01 hkk];exact⟨rfl,hp _ (Z0s hkk)⟩
 ·cases hf
end
theorem eU {α β:Type} {r:α->β->Prop}:∀ {l:List α} {xs:List β} {o:Nat} {v:α},All2 r l xs->(∀ x,xs[o]? =some x->r v x)->All2 r (l.set o v) xs
 |[],[],_,_,_,_=>trivial
 |[],_::_,_,_,h,_=>h.elim
 |_::_,[],_,_,h,_=>h.elim
 |a::l,x::xs,0,v,h,hv=>⟨hv x rfl,h.2⟩
 |a::l,x::xs,o+1,v,h,hv=>⟨h.1,eU h.2 λy hy=>hv y (by simpa using hy)⟩
theorem gk {α β:Type} {r:α->β->Prop}:∀ {l:List α} {xs:List β} {o:Nat} {s:α} {x:β},All2 r l xs->l[o]? =some s->xs[o]? =some x->r s x
 |[],_,_,_,_,_,h,_=>by simp at h
 |_::_,[],_,_,_,h,_,_=>h.elim
 |a::l,x::xs,0,s,y,h,h1,h2=>by
  simp only[Z11,Z06] at h1 h2;subst h1;subst h2;exact h.1
 |a::l,x::xs,o+1,s,y,h,h1,h2=>gk h.2 (by simpa using h1) (by simpa using h2)
section
variable {P:Program} {b:Nat} {env:List V} {n:Nat} {L:Hp} {R:Post} {c:Code}
theorem Ex.fzC (j o:Nat) (get:Nat->List S) (sz:Nat) {s:S} {i N:Nat} {bl blj:Bl} (hlj:lk L j=some blj) (hij:i≠j) (hs:blj.cells[o]? =some s) (ht:dF (.s s)=some (i,N)) (hl:lk L i=some bl) (hro:bl.ro=false) (hk:bl.kind=none)
 (hg:∀ k,k<N->(get k).length=sz) (hc:∀ k j x,k<N->(get k)[j]? =some x->bl.cells[k*sz+j]? =some x/\bE x=true)
 {L':Hp} (hL:put (put L i none) j (some {blj with cells:=blj.cells.set o (.frz get sz N)})=L') (k:Ex P b c env n L' R):Ex P b c env n L R:=by
 subst hL;intro φ a w h1 h2 h3 h4;obtain⟨φ',e1,hle,hz,hg',hsl⟩:=yf h2 get sz (i:=i) (N:=N) hl hro hk hg hc
 have hlj':lk (put L i none) j=some blj:=by rw[az,if_neg hij];exact hlj
 have sub1:∀ jj b',lk (put (put L i none) j (some {blj with cells:=blj.cells.set o (.frz get sz N)})) jj=some b'->∃ b0,lk (put L i none) jj=some b0/\b'.ro=b0.ro:=by
  intro jj b' h;rw[az] at h;split at h
  ·rename_i e;subst e;cases h;exact⟨blj,hlj',rfl⟩
  ·exact⟨b',h,rfl⟩
 have subL:∀ jj b',lk (put L i none) jj=some b'->lk L jj=some b':=by
  intro jj b' h;rw[az] at h;split at h
  ·cases h
  ·exact h
 have wr1:∀ x,Wr φ' (put (put L i none) j (some {blj with cells:=blj.cells.set o (.frz get sz N)})) x->Wr φ' (put L i none) x:=by
  rintro x ⟨jj,bj,c,h1,h2,h3,h4⟩;obtain⟨b0,q1,q2⟩:=sub1 jj bj h1;exact⟨jj,b0,c,q1,h2,h3,q2▸h4⟩
 have wrL:∀ x,Wr φ' (put L i none) x->Wr φ L x:=by
  rintro x ⟨jj,bj,c,h1,h2,h3,h4⟩;exact⟨jj,bj,c,subL _ _ h1,by rw[e1] at h2;exact h2,h3,h4⟩
 have good2:Good φ' (put (put L i none) j (some {blj with cells:=blj.cells.set o (.frz get sz N)})) w:=by
  refine⟨λjj bj hj=>?_,λx y bx bl' b1 b2 hx hy hb1 hb2 e=>?_,λx l hx=>⟨(hg'.fz x l hx).1,λhw=>(hg'.fz x l hx).2 (wr1 x hw)⟩,hg'.gz⟩
  ·rw[az] at hj
   split at hj
   ·rename_i e;subst e;cases hj
    obtain⟨b0,hb0,pre,xs,rest,fr,p1,p2,p3,p4,p5,p6,p7⟩:=h2.hr j blj hlj;refine⟨b0,hle _ _ hb0,pre,xs,rest,fr,p1,p2,?_,p4,p5,λg z e=>?_,p7⟩
    ·refine eU (p3.mono λ_ _=>Sr.mono (blj.ph_le hle)) λx hx=>?_
     have hx3:Vr φ (.s s) x:=(gk p3 hs hx).mono (blj.ph_le_self φ);have hf:Pr φ'.z (.frz get sz N) x:=hsl (.s s) x ht hx3;show Pr (blj.ph φ').z (.frz get sz N) x;rw[Bl.ph_z];exact hf
    ·obtain⟨k,hk,hz⟩:=p6 g z e
     exact⟨k,hle _ _ hk,hz⟩
   ·exact hg'.hr jj bj hj
  ·obtain⟨x0,q1,q2⟩:=sub1 x bx hx
   obtain⟨y0,r1,r2⟩:=sub1 y bl' hy;rw[q2,r2];exact hg'.inj x y x0 y0 b1 b2 q1 r1 hb1 hb2 e
 refine wp_mono (k φ' a w ⟨h1.1,h1.2.mono λ_ _=>Vr.mono hle⟩ good2 (λi hi=>by rw[e1];exact h3 i hi) h4) ?_;rintro x a' w' ⟨φ2,e,m,M,hR,k1,k2,k3,k4,k5,k6⟩
 have back:∀ jj b',lk (put (put L i none) j (some {blj with cells:=blj.cells.set o (.frz get sz N)})) jj=some b'->∃ b0,lk L jj=some b0/\b'.ro=b0.ro:=by
  intro jj b' h;obtain⟨b0,q1,q2⟩:=sub1 jj b' h;exact⟨b0,subL _ _ q1,q2⟩
 refine⟨φ2,e,m,M,hR,k1,k2,k3,k4,⟨k5.os,k5.tape,k5.output,k5.size,λd hd hn=>k5.keep d hd λhw=>hn (wrL d (wr1 d hw)),λjj bl1 d hj hd hlt'=>?_,λx l hx=>k5.zle x l (hle.z x l hx),λx l hx=>?_⟩,λi hi=>by rw[k6 i hi,e1]⟩
 ·obtain⟨kk,bl',c,hkk,hc',q1,q2,q3⟩:=k5.fresh jj bl1 d hj hd hlt'
  obtain⟨b0,r1,r2⟩:=back kk bl' hkk;exact⟨kk,b0,c,r1,by rw[e1] at hc';exact hc',q1,λh=>q2 (r2.trans h),q3.imp id λh=>r2▸h⟩
 ·rcases k5.zfr x l hx with q|q|q
  ·rcases hz x l q with q|q
   ·exact .inl q
   ·exact .inr (.inr q)
  ·exact .inr (.inl q)
  ·exact .inr (.inr (wrL x (wr1 x q)))
end
section
variable {L:Hp} {i o:Nat} {bl:Bl}
theorem vi {α β:Type} {r:α->β->Prop}:∀ {l:List α} {xs:List β} {o:Nat} {s:α},All2 r l xs->l[o]? =some s->∃ x,xs[o]? =some x/\r s x
 |[],_,o,s,_,h=>by simp at h
 |a::l,x::xs,0,s,h,hs=>by
  simp only[Z11,Z06] at hs;subst hs;exact⟨x,rfl,h.1⟩
 |a::l,x::xs,o+1,s,h,hs=>by
  simp only[Z23] at hs |-;exact vi h.2 hs
 |_::_,[],_,_,h,_=>h.elim
def la (bl:Bl) (o:Nat) (x:S):Bl:={bl with cells:=bl.cells.set o x}
theorem kA {x:S} (hl:lk L i=some bl) {j:Nat} {c:Bl} (h:lk (put L i (some (la bl o x))) j=some c):∃ c',lk L j=some c'/\c'.ro=c.ro/\(j≠i->c'=c):=by
 rw[az] at h;split at h
 ·rename_i e;subst e;cases h;exact⟨bl,hl,rfl,λq=>absurd rfl q⟩
 ·exact⟨c,h,rfl,λ_=>rfl⟩
theorem kB {x:S} (hl:lk L i=some bl) {j:Nat} {c:Bl} (h:lk L j=some c):∃ c',lk (put L i (some (la bl o x))) j=some c'/\c'.ro=c.ro/\(j≠i->c'=c):=by
 rw[az];split
 ·rename_i e;subst e;rw[hl] at h;cases h;exact⟨_,rfl,rfl,λq=>absurd rfl q⟩
 ·exact⟨c,h,rfl,λ_=>rfl⟩
theorem rq {φ:Ph} {x:S} (hl:lk L i=some bl) {b:Nat}:Wr φ (put L i (some (la bl o x))) b↔Wr φ L b:=by
 constructor
 ·rintro⟨j,c,q,h1,h2,h3,h4⟩
  obtain⟨c',k1,k2,_⟩:=kA hl h1;exact⟨j,c',q,k1,h2,h3,k2.trans h4⟩
 ·rintro⟨j,c,q,h1,h2,h3,h4⟩
  obtain⟨c',k1,k2,_⟩:=kB (o:=o) (x:=x) hl h1;exact⟨j,c',q,k1,h2,h3,k2.trans h4⟩
theorem SC.cst {P:Program} {f:FuncId} {args:List V} {n:Nat} {v:V} {n':Nat} {L':Hp} {i' o':Nat} {bl':Bl} {s:S} (hl:lk L i=some bl) (ho:bl.cells[o]? =some s) (hl':lk L' i'=some bl') (ho':bl'.cells[o']? =some s) (hj:ya s=false) (hf:bl.flat=false) (hf':bl'.flat=false)
 (sc:∀ x:Value,fL x=true->SC P f args n (put L i (some (la bl o (.cst x)))) v n' (put L' i' (some (la bl' o' (.cst x))))):SC P f args n L v n' L':=by
 intro φ xs w hx hg hfr;obtain⟨b,hb,hat⟩:=hg.hr i bl hl;obtain⟨pre,cs,rest,fr,h1,h2,h3,h4,h5,h6⟩:=hat
 have eph:∀ φ:Ph,bl.ph φ=φ:=λφ=>by unfold Bl.ph;rw[hf]
 have eph':∀ φ:Ph,bl'.ph φ=φ:=λφ=>by unfold Bl.ph;rw[hf']
 obtain⟨x,hx1,hx2⟩:=vi h3 ho;rw[eph] at hx2;have hc:fL x=true:=hx2.cell hj
 have at1:BlAt φ w b (la bl o (.cst x)):=⟨pre,cs,rest,fr,h1,h2,eU h3 (λy hy=>by rw[hx1] at hy;cases hy;exact⟨rfl,hc⟩),h4,h5,h6⟩
 have hg1:Good φ (put L i (some (la bl o (.cst x)))) w:=by
  refine⟨λj c h=>?_,λj k c c' q q' h k1 k2 k3 k4=>?_,λb l h=>⟨(hg.fz b l h).1,λhw=>(hg.fz b l h).2 ((rq hl).1 hw)⟩,hg.gz⟩
  ·rw[az] at h
   split at h
   ·rename_i e;subst e;cases h;exact⟨b,hb,at1⟩
   ·exact hg.hr j c h
  ·obtain⟨d,e1,e2,_⟩:=kA hl h
   obtain⟨d',e1',e2',_⟩:=kA hl k1
   rcases hg.inj j k d d' q q' e1 e1' k2 k3 k4 with e|⟨e,e'⟩
   ·exact .inl e
   ·exact .inr ⟨e2▸e,e2'▸e'⟩
 refine (sc x hc φ xs w hx hg1 hfr).mono ?_;rintro e w' ⟨φ',y,he,hv,hg',hn,st,hle,hag⟩
 have hle2:φ.le φ':=⟨λj q hjq=>by
  by_cases h:j<n
  ·rw[hag j h];exact hjq
  ·rw[hfr j aa] at hjq;exact (by cases hjq),st.zle⟩
 have lk1:lk (put L' i' (some (la bl' o' (.cst x)))) i'=some (la bl' o' (.cst x)):=by rw[az,if_pos rfl]
 obtain⟨b',hb',pre',cs',rest',fr',g1,g2,g3,g4,g5,g6⟩:=hg'.hr i' _ lk1
 have at2:BlAt φ' w' b' bl':=by
  refine⟨pre',cs',rest',fr',g1,g2,?_,g4,g5,g6⟩
  have hlt:o'<bl'.cells.length:=by
   rcases Z0a o' bl'.cells.length with h|h
   ·exact h
   ·rw[Z0b h] at ho';cases ho'
  have g3':All2 (Sr (bl'.ph φ')) (bl'.cells.set o' (.cst x)) cs':=g3
  have hback:bl'.cells=(bl'.cells.set o' (.cst x)).set o' s:=by
   refine Z2i λj=>?_
   rw[Z1i,Z18];split
   ·rename_i e;subst e;exact ho'
   ·rename_i e;rw[Z1i,if_neg e]
  rw[hback]
  refine eU g3' λz hz=>?_
  have hz1:Sr (bl'.ph φ') (.cst x) z:=gk g3' (by rw[Z1i,if_pos rfl,if_pos hlt]) hz;obtain⟨rfl,_⟩:=hz1;rw[eph'];exact hx2.mono hle2
 have hg2:Good φ' L' w':=by
  refine⟨λj c h=>?_,λj k c c' q q' h k1 k2 k3 k4=>?_,λb l h=>⟨(hg'.fz b l h).1,λhw=>(hg'.fz b l h).2 ((rq hl').2 hw)⟩,hg'.gz⟩
  ·by_cases e:i'=j
   ·subst e;rw[hl'] at h;cases h;exact⟨b',hb',at2⟩
   ·exact hg'.hr j c (by rw[az,if_neg e];exact h)
  ·obtain⟨d,e1,e2,_⟩:=kB (o:=o') (x:=.cst x) hl' h
   obtain⟨d',e1',e2',_⟩:=kB (o:=o') (x:=.cst x) hl' k1
   rcases hg'.inj j k d d' q q' e1 e1' k2 k3 k4 with e|⟨e,e'⟩
   ·exact .inl e
   ·exact .inr ⟨e2▸e,e2'▸e'⟩
 refine⟨φ',y,he,hv,hg2,hn,⟨st.os,st.tape,st.output,st.size,λq hq hw=>st.keep q hq λh=>hw ((rq hl).1 h),λj c q h k1 k2=>?_,st.zle,λq l h=>?_⟩,hle,hag⟩
 ·obtain⟨d,e1,e2,_⟩:=kB (o:=o') (x:=.cst x) hl' h
  obtain⟨k,c1,q1,r1,r2,r3,r4,r5⟩:=st.fresh j d q e1 k1 k2;obtain⟨d1,f1,f2,_⟩:=kA hl r1;exact⟨k,d1,q1,f1,r2,r3,λh=>e2▸r4 (f2▸h),r5.imp id λh=>f2.trans h⟩
 ·rcases st.zfr q l h with h|h|h
  ·exact .inl h
  ·exact .inr (.inl h)
  ·exact .inr (.inr ((rq hl).1 h))
end
section
variable {m:Nat}
section
variable {P:Program} {b:Nat} {env:List V} {n:Nat} {L:Hp} {R:Post} {c:Code}
theorem Ex.capS (t i z:Nat) {K:Nat} {bli:Bl} (ht:env.getD t .undef=.s (.slc (some (i,0)) m (some K))) (hli:lk L i=some bli) (hgh:bli.gh=none) (hK:K*z<=bli.cells.length)
 {env':List V} (he:env.set t (.s (.sla i n m))=env') {L':Hp} (hL:put L i (some {bli with gh:=some (n,z)})=L') (k:Ex P b c env' (n+1) L' R):Ex P b c env n L R:=by
 subst hL;subst he;intro φ a w h1 h2 h3 h4
 have hle:φ.le ⟨λx=>if x=n then some (K,0) else φ x,φ.z⟩:=⟨λx y hx=>by
  have:x≠n:=λe=>by rw[e,h3 n (Z02 _)] at hx;cases hx
  show (if x=n then _ else _)=_
  rw[if_neg this];exact hx,λ_ _ h=>h⟩
 have hn:(⟨λx=>if x=n then some (K,0) else φ x,φ.z⟩:Ph) n=some (K,0):=by show (if n=n then _ else _)=_;rw[if_pos rfl]
 have hne:∀ x,x≠n->(⟨λx=>if x=n then some (K,0) else φ x,φ.z⟩:Ph) x=φ x:=λx hx=>by show (if x=n then _ else _)=_;rw[if_neg hx]
 have hz:(⟨λx=>if x=n then some (K,0) else φ x,φ.z⟩:Ph).z=φ.z:=rfl;generalize (⟨λx=>if x=n then some (K,0) else φ x,φ.z⟩:Ph)=φ' at hle hn hne hz
 have back:∀ x bx,lk (put L i (some {bli with gh:=some (n,z)})) x=some bx->∃ b0,lk L x=some b0/\bx.ro=b0.ro:=by
  intro x bx hx;rw[az] at hx;split at hx
  ·rename_i e;subst e;cases hx;exact⟨_,hli,rfl⟩
  ·exact⟨_,hx,rfl⟩
 have num:∀ x b0,lk L x=some b0->x≠n:=λx b0 hx e=>by
  obtain⟨q,hq,_⟩:=h2.hr x b0 hx;rw[e,h3 n (Z02 _)] at hq;cases hq
 have wr1:∀ x,Wr φ' (put L i (some {bli with gh:=some (n,z)})) x->Wr φ L x:=by
  rintro x ⟨jj,bj,d,q1,q2,q3,q4⟩;obtain⟨b0,r1,r2⟩:=back jj bj q1;exact⟨jj,b0,d,r1,by rw[hne jj (num jj b0 r1)] at q2;exact q2,q3,r2▸q4⟩
 have good2:Good φ' (put L i (some {bli with gh:=some (n,z)})) w:=by
  refine⟨λx bx hx=>?_,λx y bx by' b1 b2 hx hy hb1 hb2 e=>?_,λx l hx=>⟨(h2.fz x l (hz▸hx)).1,λhw=>(h2.fz x l (hz▸hx)).2 (wr1 x hw)⟩,by rw[hz];exact h2.gz⟩
  ·rw[az] at hx
   split at hx
   ·rename_i e;subst e;cases hx
    obtain⟨b0,hb0,pre,xs,rest,fr,p1,p2,p3,p4,p5,p6,p7⟩:=h2.hr i bli hli;refine⟨b0,hle _ _ hb0,pre,xs,rest,fr,p1,p2,(p3.mono λ_ _=>Sr.mono (bli.ph_le hle)),p4,p5,λg z' e=>?_,p7⟩;cases e;refine⟨K,hn,?_⟩;have:=p3.len;rw[Z03];omega
   ·obtain⟨b0,hb0,hat⟩:=h2.hr x bx hx
    exact⟨b0,hle _ _ hb0,hat.mono hle rfl⟩
  ·obtain⟨x0,q1,q2⟩:=back x bx hx
   obtain⟨y0,r1,r2⟩:=back y by' hy
   rw[hne x (num x x0 q1)] at hb1;rw[hne y (num y y0 r1)] at hb2;rw[q2,r2];exact h2.inj x y x0 y0 b1 b2 q1 r1 hb1 hb2 e
 have env2:EnvR φ' (env.set t (.s (.sla i n m))) a:=by
  refine⟨h1.1,eU (h1.2.mono λ_ _=>Vr.mono hle) λx hx=>?_⟩
  have hs:env[t]? =some (.s (.slc (some (i,0)) m (some K))):=by
   rw[Z00] at ht
   cases e:env[t]? with
   |none=>rw[e] at ht;cases ht
   |some y=>rw[e] at ht;exact congrArg some ht
  obtain⟨d,kk,q1,q2,q3,q4⟩:=gk h1.2 hs hx
  have hkk:K=kk:=by
   rcases q4 with q4|q4
   ·cases q4
   ·exact Z1c q4
  subst hkk;refine⟨d,K,hle _ _ q1,hn,?_,q3⟩;rw[Z0c] at q2;exact q2
 refine wp_mono (k φ' a w env2 good2 (λx hx=>by rw[hne x aa];exact h3 x aa) aa) ?_;rintro x a' w' ⟨φ2,e,m',M,hR,k1,k2,k3,k4,k5,k6⟩;refine⟨φ2,e,m',M,hR,k1,k2,k3,k4,⟨k5.os,k5.tape,k5.output,k5.size,λd hd hn=>k5.keep d hd λhw=>hn (wr1 d hw),λjj bl1 d hj hd hlt'=>?_,λx l hx=>k5.zle x l (hz▸hx),λx l hx=>?_⟩,λx hx=>by rw[k6 x hx,hne x aa]⟩
 ·obtain⟨kk,bl',d',hkk,hc',q1,q2,q3⟩:=k5.fresh jj bl1 d hj hd hlt'
  obtain⟨b0,r1,r2⟩:=back kk bl' hkk;exact⟨kk,b0,d',r1,by rw[hne kk (num kk b0 r1)] at hc';exact hc',q1,λh=>q2 (r2.trans h),q3.imp id λh=>r2▸h⟩
 ·rcases k5.zfr x l hx with q|q|q
  ·exact .inl (hz▸q)
  ·exact .inr (.inl q)
  ·exact .inr (.inr (wr1 x q))
end
end
theorem cF {α:Type} (g:α->List S) (w:Nat) (d:α) (hw:∀ a,(g a).length=w):∀ {l:List α} {k j:Nat} {x:S},k<l.length->(g (l.getD k d))[j]? =some x->(l.flatMap g)[k*w+j]? =some x
 |[],k,j,x,hk,_=>by simp at hk
 |a::l,0,j,x,hk,hx=>by
  have hj:j<(g a).length:=by
   rcases Z0a j (g a).length with h|h
   ·exact h
   ·exfalso;simp only[Z34] at hx;rw[Z0b h] at hx;cases hx
  rw[Z24,Z0c,Z0g,Z0x hj];exact hx
 |a::l,k+1,j,x,hk,hx=>by
  have:=cF g w d hw (l:=l) (k:=k) (j:=j) (x:=x) (by simpa using hk) hx;rw[Z0g,Z1f (by rw[hw,Nat.succ_mul];omega),hw];rw[show (k+1)*w+j-w=k*w+j by rw[Nat.succ_mul];omega];exact this
section
variable {P:Program} {b:Nat} {env:List V} {n:Nat} {L:Hp} {R:Post} {c:Code}
theorem Ex.fzR {α:Type} (t:Nat) (g:α->List S) (w:Nat) (d:α) (l:List α) {i gn ty:Nat} (ht:env.getD t .undef=.s (.row i gn l.length)) (hl:lk L i=eI ty gn w (l.flatMap g)) (hw:∀ a,(g a).length=w) (hp:∀ (a:α) (j:Nat) (x:S),(g a)[j]? =some x->bE x=true) (hw0:0<w)
 {env':List V} (he:env.set t (.s (.frz (λk=>g (l.getD k d)) w l.length))=env') {L':Hp} (hL:put L i none=L') (k:Ex P b c env' n L' R):Ex P b c env n L R:=by
 have sub:vv L' L:=by
  intro j bj hj;rw[<-hL,az] at hj;split at hj
  ·cases hj
  ·exact hj
 cases l with
 |nil=>exact Ex.set t _ (by rw[ht];exact VLe.s SLe.row0) he (Ex.sub sub k)
 |cons a l=>
  have hne:(a::l).flatMap g≠[]:=by
   rw[Z0g];have:=hw a
   cases hga:g a with
   |nil=>rw[hga] at this;simp at this;omega
   |cons x xs=>simp
  obtain⟨x,xs,hx⟩:=Z4j hne;rw[hx] at hl;have hl:lk L i=some {cells:=x::xs,ty:=ty,more:=true,sym:=true,flat:=true,gh:=some (gn,w)}:=hl;refine Ex.fz t _ w (i:=i) (N:=(a::l).length) (by rw[ht];rfl) hl rfl rfl (λk _=>hw _) (λk j y hk hy=>⟨?_,hp _ _ _ hy⟩) he hL k;show (x::xs)[k*w+j]? =_;rw[<-hx];exact cF g w d hw hk hy
end
end Ab
end Go.Proofs.YtegjgpldfgjoiaaGreatDoor
namespace Go.Proofs.YtegjgpldfgjoiaaGreatDoor
open Go Ab
set_option maxRecDepth 100000
set_option maxHeartbeats 40000000
def rJ (z:Int):Bool:=decide (97<=z/\z<=122)
def fI (z:Int):Bool:=decide (97<=z/\z<=122\/65<=z/\z<=90\/z=95)
def jT (z:Int):Bool:=decide (48<=z/\z<=57)
theorem eK (z:Int):FC Tryz.prog 165 [n8 z] 0 [] (bV (fI z)) 0 []:=by
 refine wW Tryz.func165 ?_
 repeat'(first|exact y0|refine y1 ?_|refine y2 ?_ ?_|refine y4 λh=>?_|refine Fin.bool (.inl rfl) rfl ?_|refine y3 ?_|exact y5|fail)
 all_goals (unfold fI;simp;omega)
theorem kY (z:Int):FC Tryz.prog 203 [n8 z] 0 [] (bV (jT z)) 0 []:=by
 refine wW Tryz.func203 ?_
 repeat'(first|exact y0|refine y1 ?_|refine y2 ?_ ?_|refine y4 λh=>?_|refine Fin.bool (.inl rfl) rfl ?_|refine y3 ?_|exact y5|fail)
 all_goals (unfold jT;simp;omega)
def kU (c:UInt8):Bool:=fI (c.toNat:Int)||jT (c.toNat:Int)
theorem Gn {s:By} {j:Nat} (hj:j<s.length):(s.drop j).takeWhile kU=if kU (s.getD j 0) then s.getD j 0::(s.drop (j+1)).takeWhile kU else []:=by
 rw[Z0k hj,List.takeWhile_cons,Z00,Z01 hj];rfl
theorem Fw (s:By) (hl0:s.length<9223372036854775807):FC Tryz.prog 166 [sV s,nI 0] 0 [] (nI ((s.takeWhile kU).length:Nat)) 0 []:=by
 refine wW Tryz.func166 ?_
 repeat'(first|exact y0|refine y1 ?_|refine y2 ?_ ?_|refine y4 λh=>?_|refine y3 ?_|exact y5|fail)
 refine Ex.inv (σ:=Nat) (λj=>[(1,nI j)]) (λ_=>[]) (λj=>j<=s.length/\(s.takeWhile kU).length=j+((s.drop j).takeWhile kU).length) (λj=>s.length-j) 0 rfl (λ_=>rfl) ⟨Z08 _,an⟩ aV trivial ?_;rintro j ⟨hj,hE⟩
 rcases Z0a j s.length with h|h
 ·rw[Gn h] at hE
  have hl:=eK ((s.getD j 0).toNat:Int);have hd:=kY ((s.getD j 0).toNat:Int);rw[show kU (s.getD j 0)=(fI ((s.getD j 0).toNat:Int)||jT ((s.getD j 0).toNat:Int)) from rfl] at hE;generalize fI ((s.getD j 0).toNat:Int)=b1 at*;generalize jT ((s.getD j 0).toNat:Int)=b2 at*
  cases b1<;>cases b2<;>simp only[Z4m,Z41,if_true,Z3e,Z0l,if_false,Z04,Z0e] at hE
  all_goals
   repeat'(first|exact y0|refine y1 ?_|refine y2 ?_ ?_|refine y4 λh=>?_|refine wX 165 (bo hl ?_)|refine wX 203 (bo hd ?_)|refine Fin.int (.inl rfl) rfl ?_|refine LoopR.same (j+1) ⟨?_,?_⟩ ?_ rfl aV trivial rfl rfl (Z02 _)|refine y3 ?_|exact y5|fail)
   all_goals first
    |omega
    |exact ae aa aa
    |(simp only;omega)
    |trace_state
 ·rw[Z10 h] at hE
  simp only[List.takeWhile_nil,Z0e] at hE
  repeat'(first|exact y0|refine y1 ?_|refine y2 ?_ ?_|refine y4 λh=>?_|refine Fin.int (.inl rfl) rfl ?_|refine y3 ?_|exact y5|fail)
  all_goals omega
def pF (s:By):Bool:=s.any λc=>rJ (c.toNat:Int)
theorem HV {s:By} {j:Nat} (hj:j<s.length):((s.drop j).any λc=>rJ (c.toNat:Int))=(rJ ((s.getD j 0).toNat:Int)||((s.drop (j+1)).any λc=>rJ (c.toNat:Int))):=by
 rw[Z0k hj,List.any_cons,Z00,Z01 hj];rfl
theorem rI (s:By) (hl0:s.length<9223372036854775807):FC Tryz.prog 167 [sV s] 0 [] (bV (pF s)) 0 []:=by
 refine wW Tryz.func167 ?_
 repeat'(first|exact y0|refine y1 ?_|refine y2 ?_ ?_|refine y4 λh=>?_|refine y3 ?_|exact y5|fail)
 refine Ex.inv (σ:=Nat) (λj=>[(3,nI j)]) (λ_=>[]) (λj=>j<=s.length/\pF s=(s.drop j).any λc=>rJ (c.toNat:Int)) (λj=>s.length-j) 0 rfl (λ_=>rfl) ⟨Z08 _,by simp[pF]⟩ aV trivial ?_;rintro j ⟨hj,hE⟩
 rcases Z0a j s.length with h|h
 ·rw[HV h] at hE
  repeat'(first|exact y0|refine y1 ?_|refine y2 ?_ ?_|refine y4 λh=>?_|refine Fin.bool (.inl rfl) rfl ?_|refine LoopR.same (j+1) ⟨?_,?_⟩ ?_ rfl aV trivial rfl rfl (Z02 _)|refine y3 ?_|exact y5|fail)
  all_goals first
   |omega
   |exact ae aa aa
   |(rw[hE,show rJ ((s.getD j 0).toNat:Int)=true from decide_eq_true ⟨aa,aa⟩];rfl)
   |(rw[hE,show rJ ((s.getD j 0).toNat:Int)=false from decide_eq_false aa];rfl)
   |(simp only;omega)
   |trace_state
 ·rw[Z10 h] at hE
  repeat'(first|exact y0|refine y1 ?_|refine y2 ?_ ?_|refine y4 λh=>?_|refine Fin.bool (.inl rfl) rfl ?_|refine y3 ?_|exact y5|fail)
  all_goals first
   |omega
   |(rw[hE];rfl)
def EG (s:By):Bool:=decide (1<=s.length)&&decide (s.length<=4)&&fI ((s.getD 0 0).toNat:Int)&&decide ((s.takeWhile kU).length=s.length)&& !pF s
theorem Hs (s:By) (hl0:s.length<9223372036854775807):FC Tryz.prog 99 [sV s] 0 [] (bV (EG s)) 0 []:=by
 have hl:=eK ((s.getD 0 0).toNat:Int);have hi:=Fw s hl0;have hw:=rI s hl0;unfold EG;generalize fI ((s.getD 0 0).toNat:Int)=b1 at*;generalize pF s=b2 at*;generalize (s.takeWhile kU).length=k at*;refine wW Tryz.func99 ?_
 cases b1<;>cases b2
 all_goals
  repeat'(first|exact y0|refine y1 ?_|refine y2 ?_ ?_|refine y4 λh=>?_|refine wX 165 (bo hl ?_)|refine wX 166 (pu hi ?_)|refine wX 167 (bo hw ?_)|refine Fin.bool (.inl rfl) rfl ?_|refine y3 ?_|exact y5|fail)
  all_goals first
   |omega
   |(simp;done)
   |(simp;omega)
theorem xA {p:UInt8->Bool}:∀ {s:By},(s.takeWhile p).length=s.length↔s.all p=true
 |[]=>by simp
 |c::s=>by
  rw[List.takeWhile_cons,Z1b];have:=xA (p:=p) (s:=s);cases h:p c
  ·simp
  ·simp only[if_true,Z04,Z1r,<-this];omega
theorem EF (s:By):EG s=aT s:=by
 unfold EG aT;by_cases h1:1<=s.length
 ·by_cases h2:s.length<=4
  ·rw[decide_eq_true h1,decide_eq_true h2]
   simp only[Z1r];rw[Z5t];simp only[Z07,decide_eq_true_eq,xA,Z0i,Z29,Z0v,pF,Z4b];constructor
   ·rintro⟨⟨a,b⟩,c⟩ i hi
    have hm:s.getD i 0∈s:=by rw[Z00,Z01 hi];exact Z0s hi
    have b:=b _ hm;have c:=c _ hm;unfold kv vL;unfold kU fI jT at b;unfold rJ at c;simp only[Z1h,decide_eq_true_eq] at b c |-
    cases i with
    |zero=>
     unfold fI at a;simp only[decide_eq_true_eq] at a;omega
    |succ i=>omega
   ·intro h
    refine⟨⟨?_,λc hc=>?_⟩,λc hc=>?_⟩
    ·have:=h 0 aa
     unfold kv vL at this;unfold fI;simp only[decide_eq_true_eq] at this |-;omega
    all_goals
     obtain⟨i,hi,rfl⟩:=Z2r.1 hc;have:=h i hi;rw[Z00,Z01 hi] at this;unfold kv vL at this
     try unfold kU fI jT
     try unfold rJ
     simp only[Z1h,decide_eq_true_eq,Z22] at this |-;omega
  ·rw[decide_eq_false h2];simp
 ·rw[decide_eq_false h1];simp
theorem jb (s:By) (hl0:s.length<9223372036854775807):FC Tryz.prog 99 [sV s] 0 [] (bV (aT s)) 0 []:=EF s▸Hs s hl0
theorem th (s:By) (hl0:s.length<9223372036854775807):FC Tryz.prog 138 [sV s] 0 [] (bV (aT s)) 0 []:=by
 refine wW Tryz.func138 ?_
 repeat'(first|exact y0|refine y1 ?_|refine y2 ?_ ?_|refine y4 λh=>?_|refine wX 99 (pu (jb s hl0) ?_)|refine Fin.bool (.inl rfl) rfl rfl|refine y3 ?_|exact y5|fail)
theorem fA (root:Bool) (up:Int) (segs:List By) (hs:∀ i,i<segs.length->(segs.getD i []).length<9223372036854775807):FC Tryz.prog 100 [.agg [.bool root,.int .i64 up,aE segs]] 0 [] (bV (ay ⟨root,up,segs⟩)) 0 []:=by
 refine wW Tryz.func100 ?_;cases root
 all_goals
  repeat'(first|exact y0|refine y1 ?_|refine y2 ?_ ?_|refine y4 λh=>?_|refine Fin.bool (.inl rfl) rfl ?_|refine y3 ?_|exact y5|fail)
  all_goals try first
   |exact ae aa aa
   |(unfold ay;simp;done)
   |(unfold ay;simp;omega)
   |(obtain rfl:segs=[]:=Z4u.1 aa
     obtain rfl:up=0:=aa
     rfl)
  all_goals
   refine Ex.inv (σ:=Nat) (λj=>[(3,nI j)]) (λ_=>[(0,some {cells:=[.bool _,.int .i64 up,aE segs],ty:=99})]) (λj=>j<=segs.length/\∀ i,i<j->aT (segs.getD i [])=true) (λj=>segs.length-j) 0 rfl (λ_=>rfl) ⟨Z08 _,λi hi=>by omega⟩ aV ⟨rfl,trivial⟩ ?_;rintro j ⟨hj,hall⟩
   repeat'(first|exact y0|refine y1 ?_|refine y2 ?_ ?_|refine y4 λh=>?_|(refine wX 99 ?_;refine CallG.bo (jb _ (hs j aa)) rfl rfl rfl ?_)|refine Fin.bool (.inl rfl) rfl ?_|refine LoopR.same (j+1) ⟨?_,?_⟩ ?_ rfl aV ⟨rfl,trivial⟩ rfl rfl ac|refine y3 ?_|exact y5|fail)
   all_goals first
    |omega
    |exact ae aa aa
    |exact nc hall (by assumption)
    |(have:=DL (l:=segs) (j:=j) aa ‹aT _=false›;unfold ay;rw[this];simp)
    |(have:=yN (l:=segs) λi hi=>hall i aa
      unfold ay;rw[this];simp;first|done|omega|exact λ_ _ _=>⟨aa,Z4u.1 aa⟩)
    |trace_state
section
variable {s c:By} {p:Pth} {root:Bool} {u:Nat} {l:List By}
theorem ly {c:UInt8}:∀ {r:By},(∀ j,j<r.length->r.getD j 0≠c)->aD c r=[r]
 |[],_=>rfl
 |b::l,h=>by
  have hb: ¬b=c:=by simpa using h 0 an
  have ih:=ly (c:=c) (r:=l) λj hj=>by simpa using h (j+1) (by simpa using hj)
  simp only[aD,if_neg hb,ih]
theorem pY {c:UInt8}:∀ {r:By} {m:Nat},m<r.length->(∀ j,j<m->r.getD j 0≠c)->r.getD m 0=c->aD c r=r.take m::aD c (r.drop (m+1))
 |[],m,h,_,_=>by simp at h
 |b::l,0,_,_,h=>by
  have hb:b=c:=by simpa using h
  simp[aD,if_pos hb]
 |b::l,m+1,hm,h,hc=>by
  have hb: ¬b=c:=by simpa using h 0 an
  have ih:=pY (c:=c) (r:=l) (m:=m) (by simpa using hm) (λj hj=>by simpa using h (j+1) aa) (by simpa using hc);simp only[aD,if_neg hb,ih,List.take_succ_cons,Z59]
theorem tg {c:UInt8} (s:By):aD c s≠[]:=λh=>by
 have:=gW c s;rw[h] at this;simp at this
theorem gI {a:By} (h:l≠[]):Lib.join (a::l) c=a++c++Lib.join l c:=by
 cases l with
 |nil=>exact absurd rfl h
 |cons b t=>simp[Lib.join,List.intercalate]
theorem gH {a:By}:Lib.join [a] c=a:=by simp[Lib.join,List.intercalate]
theorem uw:Lib.join [] c=[]:=by simp[Lib.join,List.intercalate]
theorem oI (c:UInt8):∀ s:By,Lib.join (aD c s) [c]=s
 |[]=>gH
 |b::l=>by
  have ih:=oI c l;by_cases hb:b=c
  ·subst hb
   simp only[aD,if_true];rw[gI (tg l),ih];rfl
  ·simp only[aD,if_neg hb]
   cases e:aD c l with
   |nil=>exact absurd e (tg l)
   |cons h t=>
    rw[e] at ih;simp only
    cases t with
    |nil=>rw[gH] at ih |-;rw[ih]
    |cons h' t'=>
     rw[gI an] at ih |-;rw[<-ih];simp
theorem qg {c:By}:∀ {l:List By} {a:By},Lib.join (l++[a]) c=if l=[] then a else Lib.join l c++c++a
 |[],a=>gH
 |b::l,a=>by
  rw[if_neg an]
  cases l with
  |nil=>
   show Lib.join (b::[a]) c=_;rw[gI an,gH,gH]
  |cons d t=>
   rw[Z25,gI an,qg,if_neg an,gI (a:=b) an];simp only[Z14]
theorem FE (h:l.all aT=false):eQ ⟨root,u,l⟩=(z0,false):=by
 unfold eQ ay;simp only[h];simp
theorem zT (h:32<l.length):eQ ⟨root,u,l⟩=(z0,false):=by
 unfold eQ ay;rw[if_neg];simp only[Z07,decide_eq_true_eq];omega
theorem j9 (root:Bool) (u:Nat) (rest:By):dJ root u rest=if rest=[] then eQ ⟨root,u,[]⟩ else if (aD 46 rest).all aT then eQ ⟨root,u,aD 46 rest⟩ else (z0,false):=by
 unfold dJ
 by_cases h:rest=[]
 ·rw[if_pos h,if_pos h]
 ·rw[if_neg h,if_neg h]
  by_cases hc:32<=rest.count 46
  ·rw[if_pos hc]
   rw[zT (by rw[gW];omega)]
   split<;>rfl
  ·rw[if_neg hc]
   cases ha:(aD 46 rest).all aT with
   |true=>rfl
   |false=>rw[FE ha];rfl
theorem qJ:∀ s:By,s=List.replicate (cI s).1 94++(cI s).2
 |[]=>rfl
 |b::l=>by
  unfold cI;split
  ·rename_i h;subst h
   have:=qJ l;simp only[Z16,Z25];rw[<-this]
  ·rfl
theorem yj {q:Pth} (h:eQ p=(q,true)):q=p/\ay p=true:=by
 unfold eQ at h;split at h
 ·rename_i hv;cases h;exact⟨rfl,hv⟩
 ·cases h
theorem qN {rest:By} (h:dJ root u rest=(p,true)):p=⟨root,u,if rest=[] then [] else aD 46 rest⟩/\ay p=true:=by
 rw[j9] at h;split at h
 ·rename_i hr
  obtain⟨rfl,hv⟩:=yj h;rw[if_pos hr];exact⟨rfl,hv⟩
 ·rename_i hr
  split at h
  ·obtain⟨rfl,hv⟩:=yj h
   rw[if_neg hr];exact⟨rfl,hv⟩
  ·cases h
theorem s_ {rest:By} (h:dJ root u rest=(p,true)) (hu:root=true->u=0):aI p=(if root then [92] else List.replicate u 94)++rest:=by
 obtain⟨rfl,hv⟩:=qN h;unfold aI;rw[if_pos hv];simp only;congr 1
 by_cases hr:rest=[]
 ·rw[if_pos hr,hr,uw]
 ·rw[if_neg hr,oI]
theorem GV (s:By):(dj s [92]=(s.drop 1,true)/\s=92::s.drop 1)\/(dj s [92]=(s,false)/\s.head? ≠some 92):=by
 unfold dj
 cases s with
 |nil=>exact .inr ⟨by simp[cZ],an⟩
 |cons b l=>
  by_cases h:b=92
  ·subst h;exact .inl ⟨by simp[cZ],rfl⟩
  ·refine .inr ⟨by simp[cZ,h],by simpa using h⟩
theorem ql (h:ah s=(p,true)):aI p=s:=by
 unfold ah at h
 rcases GV s with ⟨e1,e2⟩|⟨e1,e2⟩
 ·rw[e1] at h
  simp only[if_true] at h;rw[s_ h (λ_=>rfl)];exact e2.symm
 ·rw[e1] at h
  simp only[Z0l,if_false] at h;rw[s_ h (λe=>by cases e)];exact (qJ s).symm
theorem iH (h:ah s=(p,true)):ay p=true:=by
 unfold ah at h;split at h
 ·exact (qN h).2
 ·exact (qN h).2
theorem tv (h:aT s=true) {c:UInt8} (hc:c∈s):(65<=c.toNat/\c.toNat<=90)\/c.toNat=95\/(48<=c.toNat/\c.toNat<=57):=by
 unfold aT at h;simp only[Z07,decide_eq_true_eq,Z0i,Z29] at h;obtain⟨i,hi,rfl⟩:=Z2r.1 hc;have:=h.2 i hi;rw[Z00,Z01 hi] at this;unfold kv vL at this;simp only[Z22,decide_eq_true_eq] at this;omega
theorem zf (h:aT s=true):aD 46 s=[s]:=by
 refine ly λj hj e=>?_
 rw[Z00,Z01 hj] at e;have:=tv h (Z0s hj);simp only[Z22] at e;rw[e] at this
 revert this;decide
theorem zx (h:aT s=true):ah s=(⟨false,0,[s]⟩,true):=by
 have hl:=ek h
 cases s with
 |nil=>simp at hl
 |cons b l=>
  have hb:=tv h (Z17 ..)
  have h92: ¬b=92:=λe=>by subst e;revert hb;decide
  have h94: ¬b=94:=λe=>by subst e;revert hb;decide
  have e1:dj (b::l) [92]=(b::l,false):=by simp[dj,cZ,h92]
  unfold ah;rw[e1];simp only[Z0l,if_false]
  have e2:cI (b::l)=(0,b::l):=by simp[cI,h94]
  rw[e2];simp only;rw[j9,if_neg an,zf h];simp only[Z1b,h,Z2u,Bool.and_self,if_true];unfold eQ ay;simp[h]
theorem ED (h:ah s=(p,true)):zg p=aT s:=by
 have hf:=ql h;have hv:=iH h;obtain⟨root,up,segs⟩:=p
 cases hs:aT s with
 |true=>
  rw[zx hs] at h;cases h;rfl
 |false=>
  rw[Bool.eq_false_iff];intro hp;unfold zg at hp;simp only[Z07,Z0v,decide_eq_true_eq] at hp;obtain⟨⟨rfl,rfl⟩,hl⟩:=hp;obtain⟨a,rfl⟩:∃ a,segs=[a]:=Z5o.1 aa;have hall:=(aJ hv).2.2.2.2.1;simp only[Z1b,Z2u,Z3m] at hall
  have:aI ⟨false,0,[a]⟩=a:=by
   unfold aI;rw[if_pos hv];simp[gH]
  rw[this] at hf;subst hf;rw[hall] at hs;cases hs
end
end Go.Proofs.YtegjgpldfgjoiaaGreatDoor
namespace Go.Proofs.YtegjgpldfgjoiaaGreatDoor
open Go.Shelf
def Tryz.cloneA_ren:Go.Shelf.Ren:=⟨fun|5=>123|7=>182|n=>n,fun|23=>76|25=>3|3=>86|4=>4|20=>20|n=>n,fun|n=>n⟩
theorem Tryz.cloneA:Go.Proofs.SlLaysW.n5 Tryz.prog Tryz.cloneA_ren:={
 mixed:=by kernel_rfl
 f5:=⟨Tryz.f123.name,by decide,Tryz.func123.trans (congrArg some (by kernel_rfl))⟩
 f7:=Tryz.func182.trans (congrArg some (by kernel_rfl))
 t4:=Tryz.underlying4
 a4:=Tryz.isAgg4
 z4:=Tryz.sizeOf4
 v4:=Tryz.zeroValue4
 t20:=Tryz.underlying20
 a20:=Tryz.isAgg20
 z20:=Tryz.sizeOf20
 v20:=Tryz.zeroValue20
 t23:=Tryz.underlying76
 a23:=Tryz.isAgg76
 z23:=Tryz.sizeOf76
 v23:=Tryz.zeroValue76}
def Tryz.cloneB_ren:Go.Shelf.Ren:=⟨fun|5=>124|7=>182|n=>n,fun|23=>77|25=>9|3=>3|4=>4|20=>20|n=>n,fun|n=>n⟩
theorem Tryz.cloneB:Go.Proofs.SlLaysW.n5 Tryz.prog Tryz.cloneB_ren:={
 mixed:=by kernel_rfl
 f5:=⟨Tryz.f124.name,by decide,Tryz.func124.trans (congrArg some (by kernel_rfl))⟩
 f7:=Tryz.func182.trans (congrArg some (by kernel_rfl))
 t4:=Tryz.underlying4
 a4:=Tryz.isAgg4
 z4:=Tryz.sizeOf4
 v4:=Tryz.zeroValue4
 t20:=Tryz.underlying20
 a20:=Tryz.isAgg20
 z20:=Tryz.sizeOf20
 v20:=Tryz.zeroValue20
 t23:=Tryz.underlying77
 a23:=Tryz.isAgg77
 z23:=Tryz.sizeOf77
 v23:=Tryz.zeroValue77}
def Tryz.cloneC_ren:Go.Shelf.Ren:=⟨fun|5=>125|7=>182|n=>n,fun|23=>78|25=>3|3=>126|4=>4|20=>20|n=>n,fun|n=>n⟩
theorem Tryz.cloneC:Go.Proofs.SlLaysW.n5 Tryz.prog Tryz.cloneC_ren:={
 mixed:=by kernel_rfl
 f5:=⟨Tryz.f125.name,by decide,Tryz.func125.trans (congrArg some (by kernel_rfl))⟩
 f7:=Tryz.func182.trans (congrArg some (by kernel_rfl))
 t4:=Tryz.underlying4
 a4:=Tryz.isAgg4
 z4:=Tryz.sizeOf4
 v4:=Tryz.zeroValue4
 t20:=Tryz.underlying20
 a20:=Tryz.isAgg20
 z20:=Tryz.sizeOf20
 v20:=Tryz.zeroValue20
 t23:=Tryz.underlying78
 a23:=Tryz.isAgg78
 z23:=Tryz.sizeOf78
 v23:=Tryz.zeroValue78}
end Go.Proofs.YtegjgpldfgjoiaaGreatDoor
namespace Go.Proofs.YtegjgpldfgjoiaaGreatDoor
open Go.RowKit Go.Maps Go.Sort
end Go.Proofs.YtegjgpldfgjoiaaGreatDoor
namespace Go.Proofs.YtegjgpldfgjoiaaGreatDoor
open Go.RowKit Go.Maps Go.Sort Go.Shelf
end Go.Proofs.YtegjgpldfgjoiaaGreatDoor
