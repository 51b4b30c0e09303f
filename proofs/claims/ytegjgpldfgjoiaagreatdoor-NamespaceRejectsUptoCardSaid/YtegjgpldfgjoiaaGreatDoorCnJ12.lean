import Derived.Test.YtegjgpldfgjoiaaGreatDoorCnJ11
import Derived.Below
import Derived.Shelf.Strings.OnBuilder
set_option linter.all false
namespace Go.Proofs.YtegjgpldfgjoiaaGreatDoor
namespace Ab
open Go
section
variable {t tx e:TypeId} {c:Code} {φ:Ph} {m k n' sz:Nat} {dst:Option Tmp} {pos:String} {af:Array Edge} {gd:Option (Nat×Bool)} {x y:Operand} {L' M:Hp} {inf:TypeInfo} {k':IntKind} {w:World} {bl:Bl}
section
variable {P:Program} {b:Nat} {ops:Array Oper} {d:Bool} {acc:List Row} {os:List Oper} {o:Oper} {env:List V} {n:Nat} {L:Hp} {R:Post}
theorem sT {φ:Ph} (hty:dV P t=true) {a:Addr} {ox oy:Operand} {op:BinOp} {r:Bool} (hop:(op=.eql/\r=false)\/(op=.neq/\r=true)) (w:World):
 (do eqGuard op t ox oy (.slice (some a) m k) (.slice none 0 0);binOp op t (.slice (some a) m k) (.slice none 0 0)).run P w=.ok (.bool r) w:=by
 unfold dV at hty;split at hty
 ·rename_i e hu
  have hg:(eqGuard op t ox oy (.slice (some a) m k) (.slice none 0 0)).run P w=.ok () w:=by unfold eqGuard;split<;>simp
  have he:(Op.equal t (.slice (some a) m k) (.slice none 0 0)).run P w=.ok false w:=ir λd=>kL d hu _ _ _ _ _
  rcases hop with ⟨rfl,rfl⟩|⟨rfl,rfl⟩
  ·simp only[Z09,hg,Z05,binOp,he,Z0f]
  ·simp only[Z09,hg,Z05,binOp,he,Z0f,Z2f]
 ·cases hty
def yo:V->Prop
 | .s (.frz _ _ n)=>0<n
 | .s .emq=>True
 |_=>False
theorem DS {x:V} (h:yo x) {v:Value} (hv:Vr φ x v):∃ a m k,v=.slice (some a) m k:=by
 unfold yo at h;split at h
 ·cases hv with
  |nil get sz a k hk=>omega
  |frz get sz n b o k vs h1 hn val hl hv hx=>grind
 ·obtain⟨a,k,rfl⟩:=hv;exact⟨_,_,_,rfl⟩
 ·exact h.elim
theorem CmpG.nn {op:BinOp} {ty ty':TypeId} {c:Option Nat} (r:Bool) (hx:yo (ev env x)) (hy:ev env y=.s (.slc none m c)) (hop:(op=.eql/\r=false)\/(op=.neq/\r=true)) (hty:dV P ty=true)
 (hw:bf ops env ⟨dst,.binOp op ty x y ty',t,pos,af,gd⟩=some true) (k:RegX P ops d (aE d ⟨dst,.binOp op ty x y ty',t,pos,af,gd⟩ [] [] acc) os (bg env dst (.s (.bool r))) n L R):
 CmpG P ops d acc ⟨dst,.binOp op ty x y ty',t,pos,af,gd⟩ os env n L R:=by
 refine⟨RegX.op (foot:=[]) (wr:=[]) hw (OpL.light λφ a w hop' _=>?_) (Z02 _) k⟩;have g1:=hop' x (by simp[Op.operands]);have g2:=hop' y (by simp[Op.operands]);rw[hy] at g2;obtain⟨_,_,e2⟩:=g2;obtain⟨ad,m',k',e1⟩:=DS hx g1;refine⟨.bool r,?_,rfl⟩;have:=sT (P:=P) (φ:=φ) hty (a:=ad) (m:=m') (k:=k') (ox:=x) (oy:=y) hop w;rw[<-e1,<-e2] at this;simp only[execOp];rw[Z09,this];rfl
theorem RegX.cap0 {c:Option Nat} (hx:ev env x=.s (.slc none m c)) (hty:dV P tx=true)
 (hw:bf ops env ⟨dst,.call ⟨.builtin .cap,#[x],#[tx]⟩,t,pos,af,gd⟩=some true) (k:RegX P ops d (aE d ⟨dst,.call ⟨.builtin .cap,#[x],#[tx]⟩,t,pos,af,gd⟩ [] [] acc) os (bg env dst (.s (.int .i64 0))) n L R):
 RegX P ops d acc (⟨dst,.call ⟨.builtin .cap,#[x],#[tx]⟩,t,pos,af,gd⟩::os) env n L R:=by
 refine RegX.op (foot:=[]) (wr:=[]) hw (OpL.light λφ a w hop' _=>?_) (Z02 _) k;have g1:=hop' x (by simp[Op.operands,Call.operands]);rw[hx] at g1;obtain⟨_,_,e1⟩:=g1;refine⟨.int .i64 0,?_,rfl⟩;unfold dV at hty;split at hty
 ·rename_i e hu
  simp only[execOp,resolve,Z09,Z0f,Z05,invoke,builtin,Z3u,Z13,Z3d,e1];simp[Builtin.cap_,run_underlying hu,goInt]
 ·cases hty
theorem rx {ts:Array TypeId} {ty:TypeId} {k:IntKind} (h0:ts[0]? =some t) (h1:ts[1]? =some tx) (ht:P.underlying t=some (.slice e)) (hx:P.underlying tx=some (.int k)) (hi:P.info? e=some inf) {zv:Value} (hz:inf.zero=some zv) (hs:0<inf.size)
 (hm:1<=m) (hbig:m*inf.bytes<=140737488355328) (hmax:m<=140737488355328):
 ∃ c,m<=c/\∃ rest:Array Value,rest.size=(c-m)*zv.cells.size/\(Builtin.append_ ts ty #[.slice none 0 0,.int k' (m:Int)]).run P w=.ok (.slice (some ⟨w.heap.size,0,none⟩) m c) {w with drawn:=w.drawn+1,heap:=w.heap.push (.cells (Builtin.zeroCells zv.cells m++rest) e)}:=by
 have hsz:(sizeOf e).run P w=.ok inf.size w:=by simp[sizeOf,typeInfo,hi]
 have hti:∀ w,(typeInfo e).run P w=.ok inf w:=λw=>by simp[typeInfo,hi]
 have hzv:∀ w,(zeroValue e).run P w=.ok zv w:=λw=>by simp[zeroValue,typeInfo,hi,hz]
 have c1: ¬(0+m<=0):=aa
 have c2: ¬(((0+m:Nat):Int)>IntKind.i64.max/\(True\/inf.bytes=0)):=by
  have:IntKind.i64.max=9223372036854775807:=ac
  grind
 have c3: ¬(Builtin.nextslicecap (0+m) 0*inf.bytes>2^48):=by
  have:=growslice_fits (bytes:=inf.bytes) (old:=0) (need:=0+m) aa ae
  grind
 have w1:IntKind.i64.wrap (m:Int)=m:=aB aa aa;have c4: ¬((m:Int)<0):=aa
 have c5: ¬((m:Int)*(inf.bytes:Int)>2^48):=by
  grind
 have c6: ¬(m*inf.size=0):=by
  intro h
  rcases Nat.mul_eq_zero.1 h with h|h<;>omega
 refine⟨(Question.appendCap (0+m) 0 e).cut (w.tape w.drawn (.appendCap (0+m) 0 e)),by simp only[Question.cut];omega,Builtin.zeroCells zv.cells ((Question.appendCap (0+m) 0 e).cut (w.tape w.drawn (.appendCap (0+m) 0 e))-(0+m)),by rw[f_,Z0c],?_⟩;unfold Builtin.append_;simp only[h0,h1,Z1a,Z11,Z23,Z09,Ab.run_underlying ht,Ab.run_underlying hx,Z05,hsz,Z0f,asInt,asIntOf,w1,if_neg c4,hti,if_neg c5,if_true,Z12];simp only[Z2z,Z0l,if_false,if_neg c1,if_neg c2,if_neg c3,if_neg c6,Z09,Z05,Z0f,hti,run_choose,Question.forced,run_askRoom,hzv,newRow,run_newObj];simp[Builtin.firstCells,newRow];rfl
theorem RegX.mkz {t':TypeId} {zs:List S} {ki:IntKind} {z:Int} {c:Option Nat} {mm:Nat} {op':Op} (m:Nat)
 (hop:op'=.call ⟨.builtin .append,#[x,y],#[t,tx]⟩)
 (hx:ev env x=.s (.slc none mm c)) (hy:ev env y=.s (.int k' z)) (ht:P.underlying t=some (.slice e)) (htx:P.underlying tx=some (.int ki)) (hi:P.info? e=some inf) (hz:dW P e=some zs) (hsz:inf.size=zs.length) (hs0:Nat.blt 0 inf.size=true)
 (hm:z=(m:Int)) (h1:1<=m) (hbig:m*inf.bytes<=140737488355328) (hmax:m<=140737488355328)
 (hw:bf ops env ⟨dst,op',t',pos,af,gd⟩=some true)
 (k:RegX P ops d (aE d ⟨dst,op',t',pos,af,gd⟩ [] [(n,some {cells:=rep m zs,ty:=e,more:=true,sym:=true,flat:=zs.all bZ,gh:=some (n+1,inf.size)})] acc) os (bg env dst (.s (.sla n (n+1) m))) (n+2) (aA L [(n,some {cells:=rep m zs,ty:=e,more:=true,sym:=true,flat:=zs.all bZ,gh:=some (n+1,inf.size)})]) R):
 RegX P ops d acc (⟨dst,op',t',pos,af,gd⟩::os) env n L R:=by
 subst hm hop;refine RegX.op (foot:=[]) (wr:=[(n,some {cells:=rep m zs,ty:=e,more:=true,sym:=true,flat:=zs.all bZ,gh:=some (n+1,inf.size)})]) hw ?_ aa k;refine OpL.moved (bi:=none) (λφ a w hop _=>?_) rfl;have g1:=hop x (by simp[Op.operands,Call.operands]);have g2:=hop y (by simp[Op.operands,Call.operands]);rw[hx] at g1;rw[hy] at g2;obtain⟨_,_,e1⟩:=g1;have e2:a.eval y=.int k' (m:Int):=g2;obtain⟨zv,hzr,hall⟩:=fZ hz w
 have hzv:inf.zero=some zv:=by
  unfold dW at hz;rw[hi] at hz
  cases hq:inf.zero with
  |none=>grind
  |some zq=>
   have:zq=zv:=by simp[zeroValue,typeInfo,hi,hq] at hzr;exact hzr
   rw[this]
 have hzs:zv.cells.size=zs.length:=by rw[<-Z28];exact (hall ⟨λ_=>none,λ_=>none⟩).len
 obtain⟨cp,hcp,rest,hrs,hrun⟩:=rx (ts:= #[t,tx]) (ty:=t') (k':=k') (w:=w) rfl rfl ht htx hi hzv (bd.1 hs0) (m:=m) h1 hbig hmax;refine⟨(w.heap.size,0),cp,{w with drawn:=w.drawn+1,heap:=w.heap.push (.cells (Builtin.zeroCells zv.cells m++rest) e)},?_,rfl,rfl,rfl,hcp,aq,λc hc _=>?_,λh=>absurd h (Z40 _),λφ' hle hk'=>?_⟩
 ·simp only[execOp,resolve,Z09,Z0f,Z05,invoke,builtin,Z3u,Z13,Z3d,e1,e2,hrun]
 ·grind
 ·refine⟨[],(Builtin.zeroCells zv.cells m).toList,rest.toList,(0,0),?_,rfl,?_,(λe=>by cases e),(λ_ o' ho'=>by simp),⟨λg q e'=>?_,λg e'=>(by cases e')⟩⟩
  ·show (w.heap.push _)[w.heap.size]? =_
   simp[di]
  ·have:=Dt (φ:=(Bl.mk (rep m zs) e true false true (zs.all bZ) (some (n+1,inf.size)) none none).ph φ') (hall _) m
   grind [Builtin.zeroCells]
  ·simp only[Z06,Z0j] at e'
   obtain⟨rfl,rfl⟩:=e';refine⟨cp,hk',?_⟩;simp only[Z03,Z28,hrs,f_,hzs,hsz];rw[<-Z2q];exact Z1w _ aa
theorem SC.split2 {f:FuncId} {pre post:List V} {a a1 a2:V} {v:V} (h:∀ φ x,Vr φ a x->Vr φ a1 x\/Vr φ a2 x)
 (h1:SC P f (pre++a1::post) n L v n' L') (h2:SC P f (pre++a2::post) n L v n' L'):SC P f (pre++a::post) n L v n' L':=by
 intro φ xs w hx hg hf
 have key:∀ (pre:List V) (xs:List Value),All2 (Vr φ) (pre++a::post) xs->All2 (Vr φ) (pre++a1::post) xs\/All2 (Vr φ) (pre++a2::post) xs:=by
  intro pre
  induction pre with
  |nil=>
   intro xs hx
   cases xs with
   |nil=>exact hx.elim
   |cons x xs=>rcases h φ x hx.1 with h'|h'
               ·exact .inl ⟨h',hx.2⟩
               ·exact .inr ⟨h',hx.2⟩
  |cons p pre ih=>
   intro xs hx
   cases xs with
   |nil=>exact hx.elim
   |cons x xs=>rcases ih xs hx.2 with h'|h'
               ·exact .inl ⟨hx.1,h'⟩
               ·exact .inr ⟨hx.1,h'⟩
 rcases key pre xs hx with h'|h'
 ·exact h1 φ xs w h' hg hf
 ·exact h2 φ xs w h' hg hf
theorem qe {get:Nat->List S} {x:Value} (h:Vr φ (.s (.frz get sz 0)) x):Vr φ (.s (.slc none 0 (some 0))) x\/Vr φ (.s .emq) x:=by
 have h:Pr φ.z (.frz get sz 0) x:=h
 cases h with
 |nil _ _ a k hk=>
  cases a with
  |none=>rw[hk rfl];exact .inl ⟨rfl,rfl,rfl⟩
  |some a=>exact .inr ⟨a,k,rfl⟩
 |frz _ _ _ b o k vs=>exact .inr ⟨_,_,rfl⟩
theorem SLe.slaemq {i g:Nat}:SLe (.sla i g 0) .emq:=λφ x h=>by
 obtain⟨b,k,_,_,e,_⟩:=h;exact⟨_,_,e⟩
theorem SLe.emqfrz {get:Nat->List S}:SLe .emq (.frz get sz 0):=λφ x h=>by
 obtain⟨a,k,e⟩:=h;subst e;exact Pr.nil _ _ (some a) k (λh=>nomatch h)
theorem k9 {α:Type} (g:α->List S) (d:α) (l:List α):cX (λk=>g (l.getD k d)) l.length=l.flatMap g:=by
 have key:∀ k,k<=l.length->cX (λk=>g (l.getD k d)) k=(l.take k).flatMap g:=by
  intro k
  induction k with
  |zero=>intro _;rfl
  |succ k ih=>
   intro h;rw[k8,ih aa,Z49,Z0r]
   grind
 grind
theorem B6 {l:List S} (h1:∀ x∈l,bZ x=true):cf bl l=true:=by
 unfold cf
 have nj:∀ x,bZ x=true->nJ x=true:=λx h=>by cases x<;>first|rfl|cases h
 grind
theorem RegX.nilTo {c:Option Nat} {z:Int} (hx:ev env x=.s (.slc none m c)) (hy:ev env y=.s (.int k' z)) (hz:z=0) (hty:P.underlying tx=some (.slice e)) (hsz:cE P e=some sz)
 (hw:bf ops env ⟨dst,.slice tx x none (some y) none,t,pos,af,gd⟩=some true) (k:RegX P ops d (aE d ⟨dst,.slice tx x none (some y) none,t,pos,af,gd⟩ [] [] acc) os (bg env dst (.s (.slc none 0 (some 0)))) n L R):
 RegX P ops d acc (⟨dst,.slice tx x none (some y) none,t,pos,af,gd⟩::os) env n L R:=by
 refine RegX.op (foot:=[]) (wr:=[]) hw (OpL.light λφ a w hop' _=>?_) (Z02 _) k;have g1:=hop' x (by simp[Op.operands]);have g2:=hop' y (by simp[Op.operands]);rw[hx] at g1;rw[hy,hz] at g2;obtain⟨_,_,e1⟩:=g1;have e2:a.eval y=.int k' 0:=g2;refine⟨.slice none 0 0,?_,rfl,rfl,rfl⟩;have w0:IntKind.i64.wrap 0=0:=aB aa aa
 have hsb:(Instr.sliceBounds true 0 0 none (some (.int k' 0)) none).run P w=.ok (0,0,0) w:=by simp[Instr.sliceBounds,Instr.sliceBound,asIntOf,asInt,w0]
 simp only[execOp,e1,e2,Z2g,Z1j,Instr.sliceAt,Instr.slice,Z09,run_underlying hty,Z05,hsb,aI hsz,Z0f,if_true,Z3r]
def yr:V->Prop
 | .s (.frz _ _ n)=>n=0
 | .s .emq=>True
 | .s (.slc none _ _)=>True
 |_=>False
theorem DV {x:V} (h:yr x) {v:Value} (hv:Vr φ x v):∃ a k,v=.slice a 0 k:=by
 unfold yr at h;split at h
 ·subst h;exact mW hv
 ·obtain⟨a,k,rfl⟩:=hv;exact⟨_,_,rfl⟩
 ·obtain⟨_,_,rfl⟩:=hv;exact⟨_,_,rfl⟩
 ·exact h.elim
theorem RegX.apNil {t':TypeId} {dx:TypeDesc} {c:Option Nat} {mm:Nat}
 (hx:ev env x=.s (.slc none mm c)) (hy:yr (ev env y)) (ht:P.underlying t=some (.slice e)) (htx:P.underlying tx=some dx) (hdx:iL dx=true) (hi:P.info? e=some inf)
 (hw:bf ops env ⟨dst,.call ⟨.builtin .append,#[x,y],#[t,tx]⟩,t',pos,af,gd⟩=some true)
 (k:RegX P ops d (aE d ⟨dst,.call ⟨.builtin .append,#[x,y],#[t,tx]⟩,t',pos,af,gd⟩ [] [] acc) os (bg env dst (.s (.slc none 0 (some 0)))) n L R):
 RegX P ops d acc (⟨dst,.call ⟨.builtin .append,#[x,y],#[t,tx]⟩,t',pos,af,gd⟩::os) env n L R:=by
 refine RegX.op (foot:=[]) (wr:=[]) hw (OpL.light λφ a w hop' _=>?_) (Z02 _) k;have g1:=hop' x (by simp[Op.operands,Call.operands]);have g2:=hop' y (by simp[Op.operands,Call.operands]);rw[hx] at g1;obtain⟨_,_,e1⟩:=g1;obtain⟨ad,k',e2⟩:=DV hy g2;refine⟨.slice none 0 0,?_,rfl,rfl,rfl⟩
 have hsz:(sizeOf e).run P w=.ok inf.size w:=by simp[sizeOf,typeInfo,hi]
 have hnew:(Builtin.firstCells inf.size 0 (.slice ad 0 k')).run P w=.ok #[] w:=by
  cases ad<;>simp[Builtin.firstCells,loadCells,loadCellsFrom]
 have hrun:(Builtin.append_ #[t,tx] t' #[.slice none 0 0,.slice ad 0 k']).run P w=.ok (.slice none 0 0) w:=by
  unfold Builtin.append_;simp only[Z1a,Z11,Z23,Z09,Ab.run_underlying ht,Ab.run_underlying htx,Z05,hsz,Z0f];have hlen:(Builtin.lenOf (.slice ad 0 k')).run P w=.ok 0 w:=rfl
  cases dx<;>first|(cases hdx;done)|(simp only[Z0l,if_false,Z2f,if_true,hlen,Z09,Z05,Z0f,Z0p,Z02,hnew])
 simp only[execOp,resolve,Z09,Z0f,Z05,invoke,builtin,Z3u,Z13,Z3d,e1,e2,hrun]
def Fx:Nat->List Oper->List Oper->Option (List Oper×List Oper)
 |0,os,acc=>some (acc.reverse,os)
 |_+1,[],_=>none
 |k+1,o::os,acc=>Fx k os (o::acc)
theorem AU:∀ (k:Nat) (os acc a b:List Oper),Fx k os acc=some (a,b)->a++b=acc.reverse++os
 |0,os,acc,a,b,h=>by grind [Fx]
 |k+1,[],acc,a,b,h=>by cases h
 |k+1,o::os,acc,a,b,h=>by
  simp only[Fx] at h;have:=AU k os (o::acc) a b h
  grind
theorem G7 {base:List V} (tl:List Oper):∀ (os:List Oper) (s:Bool) (acc:List Row) (u:List (Nat×V)) (n:Nat) (L:Hp) (a:List Row) (os':List Oper) (e:List V) (m:Nat) (M:Hp) (C:Prop),Bp u->
 je P ops d base s os acc u n L=some (a,os',e,m,M,C)->(∀ y∈u,y.1<base.length)/\(C->RegX P ops d a (os'++tl) e m M R->RegX P ops d acc (os++tl) (ap base u) n L R):=by
 intro os
 induction os with
 |nil=>
  grind [je,j9]
 |cons o os ih=>
  intro s acc u n L a os' e m M C hs h
  have stop:jt s acc (o::os) base u n L=some (a,os',e,m,M,C)->(∀ y∈u,y.1<base.length)/\(C->RegX P ops d a (os'++tl) e m M R->RegX P ops d acc (o::os++tl) (ap base u) n L R):=by
   grind [j9]
  unfold je at h;split at h
  ·rename_i hw
   split at h
   ·exact stop h
   ·split at h
    ·rename_i foot v wr n' as_ C1 ha
     rw[cO,cO] at h
     have go:∀ (acc':List Row),acc'=aE d o foot wr acc->Cs C1 (je P ops d base true os acc' (tM o.dst v u) n' (aA L wr))=some (a,os',e,m,M,C)->(∀ y∈u,y.1<base.length)/\(C->RegX P ops d a (os'++tl) e m M R->RegX P ops d acc (o::os++tl) (ap base u) n L R):=by
      intro acc' hacc h;obtain⟨D,h1,h2⟩:=sq h;obtain⟨k1,k2⟩:=ih _ _ _ _ _ _ _ _ _ _ _ (lX hs) h1;have ku:=lY k1;refine⟨ku,λhC k=>?_⟩;obtain⟨hc1,hc2⟩:=h2 hC;rw[tV hs ku] at ha hw;rw[lj] at hw;obtain⟨q1,q2⟩:=Bc (show In P o (ap base u) n L=_ from ha) hc1;refine RegX.op hw q1 q2 ?_;have:=k2 hc2 k;rw[o_ hs,hacc] at this;exact this
     cases d with
     |true=>grind
     |false=>exact go _ rfl h
    ·exact stop h
  ·rename_i hw
   rw[cO] at h
   have go:∀ (acc':List Row),acc'=aE d o [] [] acc->je P ops d base true os acc' (tM o.dst .undef u) n L=some (a,os',e,m,M,C)->(∀ y∈u,y.1<base.length)/\(C->RegX P ops d a (os'++tl) e m M R->RegX P ops d acc (o::os++tl) (ap base u) n L R):=by
    intro acc' hacc h;obtain⟨k1,k2⟩:=ih _ _ _ _ _ _ _ _ _ _ _ (lX hs) h;have ku:=lY k1;refine⟨ku,λhC k=>?_⟩;rw[tV hs ku,lj] at hw;refine RegX.skip hw ?_;have:=k2 hC k;rw[o_ hs,hacc] at this;exact this
   cases d with
   |true=>grind
   |false=>exact go _ rfl h
  ·exact stop h
theorem RegX.chunkN (k:Nat) {os1 os2:List Oper} {a:List Row} {e:List V} {C:Prop} (hcut:Fx k os []=some (os1,os2)) (h:je P ops d env false os1 acc [] n L=some (a,[],e,m,M,C)) (hC:C) (kk:RegX P ops d a os2 e m M R):RegX P ops d acc os env n L R:=by
 have e1:=AU k os [] os1 os2 hcut;have:=(G7 (R:=R) os2 os1 false acc [] n L a [] e m M C trivial h).2 hC kk;rw[e1] at this;exact this
theorem RegX.eqv (t:Nat) {v:V} {env':List V} (h:env.getD t .undef=v) (he:env.set t v=env') (k:RegX P ops d acc os env' n L R):RegX P ops d acc os env n L R:=by
 have:env'=env:=by
  subst h;rw[<-he]
  rcases Z0a t env.length with ht|ht
  ·rw[Z00,Z01 ht];simp
  ·rw[Z4p ht]
 grind
theorem Bn (ans:List Ans) {xs:Array Operand} {ts:Array TypeId} {foot:List Nat} {v:V} {wr:Hp} {as_:List Ans} {C:Prop}
 (hw:bf ops env ⟨dst,.call ⟨.builtin .append,xs,ts⟩,t,pos,af,gd⟩=some true) (h:GA P ⟨dst,.call ⟨.builtin .append,xs,ts⟩,t,pos,af,gd⟩ env n L ans=some ⟨⟨foot,v,wr,n'⟩,as_,C⟩) (hC:C)
 {wr':Hp} (hwr:l6 wr [] some=some wr') {L':Hp} (hL:l6 (aA L wr) [] some=some L') {env':List V} (he:gE (bg env dst v) [] some=some env')
 (k:RegX P ops d (aE d ⟨dst,.call ⟨.builtin .append,xs,ts⟩,t,pos,af,gd⟩ foot wr acc) os env' n' L' R):RegX P ops d acc (⟨dst,.call ⟨.builtin .append,xs,ts⟩,t,pos,af,gd⟩::os) env n L R:=by
 rw[cO] at hL;rw[kr] at he;cases hL;cases he;exact mo ans hw h hC k
theorem Ex.upN (hn:n<=n') (h:Ex P b c env n' L R):Ex P b c env n L R:=
 λφ a w h1 h2 h3 h4=>h φ a w h1 h2 (λi hi=>h3 i (Z1z hn hi)) (Z1z h4 hn)
def SubF (L' L:Hp):Prop:=∀ i bl',lk L' i=some bl'->∃ bl,lk L i=some bl/\bl'.ro=bl.ro/\∀ φ w b,BlAt φ w b bl->BlAt φ w b bl'
theorem Wr.subF {L:Hp} (hs:SubF L' L) {b:Nat} (h:Wr φ L' b):Wr φ L b:=by
 obtain⟨i,bl,c,hi,h1,h2,h3⟩:=h;obtain⟨bl0,e1,e2,_⟩:=hs i bl hi;exact⟨i,bl0,c,e1,h1,h2,e2▸h3⟩
theorem Good.subF {L:Hp} (h:Good φ L w) (hs:SubF L' L):Good φ L' w:=by
 refine⟨λi bl hi=>?_,λi j bl bl' b b' hi hj hb hb' e=>?_,λb l hb=>⟨(h.fz b l hb).1,λhw=>(h.fz b l hb).2 (hw.subF hs)⟩,h.gz⟩
 ·obtain⟨bl0,e1,_,e3⟩:=hs i bl hi
  grind [h.hr]
 ·obtain⟨x,e1,e2,_⟩:=hs i bl hi
  obtain⟨y,f1,f2,_⟩:=hs j bl' hj
  grind [h.inj]
theorem Ex.subF (h:SubF L' L) (k:Ex P b c env n L' R):Ex P b c env n L R:=by
 intro φ a w h1 h2 h3 h4;refine wp_mono (k φ a w h1 (h2.subF h) h3 h4) ?_;rintro x a' w' ⟨φ',e,m,M,hR,k1,k2,k3,k4,k5,k6⟩;refine⟨φ',e,m,M,hR,k1,k2,k3,k4,⟨k5.os,k5.tape,k5.output,k5.size,λb hb hn=>k5.keep b hb λhw=>hn (hw.subF h),λj bl b hj hb hlt=>?_,k5.zle,λx l hx=>?_⟩,k6⟩
 ·obtain⟨k,bl',c,hk,q1,q2,q3,q4⟩:=k5.fresh j bl b hj hb hlt
  obtain⟨bl0,e1,e2,_⟩:=h k bl' hk
  grind
 ·rcases k5.zfr x l hx with q|q|q
  ·exact .inl q
  ·grind
  ·exact .inr (.inr (q.subF h))
theorem BlAt.flat {b:Nat×Nat} (hc:bl.cells.all bZ=true) (h:BlAt φ w b bl):BlAt φ w b {bl with flat:=true}:=by
 obtain⟨pre,xs,rest,fr,h1,h2,h3,h4,h5,h6⟩:=h;refine⟨pre,xs,rest,fr,h1,h2,?_,h4,h5,h6⟩
 grind [Bl.ph_z,il]
theorem Ex.flat (i:Nat) {c:Code} (hl:lk L i=some bl) (hf:bl.flat=false) (hc:bl.cells.all bZ=true) {L':Hp} (hL:aA L [(i,some {bl with flat:=true})]=L') (k:Ex P b c env n L' R):Ex P b c env n L R:=by
 refine Ex.subF (L':=L') (λj bl' hj=>?_) k;rw[<-hL] at hj;simp only[aA,aC] at hj;split at hj
 ·rename_i e;subst e;cases hj
  exact⟨bl,hl,rfl,λφ w b=>BlAt.flat hc⟩
 all_goals grind
def Unr (P:Program) (b:Nat) (c:Code) (R:Post):Nat->Post
 |0,.normal,_,_,_=>False
 |k+1,.normal,e,m,M=>Ex P b c e m M (Unr P b c R k)
 |_,x,e,m,M=>R x e m M
theorem Unr.exit {i:Nat} (h:R (.exit i) env n L):Unr P b c R k (.exit i) env n L:=by cases k<;>exact h
theorem Unr.ret (h:R .ret env n L):Unr P b c R k .ret env n L:=by cases k<;>exact h
theorem Ex.unroll (k:Nat) (h:Ex P b c env n L (Unr P b c R k)):Ex P b (.loop c) env n L R:=by
 intro φ a w h1 h2 h3 h4;refine wp_loop_rounds (k+1) ?_
 have key:∀ k env n L φ₁ a₁ w₁,Ex P b c env n L (Unr P b c R k)->EnvR φ₁ env a₁->Good φ₁ L w₁->(∀ i,n<=i->φ₁ i=none)->b<=n->∀ (φ₀:Ph) (L₀:Hp) (w₀:World),Stp φ₀ L₀ w₀ φ₁ L w₁->(∀ i,i<b->φ₁ i=φ₀ i)->
  Code.rounds P c (λx a' w'=>∃ φ' env' n' L',R x env' n' L'/\EnvR φ' env' a'/\Good φ' L' w'/\(∀ i,n'<=i->φ' i=none)/\b<=n'/\Stp φ₀ L₀ w₀ φ' L' w'/\(∀ i,i<b->φ' i=φ₀ i)) (k+1) a₁ w₁:=by
  intro k
  induction k with
  |zero=>
   intro env n L φ₁ a₁ w₁ hE h1 h2 h3 h4 φ₀ L₀ w₀ h5 h6;rw[rounds_succ];refine wp_mono (hE φ₁ a₁ w₁ h1 h2 h3 h4) ?_;rintro x a' w' ⟨φ',e,m,M,hR,k1,k2,k3,k4,k5,k6⟩
   cases x with
   |normal=>exact hR.elim
   |_=>exact⟨φ',e,m,M,hR,k1,k2,k3,k4,h5.trans k5,λi hi=>(k6 i hi).trans (h6 i hi)⟩
  |succ k ih=>
   intro env n L φ₁ a₁ w₁ hE h1 h2 h3 h4 φ₀ L₀ w₀ h5 h6;rw[rounds_succ];refine wp_mono (hE φ₁ a₁ w₁ h1 h2 h3 h4) ?_;rintro x a' w' ⟨φ',e,m,M,hR,k1,k2,k3,k4,k5,k6⟩
   cases x with
   |normal=>
    simp only[Exit.then];exact ih e m M φ' a' w' hR k1 k2 k3 k4 φ₀ L₀ w₀ (h5.trans k5) (λi hi=>(k6 i hi).trans (h6 i hi))
   |_=>exact⟨φ',e,m,M,hR,k1,k2,k3,k4,h5.trans k5,λi hi=>(k6 i hi).trans (h6 i hi)⟩
 exact key k env n L φ a w h h1 h2 h3 h4 φ L w (Stp.refl _ _ _) (λ_ _=>rfl)
theorem CL (keep:List Nat):∀ (i:Nat) (env:List V),(∀ j,i<=j->j<i+env.length->keep.elem j=true)->GE keep i env=env
 |_,[],_=>rfl
 |i,v::t,h=>by
  simp only[GE];rw[h i (Z02 _) aq,CL keep (i+1) t (λj h1 h2=>h j aa ae)]
theorem To.move {e e':List V} {M':Hp} (tbl:List Nat) (h1:All2 VLe e (e'.map (cb (rn tbl 0)))) (hl:MemP (rn tbl 0) M M') (ok:ou b tbl e' M'=true):To b tbl.length e M e' M':=by
 intro φ₀ φ L₀ w₀ w a k1 k2 k3
 refine To.by (List.range (e'.map (cb (rn tbl 0))).length) tbl rfl (CL _ 0 _ λj _ hj=>?_) hl ok φ₀ φ L₀ w₀ w a ⟨k1.1,VLe.all h1 k1.2⟩ k2 k3
 grind
theorem fX {σ:Type} {A:List Nat} {X:σ->List (Nat×V)} {H:σ->Hp} {I:σ->Prop} {mu:σ->Nat} {s:σ} {e:List V} {m':Nat} (s':σ) (hI:I s') (hmu:mu s'<mu s) (tbl:List Nat) (hm':tbl.length=m)
 (h1:All2 VLe e ((sM A (X s') 0 env).map (cb (rn tbl 0)))) (hl:MemP (rn tbl 0) M (H s')) (ok:ou b tbl (sM A (X s') 0 env) (H s')=true):
 xz b m A X env H I mu s R .normal e m' M:=
 ⟨s',hI,hmu,by subst hm';exact To.move tbl h1 hl ok⟩
end
instance {P:Program} {b k i:Nat} {c:Code} {R:Post} {e:List V} {n:Nat} {L:Hp}:SgL (Unr P b c R k (.exit i) e n L) (R (.exit i) e n L):=⟨Unr.exit⟩
instance {P:Program} {b k:Nat} {c:Code} {R:Post} {e:List V} {n:Nat} {L:Hp}:SgL (Unr P b c R k .ret e n L) (R .ret e n L):=⟨Unr.ret⟩
end
end Ab
namespace Ab
open Go Go.RowKit
section
variable {bl bl1:Bl}
theorem FC.below {P:Program} {f:FuncId} {args:List V} {v:V} (hok:oz P f=true)
 (h:∀ (φ:Ph) (xs:List Value) (w:World),All2 (Vr φ) args xs->Good φ [] w->Calls P f xs.toArray w λe w'=>∃ x,e=.returned x/\(∀ ψ:Ph,ψ.z=φ.z->Vr ψ v x)/\Below w.heap.size w w'):FC P f args 0 [] v 0 []:=by
 refine⟨hok,λφ xs w hx hg hf=>?_⟩;refine (h φ xs w hx hg).mono ?_;rintro e w' ⟨x,rfl,hv,hb⟩;refine⟨φ,x,rfl,hv φ rfl,⟨λi bl hi=>(by cases hi),λi j bl bl' b b' hi=>(by cases hi),λb l hz=>?_,hg.gz⟩,hf,⟨hb.os,hb.tape,hb.output,hb.size,λb hlt _=>hb.block b hlt,λj bl b hj=>(by cases hj),λ_ _ q=>q,λ_ _ q=> .inl q⟩,Z02 _,λ_ _=>rfl⟩
 grind [hb.block,hg.fz]
theorem OpL.view {P:Program} {o:Oper} {env:List V} {n:Nat} {M M1 M1' M':Hp} {v:V} {n':Nat} (i:Nat) (hl:lk M i=some bl) (hro:bl1.ro=true) (hv:∀ φ w b,BlAt φ w b bl->BlAt φ w b bl1) (hin:i<n)
 (h1:∀ j,lk M1 j=if i=j then some bl1 else lk M j) (h:OpL P o env n M1 v n' M1') (h2:∀ j bl,lk M' j=some bl->if i=j then some bl=lk M i else lk M1' j=some bl) (hk:lk M1' i=some bl1):OpL P o env n M v n' M':=by
 intro φ a w Q hx hg hf
 have wr1:∀ b,Wr φ M1 b->Wr φ M b/\∀ c,φ i=some c->c.1=b->bl.ro=true:=by
  rintro b ⟨k,blk,c,hk1,hpk,hc,hr⟩;rw[h1] at hk1;split at hk1
  ·grind
  ·rename_i hne
   refine⟨⟨k,blk,c,hk1,hpk,hc,hr⟩,λc' hc' e=>?_⟩
   rcases hg.inj i k bl blk c' c hl hk1 hc' hpk (e.trans hc.symm) with q|q
   all_goals grind
 have hg1:Good φ M1 w:=by
  refine⟨λj bj hj=>?_,λj k bj bk b b' hj hk' hb hb' e=>?_,λb l hb=>⟨(hg.fz b l hb).1,λhw=>(hg.fz b l hb).2 (wr1 b hw).1⟩,hg.gz⟩
  ·rw[h1] at hj
   split at hj
   ·rename_i e;subst e;cases hj
    obtain⟨b,hb,hat⟩:=hg.hr i bl hl;exact⟨b,hb,hv φ w b hat⟩
   ·exact hg.hr j bj hj
  ·rw[h1] at hj hk'
   split at hj<;>split at hk'
   ·rename_i e1 e2;exact .inl (e1.symm.trans e2)
   ·rename_i e1 e2;subst e1;cases hj
    rcases hg.inj i k bl bk b b' hl hk' hb hb' e with q|q
    ·exact .inl q
    ·exact .inr ⟨hro,q.2⟩
   ·rename_i e1 e2;subst e2;cases hk'
    rcases hg.inj j i bj bl b b' hj hl hb hb' e with q|q
    ·exact .inl q
    ·exact .inr ⟨q.1,hro⟩
   ·exact hg.inj j k bj bk b b' hj hk' hb hb' e
 refine Z4v (λa' w'=>?_) (h φ a w Q hx hg1 hf);rintro⟨φ',x,e1,e2,hg',st,hφ⟩;have hφi:φ' i=φ i:=hφ i (λq=>Z40 _ (Z3w hin q.1));have hle:φ.le φ':=jH hf hφ st.zle;obtain⟨bi,hbi,hat⟩:=hg.hr i bl hl
 have nwr:bl.ro=false-> ¬Wr φ M1 bi.1:=λhr hw=>by grind
 have kept:bl.ro=false->w'.heap[bi.1]? =w.heap[bi.1]? :=λhr=>st.keep bi.1 hat.lt (nwr hr)
 have keptA:w'.heap[bi.1]? =w.heap[bi.1]? :=by
  cases hr:bl.ro with
  |false=>grind
  |true=>
   refine st.keep bi.1 hat.lt λhw=>?_
   have hw':=hw;obtain⟨k,blk,c,hk1,hpk,hc,hr'⟩:=hw';have:=h1 k;rw[hk1] at this;split at this
   ·grind
   ·rename_i hne
    rcases hg.inj i k bl blk bi c hl this.symm hbi hpk hc.symm with q|q
    all_goals grind
 have wr':∀ b,Wr φ' M' b->Wr φ' M1' b\/(b=bi.1/\bl.ro=false):=by
  rintro b ⟨k,blk,c,hk1,hpk,hc,hr⟩;have:=h2 k blk hk1;split at this
  ·grind
  ·exact .inl ⟨k,blk,c,this,hpk,hc,hr⟩
 have same:∀ k blk c,i≠k->lk M1' k=some blk->φ' k=some c->c.1=bi.1->bl.ro=true/\blk.ro=true:=by
  intro k blk c hne hk1 hpk hc;obtain⟨k2,b2,c2,q1,q2,q3,q4,q5⟩:=st.fresh k blk c hk1 hpk (by rw[hc];exact hat.lt);have q1':=h1 k2;rw[q1] at q1';split at q1'
  ·grind
  ·rename_i hne2
   rcases hg.inj i k2 bl b2 bi c2 hl q1'.symm hbi q2 (hc.symm.trans q3.symm) with q|q
   all_goals grind
 refine⟨φ',x,e1,e2,⟨λj bj hj=>?_,λj k bj bk b b' hj hk' hb hb' e=>?_,λb l hb=>⟨(hg'.fz b l hb).1,λhw=>?_⟩,hg'.gz⟩,⟨st.os,st.tape,st.output,st.size,λb hb hn=>st.keep b hb λhw=>hn (wr1 b hw).1,λj bj b hj hb hlt=>?_,st.zle,λb l hb=>?_⟩,hφ⟩
 ·have:=h2 j bj hj
  split at this
  ·rename_i e;subst e;rw[hl] at this;cases this
   exact⟨bi,ae,hat.mono hle keptA⟩
  ·exact hg'.hr j bj this
 ·have a1:=h2 j bj hj
  have a2:=h2 k bk hk'
  split at a1<;>split at a2
  ·rename_i e1 e2;exact .inl (e1.symm.trans e2)
  ·rename_i e1 e2;subst e1;rw[hl] at a1;cases a1
   rw[hφi,hbi] at hb;cases hb;exact .inr (same k bk b' e2 a2 hb' e.symm)
  ·rename_i e1 e2;subst e2;rw[hl] at a2;cases a2
   rw[hφi,hbi] at hb';cases hb';exact .inr ((same j bj b e1 a1 hb e).symm)
  ·exact hg'.inj j k bj bk b b' a1 a2 hb hb' e
 ·rcases wr' b hw with q|⟨q,hr⟩
  ·exact (hg'.fz b l hb).2 q
  ·subst q
   rcases st.zfr _ _ hb with q|q|q
   ·exact (hg.fz _ _ q).2 ⟨i,bl,bi,hl,hbi,rfl,hr⟩
   ·exact absurd hat.lt (Nat.not_lt.2 q)
   ·exact nwr hr q
 ·have:=h2 j bj hj
  split at this
  ·rename_i e;subst e;rw[hl] at this;cases this
   rw[hφi,hbi] at hb;cases hb;exact⟨i,bl,bi,hl,hbi,rfl,id,.inl rfl⟩
  ·rename_i hne
   obtain⟨k2,b2,c2,q1,q2,q3,q4,q5⟩:=st.fresh j bj b this hb hlt;have q1':=h1 k2;rw[q1] at q1';split at q1'
   ·rename_i e;subst e;cases q1'
    rcases q5 with q5|q5
    ·exact absurd q5 hne
    ·rw[hro] at q5;cases q5
   ·exact⟨k2,b2,c2,q1'.symm,q2,q3,q4,q5⟩
 ·rcases st.zfr b l hb with q|q|q
  all_goals grind
def qq (i:Nat):Hp->Hp
 |[]=>[]
 |(k,b)::t=>match Nat.beq k i with|true=>qq i t|false=>(k,b)::qq i t
theorem pX (i:Nat):∀ (cw:Hp) (M M1:Hp),(∀ j,i≠j->lk M1 j=lk M j)->(lk (aA M (qq i cw)) i=lk M i)/\∀ j,i≠j->lk (aA M (qq i cw)) j=lk (aA M1 cw) j
 |[],M,M1,h=>⟨rfl,λj hj=>(h j hj).symm⟩
 |(k,b)::t,M,M1,h=>by
  simp only[qq];split
  ·rename_i e
   have e:=Z0q e;subst e;have:=pX k t M (put M1 k b) (λj hj=>by rw[aC,if_neg hj];exact h j hj);exact this
  ·rename_i e
   have hne: ¬k=i:=λq=>by subst q;simp at e
   have:=pX i t (put M k b) (put M1 k b) (λj hj=>by rw[aC,aC];split;·rfl
                                                    ·exact h j hj)
   refine⟨this.1.trans (by rw[aC,if_neg hne]),this.2⟩
section
variable {P:Program} {b:Nat} {ops:Array Oper} {d:Bool} {acc:List Row} {os:List Oper} {o:Oper} {env:List V} {n:Nat} {L:Hp} {R:Post} {f:FuncId} {xs:Array Operand}
theorem MJ (tbl:List Nat) (i:Nat) {args0:List V} {L0:Hp} {v0:V} {n0':Nat} {L0':Hp} (sc:FC P f args0 tbl.length L0 v0 n0' L0')
 (hchk:(args0.all (fI tbl.length)&&fg tbl.length L0&&ep L0 L0'&&co (bP L0')&&Nat.ble tbl.length n0'&&qW tbl n n0'&&ry tbl L0)=true) {args1:List V} (ha:xs.toList.map (ev env)=args1) (hle:All2 VLe args1 (args0.map (cb (rn tbl n))))
 (hl:lk (res tbl L) i=some bl) (hro:bl1.ro=true) (hvw:∀ φ w b,BlAt φ w b bl->BlAt φ w b bl1) (hin:Nat.blt i n=true) (ft:FitP tbl n (put (res tbl L) i (some bl1)) L0) (hk:lk (aA (put (res tbl L) i (some bl1)) (cj tbl n L0 L0')) i=some bl1)
 (hw:bf ops env o=some true) {v:V} (hv:jg (cb (rn tbl n) v0) some=some v) {wr:Hp} (hwr:l6 (qq i (cj tbl n L0 L0')) [] some=some wr)
 (k:RegX P ops d (aE d o tbl wr acc) os (bg env o.dst v) (n+(n0'-tbl.length)) (aA L wr) R):CallG P ops d acc o f xs os env n L R:=by
 refine⟨λ⟨ts,ho⟩=>?_⟩;obtain⟨hf,sc⟩:=sc;rw[fh] at hv;cases hv;rw[cO] at hwr;cases hwr;simp only[Z07] at hchk;obtain⟨⟨⟨⟨⟨⟨k1,k2⟩,k3⟩,k4⟩,k5⟩,k6⟩,k7⟩:=hchk;unfold oz at hf;split at hf
 ·rename_i fn hfn
  simp only[Z07,Z0v] at hf;have h:=SC.opW (n:=n) (env:=env) (M:=put (res tbl L) i (some bl1)) sc k1 k2 ho rfl hfn hf.1 hf.2 (ha▸hle) (Fits.of k6 k7 ft) (fS k3 k4);have hd:=pX i (cj tbl n L0 L0') (res tbl L) (put (res tbl L) i (some bl1)) (λj hj=>by rw[aC,if_neg hj]);refine RegX.op hw (OpL.view i hl hro hvw (bd.1 hin) (λj=>by rw[aC]) h (λj bj hj=>?_) hk) (Z1o _ _) k
  grind
 ·cases hf
theorem ji (tbl:List Nat) (i:Nat) {bl bl1:Bl} {args0:List V} {L0:Hp} {v0:V} {n0':Nat} {L0':Hp} (sc:FC P f args0 tbl.length L0 v0 n0' L0') {args1:List V} {v:V} {wr:Hp} (k:RegX P ops d (aE d o tbl wr acc) os (bg env o.dst v) (n+(n0'-tbl.length)) (aA L wr) R)
 (hchk:(args0.all (fI tbl.length)&&fg tbl.length L0&&ep L0 L0'&&co (bP L0')&&Nat.ble tbl.length n0'&&qW tbl n n0'&&ry tbl L0)=true:=by exact rfl) (ha:xs.toList.map (ev env)=args1:=by exact rfl) (hle:All2 VLe args1 (args0.map (cb (rn tbl n))):=by (repeat first|exact trivial|refine⟨ah _,?_⟩);first|done|fail)
 (hl:lk (res tbl L) i=some bl:=by exact rfl) (hvw:∀ φ w b,BlAt φ w b bl->BlAt φ w b bl1:=by exact λφ w b=>Zbv 1 rfl) (hro:bl1.ro=true:=by exact rfl) (hin:Nat.blt i n=true:=by exact rfl) (ft:FitP tbl n (put (res tbl L) i (some bl1)) L0:=by (repeat first|exact trivial|refine⟨⟨rfl,_,rfl,rfl,λh=>h⟩,?_⟩|refine⟨⟨rfl,_,rfl,rfl,λ_=>rfl⟩,?_⟩|refine mp rfl rfl ?_);first|done|fail) (hk:lk (aA (put (res tbl L) i (some bl1)) (cj tbl n L0 L0')) i=some bl1:=by exact rfl)
 (hw:bf ops env o=some true:=by exact rfl) (hv:jg (cb (rn tbl n) v0) some=some v:=by exact rfl) (hwr:l6 (qq i (cj tbl n L0 L0')) [] some=some wr:=by exact rfl):CallG P ops d acc o f xs os env n L R:=MJ tbl i sc hchk ha hle hl hro hvw hin ft hk hw hv hwr k
end
def ID (k:Nat) (bl:Bl):Bl:={cells:=bl.cells.take k,ty:=bl.ty,more:=true,ro:=true}
theorem Zbv {φ:Ph} {w:World} {b:Nat×Nat} (k:Nat) (hk:bl.kind=none) (h:BlAt φ w b bl):BlAt φ w b (ID k bl):=by
 obtain⟨pre,xs,rest,fr,h1,h2,h3,h4,h5,h6⟩:=h;refine⟨pre,xs.take k,xs.drop k++rest,fr,?_,h2,?_,(λe=>by cases e),(λe=>by cases e),⟨λg z e=>(by cases e),λg e=>(by cases e)⟩⟩
 ·rw[h1,hk];show _=some (di none _ bl.ty fr)
  rw[<-Z14 (xs.take k),Z2m]
 ·exact (h3.mono λ_ _=>Sr.mono (bl.ph_le_self φ)).take k
theorem SLe.slcfrz {i o:Nat} {c:Option Nat} {get:Nat->List S} {sz:Nat}:SLe (.slc (some (i,o)) 0 c) (.frz get sz 0):=λφ x h=>by
 obtain⟨b,k,_,e,_⟩:=h;subst e;exact Pr.nil _ _ (some _) k (λh=>nomatch h)
end
end Ab
section
open Go.Shelf Go.RowKit
def Tryz.lays156_ren:Go.Shelf.Ren:=⟨fun|156=>98|165=>161|166=>162|169=>164|240=>216|241=>217|276=>249|277=>250|n=>n,fun|31=>23|9=>9|3=>3|4=>4|0=>0|20=>20|72=>222|76=>225|70=>219|37=>220|75=>224|127=>273|164=>289|5=>5|80=>42|n=>n,fun|n=>n⟩
theorem Tryz.lays156:Go.Proofs.Lays.n156 Tryz.prog Tryz.lays156_ren:={
 mixed:=by kernel_rfl
 f156:=Tryz.func98.trans (congrArg some (by kernel_rfl))
 f165:=Tryz.func161.trans (congrArg some (by kernel_rfl))
 f166:=Tryz.func162.trans (congrArg some (by kernel_rfl))
 f169:=Tryz.func164.trans (congrArg some (by kernel_rfl))
 f240:=Tryz.func216.trans (congrArg some (by kernel_rfl))
 f241:=Tryz.func217.trans (congrArg some (by kernel_rfl))
 f276:=Tryz.func249.trans (congrArg some (by kernel_rfl))
 f277:=Tryz.func250.trans (congrArg some (by kernel_rfl))
 t0:=Tryz.underlying0
 a0:=Tryz.isAgg0
 z0:=Tryz.sizeOf0
 v0:=Tryz.zeroValue0
 t3:=Tryz.underlying3
 a3:=Tryz.isAgg3
 z3:=Tryz.sizeOf3
 v3:=Tryz.zeroValue3
 t4:=Tryz.underlying4
 a4:=Tryz.isAgg4
 z4:=Tryz.sizeOf4
 v4:=Tryz.zeroValue4
 t9:=Tryz.underlying9
 a9:=Tryz.isAgg9
 z9:=Tryz.sizeOf9
 v9:=Tryz.zeroValue9
 t20:=Tryz.underlying20
 a20:=Tryz.isAgg20
 z20:=Tryz.sizeOf20
 v20:=Tryz.zeroValue20
 t31:=Tryz.underlying23
 a31:=Tryz.isAgg23
 z31:=Tryz.sizeOf23
 v31:=Tryz.zeroValue23
 t37:=Tryz.underlying220
 a37:=Tryz.isAgg220
 z37:=Tryz.sizeOf220
 v37:=Tryz.zeroValue220
 t70:=Tryz.underlying219
 a70:=Tryz.isAgg219
 z70:=Tryz.sizeOf219
 v70:=Tryz.zeroValue219
 t72:=Tryz.underlying222
 a72:=Tryz.isAgg222
 z72:=Tryz.sizeOf222
 v72:=Tryz.zeroValue222
 t75:=Tryz.underlying224
 a75:=Tryz.isAgg224
 z75:=Tryz.sizeOf224
 v75:=Tryz.zeroValue224
 t76:=Tryz.underlying225
 a76:=Tryz.isAgg225
 z76:=Tryz.sizeOf225
 v76:=Tryz.zeroValue225
 t127:=Tryz.underlying273
 a127:=Tryz.isAgg273
 z127:=Tryz.sizeOf273
 v127:=Tryz.zeroValue273
 t164:=Tryz.underlying289
 a164:=Tryz.isAgg289
 z164:=Tryz.sizeOf289
 v164:=Tryz.zeroValue289}
theorem Tryz.Builder_Extra_156:Builder.Extra Tryz.prog Tryz.lays156_ren:={
 sizeBuilder:=by kernel_rfl
 liesBuilder:=by kernel_rfl
 t5:=Tryz.underlying5
 a5:=Tryz.isAgg5
 z5:=Tryz.sizeOf5
 v5:=Tryz.zeroValue5
 infoByte:=by kernel_rfl
 cellsByte:=by kernel_rfl
 sizeByte:=by kernel_rfl
 neB5:=by decide}
open Go.RowKit in
theorem Tryz.strings_Join_none (a:Option Addr) (c:Nat) (sep:ByteArray) (w:World):
 Calls Tryz.prog 98 #[.slice a 0 c,.string sep] w λe w'=>e=.returned (.string ⟨#[]⟩)/\w'=w:=Any.strings_Join_none Tryz.lays156 Tryz.Builder_Extra_156 a c sep w
open Go.RowKit in
theorem Tryz.strings_Join (bk o c:Nat) (xs:List ByteArray) (sep:ByteArray) (w:World) (hcells:∀ (j:Nat) x,xs[j]? =some x->w.cell? ⟨bk,o+j,none⟩=some (.string x)) (hbk:bk<w.heap.size) (hN:xs.length<=140737488355328) (hcap:xs.length<=c) (hlen:(Lib.join (xs.map (·.data.toList)) sep.data.toList).length<=140737488355328):
 Calls Tryz.prog 98 #[.slice (some ⟨bk,o,none⟩) xs.length c,.string sep] w λe w'=>e=.returned (.string ⟨(Lib.join (xs.map (·.data.toList)) sep.data.toList).toArray⟩)/\Below w.heap.size w w':=Any.strings_Join Tryz.lays156 Tryz.Builder_Extra_156 bk o c xs sep w hcells hbk hN hcap hlen
