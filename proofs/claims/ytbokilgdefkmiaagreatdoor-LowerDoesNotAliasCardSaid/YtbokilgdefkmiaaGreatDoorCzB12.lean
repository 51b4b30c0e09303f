import Derived.Test.YtbokilgdefkmiaaGreatDoorCzB10
import Derived.Test.YtbokilgdefkmiaaGreatDoorCzB11
set_option linter.unusedSimpArgs false
set_option linter.unusedVariables false
namespace Go.Proofs.YtbokilgdefkmiaaGreatDoor
namespace Ab
open Go
section
variable {P:Program} {b:Nat} {ops:Array Oper} {d:Bool} {acc:List Row} {os:List Oper} {o:Oper} {env:List V} {n:Nat} {L:Hp} {R:Post}
theorem slice_nil_eq {φ:Ph} {t:TypeId} (hty:isSliceTy P t=true) {a:Addr} {m k:Nat} {ox oy:Operand} {op:BinOp} {r:Bool} (hop:(op=.eql∧r=false)∨(op=.neq∧r=true)) (w:World):
 (do eqGuard op t ox oy (.slice (some a) m k) (.slice none 0 0);binOp op t (.slice (some a) m k) (.slice none 0 0)).run P w=.ok (.bool r) w:=by
 unfold isSliceTy at hty;split at hty
 ·rename_i e hu
  have hg:(eqGuard op t ox oy (.slice (some a) m k) (.slice none 0 0)).run P w=.ok () w:=by unfold eqGuard;split<;>simp
  have he:(Op.equal t (.slice (some a) m k) (.slice none 0 0)).run P w=.ok false w:=equal_of fun d=>eqIn_sliceNil d hu _ _ _ _ _
  rcases hop with ⟨rfl,rfl⟩|⟨rfl,rfl⟩
  ·simp only[Sem.run_bind,hg,Result.andThen_ok,binOp,he,Sem.run_pure]
  ·simp only[Sem.run_bind,hg,Result.andThen_ok,binOp,he,Sem.run_pure,Bool.not_false]
 ·cases hty
def notNil:V→Prop
 | .s (.frz _ _ n)=>0<n
 | .s .emq=>True
 |_=>False
theorem notNil_r {φ:Ph} {x:V} (h:notNil x) {v:Value} (hv:Vr φ x v):∃ a m k,v=.slice (some a) m k:=by
 unfold notNil at h;split at h
 ·cases hv with
  |nil get sz a k hk=>omega
  |frz get sz n b o k vs h1 hn val hl hv hx=>exact⟨_,_,_,rfl⟩
 ·obtain⟨a,k,rfl⟩:=hv;exact⟨_,_,_,rfl⟩
 ·exact h.elim
theorem CmpG.nn {dst:Option Tmp} {op:BinOp} {ty ty':TypeId} {x y:Operand} {t:TypeId} {pos:String} {af:Array Edge} {gd:Option (Nat×Bool)} {m:Nat} {c:Option Nat} (r:Bool) (hx:notNil (ev env x)) (hy:ev env y=.s (.slc none m c)) (hop:(op=.eql∧r=false)∨(op=.neq∧r=true)) (hty:isSliceTy P ty=true)
 (hw:want ops env ⟨dst,.binOp op ty x y ty',t,pos,af,gd⟩=some true) (k:RegX P ops d (pushR d ⟨dst,.binOp op ty x y ty',t,pos,af,gd⟩ [] [] acc) os (setD env dst (.s (.bool r))) n L R):
 CmpG P ops d acc ⟨dst,.binOp op ty x y ty',t,pos,af,gd⟩ os env n L R:=by
 refine⟨RegX.op (foot:=[]) (wr:=[]) hw (OpL.light fun φ a w hop' _=>?_) (Nat.le_refl _) k⟩;have g1:=hop' x (by simp[Op.operands]);have g2:=hop' y (by simp[Op.operands]);rw[hy] at g2;obtain⟨_,_,e2⟩:=g2;obtain⟨ad,m',k',e1⟩:=notNil_r hx g1;refine⟨.bool r,?_,rfl⟩;have:=slice_nil_eq (P:=P) (φ:=φ) hty (a:=ad) (m:=m') (k:=k') (ox:=x) (oy:=y) hop w;rw[←e1,←e2] at this;simp only[execOp];rw[Sem.run_bind,this];rfl
theorem RegX.cap0 {dst:Option Tmp} {x:Operand} {tx:TypeId} {t:TypeId} {pos:String} {af:Array Edge} {gd:Option (Nat×Bool)} {m:Nat} {c:Option Nat} (hx:ev env x=.s (.slc none m c)) (hty:isSliceTy P tx=true)
 (hw:want ops env ⟨dst,.call ⟨.builtin .cap,#[x],#[tx]⟩,t,pos,af,gd⟩=some true) (k:RegX P ops d (pushR d ⟨dst,.call ⟨.builtin .cap,#[x],#[tx]⟩,t,pos,af,gd⟩ [] [] acc) os (setD env dst (.s (.int .i64 0))) n L R):
 RegX P ops d acc (⟨dst,.call ⟨.builtin .cap,#[x],#[tx]⟩,t,pos,af,gd⟩::os) env n L R:=by
 refine RegX.op (foot:=[]) (wr:=[]) hw (OpL.light fun φ a w hop' _=>?_) (Nat.le_refl _) k;have g1:=hop' x (by simp[Op.operands,Call.operands]);rw[hx] at g1;obtain⟨_,_,e1⟩:=g1;refine⟨.int .i64 0,?_,rfl⟩;unfold isSliceTy at hty;split at hty
 ·rename_i e hu
  simp only[execOp,resolve,Sem.run_bind,Sem.run_pure,Result.andThen_ok,invoke,builtin,List.map_toArray,List.map_cons,List.map_nil,e1];simp[Builtin.cap_,run_underlying hu,goInt]
 ·cases hty
theorem append_ofMake {ts:Array TypeId} {ty t tx e:TypeId} {inf:TypeInfo} {k k':IntKind} {w:World} (h0:ts[0]? =some t) (h1:ts[1]? =some tx) (ht:P.underlying t=some (.slice e)) (hx:P.underlying tx=some (.int k)) (hi:P.info? e=some inf) {zv:Value} (hz:inf.zero=some zv) (hs:0<inf.size) {m:Nat}
 (hm:1≤m) (hbig:m*inf.bytes≤140737488355328) (hmax:m≤140737488355328):
 ∃ c,m≤c∧∃ rest:Array Value,rest.size=(c-m)*zv.cells.size∧(Builtin.append_ ts ty #[.slice none 0 0,.int k' (m:Int)]).run P w=.ok (.slice (some ⟨w.heap.size,0,none⟩) m c) {w with drawn:=w.drawn+1,heap:=w.heap.push (.cells (Builtin.zeroCells zv.cells m++rest) e)}:=by
 have hsz:(sizeOf e).run P w=.ok inf.size w:=by simp[sizeOf,typeInfo,hi]
 have hti:∀ w,(typeInfo e).run P w=.ok inf w:=fun w=>by simp[typeInfo,hi]
 have hzv:∀ w,(zeroValue e).run P w=.ok zv w:=fun w=>by simp[zeroValue,typeInfo,hi,hz]
 have c1: ¬(0+m≤0):=by omega
 have c2: ¬(((0+m:Nat):Int)>IntKind.i64.max∧(True∨inf.bytes=0)):=by
  have:IntKind.i64.max=9223372036854775807:=by decide
  rw[this];omega
 have c3: ¬(Builtin.nextslicecap (0+m) 0*inf.bytes>2^48):=by
  have:=growslice_fits (bytes:=inf.bytes) (old:=0) (need:=0+m) (by omega) (by rw[Nat.zero_add];exact hbig)
  have e48:(2:Nat)^48=281474976710656:=by decide
  omega
 have w1:IntKind.i64.wrap (m:Int)=m:=i64_in (by omega) (by omega)
 have c4: ¬((m:Int)<0):=by omega
 have c5: ¬((m:Int)*(inf.bytes:Int)>2^48):=by
  have e48:(2:Int)^48=281474976710656:=by decide
  rw[e48,←Int.natCast_mul];omega
 have c6: ¬(m*inf.size=0):=by
  intro h
  rcases Nat.mul_eq_zero.1 h with h|h<;>omega
 refine⟨(Question.appendCap (0+m) 0 e).cut (w.tape w.drawn (.appendCap (0+m) 0 e)),by simp only[Question.cut];omega,Builtin.zeroCells zv.cells ((Question.appendCap (0+m) 0 e).cut (w.tape w.drawn (.appendCap (0+m) 0 e))-(0+m)),by rw[zeroCells_size,Nat.zero_add],?_⟩;unfold Builtin.append_;simp only[h0,h1,List.getElem?_toArray,List.getElem?_cons_zero,List.getElem?_cons_succ,Sem.run_bind,Ab.run_underlying ht,Ab.run_underlying hx,Result.andThen_ok,hsz,Sem.run_pure,asInt,asIntOf,w1,if_neg c4,hti,if_neg c5,if_true,Int.toNat_natCast];simp only[Bool.not_true,Bool.false_eq_true,if_false,if_neg c1,if_neg c2,if_neg c3,if_neg c6,Sem.run_bind,Result.andThen_ok,Sem.run_pure,hti,run_choose,Question.forced,run_askRoom,hzv,newRow,run_newObj];simp[Builtin.firstCells,newRow];rfl
theorem RegX.mkz {dst:Option Tmp} {x y:Operand} {t tx e:TypeId} {t':TypeId} {pos:String} {af:Array Edge} {gd:Option (Nat×Bool)} {inf:TypeInfo} {zs:List S} {ki k':IntKind} {z:Int} {c:Option Nat} {mm:Nat} {op':Op} (m:Nat)
 (hop:op'=.call ⟨.builtin .append,#[x,y],#[t,tx]⟩)
 (hx:ev env x=.s (.slc none mm c)) (hy:ev env y=.s (.int k' z)) (ht:P.underlying t=some (.slice e)) (htx:P.underlying tx=some (.int ki)) (hi:P.info? e=some inf) (hz:zeroOf P e=some zs) (hsz:inf.size=zs.length) (hs0:Nat.blt 0 inf.size=true)
 (hm:z=(m:Int)) (h1:1≤m) (hbig:m*inf.bytes≤140737488355328) (hmax:m≤140737488355328)
 (hw:want ops env ⟨dst,op',t',pos,af,gd⟩=some true)
 (k:RegX P ops d (pushR d ⟨dst,op',t',pos,af,gd⟩ [] [(n,some {cells:=rep m zs,ty:=e,more:=true,sym:=true,flat:=zs.all noPtr,gh:=some (n+1,inf.size)})] acc) os (setD env dst (.s (.sla n (n+1) m))) (n+2) (puts L [(n,some {cells:=rep m zs,ty:=e,more:=true,sym:=true,flat:=zs.all noPtr,gh:=some (n+1,inf.size)})]) R):
 RegX P ops d acc (⟨dst,op',t',pos,af,gd⟩::os) env n L R:=by
 subst hm hop;refine RegX.op (foot:=[]) (wr:=[(n,some {cells:=rep m zs,ty:=e,more:=true,sym:=true,flat:=zs.all noPtr,gh:=some (n+1,inf.size)})]) hw ?_ (by omega) k;refine OpL.moved (bi:=none) (fun φ a w hop _=>?_) rfl;have g1:=hop x (by simp[Op.operands,Call.operands]);have g2:=hop y (by simp[Op.operands,Call.operands]);rw[hx] at g1;rw[hy] at g2;obtain⟨_,_,e1⟩:=g1;have e2:a.eval y=.int k' (m:Int):=g2;obtain⟨zv,hzr,hall⟩:=zeroOf_r hz w
 have hzv:inf.zero=some zv:=by
  unfold zeroOf at hz;rw[hi] at hz
  cases hq:inf.zero with
  |none=>simp[hq] at hz
  |some zq=>
   have:zq=zv:=by simp[zeroValue,typeInfo,hi,hq] at hzr;exact hzr
   rw[this]
 have hzs:zv.cells.size=zs.length:=by rw[←Array.length_toList];exact (hall ⟨fun _=>none,fun _=>none⟩).len
 obtain⟨cp,hcp,rest,hrs,hrun⟩:=append_ofMake (ts:= #[t,tx]) (ty:=t') (k':=k') (w:=w) rfl rfl ht htx hi hzv (blt_iff.1 hs0) (m:=m) h1 hbig hmax;refine⟨(w.heap.size,0),cp,{w with drawn:=w.drawn+1,heap:=w.heap.push (.cells (Builtin.zeroCells zv.cells m++rest) e)},?_,rfl,rfl,rfl,hcp,by simp,fun c hc _=>?_,fun h=>absurd h (Nat.lt_irrefl _),fun φ' hle hk'=>?_⟩
 ·simp only[execOp,resolve,Sem.run_bind,Sem.run_pure,Result.andThen_ok,invoke,builtin,List.map_toArray,List.map_cons,List.map_nil,e1,e2,hrun]
 ·show (w.heap.push _)[c]? =_
  rw[Array.getElem?_push_lt hc];simp[hc]
 ·refine⟨[],(Builtin.zeroCells zv.cells m).toList,rest.toList,(0,0),?_,rfl,?_,(fun e=>by cases e),(fun _ o' ho'=>by simp),⟨fun g q e'=>?_,fun g e'=>(by cases e')⟩⟩
  ·show (w.heap.push _)[w.heap.size]? =_
   simp[objOf]
  ·have:=rep_r (φ:=(Bl.mk (rep m zs) e true false true (zs.all noPtr) (some (n+1,inf.size)) none none).ph φ') (hall _) m
   simpa [Builtin.zeroCells] using this
  ·simp only[Option.some.injEq,Prod.mk.injEq] at e'
   obtain⟨rfl,rfl⟩:=e';refine⟨cp,hk',?_⟩;simp only[List.length_append,Array.length_toList,hrs,zeroCells_size,hzs,hsz];rw[←Nat.add_mul];exact Nat.mul_le_mul_right _ (by omega)
theorem SC.split2 {f:FuncId} {pre post:List V} {a a1 a2:V} {v:V} {n':Nat} {L':Hp} (h:∀ φ x,Vr φ a x→Vr φ a1 x∨Vr φ a2 x)
 (h1:SC P f (pre++a1::post) n L v n' L') (h2:SC P f (pre++a2::post) n L v n' L'):SC P f (pre++a::post) n L v n' L':=by
 intro φ xs w hx hg hf
 have key:∀ (pre:List V) (xs:List Value),All2 (Vr φ) (pre++a::post) xs→All2 (Vr φ) (pre++a1::post) xs∨All2 (Vr φ) (pre++a2::post) xs:=by
  intro pre
  induction pre with
  |nil=>
   intro xs hx
   cases xs with
   |nil=>exact hx.elim
   |cons x xs=>rcases h φ x hx.1 with h'|h'
               ·exact .inl ⟨h',hx.2⟩
               ·exact .inr ⟨h',hx.2⟩
  |cons p pre ih=>
   intro xs hx
   cases xs with
   |nil=>exact hx.elim
   |cons x xs=>rcases ih xs hx.2 with h'|h'
               ·exact .inl ⟨hx.1,h'⟩
               ·exact .inr ⟨hx.1,h'⟩
 rcases key pre xs hx with h'|h'
 ·exact h1 φ xs w h' hg hf
 ·exact h2 φ xs w h' hg hf
theorem frz0_cases {get:Nat→List S} {sz:Nat} {φ:Ph} {x:Value} (h:Vr φ (.s (.frz get sz 0)) x):Vr φ (.s (.slc none 0 (some 0))) x∨Vr φ (.s .emq) x:=by
 have h:Pr φ.z (.frz get sz 0) x:=h
 cases h with
 |nil _ _ a k hk=>
  cases a with
  |none=>rw[hk rfl];exact .inl ⟨rfl,rfl,rfl⟩
  |some a=>exact .inr ⟨a,k,rfl⟩
 |frz _ _ _ b o k vs=>exact .inr ⟨_,_,rfl⟩
theorem SLe.slaemq {i g:Nat}:SLe (.sla i g 0) .emq:=fun φ x h=>by
 obtain⟨b,k,_,_,e,_⟩:=h;exact⟨_,_,e⟩
theorem SLe.emqfrz {get:Nat→List S} {sz:Nat}:SLe .emq (.frz get sz 0):=fun φ x h=>by
 obtain⟨a,k,e⟩:=h;subst e;exact Pr.nil _ _ (some a) k (fun h=>nomatch h)
theorem flatG_list {α:Type} (g:α→List S) (d:α) (l:List α):flatG (fun k=>g (l.getD k d)) l.length=l.flatMap g:=by
 have key:∀ k,k≤l.length→flatG (fun k=>g (l.getD k d)) k=(l.take k).flatMap g:=by
  intro k
  induction k with
  |zero=>intro _;rfl
  |succ k ih=>
   intro h;rw[flatG_succ,ih (by omega),List.take_add_one,List.flatMap_append];congr 1;rw[List.getElem?_eq_getElem (by omega),List.getD_eq_getElem?_getD,List.getElem?_eq_getElem (by omega)];simp
 rw[key _ (Nat.le_refl _),List.take_length]
theorem fitsIn_of {bl:Bl} {l:List S} (h1:∀ x∈l,noPtr x=true):fitsIn bl l=true:=by
 unfold fitsIn
 have nj:∀ x,noPtr x=true→nJ x=true:=fun x h=>by cases x<;>first|rfl|cases h
 split
 ·exact List.all_eq_true.2 h1
 ·exact List.all_eq_true.2 fun x hx=>nj x (h1 x hx)
theorem RegX.nilTo {dst:Option Tmp} {x y:Operand} {tx e:TypeId} {t:TypeId} {pos:String} {af:Array Edge} {gd:Option (Nat×Bool)} {m:Nat} {c:Option Nat} {k':IntKind} {z:Int} {sz:Nat} (hx:ev env x=.s (.slc none m c)) (hy:ev env y=.s (.int k' z)) (hz:z=0) (hty:P.underlying tx=some (.slice e)) (hsz:elemSz P e=some sz)
 (hw:want ops env ⟨dst,.slice tx x none (some y) none,t,pos,af,gd⟩=some true) (k:RegX P ops d (pushR d ⟨dst,.slice tx x none (some y) none,t,pos,af,gd⟩ [] [] acc) os (setD env dst (.s (.slc none 0 (some 0)))) n L R):
 RegX P ops d acc (⟨dst,.slice tx x none (some y) none,t,pos,af,gd⟩::os) env n L R:=by
 refine RegX.op (foot:=[]) (wr:=[]) hw (OpL.light fun φ a w hop' _=>?_) (Nat.le_refl _) k;have g1:=hop' x (by simp[Op.operands]);have g2:=hop' y (by simp[Op.operands]);rw[hx] at g1;rw[hy,hz] at g2;obtain⟨_,_,e1⟩:=g1;have e2:a.eval y=.int k' 0:=g2;refine⟨.slice none 0 0,?_,rfl,rfl,rfl⟩;have w0:IntKind.i64.wrap 0=0:=i64_in (by omega) (by omega)
 have hsb:(Instr.sliceBounds true 0 0 none (some (.int k' 0)) none).run P w=.ok (0,0,0) w:=by simp[Instr.sliceBounds,Instr.sliceBound,asIntOf,asInt,w0]
 simp only[execOp,e1,e2,Option.map_none,Option.map_some,Instr.sliceAt,Instr.slice,Sem.run_bind,run_underlying hty,Result.andThen_ok,hsb,elemSz_ok hsz,Sem.run_pure,if_true,Nat.sub_self]
def noElem:V→Prop
 | .s (.frz _ _ n)=>n=0
 | .s .emq=>True
 | .s (.slc none _ _)=>True
 |_=>False
theorem noElem_r {φ:Ph} {x:V} (h:noElem x) {v:Value} (hv:Vr φ x v):∃ a k,v=.slice a 0 k:=by
 unfold noElem at h;split at h
 ·subst h;exact frz_slice hv
 ·obtain⟨a,k,rfl⟩:=hv;exact⟨_,_,rfl⟩
 ·obtain⟨_,_,rfl⟩:=hv;exact⟨_,_,rfl⟩
 ·exact h.elim
theorem RegX.apNil {dst:Option Tmp} {x y:Operand} {t tx e:TypeId} {t':TypeId} {pos:String} {af:Array Edge} {gd:Option (Nat×Bool)} {inf:TypeInfo} {dx:TypeDesc} {c:Option Nat} {mm:Nat}
 (hx:ev env x=.s (.slc none mm c)) (hy:noElem (ev env y)) (ht:P.underlying t=some (.slice e)) (htx:P.underlying tx=some dx) (hdx:notInt dx=true) (hi:P.info? e=some inf)
 (hw:want ops env ⟨dst,.call ⟨.builtin .append,#[x,y],#[t,tx]⟩,t',pos,af,gd⟩=some true)
 (k:RegX P ops d (pushR d ⟨dst,.call ⟨.builtin .append,#[x,y],#[t,tx]⟩,t',pos,af,gd⟩ [] [] acc) os (setD env dst (.s (.slc none 0 (some 0)))) n L R):
 RegX P ops d acc (⟨dst,.call ⟨.builtin .append,#[x,y],#[t,tx]⟩,t',pos,af,gd⟩::os) env n L R:=by
 refine RegX.op (foot:=[]) (wr:=[]) hw (OpL.light fun φ a w hop' _=>?_) (Nat.le_refl _) k;have g1:=hop' x (by simp[Op.operands,Call.operands]);have g2:=hop' y (by simp[Op.operands,Call.operands]);rw[hx] at g1;obtain⟨_,_,e1⟩:=g1;obtain⟨ad,k',e2⟩:=noElem_r hy g2;refine⟨.slice none 0 0,?_,rfl,rfl,rfl⟩
 have hsz:(sizeOf e).run P w=.ok inf.size w:=by simp[sizeOf,typeInfo,hi]
 have hnew:(Builtin.firstCells inf.size 0 (.slice ad 0 k')).run P w=.ok #[] w:=by
  cases ad<;>simp[Builtin.firstCells,loadCells,loadCellsFrom]
 have hrun:(Builtin.append_ #[t,tx] t' #[.slice none 0 0,.slice ad 0 k']).run P w=.ok (.slice none 0 0) w:=by
  unfold Builtin.append_;simp only[List.getElem?_toArray,List.getElem?_cons_zero,List.getElem?_cons_succ,Sem.run_bind,Ab.run_underlying ht,Ab.run_underlying htx,Result.andThen_ok,hsz,Sem.run_pure];have hlen:(Builtin.lenOf (.slice ad 0 k')).run P w=.ok 0 w:=rfl
  cases dx<;>first|(cases hdx;done)|(simp only[Bool.false_eq_true,if_false,Bool.not_false,if_true,hlen,Sem.run_bind,Result.andThen_ok,Sem.run_pure,Nat.add_zero,Nat.le_refl,hnew])
 simp only[execOp,resolve,Sem.run_bind,Sem.run_pure,Result.andThen_ok,invoke,builtin,List.map_toArray,List.map_cons,List.map_nil,e1,e2,hrun]
def cutK:Nat→List Oper→List Oper→Option (List Oper×List Oper)
 |0,os,acc=>some (acc.reverse,os)
 |_+1,[],_=>none
 |k+1,o::os,acc=>cutK k os (o::acc)
theorem cutK_eq:∀ (k:Nat) (os acc a b:List Oper),cutK k os acc=some (a,b)→a++b=acc.reverse++os
 |0,os,acc,a,b,h=>by simp only[cutK,Option.some.injEq,Prod.mk.injEq] at h;obtain⟨rfl,rfl⟩:=h;rfl
 |k+1,[],acc,a,b,h=>by cases h
 |k+1,o::os,acc,a,b,h=>by
  simp only[cutK] at h;have:=cutK_eq k os (o::acc) a b h
  simpa using this
theorem runU_tl {base:List V} (tl:List Oper):∀ (os:List Oper) (s:Bool) (acc:List Row) (u:List (Nat×V)) (n:Nat) (L:Hp) (a:List Row) (os':List Oper) (e:List V) (m:Nat) (M:Hp) (C:Prop),Srt u→
 runU P ops d base s os acc u n L=some (a,os',e,m,M,C)→(∀ y∈u,y.1<base.length)∧(C→RegX P ops d a (os'++tl) e m M R→RegX P ops d acc (os++tl) (ap base u) n L R):=by
 intro os
 induction os with
 |nil=>
  intro s acc u n L a os' e m M C hs h;unfold runU at h;obtain⟨h1,rfl,rfl,rfl,rfl,rfl⟩:=stopAt_ok hs h;exact⟨h1,fun _ k=>k⟩
 |cons o os ih=>
  intro s acc u n L a os' e m M C hs h
  have stop:stopAt s acc (o::os) base u n L=some (a,os',e,m,M,C)→(∀ y∈u,y.1<base.length)∧(C→RegX P ops d a (os'++tl) e m M R→RegX P ops d acc (o::os++tl) (ap base u) n L R):=by
   intro h;obtain⟨h1,rfl,rfl,rfl,rfl,rfl⟩:=stopAt_ok hs h;exact⟨h1,fun _ k=>k⟩
  unfold runU at h;split at h
  ·rename_i hw
   split at h
   ·exact stop h
   ·split at h
    ·rename_i foot v wr n' as_ C1 ha
     rw[frc_eq,frc_eq] at h
     have go:∀ (acc':List Row),acc'=pushR d o foot wr acc→andO C1 (runU P ops d base true os acc' (insO o.dst v u) n' (puts L wr))=some (a,os',e,m,M,C)→(∀ y∈u,y.1<base.length)∧(C→RegX P ops d a (os'++tl) e m M R→RegX P ops d acc (o::os++tl) (ap base u) n L R):=by
      intro acc' hacc h;obtain⟨D,h1,h2⟩:=andO_some h;obtain⟨k1,k2⟩:=ih _ _ _ _ _ _ _ _ _ _ _ (insO_srt hs) h1;have ku:=insO_key k1;refine⟨ku,fun hC k=>?_⟩;obtain⟨hc1,hc2⟩:=h2 hC;rw[evO_eq hs ku] at ha hw;rw[wantE_eq] at hw;obtain⟨q1,q2⟩:=aopF_ok (show aopF P o (ap base u) n L=_ from ha) hc1;refine RegX.op hw q1 q2 ?_;have:=k2 hc2 k;rw[ap_insO hs,hacc] at this;exact this
     cases d with
     |true=>exact go _ rfl h
     |false=>exact go _ rfl h
    ·exact stop h
  ·rename_i hw
   rw[frc_eq] at h
   have go:∀ (acc':List Row),acc'=pushR d o [] [] acc→runU P ops d base true os acc' (insO o.dst .undef u) n L=some (a,os',e,m,M,C)→(∀ y∈u,y.1<base.length)∧(C→RegX P ops d a (os'++tl) e m M R→RegX P ops d acc (o::os++tl) (ap base u) n L R):=by
    intro acc' hacc h;obtain⟨k1,k2⟩:=ih _ _ _ _ _ _ _ _ _ _ _ (insO_srt hs) h;have ku:=insO_key k1;refine⟨ku,fun hC k=>?_⟩;rw[evO_eq hs ku,wantE_eq] at hw;refine RegX.skip hw ?_;have:=k2 hC k;rw[ap_insO hs,hacc] at this;exact this
   cases d with
   |true=>exact go _ rfl h
   |false=>exact go _ rfl h
  ·exact stop h
theorem RegX.chunkN (k:Nat) {os1 os2:List Oper} {a:List Row} {e:List V} {m:Nat} {M:Hp} {C:Prop} (hcut:cutK k os []=some (os1,os2)) (h:runU P ops d env false os1 acc [] n L=some (a,[],e,m,M,C)) (hC:C) (kk:RegX P ops d a os2 e m M R):RegX P ops d acc os env n L R:=by
 have e1:=cutK_eq k os [] os1 os2 hcut;have:=(runU_tl (R:=R) os2 os1 false acc [] n L a [] e m M C trivial h).2 hC kk;rw[e1] at this;exact this
theorem RegX.eqv (t:Nat) {v:V} {env':List V} (h:env.getD t .undef=v) (he:env.set t v=env') (k:RegX P ops d acc os env' n L R):RegX P ops d acc os env n L R:=by
 have:env'=env:=by
  subst h;rw[←he]
  rcases Nat.lt_or_ge t env.length with ht|ht
  ·rw[List.getD_eq_getElem?_getD,List.getElem?_eq_getElem ht];simp
  ·rw[List.set_eq_of_length_le ht]
 rw[←this];exact k
theorem RegX.app (ans:List Ans) {dst:Option Tmp} {xs:Array Operand} {ts:Array TypeId} {t:TypeId} {pos:String} {af:Array Edge} {gd:Option (Nat×Bool)} {foot:List Nat} {v:V} {wr:Hp} {n':Nat} {as_:List Ans} {C:Prop}
 (hw:want ops env ⟨dst,.call ⟨.builtin .append,xs,ts⟩,t,pos,af,gd⟩=some true) (h:aop P ⟨dst,.call ⟨.builtin .append,xs,ts⟩,t,pos,af,gd⟩ env n L ans=some ⟨⟨foot,v,wr,n'⟩,as_,C⟩) (hC:C)
 {wr':Hp} (hwr:frc wr [] some=some wr') {L':Hp} (hL:frc (puts L wr) [] some=some L') {env':List V} (he:frcE (setD env dst v) [] some=some env')
 (k:RegX P ops d (pushR d ⟨dst,.call ⟨.builtin .append,xs,ts⟩,t,pos,af,gd⟩ foot wr acc) os env' n' L' R):RegX P ops d acc (⟨dst,.call ⟨.builtin .append,xs,ts⟩,t,pos,af,gd⟩::os) env n L R:=by
 rw[frc_eq] at hL;rw[frcE_eq] at he;cases hL;cases he;exact RegX.opA ans hw h hC k
theorem Ex.upN {n':Nat} {c:Code} (hn:n≤n') (h:Ex P b c env n' L R):Ex P b c env n L R:=
 fun φ a w h1 h2 h3 h4=>h φ a w h1 h2 (fun i hi=>h3 i (Nat.le_trans hn hi)) (Nat.le_trans h4 hn)
def SubF (L' L:Hp):Prop:=∀ i bl',lk L' i=some bl'→∃ bl,lk L i=some bl∧bl'.ro=bl.ro∧∀ φ w b,BlAt φ w b bl→BlAt φ w b bl'
theorem Wr.subF {φ:Ph} {L' L:Hp} (hs:SubF L' L) {b:Nat} (h:Wr φ L' b):Wr φ L b:=by
 obtain⟨i,bl,c,hi,h1,h2,h3⟩:=h;obtain⟨bl0,e1,e2,_⟩:=hs i bl hi;exact⟨i,bl0,c,e1,h1,h2,e2▸h3⟩
theorem Good.subF {φ:Ph} {L' L:Hp} {w:World} (h:Good φ L w) (hs:SubF L' L):Good φ L' w:=by
 refine⟨fun i bl hi=>?_,fun i j bl bl' b b' hi hj hb hb' e=>?_,fun b l hb=>⟨(h.fz b l hb).1,fun hw=>(h.fz b l hb).2 (hw.subF hs)⟩,h.gz⟩
 ·obtain⟨bl0,e1,_,e3⟩:=hs i bl hi
  obtain⟨b,hb,hat⟩:=h.hr i bl0 e1;exact⟨b,hb,e3 φ w b hat⟩
 ·obtain⟨x,e1,e2,_⟩:=hs i bl hi
  obtain⟨y,f1,f2,_⟩:=hs j bl' hj;rw[e2,f2];exact h.inj i j x y b b' e1 f1 hb hb' e
theorem Ex.subF {L':Hp} {c:Code} (h:SubF L' L) (k:Ex P b c env n L' R):Ex P b c env n L R:=by
 intro φ a w h1 h2 h3 h4;refine wp_mono (k φ a w h1 (h2.subF h) h3 h4) ?_;rintro x a' w' ⟨φ',e,m,M,hR,k1,k2,k3,k4,k5,k6⟩;refine⟨φ',e,m,M,hR,k1,k2,k3,k4,⟨k5.os,k5.tape,k5.output,k5.size,fun b hb hn=>k5.keep b hb fun hw=>hn (hw.subF h),fun j bl b hj hb hlt=>?_,k5.zle,fun x l hx=>?_⟩,k6⟩
 ·obtain⟨k,bl',c,hk,q1,q2,q3,q4⟩:=k5.fresh j bl b hj hb hlt
  obtain⟨bl0,e1,e2,_⟩:=h k bl' hk;exact⟨k,bl0,c,e1,q1,q2,fun hr=>q3 (e2.trans hr),q4.imp id fun hr=>e2▸hr⟩
 ·rcases k5.zfr x l hx with q|q|q
  ·exact .inl q
  ·exact .inr (.inl q)
  ·exact .inr (.inr (q.subF h))
theorem BlAt.flat {φ:Ph} {w:World} {b:Nat×Nat} {bl:Bl} (hc:bl.cells.all noPtr=true) (h:BlAt φ w b bl):BlAt φ w b {bl with flat:=true}:=by
 obtain⟨pre,xs,rest,fr,h1,h2,h3,h4,h5,h6⟩:=h;refine⟨pre,xs,rest,fr,h1,h2,?_,h4,h5,h6⟩
 have hz:∀ x l,(bl.ph φ).z x=some l→(⟨fun _=>none,φ.z⟩:Ph).z x=some l:=fun x l e=>by rw[Bl.ph_z] at e;exact e
 exact noPtrs_r hz hc h3
theorem Ex.flat (i:Nat) {bl:Bl} {c:Code} (hl:lk L i=some bl) (hf:bl.flat=false) (hc:bl.cells.all noPtr=true) {L':Hp} (hL:puts L [(i,some {bl with flat:=true})]=L') (k:Ex P b c env n L' R):Ex P b c env n L R:=by
 refine Ex.subF (L':=L') (fun j bl' hj=>?_) k;rw[←hL] at hj;simp only[puts,lk_put] at hj;split at hj
 ·rename_i e;subst e;cases hj
  exact⟨bl,hl,rfl,fun φ w b=>BlAt.flat hc⟩
 ·exact⟨bl',hj,rfl,fun _ _ _ h=>h⟩
def Unr (P:Program) (b:Nat) (c:Code) (R:Post):Nat→Post
 |0,.normal,_,_,_=>False
 |k+1,.normal,e,m,M=>Ex P b c e m M (Unr P b c R k)
 |_,x,e,m,M=>R x e m M
theorem Unr.exit {c:Code} {k i:Nat} (h:R (.exit i) env n L):Unr P b c R k (.exit i) env n L:=by cases k<;>exact h
theorem Unr.ret {c:Code} {k:Nat} (h:R .ret env n L):Unr P b c R k .ret env n L:=by cases k<;>exact h
theorem Ex.unroll {c:Code} (k:Nat) (h:Ex P b c env n L (Unr P b c R k)):Ex P b (.loop c) env n L R:=by
 intro φ a w h1 h2 h3 h4;refine wp_loop_rounds (k+1) ?_
 have key:∀ k env n L φ₁ a₁ w₁,Ex P b c env n L (Unr P b c R k)→EnvR φ₁ env a₁→Good φ₁ L w₁→(∀ i,n≤i→φ₁ i=none)→b≤n→∀ (φ₀:Ph) (L₀:Hp) (w₀:World),Stp φ₀ L₀ w₀ φ₁ L w₁→(∀ i,i<b→φ₁ i=φ₀ i)→
  Code.rounds P c (fun x a' w'=>∃ φ' env' n' L',R x env' n' L'∧EnvR φ' env' a'∧Good φ' L' w'∧(∀ i,n'≤i→φ' i=none)∧b≤n'∧Stp φ₀ L₀ w₀ φ' L' w'∧(∀ i,i<b→φ' i=φ₀ i)) (k+1) a₁ w₁:=by
  intro k
  induction k with
  |zero=>
   intro env n L φ₁ a₁ w₁ hE h1 h2 h3 h4 φ₀ L₀ w₀ h5 h6;rw[rounds_succ];refine wp_mono (hE φ₁ a₁ w₁ h1 h2 h3 h4) ?_;rintro x a' w' ⟨φ',e,m,M,hR,k1,k2,k3,k4,k5,k6⟩
   cases x with
   |normal=>exact hR.elim
   |_=>exact⟨φ',e,m,M,hR,k1,k2,k3,k4,h5.trans k5,fun i hi=>(k6 i hi).trans (h6 i hi)⟩
  |succ k ih=>
   intro env n L φ₁ a₁ w₁ hE h1 h2 h3 h4 φ₀ L₀ w₀ h5 h6;rw[rounds_succ];refine wp_mono (hE φ₁ a₁ w₁ h1 h2 h3 h4) ?_;rintro x a' w' ⟨φ',e,m,M,hR,k1,k2,k3,k4,k5,k6⟩
   cases x with
   |normal=>
    simp only[Exit.then];exact ih e m M φ' a' w' hR k1 k2 k3 k4 φ₀ L₀ w₀ (h5.trans k5) (fun i hi=>(k6 i hi).trans (h6 i hi))
   |_=>exact⟨φ',e,m,M,hR,k1,k2,k3,k4,h5.trans k5,fun i hi=>(k6 i hi).trans (h6 i hi)⟩
 exact key k env n L φ a w h h1 h2 h3 h4 φ L w (Stp.refl _ _ _) (fun _ _=>rfl)
theorem wkE_id (keep:List Nat):∀ (i:Nat) (env:List V),(∀ j,i≤j→j<i+env.length→keep.elem j=true)→wkE keep i env=env
 |_,[],_=>rfl
 |i,v::t,h=>by
  simp only[wkE];rw[h i (Nat.le_refl _) (by simp),wkE_id keep (i+1) t (fun j h1 h2=>h j (by omega) (by simp only[List.length_cons];omega))]
theorem To.move {e e':List V} {M M':Hp} (tbl:List Nat) (h1:All2 VLe e (e'.map (renV (rn tbl 0)))) (hl:MemP (rn tbl 0) M M') (ok:okSt b tbl e' M'=true):To b tbl.length e M e' M':=by
 intro φ₀ φ L₀ w₀ w a k1 k2 k3
 refine To.by (List.range (e'.map (renV (rn tbl 0))).length) tbl rfl (wkE_id _ 0 _ fun j _ hj=>?_) hl ok φ₀ φ L₀ w₀ w a ⟨k1.1,VLe.all h1 k1.2⟩ k2 k3
 rw[List.elem_eq_mem];simpa using hj
theorem LoopR.move {σ:Type} {m:Nat} {A:List Nat} {X:σ→List (Nat×V)} {H:σ→Hp} {I:σ→Prop} {mu:σ→Nat} {s:σ} {e:List V} {m':Nat} {M:Hp} (s':σ) (hI:I s') (hmu:mu s'<mu s) (tbl:List Nat) (hm':tbl.length=m)
 (h1:All2 VLe e ((updE A (X s') 0 env).map (renV (rn tbl 0)))) (hl:MemP (rn tbl 0) M (H s')) (ok:okSt b tbl (updE A (X s') 0 env) (H s')=true):
 LoopR b m A X env H I mu s R .normal e m' M:=
 ⟨s',hI,hmu,by subst hm';exact To.move tbl h1 hl ok⟩
end
instance {P:Program} {b k i:Nat} {c:Code} {R:Post} {e:List V} {n:Nat} {L:Hp}:SgL (Unr P b c R k (.exit i) e n L) (R (.exit i) e n L):=⟨Unr.exit⟩
instance {P:Program} {b k:Nat} {c:Code} {R:Post} {e:List V} {n:Nat} {L:Hp}:SgL (Unr P b c R k .ret e n L) (R .ret e n L):=⟨Unr.ret⟩
end Ab
end Go.Proofs.YtbokilgdefkmiaaGreatDoor
namespace Go.Proofs.YtbokilgdefkmiaaGreatDoor
open Go Ab
set_option maxRecDepth 100000
set_option maxHeartbeats 4000000
theorem cloneNil_c:SC Tryz.prog 179 [.s (.slc none 0 (some 0))] 0 [] (.s (strsF [])) 0 []:=by
 refine (FC.walk (v:=.s (strsF [])) (by kernel_rfl) Tryz.func179 rfl rfl ?_).2
 repeat'(first|exact y0|refine y1 ?_|refine y2 ?_ ?_|(refine y8 ?_ ?_<;>intro h<;>try exact y6)|refine Unr.next' rfl ?_|refine BrG.tt ?_|refine Fin.le (.inl rfl) rfl ?_ rfl|refine y3 ?_|refine y7 ?_ ?_|refine y4 ?_|(refine y9 ?_ ?_<;>intro h)|exact y5|fail)
 exact VLe.s SLe.nil
theorem cloneEmq_c:SC Tryz.prog 179 [.s .emq] 0 [] (.s (strsF [])) 0 []:=by
 refine (FC.walk (v:=.s (strsF [])) (by kernel_rfl) Tryz.func179 rfl rfl ?_).2
 repeat'(first|exact y0|refine y1 ?_|refine y2 ?_ ?_|(refine y8 ?_ ?_<;>intro h<;>try exact y6)|refine Unr.next' rfl ?_|refine RegX.atCmp (CmpG.nn false trivial rfl (.inl ⟨rfl,rfl⟩) rfl rfl ?_)|refine y3 ?_|refine y7 ?_ ?_|refine y4 ?_|(refine y9 ?_ ?_<;>intro h)|exact y5|fail)
 refine RegX.opA [.app 0 []] rfl rfl ⟨rfl,rfl,rfl,rfl,rfl,rfl,(fun h=>nomatch h),by rw[Nat.zero_mul];decide,by decide⟩ ?_
 repeat'(first|exact y0|refine y1 ?_|refine y2 ?_ ?_|(refine y8 ?_ ?_<;>intro h<;>try exact y6)|refine Unr.next' rfl ?_|refine Ex.set 2 (.s (strsF [])) (VLe.s (fun φ x h=>SLe.emqfrz φ x (SLe.slaemq φ x h))) rfl ?_|refine Fin.le (.inl rfl) rfl (VLe.refl _) rfl|refine y3 ?_|refine y7 ?_ ?_|refine y4 ?_|(refine y9 ?_ ?_<;>intro h)|exact y5|fail)
theorem strs_flat (l:List By):flatG (fun k=>[S.str (l.getD k [])]) l.length=l.map S.str:=by
 rw[flatG_list (fun s=>[S.str s]) [] l]
 induction l with
 |nil=>rfl
 |cons a l ih=>simp only[List.flatMap_cons,List.map_cons,ih,List.singleton_append]
theorem strs_fit {bl:Bl} (l:List By):fitsIn bl (l.map S.str)=true:=fitsIn_of fun x hx=>by
 obtain⟨s,_,rfl⟩:=List.mem_map.1 hx;rfl
theorem strs_get {l:List By} {k j:Nat} {x:S} (hk:k<l.length) (hx:[S.str (l.getD k [])][j]? =some x):(l.map S.str)[k*1+j]? =some x∧pureS x=true:=by
 cases j with
 |succ j=>simp at hx
 |zero=>
  simp only[List.getElem?_cons_zero,Option.some.injEq] at hx;subst hx;rw[Nat.mul_one,Nat.add_zero,List.getElem?_map,List.getElem?_eq_getElem hk,List.getD_eq_getElem?_getD,List.getElem?_eq_getElem hk];exact⟨rfl,rfl⟩
theorem clone_c (l:List By) (hl:l.length<1000000):FC Tryz.prog 179 [.s (strsF l)] 0 [] (.s (strsF l)) 0 []:=by
 cases l with
 |nil=>exact⟨by kernel_rfl,SC.split2 (pre:=[]) (post:=[]) (fun φ x h=>frz0_cases h) cloneNil_c cloneEmq_c⟩
 |cons s t=>
  refine FC.walk (by kernel_rfl) Tryz.func179 rfl rfl ?_
  repeat'(first|exact y0|refine y1 ?_|refine y2 ?_ ?_|(refine y8 ?_ ?_<;>intro h<;>try exact y6)|refine Unr.next' rfl ?_|refine RegX.atCmp (CmpG.nn false (Nat.succ_pos _) rfl (.inl ⟨rfl,rfl⟩) rfl rfl ?_)|refine y3 ?_|refine y7 ?_ ?_|refine y4 ?_|(refine y9 ?_ ?_<;>intro h)|exact y5|fail)
  refine RegX.opA [.app (s::t).length ((s::t).map S.str)] rfl rfl ⟨rfl,trivial,rfl,by rw[Nat.zero_add],?_,?_,(fun h=>nomatch h),?_,by omega⟩ ?_
  ·rw[strs_flat,Nat.zero_mul];rfl
  ·rw[strs_flat];exact strs_fit _
  ·rw[show (Tryz.prog.types[9]).bytes=16 by kernel_rfl];omega
  repeat'(first|exact y0|refine y1 ?_|refine y2 ?_ ?_|(refine y8 ?_ ?_<;>intro h<;>try exact y6)|refine Unr.next' rfl ?_|refine Ex.fz 2 (fun k=>[.str ((s::t).getD k [])]) 1 rfl rfl rfl rfl (fun _ _=>rfl) ?_ rfl rfl ?_|refine Fin.le (.inl rfl) rfl (VLe.refl _) rfl|refine y3 ?_|refine y7 ?_ ?_|refine y4 ?_|(refine y9 ?_ ?_<;>intro h)|exact y5|fail)
  intro k j x hk hx;exact strs_get hk hx
theorem growNil_c:FC Tryz.prog 195 [.s (.slc none 0 (some 0)),nI 0] 0 [] (.s (.slc none 0 (some 0))) 0 []:=by
 refine FC.walk (by kernel_rfl) Tryz.func195 rfl rfl ?_
 repeat'(first|exact y0|refine y1 ?_|refine y2 ?_ ?_|(refine y8 ?_ ?_<;>intro h<;>try exact y6)|refine Unr.next' rfl ?_|refine RegX.cap0 rfl rfl rfl ?_|refine Fin.plain (.inl rfl) rfl ?_ rfl|refine y3 ?_|refine y7 ?_ ?_|refine y4 ?_|(refine y9 ?_ ?_<;>intro h)|exact y5|fail)
 all_goals rfl
theorem grow_c (n:Nat) (h0:0<n) (hl:n<4000000):FC Tryz.prog 195 [.s (.slc none 0 (some 0)),nI n] 0 [] (.s (.sla 0 1 0)) 2 [(0,some {cells:=[],ty:=9,more:=true,sym:=true,flat:=true,gh:=some (1,1)})]:=by
 refine FC.walk (by kernel_rfl) Tryz.func195 rfl rfl ?_
 repeat'(first|exact y0|refine y1 ?_|refine y2 ?_ ?_|(refine y8 ?_ ?_<;>intro h<;>try exact y6)|refine Unr.next' rfl ?_|refine RegX.cap0 rfl rfl rfl ?_|refine RegX.nilTo rfl rfl rfl rfl rfl ?_ ?_|refine RegX.mkz n rfl rfl rfl rfl rfl rfl rfl rfl rfl ?_ h0 ?_ (by omega) ?_ ?_|refine y3 ?_|refine y7 ?_ ?_|refine y4 ?_|(refine y9 ?_ ?_<;>intro h)|exact y5|fail)
 ·rw[show (Tryz.prog.types[9]).bytes=16 by kernel_rfl];omega
 ·refine RegX.opA [.win 0 0 []] rfl rfl ⟨rfl,rfl,Nat.le_refl _,Nat.zero_le _,by rw[Nat.zero_mul];exact Nat.zero_le _,rfl⟩ ?_
  repeat'(first|exact y0|refine y1 ?_|refine y2 ?_ ?_|(refine y8 ?_ ?_<;>intro h<;>try exact y6)|refine Unr.next' rfl ?_|exact⟨.inl rfl,_,[2,3],VLe.refl _,EndOK.by rfl ⟨rfl,trivial⟩ rfl rfl rfl rfl⟩|refine y3 ?_|refine y7 ?_ ?_|refine y4 ?_|(refine y9 ?_ ?_<;>intro h)|exact y5|fail)
theorem concat_g (x y:List By) (n m:Nat) (g1 g2:Nat→List S) (hn:x.length=n) (hm':y.length=m) (f1:flatG g1 n=x.map S.str) (f2:flatG g2 m=y.map S.str) (hx:n<1000000) (hy:m<1000000):FC Tryz.prog 180 [.s (.slc (some (0,0)) 2 (some 2))] 1 [(0,some {cells:=[.frz g1 1 n,.frz g2 1 m],ty:=56})] (.s (strsF (x++y))) 1 [(0,some {cells:=[.frz g1 1 n,.frz g2 1 m],ty:=56})]:=by
 refine FC.walk (by kernel_rfl) Tryz.func180 rfl rfl ?_;by_cases h0:n+m=0
 ·obtain rfl:x=[]:=List.eq_nil_of_length_eq_zero (by omega)
  obtain rfl:n=0:=by omega
  obtain rfl:y=[]:=List.eq_nil_of_length_eq_zero (by omega)
  obtain rfl:m=0:=by omega
  repeat'(first|exact y0|refine y1 ?_|refine y2 ?_ ?_|(refine y8 ?_ ?_<;>intro h<;>try exact y6)|(refine wC ?_;first|refine wF 195 (pu growNil_c ?_))|refine Unr.next' rfl ?_|refine Ex.unroll 3 ?_|refine RegX.apNil rfl rfl rfl rfl rfl rfl rfl ?_|refine Ex.set 2 (.s (strsF [])) (VLe.s SLe.nil) rfl ?_|exact⟨.inl rfl,_,[],VLe.refl _,EndOK.by rfl ⟨rfl,trivial⟩ rfl rfl rfl rfl⟩|refine y3 ?_|refine y7 ?_ ?_|refine y4 ?_|(refine y9 ?_ ?_<;>intro h)|exact y5|fail)
 ·
  have htot:(0:Int)+n+m=((n+m:Nat):Int):=by omega
  repeat'(first|exact y0|refine y1 ?_|refine y2 ?_ ?_|(refine y8 ?_ ?_<;>intro h<;>try exact y6)|refine Unr.next' rfl ?_|refine Ex.unroll 3 ?_|refine RegX.atCall (CallG.me [] (grow_c (n+m) (by omega) (by omega)) rfl (args1:=[.s (.slc none 0 (some 0)),nI (0+n+m)]) rfl ⟨VLe.refl _,VLe.of_eq (congrArg nI htot),trivial⟩ trivial rfl rfl rfl ?_)|refine y3 ?_|refine y7 ?_ ?_|refine y4 ?_|(refine y9 ?_ ?_<;>intro h)|exact y5|fail)
  refine RegX.opA [.app n (x.map S.str)] rfl rfl ⟨Nat.le_of_eq (Nat.zero_mul _),trivial,rfl,by rw[Nat.zero_add],?_,?_,(fun h=>nomatch h),?_,by omega⟩ ?_
  ·rw[f1,Nat.zero_mul];rfl
  ·rw[f1];exact strs_fit _
  ·rw[show (Tryz.prog.types[9]).bytes=16 by kernel_rfl];omega
  repeat'(first|exact y0|refine y1 ?_|refine y2 ?_ ?_|(refine y8 ?_ ?_<;>intro h<;>try exact y6)|refine Unr.next' rfl ?_|refine Ex.unroll 3 ?_|refine y3 ?_|refine y7 ?_ ?_|refine y4 ?_|(refine y9 ?_ ?_<;>intro h)|exact y5|fail)
  have hsz1:(Tryz.prog.types[9]).size=1:=by kernel_rfl
  refine RegX.opA [.app (n+m) ((x++y).map S.str)] rfl rfl ⟨?_,trivial,rfl,rfl,?_,?_,(fun h=>nomatch h),?_,by omega⟩ ?_
  ·rw[hsz1];show n*1≤(x.map S.str).length;simp[hn]
  ·rw[f2,hsz1];show _=(x.map S.str).take (n*1)++_;rw[Nat.mul_one,List.take_of_length_le (by simp[hn]),List.map_append]
  ·rw[f2];exact strs_fit _
  ·rw[show (Tryz.prog.types[9]).bytes=16 by kernel_rfl];omega
  repeat'(first|exact y0|refine y1 ?_|refine y2 ?_ ?_|(refine y8 ?_ ?_<;>intro h<;>try exact y6)|refine Unr.next' rfl ?_|refine Ex.fz 2 (fun k=>[.str ((x++y).getD k [])]) 1 rfl rfl rfl rfl (fun _ _=>rfl) ?_ rfl rfl ?_|refine y3 ?_|refine y7 ?_ ?_|refine y4 ?_|(refine y9 ?_ ?_<;>intro h)|exact y5|fail)
  ·intro k j s hk hs
   exact strs_get (by rw[List.length_append];omega) hs
  ·refine⟨.inl rfl,.s (.frz (fun k=>[.str ((x++y).getD k [])]) 1 (n+m)),[],VLe.of_eq ?_,EndOK.by ?_ ?_ rfl rfl rfl rfl⟩
   ·unfold strsF;rw[List.length_append,hn,hm']
   ·rfl
   ·refine⟨?_,trivial⟩
    rfl
set_option maxRecDepth 100000
set_option maxHeartbeats 4000000
theorem valid_facts {p:Pth} (h:validP p=true):0≤p.up∧p.up≤32∧(p.segs.length:Int)≤32-p.up∧(p.root=true→p.up=0)∧p.segs.all isSeg=true∧(p.root=true∨0<p.up∨0<p.segs.length):=by
 unfold validP at h;simp only[Bool.and_eq_true,decide_eq_true_eq,Bool.not_eq_true',Bool.or_eq_true] at h;obtain⟨⟨⟨⟨⟨h1,h2⟩,h3⟩,h4⟩,h5⟩,h6⟩:=h;refine⟨h1,h3,h4,fun hr=>?_,h5,?_⟩
 ·rw[hr] at h2;simpa using h2
 ·rcases h6 with (h|h)|h
  ·exact .inl h
  ·exact .inr (.inl h)
  ·exact .inr (.inr h)
theorem abs_facts {p:Pth} (h:absP p=true):p.root=true∧p.up=0∧p.segs.length≤32:=by
 unfold absP at h;simp only[Bool.and_eq_true] at h;obtain⟨h0,h1⟩:=h;obtain⟨a1,a2,a3,a4,_⟩:=valid_facts h1;have:=a4 h0;exact⟨h0,this,by omega⟩
theorem flat_take (l:List By) {k:Nat} (h:k≤l.length):flatG (fun i=>[S.str (l.getD i [])]) k=(l.take k).map S.str:=by
 induction k with
 |zero=>rfl
 |succ k ih=>rw[flatG_succ,ih (by omega),List.take_add_one,List.map_append,List.getD_eq_getElem?_getD,List.getElem?_eq_getElem (by omega)];rfl
def joinP (b r:Pth):Pth×Bool:=
 if absP b=false∨validP r=false then (z0,false)
 else if r.root then (⟨true,0,r.segs⟩,true)
 else if (b.segs.length:Int)-r.up<0∨32<(b.segs.length:Int)-r.up+r.segs.length then (z0,false)
 else (⟨true,0,b.segs.take ((b.segs.length:Int)-r.up).toNat++r.segs⟩,true)
theorem join_u (br:Bool) (bu:Int) (bs:List By) (rr:Bool) (ru:Int) (rs:List By):
 FC Tryz.prog 138 [.agg [.bool br,.int .i64 bu,strsF bs],.agg [.bool rr,.int .i64 ru,strsF rs]] 0 [] (psV (joinP ⟨br,bu,bs⟩ ⟨rr,ru,rs⟩)) 0 []:=by
 have ha:=absP_u br bu bs;have hv:=validP_u rr ru rs;refine FC.walk (by kernel_rfl) Tryz.func138 rfl rfl ?_
 cases h1:absP ⟨br,bu,bs⟩<;>rw[h1] at ha
 ·
  repeat'(first|exact y0|refine y1 ?_|refine y2 ?_ ?_|(refine y8 ?_ ?_<;>intro h<;>try exact y6)|(refine wC ?_;first|refine wF 177 (bo ha ?_))|refine Fin.le (.inl rfl) rfl (psV_z (by simp[joinP,h1])) rfl|refine y3 ?_|refine y7 ?_ ?_|refine y4 ?_|(refine y9 ?_ ?_<;>intro h)|exact y5|fail)
 cases h2:validP ⟨rr,ru,rs⟩<;>rw[h2] at hv
 ·
  repeat'(first|exact y0|refine y1 ?_|refine y2 ?_ ?_|(refine y8 ?_ ?_<;>intro h<;>try exact y6)|(refine wC ?_;first|refine wF 177 (bo ha ?_)|refine wF 178 (bo hv ?_))|refine Fin.le (.inl rfl) rfl (psV_z (by simp[joinP,h2])) rfl|refine y3 ?_|refine y7 ?_ ?_|refine y4 ?_|(refine y9 ?_ ?_<;>intro h)|exact y5|fail)
 obtain⟨a1,a2,a3⟩:=abs_facts h1;obtain⟨v1,v2,v3,v4,v5,v6⟩:=valid_facts h2;simp only at a1 a2 a3 v1 v2 v3 v4 v5 v6;cases rr
 ·by_cases hn:(bs.length:Int)-ru<0
  ·
   repeat'(first|exact y0|refine y1 ?_|refine y2 ?_ ?_|(refine y8 ?_ ?_<;>intro h<;>try exact y6)|(refine wC ?_;first|refine wF 177 (bo ha ?_)|refine wF 178 (bo hv ?_))|refine Fin.le (.inl rfl) rfl (psV_z (by simp[joinP,h1,h2];omega)) rfl|refine y3 ?_|refine y7 ?_ ?_|refine y4 ?_|(refine y9 ?_ ?_<;>intro h)|exact y5|fail)
  ·obtain⟨k,hk⟩:∃ k:Nat,(bs.length:Int)-ru=(k:Int):=⟨((bs.length:Int)-ru).toNat,by omega⟩
   have hcc:=concat_g (bs.take k) rs k rs.length (fun k=>[.str (bs.getD k [])]) (fun k=>[.str (rs.getD k [])]) (by rw[List.length_take];omega) rfl (flat_take bs (by omega)) (strs_flat rs) (by omega) (by omega)
   repeat'(first|exact y0|refine y1 ?_|refine y2 ?_ ?_|(refine y8 ?_ ?_<;>intro h<;>try exact y6)|(refine wC ?_;first|refine wF 177 (bo ha ?_)|refine wF 178 (bo hv ?_))|refine Ex.set 6 (nI k) (VLe.of_eq (congrArg nI hk)) rfl ?_|refine Fin.le (.inl rfl) rfl (psV_z (by simp[joinP,h1,h2];omega)) rfl|refine y3 ?_|refine y7 ?_ ?_|refine y4 ?_|(refine y9 ?_ ?_<;>intro h)|exact y5|fail)
   refine RegX.atCall (CallG.me [3] hcc rfl rfl ⟨VLe.refl _,trivial⟩ ⟨⟨rfl,_,rfl,rfl,fun h=>h⟩,trivial⟩ rfl rfl rfl ?_)
   repeat'(first|exact y0|refine y1 ?_|refine y2 ?_ ?_|(refine y8 ?_ ?_<;>intro h<;>try exact y6)|refine Fin.le (.inl rfl) rfl (psV_ok ?_) rfl|refine y3 ?_|refine y7 ?_ ?_|refine y4 ?_|(refine y9 ?_ ?_<;>intro h)|exact y5|fail)
   simp only[joinP,h1,h2];rw[if_neg (by simp),if_neg (by simp),if_neg (by omega),hk];rfl
 ·
  have hcl:=clone_c rs (by omega)
  repeat'(first|exact y0|refine y1 ?_|refine y2 ?_ ?_|(refine y8 ?_ ?_<;>intro h<;>try exact y6)|(refine wC ?_;first|refine wF 177 (bo ha ?_)|refine wF 178 (bo hv ?_)|refine wF 179 (pu hcl ?_))|refine Fin.le (.inl rfl) rfl (psV_ok (by simp[joinP,h1,h2])) rfl|refine y3 ?_|refine y7 ?_ ?_|refine y4 ?_|(refine y9 ?_ ?_<;>intro h)|exact y5|fail)
theorem join_c (b r:Pth):FC Tryz.prog 138 [ptV b,ptV r] 0 [] (psV (joinP b r)) 0 []:=join_u b.root b.up b.segs r.root r.up r.segs
theorem take_le {l:List By} {k:Nat} (h:k≤l.length):VLe (.s (.frz (fun i=>[.str (l.getD i [])]) 1 k)) (.s (strsF (l.take k))):=by
 unfold strsF;rw[List.length_take,Nat.min_eq_left h];refine VLe.s (SLe.frz fun i hi=>?_);rw[List.getD_eq_getElem?_getD,List.getD_eq_getElem?_getD,List.getElem?_take,if_pos hi]
def parentP (p:Pth):Pth×Bool:=if absP p=false∨p.segs.length=0 then (z0,false) else (⟨true,0,p.segs.take (p.segs.length-1)⟩,true)
theorem parent_u (br:Bool) (bu:Int) (bs:List By):FC Tryz.prog 183 [.agg [.bool br,.int .i64 bu,strsF bs]] 0 [] (psV (parentP ⟨br,bu,bs⟩)) 0 []:=by
 have ha:=absP_u br bu bs;refine FC.walk (by kernel_rfl) Tryz.func183 rfl rfl ?_
 cases h1:absP ⟨br,bu,bs⟩<;>rw[h1] at ha
 ·
  repeat'(first|exact y0|refine y1 ?_|refine y2 ?_ ?_|(refine y8 ?_ ?_<;>intro h<;>try exact y6)|(refine wC ?_;first|refine wF 177 (bo ha ?_))|refine Fin.le (.inl rfl) rfl (psV_z (by simp[parentP,h1])) rfl|refine y3 ?_|refine y7 ?_ ?_|refine y4 ?_|(refine y9 ?_ ?_<;>intro h)|exact y5|fail)
 obtain⟨a1,a2,a3⟩:=abs_facts h1;simp only at a1 a2 a3;by_cases h0:bs.length=0
 ·
  repeat'(first|exact y0|refine y1 ?_|refine y2 ?_ ?_|(refine y8 ?_ ?_<;>intro h<;>try exact y6)|(refine wC ?_;first|refine wF 177 (bo ha ?_))|refine Fin.le (.inl rfl) rfl (psV_z (by simp[parentP,h1];simp_all;done)) rfl|refine y3 ?_|refine y7 ?_ ?_|refine y4 ?_|(refine y9 ?_ ?_<;>intro h)|exact y5|fail)
 ·
  have hcl:=clone_c (bs.take (bs.length-1)) (by rw[List.length_take];omega)
  have hk:(bs.length:Int)-1=((bs.length-1:Nat):Int):=by omega
  repeat'(first|exact y0|refine y1 ?_|refine y2 ?_ ?_|(refine y8 ?_ ?_<;>intro h<;>try exact y6)|(refine wC ?_;first|refine wF 177 (bo ha ?_))|refine y3 ?_|refine y7 ?_ ?_|refine y4 ?_|(refine y9 ?_ ?_<;>intro h)|exact y5|fail)
  refine RegX.chunkN 6 rfl rfl ?_ (RegX.eqv 19 (congrArg nI hk) rfl ?_)
  all_goals
   repeat'(first|exact y0|refine y1 ?_|refine y2 ?_ ?_|(refine y8 ?_ ?_<;>intro h<;>try exact y6)|refine RegX.atCall (CallG.we hcl rfl ⟨take_le (k:=bs.length-1) (by omega),trivial⟩ rfl rfl rfl ?_)|refine Fin.le (.inl rfl) rfl (psV_ok ?_) rfl|refine y3 ?_|refine y7 ?_ ?_|refine y4 ?_|(refine y9 ?_ ?_<;>intro h)|exact y5|fail)
  unfold parentP;rw[if_neg];simp[h1,h0]
end Go.Proofs.YtbokilgdefkmiaaGreatDoor
