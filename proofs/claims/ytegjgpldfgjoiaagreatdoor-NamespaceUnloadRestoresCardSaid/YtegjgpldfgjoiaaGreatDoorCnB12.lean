import Derived.Test.YtegjgpldfgjoiaaGreatDoorCnB11
import Derived.Test.YtegjgpldfgjoiaaGreatDoorCnB10
import Derived.Test.YtegjgpldfgjoiaaGreatDoorRows
import Derived.KernelRfl
import Derived.Lib.Bytealg
set_option linter.unusedSimpArgs false
set_option linter.unusedVariables false
namespace Go.Proofs.YtegjgpldfgjoiaaGreatDoor
namespace Ab
open Go Go.MapKept
def orC {α:Type} (c:α->List S) (zs:List S):Option α->List S
 |some x=>c x
 |none=>zs
def fN (P:Program) (t:TypeId) (agg:Bool):Option (List S):=
 match P.info? t with
 |some i=>match i.zero with
  |some v=>match agg,v with
   |true,.agg cs=>vH cs.toList
   |true,_=>none
   |false,v=>match toS v with|some x=>some [x]|none=>none
  |none=>none
 |none=>none
theorem BR {P:Program} {t:TypeId} {agg:Bool} {l:List S} (h:fN P t agg=some l) (w:World):∃ z,(zeroValue t).run P w=.ok z w/\∀ φ,Ur φ (uO agg l) z:=by
 unfold fN at h;split at h
 ·rename_i i hi
  split at h
  ·rename_i v hv
   refine⟨v,by simp[zeroValue,typeInfo,hi,hv],fun φ=>?_⟩;split at h
   ·rename_i cs
    exact⟨cs.toList,by simp,sA h⟩
   ·cases h
   ·split at h
    ·rename_i x hx
     cases h;exact DP hx
    ·cases h
  ·cases h
 ·cases h
section
variable {P:Program} {b:Nat} {ops:Array Oper} {d:Bool} {acc:List Row} {os:List Oper} {o:Oper} {env:List V} {n:Nat} {L:Hp} {R:Post}
variable {κ α:Type}
theorem uE [DecidableEq κ] {K:KD κ} {agg:Bool} {w:Nat} {c:α->List S} {E:En κ α} {ck:Nat} {r0:Bool} {i:Nat} {k:κ} {tx kt et:TypeId} {zs:List S} (hw:∀ a,(c a).length=w) (h1:agg=false->w=1)
 (hty:P.underlying tx=some (.map kt et)) (hd:P.underlying kt=some K.d) (hz:fN P et agg=some zs) {φ:Ph} {W:World} (hg:Good φ L W) (hl:lk L i=some {mB K agg w c E ck with ro:=r0}) {v:Value} (hv:Sr φ (.map (some i)) v) (ok:Bool):
 ∃ y,(Instr.lookup tx v (K.v k) ok).run P W=.ok (if ok then .tuple #[y,.bool (lkM E k).isSome] else y) W/\Ur φ (uO agg (orC c zs (lkM E k))) y:=by
 obtain⟨b,hb,hb2,rfl⟩:=hv;obtain⟨b',hb',hat⟩:=hg.hr i _ hl;rw[hb] at hb';cases hb';obtain⟨M,hm,hM⟩:=ge hw hat hb2
 have hc:=fun em=>run_checkKey (P:=P) (w:=W) hd (K.key k) em 9999
 obtain⟨f1,f2⟩:=EntsR.find k 0 hM
 cases r:lkM E k with
 |none=>
  have hf:=run_findKey (P:=P) (w:=W) hd (f1 r);obtain⟨z,z1,z2⟩:=BR hz W;refine⟨z,?_,z2 φ⟩;simp only[Instr.lookup,Sem.run_bind,Ab.run_underlying hty,Result.andThen_ok,Go.MapKept.run_getObj_map hm,Sem.run_pure];simp[hc,hf,z1]
 |some x=>
  obtain⟨j,m,g1,g2,g3,g4,_⟩:=f2 x r;have hf:=run_findKey (P:=P) (w:=W) hd g1;refine⟨m.val,?_,?_⟩
  ·simp only[Instr.lookup,Sem.run_bind,Ab.run_underlying hty,Result.andThen_ok,Go.MapKept.run_getObj_map hm,Sem.run_pure]
   simp[hc,hf]
  ·have:=Ur.mono (φ:=fl φ) (φ':=φ) ⟨fun _ _ h=>(by cases h),fun _ _ h=>h⟩ (g4.ur (fun e=>by rw[hw];exact h1 e))
   exact this
theorem RegX.lkT [DecidableEq κ] {dst:Option Tmp} {x ix:Operand} {tx kt et:TypeId} {t:TypeId} {pos:String} {af:Array Edge} {gd:Option (Nat×Bool)} {K:KD κ} {agg:Bool} {w:Nat} {c:α->List S} {E:En κ α} {ck:Nat} {r0:Bool} {i:Nat} {k:κ} {zs:List S} (r:Option α)
 (hx:ev env x=.s (.map (some i))) (hix:ev env ix=.s (K.s k)) (hl:lk L i=some {mB K agg w c E ck with ro:=r0}) (hw:∀ a,(c a).length=w) (h1:agg=false->w=1) (hty:P.underlying tx=some (.map kt et)) (hd:P.underlying kt=some K.d) (hz:fN P et agg=some zs) (hr:lkM E k=r)
 (hwt:aI ops env ⟨dst,.lookup tx x ix true,t,pos,af,gd⟩=some true)
 (kk:RegX P ops d (av d ⟨dst,.lookup tx x ix true,t,pos,af,gd⟩ [i] [] acc) os (aB env dst (.tup [uO agg (orC c zs r),.s (.bool r.isSome)])) n L R):
 RegX P ops d acc (⟨dst,.lookup tx x ix true,t,pos,af,gd⟩::os) env n L R:=by
 refine RegX.op (foot:=[i]) (wr:=[]) hwt (OpL.light fun φ a W hop hg=>?_) (Nat.le_refl _) kk;have g1:=hop x (by simp[Op.operands]);have g2:=hop ix (by simp[Op.operands]);rw[hx] at g1;rw[hix] at g2;have g2:a.eval ix=K.v k:=(K.sr _ _ _).1 g2;obtain⟨y,y1,y2⟩:=uE (κ:=κ) (k:=k) hw h1 hty hd hz hg (i:=i) (E:=E) (ck:=ck) (r0:=r0) (by rw[aE];simp[hl]) g1 true;rw[hr] at y1 y2;exact⟨.tuple #[y,.bool r.isSome],by simp only[execOp,g2,Sem.run_bind,y1,Result.andThen_ok];rfl,[y,.bool r.isSome],rfl,y2,rfl,trivial⟩
theorem RegX.lk1 [DecidableEq κ] {dst:Option Tmp} {x ix:Operand} {tx kt et:TypeId} {t:TypeId} {pos:String} {af:Array Edge} {gd:Option (Nat×Bool)} {K:KD κ} {agg:Bool} {w:Nat} {c:α->List S} {E:En κ α} {ck:Nat} {r0:Bool} {i:Nat} {k:κ} {zs:List S} (r:Option α)
 (hx:ev env x=.s (.map (some i))) (hix:ev env ix=.s (K.s k)) (hl:lk L i=some {mB K agg w c E ck with ro:=r0}) (hw:∀ a,(c a).length=w) (h1:agg=false->w=1) (hty:P.underlying tx=some (.map kt et)) (hd:P.underlying kt=some K.d) (hz:fN P et agg=some zs) (hr:lkM E k=r)
 (hwt:aI ops env ⟨dst,.lookup tx x ix false,t,pos,af,gd⟩=some true)
 (kk:RegX P ops d (av d ⟨dst,.lookup tx x ix false,t,pos,af,gd⟩ [i] [] acc) os (aB env dst (ofU (uO agg (orC c zs r)))) n L R):
 RegX P ops d acc (⟨dst,.lookup tx x ix false,t,pos,af,gd⟩::os) env n L R:=by
 refine RegX.op (foot:=[i]) (wr:=[]) hwt (OpL.light fun φ a W hop hg=>?_) (Nat.le_refl _) kk;have g1:=hop x (by simp[Op.operands]);have g2:=hop ix (by simp[Op.operands]);rw[hx] at g1;rw[hix] at g2;have g2:a.eval ix=K.v k:=(K.sr _ _ _).1 g2;obtain⟨y,y1,y2⟩:=uE (κ:=κ) (k:=k) hw h1 hty hd hz hg (i:=i) (E:=E) (ck:=ck) (r0:=r0) (by rw[aE];simp[hl]) g1 false;rw[hr] at y2;exact⟨_,by simp only[execOp,g2,Sem.run_bind,y1,Result.andThen_ok];rfl,yA y2⟩
theorem DN {φ:Ph} {agg:Bool} {l:List S} {v:Value} (hl:agg=false->l.length=1) (hn:l.all bD=true) (h:Vr φ (ofU (uO agg l)) v):VO (fl φ) agg l v:=by
 cases agg with
 |true=>
  obtain⟨xs,rfl,h⟩:=h;exact⟨xs,rfl,eR (φ:=φ) (ψ:=fl φ) (fun _ _ h=>h) hn h⟩
 |false=>
  match l,hl rfl,h with
  |[x],_,h=>exact⟨[v],rfl,eR (φ:=φ) (ψ:=fl φ) (fun _ _ h=>h) hn ⟨h,trivial⟩⟩
theorem RegX.muN [DecidableEq κ] {dst:Option Tmp} {x ix y:Operand} {tx kt et:TypeId} {t:TypeId} {pos:String} {af:Array Edge} {gd:Option (Nat×Bool)} {K:KD κ} {agg:Bool} {w:Nat} {c:α->List S} {E:En κ α} {ck:Nat} {i:Nat} {k:κ} (a0:α)
 (hx:ev env x=.s (.map (some i))) (hix:ev env ix=.s (K.s k)) (hy:VLe (ev env y) (ofU (uO agg (c a0)))) (hl:lk L i=some (mB K agg w c E ck)) (hw:∀ a,(c a).length=w) (h1:agg=false->w=1) (hn:(c a0).all bD=true) (hty:P.underlying tx=some (.map kt et)) (hd:P.underlying kt=some K.d) (hr:lkM E k=none)
 (hwt:aI ops env ⟨dst,.mapUpdate tx x ix y,t,pos,af,gd⟩=some true)
 (kk:RegX P ops d (av d ⟨dst,.mapUpdate tx x ix y,t,pos,af,gd⟩ [i] [(i,some (mB K agg w c (E++[(ck,k,a0)]) (ck+1)))] acc) os (aB env dst .undef) n (puts L [(i,some (mB K agg w c (E++[(ck,k,a0)]) (ck+1)))]) R):
 RegX P ops d acc (⟨dst,.mapUpdate tx x ix y,t,pos,af,gd⟩::os) env n L R:=by
 refine RegX.op (foot:=[i]) (wr:=[(i,some (mB K agg w c (E++[(ck,k,a0)]) (ck+1)))]) hwt ?_ (Nat.le_refl _) kk;intro φ a W Q hop hg hf
 have e1:res [i] L=[(i,some (mB K agg w c E ck))]:=by simp[res,hl]
 have e2:puts (res [i] L) [(i,some (mB K agg w c (E++[(ck,k,a0)]) (ck+1)))]=[(i,some (mB K agg w c (E++[(ck,k,a0)]) (ck+1)))]:=by rw[e1];simp[puts,put]
 have g1:=hop x (by simp[Op.operands]);have g2:=hop ix (by simp[Op.operands]);have g3:=hop y (by simp[Op.operands]);rw[hx] at g1;rw[hix] at g2;have g3:=hy φ _ g3;obtain⟨b,hb,hb2,hv⟩:=g1;have g2:a.eval ix=K.v k:=(K.sr _ _ _).1 g2;have g3:=DN (fun e=>by rw[hw];exact h1 e) hn g3;rw[e1] at hg;obtain⟨b',hb',hat⟩:=hg.hr i (mB K agg w c E ck) (by simp[lk]);rw[hb] at hb';cases hb';obtain⟨M,hm,hM⟩:=ge (r:=false) hw hat hb2;have hlt:=hat.lt
 have hc:=fun em=>run_checkKey (P:=P) (w:=W) hd (K.key k) em 9999
 have hfn:=run_findKey (P:=P) (w:=W) hd ((EntsR.find k 0 hM).1 hr)
 have hrun:(execOp a.eval ⟨dst,.mapUpdate tx x ix y,t,pos,af,gd⟩).run P W=.ok .skip {W with heap:=W.heap.setIfInBounds b.1 (.map (M++[MapEntry.mk (K.v k) (a.eval y) ck]).toArray (ck+1))}:=by
  simp only[execOp,Instr.mapUpdate,Sem.run_bind,Ab.run_underlying hty,Result.andThen_ok,hv,Go.MapKept.run_getObj_map hm,Sem.run_pure,g2,hc,hfn];rw[Go.MapKept.run_setObj_map _ hm];simp
 obtain⟨good,stp⟩:=iK (bl':=mB K agg w c (E++[(ck,k,a0)]) (ck+1)) (ob:=.map (M++[MapEntry.mk (K.v k) (a.eval y) ck]).toArray (ck+1)) hg hb rfl rfl (rV hw (by simp[hlt]) (EntsR.push g3 hM) hb2);unfold Oper.wp;rw[hrun,Oper.upon_skip];exact⟨φ,Go.undef,rfl,rfl,by rw[e2];exact good,by rw[e2,e1];exact stp,fun _ _=>rfl⟩
theorem RegX.muO [DecidableEq κ] {dst:Option Tmp} {x ix y:Operand} {tx kt et:TypeId} {t:TypeId} {pos:String} {af:Array Edge} {gd:Option (Nat×Bool)} {K:KD κ} {agg:Bool} {w:Nat} {c:α->List S} {E:En κ α} {ck:Nat} {i:Nat} {k:κ} {x0:α} (a0:α)
 (hx:ev env x=.s (.map (some i))) (hix:ev env ix=.s (K.s k)) (hy:VLe (ev env y) (ofU (uO agg (c a0)))) (hl:lk L i=some (mB K agg w c E ck)) (hw:∀ a,(c a).length=w) (h1:agg=false->w=1) (hn:(c a0).all bD=true) (hty:P.underlying tx=some (.map kt et)) (hd:P.underlying kt=some K.d) (hr:lkM E k=some x0)
 (hwt:aI ops env ⟨dst,.mapUpdate tx x ix y,t,pos,af,gd⟩=some true)
 (kk:RegX P ops d (av d ⟨dst,.mapUpdate tx x ix y,t,pos,af,gd⟩ [i] [(i,some (mB K agg w c (upM E k a0) ck))] acc) os (aB env dst .undef) n (puts L [(i,some (mB K agg w c (upM E k a0) ck))]) R):
 RegX P ops d acc (⟨dst,.mapUpdate tx x ix y,t,pos,af,gd⟩::os) env n L R:=by
 refine RegX.op (foot:=[i]) (wr:=[(i,some (mB K agg w c (upM E k a0) ck))]) hwt ?_ (Nat.le_refl _) kk;intro φ a W Q hop hg hf
 have e1:res [i] L=[(i,some (mB K agg w c E ck))]:=by simp[res,hl]
 have e2:puts (res [i] L) [(i,some (mB K agg w c (upM E k a0) ck))]=[(i,some (mB K agg w c (upM E k a0) ck))]:=by rw[e1];simp[puts,put]
 have g1:=hop x (by simp[Op.operands]);have g2:=hop ix (by simp[Op.operands]);have g3:=hop y (by simp[Op.operands]);rw[hx] at g1;rw[hix] at g2;have g3:=hy φ _ g3;obtain⟨b,hb,hb2,hv⟩:=g1;have g2:a.eval ix=K.v k:=(K.sr _ _ _).1 g2;have g3:=DN (fun e=>by rw[hw];exact h1 e) hn g3;rw[e1] at hg;obtain⟨b',hb',hat⟩:=hg.hr i (mB K agg w c E ck) (by simp[lk]);rw[hb] at hb';cases hb';obtain⟨M,hm,hM⟩:=ge (r:=false) hw hat hb2;have hlt:=hat.lt
 have hc:=fun em=>run_checkKey (P:=P) (w:=W) hd (K.key k) em 9999
 obtain⟨j,m,f1,f2,f3,f4,f5,_⟩:=(EntsR.find k 0 hM).2 x0 hr;rw[Nat.zero_add] at f1;have hfn:=run_findKey (P:=P) (w:=W) hd f1
 have hks:=fun W=>run_keyThatStays (P:=P) (w:=W) (K.key k)
 have hrun:(execOp a.eval ⟨dst,.mapUpdate tx x ix y,t,pos,af,gd⟩).run P W=.ok .skip {W with heap:=W.heap.setIfInBounds b.1 (.map (M.modify j fun e=>{e with key:=K.v k,val:=a.eval y}).toArray ck)}:=by
  have hj:(M.toArray)[j]? =some m:=by simp[f2]
  simp only[execOp,Instr.mapUpdate,Sem.run_bind,Ab.run_underlying hty,Result.andThen_ok,hv,Go.MapKept.run_getObj_map hm,Sem.run_pure,g2,hc,hfn,hj,Option.map_some,Option.getD_some,f3,hks];rw[Go.MapKept.run_setObj_map _ hm];simp
 obtain⟨good,stp⟩:=iK (bl':=mB K agg w c (upM E k a0) ck) (ob:=.map (M.modify j fun e=>{e with key:=K.v k,val:=a.eval y}).toArray ck) hg hb rfl rfl (rV hw (by simp[hlt]) (f5 a0 _ g3) hb2);unfold Oper.wp;rw[hrun,Oper.upon_skip];exact⟨φ,Go.undef,rfl,rfl,by rw[e2];exact good,by rw[e2,e1];exact stp,fun _ _=>rfl⟩
theorem RegX.mkM {dst:Option Tmp} {tx:TypeId} {t:TypeId} {pos:String} {af:Array Edge} {gd:Option (Nat×Bool)} (K:KD κ) (agg:Bool) (w:Nat) (c:α->List S) (hw:∀ a,(c a).length=w)
 (hwt:aI ops env ⟨dst,.makeMap tx none,t,pos,af,gd⟩=some true)
 (kk:RegX P ops d (av d ⟨dst,.makeMap tx none,t,pos,af,gd⟩ [] [(n,some (mB K agg w c [] 0))] acc) os (aB env dst (.s (.map (some n)))) (n+1) (puts L [(n,some (mB K agg w c [] 0))]) R):
 RegX P ops d acc (⟨dst,.makeMap tx none,t,pos,af,gd⟩::os) env n L R:=by
 refine RegX.op (foot:=[]) (wr:=[(n,some (mB K agg w c [] 0))]) hwt ?_ (Nat.le_succ _) kk
 have e:puts (res ([]:List Nat) L) [(n,some (mB K agg w c [] 0))]=put [] n (some (mB K agg w c [] 0)):=by simp[res,puts]
 rw[e]
 refine OpL.fresh (L:=[]) (by simp[lk]) fun φ a W hop _=>?_
 refine⟨.map (some W.heap.size),{W with heap:=W.heap.push (.map #[] 0)},?_,rfl,rfl,rfl,⟨_,rfl⟩,rV (M:=[]) hw (by simp) trivial rfl,fun φ' hn _=>⟨_,hn,rfl,rfl⟩⟩;simp[execOp,Instr.makeMap,newObj,Sem.run]
theorem RegX.lnM {dst:Option Tmp} {x:Operand} {tx kt et:TypeId} {t:TypeId} {pos:String} {af:Array Edge} {gd:Option (Nat×Bool)} {K:KD κ} {agg:Bool} {w:Nat} {c:α->List S} {E:En κ α} {ck:Nat} {r0:Bool} {i:Nat}
 (hx:ev env x=.s (.map (some i))) (hl:lk L i=some {mB K agg w c E ck with ro:=r0}) (hw:∀ a,(c a).length=w) (hty:P.underlying tx=some (.map kt et))
 (hwt:aI ops env ⟨dst,.call ⟨.builtin .len,#[x],#[tx]⟩,t,pos,af,gd⟩=some true)
 (kk:RegX P ops d (av d ⟨dst,.call ⟨.builtin .len,#[x],#[tx]⟩,t,pos,af,gd⟩ [i] [] acc) os (aB env dst (.s (.int .i64 (E.length:Int)))) n L R):
 RegX P ops d acc (⟨dst,.call ⟨.builtin .len,#[x],#[tx]⟩,t,pos,af,gd⟩::os) env n L R:=by
 refine RegX.op (foot:=[i]) (wr:=[]) hwt (OpL.light fun φ a W hop hg=>?_) (Nat.le_refl _) kk;have g1:=hop x (by simp[Op.operands,Call.operands]);rw[hx] at g1;obtain⟨b,hb,hb2,hv⟩:=g1;obtain⟨b',hb',hat⟩:=hg.hr i {mB K agg w c E ck with ro:=r0} (by rw[aE];simp[hl]);rw[hb] at hb';cases hb';obtain⟨M,hm,hM⟩:=ge hw hat hb2;refine⟨.int .i64 (E.length:Int),?_,rfl⟩;simp only[execOp,resolve,Sem.run_bind,Sem.run_pure,Result.andThen_ok,invoke,builtin,List.map_toArray,List.map_cons,List.map_nil,hv];simp[Builtin.len_,Builtin.lenOf,Ab.run_underlying hty,goInt,Go.MapKept.run_getObj_map hm,hM.len]
end
end Ab
end Go.Proofs.YtegjgpldfgjoiaaGreatDoor
namespace Go.Proofs.YtegjgpldfgjoiaaGreatDoor
open Go Ab
set_option maxRecDepth 100000
set_option maxHeartbeats 4000000
theorem hm:Tryz.prog.follows .mixedOrders=true:=by decide+kernel
abbrev By:=List UInt8
abbrev nI (z:Int):V:=.s (.int .i64 z)
abbrev n8 (z:Int):V:=.s (.int .u8 z)
abbrev bV (b:Bool):V:=.s (.bool b)
abbrev sV (s:By):V:=.s (.str s)
def cQ (op:Int):Bool:=decide (op=1)||decide (op=2)||decide (op=50)||decide (op=51)
def cO (op:Int):Bool:=decide (op=18)||decide (op=19)
def fu (op:Int):Bool:=decide (op=3)||decide (op=5)||decide (op=6)||decide (op=7)||decide (op=41)||decide (op=42)||cQ op||(decide (60<=op)&&decide (op<=88))
def dI (k op:Int):Bool:=
 if k=110\/k=115 then decide (op=3)
 else if k=105\/k=73 then decide (op=1)
 else if k=101 then fu op
 else if k=116 then decide (op=3)||decide (op=6)||decide (op=7)||decide (op=76)||decide (op=84)
 else if k=100 then cQ op
 else if k=80 then cQ op||decide (op=3)
 else if k=68 then decide (10<=op)&&decide (op<=21)&& !cO op
 else if k=70 then cO op
 else if k=83 then (decide (30<=op)&&decide (op<=42))||decide (op=5)
 else false
theorem zZ (op:Int):FC Tryz.prog 253 [nI op] 0 [] (bV (cO op)) 0 []:=by
 refine FC.walk (by kernel_rfl) Tryz.func253 rfl rfl ?_
 repeat'(first|exact y0|refine y1 ?_|refine y2 ?_ ?_|(refine y8 ?_ ?_<;>intro h<;>try exact y6)|refine Fin.bool (.inl rfl) rfl ?_|refine y3 ?_|refine y7 ?_ ?_|refine y4 ?_|(refine y9 ?_ ?_<;>intro h)|exact y5|fail)
 all_goals simp[cO, *]
theorem qQ (op:Int):FC Tryz.prog 252 [nI op] 0 [] (bV (cQ op)) 0 []:=by
 refine FC.walk (by kernel_rfl) Tryz.func252 rfl rfl ?_
 repeat'(first|exact y0|refine y1 ?_|refine y2 ?_ ?_|(refine y8 ?_ ?_<;>intro h<;>try exact y6)|refine Fin.bool (.inl rfl) rfl ?_|refine y3 ?_|refine y7 ?_ ?_|refine y4 ?_|(refine y9 ?_ ?_<;>intro h)|exact y5|fail)
 all_goals simp[cQ, *]
theorem zY (op:Int):FC Tryz.prog 251 [nI op] 0 [] (bV (fu op)) 0 []:=by
 refine FC.walk (by kernel_rfl) Tryz.func251 rfl rfl ?_
 repeat'(first|exact y0|refine y1 ?_|refine y2 ?_ ?_|(refine y8 ?_ ?_<;>intro h<;>try exact y6)|(refine wC ?_;first|refine wF 252 (bo (qQ _) ?_))|refine Fin.bool (.inl rfl) rfl ?_|refine y3 ?_|refine y7 ?_ ?_|refine y4 ?_|(refine y9 ?_ ?_<;>intro h)|exact y5|fail)
 all_goals simp[fu, *]
 all_goals try omega
theorem Eu (k op:Int):FC Tryz.prog 222 [n8 k,nI op] 0 [] (bV (dI k op)) 0 []:=by
 refine FC.walk (by kernel_rfl) Tryz.func222 rfl rfl ?_
 repeat'(first|exact y0|refine y1 ?_|refine y2 ?_ ?_|(refine y8 ?_ ?_<;>intro h<;>try exact y6)|(refine wC ?_;first|refine wF 252 (bo (qQ _) ?_)|refine wF 251 (bo (zY _) ?_)|refine wF 253 (bo (zZ _) ?_))|refine Fin.bool (.inl rfl) rfl ?_|refine y3 ?_|refine y7 ?_ ?_|refine y4 ?_|(refine y9 ?_ ?_<;>intro h)|exact y5|fail)
 all_goals simp[dI, *]
set_option maxRecDepth 100000
set_option maxHeartbeats 4000000
def sF (i:Nat) (z:Int):Bool:=decide (65<=z/\z<=90\/z=95\/48<=z/\z<=57/\0<i)
def iA (i:Nat) (c:UInt8):Bool:=sF i (c.toNat:Int)
theorem EM {i:Nat} {z:Int} (h:65<=z/\z<=90\/z=95\/48<=z/\z<=57/\0<i):sF i z=true:=decide_eq_true h
theorem EN {i:Nat} {z:Int} (h: ¬(65<=z/\z<=90)) (h': ¬z=95) (h'': ¬(48<=z/\z<=57/\0<i)):sF i z=false:=decide_eq_false fun e=>e.elim h fun e=>e.elim h' h''
def aG (s:By):Bool:=decide (1<=s.length)&&decide (s.length<=4)&&(List.range s.length).all fun i=>iA i (s.getD i 0)
theorem zX {s:By} {i:Nat} (h:i<s.length) (hc:iA i (s.getD i 0)=false):aG s=false:=by
 unfold aG
 have:(List.range s.length).all (fun i=>iA i (s.getD i 0))=false:=by
  rw[List.all_eq_false];exact⟨i,by simpa using h,by simpa using hc⟩
 rw[this,Bool.and_false]
theorem wz {s:By} (h1:1<=s.length) (h2:s.length<=4) (h:∀ i,i<s.length->iA i (s.getD i 0)=true):aG s=true:=by
 unfold aG;simp only[Bool.and_eq_true,decide_eq_true_eq,List.all_eq_true,List.mem_range];exact⟨⟨h1,h2⟩,h⟩
theorem kG {p:Nat->Prop} {j:Nat} (h:∀ i,i<j->p i) (hj:p j):∀ i,i<j+1->p i:=fun i hi=>by
 rcases Nat.lt_or_eq_of_le (Nat.le_of_lt_succ hi) with h'|rfl
 ·exact h i h'
 ·exact hj
theorem CV (s:By):FC Tryz.prog 157 [sV s] 0 [] (bV (aG s)) 0 []:=by
 refine FC.walk (by kernel_rfl) Tryz.func157 rfl rfl ?_
 repeat'(first|exact y0|refine y1 ?_|refine y2 ?_ ?_|(refine y8 ?_ ?_<;>intro h<;>try exact y6)|refine Fin.bool (.inl rfl) rfl ?_|refine y3 ?_|refine y7 ?_ ?_|refine y4 ?_|(refine y9 ?_ ?_<;>intro h)|exact y5|fail)
 ·unfold aG;rw[decide_eq_false (by omega)];rfl
 ·unfold aG;rw[decide_eq_false (p:=s.length<=4) (by omega)];simp
 ·refine Ex.inv (σ:=Nat) (fun j=>[(16,nI j)]) (fun _=>[]) (fun j=>j<=s.length/\∀ i,i<j->iA i (s.getD i 0)=true) (fun j=>s.length-j) 0 rfl (fun _=>rfl) ⟨Nat.zero_le _,fun i hi=>by omega⟩ ⟨VLe.refl _,trivial⟩ trivial ?_
  rintro j ⟨hj,hall⟩
  repeat'(first|exact y0|refine y1 ?_|refine y2 ?_ ?_|(refine y8 ?_ ?_<;>intro h<;>try exact y6)|refine Fin.bool (.inl rfl) rfl ?_|refine LoopR.same (j+1) ⟨?_,?_⟩ ?_ rfl ⟨VLe.refl _,trivial⟩ trivial rfl rfl (Nat.le_refl _)|refine y3 ?_|refine y7 ?_ ?_|refine y4 ?_|(refine y9 ?_ ?_<;>intro h)|exact y5|fail)
  all_goals first
   |rfl
   |omega
   |exact aa (by omega) (by omega)
   |exact (zX (i:=j) (by omega) (EN (by omega) (by omega) (by omega))).symm
   |(refine (wz (by omega) (by omega) fun i hi=>hall i (by omega)).symm)
   |exact kG hall (EM (by omega))
structure Pth where
 root:Bool
 up:Int
 segs:List By
def aJ (l:List By):S:=.frz (fun k=>[.str (l.getD k [])]) 1 l.length
def ptC (p:Pth):List S:=[.bool p.root,.int .i64 p.up,aJ p.segs]
abbrev ptV (p:Pth):V:=.agg (ptC p)
def aC (p:Pth):Bool:=decide (0<=p.up)&& !(p.root&&decide (p.up≠0))&&decide (p.up<=32)&&decide ((p.segs.length:Int)<=32-p.up)&&p.segs.all aG&&(p.root||decide (0<p.up)||decide (0<p.segs.length))
theorem Br {l:List By} {j:Nat} (h:j<l.length) (hc:aG (l.getD j [])=false):l.all aG=false:=by
 rw[List.all_eq_false];exact⟨l[j],List.getElem_mem h,by simpa [List.getD_eq_getElem?_getD,h] using hc⟩
theorem vy {l:List By} (h:∀ i,i<l.length->aG (l.getD i [])=true):l.all aG=true:=by
 rw[List.all_eq_true];intro x hx;obtain⟨i,hi,rfl⟩:=List.mem_iff_getElem.1 hx;have:=h i hi
 rwa [List.getD_eq_getElem?_getD,List.getElem?_eq_getElem hi] at this
theorem dh (root:Bool) (up:Int) (segs:List By):FC Tryz.prog 93 [.agg [.bool root,.int .i64 up,aJ segs]] 0 [] (bV (aC ⟨root,up,segs⟩)) 0 []:=by
 refine FC.walk (by kernel_rfl) Tryz.func93 rfl rfl ?_;cases root
 all_goals
  repeat'(first|exact y0|refine y1 ?_|refine y2 ?_ ?_|(refine y8 ?_ ?_<;>intro h<;>try exact y6)|refine Fin.bool (.inl rfl) rfl ?_|refine y3 ?_|refine y7 ?_ ?_|refine y4 ?_|(refine y9 ?_ ?_<;>intro h)|exact y5|fail)
  rotate_right
  ·refine Ex.inv (σ:=Nat) (fun j=>[(32,nI j)]) (fun _=>[(0,some {cells:=[.bool _,.int .i64 up,aJ segs],ty:=99})]) (fun j=>j<=segs.length/\∀ i,i<j->aG (segs.getD i [])=true) (fun j=>segs.length-j) 0 rfl (fun _=>rfl) ⟨Nat.zero_le _,fun i hi=>by omega⟩ ⟨VLe.refl _,trivial⟩ ⟨rfl,trivial⟩ ?_
   rintro j ⟨hj,hall⟩
   repeat'(first|exact y0|refine y1 ?_|refine y2 ?_ ?_|(refine y8 ?_ ?_<;>intro h<;>try exact y6)|(refine wC ?_;first|refine wF 157 (bo (CV _) ?_))|refine Fin.bool (.inl rfl) rfl ?_|refine LoopR.same (j+1) ⟨?_,?_⟩ ?_ rfl ⟨VLe.refl _,trivial⟩ ⟨rfl,trivial⟩ rfl rfl (by decide)|refine y3 ?_|refine y7 ?_ ?_|refine y4 ?_|(refine y9 ?_ ?_<;>intro h)|exact y5|fail)
   all_goals first
    |omega
    |exact aa (by omega) (by omega)
    |exact kG hall (by assumption)
    |(have:=Br (l:=segs) (j:=j) (by omega) ‹aG _=false›;unfold aC;rw[this];simp)
    |(have:=vy (l:=segs) fun i hi=>hall i (by omega)
      unfold aC;rw[this];simp;first|done|omega|exact fun _ _ _=>⟨by omega,List.length_eq_zero_iff.1 (by omega)⟩)
  all_goals first
   |exact aa (by omega) (by omega)
   |(unfold aC;simp;omega)
def fM (p:Pth):Bool:=p.root&&aC p
theorem tP (root:Bool) (up:Int) (segs:List By):FC Tryz.prog 94 [.agg [.bool root,.int .i64 up,aJ segs]] 0 [] (bV (fM ⟨root,up,segs⟩)) 0 []:=by
 refine FC.walk (by kernel_rfl) Tryz.func94 rfl rfl ?_;cases root
 all_goals
  repeat'(first|exact y0|refine y1 ?_|refine y2 ?_ ?_|(refine y8 ?_ ?_<;>intro h<;>try exact y6)|(refine wC ?_;first|refine wF 93 (bo (dh _ _ _) ?_))|refine Fin.bool (.inl rfl) rfl ?_|refine y3 ?_|refine y7 ?_ ?_|refine y4 ?_|(refine y9 ?_ ?_<;>intro h)|exact y5|fail)
 all_goals simp[fM, *]
def vL (p:Pth):Bool:= !p.root&&decide (p.up=0)&&decide ((p.segs.length:Int)=1)
theorem EK (root:Bool) (up:Int) (segs:List By):FC Tryz.prog 254 [.agg [.bool root,.int .i64 up,aJ segs]] 0 [] (bV (vL ⟨root,up,segs⟩)) 0 []:=by
 refine FC.walk (by kernel_rfl) Tryz.func254 rfl rfl ?_;cases root
 all_goals
  repeat'(first|exact y0|refine y1 ?_|refine y2 ?_ ?_|(refine y8 ?_ ?_<;>intro h<;>try exact y6)|refine Fin.bool (.inl rfl) rfl ?_|refine y3 ?_|refine y7 ?_ ?_|refine y4 ?_|(refine y9 ?_ ?_<;>intro h)|exact y5|fail)
 all_goals simp[vL, *]
 all_goals try omega
def bT (s p:By):Bool:=decide (p.length<=s.length)&&decide (s.take p.length=p)
theorem m5 (s p:By):FC Tryz.prog 152 [sV s,sV p] 0 [] (bV (bT s p)) 0 []:=by
 refine FC.walk (by kernel_rfl) Tryz.func152 rfl rfl ?_
 repeat'(first|exact y0|refine y1 ?_|refine y2 ?_ ?_|(refine y8 ?_ ?_<;>intro h<;>try exact y6)|refine Fin.bool (.inl rfl) rfl ?_|refine y3 ?_|refine y7 ?_ ?_|refine y4 ?_|(refine y9 ?_ ?_<;>intro h)|exact y5|fail)
 all_goals first
  |omega
  |(unfold bT;simp[*];done)
  |(unfold bT;simp[*];omega)
theorem re (s p:By):FC Tryz.prog 90 [sV s,sV p] 0 [] (bV (bT s p)) 0 []:=by
 refine FC.walk (by kernel_rfl) Tryz.func90 rfl rfl ?_
 repeat'(first|exact y0|refine y1 ?_|refine y2 ?_ ?_|(refine y8 ?_ ?_<;>intro h<;>try exact y6)|(refine wC ?_;first|refine wF 152 (pu (m5 _ _) ?_))|refine Fin.bool (.inl rfl) rfl ?_|refine y3 ?_|refine y7 ?_ ?_|refine y4 ?_|(refine y9 ?_ ?_<;>intro h)|exact y5|fail)
 all_goals rfl
def bZ (s p:By):By×Bool:=if bT s p then (s.drop p.length,true) else (s,false)
theorem wV (s p:By):FC Tryz.prog 151 [sV s,sV p] 0 [] (.tup [.s (.str (bZ s p).1),.s (.bool (bZ s p).2)]) 0 []:=by
 refine FC.walk (by kernel_rfl) Tryz.func151 rfl rfl ?_
 repeat'(first|exact y0|refine y1 ?_|refine y2 ?_ ?_|(refine y8 ?_ ?_<;>intro h<;>try exact y6)|(refine wC ?_;first|refine wF 152 (bo (m5 _ _) ?_))|refine Fin.plain (.inl rfl) rfl ?_ rfl|refine y3 ?_|refine y7 ?_ ?_|refine y4 ?_|(refine y9 ?_ ?_<;>intro h)|exact y5|fail)
 all_goals first
  |(unfold bZ;simp[*];done)
  |(unfold bT at*;simp at*;done)
  |(unfold bT at*;simp at*;omega)
theorem AS (s p:By):FC Tryz.prog 89 [sV s,sV p] 0 [] (.tup [.s (.str (bZ s p).1),.s (.bool (bZ s p).2)]) 0 []:=by
 refine FC.walk (by kernel_rfl) Tryz.func89 rfl rfl ?_
 repeat'(first|exact y0|refine y1 ?_|refine y2 ?_ ?_|(refine y8 ?_ ?_<;>intro h<;>try exact y6)|(refine wC ?_;first|refine wF 151 (pu (wV _ _) ?_))|refine Fin.plain (.inl rfl) rfl ?_ rfl|refine y3 ?_|refine y7 ?_ ?_|refine y4 ?_|(refine y9 ?_ ?_<;>intro h)|exact y5|fail)
 all_goals rfl
set_option maxRecDepth 100000
set_option maxHeartbeats 4000000
theorem ud (c:UInt8):((c.toNat:Int)).toNat.toUInt8=c:=by simp
theorem mI (s:By) (c:UInt8):XT Tryz.prog 154 [sV s,n8 (c.toNat:Int)] (nI ((s.count c:Nat):Int)):=by
 intro φ xs w hx
 match xs,hx with
 |[x,y],⟨h1,h2,_⟩=>
  have h1:x=.string ⟨s.toArray⟩:=h1;have h2:y=.int .u8 (c.toNat:Int):=h2;subst h1;subst h2;refine⟨.int .i64 ((s.count c:Nat):Int),?_,rfl⟩;rw[run_callFunc_extern (e:=Extern.BytealgCount.count) Tryz.func154 (by kernel_rfl) rfl (by rfl) (by rfl)];rw[show [Value.string ⟨s.toArray⟩,Value.int IntKind.u8 (c.toNat:Int)].toArray= #[.string ⟨s.toArray⟩,.int .u8 (c.toNat:Int)] from rfl,Go.Lib.run_countString,ud];rfl
theorem qV (s:By) (c:UInt8):XT Tryz.prog 261 [sV s,n8 (c.toNat:Int)] (nI (Go.Lib.indexByte s c)):=by
 intro φ xs w hx
 match xs,hx with
 |[x,y],⟨h1,h2,_⟩=>
  have h1:x=.string ⟨s.toArray⟩:=h1;have h2:y=.int .u8 (c.toNat:Int):=h2;subst h1;subst h2;refine⟨.int .i64 (Go.Lib.indexByte s c),?_,rfl⟩;rw[run_callFunc_extern (e:=Extern.BytealgIndexByte.indexByte) Tryz.func261 (by kernel_rfl) rfl (by rfl) (by rfl)];rw[show [Value.string ⟨s.toArray⟩,Value.int IntKind.u8 (c.toNat:Int)].toArray= #[.string ⟨s.toArray⟩,.int .u8 (c.toNat:Int)] from rfl,Go.Lib.run_indexByteString,ud];rfl
theorem pv (s:By) (c:UInt8):FC Tryz.prog 91 [sV s,sV [c]] 0 [] (nI ((s.count c:Nat):Int)) 0 []:=by
 refine FC.walk (by kernel_rfl) Tryz.func91 rfl rfl ?_
 repeat'(first|exact y0|refine y1 ?_|refine y2 ?_ ?_|(refine y8 ?_ ?_<;>intro h<;>try exact y6)|(refine wC ?_;first|refine CallG.xt (mI _ _) rfl rfl ?_)|refine Fin.int (.inl rfl) rfl ?_|refine y3 ?_|refine y7 ?_ ?_|refine y4 ?_|(refine y9 ?_ ?_<;>intro h)|exact y5|fail)
 all_goals first
  |rfl
  |(simp at*;done)
theorem qW (s:By) (c:UInt8):FC Tryz.prog 244 [sV s,n8 (c.toNat:Int)] 0 [] (nI (Go.Lib.indexByte s c)) 0 []:=by
 refine FC.walk (by kernel_rfl) Tryz.func244 rfl rfl ?_
 repeat'(first|exact y0|refine y1 ?_|refine y2 ?_ ?_|(refine y8 ?_ ?_<;>intro h<;>try exact y6)|(refine wC ?_;first|refine CallG.xt (qV _ _) rfl rfl ?_)|refine Fin.int (.inl rfl) rfl ?_|refine y3 ?_|refine y7 ?_ ?_|refine y4 ?_|(refine y9 ?_ ?_<;>intro h)|exact y5|fail)
 all_goals rfl
theorem Ac (s:By) (c:UInt8):FC Tryz.prog 211 [sV s,sV [c]] 0 [] (nI (Go.Lib.indexByte s c)) 0 []:=by
 refine FC.walk (by kernel_rfl) Tryz.func211 rfl rfl ?_
 repeat'(first|exact y0|refine y1 ?_|refine y2 ?_ ?_|(refine y8 ?_ ?_<;>intro h<;>try(first|exact absurd rfl h|exact y6))|(refine wC ?_;first|refine wF 244 (pu (qW _ _) ?_))|refine Fin.int (.inl rfl) rfl ?_|refine y3 ?_|refine y7 ?_ ?_|refine y4 ?_|(refine y9 ?_ ?_<;>intro h)|exact y5|fail)
 all_goals first
  |rfl
  |(exfalso;simp at*;done)
  |(subst_vars;simp[Go.Lib.indexByte];done)
  |(simp;done)
theorem CZ (s:By) (c:UInt8):FC Tryz.prog 155 [sV s,sV [c]] 0 [] (nI (Go.Lib.indexByte s c)) 0 []:=by
 refine FC.walk (by kernel_rfl) Tryz.func155 rfl rfl ?_
 repeat'(first|exact y0|refine y1 ?_|refine y2 ?_ ?_|(refine y8 ?_ ?_<;>intro h<;>try exact y6)|(refine wC ?_;first|refine wF 211 (pu (Ac _ _) ?_))|refine Fin.int (.inl rfl) rfl ?_|refine y3 ?_|refine y7 ?_ ?_|refine y4 ?_|(refine y9 ?_ ?_<;>intro h)|exact y5|fail)
 all_goals rfl
def aw (c:UInt8):By->List By
 |[]=>[[]]
 |b::l=>if b=c then []::aw c l else match aw c l with|h::t=>(b::h)::t|[]=>[[b]]
theorem fh (c:UInt8):∀ s:By,(aw c s).length=s.count c+1
 |[]=>rfl
 |b::l=>by
  have ih:=fh c l;by_cases h:b=c
  ·simp only[aw,if_pos h,List.length_cons,ih];rw[h,List.count_cons_self]
  ·simp only[aw,if_neg h]
   rw[List.count_cons_of_ne h]
   cases e:aw c l with
   |nil=>rw[e] at ih;simp at ih
   |cons x t=>rw[e] at ih;simpa using ih
theorem jl (c:UInt8):∀ s:By,Go.Lib.indexByte s c= -1->aw c s=[s]
 |[],_=>rfl
 |b::l,h=>by
  unfold Go.Lib.indexByte at h;split at h
  ·cases h
  ·rename_i hb
   have hb: ¬b=c:=by simpa using hb
   have h1:=Go.Lib.indexByte_ge l c;split at h
   ·rename_i he
    have he:Go.Lib.indexByte l c= -1:=by simpa using he
    simp only[aw,if_neg hb,jl c l he]
   ·rename_i he
    have he: ¬Go.Lib.indexByte l c= -1:=by simpa using he
    omega
theorem mQ (c:UInt8):∀ (s:By) (k:Nat),Go.Lib.indexByte s c=(k:Int)->k<s.length/\aw c s=s.take k::aw c (s.drop (k+1))/\s.count c=(s.drop (k+1)).count c+1
 |[],k,h=>by unfold Go.Lib.indexByte at h;omega
 |b::l,k,h=>by
  unfold Go.Lib.indexByte at h;split at h
  ·rename_i hb
   have hb:b=c:=by simpa using hb
   obtain rfl:k=0:=by omega
   subst hb;simp[aw]
  ·rename_i hb
   have hb: ¬b=c:=by simpa using hb
   split at h
   ·exfalso;omega
   ·have h1:=Go.Lib.indexByte_ge l c
    cases k with
    |zero=>
     rename_i he
     have he: ¬Go.Lib.indexByte l c= -1:=by simpa using he
     omega
    |succ k=>
     obtain⟨i1,i2,i3⟩:=mQ c l k (by omega);refine⟨by simp;omega,?_,?_⟩
     ·simp only[aw,if_neg hb,i2,List.take_succ_cons,List.drop_succ_cons]
     ·rw[List.count_cons_of_ne hb,i3];simp
theorem gm (c:UInt8):∀ s:By,s.count c=0->Go.Lib.indexByte s c= -1
 |[],_=>rfl
 |b::l,h=>by
  have hb: ¬b=c:=fun e=>by rw[e,List.count_cons_self] at h;omega
  rw[List.count_cons_of_ne hb] at h;unfold Go.Lib.indexByte;rw[if_neg (by simpa using hb),gm c l h];rfl
theorem AU (c:UInt8) (s:By):s.count c<=s.length:=List.count_le_length
def mD (n:Nat) (done:List By):List S:=done.map S.str++List.replicate (n-done.length) (.str [])
theorem qa {n:Nat} {done:List By} (h:done.length<=n):(mD n done).length=n:=by simp[mD];omega
theorem p_ {n:Nat} {done:List By} (x:By) (h:done.length<n):aU (mD n done) done.length [.str x]=mD n (done++[x]):=by
 simp only[aU,mD];rw[List.set_append_right _ _ (by simp)];simp only[List.length_map,Nat.sub_self,List.map_append,List.map_cons,List.map_nil,List.append_assoc,List.length_append,List.length_singleton];rw[show n-done.length=(n-(done.length+1))+1 by omega,List.replicate_succ,List.set_cons_zero];rfl
theorem x6 {n:Nat} {l:List By} {k j:Nat} {x:S} (hk:k<l.length) (h:([S.str (l.getD k [])])[j]? =some x):(mD n l)[k*1+j]? =some x/\aY x=true:=by
 cases j with
 |succ j=>simp at h
 |zero=>
  simp only[List.getElem?_cons_zero,Option.some.injEq] at h;subst h;refine⟨?_,rfl⟩;simp only[mD,Nat.mul_one,Nat.add_zero];rw[List.getElem?_append_left (by simpa using hk)];simp[List.getD_eq_getElem?_getD,hk]
theorem tc (s:By) (c:UInt8) (hl:s.length<9223372036854775807) (hc:s.count c<1000000):FC Tryz.prog 156 [sV s,sV [c],nI 0,nI (-1)] 0 [] (.s (aJ (aw c s))) 0 []:=by
 have hcl:=AU c s;generalize hn:s.count c=n at*;refine FC.walk (by kernel_rfl) Tryz.func156 rfl rfl ?_;have hcc:=pv s c;rw[hn] at hcc
 repeat'(first|exact y0|refine y1 ?_|refine y2 ?_ ?_|(refine y8 ?_ ?_<;>intro h<;>try exact y6)|(refine wC ?_;first|refine wF 91 (pu hcc ?_))|refine y3 ?_|refine y7 ?_ ?_|refine y4 ?_|(refine y9 ?_ ?_<;>intro h)|exact y5|fail)
 refine RegX.opA [.num ((n:Int)+1)] rfl rfl ⟨trivial,?_⟩ ?_
 ·show (if ((s.length:Int)+1)<(n:Int)+1 then (s.length:Int)+1 else (n:Int)+1)=_
  rw[if_neg (by omega)]
 repeat'(first|exact y0|refine y1 ?_|refine y2 ?_ ?_|(refine y8 ?_ ?_<;>intro h<;>try exact y6)|refine y3 ?_|refine y7 ?_ ?_|refine y4 ?_|(refine y9 ?_ ?_<;>intro h)|exact y5|fail)
 refine RegX.opA [.idx (n+1),.idx (n+1)] rfl rfl ⟨rfl,rfl,Nat.le_refl _,?_,by omega⟩ ?_
 ·rw[show (Tryz.prog.types[9]).bytes=16 by kernel_rfl];omega
 repeat'(first|exact y0|refine y1 ?_|refine y2 ?_ ?_|(refine y8 ?_ ?_<;>intro h<;>try exact y6)|refine y3 ?_|refine y7 ?_ ?_|refine y4 ?_|(refine y9 ?_ ?_<;>intro h)|exact y5|fail)
 refine Ex.inv (σ:=List By×By) (fun x=>[(0,sV x.2),(10,nI x.1.length)]) (fun x=>[(0,some {cells:=mD (n+1) x.1,ty:=9,sym:=true,flat:=true})]) (fun x=>aw c s=x.1++aw c x.2/\x.1.length+x.2.count c=n/\x.2.length<=s.length) (fun x=>n-x.1.length) ([],s) rfl (fun _=>rfl) ⟨rfl,by simpa using hn,Nat.le_refl _⟩ ⟨VLe.refl _,VLe.refl _,trivial⟩ ⟨rfl,trivial⟩ ?_;rintro⟨done,rem⟩ ⟨h1,h2,h3⟩;simp only at h1 h2 h3 |-;by_cases hlt:done.length<n
 ·obtain⟨k,hk⟩:∃ k:Nat,Go.Lib.indexByte rem c=(k:Int):=by
   have hge:=Go.Lib.indexByte_ge rem c
   have:Go.Lib.indexByte rem c≠ -1:=fun e=>by
    have:=fh c rem;rw[jl c rem e] at this;simp at this;omega
   exact⟨(Go.Lib.indexByte rem c).toNat,by omega⟩
  obtain⟨k1,k2,k3⟩:=mQ c rem k hk;have hidx:=CZ rem c;rw[hk] at hidx
  repeat'(first|exact y0|refine y1 ?_|refine y2 ?_ ?_|(refine y8 ?_ ?_<;>intro h<;>try exact y6)|(refine wC ?_;first|refine wF 155 (pu hidx ?_))|refine y3 ?_|refine y7 ?_ ?_|refine y4 ?_|(refine y9 ?_ ?_<;>intro h)|exact y5|fail)
  refine RegX.opA [.cells (mD (n+1) (done++[rem.take k]))] rfl rfl ⟨?_,?_⟩ ?_
  ·rw[qa (by omega)];show done.length+1<=n+1;omega
  ·exact (p_ _ (by omega)).symm
  repeat'(first|exact y0|refine y1 ?_|refine y2 ?_ ?_|(refine y8 ?_ ?_<;>intro h<;>try exact y6)|refine y3 ?_|refine y7 ?_ ?_|refine y4 ?_|(refine y9 ?_ ?_<;>intro h)|exact y5|fail)
  ·
   refine aa ?_ ?_
   ·simp;omega
   ·simp;omega
  ·simp;omega
  ·refine LoopR.same (done++[rem.take k],rem.drop (k+1)) ⟨?_,?_,?_⟩ ?_ rfl ⟨VLe.refl _,VLe.of_eq ?_,trivial⟩ ⟨rfl,trivial⟩ rfl rfl (by decide)
   ·simp only[h1,k2,List.append_assoc,List.singleton_append]
   ·simp only[List.length_append,List.length_singleton];omega
   ·simp only[List.length_drop];omega
   ·simp only[List.length_append,List.length_singleton];omega
   ·simp only[List.length_append,List.length_singleton];rfl
 ·
  have hdn:done.length=n:=by omega
  have hno:Go.Lib.indexByte rem c= -1:=gm c rem (by omega)
  have hfin:aw c s=done++[rem]:=by rw[h1,jl c rem hno]
  repeat'(first|exact y0|refine y1 ?_|refine y2 ?_ ?_|(refine y8 ?_ ?_<;>intro h<;>try exact y6)|refine y3 ?_|refine y7 ?_ ?_|refine y4 ?_|(refine y9 ?_ ?_<;>intro h)|exact y5|fail)
  refine RegX.opA [.cells (mD (n+1) (done++[rem]))] rfl rfl ⟨?_,?_⟩ ?_
  ·rw[qa (by omega)];show done.length+1<=n+1;omega
  ·exact (p_ _ (by omega)).symm
  repeat'(first|exact y0|refine y1 ?_|refine y2 ?_ ?_|(refine y8 ?_ ?_<;>intro h<;>try exact y6)|refine y3 ?_|refine y7 ?_ ?_|refine y4 ?_|(refine y9 ?_ ?_<;>intro h)|exact y5|fail)
  refine RegX.opA [.idx (done.length+1)] rfl rfl ⟨⟨rfl,?_⟩,trivial⟩ ?_
  ·show done.length+1<=n+1;omega
  repeat'(first|exact y0|refine y1 ?_|refine y2 ?_ ?_|(refine y8 ?_ ?_<;>intro h<;>try exact y6)|refine Ex.fz 8 (fun k=>[.str ((aw c s).getD k [])]) 1 rfl rfl rfl rfl (fun _ _=>rfl) ?_ rfl rfl ?_|refine Fin.le (.inl rfl) rfl ?_ rfl|refine y3 ?_|refine y7 ?_ ?_|refine y4 ?_|(refine y9 ?_ ?_<;>intro h)|exact y5|fail)
  ·intro k j x hk hx
   rw[hfin] at hx;exact x6 (by simp only[List.length_append,List.length_singleton];exact hk) hx
  ·have:(aw c s).length=done.length+1:=by rw[hfin];simp
   unfold aJ;rw[this];exact VLe.refl _
theorem uk (s:By) (c:UInt8) (hl:s.length<9223372036854775807) (hc:s.count c<1000000):FC Tryz.prog 92 [sV s,sV [c]] 0 [] (.s (aJ (aw c s))) 0 []:=by
 refine FC.walk (by kernel_rfl) Tryz.func92 rfl rfl ?_
 repeat'(first|exact y0|refine y1 ?_|refine y2 ?_ ?_|(refine y8 ?_ ?_<;>intro h<;>try exact y6)|(refine wC ?_;first|refine wF 156 (pu (tc s c hl hc) ?_))|refine Fin.plain (.inl rfl) rfl ?_ rfl|refine y3 ?_|refine y7 ?_ ?_|refine y4 ?_|(refine y9 ?_ ?_<;>intro h)|exact y5|fail)
 all_goals rfl
set_option maxRecDepth 100000
set_option maxHeartbeats 4000000
def bJ:By->Nat×By
 |[]=>(0,[])
 |b::l=>if b=94 then ((bJ l).1+1,(bJ l).2) else (0,b::l)
theorem pL:∀ s:By,(bJ s).1<=s.length/\(bJ s).2.length<=s.length
 |[]=>by simp[bJ]
 |b::l=>by
  have:=pL l;unfold bJ;split
  ·simp;omega
  ·simp
theorem wA {s:By} (h:bT s [94]=true):∃ l,s=94::l:=by
 cases s with
 |nil=>simp[bT] at h
 |cons b l=>simp[bT] at h;exact⟨l,by rw[h]⟩
theorem BU {s:By} (h: ¬bT s [94]=true):bJ s=(0,s):=by
 cases s with
 |nil=>rfl
 |cons b l=>
  unfold bJ;rw[if_neg];intro e;subst e;exact h (by simp[bT])
def z0:Pth:=⟨false,0,[]⟩
def e8 (p:Pth):Pth×Bool:=if aC p then (p,true) else (z0,false)
def er (root:Bool) (u:Nat) (rest:By):Pth×Bool:=
 if rest=[] then e8 ⟨root,u,[]⟩ else if 32<=rest.count 46 then (z0,false) else e8 ⟨root,u,aw 46 rest⟩
def aq (s:By):Pth×Bool:=
 if (bZ s [92]).2 then er true 0 (bZ s [92]).1 else er false (bJ (bZ s [92]).1).1 (bJ (bZ s [92]).1).2
theorem tF (s p:By):(bZ s p).1.length<=s.length:=by
 unfold bZ;split<;>simp
abbrev psV (x:Pth×Bool):V:=.tup [.agg (ptC x.1),.s (.bool x.2)]
theorem js {root:Bool} {up:Int} {segs:List By} {ok:Bool} {x:Pth×Bool} (e:x=(⟨root,up,segs⟩,ok)):VLe (.tup [.agg [.bool root,.int .i64 up,aJ segs],.s (.bool ok)]) (psV x):=e▸VLe.refl _
theorem fH {x:Pth×Bool} (e:x=(z0,false)):VLe (.tup [.agg [.bool false,.int .i64 0,.slc none 0 (some 0)],.s (.bool false)]) (psV x):=
 e▸VLe.tup ⟨ULe.agg ⟨SLe.refl _,SLe.refl _,SLe.nil,trivial⟩,ULe.s (SLe.refl _),trivial⟩
theorem DX {root:Bool} {up:Int} {x:Pth×Bool} {ok:Bool} (e:x=(⟨root,up,[]⟩,ok)):VLe (.tup [.agg [.bool root,.int .i64 up,.slc none 0 (some 0)],.s (.bool ok)]) (psV x):=
 e▸VLe.tup ⟨ULe.agg ⟨SLe.refl _,SLe.refl _,SLe.nil,trivial⟩,ULe.s (SLe.refl _),trivial⟩
theorem dY (s:By) (hl:s.length<9223372036854775807):FC Tryz.prog 48 [sV s] 0 [] (psV (aq s)) 0 []:=by
 have hcp:=AS s [92];have hcl:=tF s [92];unfold aq;generalize bZ s [92]=c at*;obtain⟨r0,rooted⟩:=c;simp only at hcp hcl |-;refine FC.walk (by kernel_rfl) Tryz.func48 rfl rfl ?_;cases rooted
 ·
  repeat'(first|exact y0|refine y1 ?_|refine y2 ?_ ?_|(refine y8 ?_ ?_<;>intro h<;>try exact y6)|(refine wC ?_;first|refine wF 89 (pu hcp ?_))|refine y3 ?_|refine y7 ?_ ?_|refine y4 ?_|(refine y9 ?_ ?_<;>intro h)|exact y5|fail)
  refine Ex.inv (σ:=Nat×By) (fun x=>[(5,sV x.2)]) (fun x=>[(0,some {cells:=[.bool false,.int .i64 0,.slc none 0 (some 0)],ty:=99}),(1,some {cells:=[.bool false,.int .i64 (x.1:Int),.slc none 0 (some 0)],ty:=99})])
   (fun x=>x.1+x.2.length<=s.length/\(bJ r0).1=x.1+(bJ x.2).1/\(bJ r0).2=(bJ x.2).2) (fun x=>x.2.length) (0,r0) rfl (fun _=>rfl) ⟨by simpa using hcl,by simp,rfl⟩ ⟨VLe.refl _,trivial⟩ ⟨rfl,rfl,trivial⟩ ?_
  rintro⟨u,rest⟩ ⟨h1,h2,h3⟩;simp only at h1 h2 h3 |-;by_cases hp:bT rest [94]=true
  ·obtain⟨l,rfl⟩:=wA hp
   simp only[List.length_cons] at h1
   have hu:bJ (94::l)=((bJ l).1+1,(bJ l).2):=by simp[bJ]
   rw[hu] at h2 h3;have hpre:=re (94::l) [94];rw[hp] at hpre
   repeat'(first|exact y0|refine y1 ?_|refine y2 ?_ ?_|(refine y8 ?_ ?_<;>intro h<;>try exact y6)|(refine wC ?_;first|refine wF 90 (bo hpre ?_))|refine y3 ?_|refine y7 ?_ ?_|refine y4 ?_|(refine y9 ?_ ?_<;>intro h)|exact y5|fail)
   ·simp
   ·refine LoopR.same (u+1,l) ⟨?_,?_,?_⟩ ?_ rfl ⟨VLe.refl _,trivial⟩ ⟨rfl,rfl,trivial⟩ rfl rfl (by decide)
    ·simp only;omega
    ·simp only;omega
    ·simp only[h3]
    ·simp only[List.length_cons];omega
  ·have hup:=BU hp
   rw[hup] at h2 h3
   have hpf:bT rest [94]=false:=by simpa using hp
   have hpre:=re rest [94];rw[hpf] at hpre;rw[h2,h3];simp only[Nat.add_zero]
   repeat'(first|exact y0|refine y1 ?_|refine y2 ?_ ?_|(refine y8 ?_ ?_<;>intro h<;>try exact y6)|(refine wC ?_;first|refine wF 90 (bo hpre ?_)|refine wF 91 (pu (pv _ _) ?_)|(refine wF 92 ?_;refine CallG.pu (uk _ _ (by omega) (by omega)) rfl rfl rfl rfl ?_)|refine wF 93 (bo (dh _ _ _) ?_)|refine CallG.wb (dh false u []) rfl ?_ rfl rfl ?_)|exact⟨VLe.agg ⟨SLe.refl _,SLe.refl _,SLe.nil,trivial⟩,trivial⟩|refine Fin.le (.inl rfl) rfl ?_ rfl|refine y3 ?_|refine y7 ?_ ?_|refine y4 ?_|(refine y9 ?_ ?_<;>intro h)|exact y5|fail)
   all_goals first
    |exact fH (by unfold er e8;simp_all<;>omega)
    |exact js (by unfold er e8;simp_all<;>omega)
    |exact DX (by unfold er e8;simp_all<;>omega)
 ·
  have hu:bJ r0=bJ r0:=rfl
  repeat'(first|exact y0|refine y1 ?_|refine y2 ?_ ?_|(refine y8 ?_ ?_<;>intro h<;>try exact y6)|(refine wC ?_;first|refine wF 89 (pu hcp ?_))|refine y3 ?_|refine y7 ?_ ?_|refine y4 ?_|(refine y9 ?_ ?_<;>intro h)|exact y5|fail)
  refine Ex.inv (σ:=Unit) (fun x=>[(5,sV r0)]) (fun x=>[(0,some {cells:=[.bool false,.int .i64 0,.slc none 0 (some 0)],ty:=99}),(1,some {cells:=[.bool true,.int .i64 0,.slc none 0 (some 0)],ty:=99})])
   (fun x=>True) (fun x=>0) () rfl (fun _=>rfl) trivial ⟨VLe.refl _,trivial⟩ ⟨rfl,rfl,trivial⟩ ?_
  rintro _ _
  repeat'(first|exact y0|refine y1 ?_|refine y2 ?_ ?_|(refine y8 ?_ ?_<;>intro h<;>try exact y6)|(refine wC ?_;first|refine wF 91 (pu (pv _ _) ?_)|(refine wF 92 ?_;refine CallG.pu (uk _ _ (by omega) (by omega)) rfl rfl rfl rfl ?_)|refine wF 93 (bo (dh _ _ _) ?_)|refine CallG.wb (dh true 0 []) rfl ?_ rfl rfl ?_)|exact⟨VLe.agg ⟨SLe.refl _,SLe.refl _,SLe.nil,trivial⟩,trivial⟩|refine Fin.le (.inl rfl) rfl ?_ rfl|refine y3 ?_|refine y7 ?_ ?_|refine y4 ?_|(refine y9 ?_ ?_<;>intro h)|exact y5|fail)
  all_goals first
   |exact fH (by unfold er e8;simp_all<;>omega)
   |exact js (by unfold er e8;simp_all<;>omega)
   |exact DX (by unfold er e8;simp_all<;>omega)
end Go.Proofs.YtegjgpldfgjoiaaGreatDoor
