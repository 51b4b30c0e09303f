import Derived.Test.YtegjgpldfgjoiaaGreatDoorCnD16
import Derived.Test.YtegjgpldfgjoiaaGreatDoorCnD13
set_option linter.all false
set_option maxHeartbeats 40000000
set_option maxRecDepth 100000
namespace Go.Proofs.YtegjgpldfgjoiaaGreatDoor
namespace Ab
open Go Go.MapKept
structure KD (κ:Type) where
 s:κ->S
 v:κ->Value
 d:TypeDesc
 sr:∀ (φ:Ph) k x,Sr φ (s k) x↔x=v k
 key:∀ k,IsKey d (v k)
 inj:∀ a b,v a=v b->a=b
 np:∀ k,cz (s k)=true
def oN:KD Int:=⟨λk=> .int .i64 k,λk=> .int .i64 k,.int .i64,λ_ _ _=>Z44,λ_=>rfl,λa b h=>by cases h;rfl,λ_=>rfl⟩
theorem y_ (a b:List UInt8) (h:ia a=ia b):a=b:=by
 grind [ia]
def G7:KD (List UInt8):=⟨λk=> .str k,ia,.string,λ_ _ _=>Z44,λ_=>trivial,y_,λ_=>rfl⟩
section
variable {κ α:Type}
abbrev En (κ α:Type):=List (Nat×κ×α)
def mB (K:KD κ) (agg:Bool) (w:Nat) (c:α->List S) (E:En κ α) (ck:Nat):Bl:={cells:=E.flatMap λe=>K.s e.2.1::c e.2.2,ty:=0,flat:=true,kind:=some ⟨w,agg,E.map (·.1),ck,false⟩}
def ow [DecidableEq κ]:En κ α->κ->Option α
 |[],_=>none
 |e::t,k=>if e.2.1=k then some e.2.2 else ow t k
def tY [DecidableEq κ]:En κ α->κ->α->En κ α
 |[],_,_=>[]
 |e::t,k,x=>if e.2.1=k then (e.1,k,x)::t else e::tY t k x
def deM [DecidableEq κ]:En κ α->κ->En κ α
 |[],_=>[]
 |e::t,k=>if e.2.1=k then t else e::deM t k
def Ha (agg:Bool) (vs:List Value):Value:=match agg with|true=> .agg vs.toArray|false=>vs.headD default
def VO (φ:Ph) (agg:Bool) (cs:List S) (v:Value):Prop:=∃ vs,v=Ha agg vs/\All2 (Sr φ) cs vs
def EntsR (φ:Ph) (K:KD κ) (agg:Bool) (c:α->List S):En κ α->List MapEntry->Prop
 |[],[]=>True
 |e::E,m::M=>(m.key=K.v e.2.1/\m.born=e.1/\VO φ agg (c e.2.2) m.val)/\EntsR φ K agg c E M
 |_,_=>False
variable {φ:Ph} {K:KD κ} {agg:Bool} {c:α->List S}
theorem s9 {w:Nat} (hw:∀ a,(c a).length=w):∀ {E:En κ α} {xs:List Value},All2 (Sr φ) (E.flatMap λe=>K.s e.2.1::c e.2.2) xs->EntsR φ K agg c E (uW agg w (E.map (·.1)) xs)
 |[],[],_=>trivial
 |[],_::_,h=>h.elim
 |e::E,[],h=>h.elim
 |e::E,x::xs,h=>by
  have h:Sr φ (K.s e.2.1) x/\All2 (Sr φ) (c e.2.2++E.flatMap λe=>K.s e.2.1::c e.2.2) xs:=h;have h1:=All2.take w h.2;have h2:=All2.drop w h.2;rw[Z3o ae,Z1l ae] at h1;rw[Z54 ae,Z10 ae,Z1e] at h2;exact⟨⟨(K.sr _ _ _).1 h.1,rfl,_,rfl,h1⟩,s9 hw h2⟩
theorem rU {w:Nat} (hw:∀ a,(c a).length=w):∀ {E:En κ α} {M:List MapEntry},EntsR φ K agg c E M->∃ xs,All2 (Sr φ) (E.flatMap λe=>K.s e.2.1::c e.2.2) xs/\uW agg w (E.map (·.1)) xs=M
 |[],[],_=>⟨[],trivial,rfl⟩
 |[],_::_,h=>h.elim
 |e::E,[],h=>h.elim
 |e::E,m::M,⟨⟨h1,h2,vs,h3,h4⟩,h5⟩=>by
  obtain⟨xs,g1,g2⟩:=rU hw h5;have hl:=h4.len;rw[hw] at hl;refine⟨m.key::(vs++xs),⟨(K.sr _ _ _).2 h1,h4.append g1⟩,?_⟩;show MapEntry.mk m.key _ e.1::uW agg w (E.map (·.1)) ((vs++xs).drop w)=_;rw[Z54 aa,Z10 aa,Z1e,g2,Z3o aa,Z1l aa];obtain⟨mk,mv,mb⟩:=m;simp only at h1 h2 h3;subst h2;subst h3;rfl
theorem EntsR.mono {φ':Ph} (hl:φ.le φ'):∀ {E:En κ α} {M:List MapEntry},EntsR φ K agg c E M->EntsR φ' K agg c E M
 |[],[],_=>trivial
 |[],_::_,h=>h.elim
 |_::_,[],h=>h.elim
 |e::E,m::M,⟨⟨h1,h2,vs,h3,h4⟩,h5⟩=>⟨⟨h1,h2,vs,h3,h4.mono λ_ _=>Sr.mono hl⟩,EntsR.mono hl h5⟩
theorem EntsR.find [DecidableEq κ] (k:κ):∀ {E:En κ α} {M:List MapEntry} (i:Nat),EntsR φ K agg c E M->
 (ow E k=none->Instr.findNow K.d (K.v k) M i=some none)/\
 (∀ x,ow E k=some x->∃ j m,Instr.findNow K.d (K.v k) M i=some (some (i+j,m.val))/\M[j]? =some m/\m.key=K.v k/\VO φ agg (c x) m.val/\
   (∀ y v,VO φ agg (c y) v->EntsR φ K agg c (tY E k y) (M.modify j λe=>{e with key:=K.v k,val:=v}))/\EntsR φ K agg c (deM E k) (M.eraseIdx j))
 |[],[],i,_=>⟨λ_=>rfl,λx h=>by cases h⟩
 |[],_::_,_,h=>h.elim
 |_::_,[],_,h=>h.elim
 |e::E,m::M,i,⟨⟨h1,h2,h3⟩,h5⟩=>by
  obtain⟨ih1,ih2⟩:=EntsR.find (k:=k) (i+1) h5;obtain⟨r,hr,hi⟩:=sameNow_of_keys (K.key k) (K.key e.2.1)
  have hf:Instr.findNow K.d (K.v k) (m::M) i=match r with|true=>some (some (i,m.val))|false=>Instr.findNow K.d (K.v k) M (i+1):=by
   grind [Instr.findNow]
  by_cases hk:e.2.1=k
  ·have hr1:r=true:=hi.2 (by rw[hk])
   subst hr1;refine⟨λh=>(by rw[ow,if_pos hk] at h;cases h),λx hx=>?_⟩;rw[ow,if_pos hk] at hx;cases hx;refine⟨0,m,hf,rfl,ae,h3,λy v hv=>?_,?_⟩
   ·rw[tY,if_pos hk]
    exact⟨⟨rfl,h2,hv⟩,h5⟩
   all_goals grind [deM]
  ·have hr1:r=false:=by
    cases r with
    |false=>rfl
    |true=>exact absurd (K.inj _ _ (hi.1 rfl)).symm hk
   subst hr1;refine⟨λh=>?_,λx hx=>?_⟩
   ·grind [ow]
   ·rw[ow,if_neg hk] at hx
    obtain⟨j,m',g1,g2,g3,g4,g5,g6⟩:=ih2 x hx;refine⟨j+1,m',ae,g2,g3,g4,λy v hv=>?_,?_⟩
    ·rw[tY,if_neg hk]
     exact⟨⟨h1,h2,h3⟩,g5 y v hv⟩
    ·rw[deM,if_neg hk]
     exact⟨⟨h1,h2,h3⟩,g6⟩
theorem EntsR.push {b:Nat} {k:κ} {y:α} {v:Value} (hv:VO φ agg (c y) v):∀ {E:En κ α} {M:List MapEntry},EntsR φ K agg c E M->EntsR φ K agg c (E++[(b,k,y)]) (M++[{key:=K.v k,val:=v,born:=b}])
 |[],[],_=>⟨⟨rfl,rfl,hv⟩,trivial⟩
 |[],_::_,h=>h.elim
 |_::_,[],h=>h.elim
 |e::E,m::M,⟨h1,h2⟩=>⟨h1,EntsR.push hv h2⟩
theorem EntsR.len:∀ {E:En κ α} {M:List MapEntry},EntsR φ K agg c E M->M.length=E.length
 |[],[],_=>rfl
 |[],_::_,h=>h.elim
 |_::_,[],h=>h.elim
 |e::E,m::M,⟨_,h⟩=>by simp[EntsR.len h]
abbrev fl (φ:Ph):Ph:=⟨λ_=>none,φ.z⟩
theorem o8 {w:World} {b:Nat×Nat} {sz ck:Nat} {E:En κ α} {r:Bool} (hw:∀ a,(c a).length=sz) (h:BlAt φ w b {mB K agg sz c E ck with ro:=r}) (hb:b.2=0):∃ M,w.heap[b.1]? =some (.map M.toArray ck)/\EntsR (fl φ) K agg c E M:=by
 obtain⟨pre,xs,rest,fr,h1,h2,h3,h4,h5,h6⟩:=h;rw[hb] at h2;have:=Z15 h2;subst this;have:=h4 rfl;subst this;refine⟨_,?_,s9 hw h3⟩
 grind [mB,cU]
theorem wT {w:World} {b:Nat×Nat} {sz ck:Nat} {E:En κ α} {M:List MapEntry} (hw:∀ a,(c a).length=sz) (h:w.heap[b.1]? =some (.map M.toArray ck)) (hM:EntsR (fl φ) K agg c E M) (hb:b.2=0):BlAt φ w b (mB K agg sz c E ck):=by
 obtain⟨xs,h1,h2⟩:=rU hw hM;refine⟨[],xs,[],(0,0),?_,ae,h1,λ_=>rfl,λ_ o ho=>by simp,⟨λg z e=>(by cases e),λg e=>(by cases e)⟩⟩
 grind [mB,cU]
def uO:Bool->List S->U
 |true,l=> .agg l
 |false,l=> .s (l.headD .unk)
theorem VO.ur {l:List S} {v:Value} (h:VO φ agg l v) (hl:agg=false->l.length=1):Ur φ (uO agg l) v:=by
 obtain⟨vs,rfl,h⟩:=h
 cases agg with
 |true=>exact⟨vs,rfl,h⟩
 |false=>
  match l,vs,h,hl rfl with
  |[x],[y],h,_=>exact h.1
end
section
variable {t:TypeId} {agg:Bool}
def orC {α:Type} (c:α->List S) (zs:List S):Option α->List S
 |some x=>c x
 |none=>zs
def jg (P:Program) (t:TypeId) (agg:Bool):Option (List S):=
 match P.info? t with
 |some i=>match i.zero with
  |some v=>match agg,v with
   |true,.agg cs=>xg cs.toList
   |true,_=>none
   |false,v=>match toS v with|some x=>some [x]|none=>none
  |none=>none
 |none=>none
theorem Cz {P:Program} {l:List S} (h:jg P t agg=some l) (w:World):∃ z,(zeroValue t).run P w=.ok z w/\∀ φ,Ur φ (uO agg l) z:=by
 unfold jg at h;split at h
 ·rename_i i hi
  split at h
  ·rename_i v hv
   refine⟨v,by simp[zeroValue,typeInfo,hi,hv],λφ=>?_⟩;split at h
   ·rename_i cs
    exact⟨cs.toList,av,ua h⟩
   ·cases h
   ·split at h
    ·rename_i x hx
     cases h;exact EA hx
    ·cases h
  ·cases h
 ·cases h
section
variable {P:Program} {b:Nat} {ops:Array Oper} {d:Bool} {acc:List Row} {os:List Oper} {o:Oper} {env:List V} {n:Nat} {L:Hp} {R:Post}
variable {κ α:Type}
theorem v_ [DecidableEq κ] {K:KD κ} {agg:Bool} {w:Nat} {c:α->List S} {E:En κ α} {ck:Nat} {r0:Bool} {i:Nat} {k:κ} {tx kt et:TypeId} {zs:List S} (hw:∀ a,(c a).length=w) (h1:agg=false->w=1)
 (hty:P.underlying tx=some (.map kt et)) (hd:P.underlying kt=some K.d) (hz:jg P et agg=some zs) {φ:Ph} {W:World} (hg:Good φ L W) (hl:lk L i=some {mB K agg w c E ck with ro:=r0}) {v:Value} (hv:Sr φ (.map (some i)) v) (ok:Bool):
 ∃ y,(Instr.lookup tx v (K.v k) ok).run P W=.ok (if ok then .tuple #[y,.bool (ow E k).isSome] else y) W/\Ur φ (uO agg (orC c zs (ow E k))) y:=by
 obtain⟨b,hb,hb2,rfl⟩:=hv;obtain⟨b',hb',hat⟩:=hg.hr i _ hl;rw[hb] at hb';cases hb';obtain⟨M,hm,hM⟩:=o8 hw hat hb2
 have hc:=λem=>run_checkKey (P:=P) (w:=W) hd (K.key k) em 9999
 obtain⟨f1,f2⟩:=EntsR.find k 0 hM
 cases r:ow E k with
 |none=>
  have hf:=run_findKey (P:=P) (w:=W) hd (f1 r);obtain⟨z,z1,z2⟩:=Cz hz W;refine⟨z,?_,z2 φ⟩;simp only[Instr.lookup,Z09,Ab.run_underlying hty,Z05,Z1q hm,Z0f];simp[hc,hf,z1]
 |some x=>
  obtain⟨j,m,g1,g2,g3,g4,_⟩:=f2 x r;have hf:=run_findKey (P:=P) (w:=W) hd g1;refine⟨m.val,?_,?_⟩
  ·simp only[Instr.lookup,Z09,Ab.run_underlying hty,Z05,Z1q hm,Z0f]
   simp[hc,hf]
  ·have:=Ur.mono (φ:=fl φ) (φ':=φ) ⟨λ_ _ h=>(by cases h),λ_ _ h=>h⟩ (g4.ur (λe=>by grind))
   exact this
theorem RegX.lkT [DecidableEq κ] {dst:Option Tmp} {x ix:Operand} {tx kt et:TypeId} {t:TypeId} {pos:String} {af:Array Edge} {gd:Option (Nat×Bool)} {K:KD κ} {agg:Bool} {w:Nat} {c:α->List S} {E:En κ α} {ck:Nat} {r0:Bool} {i:Nat} {k:κ} {zs:List S} (r:Option α)
 (hx:ev env x=.s (.map (some i))) (hix:ev env ix=.s (K.s k)) (hl:lk L i=some {mB K agg w c E ck with ro:=r0}) (hw:∀ a,(c a).length=w) (h1:agg=false->w=1) (hty:P.underlying tx=some (.map kt et)) (hd:P.underlying kt=some K.d) (hz:jg P et agg=some zs) (hr:ow E k=r)
 (hwt:bg ops env ⟨dst,.lookup tx x ix true,t,pos,af,gd⟩=some true)
 (kk:RegX P ops d (aB d ⟨dst,.lookup tx x ix true,t,pos,af,gd⟩ [i] [] acc) os (a_ env dst (.tup [uO agg (orC c zs r),.s (.bool r.isSome)])) n L R):
 RegX P ops d acc (⟨dst,.lookup tx x ix true,t,pos,af,gd⟩::os) env n L R:=by
 refine RegX.op (foot:=[i]) (wr:=[]) hwt (OpL.light λφ a W hop hg=>?_) (Z02 _) kk;have g1:=hop x (by simp[Op.operands]);have g2:=hop ix (by simp[Op.operands]);rw[hx] at g1;rw[hix] at g2;have g2:a.eval ix=K.v k:=(K.sr _ _ _).1 g2;obtain⟨y,y1,y2⟩:=v_ (κ:=κ) (k:=k) hw h1 hty hd hz hg (i:=i) (E:=E) (ck:=ck) (r0:=r0) (by rw[bq];simp[hl]) g1 true;rw[hr] at y1 y2;exact⟨.tuple #[y,.bool r.isSome],by simp only[execOp,g2,Z09,y1,Z05];rfl,[y,.bool r.isSome],rfl,y2,rfl,trivial⟩
theorem RegX.lk1 [DecidableEq κ] {dst:Option Tmp} {x ix:Operand} {tx kt et:TypeId} {t:TypeId} {pos:String} {af:Array Edge} {gd:Option (Nat×Bool)} {K:KD κ} {agg:Bool} {w:Nat} {c:α->List S} {E:En κ α} {ck:Nat} {r0:Bool} {i:Nat} {k:κ} {zs:List S} (r:Option α)
 (hx:ev env x=.s (.map (some i))) (hix:ev env ix=.s (K.s k)) (hl:lk L i=some {mB K agg w c E ck with ro:=r0}) (hw:∀ a,(c a).length=w) (h1:agg=false->w=1) (hty:P.underlying tx=some (.map kt et)) (hd:P.underlying kt=some K.d) (hz:jg P et agg=some zs) (hr:ow E k=r)
 (hwt:bg ops env ⟨dst,.lookup tx x ix false,t,pos,af,gd⟩=some true)
 (kk:RegX P ops d (aB d ⟨dst,.lookup tx x ix false,t,pos,af,gd⟩ [i] [] acc) os (a_ env dst (FN (uO agg (orC c zs r)))) n L R):
 RegX P ops d acc (⟨dst,.lookup tx x ix false,t,pos,af,gd⟩::os) env n L R:=by
 refine RegX.op (foot:=[i]) (wr:=[]) hwt (OpL.light λφ a W hop hg=>?_) (Z02 _) kk;have g1:=hop x (by simp[Op.operands]);have g2:=hop ix (by simp[Op.operands]);rw[hx] at g1;rw[hix] at g2;have g2:a.eval ix=K.v k:=(K.sr _ _ _).1 g2;obtain⟨y,y1,y2⟩:=v_ (κ:=κ) (k:=k) hw h1 hty hd hz hg (i:=i) (E:=E) (ck:=ck) (r0:=r0) (by rw[bq];simp[hl]) g1 false;rw[hr] at y2;exact⟨_,by simp only[execOp,g2,Z09,y1,Z05];rfl,zU y2⟩
theorem Ew {φ:Ph} {l:List S} {v:Value} (hl:agg=false->l.length=1) (hn:l.all cz=true) (h:Vr φ (FN (uO agg l)) v):VO (fl φ) agg l v:=by
 cases agg with
 |true=>
  obtain⟨xs,rfl,h⟩:=h;exact⟨xs,rfl,fW (φ:=φ) (ψ:=fl φ) (λ_ _ h=>h) hn h⟩
 |false=>
  match l,hl rfl,h with
  |[x],_,h=>exact⟨[v],rfl,fW (φ:=φ) (ψ:=fl φ) (λ_ _ h=>h) hn ⟨h,trivial⟩⟩
theorem RegX.muN [DecidableEq κ] {dst:Option Tmp} {x ix y:Operand} {tx kt et:TypeId} {t:TypeId} {pos:String} {af:Array Edge} {gd:Option (Nat×Bool)} {K:KD κ} {agg:Bool} {w:Nat} {c:α->List S} {E:En κ α} {ck:Nat} {i:Nat} {k:κ} (a0:α)
 (hx:ev env x=.s (.map (some i))) (hix:ev env ix=.s (K.s k)) (hy:VLe (ev env y) (FN (uO agg (c a0)))) (hl:lk L i=some (mB K agg w c E ck)) (hw:∀ a,(c a).length=w) (h1:agg=false->w=1) (hn:(c a0).all cz=true) (hty:P.underlying tx=some (.map kt et)) (hd:P.underlying kt=some K.d) (hr:ow E k=none)
 (hwt:bg ops env ⟨dst,.mapUpdate tx x ix y,t,pos,af,gd⟩=some true)
 (kk:RegX P ops d (aB d ⟨dst,.mapUpdate tx x ix y,t,pos,af,gd⟩ [i] [(i,some (mB K agg w c (E++[(ck,k,a0)]) (ck+1)))] acc) os (a_ env dst .undef) n (az L [(i,some (mB K agg w c (E++[(ck,k,a0)]) (ck+1)))]) R):
 RegX P ops d acc (⟨dst,.mapUpdate tx x ix y,t,pos,af,gd⟩::os) env n L R:=by
 refine RegX.op (foot:=[i]) (wr:=[(i,some (mB K agg w c (E++[(ck,k,a0)]) (ck+1)))]) hwt ?_ (Z02 _) kk;intro φ a W Q hop hg hf
 have e1:res [i] L=[(i,some (mB K agg w c E ck))]:=by simp[res,hl]
 have e2:az (res [i] L) [(i,some (mB K agg w c (E++[(ck,k,a0)]) (ck+1)))]=[(i,some (mB K agg w c (E++[(ck,k,a0)]) (ck+1)))]:=by rw[e1];simp[az,put]
 have g1:=hop x (by simp[Op.operands]);have g2:=hop ix (by simp[Op.operands]);have g3:=hop y (by simp[Op.operands]);rw[hx] at g1;rw[hix] at g2;have g3:=hy φ _ g3;obtain⟨b,hb,hb2,hv⟩:=g1;have g2:a.eval ix=K.v k:=(K.sr _ _ _).1 g2;have g3:=Ew (λe=>by grind) hn g3;rw[e1] at hg;obtain⟨b',hb',hat⟩:=hg.hr i (mB K agg w c E ck) (by simp[lk]);rw[hb] at hb';cases hb';obtain⟨M,hm,hM⟩:=o8 (r:=false) hw hat hb2;have hlt:=hat.lt
 have hc:=λem=>run_checkKey (P:=P) (w:=W) hd (K.key k) em 9999
 have hfn:=run_findKey (P:=P) (w:=W) hd ((EntsR.find k 0 hM).1 hr)
 have hrun:(execOp a.eval ⟨dst,.mapUpdate tx x ix y,t,pos,af,gd⟩).run P W=.ok .skip {W with heap:=W.heap.setIfInBounds b.1 (.map (M++[MapEntry.mk (K.v k) (a.eval y) ck]).toArray (ck+1))}:=by
  simp only[execOp,Instr.mapUpdate,Z09,Ab.run_underlying hty,Z05,hv,Z1q hm,Z0f,g2,hc,hfn];rw[Z4n _ hm];simp
 obtain⟨good,stp⟩:=qb (bl':=mB K agg w c (E++[(ck,k,a0)]) (ck+1)) (ob:=.map (M++[MapEntry.mk (K.v k) (a.eval y) ck]).toArray (ck+1)) hg hb rfl rfl (wT hw ae (EntsR.push g3 hM) hb2);unfold Oper.wp;rw[hrun,Z5w];exact⟨φ,Go.undef,rfl,rfl,ae,ae,λ_ _=>rfl⟩
theorem RegX.muO [DecidableEq κ] {dst:Option Tmp} {x ix y:Operand} {tx kt et:TypeId} {t:TypeId} {pos:String} {af:Array Edge} {gd:Option (Nat×Bool)} {K:KD κ} {agg:Bool} {w:Nat} {c:α->List S} {E:En κ α} {ck:Nat} {i:Nat} {k:κ} {x0:α} (a0:α)
 (hx:ev env x=.s (.map (some i))) (hix:ev env ix=.s (K.s k)) (hy:VLe (ev env y) (FN (uO agg (c a0)))) (hl:lk L i=some (mB K agg w c E ck)) (hw:∀ a,(c a).length=w) (h1:agg=false->w=1) (hn:(c a0).all cz=true) (hty:P.underlying tx=some (.map kt et)) (hd:P.underlying kt=some K.d) (hr:ow E k=some x0)
 (hwt:bg ops env ⟨dst,.mapUpdate tx x ix y,t,pos,af,gd⟩=some true)
 (kk:RegX P ops d (aB d ⟨dst,.mapUpdate tx x ix y,t,pos,af,gd⟩ [i] [(i,some (mB K agg w c (tY E k a0) ck))] acc) os (a_ env dst .undef) n (az L [(i,some (mB K agg w c (tY E k a0) ck))]) R):
 RegX P ops d acc (⟨dst,.mapUpdate tx x ix y,t,pos,af,gd⟩::os) env n L R:=by
 refine RegX.op (foot:=[i]) (wr:=[(i,some (mB K agg w c (tY E k a0) ck))]) hwt ?_ (Z02 _) kk;intro φ a W Q hop hg hf
 have e1:res [i] L=[(i,some (mB K agg w c E ck))]:=by simp[res,hl]
 have e2:az (res [i] L) [(i,some (mB K agg w c (tY E k a0) ck))]=[(i,some (mB K agg w c (tY E k a0) ck))]:=by rw[e1];simp[az,put]
 have g1:=hop x (by simp[Op.operands]);have g2:=hop ix (by simp[Op.operands]);have g3:=hop y (by simp[Op.operands]);rw[hx] at g1;rw[hix] at g2;have g3:=hy φ _ g3;obtain⟨b,hb,hb2,hv⟩:=g1;have g2:a.eval ix=K.v k:=(K.sr _ _ _).1 g2;have g3:=Ew (λe=>by grind) hn g3;rw[e1] at hg;obtain⟨b',hb',hat⟩:=hg.hr i (mB K agg w c E ck) (by simp[lk]);rw[hb] at hb';cases hb';obtain⟨M,hm,hM⟩:=o8 (r:=false) hw hat hb2;have hlt:=hat.lt
 have hc:=λem=>run_checkKey (P:=P) (w:=W) hd (K.key k) em 9999
 obtain⟨j,m,f1,f2,f3,f4,f5,_⟩:=(EntsR.find k 0 hM).2 x0 hr;rw[Z0c] at f1;have hfn:=run_findKey (P:=P) (w:=W) hd f1
 have hks:=λW=>run_keyThatStays (P:=P) (w:=W) (K.key k)
 have hrun:(execOp a.eval ⟨dst,.mapUpdate tx x ix y,t,pos,af,gd⟩).run P W=.ok .skip {W with heap:=W.heap.setIfInBounds b.1 (.map (M.modify j λe=>{e with key:=K.v k,val:=a.eval y}).toArray ck)}:=by
  have hj:(M.toArray)[j]? =some m:=ae;simp only[execOp,Instr.mapUpdate,Z09,Ab.run_underlying hty,Z05,hv,Z1q hm,Z0f,g2,hc,hfn,hj,Z1j,Z22,f3,hks];rw[Z4n _ hm];simp
 obtain⟨good,stp⟩:=qb (bl':=mB K agg w c (tY E k a0) ck) (ob:=.map (M.modify j λe=>{e with key:=K.v k,val:=a.eval y}).toArray ck) hg hb rfl rfl (wT hw ae (f5 a0 _ g3) hb2);unfold Oper.wp;rw[hrun,Z5w];exact⟨φ,Go.undef,rfl,rfl,ae,ae,λ_ _=>rfl⟩
theorem RegX.mkM {dst:Option Tmp} {tx:TypeId} {pos:String} {af:Array Edge} {gd:Option (Nat×Bool)} (K:KD κ) (agg:Bool) (w:Nat) (c:α->List S) (hw:∀ a,(c a).length=w)
 (hwt:bg ops env ⟨dst,.makeMap tx none,t,pos,af,gd⟩=some true)
 (kk:RegX P ops d (aB d ⟨dst,.makeMap tx none,t,pos,af,gd⟩ [] [(n,some (mB K agg w c [] 0))] acc) os (a_ env dst (.s (.map (some n)))) (n+1) (az L [(n,some (mB K agg w c [] 0))]) R):
 RegX P ops d acc (⟨dst,.makeMap tx none,t,pos,af,gd⟩::os) env n L R:=by
 refine RegX.op (foot:=[]) (wr:=[(n,some (mB K agg w c [] 0))]) hwt ?_ (Z3s _) kk
 have e:az (res ([]:List Nat) L) [(n,some (mB K agg w c [] 0))]=put [] n (some (mB K agg w c [] 0)):=by simp[res,az]
 rw[e]
 refine OpL.fresh (L:=[]) (by simp[lk]) λφ a W hop _=>?_
 refine⟨.map (some W.heap.size),{W with heap:=W.heap.push (.map #[] 0)},?_,rfl,rfl,rfl,⟨_,rfl⟩,wT (M:=[]) hw av trivial rfl,λφ' hn _=>⟨_,hn,rfl,rfl⟩⟩;simp[execOp,Instr.makeMap,newObj,Sem.run]
theorem RegX.lnM {dst:Option Tmp} {x:Operand} {tx kt et:TypeId} {t:TypeId} {pos:String} {af:Array Edge} {gd:Option (Nat×Bool)} {K:KD κ} {w:Nat} {c:α->List S} {E:En κ α} {ck:Nat} {r0:Bool} {i:Nat}
 (hx:ev env x=.s (.map (some i))) (hl:lk L i=some {mB K agg w c E ck with ro:=r0}) (hw:∀ a,(c a).length=w) (hty:P.underlying tx=some (.map kt et))
 (hwt:bg ops env ⟨dst,.call ⟨.builtin .len,#[x],#[tx]⟩,t,pos,af,gd⟩=some true)
 (kk:RegX P ops d (aB d ⟨dst,.call ⟨.builtin .len,#[x],#[tx]⟩,t,pos,af,gd⟩ [i] [] acc) os (a_ env dst (.s (.int .i64 (E.length:Int)))) n L R):
 RegX P ops d acc (⟨dst,.call ⟨.builtin .len,#[x],#[tx]⟩,t,pos,af,gd⟩::os) env n L R:=by
 refine RegX.op (foot:=[i]) (wr:=[]) hwt (OpL.light λφ a W hop hg=>?_) (Z02 _) kk;have g1:=hop x (by simp[Op.operands,Call.operands]);rw[hx] at g1;obtain⟨b,hb,hb2,hv⟩:=g1;obtain⟨b',hb',hat⟩:=hg.hr i {mB K agg w c E ck with ro:=r0} (by rw[bq];simp[hl]);rw[hb] at hb';cases hb';obtain⟨M,hm,hM⟩:=o8 hw hat hb2;refine⟨.int .i64 (E.length:Int),?_,rfl⟩;simp only[execOp,resolve,Z09,Z0f,Z05,invoke,builtin,Z3u,Z13,Z3d,hv];simp[Builtin.len_,Builtin.lenOf,Ab.run_underlying hty,goInt,Z1q hm,hM.len]
end
end
end Ab
namespace Ab
open Go
section
variable {L:Hp} {i o:Nat} {bl:Bl}
theorem tD {α β:Type} {r:α->β->Prop}:∀ {l:List α} {xs:List β} {o:Nat} {s:α},All2 r l xs->l[o]? =some s->∃ x,xs[o]? =some x/\r s x
 |[],_,o,s,_,h=>by grind
 |a::l,x::xs,0,s,h,hs=>by
  simp only[Z11,Z06] at hs;subst hs;exact⟨x,rfl,h.1⟩
 |a::l,x::xs,o+1,s,h,hs=>by
  simp only[Z23] at hs |-;exact tD h.2 hs
 |_::_,[],_,_,h,_=>h.elim
def kz (bl:Bl) (o:Nat) (x:S):Bl:={bl with cells:=bl.cells.set o x}
theorem jT {x:S} (hl:lk L i=some bl) {j:Nat} {c:Bl} (h:lk (put L i (some (kz bl o x))) j=some c):∃ c',lk L j=some c'/\c'.ro=c.ro/\(j≠i->c'=c):=by
 rw[aE] at h;split at h
 ·rename_i e;subst e;cases h;exact⟨bl,hl,rfl,λq=>absurd rfl q⟩
 all_goals grind
theorem jU {x:S} (hl:lk L i=some bl) {j:Nat} {c:Bl} (h:lk L j=some c):∃ c',lk (put L i (some (kz bl o x))) j=some c'/\c'.ro=c.ro/\(j≠i->c'=c):=by
 rw[aE];split
 ·rename_i e;subst e;rw[hl] at h;cases h;exact⟨_,rfl,rfl,λq=>absurd rfl q⟩
 all_goals grind
theorem pY {φ:Ph} {x:S} (hl:lk L i=some bl) {b:Nat}:Wr φ (put L i (some (kz bl o x))) b↔Wr φ L b:=by
 constructor
 ·rintro⟨j,c,q,h1,h2,h3,h4⟩
  obtain⟨c',k1,k2,_⟩:=jT hl h1;exact⟨j,c',q,k1,h2,h3,k2.trans h4⟩
 ·rintro⟨j,c,q,h1,h2,h3,h4⟩
  obtain⟨c',k1,k2,_⟩:=jU (o:=o) (x:=x) hl h1;exact⟨j,c',q,k1,h2,h3,k2.trans h4⟩
theorem SC.cst {P:Program} {f:FuncId} {args:List V} {n:Nat} {v:V} {n':Nat} {L':Hp} {i' o':Nat} {bl':Bl} {s:S} (hl:lk L i=some bl) (ho:bl.cells[o]? =some s) (hl':lk L' i'=some bl') (ho':bl'.cells[o']? =some s) (hj:wg s=false) (hf:bl.flat=false) (hf':bl'.flat=false)
 (sc:∀ x:Value,fe x=true->SC P f args n (put L i (some (kz bl o (.cst x)))) v n' (put L' i' (some (kz bl' o' (.cst x))))):SC P f args n L v n' L':=by
 intro φ xs w hx hg hfr;obtain⟨b,hb,hat⟩:=hg.hr i bl hl;obtain⟨pre,cs,rest,fr,h1,h2,h3,h4,h5,h6⟩:=hat
 have eph:∀ φ:Ph,bl.ph φ=φ:=λφ=>by unfold Bl.ph;rw[hf]
 have eph':∀ φ:Ph,bl'.ph φ=φ:=λφ=>by unfold Bl.ph;rw[hf']
 obtain⟨x,hx1,hx2⟩:=tD h3 ho;rw[eph] at hx2;have hc:fe x=true:=hx2.cell hj
 have at1:BlAt φ w b (kz bl o (.cst x)):=⟨pre,cs,rest,fr,h1,h2,fj h3 (λy hy=>by rw[hx1] at hy;cases hy;exact⟨rfl,hc⟩),h4,h5,h6⟩
 have hg1:Good φ (put L i (some (kz bl o (.cst x)))) w:=by
  refine⟨λj c h=>?_,λj k c c' q q' h k1 k2 k3 k4=>?_,λb l h=>⟨(hg.fz b l h).1,λhw=>(hg.fz b l h).2 ((pY hl).1 hw)⟩,hg.gz⟩
  ·grind [aE,hg.hr]
  ·obtain⟨d,e1,e2,_⟩:=jT hl h
   obtain⟨d',e1',e2',_⟩:=jT hl k1
   rcases hg.inj j k d d' q q' e1 e1' k2 k3 k4 with e|⟨e,e'⟩
   all_goals grind
 refine (sc x hc φ xs w hx hg1 hfr).mono ?_;rintro e w' ⟨φ',y,he,hv,hg',hn,st,hle,hag⟩
 have hle2:φ.le φ':=⟨λj q hjq=>by
  by_cases h:j<n
  ·rw[hag j h];exact hjq
  ·rw[hfr j aa] at hjq;exact (by cases hjq),st.zle⟩
 have lk1:lk (put L' i' (some (kz bl' o' (.cst x)))) i'=some (kz bl' o' (.cst x)):=by rw[aE,if_pos rfl]
 obtain⟨b',hb',pre',cs',rest',fr',g1,g2,g3,g4,g5,g6⟩:=hg'.hr i' _ lk1
 have at2:BlAt φ' w' b' bl':=by
  refine⟨pre',cs',rest',fr',g1,g2,?_,g4,g5,g6⟩
  have hlt:o'<bl'.cells.length:=by
   grind
  have g3':All2 (Sr (bl'.ph φ')) (bl'.cells.set o' (.cst x)) cs':=g3
  have hback:bl'.cells=(bl'.cells.set o' (.cst x)).set o' s:=by
   refine Z2i λj=>?_
   grind
  rw[hback]
  refine fj g3' λz hz=>?_
  have hz1:Sr (bl'.ph φ') (.cst x) z:=gO g3' ae hz;obtain⟨rfl,_⟩:=hz1;rw[eph'];exact hx2.mono hle2
 have hg2:Good φ' L' w':=by
  refine⟨λj c h=>?_,λj k c c' q q' h k1 k2 k3 k4=>?_,λb l h=>⟨(hg'.fz b l h).1,λhw=>(hg'.fz b l h).2 ((pY hl').2 hw)⟩,hg'.gz⟩
  ·by_cases e:i'=j
   ·grind
   ·exact hg'.hr j c (by rw[aE,if_neg e];exact h)
  ·obtain⟨d,e1,e2,_⟩:=jU (o:=o') (x:=.cst x) hl' h
   obtain⟨d',e1',e2',_⟩:=jU (o:=o') (x:=.cst x) hl' k1
   rcases hg'.inj j k d d' q q' e1 e1' k2 k3 k4 with e|⟨e,e'⟩
   all_goals grind
 refine⟨φ',y,he,hv,hg2,hn,⟨st.os,st.tape,st.output,st.size,λq hq hw=>st.keep q hq λh=>hw ((pY hl).1 h),λj c q h k1 k2=>?_,st.zle,λq l h=>?_⟩,hle,hag⟩
 ·obtain⟨d,e1,e2,_⟩:=jU (o:=o') (x:=.cst x) hl' h
  obtain⟨k,c1,q1,r1,r2,r3,r4,r5⟩:=st.fresh j d q e1 k1 k2;obtain⟨d1,f1,f2,_⟩:=jT hl r1;exact⟨k,d1,q1,f1,r2,r3,λh=>e2▸r4 (f2▸h),r5.imp id λh=>f2.trans h⟩
 ·rcases st.zfr q l h with h|h|h
  ·exact .inl h
  ·grind
  ·exact .inr (.inr ((pY hl).1 h))
end
section
variable {m:Nat}
section
variable {P:Program} {b:Nat} {env:List V} {n:Nat} {L:Hp} {R:Post} {c:Code}
theorem Ex.capS (t i z:Nat) {K:Nat} {bli:Bl} (ht:env.getD t .undef=.s (.slc (some (i,0)) m (some K))) (hli:lk L i=some bli) (hgh:bli.gh=none) (hK:K*z<=bli.cells.length)
 {env':List V} (he:env.set t (.s (.sla i n m))=env') {L':Hp} (hL:put L i (some {bli with gh:=some (n,z)})=L') (k:Ex P b c env' (n+1) L' R):Ex P b c env n L R:=by
 subst hL;subst he;intro φ a w h1 h2 h3 h4
 have hle:φ.le ⟨λx=>if x=n then some (K,0) else φ x,φ.z⟩:=⟨λx y hx=>by
  have:x≠n:=λe=>by rw[e,h3 n (Z02 _)] at hx;cases hx
  show (if x=n then _ else _)=_
  rw[if_neg this];exact hx,λ_ _ h=>h⟩
 have hn:(⟨λx=>if x=n then some (K,0) else φ x,φ.z⟩:Ph) n=some (K,0):=ae
 have hne:∀ x,x≠n->(⟨λx=>if x=n then some (K,0) else φ x,φ.z⟩:Ph) x=φ x:=λx hx=>by grind
 have hz:(⟨λx=>if x=n then some (K,0) else φ x,φ.z⟩:Ph).z=φ.z:=rfl;generalize (⟨λx=>if x=n then some (K,0) else φ x,φ.z⟩:Ph)=φ' at hle hn hne hz
 have back:∀ x bx,lk (put L i (some {bli with gh:=some (n,z)})) x=some bx->∃ b0,lk L x=some b0/\bx.ro=b0.ro:=by
  grind [aE]
 have num:∀ x b0,lk L x=some b0->x≠n:=λx b0 hx e=>by
  grind [h2.hr]
 have wr1:∀ x,Wr φ' (put L i (some {bli with gh:=some (n,z)})) x->Wr φ L x:=by
  rintro x ⟨jj,bj,d,q1,q2,q3,q4⟩;obtain⟨b0,r1,r2⟩:=back jj bj q1;exact⟨jj,b0,d,r1,ae,q3,r2▸q4⟩
 have good2:Good φ' (put L i (some {bli with gh:=some (n,z)})) w:=by
  refine⟨λx bx hx=>?_,λx y bx by' b1 b2 hx hy hb1 hb2 e=>?_,λx l hx=>⟨(h2.fz x l (hz▸hx)).1,λhw=>(h2.fz x l (hz▸hx)).2 (wr1 x hw)⟩,by rw[hz];exact h2.gz⟩
  ·rw[aE] at hx
   split at hx
   ·rename_i e;subst e;cases hx
    obtain⟨b0,hb0,pre,xs,rest,fr,p1,p2,p3,p4,p5,p6,p7⟩:=h2.hr i bli hli;refine⟨b0,hle _ _ hb0,pre,xs,rest,fr,p1,p2,(p3.mono λ_ _=>Sr.mono (bli.ph_le hle)),p4,p5,λg z' e=>?_,p7⟩
    grind [p3.len]
   ·obtain⟨b0,hb0,hat⟩:=h2.hr x bx hx
    exact⟨b0,hle _ _ hb0,hat.mono hle rfl⟩
  ·obtain⟨x0,q1,q2⟩:=back x bx hx
   obtain⟨y0,r1,r2⟩:=back y by' hy
   rw[hne x (num x x0 q1)] at hb1;rw[hne y (num y y0 r1)] at hb2;rw[q2,r2];exact h2.inj x y x0 y0 b1 b2 q1 r1 hb1 hb2 e
 have env2:EnvR φ' (env.set t (.s (.sla i n m))) a:=by
  refine⟨h1.1,fj (h1.2.mono λ_ _=>Vr.mono hle) λx hx=>?_⟩
  have hs:env[t]? =some (.s (.slc (some (i,0)) m (some K))):=by
   grind
  obtain⟨d,kk,q1,q2,q3,q4⟩:=gO h1.2 hs hx
  have hkk:K=kk:=by
   grind
  subst hkk;refine⟨d,K,hle _ _ q1,hn,?_,q3⟩
  grind
 refine wp_mono (k φ' a w env2 good2 (λx hx=>by grind) aa) ?_;rintro x a' w' ⟨φ2,e,m',M,hR,k1,k2,k3,k4,k5,k6⟩;refine⟨φ2,e,m',M,hR,k1,k2,k3,k4,⟨k5.os,k5.tape,k5.output,k5.size,λd hd hn=>k5.keep d hd λhw=>hn (wr1 d hw),λjj bl1 d hj hd hlt'=>?_,λx l hx=>k5.zle x l (hz▸hx),λx l hx=>?_⟩,λx hx=>by grind⟩
 ·grind [k5.fresh]
 ·rcases k5.zfr x l hx with q|q|q
  all_goals grind
end
end
theorem dQ {α:Type} (g:α->List S) (w:Nat) (d:α) (hw:∀ a,(g a).length=w):∀ {l:List α} {k j:Nat} {x:S},k<l.length->(g (l.getD k d))[j]? =some x->(l.flatMap g)[k*w+j]? =some x
 |[],k,j,x,hk,_=>by grind
 |a::l,0,j,x,hk,hx=>by
  grind
 |a::l,k+1,j,x,hk,hx=>by
  have:=dQ g w d hw (l:=l) (k:=k) (j:=j) (x:=x) ae hx
  grind
section
variable {P:Program} {b:Nat} {env:List V} {n:Nat} {L:Hp} {R:Post} {c:Code}
theorem Ex.fzR {α:Type} (t:Nat) (g:α->List S) (w:Nat) (d:α) (l:List α) {i gn ty:Nat} (ht:env.getD t .undef=.s (.row i gn l.length)) (hl:lk L i=g9 ty gn w (l.flatMap g)) (hw:∀ a,(g a).length=w) (hp:∀ (a:α) (j:Nat) (x:S),(g a)[j]? =some x->bL x=true) (hw0:0<w)
 {env':List V} (he:env.set t (.s (.frz (λk=>g (l.getD k d)) w l.length))=env') {L':Hp} (hL:put L i none=L') (k:Ex P b c env' n L' R):Ex P b c env n L R:=by
 have sub:vv L' L:=by
  intro j bj hj
  grind [aE]
 cases l with
 |nil=>exact fN t _ (by rw[ht];exact VLe.s SLe.row0) he (Ex.sub sub k)
 |cons a l=>
  have hne:(a::l).flatMap g≠[]:=by
   rw[Z0g];have:=hw a
   cases hga:g a with
   |nil=>grind
   |cons x xs=>simp
  obtain⟨x,xs,hx⟩:=Z4j hne;rw[hx] at hl;have hl:lk L i=some {cells:=x::xs,ty:=ty,more:=true,sym:=true,flat:=true,gh:=some (gn,w)}:=hl;refine Ex.fz t _ w (i:=i) (N:=(a::l).length) (by rw[ht];rfl) hl rfl rfl (λk _=>hw _) (λk j y hk hy=>⟨?_,hp _ _ _ hy⟩) he hL k
  grind [dQ]
end
structure Hold (p:Prop):Prop where
 k:p
end Ab
section
open Go Ab
def qk (z:Int):Bool:=decide (97<=z/\z<=122)
def fa (z:Int):Bool:=decide (97<=z/\z<=122\/65<=z/\z<=90\/z=95)
def jy (z:Int):Bool:=decide (48<=z/\z<=57)
theorem ep (z:Int):FQ 165 [n8 z] 0 [] (bV (fa z)) 0 []:=by
 refine wW Tryz.func165 ?_
 repeat'(first|refine y1 ?_|refine y2 ?_ ?_|refine y4 λh=>?_|refine cJ (.inl rfl) rfl ?_|refine y3 ?_|exact y5|fail)
 all_goals (unfold fa;simp;omega)
theorem kw (z:Int):FQ 203 [n8 z] 0 [] (bV (jy z)) 0 []:=by
 refine wW Tryz.func203 ?_
 repeat'(first|refine y1 ?_|refine y2 ?_ ?_|refine y4 λh=>?_|refine cJ (.inl rfl) rfl ?_|refine y3 ?_|exact y5|fail)
 all_goals (unfold jy;simp;omega)
def kp (c:UInt8):Bool:=fa (c.toNat:Int)||jy (c.toNat:Int)
theorem Ey {s:By} {j:Nat} (hj:j<s.length):(s.drop j).takeWhile kp=if kp (s.getD j 0) then s.getD j 0::(s.drop (j+1)).takeWhile kp else []:=by
 rw[Z0k hj,List.takeWhile_cons,Z00,Z01 hj];rfl
theorem Dz (s:By) (hl0:s.length<9223372036854775807):FQ 166 [sV s,nI 0] 0 [] (nI ((s.takeWhile kp).length:Nat)) 0 []:=by
 refine wW Tryz.func166 ?_
 repeat'(first|refine yA ?_|refine y2 ?_ ?_|exact y5|fail)
 refine cD (σ:=Nat) (λj=>[(1,nI j)]) (λ_=>[]) (λj=>j<=s.length/\(s.takeWhile kp).length=j+((s.drop j).takeWhile kp).length) (λj=>s.length-j) 0 rfl (λ_=>rfl) ⟨Z08 _,av⟩ bc trivial ?_;rintro j ⟨hj,hE⟩
 rcases Z0a j s.length with h|h
 ·rw[Ey h] at hE
  have hl:=ep ((s.getD j 0).toNat:Int);have hd:=kw ((s.getD j 0).toNat:Int);rw[show kp (s.getD j 0)=(fa ((s.getD j 0).toNat:Int)||jy ((s.getD j 0).toNat:Int)) from rfl] at hE;generalize fa ((s.getD j 0).toNat:Int)=b1 at*;generalize jy ((s.getD j 0).toNat:Int)=b2 at*
  cases b1<;>cases b2<;>simp only[Z4m,Z41,if_true,Z3e,Z0l,if_false,Z04,Z0e] at hE
  all_goals
   repeat'(first|refine y1 ?_|refine y2 ?_ ?_|refine y4 λh=>?_|refine bt hl ?_|refine bt hd ?_|refine jE (.inl rfl) rfl ?_|refine dT (j+1) ⟨?_,?_⟩ ?_ rfl bc trivial rfl rfl (Z02 _)|refine y3 ?_|exact y5|fail)
 ·rw[Z10 h] at hE
  simp only[List.takeWhile_nil,Z0e] at hE
  repeat'(first|refine y1 ?_|refine y2 ?_ ?_|refine y4 λh=>?_|refine jE (.inl rfl) rfl ?_|refine y3 ?_|exact y5|fail)
def oJ (s:By):Bool:=s.any λc=>qk (c.toNat:Int)
theorem F0 {s:By} {j:Nat} (hj:j<s.length):((s.drop j).any λc=>qk (c.toNat:Int))=(qk ((s.getD j 0).toNat:Int)||((s.drop (j+1)).any λc=>qk (c.toNat:Int))):=by
 rw[Z0k hj,List.any_cons,Z00,Z01 hj];rfl
theorem qj (s:By) (hl0:s.length<9223372036854775807):FQ 167 [sV s] 0 [] (bV (oJ s)) 0 []:=by
 refine wW Tryz.func167 ?_
 repeat'(first|refine yA ?_|refine y2 ?_ ?_|exact y5|fail)
 refine cD (σ:=Nat) (λj=>[(3,nI j)]) (λ_=>[]) (λj=>j<=s.length/\oJ s=(s.drop j).any λc=>qk (c.toNat:Int)) (λj=>s.length-j) 0 rfl (λ_=>rfl) ⟨Z08 _,by simp[oJ]⟩ bc trivial ?_;rintro j ⟨hj,hE⟩
 rcases Z0a j s.length with h|h
 ·rw[F0 h] at hE
  repeat'(first|refine y1 ?_|refine y2 ?_ ?_|refine y4 λh=>?_|refine cJ (.inl rfl) rfl ?_|refine dT (j+1) ⟨?_,?_⟩ ?_ rfl bc trivial rfl rfl (Z02 _)|refine y3 ?_|exact y5|fail)
  all_goals first
   |(rw[hE,show qk ((s.getD j 0).toNat:Int)=true from decide_eq_true ⟨aa,aa⟩];rfl)
   |(rw[hE,show qk ((s.getD j 0).toNat:Int)=false from decide_eq_false aa];rfl)
 ·rw[Z10 h] at hE
  repeat'(first|refine y1 ?_|refine y2 ?_ ?_|refine y4 λh=>?_|refine cJ (.inl rfl) rfl ?_|refine y3 ?_|exact y5|fail)
  all_goals (rw[hE];rfl)
def CU (s:By):Bool:=decide (1<=s.length)&&decide (s.length<=4)&&fa ((s.getD 0 0).toNat:Int)&&decide ((s.takeWhile kp).length=s.length)&& !oJ s
theorem Fv (s:By) (hl0:s.length<9223372036854775807):FQ 99 [sV s] 0 [] (bV (CU s)) 0 []:=by
 have hl:=ep ((s.getD 0 0).toNat:Int);have hi:=Dz s hl0;have hw:=qj s hl0;unfold CU;generalize fa ((s.getD 0 0).toNat:Int)=b1 at*;generalize oJ s=b2 at*;generalize (s.takeWhile kp).length=k at*;refine wW Tryz.func99 ?_
 cases b1<;>cases b2
 all_goals
  repeat'(first|refine y1 ?_|refine y2 ?_ ?_|refine y4 λh=>?_|refine bt hl ?_|refine an hi ?_|refine bt hw ?_|refine cJ (.inl rfl) rfl ?_|refine y3 ?_|exact y5|fail)
  all_goals first
   |(simp;done)
   |(simp;omega)
theorem vH {p:UInt8->Bool}:∀ {s:By},(s.takeWhile p).length=s.length↔s.all p=true
 |[]=>by simp
 |c::s=>by
  rw[List.takeWhile_cons,Z1b];have:=vH (p:=p) (s:=s);cases h:p c
  ·simp
  ·simp only[if_true,Z04,Z1r,<-this];omega
theorem CT (s:By):CU s=aN s:=by
 unfold CU aN;by_cases h1:1<=s.length
 ·by_cases h2:s.length<=4
  ·rw[decide_eq_true h1,decide_eq_true h2]
   simp only[Z1r];rw[Z5t];simp only[Z07,decide_eq_true_eq,vH,Z0i,Z29,Z0v,oJ,Z4b];constructor
   ·rintro⟨⟨a,b⟩,c⟩ i hi
    have hm:s.getD i 0∈s:=by rw[Z00,Z01 hi];exact Z0s hi
    have b:=b _ hm;have c:=c _ hm;unfold lM uf;unfold kp fa jy at b;unfold qk at c;simp only[Z1h,decide_eq_true_eq] at b c |-
    cases i with
    |zero=>
     unfold fa at a;simp only[decide_eq_true_eq] at a;omega
    |succ i=>omega
   ·intro h
    refine⟨⟨?_,λc hc=>?_⟩,λc hc=>?_⟩
    ·have:=h 0 aa
     unfold lM uf at this;unfold fa;simp only[decide_eq_true_eq] at this |-;omega
    all_goals
     obtain⟨i,hi,rfl⟩:=Z2r.1 hc;have:=h i hi;rw[Z00,Z01 hi] at this;unfold lM uf at this
     try unfold kp fa jy
     try unfold qk
     simp only[Z1h,decide_eq_true_eq,Z22] at this |-;omega
  ·rw[decide_eq_false h2];simp
 ·rw[decide_eq_false h1];simp
theorem iS (s:By) (hl0:s.length<9223372036854775807):FQ 99 [sV s] 0 [] (bV (aN s)) 0 []:=CT s▸Fv s hl0
theorem rz (s:By) (hl0:s.length<9223372036854775807):FQ 138 [sV s] 0 [] (bV (aN s)) 0 []:=by
 refine wW Tryz.func138 ?_
 repeat'(first|refine y1 ?_|refine y2 ?_ ?_|refine an (iS s hl0) ?_|refine cJ (.inl rfl) rfl rfl|refine y3 ?_|exact y5|fail)
theorem eV (root:Bool) (up:Int) (segs:List By) (hs:∀ i,i<segs.length->(segs.getD i []).length<9223372036854775807):FQ 100 [.agg [.bool root,.int .i64 up,aR segs]] 0 [] (bV (aA ⟨root,up,segs⟩)) 0 []:=by
 refine wW Tryz.func100 ?_;cases root
 all_goals
  repeat'(first|refine y1 ?_|refine y2 ?_ ?_|refine y4 λh=>?_|refine cJ (.inl rfl) rfl ?_|refine y3 ?_|exact y5|fail)
  all_goals try first
   |exact aj aa aa
   |(unfold aA;simp;done)
   |(unfold aA;simp;omega)
   |(obtain rfl:segs=[]:=Z4u.1 aa
     obtain rfl:up=0:=aa
     rfl)
  all_goals
   refine cD (σ:=Nat) (λj=>[(3,nI j)]) (λ_=>[(0,some {cells:=[.bool _,.int .i64 up,aR segs],ty:=99})]) (λj=>j<=segs.length/\∀ i,i<j->aN (segs.getD i [])=true) (λj=>segs.length-j) 0 rfl (λ_=>rfl) ⟨Z08 _,λi hi=>by omega⟩ bc ⟨rfl,trivial⟩ ?_;rintro j ⟨hj,hall⟩
   repeat'(first|refine y1 ?_|refine y2 ?_ ?_|refine y4 λh=>?_|(refine wX ?_;refine CallG.bo (iS _ (hs j aa)) rfl rfl rfl ?_)|refine cJ (.inl rfl) rfl ?_|refine dT (j+1) ⟨?_,?_⟩ ?_ rfl bc ⟨rfl,trivial⟩ rfl rfl ac|refine y3 ?_|exact y5|fail)
   all_goals first
    |omega
    |exact aj aa aa
    |exact mo hall ae
    |(have:=B5 (l:=segs) (j:=j) aa ‹aN _=false›;unfold aA;rw[this];simp)
    |(have:=wY (l:=segs) λi hi=>hall i aa
      unfold aA;rw[this];simp;first|done|omega|exact λ_ _ _=>⟨aa,Z4u.1 aa⟩)
    |trace_state
end
namespace Ab
open Go
theorem SC.fresh {P:Program} {f:FuncId} {args:List V} {n n':Nat} {L:Hp} {v:V} (bl:Bl) (hL:∀ i,n<=i->lk L i=none) (hn:n+1<=n')
 (h:∀ (φ:Ph) (xs:List Value) (w:World),All2 (Vr φ) args xs->Good φ L w->Calls P f xs.toArray w λe w'=>∃ (g:Nat) (c:Nat->Option (Nat×Nat)) (y:Value),e=.returned y/\RowKit.Below w.heap.size w w'/\w.heap.size<=g/\c n=some (g,0)/\(∀ i,n'<=i->c i=none)/\∀ φ':Ph,φ.le φ'->(∀ i,n<=i->φ' i=c i)->Vr φ' v y/\BlAt φ' w' (g,0) bl):
 SC P f args n L v n' (put L n (some bl)):=by
 intro φ xs w h1 h2 h3;refine Z4d (h φ xs w h1 h2) ?_;rintro e w' ⟨g,c,y,rfl,hb,hlt,hcn,hc,hv⟩
 let φ':Ph:=⟨λi=>if n<=i then c i else φ i,φ.z⟩
 have hge:∀ i,n<=i->φ' i=c i:=λi hi=>by grind
 have hlo:∀ i,i<n->φ' i=φ i:=λi hi=>by grind
 have hle:φ.le φ':=by
  refine⟨λi b hi=>?_,λ_ _ h=>h⟩
  grind
 obtain⟨hv1,hv2⟩:=hv φ' hle hge;have hφn:φ' n=some (g,0):=ae
 have old:∀ j bj,lk (put L n (some bl)) j=some bj->n≠j->lk L j=some bj/\φ' j=φ j:=by
  grind [aE]
 have new:∀ j bj b,lk L j=some bj->φ j=some b->b.1<w.heap.size:=by
  intro j bj b hj hbj;obtain⟨b',hb',hat⟩:=h2.hr j bj hj
  grind [hat.lt]
 refine⟨φ',y,rfl,hv1,⟨λj bj hj=>?_,λj j' bj bj' b b₂ hj hj' hb1 hb2 hbb=>?_,λb l hb1=>?_,h2.gz⟩,λi hi=>?_,⟨hb.os,hb.tape,hb.output,hb.size,λb hb' _=>hb.block b hb',λj bj b hj hp hlt'=>?_,λ_ _ h=>h,λ_ _ h=> .inl h⟩,aa,λi hi=>hlo i hi⟩
 ·by_cases e:n=j
  ·grind [aE]
  ·obtain⟨hm,hφ⟩:=old j bj hj e
   obtain⟨b,hb1,hat⟩:=h2.hr j bj hm;exact⟨b,ae,hat.mono hle (hb.block _ hat.lt)⟩
 ·grind [h2.inj]
 ·have hl:=h2.fzlt hb1
  refine⟨by rw[hb.block b hl];exact (h2.fz b l hb1).1,?_⟩;rintro⟨i,bi,d,hi,hd,hdb,hro⟩;by_cases e:n=i
  ·grind
  ·obtain⟨hm,hφ⟩:=old i bi hi e
   exact (h2.fz b l hb1).2 ⟨i,bi,d,hm,ae,hdb,hro⟩
 all_goals grind
