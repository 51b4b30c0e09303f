import Derived.Test.YtegjgpldfgjoiaaGreatDoorCnJ17
import Derived.Sort.MapsRangeIn
import Derived.Lib.SlKeysI
import Derived.Sort.KeysCollected
import Derived.Sort.OwnSorted
import Derived.Maps.AppendAt
import Derived.Maps.OwnIn
import Derived.OwnWalkIn
import Derived.TacticsInMore
import Derived.RegionIn
import Derived.LoopNIn
import Derived.LoopIn
import Derived.CallsIn
set_option linter.all false
set_option maxHeartbeats 40000000
namespace Go.Proofs.YtegjgpldfgjoiaaGreatDoor
namespace Ab
open Go Go.MapKept
structure KD (κ:Type) where
 s:κ->S
 v:κ->Value
 d:TypeDesc
 sr:∀ (φ:Ph) k x,Sr φ (s k) x↔x=v k
 key:∀ k,IsKey d (v k)
 inj:∀ a b,v a=v b->a=b
 np:∀ k,bZ (s k)=true
def rf:KD Int:=⟨λk=> .int .i64 k,λk=> .int .i64 k,.int .i64,λ_ _ _=>Z44,λ_=>rfl,λa b h=>by cases h;rfl,λ_=>rfl⟩
theorem C3 (a b:List UInt8) (h:jq a=jq b):a=b:=by
 grind [jq]
def Lk:KD (List UInt8):=⟨λk=> .str k,jq,.string,λ_ _ _=>Z44,λ_=>trivial,C3,λ_=>rfl⟩
section
variable {κ α:Type}
abbrev En (κ α:Type):=List (Nat×κ×α)
def mB (K:KD κ) (agg:Bool) (w:Nat) (c:α->List S) (E:En κ α) (ck:Nat):Bl:={cells:=E.flatMap λe=>K.s e.2.1::c e.2.2,ty:=0,flat:=true,kind:=some ⟨w,agg,E.map (·.1),ck,false⟩}
def qN [DecidableEq κ]:En κ α->κ->Option α
 |[],_=>none
 |e::t,k=>if e.2.1=k then some e.2.2 else qN t k
def xI [DecidableEq κ]:En κ α->κ->α->En κ α
 |[],_,_=>[]
 |e::t,k,x=>if e.2.1=k then (e.1,k,x)::t else e::xI t k x
def deM [DecidableEq κ]:En κ α->κ->En κ α
 |[],_=>[]
 |e::t,k=>if e.2.1=k then t else e::deM t k
def Lq (agg:Bool) (vs:List Value):Value:=match agg with|true=> .agg vs.toArray|false=>vs.headD default
def VO (φ:Ph) (agg:Bool) (cs:List S) (v:Value):Prop:=∃ vs,v=Lq agg vs/\All2 (Sr φ) cs vs
def EntsR (φ:Ph) (K:KD κ) (agg:Bool) (c:α->List S):En κ α->List MapEntry->Prop
 |[],[]=>True
 |e::E,m::M=>(m.key=K.v e.2.1/\m.born=e.1/\VO φ agg (c e.2.2) m.val)/\EntsR φ K agg c E M
 |_,_=>False
variable {φ:Ph} {K:KD κ} {agg:Bool} {c:α->List S}
theorem wQ {w:Nat} (hw:∀ a,(c a).length=w):∀ {E:En κ α} {xs:List Value},All2 (Sr φ) (E.flatMap λe=>K.s e.2.1::c e.2.2) xs->EntsR φ K agg c E (yP agg w (E.map (·.1)) xs)
 |[],[],_=>trivial
 |[],_::_,h=>h.elim
 |e::E,[],h=>h.elim
 |e::E,x::xs,h=>by
  have h:Sr φ (K.s e.2.1) x/\All2 (Sr φ) (c e.2.2++E.flatMap λe=>K.s e.2.1::c e.2.2) xs:=h;have h1:=All2.take w h.2;have h2:=All2.drop w h.2;rw[Z3o ae,Z1l ae] at h1;rw[Z54 ae,Z10 ae,Z1e] at h2;exact⟨⟨(K.sr _ _ _).1 h.1,rfl,_,rfl,h1⟩,wQ hw h2⟩
theorem vC {w:Nat} (hw:∀ a,(c a).length=w):∀ {E:En κ α} {M:List MapEntry},EntsR φ K agg c E M->∃ xs,All2 (Sr φ) (E.flatMap λe=>K.s e.2.1::c e.2.2) xs/\yP agg w (E.map (·.1)) xs=M
 |[],[],_=>⟨[],trivial,rfl⟩
 |[],_::_,h=>h.elim
 |e::E,[],h=>h.elim
 |e::E,m::M,⟨⟨h1,h2,vs,h3,h4⟩,h5⟩=>by
  obtain⟨xs,g1,g2⟩:=vC hw h5;have hl:=h4.len;rw[hw] at hl;refine⟨m.key::(vs++xs),⟨(K.sr _ _ _).2 h1,h4.append g1⟩,?_⟩;show MapEntry.mk m.key _ e.1::yP agg w (E.map (·.1)) ((vs++xs).drop w)=_;rw[Z54 aa,Z10 aa,Z1e,g2,Z3o aa,Z1l aa];obtain⟨mk,mv,mb⟩:=m;simp only at h1 h2 h3;subst h2;subst h3;rfl
theorem EntsR.mono {φ':Ph} (hl:φ.le φ'):∀ {E:En κ α} {M:List MapEntry},EntsR φ K agg c E M->EntsR φ' K agg c E M
 |[],[],_=>trivial
 |[],_::_,h=>h.elim
 |_::_,[],h=>h.elim
 |e::E,m::M,⟨⟨h1,h2,vs,h3,h4⟩,h5⟩=>⟨⟨h1,h2,vs,h3,h4.mono λ_ _=>Sr.mono hl⟩,EntsR.mono hl h5⟩
theorem EntsR.find [DecidableEq κ] (k:κ):∀ {E:En κ α} {M:List MapEntry} (i:Nat),EntsR φ K agg c E M->
 (qN E k=none->Instr.findNow K.d (K.v k) M i=some none)/\
 (∀ x,qN E k=some x->∃ j m,Instr.findNow K.d (K.v k) M i=some (some (i+j,m.val))/\M[j]? =some m/\m.key=K.v k/\VO φ agg (c x) m.val/\
   (∀ y v,VO φ agg (c y) v->EntsR φ K agg c (xI E k y) (M.modify j λe=>{e with key:=K.v k,val:=v}))/\EntsR φ K agg c (deM E k) (M.eraseIdx j))
 |[],[],i,_=>⟨λ_=>rfl,λx h=>by cases h⟩
 |[],_::_,_,h=>h.elim
 |_::_,[],_,h=>h.elim
 |e::E,m::M,i,⟨⟨h1,h2,h3⟩,h5⟩=>by
  obtain⟨ih1,ih2⟩:=EntsR.find (k:=k) (i+1) h5;obtain⟨r,hr,hi⟩:=sameNow_of_keys (K.key k) (K.key e.2.1)
  have hf:Instr.findNow K.d (K.v k) (m::M) i=match r with|true=>some (some (i,m.val))|false=>Instr.findNow K.d (K.v k) M (i+1):=by
   grind [Instr.findNow]
  by_cases hk:e.2.1=k
  ·have hr1:r=true:=hi.2 (by rw[hk])
   subst hr1;refine⟨λh=>(by rw[qN,if_pos hk] at h;cases h),λx hx=>?_⟩;rw[qN,if_pos hk] at hx;cases hx;refine⟨0,m,hf,rfl,ae,h3,λy v hv=>?_,?_⟩
   ·rw[xI,if_pos hk]
    exact⟨⟨rfl,h2,hv⟩,h5⟩
   all_goals grind [deM]
  ·have hr1:r=false:=by
    cases r with
    |false=>rfl
    |true=>exact absurd (K.inj _ _ (hi.1 rfl)).symm hk
   subst hr1;refine⟨λh=>?_,λx hx=>?_⟩
   ·grind [qN]
   ·rw[qN,if_neg hk] at hx
    obtain⟨j,m',g1,g2,g3,g4,g5,g6⟩:=ih2 x hx;refine⟨j+1,m',ae,g2,g3,g4,λy v hv=>?_,?_⟩
    ·rw[xI,if_neg hk]
     exact⟨⟨h1,h2,h3⟩,g5 y v hv⟩
    ·rw[deM,if_neg hk]
     exact⟨⟨h1,h2,h3⟩,g6⟩
theorem EntsR.push {b:Nat} {k:κ} {y:α} {v:Value} (hv:VO φ agg (c y) v):∀ {E:En κ α} {M:List MapEntry},EntsR φ K agg c E M->EntsR φ K agg c (E++[(b,k,y)]) (M++[{key:=K.v k,val:=v,born:=b}])
 |[],[],_=>⟨⟨rfl,rfl,hv⟩,trivial⟩
 |[],_::_,h=>h.elim
 |_::_,[],h=>h.elim
 |e::E,m::M,⟨h1,h2⟩=>⟨h1,EntsR.push hv h2⟩
theorem EntsR.len:∀ {E:En κ α} {M:List MapEntry},EntsR φ K agg c E M->M.length=E.length
 |[],[],_=>rfl
 |[],_::_,h=>h.elim
 |_::_,[],h=>h.elim
 |e::E,m::M,⟨_,h⟩=>by simp[EntsR.len h]
abbrev fl (φ:Ph):Ph:=⟨λ_=>none,φ.z⟩
theorem rM {w:World} {b:Nat×Nat} {sz ck:Nat} {E:En κ α} {r:Bool} (hw:∀ a,(c a).length=sz) (h:BlAt φ w b {mB K agg sz c E ck with ro:=r}) (hb:b.2=0):∃ M,w.heap[b.1]? =some (.map M.toArray ck)/\EntsR (fl φ) K agg c E M:=by
 obtain⟨pre,xs,rest,fr,h1,h2,h3,h4,h5,h6⟩:=h;rw[hb] at h2;have:=Z15 h2;subst this;have:=h4 rfl;subst this;refine⟨_,?_,wQ hw h3⟩
 grind [mB,di]
theorem Ba {w:World} {b:Nat×Nat} {sz ck:Nat} {E:En κ α} {M:List MapEntry} (hw:∀ a,(c a).length=sz) (h:w.heap[b.1]? =some (.map M.toArray ck)) (hM:EntsR (fl φ) K agg c E M) (hb:b.2=0):BlAt φ w b (mB K agg sz c E ck):=by
 obtain⟨xs,h1,h2⟩:=vC hw hM;refine⟨[],xs,[],(0,0),?_,ae,h1,λ_=>rfl,λ_ o ho=>by simp,⟨λg z e=>(by cases e),λg e=>(by cases e)⟩⟩
 grind [mB,di]
def uO:Bool->List S->U
 |true,l=> .agg l
 |false,l=> .s (l.headD .unk)
theorem VO.ur {l:List S} {v:Value} (h:VO φ agg l v) (hl:agg=false->l.length=1):Ur φ (uO agg l) v:=by
 obtain⟨vs,rfl,h⟩:=h
 cases agg with
 |true=>exact⟨vs,rfl,h⟩
 |false=>
  match l,vs,h,hl rfl with
  |[x],[y],h,_=>exact h.1
end
section
variable {t:TypeId} {agg:Bool}
def orC {α:Type} (c:α->List S) (zs:List S):Option α->List S
 |some x=>c x
 |none=>zs
def kG (P:Program) (t:TypeId) (agg:Bool):Option (List S):=
 match P.info? t with
 |some i=>match i.zero with
  |some v=>match agg,v with
   |true,.agg cs=>Bs cs.toList
   |true,_=>none
   |false,v=>match toS v with|some x=>some [x]|none=>none
  |none=>none
 |none=>none
theorem GC {P:Program} {l:List S} (h:kG P t agg=some l) (w:World):∃ z,(zeroValue t).run P w=.ok z w/\∀ φ,Ur φ (uO agg l) z:=by
 unfold kG at h;split at h
 ·rename_i i hi
  split at h
  ·rename_i v hv
   refine⟨v,by simp[zeroValue,typeInfo,hi,hv],λφ=>?_⟩;split at h
   ·rename_i cs
    exact⟨cs.toList,aq,xM h⟩
   ·cases h
   ·split at h
    ·rename_i x hx
     cases h;exact IJ hx
    ·cases h
  ·cases h
 ·cases h
section
variable {P:Program} {b:Nat} {ops:Array Oper} {d:Bool} {acc:List Row} {os:List Oper} {o:Oper} {env:List V} {n:Nat} {L:Hp} {R:Post}
variable {κ α:Type}
theorem Aw [DecidableEq κ] {K:KD κ} {agg:Bool} {w:Nat} {c:α->List S} {E:En κ α} {ck:Nat} {r0:Bool} {i:Nat} {k:κ} {tx kt et:TypeId} {zs:List S} (hw:∀ a,(c a).length=w) (h1:agg=false->w=1)
 (hty:P.underlying tx=some (.map kt et)) (hd:P.underlying kt=some K.d) (hz:kG P et agg=some zs) {φ:Ph} {W:World} (hg:Good φ L W) (hl:lk L i=some {mB K agg w c E ck with ro:=r0}) {v:Value} (hv:Sr φ (.map (some i)) v) (ok:Bool):
 ∃ y,(Instr.lookup tx v (K.v k) ok).run P W=.ok (if ok then .tuple #[y,.bool (qN E k).isSome] else y) W/\Ur φ (uO agg (orC c zs (qN E k))) y:=by
 obtain⟨b,hb,hb2,rfl⟩:=hv;obtain⟨b',hb',hat⟩:=hg.hr i _ hl;rw[hb] at hb';cases hb';obtain⟨M,hm,hM⟩:=rM hw hat hb2
 have hc:=λem=>run_checkKey (P:=P) (w:=W) hd (K.key k) em 9999
 obtain⟨f1,f2⟩:=EntsR.find k 0 hM
 cases r:qN E k with
 |none=>
  have hf:=run_findKey (P:=P) (w:=W) hd (f1 r);obtain⟨z,z1,z2⟩:=GC hz W;refine⟨z,?_,z2 φ⟩;simp only[Instr.lookup,Z09,Ab.run_underlying hty,Z05,Z1q hm,Z0f];simp[hc,hf,z1]
 |some x=>
  obtain⟨j,m,g1,g2,g3,g4,_⟩:=f2 x r;have hf:=run_findKey (P:=P) (w:=W) hd g1;refine⟨m.val,?_,?_⟩
  ·simp only[Instr.lookup,Z09,Ab.run_underlying hty,Z05,Z1q hm,Z0f]
   simp[hc,hf]
  ·have:=Ur.mono (φ:=fl φ) (φ':=φ) ⟨λ_ _ h=>(by cases h),λ_ _ h=>h⟩ (g4.ur (λe=>by grind))
   exact this
theorem RegX.lkT [DecidableEq κ] {dst:Option Tmp} {x ix:Operand} {tx kt et:TypeId} {t:TypeId} {pos:String} {af:Array Edge} {gd:Option (Nat×Bool)} {K:KD κ} {agg:Bool} {w:Nat} {c:α->List S} {E:En κ α} {ck:Nat} {r0:Bool} {i:Nat} {k:κ} {zs:List S} (r:Option α)
 (hx:ev env x=.s (.map (some i))) (hix:ev env ix=.s (K.s k)) (hl:lk L i=some {mB K agg w c E ck with ro:=r0}) (hw:∀ a,(c a).length=w) (h1:agg=false->w=1) (hty:P.underlying tx=some (.map kt et)) (hd:P.underlying kt=some K.d) (hz:kG P et agg=some zs) (hr:qN E k=r)
 (hwt:bf ops env ⟨dst,.lookup tx x ix true,t,pos,af,gd⟩=some true)
 (kk:RegX P ops d (aE d ⟨dst,.lookup tx x ix true,t,pos,af,gd⟩ [i] [] acc) os (bg env dst (.tup [uO agg (orC c zs r),.s (.bool r.isSome)])) n L R):
 RegX P ops d acc (⟨dst,.lookup tx x ix true,t,pos,af,gd⟩::os) env n L R:=by
 refine RegX.op (foot:=[i]) (wr:=[]) hwt (OpL.light λφ a W hop hg=>?_) (Z02 _) kk;have g1:=hop x (by simp[Op.operands]);have g2:=hop ix (by simp[Op.operands]);rw[hx] at g1;rw[hix] at g2;have g2:a.eval ix=K.v k:=(K.sr _ _ _).1 g2;obtain⟨y,y1,y2⟩:=Aw (κ:=κ) (k:=k) hw h1 hty hd hz hg (i:=i) (E:=E) (ck:=ck) (r0:=r0) (by rw[bJ];simp[hl]) g1 true;rw[hr] at y1 y2;exact⟨.tuple #[y,.bool r.isSome],by simp only[execOp,g2,Z09,y1,Z05];rfl,[y,.bool r.isSome],rfl,y2,rfl,trivial⟩
theorem RegX.lk1 [DecidableEq κ] {dst:Option Tmp} {x ix:Operand} {tx kt et:TypeId} {t:TypeId} {pos:String} {af:Array Edge} {gd:Option (Nat×Bool)} {K:KD κ} {agg:Bool} {w:Nat} {c:α->List S} {E:En κ α} {ck:Nat} {r0:Bool} {i:Nat} {k:κ} {zs:List S} (r:Option α)
 (hx:ev env x=.s (.map (some i))) (hix:ev env ix=.s (K.s k)) (hl:lk L i=some {mB K agg w c E ck with ro:=r0}) (hw:∀ a,(c a).length=w) (h1:agg=false->w=1) (hty:P.underlying tx=some (.map kt et)) (hd:P.underlying kt=some K.d) (hz:kG P et agg=some zs) (hr:qN E k=r)
 (hwt:bf ops env ⟨dst,.lookup tx x ix false,t,pos,af,gd⟩=some true)
 (kk:RegX P ops d (aE d ⟨dst,.lookup tx x ix false,t,pos,af,gd⟩ [i] [] acc) os (bg env dst (J1 (uO agg (orC c zs r)))) n L R):
 RegX P ops d acc (⟨dst,.lookup tx x ix false,t,pos,af,gd⟩::os) env n L R:=by
 refine RegX.op (foot:=[i]) (wr:=[]) hwt (OpL.light λφ a W hop hg=>?_) (Z02 _) kk;have g1:=hop x (by simp[Op.operands]);have g2:=hop ix (by simp[Op.operands]);rw[hx] at g1;rw[hix] at g2;have g2:a.eval ix=K.v k:=(K.sr _ _ _).1 g2;obtain⟨y,y1,y2⟩:=Aw (κ:=κ) (k:=k) hw h1 hty hd hz hg (i:=i) (E:=E) (ck:=ck) (r0:=r0) (by rw[bJ];simp[hl]) g1 false;rw[hr] at y2;exact⟨_,by simp only[execOp,g2,Z09,y1,Z05];rfl,DQ y2⟩
theorem IE {φ:Ph} {l:List S} {v:Value} (hl:agg=false->l.length=1) (hn:l.all bZ=true) (h:Vr φ (J1 (uO agg l)) v):VO (fl φ) agg l v:=by
 cases agg with
 |true=>
  obtain⟨xs,rfl,h⟩:=h;exact⟨xs,rfl,il (φ:=φ) (ψ:=fl φ) (λ_ _ h=>h) hn h⟩
 |false=>
  match l,hl rfl,h with
  |[x],_,h=>exact⟨[v],rfl,il (φ:=φ) (ψ:=fl φ) (λ_ _ h=>h) hn ⟨h,trivial⟩⟩
theorem RegX.muN [DecidableEq κ] {dst:Option Tmp} {x ix y:Operand} {tx kt et:TypeId} {t:TypeId} {pos:String} {af:Array Edge} {gd:Option (Nat×Bool)} {K:KD κ} {agg:Bool} {w:Nat} {c:α->List S} {E:En κ α} {ck:Nat} {i:Nat} {k:κ} (a0:α)
 (hx:ev env x=.s (.map (some i))) (hix:ev env ix=.s (K.s k)) (hy:VLe (ev env y) (J1 (uO agg (c a0)))) (hl:lk L i=some (mB K agg w c E ck)) (hw:∀ a,(c a).length=w) (h1:agg=false->w=1) (hn:(c a0).all bZ=true) (hty:P.underlying tx=some (.map kt et)) (hd:P.underlying kt=some K.d) (hr:qN E k=none)
 (hwt:bf ops env ⟨dst,.mapUpdate tx x ix y,t,pos,af,gd⟩=some true)
 (kk:RegX P ops d (aE d ⟨dst,.mapUpdate tx x ix y,t,pos,af,gd⟩ [i] [(i,some (mB K agg w c (E++[(ck,k,a0)]) (ck+1)))] acc) os (bg env dst .undef) n (aA L [(i,some (mB K agg w c (E++[(ck,k,a0)]) (ck+1)))]) R):
 RegX P ops d acc (⟨dst,.mapUpdate tx x ix y,t,pos,af,gd⟩::os) env n L R:=by
 refine RegX.op (foot:=[i]) (wr:=[(i,some (mB K agg w c (E++[(ck,k,a0)]) (ck+1)))]) hwt ?_ (Z02 _) kk;intro φ a W Q hop hg hf
 have e1:res [i] L=[(i,some (mB K agg w c E ck))]:=by simp[res,hl]
 have e2:aA (res [i] L) [(i,some (mB K agg w c (E++[(ck,k,a0)]) (ck+1)))]=[(i,some (mB K agg w c (E++[(ck,k,a0)]) (ck+1)))]:=by rw[e1];simp[aA,put]
 have g1:=hop x (by simp[Op.operands]);have g2:=hop ix (by simp[Op.operands]);have g3:=hop y (by simp[Op.operands]);rw[hx] at g1;rw[hix] at g2;have g3:=hy φ _ g3;obtain⟨b,hb,hb2,hv⟩:=g1;have g2:a.eval ix=K.v k:=(K.sr _ _ _).1 g2;have g3:=IE (λe=>by grind) hn g3;rw[e1] at hg;obtain⟨b',hb',hat⟩:=hg.hr i (mB K agg w c E ck) (by simp[lk]);rw[hb] at hb';cases hb';obtain⟨M,hm,hM⟩:=rM (r:=false) hw hat hb2;have hlt:=hat.lt
 have hc:=λem=>run_checkKey (P:=P) (w:=W) hd (K.key k) em 9999
 have hfn:=run_findKey (P:=P) (w:=W) hd ((EntsR.find k 0 hM).1 hr)
 have hrun:(execOp a.eval ⟨dst,.mapUpdate tx x ix y,t,pos,af,gd⟩).run P W=.ok .skip {W with heap:=W.heap.setIfInBounds b.1 (.map (M++[MapEntry.mk (K.v k) (a.eval y) ck]).toArray (ck+1))}:=by
  simp only[execOp,Instr.mapUpdate,Z09,Ab.run_underlying hty,Z05,hv,Z1q hm,Z0f,g2,hc,hfn];rw[Z4n _ hm];simp
 obtain⟨good,stp⟩:=tA (bl':=mB K agg w c (E++[(ck,k,a0)]) (ck+1)) (ob:=.map (M++[MapEntry.mk (K.v k) (a.eval y) ck]).toArray (ck+1)) hg hb rfl rfl (Ba hw ae (EntsR.push g3 hM) hb2);unfold Oper.wp;rw[hrun,Z5w];exact⟨φ,Go.undef,rfl,rfl,ae,ae,λ_ _=>rfl⟩
theorem RegX.muO [DecidableEq κ] {dst:Option Tmp} {x ix y:Operand} {tx kt et:TypeId} {t:TypeId} {pos:String} {af:Array Edge} {gd:Option (Nat×Bool)} {K:KD κ} {agg:Bool} {w:Nat} {c:α->List S} {E:En κ α} {ck:Nat} {i:Nat} {k:κ} {x0:α} (a0:α)
 (hx:ev env x=.s (.map (some i))) (hix:ev env ix=.s (K.s k)) (hy:VLe (ev env y) (J1 (uO agg (c a0)))) (hl:lk L i=some (mB K agg w c E ck)) (hw:∀ a,(c a).length=w) (h1:agg=false->w=1) (hn:(c a0).all bZ=true) (hty:P.underlying tx=some (.map kt et)) (hd:P.underlying kt=some K.d) (hr:qN E k=some x0)
 (hwt:bf ops env ⟨dst,.mapUpdate tx x ix y,t,pos,af,gd⟩=some true)
 (kk:RegX P ops d (aE d ⟨dst,.mapUpdate tx x ix y,t,pos,af,gd⟩ [i] [(i,some (mB K agg w c (xI E k a0) ck))] acc) os (bg env dst .undef) n (aA L [(i,some (mB K agg w c (xI E k a0) ck))]) R):
 RegX P ops d acc (⟨dst,.mapUpdate tx x ix y,t,pos,af,gd⟩::os) env n L R:=by
 refine RegX.op (foot:=[i]) (wr:=[(i,some (mB K agg w c (xI E k a0) ck))]) hwt ?_ (Z02 _) kk;intro φ a W Q hop hg hf
 have e1:res [i] L=[(i,some (mB K agg w c E ck))]:=by simp[res,hl]
 have e2:aA (res [i] L) [(i,some (mB K agg w c (xI E k a0) ck))]=[(i,some (mB K agg w c (xI E k a0) ck))]:=by rw[e1];simp[aA,put]
 have g1:=hop x (by simp[Op.operands]);have g2:=hop ix (by simp[Op.operands]);have g3:=hop y (by simp[Op.operands]);rw[hx] at g1;rw[hix] at g2;have g3:=hy φ _ g3;obtain⟨b,hb,hb2,hv⟩:=g1;have g2:a.eval ix=K.v k:=(K.sr _ _ _).1 g2;have g3:=IE (λe=>by grind) hn g3;rw[e1] at hg;obtain⟨b',hb',hat⟩:=hg.hr i (mB K agg w c E ck) (by simp[lk]);rw[hb] at hb';cases hb';obtain⟨M,hm,hM⟩:=rM (r:=false) hw hat hb2;have hlt:=hat.lt
 have hc:=λem=>run_checkKey (P:=P) (w:=W) hd (K.key k) em 9999
 obtain⟨j,m,f1,f2,f3,f4,f5,_⟩:=(EntsR.find k 0 hM).2 x0 hr;rw[Z0c] at f1;have hfn:=run_findKey (P:=P) (w:=W) hd f1
 have hks:=λW=>run_keyThatStays (P:=P) (w:=W) (K.key k)
 have hrun:(execOp a.eval ⟨dst,.mapUpdate tx x ix y,t,pos,af,gd⟩).run P W=.ok .skip {W with heap:=W.heap.setIfInBounds b.1 (.map (M.modify j λe=>{e with key:=K.v k,val:=a.eval y}).toArray ck)}:=by
  have hj:(M.toArray)[j]? =some m:=ae;simp only[execOp,Instr.mapUpdate,Z09,Ab.run_underlying hty,Z05,hv,Z1q hm,Z0f,g2,hc,hfn,hj,Z1j,Z22,f3,hks];rw[Z4n _ hm];simp
 obtain⟨good,stp⟩:=tA (bl':=mB K agg w c (xI E k a0) ck) (ob:=.map (M.modify j λe=>{e with key:=K.v k,val:=a.eval y}).toArray ck) hg hb rfl rfl (Ba hw ae (f5 a0 _ g3) hb2);unfold Oper.wp;rw[hrun,Z5w];exact⟨φ,Go.undef,rfl,rfl,ae,ae,λ_ _=>rfl⟩
theorem RegX.mkM {dst:Option Tmp} {tx:TypeId} {pos:String} {af:Array Edge} {gd:Option (Nat×Bool)} (K:KD κ) (agg:Bool) (w:Nat) (c:α->List S) (hw:∀ a,(c a).length=w)
 (hwt:bf ops env ⟨dst,.makeMap tx none,t,pos,af,gd⟩=some true)
 (kk:RegX P ops d (aE d ⟨dst,.makeMap tx none,t,pos,af,gd⟩ [] [(n,some (mB K agg w c [] 0))] acc) os (bg env dst (.s (.map (some n)))) (n+1) (aA L [(n,some (mB K agg w c [] 0))]) R):
 RegX P ops d acc (⟨dst,.makeMap tx none,t,pos,af,gd⟩::os) env n L R:=by
 refine RegX.op (foot:=[]) (wr:=[(n,some (mB K agg w c [] 0))]) hwt ?_ (Z3s _) kk
 have e:aA (res ([]:List Nat) L) [(n,some (mB K agg w c [] 0))]=put [] n (some (mB K agg w c [] 0)):=by simp[res,aA]
 rw[e]
 refine OpL.fresh (L:=[]) (by simp[lk]) λφ a W hop _=>?_
 refine⟨.map (some W.heap.size),{W with heap:=W.heap.push (.map #[] 0)},?_,rfl,rfl,rfl,⟨_,rfl⟩,Ba (M:=[]) hw aq trivial rfl,λφ' hn _=>⟨_,hn,rfl,rfl⟩⟩;simp[execOp,Instr.makeMap,newObj,Sem.run]
theorem RegX.lnM {dst:Option Tmp} {x:Operand} {tx kt et:TypeId} {t:TypeId} {pos:String} {af:Array Edge} {gd:Option (Nat×Bool)} {K:KD κ} {w:Nat} {c:α->List S} {E:En κ α} {ck:Nat} {r0:Bool} {i:Nat}
 (hx:ev env x=.s (.map (some i))) (hl:lk L i=some {mB K agg w c E ck with ro:=r0}) (hw:∀ a,(c a).length=w) (hty:P.underlying tx=some (.map kt et))
 (hwt:bf ops env ⟨dst,.call ⟨.builtin .len,#[x],#[tx]⟩,t,pos,af,gd⟩=some true)
 (kk:RegX P ops d (aE d ⟨dst,.call ⟨.builtin .len,#[x],#[tx]⟩,t,pos,af,gd⟩ [i] [] acc) os (bg env dst (.s (.int .i64 (E.length:Int)))) n L R):
 RegX P ops d acc (⟨dst,.call ⟨.builtin .len,#[x],#[tx]⟩,t,pos,af,gd⟩::os) env n L R:=by
 refine RegX.op (foot:=[i]) (wr:=[]) hwt (OpL.light λφ a W hop hg=>?_) (Z02 _) kk;have g1:=hop x (by simp[Op.operands,Call.operands]);rw[hx] at g1;obtain⟨b,hb,hb2,hv⟩:=g1;obtain⟨b',hb',hat⟩:=hg.hr i {mB K agg w c E ck with ro:=r0} (by rw[bJ];simp[hl]);rw[hb] at hb';cases hb';obtain⟨M,hm,hM⟩:=rM hw hat hb2;refine⟨.int .i64 (E.length:Int),?_,rfl⟩;simp only[execOp,resolve,Z09,Z0f,Z05,invoke,builtin,Z3u,Z13,Z3d,hv];simp[Builtin.len_,Builtin.lenOf,Ab.run_underlying hty,goInt,Z1q hm,hM.len]
end
end
end Ab
namespace Ab
open Go
structure Hold (p:Prop):Prop where
 k:p
theorem SC.fresh {P:Program} {f:FuncId} {args:List V} {n n':Nat} {L:Hp} {v:V} (bl:Bl) (hL:∀ i,n<=i->lk L i=none) (hn:n+1<=n')
 (h:∀ (φ:Ph) (xs:List Value) (w:World),All2 (Vr φ) args xs->Good φ L w->Calls P f xs.toArray w λe w'=>∃ (g:Nat) (c:Nat->Option (Nat×Nat)) (y:Value),e=.returned y/\RowKit.Below w.heap.size w w'/\w.heap.size<=g/\c n=some (g,0)/\(∀ i,n'<=i->c i=none)/\∀ φ':Ph,φ.le φ'->(∀ i,n<=i->φ' i=c i)->Vr φ' v y/\BlAt φ' w' (g,0) bl):
 SC P f args n L v n' (put L n (some bl)):=by
 intro φ xs w h1 h2 h3;refine Z4d (h φ xs w h1 h2) ?_;rintro e w' ⟨g,c,y,rfl,hb,hlt,hcn,hc,hv⟩
 let φ':Ph:=⟨λi=>if n<=i then c i else φ i,φ.z⟩
 have hge:∀ i,n<=i->φ' i=c i:=λi hi=>by grind
 have hlo:∀ i,i<n->φ' i=φ i:=λi hi=>by grind
 have hle:φ.le φ':=by
  refine⟨λi b hi=>?_,λ_ _ h=>h⟩
  grind
 obtain⟨hv1,hv2⟩:=hv φ' hle hge;have hφn:φ' n=some (g,0):=ae
 have old:∀ j bj,lk (put L n (some bl)) j=some bj->n≠j->lk L j=some bj/\φ' j=φ j:=by
  grind [aC]
 have new:∀ j bj b,lk L j=some bj->φ j=some b->b.1<w.heap.size:=by
  intro j bj b hj hbj;obtain⟨b',hb',hat⟩:=h2.hr j bj hj
  grind [hat.lt]
 refine⟨φ',y,rfl,hv1,⟨λj bj hj=>?_,λj j' bj bj' b b₂ hj hj' hb1 hb2 hbb=>?_,λb l hb1=>?_,h2.gz⟩,λi hi=>?_,⟨hb.os,hb.tape,hb.output,hb.size,λb hb' _=>hb.block b hb',λj bj b hj hp hlt'=>?_,λ_ _ h=>h,λ_ _ h=> .inl h⟩,aa,λi hi=>hlo i hi⟩
 ·by_cases e:n=j
  ·grind [aC]
  ·obtain⟨hm,hφ⟩:=old j bj hj e
   obtain⟨b,hb1,hat⟩:=h2.hr j bj hm;exact⟨b,ae,hat.mono hle (hb.block _ hat.lt)⟩
 ·grind [h2.inj]
 ·have hl:=h2.fzlt hb1
  refine⟨by rw[hb.block b hl];exact (h2.fz b l hb1).1,?_⟩;rintro⟨i,bi,d,hi,hd,hdb,hro⟩;by_cases e:n=i
  ·grind
  ·obtain⟨hm,hφ⟩:=old i bi hi e
   exact (h2.fz b l hb1).2 ⟨i,bi,d,hm,ae,hdb,hro⟩
 all_goals grind
end Ab
section
open Go.RowKit Go.Maps Go.Sort
abbrev EntT:=ByteArray×Int×Int×Int×Int×Int×Int×Int×Int×Int×Int×Int×Int×Int
def sa:EntT->Value
 |(s,z1,p,z3,z4,z5,z6,z7,z8,z9,z10,z11,z12,z13)=> .agg #[.string s,.int .i64 z1,.int .i64 p,.int .i64 z3,.int .i64 z4,.int .i64 z5,.int .u64 z6,.int .u64 z7,.int .i64 z8,.int .i64 z9,.int .i64 z10,.int .i64 z11,.int .i64 z12,.int .i64 z13]
def wR (l:List Value):Option EntT:=
 match l with
 |[.string s,.int .i64 z1,.int .i64 p,.int .i64 z3,.int .i64 z4,.int .i64 z5,.int .u64 z6,.int .u64 z7,.int .i64 z8,.int .i64 z9,.int .i64 z10,.int .i64 z11,.int .i64 z12,.int .i64 z13]=>some (s,z1,p,z3,z4,z5,z6,z7,z8,z9,z10,z11,z12,z13)
 |_=>none
def iv {H:Type} (v:Value):Option (DataW H×List MemPlace):=
 match v with
 | .agg a=>match wR a.toList with|some c=>some (.lit (.int .i64 c.2.2.1),[])|none=>none
 |_=>none
theorem Cb {l:List Value} {c:EntT} (h:wR l=some c):.agg l.toArray=sa c:=by
 unfold wR at h;split at h
 ·cases h;rfl
 ·cases h
theorem se {H:Type} {v:Value} {y:DataW H×List MemPlace} (h:iv v=some y):∃ c:EntT,v=sa c/\y=(.lit (.int .i64 c.2.2.1),[]):=by
 unfold iv at h;split at h
 ·rename_i a
  split at h
  ·rename_i c hc
   cases h;exact⟨c,by rw[<-Cb hc],rfl⟩
  ·cases h
 ·cases h
theorem Kh:Keyed Tryz.prog 3:=int_keyed Tryz.underlying3
theorem Md:(Tryz.prog.info? 3).map (λi=>(i.zero,i.size,i.bytes))=some (some (.int .i64 0),1,8):=by kernel_rfl
def Chd {H:Type} (D0:DataW H) (id:Int) (left:Lit->Bool) (ss:List Int):Prop:=ss.Nodup/\∀ x,x∈ss↔(has D0 (.int .i64 x)=true/\left (.int .i64 x)=false/\∀ zd,D0.atKey (.int .i64 x) zd=.lit (.int .i64 id))
theorem Chd.start {H:Type} (D0:DataW H) (id:Int):Chd D0 id (has D0) []:=⟨List.nodup_nil,λx=>by grind⟩
theorem Chd.step {H:Type} {D0:DataW H} {id:Int} {left:Lit->Bool} {ss:List Int} (h:Chd D0 id left ss) {x p:Int} (hlk:left (.int .i64 x)=true) (hat:∀ zd,D0.atKey (.int .i64 x) zd=.lit (.int .i64 p)):
 Chd D0 id (λz=>left z&& !z.sameKey (.int .i64 x)) (if p=id then ss++[x] else ss):=by
 have hhas:has D0 (.int .i64 x)=true:=has_true_of_atKey hat
 have hnew:x∉ss:=λhx=>by have:=((h.2 x).1 hx).2.1;rw[hlk] at this;cases this
 have same:∀ y:Int,(Lit.int .i64 y).sameKey (.int .i64 x)=decide (y=x):=λy=>by simp[Lit.sameKey]
 split
 ·rename_i hp
  subst hp;refine⟨List.nodup_append.2 ⟨h.1,by simp,λa ha b hb=>by simp at hb;subst hb;exact λe=>hnew (e▸ha)⟩,λy=>?_⟩;by_cases hy:y=x
  ·grind
  ·simp[h.2 y,hy,same]
 ·rename_i hp
  refine⟨h.1,λy=>?_⟩;by_cases hy:y=x
  ·subst hy
   simp only[hnew,false_iff,not_and];intro _ _ hz;have:=(hat (.lit (.int .i64 0))).symm.trans (hz _)
   grind
  ·simp[h.2 y,hy,same]
set_option maxRecDepth 100000 in
theorem uj {H:Type} (bs os b n:Nat) (id:Int) (D0:DataW H) (w:World)
 (hsort:∀ m,(∀ (blk off cap:Nat) (ss:List Int) (W:World),Holds encZ W blk off ss.toArray->blk<W.heap.size->ss.length<4611686018427387904->
   CallsIn Fence.wide m Tryz.prog 74 #[.slice (some ⟨blk,off,none⟩) ss.length cap] W λe w'=>e=.returned (.tuple #[])/\∃ k os,w'=grow (putRow encZ (Sort.ahead W k) blk off (ss.mergeSort λx y=>decide (x<=y)).toArray) os)/\
   (∀ (p:Option Addr) (cap:Nat) (W:World),CallsIn Fence.wide m Tryz.prog 74 #[.slice p 0 cap] W λe w'=>e=.returned (.tuple #[])/\w'=W))
 (hcell:w.cell? ⟨bs,os,none⟩=some (.map (some b))) (hbs:bs<w.heap.size) (hown:w.ownsMap Tryz.prog 3 iv b n D0) (hhas:has D0 (.int .i64 id)=true) (hwf:(Lit.int .i64 id).wf=true) (hmax:Maps.size D0<=maxLen) (hbytes:Maps.size D0*8<=140737488355328):
 CallsIn Fence.wide 8 Tryz.prog 29 #[.pointer (some ⟨bs,os,none⟩),.int .i64 id] w λe w'=>∃ (v:Value) (ss:List Int),e=.returned v/\Chd D0 id (λ_=>false) ss/\
  w'.ownsRow w.heap.size 3 1 v ss.length ((ss.mergeSort (λx y=>decide (x<=y))).map encZ)/\(v=.slice none 0 0↔ss=[])/\Below w.heap.size w w':=by
 obtain⟨i0,hi,hz0,hz1,hz2⟩:=info_parts Md;have hbl:=hown.lt
 have hkey:keyOf Tryz.prog 3 (.int .i64 id)=some (.int .i64 id):=by simp[keyOf,Tryz.underlying3,mapKey,hwf]
 obtain⟨v0,ps0,hlook,hv0⟩:=hown.look_ok Kh Tryz.underlying76 (Tryz.zeroValue86 w) (zd:=.lit (.int .i64 0)) (zp:=[]) rfl hkey;rw[hhas] at hlook;obtain⟨⟨a0,a1,ap,a3,a4,a5,a6,a7,a8,a9,a10,a11,a12,a13⟩,rfl,_⟩:=se hv0;rename_i hq0;clear hv0 hq0;simp only[sa] at hlook;refine callsIn_of_wp Tryz.func29 rfl trivial ?_ rfl;simp only[Tryz.ntmps29,List.size_toArray,List.length_cons,List.length_nil,Nat.reduceAdd,Nat.reduceSub,Array.replicate_succ,Array.replicate_zero,List.push_toArray,List.append_toArray,List.nil_append,List.cons_append]
 gi_wp2_with (first
  |(gi_at_range;refine wpListIn_range_own _ rfl _ 76 rfl 3 86 Kh Tryz.underlying76 _ b n _ rfl (hown.kept (World.grownBy_alloc w _ none) (by simp)) ?_;intro w0 hrg0 hg0 hs0)
  |gi_in)
 obtain⟨rr,hrr⟩:∃ rr,rr=(w.alloc (.cells #[.string a0,.int .i64 a1,.int .i64 ap,.int .i64 a3,.int .i64 a4,.int .i64 a5,.int .u64 a6,.int .u64 a7,.int .i64 a8,.int .i64 a9,.int .i64 a10,.int .i64 a11,.int .i64 a12,.int .i64 a13] 86)).heap.size:=⟨_,rfl⟩
 rw[<-hrr] at hrg0 |-
 have hrl:w.heap.size<=rr:=by rw[hrr];simp
 clear hrr;have hfS:Fence.wide.fn 74:=trivial
 go_frame
 gi_loopw [5] (λv wr=>∃ (left:Lit->Bool) (cnt:Nat) (ss:List Int),wr.ranges Tryz.prog 3 iv b rr n D0 left cnt/\ss.length+cnt<=Maps.size D0/\
  wr.ownsRow w.heap.size 3 1 v ss.length (ss.map encZ)/\(v=.slice none 0 0↔ss=[])/\Chd D0 id left ss/\Below w.heap.size w wr)
  (λ_ wr=>wr.rangeLeft b rr)
 case atStart=>
  exact⟨_,_,[],hrg0,by simp,⟨by simp,.inl ⟨rfl,rfl⟩⟩,by simp,Chd.start D0 id,((Below.refl _ _).alloc (Nat.le_refl _) _).grown hg0 (by simp) (λj hj=>by cases hj)⟩
 case round=>
  obtain⟨left,cnt,ss,hrg,hcs,hrow,hnn,hC,hnx⟩:=hrel
  gi_wp2_with (first
   |(gi_at_next;refine wpListIn_next_ranges _ rfl _ rfl 3 Kh iv encZ sa (λkey kl hk=>by obtain⟨x,hx,_⟩:=Maps.keyOf_i64 Tryz.underlying3 hk;exact⟨x,hx⟩) (λv y hv=>by grind [se]) b rr n _ _ _ rfl hrg ?_ ?_)
   |gi_in)
  ·intro hc0 hl0
   have hCe:Chd D0 id (λ_=>false) ss:=⟨hC.1,λx=>by rw[hC.2 x,hl0]⟩
   rcases hrow.2 with ⟨hnil,hz⟩|⟨g,cap,cur,hv,hbase,hb,h1,h2,h3,h4⟩
   ·have hss:=hnn.1 hnil
    subst hss;subst hnil;have hc:=(hsort 7).2 none 0 wr
    gi_wp2_with (gi_at_call 74;refine hc.mono ?_;rintro e w' ⟨rfl,rfl⟩)
    go_ret
    exact⟨.slice none 0 0,[],rfl,hCe,by simpa using hrow,by simp,hnx⟩
   ·subst hv
    have hH:Holds encZ wr g 0 ss.toArray:=holds_of_block_i hb (by grind);have hgl:g<wr.heap.size:=(Array.getElem?_eq_some_iff.1 hb).1;have hc:=(hsort 7).1 g 0 cap ss wr hH hgl (by grind)
    gi_wp2_with (gi_at_call 74;refine hc.mono ?_;rintro e w' ⟨rfl,nn,os,rfl⟩)
    go_ret
    exact⟨_,ss,rfl,hCe,ownsRow_sorted_i (by simp) hbase hb h1 h2 h3,hnn,hnx.grown (grownBy_sorted_i _) hnx.size (λj hj=>by grind)⟩
  ·intro x c0 c1 cp c3 c4 c5 c6 c7 c8 c9 c10 c11 c12 c13 kl yd yp w2 cnt2 hkey hlk hv hat hrg2 hlt hg2 hs2 hen
   obtain⟨x',ex,rfl,_⟩:=Maps.keyOf_i64 Tryz.underlying3 hkey;obtain rfl:x=x':=encZ_inj ex;simp only[iv,sa,wR,Option.some.injEq,Prod.mk.injEq] at hv;obtain⟨rfl,rfl⟩:=hv;simp only[sa] at hen;have hrow2:=hrow.kept hg2 (Or.inr (row_ne_iter hrow hrg).symm);clear hs2;have hnxs:=hnx.size;have hgsz:=hg2.size
   gi_wp2_with (first
    |(gi_at_builtin;refine wpListIn_append_own _ rfl _ _ 22 rfl w.heap.size 3 i0 (.int .i64 0) 1 8 Tryz.underlying22 hi hz0 hz1 hz2 rfl (by decide) _ _ _ rfl ((hrow2.alloc _).alloc _) ⟨w2.heap.size+1,0,none⟩ 1 1 [encZ x] rfl rfl (by simpa using cell_one_new (w2.alloc _) _ _) (by simp[Value.oneCell',encZ]) (by grind) (by omega) (by simp;omega) ?_;intro v' w3 hown' hg3 hnil3;go_frame)
    |gi_in)
   ·have hcp:cp=id:=by grind
    have hst:=hC.step hlk hat;rw[if_pos hcp] at hst;have hrg3:=((hrg2.alloc _).alloc _).kept hg3 (row_ne_low hrow2 hbl) (row_ne_iter hrow2 hrg2);refine⟨⟨_,cnt2,ss++[x],hrg3,by grind,by grind,by rw[hnil3];simp,hst,?_⟩,by grind [hrg3.left_eq,hrg.left_eq]⟩;exact (((hnx.grown hg2 hnx.size (λj hj=>by grind)).alloc (by omega) _).alloc (by simp;omega) _).grown hg3 (by simp;omega) (λj hj=>(hrow2.lt j hj).1)
   ·have hcp: ¬cp=id:=by grind
    have hst:=hC.step hlk hat;rw[if_neg hcp] at hst;refine⟨⟨_,cnt2,ss,hrg2.alloc _,by omega,hrow2.alloc _,hnn,hst,(hnx.grown hg2 hnx.size (λj hj=>by grind)).alloc (by omega) _⟩,by rw[(hrg2.alloc _).left_eq,hrg.left_eq];exact hlt⟩
end
section
open Go.RowKit Go.Maps Go.Sort Go.Shelf
theorem sS (m:Nat):AnyZI.SortsIn Tryz.prog Tryz.sortedA_ren Fence.wide m:=
 ⟨λblk off cap ss W hH hblk hsz=>callsIn_wide.2 (AnyM.slices_Sort_int Tryz.sortA blk off cap ss W hH hblk hsz),
  λp cap W=>callsIn_wide.2 (AnyM.slices_Sort_int_none Tryz.sortA p cap W)⟩
theorem HE {H:Type} (bs os b n:Nat) (id:Int) (D0:DataW H) (w:World) (hcell:w.cell? ⟨bs,os,none⟩=some (.map (some b))) (hbs:bs<w.heap.size) (hown:w.ownsMap Tryz.prog 3 iv b n D0) (hhas:has D0 (.int .i64 id)=true)
 (hwf:(Lit.int .i64 id).wf=true) (hmax:Maps.size D0<=maxLen) (hbytes:Maps.size D0*8<=140737488355328):
 Calls Tryz.prog 29 #[.pointer (some ⟨bs,os,none⟩),.int .i64 id] w λe w'=>∃ (v:Value) (ss:List Int),e=.returned v/\Chd D0 id (λ_=>false) ss/\
  w'.ownsRow w.heap.size 3 1 v ss.length ((ss.mergeSort (λx y=>decide (x<=y))).map encZ)/\(v=.slice none 0 0↔ss=[])/\Below w.heap.size w w':=
 (callsIn_wide (n:=8)).1 (uj bs os b n id D0 w (λm=>⟨(sS m).1,(sS m).2⟩) hcell hbs hown hhas hwf hmax hbytes)
set_option maxRecDepth 100000 in
theorem ym {H:Type} (bs os b nn:Nat) (D0:DataW H) (R:Value->Option (DataW H×List MemPlace)) (w:World) (hcell:w.cell? ⟨bs,os,none⟩=some (.map (some b))) (hown:w.ownsMap Tryz.prog 3 R b nn D0) (hmax:Maps.size D0<=maxLen) (hbytes:Maps.size D0*8<=140737488355328):
 Calls Tryz.prog 26 #[.pointer (some ⟨bs,os,none⟩)] w λe w'=>∃ (v:Value) (ss:List Int),e=.returned v/\ss.Perm (intKeys D0)/\
  w'.ownsRow w.heap.size 3 1 v ss.length ((ss.mergeSort (λx y=>decide (x<=y))).map encZ)/\(v=.slice none 0 0↔ss=[])/\Below w.heap.size w w':=by
 refine (callsIn_wide (n:=6)).1 ?_;have hbl:=hown.lt
 have hseq:SeqGives Fence.wide 2 Tryz.prog 131 #[.pointer (some ⟨w.heap.size,0,none⟩)] encZ (λss=>ss.Perm (intKeys D0)) (Maps.size D0) (w.alloc (.cells #[.map (some b)] 76)):=
  AnyZI.keys_gives (ρ:=Tryz.keysA_ren) {Tryz.keysA with} Fence.wide _ trivial rfl (by omega) w.heap.size b nn D0 _ (by simp) (by simp) (by
   obtain⟨es,clock,hb,Ft,hs,hD⟩:=hown
   exact⟨es,clock,(Below.heap_alloc _ _ b hbl).trans hb,Ft,hs,hD⟩)
 have cK:∀ mb W,CallsIn Fence.wide 5 Tryz.prog 72 #[.map mb] W λe w'=>e=.returned (.func (.func 131) #[] #[.pointer (some ⟨W.heap.size,0,none⟩)])/\w'=W.alloc (.cells #[.map mb] 76):=λmb W=>AnyZI.keys_in Tryz.keysA Fence.wide 5 trivial rfl mb W
 have cS:=AnyZI.sorted_in Tryz.sortedA Fence.wide 5 trivial trivial trivial trivial rfl (by omega) (sS _) (enters_of Tryz.func74 (by kernel_rfl) rfl) 131 #[.pointer (some ⟨w.heap.size,0,none⟩)] trivial (enters_of Tryz.func131 (by kernel_rfl) rfl) _ _ hmax hbytes _ hseq;change CallsIn _ _ Tryz.prog 71 _ _ _ at cS;have hfK:Fence.wide.fn 72:=trivial;have hfS:Fence.wide.fn 71:=trivial;refine callsIn_of_wp Tryz.func26 rfl trivial ?_ rfl;simp only[Tryz.ntmps26,List.size_toArray,List.length_cons,List.length_nil,Nat.reduceAdd,Nat.reduceSub,Array.replicate_succ,Array.replicate_zero,List.push_toArray,List.append_toArray,List.nil_append,List.cons_append]
 gi_wp2_with (first
  |(gi_at_call 72;refine (cK _ _).mono ?_;rintro e w' ⟨rfl,rfl⟩)
  |(gi_at_call 71;refine cS.mono ?_;rintro e w' ⟨v,ss,rfl,hS,hrow,hnil,hb⟩)
  |gi_in)
 go_ret
 exact⟨v,ss,rfl,hS,ownsRow_base_a hrow (by simp),hnil,((Below.refl _ w).alloc (Nat.le_refl _) _).trans (hb.mono (by simp))⟩
end
namespace Ab
open Go
def qn (P:Program) (xs ys:List S):List Field->Option Bool
 |[]=>some true
 |f::fs=>
  match f.name == "_" with
  |true=>none
  |false=>
   match P.underlying f.type,P.info? f.type with
   |some (.struct gs),some i=>(match P.stoodInHeld f.type with
    |false=>(match Ca P ((xs.drop f.offset).take i.size) ((ys.drop f.offset).take i.size) gs.toList,qn P xs ys fs with|some a,some b=>some (a&&b)|_,_=>none)
    |true=>none)
   |_,_=>match tY P f.type xs[f.offset]? ys[f.offset]?,qn P xs ys fs with|some a,some b=>some (a&&b)|_,_=>none
theorem vK {P:Program} {w:World} {t:TypeId} {gs:Array Field} {i:TypeInfo} (hu:P.underlying t=some (.struct gs)) (hi:P.info? t=some i) (xs:List Value) (o:Nat):(part t xs.toArray o).run P w=.ok (.agg ((xs.drop o).take i.size).toArray) w:=by
 have ht:xL P t=some (true,i.size):=by simp[xL,hu,hi]
 have e:xs.toArray.extract o (o+i.size)=((xs.drop o).take i.size).toArray:=by
  grind
 simp only[part,Z09,(j8 ht w).1,(j8 ht w).2,Z05,if_true,Z0f,e]
theorem wP {P:Program} {φ:Ph} {w:World} {xl yl:List S} {xs ys:List Value} (hx:All2 (Sr φ) xl xs) (hy:All2 (Sr φ) yl ys) (d:Nat):∀ {fs:List Field} {r:Bool},qn P xl yl fs=some r->(Op.eqFields (d+2) xs.toArray ys.toArray fs).run P w=.ok r w
 |[],r,h=>by simp[qn] at h;subst h;rfl
 |f::fs,r,h=>by
  have key : ∀ {a b : Bool} {u v : Value}, f.name ≠ "_" -> (part f.type xs.toArray f.offset).run P w = .ok u w -> (part f.type ys.toArray f.offset).run P w = .ok v w -> (Op.equalIn (d + 2) f.type u v).run P w = .ok a w -> qn P xl yl fs = some b -> (Op.eqFields (d + 2) xs.toArray ys.toArray (f :: fs)).run P w = .ok (a && b) w := by
   intro a b u v hn hu hv he h2;have ih:=wP (w:=w) hx hy d h2;simp only[Op.eqFields,if_pos hn,Z09,hu,hv,he,Z05]
   cases a with
   |false=>simp
   |true=>grind
  simp only[qn] at h;split at h
  ·cases h
  ·rename_i hn
   have hn : f.name ≠ "_" := ae
   split at h
   ·rename_i gs i hu hi
    split at h
    ·rename_i hs
     split at h
     ·rename_i a b h1 h2
      cases h;refine key hn (vK hu hi xs _) (vK hu hi ys _) ?_ h2
      have hfs:P.fieldsOf f.type=gs:=by simp[Program.fieldsOf,hu]
      rw[run_equalIn_struct (P:=P) w (d+1) f.type _ _ ae hs,hfs];exact tX ((hx.drop _).take _) ((hy.drop _).take _) d h1
     ·cases h
    ·cases h
   ·split at h
    ·rename_i a b h1 h2
     cases h;obtain⟨u,v,hu,hv,he⟩:=r_ (w:=w) h1 hx hy rfl rfl (d+1)
     grind
    ·cases h
section
variable {P:Program} {ops:Array Oper} {d:Bool} {acc:List Row} {os:List Oper} {env:List V} {n:Nat} {L:Hp} {R:Post}
theorem CmpG.ag {dst:Option Tmp} {ty ty':TypeId} {x y:Operand} {t:TypeId} {pos:String} {af:Array Edge} {gd:Option (Nat×Bool)} {l l':List S} {fs:Array Field} {b:Bool} (r:Bool) (hx:ev env x=.agg l) (hy:ev env y=.agg l') (hty:P.underlying ty=some (.struct fs)) (hb:qn P l l' fs.toList=some b) (hr:(!b)=r) (c1:P.stoodInHeld ty=false) (c2:P.eqGuardType P.depth ty=false)
 (hw:bf ops env ⟨dst,.binOp .neq ty x y ty',t,pos,af,gd⟩=some true) (k:RegX P ops d (aE d ⟨dst,.binOp .neq ty x y ty',t,pos,af,gd⟩ [] [] acc) os (bg env dst (.s (.bool r))) n L R):
 CmpG P ops d acc ⟨dst,.binOp .neq ty x y ty',t,pos,af,gd⟩ os env n L R:=by
 refine⟨RegX.op (foot:=[]) (wr:=[]) hw (OpL.light λφ a w hop' _=>?_) (Z02 _) k⟩;have g1:=hop' x (by simp[Op.operands]);have g2:=hop' y (by simp[Op.operands]);rw[hx] at g1;rw[hy] at g2;obtain⟨xs,e1,h1⟩:=g1;obtain⟨ys,e2,h2⟩:=g2;refine⟨.bool r,?_,rfl⟩
 have hfs:P.fieldsOf ty=fs:=by simp[Program.fieldsOf,hty]
 have hq:(Op.equal ty (.agg xs.toArray) (.agg ys.toArray)).run P w=.ok b w:=by
  show (Op.equalIn (9997+2+1) ty _ _).run P w=.ok b w
  grind [run_equalIn_struct,wP]
 have this:(do eqGuard .neq ty x y (.agg xs.toArray) (.agg ys.toArray);binOp .neq ty (.agg xs.toArray) (.agg ys.toArray)).run P w=.ok (.bool r) w:=by
  simp only[Z09,run_eqGuard_agg w .neq ty x y _ _ c2,Z05,binOp,hq,Z0f,hr]
 rw[<-e1,<-e2] at this;simp only[execOp];rw[Z09,this];rfl
end
