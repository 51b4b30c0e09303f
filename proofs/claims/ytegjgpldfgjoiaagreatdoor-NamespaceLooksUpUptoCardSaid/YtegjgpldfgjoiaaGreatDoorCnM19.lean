import Derived.Test.YtegjgpldfgjoiaaGreatDoorCnM17
import Derived.Below
set_option linter.all false
namespace Go.Proofs.YtegjgpldfgjoiaaGreatDoor
namespace Ab
open Go Go.MapKept
structure KD (κ:Type) where
 s:κ->S
 v:κ->Value
 d:TypeDesc
 sr:∀ (φ:Ph) k x,Sr φ (s k) x↔x=v k
 key:∀ k,IsKey d (v k)
 inj:∀ a b,v a=v b->a=b
 np:∀ k,bM (s k)=true
def rM:KD Int:=⟨λk=> .int .i64 k,λk=> .int .i64 k,.int .i64,λ_ _ _=>Z44,λ_=>rfl,λa b h=>by cases h;rfl,λ_=>rfl⟩
theorem AV (a b:List UInt8) (h:iy a=iy b):a=b:=by
 unfold iy at h;have:=congrArg ByteArray.data (Value.string.inj h)
 simpa using this
def IT:KD (List UInt8):=⟨λk=> .str k,iy,.string,λ_ _ _=>Z44,λ_=>trivial,AV,λ_=>rfl⟩
section
variable {κ α:Type}
abbrev En (κ α:Type):=List (Nat×κ×α)
def mB (K:KD κ) (agg:Bool) (w:Nat) (c:α->List S) (E:En κ α) (ck:Nat):Bl:={cells:=E.flatMap λe=>K.s e.2.1::c e.2.2,ty:=0,flat:=true,kind:=some ⟨w,agg,E.map (·.1),ck,false⟩}
def po [DecidableEq κ]:En κ α->κ->Option α
 |[],_=>none
 |e::t,k=>if e.2.1=k then some e.2.2 else po t k
def vC [DecidableEq κ]:En κ α->κ->α->En κ α
 |[],_,_=>[]
 |e::t,k,x=>if e.2.1=k then (e.1,k,x)::t else e::vC t k x
def deM [DecidableEq κ]:En κ α->κ->En κ α
 |[],_=>[]
 |e::t,k=>if e.2.1=k then t else e::deM t k
def valO (agg:Bool) (vs:List Value):Value:=match agg with|true=> .agg vs.toArray|false=>vs.headD default
def VO (φ:Ph) (agg:Bool) (cs:List S) (v:Value):Prop:=∃ vs,v=valO agg vs/\All2 (Sr φ) cs vs
def EntsR (φ:Ph) (K:KD κ) (agg:Bool) (c:α->List S):En κ α->List MapEntry->Prop
 |[],[]=>True
 |e::E,m::M=>(m.key=K.v e.2.1/\m.born=e.1/\VO φ agg (c e.2.2) m.val)/\EntsR φ K agg c E M
 |_,_=>False
variable {φ:Ph} {K:KD κ} {agg:Bool} {c:α->List S}
theorem uT {w:Nat} (hw:∀ a,(c a).length=w):∀ {E:En κ α} {xs:List Value},All2 (Sr φ) (E.flatMap λe=>K.s e.2.1::c e.2.2) xs->EntsR φ K agg c E (wL agg w (E.map (·.1)) xs)
 |[],[],_=>trivial
 |[],_::_,h=>h.elim
 |e::E,[],h=>h.elim
 |e::E,x::xs,h=>by
  have h:Sr φ (K.s e.2.1) x/\All2 (Sr φ) (c e.2.2++E.flatMap λe=>K.s e.2.1::c e.2.2) xs:=h;have h1:=All2.take w h.2;have h2:=All2.drop w h.2;rw[Z3o (by rw[hw];exact Z02 _),Z1l (by rw[hw];exact Z02 _)] at h1;rw[Z54 (by rw[hw];exact Z02 _),Z10 (by rw[hw];exact Z02 _),Z1e] at h2;exact⟨⟨(K.sr _ _ _).1 h.1,rfl,_,rfl,h1⟩,uT hw h2⟩
theorem tK {w:Nat} (hw:∀ a,(c a).length=w):∀ {E:En κ α} {M:List MapEntry},EntsR φ K agg c E M->∃ xs,All2 (Sr φ) (E.flatMap λe=>K.s e.2.1::c e.2.2) xs/\wL agg w (E.map (·.1)) xs=M
 |[],[],_=>⟨[],trivial,rfl⟩
 |[],_::_,h=>h.elim
 |e::E,[],h=>h.elim
 |e::E,m::M,⟨⟨h1,h2,vs,h3,h4⟩,h5⟩=>by
  obtain⟨xs,g1,g2⟩:=tK hw h5;have hl:=h4.len;rw[hw] at hl;refine⟨m.key::(vs++xs),⟨(K.sr _ _ _).2 h1,h4.append g1⟩,?_⟩;show MapEntry.mk m.key _ e.1::wL agg w (E.map (·.1)) ((vs++xs).drop w)=_;rw[Z54 aa,Z10 aa,Z1e,g2,Z3o aa,Z1l aa];obtain⟨mk,mv,mb⟩:=m;simp only at h1 h2 h3;subst h2;subst h3;rfl
theorem EntsR.mono {φ':Ph} (hl:φ.le φ'):∀ {E:En κ α} {M:List MapEntry},EntsR φ K agg c E M->EntsR φ' K agg c E M
 |[],[],_=>trivial
 |[],_::_,h=>h.elim
 |_::_,[],h=>h.elim
 |e::E,m::M,⟨⟨h1,h2,vs,h3,h4⟩,h5⟩=>⟨⟨h1,h2,vs,h3,h4.mono λ_ _=>Sr.mono hl⟩,EntsR.mono hl h5⟩
theorem EntsR.find [DecidableEq κ] (k:κ):∀ {E:En κ α} {M:List MapEntry} (i:Nat),EntsR φ K agg c E M->
 (po E k=none->Instr.findNow K.d (K.v k) M i=some none)/\
 (∀ x,po E k=some x->∃ j m,Instr.findNow K.d (K.v k) M i=some (some (i+j,m.val))/\M[j]? =some m/\m.key=K.v k/\VO φ agg (c x) m.val/\
   (∀ y v,VO φ agg (c y) v->EntsR φ K agg c (vC E k y) (M.modify j λe=>{e with key:=K.v k,val:=v}))/\EntsR φ K agg c (deM E k) (M.eraseIdx j))
 |[],[],i,_=>⟨λ_=>rfl,λx h=>by cases h⟩
 |[],_::_,_,h=>h.elim
 |_::_,[],_,h=>h.elim
 |e::E,m::M,i,⟨⟨h1,h2,h3⟩,h5⟩=>by
  obtain⟨ih1,ih2⟩:=EntsR.find (k:=k) (i+1) h5;obtain⟨r,hr,hi⟩:=sameNow_of_keys (K.key k) (K.key e.2.1)
  have hf:Instr.findNow K.d (K.v k) (m::M) i=match r with|true=>some (some (i,m.val))|false=>Instr.findNow K.d (K.v k) M (i+1):=by
   simp only[Instr.findNow,h1,hr]
   cases r<;>rfl
  by_cases hk:e.2.1=k
  ·have hr1:r=true:=hi.2 (by rw[hk])
   subst hr1;refine⟨λh=>(by rw[po,if_pos hk] at h;cases h),λx hx=>?_⟩;rw[po,if_pos hk] at hx;cases hx;refine⟨0,m,hf,rfl,by rw[h1,hk],h3,λy v hv=>?_,?_⟩
   ·rw[vC,if_pos hk]
    exact⟨⟨rfl,h2,hv⟩,h5⟩
   ·rw[deM,if_pos hk]
    exact h5
  ·have hr1:r=false:=by
    cases r with
    |false=>rfl
    |true=>exact absurd (K.inj _ _ (hi.1 rfl)).symm hk
   subst hr1;refine⟨λh=>?_,λx hx=>?_⟩
   ·rw[po,if_neg hk] at h
    rw[hf];exact ih1 h
   ·rw[po,if_neg hk] at hx
    obtain⟨j,m',g1,g2,g3,g4,g5,g6⟩:=ih2 x hx;refine⟨j+1,m',by rw[hf,show i+(j+1)=i+1+j by omega];exact g1,g2,g3,g4,λy v hv=>?_,?_⟩
    ·rw[vC,if_neg hk]
     exact⟨⟨h1,h2,h3⟩,g5 y v hv⟩
    ·rw[deM,if_neg hk]
     exact⟨⟨h1,h2,h3⟩,g6⟩
theorem EntsR.push {b:Nat} {k:κ} {y:α} {v:Value} (hv:VO φ agg (c y) v):∀ {E:En κ α} {M:List MapEntry},EntsR φ K agg c E M->EntsR φ K agg c (E++[(b,k,y)]) (M++[{key:=K.v k,val:=v,born:=b}])
 |[],[],_=>⟨⟨rfl,rfl,hv⟩,trivial⟩
 |[],_::_,h=>h.elim
 |_::_,[],h=>h.elim
 |e::E,m::M,⟨h1,h2⟩=>⟨h1,EntsR.push hv h2⟩
theorem EntsR.len:∀ {E:En κ α} {M:List MapEntry},EntsR φ K agg c E M->M.length=E.length
 |[],[],_=>rfl
 |[],_::_,h=>h.elim
 |_::_,[],h=>h.elim
 |e::E,m::M,⟨_,h⟩=>by simp[EntsR.len h]
abbrev fl (φ:Ph):Ph:=⟨λ_=>none,φ.z⟩
theorem uc {w:World} {b:Nat×Nat} {sz ck:Nat} {E:En κ α} {r:Bool} (hw:∀ a,(c a).length=sz) (h:BlAt φ w b {mB K agg sz c E ck with ro:=r}) (hb:b.2=0):∃ M,w.heap[b.1]? =some (.map M.toArray ck)/\EntsR (fl φ) K agg c E M:=by
 obtain⟨pre,xs,rest,fr,h1,h2,h3,h4,h5,h6⟩:=h;rw[hb] at h2;have:=Z15 h2;subst this;have:=h4 rfl;subst this;refine⟨_,?_,uT hw h3⟩;rw[h1];simp only[mB,c_,Z1e,Z0u]
theorem yK {w:World} {b:Nat×Nat} {sz ck:Nat} {E:En κ α} {M:List MapEntry} (hw:∀ a,(c a).length=sz) (h:w.heap[b.1]? =some (.map M.toArray ck)) (hM:EntsR (fl φ) K agg c E M) (hb:b.2=0):BlAt φ w b (mB K agg sz c E ck):=by
 obtain⟨xs,h1,h2⟩:=tK hw hM;refine⟨[],xs,[],(0,0),?_,by rw[hb];rfl,h1,λ_=>rfl,λ_ o ho=>by simp,⟨λg z e=>(by cases e),λg e=>(by cases e)⟩⟩;rw[h];simp only[mB,c_,Z1e,Z0u,h2]
def uO:Bool->List S->U
 |true,l=> .agg l
 |false,l=> .s (l.headD .unk)
theorem VO.ur {l:List S} {v:Value} (h:VO φ agg l v) (hl:agg=false->l.length=1):Ur φ (uO agg l) v:=by
 obtain⟨vs,rfl,h⟩:=h
 cases agg with
 |true=>exact⟨vs,rfl,h⟩
 |false=>
  match l,vs,h,hl rfl with
  |[x],[y],h,_=>exact h.1
end
section
variable {t:TypeId} {agg:Bool}
def orC {α:Type} (c:α->List S) (zs:List S):Option α->List S
 |some x=>c x
 |none=>zs
def jB (P:Program) (t:TypeId) (agg:Bool):Option (List S):=
 match P.info? t with
 |some i=>match i.zero with
  |some v=>match agg,v with
   |true,.agg cs=>y9 cs.toList
   |true,_=>none
   |false,v=>match toS v with|some x=>some [x]|none=>none
  |none=>none
 |none=>none
theorem Ej {P:Program} {l:List S} (h:jB P t agg=some l) (w:World):∃ z,(zeroValue t).run P w=.ok z w/\∀ φ,Ur φ (uO agg l) z:=by
 unfold jB at h;split at h
 ·rename_i i hi
  split at h
  ·rename_i v hv
   refine⟨v,by simp[zeroValue,typeInfo,hi,hv],λφ=>?_⟩;split at h
   ·rename_i cs
    exact⟨cs.toList,an,vG h⟩
   ·cases h
   ·split at h
    ·rename_i x hx
     cases h;exact Gq hx
    ·cases h
  ·cases h
 ·cases h
section
variable {P:Program} {b:Nat} {ops:Array Oper} {d:Bool} {acc:List Row} {os:List Oper} {o:Oper} {env:List V} {n:Nat} {L:Hp} {R:Post}
variable {κ α:Type}
theorem x7 [DecidableEq κ] {K:KD κ} {agg:Bool} {w:Nat} {c:α->List S} {E:En κ α} {ck:Nat} {r0:Bool} {i:Nat} {k:κ} {tx kt et:TypeId} {zs:List S} (hw:∀ a,(c a).length=w) (h1:agg=false->w=1)
 (hty:P.underlying tx=some (.map kt et)) (hd:P.underlying kt=some K.d) (hz:jB P et agg=some zs) {φ:Ph} {W:World} (hg:Good φ L W) (hl:lk L i=some {mB K agg w c E ck with ro:=r0}) {v:Value} (hv:Sr φ (.map (some i)) v) (ok:Bool):
 ∃ y,(Instr.lookup tx v (K.v k) ok).run P W=.ok (if ok then .tuple #[y,.bool (po E k).isSome] else y) W/\Ur φ (uO agg (orC c zs (po E k))) y:=by
 obtain⟨b,hb,hb2,rfl⟩:=hv;obtain⟨b',hb',hat⟩:=hg.hr i _ hl;rw[hb] at hb';cases hb';obtain⟨M,hm,hM⟩:=uc hw hat hb2
 have hc:=λem=>run_checkKey (P:=P) (w:=W) hd (K.key k) em 9999
 obtain⟨f1,f2⟩:=EntsR.find k 0 hM
 cases r:po E k with
 |none=>
  have hf:=run_findKey (P:=P) (w:=W) hd (f1 r);obtain⟨z,z1,z2⟩:=Ej hz W;refine⟨z,?_,z2 φ⟩;simp only[Instr.lookup,Z09,Ab.run_underlying hty,Z05,Z1q hm,Z0f];simp[hc,hf,z1]
 |some x=>
  obtain⟨j,m,g1,g2,g3,g4,_⟩:=f2 x r;have hf:=run_findKey (P:=P) (w:=W) hd g1;refine⟨m.val,?_,?_⟩
  ·simp only[Instr.lookup,Z09,Ab.run_underlying hty,Z05,Z1q hm,Z0f]
   simp[hc,hf]
  ·have:=Ur.mono (φ:=fl φ) (φ':=φ) ⟨λ_ _ h=>(by cases h),λ_ _ h=>h⟩ (g4.ur (λe=>by rw[hw];exact h1 e))
   exact this
theorem RegX.lkT [DecidableEq κ] {dst:Option Tmp} {x ix:Operand} {tx kt et:TypeId} {t:TypeId} {pos:String} {af:Array Edge} {gd:Option (Nat×Bool)} {K:KD κ} {agg:Bool} {w:Nat} {c:α->List S} {E:En κ α} {ck:Nat} {r0:Bool} {i:Nat} {k:κ} {zs:List S} (r:Option α)
 (hx:ev env x=.s (.map (some i))) (hix:ev env ix=.s (K.s k)) (hl:lk L i=some {mB K agg w c E ck with ro:=r0}) (hw:∀ a,(c a).length=w) (h1:agg=false->w=1) (hty:P.underlying tx=some (.map kt et)) (hd:P.underlying kt=some K.d) (hz:jB P et agg=some zs) (hr:po E k=r)
 (hwt:aY ops env ⟨dst,.lookup tx x ix true,t,pos,af,gd⟩=some true)
 (kk:RegX P ops d (aG d ⟨dst,.lookup tx x ix true,t,pos,af,gd⟩ [i] [] acc) os (a_ env dst (.tup [uO agg (orC c zs r),.s (.bool r.isSome)])) n L R):
 RegX P ops d acc (⟨dst,.lookup tx x ix true,t,pos,af,gd⟩::os) env n L R:=by
 refine RegX.op (foot:=[i]) (wr:=[]) hwt (OpL.light λφ a W hop hg=>?_) (Z02 _) kk;have g1:=hop x (by simp[Op.operands]);have g2:=hop ix (by simp[Op.operands]);rw[hx] at g1;rw[hix] at g2;have g2:a.eval ix=K.v k:=(K.sr _ _ _).1 g2;obtain⟨y,y1,y2⟩:=x7 (κ:=κ) (k:=k) hw h1 hty hd hz hg (i:=i) (E:=E) (ck:=ck) (r0:=r0) (by rw[bq];simp[hl]) g1 true;rw[hr] at y1 y2;exact⟨.tuple #[y,.bool r.isSome],by simp only[execOp,g2,Z09,y1,Z05];rfl,[y,.bool r.isSome],rfl,y2,rfl,trivial⟩
theorem RegX.lk1 [DecidableEq κ] {dst:Option Tmp} {x ix:Operand} {tx kt et:TypeId} {t:TypeId} {pos:String} {af:Array Edge} {gd:Option (Nat×Bool)} {K:KD κ} {agg:Bool} {w:Nat} {c:α->List S} {E:En κ α} {ck:Nat} {r0:Bool} {i:Nat} {k:κ} {zs:List S} (r:Option α)
 (hx:ev env x=.s (.map (some i))) (hix:ev env ix=.s (K.s k)) (hl:lk L i=some {mB K agg w c E ck with ro:=r0}) (hw:∀ a,(c a).length=w) (h1:agg=false->w=1) (hty:P.underlying tx=some (.map kt et)) (hd:P.underlying kt=some K.d) (hz:jB P et agg=some zs) (hr:po E k=r)
 (hwt:aY ops env ⟨dst,.lookup tx x ix false,t,pos,af,gd⟩=some true)
 (kk:RegX P ops d (aG d ⟨dst,.lookup tx x ix false,t,pos,af,gd⟩ [i] [] acc) os (a_ env dst (HJ (uO agg (orC c zs r)))) n L R):
 RegX P ops d acc (⟨dst,.lookup tx x ix false,t,pos,af,gd⟩::os) env n L R:=by
 refine RegX.op (foot:=[i]) (wr:=[]) hwt (OpL.light λφ a W hop hg=>?_) (Z02 _) kk;have g1:=hop x (by simp[Op.operands]);have g2:=hop ix (by simp[Op.operands]);rw[hx] at g1;rw[hix] at g2;have g2:a.eval ix=K.v k:=(K.sr _ _ _).1 g2;obtain⟨y,y1,y2⟩:=x7 (κ:=κ) (k:=k) hw h1 hty hd hz hg (i:=i) (E:=E) (ck:=ck) (r0:=r0) (by rw[bq];simp[hl]) g1 false;rw[hr] at y2;exact⟨_,by simp only[execOp,g2,Z09,y1,Z05];rfl,BT y2⟩
theorem Gm {φ:Ph} {l:List S} {v:Value} (hl:agg=false->l.length=1) (hn:l.all bM=true) (h:Vr φ (HJ (uO agg l)) v):VO (fl φ) agg l v:=by
 cases agg with
 |true=>
  obtain⟨xs,rfl,h⟩:=h;exact⟨xs,rfl,gF (φ:=φ) (ψ:=fl φ) (λ_ _ h=>h) hn h⟩
 |false=>
  match l,hl rfl,h with
  |[x],_,h=>exact⟨[v],rfl,gF (φ:=φ) (ψ:=fl φ) (λ_ _ h=>h) hn ⟨h,trivial⟩⟩
theorem RegX.muN [DecidableEq κ] {dst:Option Tmp} {x ix y:Operand} {tx kt et:TypeId} {t:TypeId} {pos:String} {af:Array Edge} {gd:Option (Nat×Bool)} {K:KD κ} {agg:Bool} {w:Nat} {c:α->List S} {E:En κ α} {ck:Nat} {i:Nat} {k:κ} (a0:α)
 (hx:ev env x=.s (.map (some i))) (hix:ev env ix=.s (K.s k)) (hy:VLe (ev env y) (HJ (uO agg (c a0)))) (hl:lk L i=some (mB K agg w c E ck)) (hw:∀ a,(c a).length=w) (h1:agg=false->w=1) (hn:(c a0).all bM=true) (hty:P.underlying tx=some (.map kt et)) (hd:P.underlying kt=some K.d) (hr:po E k=none)
 (hwt:aY ops env ⟨dst,.mapUpdate tx x ix y,t,pos,af,gd⟩=some true)
 (kk:RegX P ops d (aG d ⟨dst,.mapUpdate tx x ix y,t,pos,af,gd⟩ [i] [(i,some (mB K agg w c (E++[(ck,k,a0)]) (ck+1)))] acc) os (a_ env dst .undef) n (aw L [(i,some (mB K agg w c (E++[(ck,k,a0)]) (ck+1)))]) R):
 RegX P ops d acc (⟨dst,.mapUpdate tx x ix y,t,pos,af,gd⟩::os) env n L R:=by
 refine RegX.op (foot:=[i]) (wr:=[(i,some (mB K agg w c (E++[(ck,k,a0)]) (ck+1)))]) hwt ?_ (Z02 _) kk;intro φ a W Q hop hg hf
 have e1:res [i] L=[(i,some (mB K agg w c E ck))]:=by simp[res,hl]
 have e2:aw (res [i] L) [(i,some (mB K agg w c (E++[(ck,k,a0)]) (ck+1)))]=[(i,some (mB K agg w c (E++[(ck,k,a0)]) (ck+1)))]:=by rw[e1];simp[aw,put]
 have g1:=hop x (by simp[Op.operands]);have g2:=hop ix (by simp[Op.operands]);have g3:=hop y (by simp[Op.operands]);rw[hx] at g1;rw[hix] at g2;have g3:=hy φ _ g3;obtain⟨b,hb,hb2,hv⟩:=g1;have g2:a.eval ix=K.v k:=(K.sr _ _ _).1 g2;have g3:=Gm (λe=>by rw[hw];exact h1 e) hn g3;rw[e1] at hg;obtain⟨b',hb',hat⟩:=hg.hr i (mB K agg w c E ck) (by simp[lk]);rw[hb] at hb';cases hb';obtain⟨M,hm,hM⟩:=uc (r:=false) hw hat hb2;have hlt:=hat.lt
 have hc:=λem=>run_checkKey (P:=P) (w:=W) hd (K.key k) em 9999
 have hfn:=run_findKey (P:=P) (w:=W) hd ((EntsR.find k 0 hM).1 hr)
 have hrun:(execOp a.eval ⟨dst,.mapUpdate tx x ix y,t,pos,af,gd⟩).run P W=.ok .skip {W with heap:=W.heap.setIfInBounds b.1 (.map (M++[MapEntry.mk (K.v k) (a.eval y) ck]).toArray (ck+1))}:=by
  simp only[execOp,Instr.mapUpdate,Z09,Ab.run_underlying hty,Z05,hv,Z1q hm,Z0f,g2,hc,hfn];rw[Z4n _ hm];simp
 obtain⟨good,stp⟩:=rE (bl':=mB K agg w c (E++[(ck,k,a0)]) (ck+1)) (ob:=.map (M++[MapEntry.mk (K.v k) (a.eval y) ck]).toArray (ck+1)) hg hb rfl rfl (yK hw (by simp[hlt]) (EntsR.push g3 hM) hb2);unfold Oper.wp;rw[hrun,Z5w];exact⟨φ,Go.undef,rfl,rfl,by rw[e2];exact good,by rw[e2,e1];exact stp,λ_ _=>rfl⟩
theorem RegX.muO [DecidableEq κ] {dst:Option Tmp} {x ix y:Operand} {tx kt et:TypeId} {t:TypeId} {pos:String} {af:Array Edge} {gd:Option (Nat×Bool)} {K:KD κ} {agg:Bool} {w:Nat} {c:α->List S} {E:En κ α} {ck:Nat} {i:Nat} {k:κ} {x0:α} (a0:α)
 (hx:ev env x=.s (.map (some i))) (hix:ev env ix=.s (K.s k)) (hy:VLe (ev env y) (HJ (uO agg (c a0)))) (hl:lk L i=some (mB K agg w c E ck)) (hw:∀ a,(c a).length=w) (h1:agg=false->w=1) (hn:(c a0).all bM=true) (hty:P.underlying tx=some (.map kt et)) (hd:P.underlying kt=some K.d) (hr:po E k=some x0)
 (hwt:aY ops env ⟨dst,.mapUpdate tx x ix y,t,pos,af,gd⟩=some true)
 (kk:RegX P ops d (aG d ⟨dst,.mapUpdate tx x ix y,t,pos,af,gd⟩ [i] [(i,some (mB K agg w c (vC E k a0) ck))] acc) os (a_ env dst .undef) n (aw L [(i,some (mB K agg w c (vC E k a0) ck))]) R):
 RegX P ops d acc (⟨dst,.mapUpdate tx x ix y,t,pos,af,gd⟩::os) env n L R:=by
 refine RegX.op (foot:=[i]) (wr:=[(i,some (mB K agg w c (vC E k a0) ck))]) hwt ?_ (Z02 _) kk;intro φ a W Q hop hg hf
 have e1:res [i] L=[(i,some (mB K agg w c E ck))]:=by simp[res,hl]
 have e2:aw (res [i] L) [(i,some (mB K agg w c (vC E k a0) ck))]=[(i,some (mB K agg w c (vC E k a0) ck))]:=by rw[e1];simp[aw,put]
 have g1:=hop x (by simp[Op.operands]);have g2:=hop ix (by simp[Op.operands]);have g3:=hop y (by simp[Op.operands]);rw[hx] at g1;rw[hix] at g2;have g3:=hy φ _ g3;obtain⟨b,hb,hb2,hv⟩:=g1;have g2:a.eval ix=K.v k:=(K.sr _ _ _).1 g2;have g3:=Gm (λe=>by rw[hw];exact h1 e) hn g3;rw[e1] at hg;obtain⟨b',hb',hat⟩:=hg.hr i (mB K agg w c E ck) (by simp[lk]);rw[hb] at hb';cases hb';obtain⟨M,hm,hM⟩:=uc (r:=false) hw hat hb2;have hlt:=hat.lt
 have hc:=λem=>run_checkKey (P:=P) (w:=W) hd (K.key k) em 9999
 obtain⟨j,m,f1,f2,f3,f4,f5,_⟩:=(EntsR.find k 0 hM).2 x0 hr;rw[Z0c] at f1;have hfn:=run_findKey (P:=P) (w:=W) hd f1
 have hks:=λW=>run_keyThatStays (P:=P) (w:=W) (K.key k)
 have hrun:(execOp a.eval ⟨dst,.mapUpdate tx x ix y,t,pos,af,gd⟩).run P W=.ok .skip {W with heap:=W.heap.setIfInBounds b.1 (.map (M.modify j λe=>{e with key:=K.v k,val:=a.eval y}).toArray ck)}:=by
  have hj:(M.toArray)[j]? =some m:=by simp[f2]
  simp only[execOp,Instr.mapUpdate,Z09,Ab.run_underlying hty,Z05,hv,Z1q hm,Z0f,g2,hc,hfn,hj,Z1j,Z22,f3,hks];rw[Z4n _ hm];simp
 obtain⟨good,stp⟩:=rE (bl':=mB K agg w c (vC E k a0) ck) (ob:=.map (M.modify j λe=>{e with key:=K.v k,val:=a.eval y}).toArray ck) hg hb rfl rfl (yK hw (by simp[hlt]) (f5 a0 _ g3) hb2);unfold Oper.wp;rw[hrun,Z5w];exact⟨φ,Go.undef,rfl,rfl,by rw[e2];exact good,by rw[e2,e1];exact stp,λ_ _=>rfl⟩
theorem RegX.mkM {dst:Option Tmp} {tx:TypeId} {pos:String} {af:Array Edge} {gd:Option (Nat×Bool)} (K:KD κ) (agg:Bool) (w:Nat) (c:α->List S) (hw:∀ a,(c a).length=w)
 (hwt:aY ops env ⟨dst,.makeMap tx none,t,pos,af,gd⟩=some true)
 (kk:RegX P ops d (aG d ⟨dst,.makeMap tx none,t,pos,af,gd⟩ [] [(n,some (mB K agg w c [] 0))] acc) os (a_ env dst (.s (.map (some n)))) (n+1) (aw L [(n,some (mB K agg w c [] 0))]) R):
 RegX P ops d acc (⟨dst,.makeMap tx none,t,pos,af,gd⟩::os) env n L R:=by
 refine RegX.op (foot:=[]) (wr:=[(n,some (mB K agg w c [] 0))]) hwt ?_ (Z3s _) kk
 have e:aw (res ([]:List Nat) L) [(n,some (mB K agg w c [] 0))]=put [] n (some (mB K agg w c [] 0)):=by simp[res,aw]
 rw[e]
 refine OpL.fresh (L:=[]) (by simp[lk]) λφ a W hop _=>?_
 refine⟨.map (some W.heap.size),{W with heap:=W.heap.push (.map #[] 0)},?_,rfl,rfl,rfl,⟨_,rfl⟩,yK (M:=[]) hw an trivial rfl,λφ' hn _=>⟨_,hn,rfl,rfl⟩⟩;simp[execOp,Instr.makeMap,newObj,Sem.run]
theorem RegX.lnM {dst:Option Tmp} {x:Operand} {tx kt et:TypeId} {t:TypeId} {pos:String} {af:Array Edge} {gd:Option (Nat×Bool)} {K:KD κ} {w:Nat} {c:α->List S} {E:En κ α} {ck:Nat} {r0:Bool} {i:Nat}
 (hx:ev env x=.s (.map (some i))) (hl:lk L i=some {mB K agg w c E ck with ro:=r0}) (hw:∀ a,(c a).length=w) (hty:P.underlying tx=some (.map kt et))
 (hwt:aY ops env ⟨dst,.call ⟨.builtin .len,#[x],#[tx]⟩,t,pos,af,gd⟩=some true)
 (kk:RegX P ops d (aG d ⟨dst,.call ⟨.builtin .len,#[x],#[tx]⟩,t,pos,af,gd⟩ [i] [] acc) os (a_ env dst (.s (.int .i64 (E.length:Int)))) n L R):
 RegX P ops d acc (⟨dst,.call ⟨.builtin .len,#[x],#[tx]⟩,t,pos,af,gd⟩::os) env n L R:=by
 refine RegX.op (foot:=[i]) (wr:=[]) hwt (OpL.light λφ a W hop hg=>?_) (Z02 _) kk;have g1:=hop x (by simp[Op.operands,Call.operands]);rw[hx] at g1;obtain⟨b,hb,hb2,hv⟩:=g1;obtain⟨b',hb',hat⟩:=hg.hr i {mB K agg w c E ck with ro:=r0} (by rw[bq];simp[hl]);rw[hb] at hb';cases hb';obtain⟨M,hm,hM⟩:=uc hw hat hb2;refine⟨.int .i64 (E.length:Int),?_,rfl⟩;simp only[execOp,resolve,Z09,Z0f,Z05,invoke,builtin,Z3u,Z13,Z3d,hv];simp[Builtin.len_,Builtin.lenOf,Ab.run_underlying hty,goInt,Z1q hm,hM.len]
end
end
end Ab
end Go.Proofs.YtegjgpldfgjoiaaGreatDoor
namespace Go.Proofs.YtegjgpldfgjoiaaGreatDoor
open Go Ab
set_option maxRecDepth 100000
set_option maxHeartbeats 40000000
def cb (x:Nat×Nat):List S:=[.int .i64 (x.1:Int),.int .i64 (x.2:Int)]
structure Dc where
 path:By
 op:Int
 node:Nat
def ll (x:Dc):List S:=[.str x.path,.int .i64 x.op,.int .i64 (x.node:Int)]
abbrev e8 (p:List Nd) (d nD g nG:Nat):Bl:=
 {cells:=[.frz (λk=>ndC (p.getD k dN)) 4 p.length,.slc (some (1,0)) p.length (some p.length),.row d (d+1) nD,.map (some 5),.row g (g+1) nG],ty:=186}
abbrev bA (g:Nat) (G:List (Nat×Nat)):Option Bl:=eI 112 (g+1) 2 (G.flatMap cb)
abbrev k9 (d:Nat) (D:List Dc):Option Bl:=eI 58 (d+1) 3 (D.flatMap ll)
theorem wO:∀ G:List (Nat×Nat),(G.flatMap cb).length=G.length*2
 |[]=>rfl
 |x::G=>by rw[Z0g,Z03,wO G];simp only[Z04];simp[cb];omega
theorem wQ:∀ D:List Dc,(D.flatMap ll).length=D.length*3
 |[]=>rfl
 |x::D=>by rw[Z0g,Z03,wQ D];simp only[Z04];simp[ll];omega
theorem FK (G:List (Nat×Nat)) (x:Nat×Nat):(G++[x]).flatMap cb=G.flatMap cb++cb x:=by rw[Z0r];simp
theorem FM (D:List Dc) (x:Dc):(D++[x]).flatMap ll=D.flatMap ll++ll x:=by rw[Z0r];simp
theorem cT (p:List Nd) (nD:Nat) (G:List (Nat×Nat)) (i c:Nat) (hG:G.length<=1000000000000):
 FC Tryz.prog 117 [.s (.ptr (some (0,0))),nI i,nI c] 8 [(0,some (e8 p 3 nD 6 G.length)),(6,bA 6 G)] .any 10 [(0,some (e8 p 3 nD 8 (G.length+1))),(6,none),(8,bA 8 (G++[(i,c)]))]:=by
 have hsz:(Tryz.prog.types[112]).size=2:=by kernel_rfl
 have hby:(Tryz.prog.types[112]).bytes=16:=by kernel_rfl
 rw[bA,bA,FK];refine wW Tryz.func117 ?_
 repeat'(first|exact y0|refine y1 ?_|refine y2 ?_ ?_|refine y4 λh=>?_|refine y3 ?_|exact y5|fail)
 ·refine RegX.apr (i:=6) (g:=7) (m:=G.length) (w:=2) (cs:=G.flatMap cb) (foot:=[8]) (k:=1) (add:=cb (i,c)) rfl rfl (wO G) rfl rfl rfl rfl rfl rfl rfl hsz ac rfl ⟨Z02 _,rfl⟩ ac (by simp[cb]) rfl ?_ aa rfl ?_
  ·rw[hby];omega
  repeat'(first|exact y0|refine y1 ?_|refine y2 ?_ ?_|refine y4 λh=>?_|refine y3 ?_|exact y5|fail)
  refine⟨.inr rfl,.tup [],[9,10],VLe.any _,EndOK.by rfl ?_ rfl ?_ rfl rfl⟩
  ·refine⟨rfl,MemP.op rfl trivial⟩
  ·refine (bI rfl rfl rfl)
def pL (F:List (By×Nat)) (path:By) (i:Nat):List (By×Nat):=match pH F path with|some _=>F|none=>F++[(path,i)]
def k8 (F:List (By×Nat)) (G:List (Nat×Nat)) (path:By) (i:Nat):List (Nat×Nat):=match pH F path with|some _=>G++[(i,3)]|none=>G
theorem z_ (p:List Nd) (D:List Dc) (F:List (By×Nat)) (G:List (Nat×Nat)) (i:Nat) (path:By) (hi:i<p.length) (hD:D.length<=1000000000000) (hG:G.length<=1000000000000):
 FC Tryz.prog 226 [.s (.ptr (some (0,0))),nI i,sV path] 8 [(0,some (e8 p 3 D.length 6 G.length)),(3,k9 3 D),(5,some (cj F)),(6,bA 6 G)] .any 12
  [(0,some (e8 p 8 (D.length+1) 10 (k8 F G path i).length)),(3,none),(6,none),(5,some (cj (pL F path i))),(8,k9 8 (D++[⟨path,(p.getD i dN).op,i⟩])),(10,bA 10 (k8 F G path i))]:=by
 have hsz:(Tryz.prog.types[58]).size=3:=by kernel_rfl
 have hby:(Tryz.prog.types[58]).bytes=32:=by kernel_rfl
 have hzr:∀ w,(zeroValue 3).run Tryz.prog w=.ok (.int .i64 0) w:=λw=>by rw[Tryz.zeroValue3]
 rw[k9,k9,FM];refine wW Tryz.func226 ?_
 cases hl:pH F path with
 |some v=>
  have e1:pL F path i=F:=by unfold pL;rw[hl]
  have e2:k8 F G path i=G++[(i,3)]:=by unfold k8;rw[hl]
  rw[e1,e2,Z03,Z0n]
  repeat'(first|exact y0|refine y1 ?_|refine y2 ?_ ?_|refine y4 λh=>?_|refine RegX.lkp (some v) rfl rfl rfl rfl rfl hzr hl rfl ?_|refine y3 ?_|exact y5|fail)
  refine RegX.atCall (CallG.mo [0,1,2,3,4,5,6,7] (cT p D.length G i 3 hG) rfl (bI rfl rfl rfl) rfl rfl rfl aV nC rfl rfl (wr:=[(0,some (e8 p 3 D.length 8 (G.length+1))),(6,none),(8,bA 8 (G++[(i,3)]))]) ?_ ?_)
  ·show [_,_,_]=_;rw[aH];rfl
  repeat'(first|exact y0|refine y1 ?_|refine y2 ?_ ?_|refine y4 λh=>?_|refine y3 ?_|exact y5|fail)
  all_goals try omega
  refine RegX.apr (i:=3) (g:=4) (m:=D.length) (w:=3) (cs:=D.flatMap ll) (foot:=[10]) (k:=1) (add:=ll ⟨path,(p.getD i dN).op,i⟩) rfl rfl (wQ D) rfl rfl rfl rfl rfl rfl rfl hsz ac rfl ⟨Z02 _,rfl⟩ ac (by simp[ll]) rfl ?_ aa rfl ?_
  ·rw[hby];omega
  repeat'(first|exact y0|refine y1 ?_|refine y2 ?_ ?_|refine y4 λh=>?_|refine y3 ?_|exact y5|fail)
  refine⟨.inr rfl,.tup [],[11,12,8,9],VLe.any _,EndOK.by rfl ?_ rfl ?_ rfl rfl⟩
  ·exact⟨rfl,rfl,MemP.op rfl (MemP.op rfl trivial)⟩
  ·exact bI (t:=[(10,bA 10 (G++[(i,3)]))]) rfl rfl (bI rfl rfl rfl)
 |none=>
  have e1:pL F path i=F++[(path,i)]:=by unfold pL;rw[hl]
  have e2:k8 F G path i=G:=by unfold k8;rw[hl]
  rw[e1,e2]
  repeat'(first|exact y0|refine y1 ?_|refine y2 ?_ ?_|refine y4 λh=>?_|refine RegX.lkp none rfl rfl rfl rfl rfl hzr hl rfl ?_|refine RegX.mup i rfl rfl rfl rfl rfl rfl rfl hl rfl ?_|refine y3 ?_|exact y5|fail)
  all_goals try omega
  refine RegX.apr (i:=3) (g:=4) (m:=D.length) (w:=3) (cs:=D.flatMap ll) (foot:=[8]) (k:=1) (add:=ll ⟨path,(p.getD i dN).op,i⟩) rfl rfl (wQ D) rfl rfl rfl rfl rfl rfl rfl hsz ac rfl ⟨Z02 _,rfl⟩ ac (by simp[ll]) rfl ?_ aa rfl ?_
  ·rw[hby];omega
  repeat'(first|exact y0|refine y1 ?_|refine y2 ?_ ?_|refine y4 λh=>?_|refine y3 ?_|exact y5|fail)
  refine⟨.inr rfl,.tup [],[9,10,6,7],VLe.any _,EndOK.move rfl ?_ rfl ?_ rfl ?_ ?_⟩
  ·exact⟨rfl,rfl,MemP.op rfl (MemP.op rfl trivial)⟩
  ·exact bI (t:=[(10,bA 10 G)]) rfl rfl (bI rfl rfl rfl)
  ·rcases G with _|⟨x,G⟩<;>rcases D with _|⟨y,D⟩<;>rfl
  ·rcases G with _|⟨x,G⟩<;>rcases D with _|⟨y,D⟩<;>rfl
section
variable {cs:List (Bool×Int)} {c:Int} {t:Fo}
structure St where
 S:List Pth
 D:List Dc
 F:List (By×Nat)
 G:List (Nat×Nat)
def St.rep (s:St) (i c:Nat):St:={s with G:=s.G++[(i,c)]}
def St.dec (s:St) (i:Nat) (path:By) (op:Int):St:={S:=s.S,D:=s.D++[⟨path,op,i⟩],F:=pL s.F path i,G:=k8 s.F s.G path i}
def St.sc (s:St) (i:Nat) (sc:Pth):St:={s with S:=s.S.set i sc}
def ao:Fo->Pth
 | .cons y _ _=>(ah y.str).1
 | .nil=>z0
def bO (x:Nd) (nm:Pth) (i:Nat) (sc:Pth) (s:St):Pth×St:=
 if x.op=10 then (if (aq sc nm).2 then ((aq sc nm).1,s.sc i sc) else (sc,(s.sc i sc).rep i 2))
 else if x.op=16\/x.op=17\/x.op=19 then (sc,s.sc i sc)
 else if (aq sc nm).2 then (if x.op=11\/x.op=12 then (aq sc nm).1 else sc,(s.sc i sc).dec i (aI (aq sc nm).1) x.op)
 else (sc,(s.sc i sc).rep i 2)
def fM (op:Int):Bool:=decide (op=10\/op=11\/op=12\/op=16\/op=17)
def aQ:Bool->Fo->Nat->Pth->St->St
 |_,.nil,_,_,s=>s
 |true,.cons x k n,i,sc,s=>if x.op=4 then aQ false k (i+1) sc s else aQ true n (i+1+k.size) sc s
 |false,.cons x k n,i,sc,s=>
  aQ false n (i+1+k.size) sc (if fM x.op then aQ true k (i+1) (bO x (ao k) i sc s).1 (bO x (ao k) i sc s).2 else (bO x (ao k) i sc s).2)
theorem Dd (F:List (By×Nat)) (G:List (Nat×Nat)) (path:By) (i:Nat):(k8 F G path i).length<=G.length+1:=by
 unfold k8;split<;>simp
theorem qj (x:Nd) (nm:Pth) (i:Nat) (sc:Pth) (s:St):(bO x nm i sc s).2.S.length=s.S.length/\(bO x nm i sc s).2.D.length<=s.D.length+1/\(bO x nm i sc s).2.G.length<=s.G.length+1:=by
 have:=Dd s.F s.G (aI (aq sc nm).1) i;unfold bO;split
 ·split<;>simp[St.sc,St.rep]
 ·split
  ·simp[St.sc]
  ·split<;>simp[St.sc,St.rep,St.dec]
   exact this
theorem cX:∀ (m:Bool) (t:Fo) (i:Nat) (sc:Pth) (s:St),(aQ m t i sc s).S.length=s.S.length/\(aQ m t i sc s).D.length<=s.D.length+t.size/\(aQ m t i sc s).G.length<=s.G.length+t.size
 |true,.nil,_,_,s=>⟨rfl,Z02 _,Z02 _⟩
 |false,.nil,_,_,s=>⟨rfl,Z02 _,Z02 _⟩
 |true,.cons x k n,i,sc,s=>by
  simp only[aQ,Fo.size];split
  ·have:=cX false k (i+1) sc s;omega
  ·have:=cX true n (i+1+k.size) sc s;omega
 |false,.cons x k n,i,sc,s=>by
  simp only[aQ,Fo.size];have h:=qj x (ao k) i sc s;split
  ·have h1:=cX true k (i+1) (bO x (ao k) i sc s).1 (bO x (ao k) i sc s).2
   have h2:=cX false n (i+1+k.size) sc (aQ true k (i+1) (bO x (ao k) i sc s).1 (bO x (ao k) i sc s).2);omega
  ·have h2:=cX false n (i+1+k.size) sc (bO x (ao k) i sc s).2
   omega
theorem gS (h:t.V []):t=.nil:=by
 cases t with
 |nil=>rfl
 |cons x k n=>simp[Fo.V] at h
theorem sS {sl:Bool×Int} (h:t.V (sl::cs)):∃ y k n,t=.cons y k n/\n.V cs:=by
 cases t with
 |nil=>exact h.elim
 |cons x k n=>
  obtain⟨b,c⟩:=sl;cases b
  ·exact⟨x,k,n,rfl,h.2.2⟩
  ·exact⟨x,k,n,rfl,h.2.2⟩
def d8 (c:Int):Bool:=decide (c=110\/c=115\/c=105\/c=73)
theorem d6 (hc:d8 c=true) (h:t.V ((false,c)::cs)):∃ y n,t=.cons y .nil n/\n.V cs/\(y.op=3\/y.op=1):=by
 cases t with
 |nil=>exact h.elim
 |cons x k n=>
  obtain⟨⟨h1,_,h2⟩,h3,h4⟩:=h
  have hop:x.op=3\/x.op=1:=by
   unfold d8 at hc;simp only[decide_eq_true_eq] at hc;unfold bn at h1
   rcases hc with rfl|rfl|rfl|rfl<;>simp at h1<;>simp[h1]
  have hk:(av x.op x.kids).1=[]:=by rcases hop with e|e<;>rw[e]<;>rfl
  rw[hk] at h3;have:=gS h3;subst this;exact⟨x,n,rfl,h4,hop⟩
theorem iZ (h:t.V ((true,c)::cs)):∃ y bl n,t=.cons y bl n/\n.V cs/\y.op=4/\bl.V (List.replicate bl.cnt (false,c)):=by
 cases t with
 |nil=>exact h.elim
 |cons x k n=>exact⟨x,k,n,rfl,h.2.2,h.1.1,h.2.1⟩
theorem gQ {p:List Nd} {c':Int}:∀ (ls:List Int) (t:Fo) (i:Nat),(ls.all d8)=true->t.V (ls.map (λc=>(false,c))++[(true,c')])->t.At p i->
 ∃ bl:Fo,bl.V (List.replicate bl.cnt (false,c'))/\bl.At p (i+ls.length+1)/\t.size=ls.length+1+bl.size/\t.cnt=ls.length+1/\(t.starts i).getD ls.length 0=i+ls.length/\∀ sc s,aQ true t i sc s=aQ false bl (i+ls.length+1) sc s
 |[],t,i,_,h,ha=>by
  obtain⟨y,bl,n,rfl,h1,h2,h3⟩:=iZ h;have:=gS h1;subst this;refine⟨bl,h3,ha.2.2.1,by simp only[Fo.size,Z0e];omega,rfl,rfl,λsc s=>?_⟩;simp only[aQ,h2,if_true];rfl
 |c::ls,t,i,hl,h,ha=>by
  simp only[Z1b,Z07] at hl;obtain⟨y,n,rfl,h1,h2⟩:=d6 hl.1 h;obtain⟨bl,g1,g2,g3,g4,g5,g6⟩:=gQ ls n (i+1) hl.2 h1 (by simpa [Fo.size] using ha.2.2.2)
  have e:i+1+ls.length=i+(c::ls).length:=by simp only[Z04];omega
  rw[e] at g2 g5 g6;refine⟨bl,g1,g2,by simp only[Fo.size,Z04];omega,by simp only[Fo.cnt,g4,Z04],?_,λsc s=>?_⟩
  ·simp only[Fo.starts,Fo.size,Z04,Z27]
   have:i+1+0=i+1:=rfl;rw[this,g5];simp only[Z04]
  ·have: ¬y.op=4:=aa
   simp only[aQ,if_neg this,Fo.size,Z0p];exact g6 sc s
theorem C9 {p:List Nd} {x:Nd} {k n:Fo} {i:Nat} (ha:(Fo.cons x k n).At p i) (hv:(Fo.cons x k n).V ((false,c)::cs)) (hb:fM x.op=true):
 ∃ (m:Nat) (c':Int) (bl:Fo),m<=4/\(c'=68\/c'=70)/\bl.V (List.replicate bl.cnt (false,c'))/\bl.At p (i+1+m+1)/\k.size=m+1+bl.size/\k.cnt=m+1/\(k.starts (i+1)).getD m 0=i+1+m/\∀ sc s,aQ true k (i+1) sc s=aQ false bl (i+1+m+1) sc s:=by
 obtain⟨_,hk,_⟩:=hv;unfold fM at hb;simp only[decide_eq_true_eq] at hb
 rcases hb with e|e|e|e|e<;>rw[e] at hk
 ·obtain⟨bl,h⟩:=gQ [110] k (i+1) rfl hk ha.2.2.1
  exact⟨1,_,bl,ac,.inl rfl,h⟩
 ·obtain⟨bl,h⟩:=gQ [115] k (i+1) rfl hk ha.2.2.1
  exact⟨1,_,bl,ac,.inl rfl,h⟩
 ·obtain⟨bl,h⟩:=gQ [115,105,105] k (i+1) rfl hk ha.2.2.1
  exact⟨3,_,bl,ac,.inl rfl,h⟩
 ·obtain⟨bl,h⟩:=gQ [110,105,105] k (i+1) rfl hk ha.2.2.1
  exact⟨3,_,bl,ac,.inr rfl,h⟩
 ·obtain⟨bl,h⟩:=gQ [110,110,105,105] k (i+1) rfl hk ha.2.2.1
  exact⟨4,_,bl,ac,.inr rfl,h⟩
theorem kZ {op:Int} (hc:c=68\/c=70) (h:bn c op=true):op=10\/op=11\/op=12\/op=13\/op=14\/op=15\/op=16\/op=17\/op=18\/op=19\/op=20\/op=21:=by
 unfold bn at h
 rcases hc with rfl|rfl
 ·simp at h;omega
 ·simp[cx] at h;omega
theorem lX {p:List Nd} {x:Nd} {k n:Fo} {i:Nat} (hc:c=68\/c=70) (ha:(Fo.cons x k n).At p i) (hv:(Fo.cons x k n).V ((false,c)::cs)):i+1<p.length/\ao k=(ah (p.getD (i+1) dN).str).1:=by
 obtain⟨⟨hacc,_⟩,hk,_⟩:=hv
 have key:∃ sl r,dd (av x.op x.kids).1=sl::r:=by
  rcases kZ hc hacc with e|e|e|e|e|e|e|e|e|e|e|e<;>rw[e]<;>exact⟨_,_,rfl⟩
 obtain⟨sl,r,e⟩:=key;rw[e] at hk;obtain⟨y,ky,n',rfl,_⟩:=sS hk;have h1:=ha.2.2.1;exact⟨At.lt h1,by rw[At.get h1];rfl⟩
theorem jO {b r:Pth} (h:(aq b r).2=true):(aq b r).1.root=true:=by
 unfold aq at h |-;split
 ·simp_all
 ·split
  ·rfl
  ·split
   ·simp_all
   ·rfl
end
abbrev nU (z:Int):V:=.s (.int .u64 z)
def im (sp base len:Int):Bool:=decide (4<=sp\/sp=2\/len=0\/1048576<len\/9223372036854775808<base)||decide (sp=3/\256<base+len)
def iY (w u:Int):Bool:=if w=1\/w=2\/w=4\/w=8 then decide (2<u) else true
theorem aj {z:Int} (h1:0<=z) (h2:z<18446744073709551616):IntKind.u64.wrap z=z:=by
 simp only[IntKind.wrap,IntKind.bits,IntKind.signed,Z2c,Z0l,if_false];exact Z5j h1 (by simpa using h2)
theorem mD (w u:Int):FC Tryz.prog 175 [nU w,nU u] 0 [] (bV (iY w u)) 0 []:=by
 refine wW Tryz.func175 ?_
 repeat'(first|exact y0|refine y1 ?_|refine y2 ?_ ?_|refine y4 λh=>?_|refine Fin.bool (.inl rfl) rfl ?_|refine y3 ?_|exact y5|fail)
 all_goals (unfold iY;first|(rw[if_pos aa];simp;omega)|(rw[if_neg aa]))
theorem vf (sp base len:Int) (h0:0<=base) (h1:0<=len):FC Tryz.prog 174 [nU sp,nU base,nU len] 0 [] (bV (im sp base len)) 0 []:=by
 refine wW Tryz.func174 ?_
 repeat'(first|exact y0|refine y1 ?_|refine y2 ?_ ?_|refine y4 λh=>?_|refine Fin.bool (.inl rfl) rfl ?_|refine y3 ?_|exact y5|fail)
 all_goals first
  |exact aj aa aa
  |(unfold im;simp;omega)
def ai (p:List Nd) (i:Nat):Int:=(p.getD i dN).int
def pR (p:List Nd):Prop:=∀ x∈p,0<=x.int
theorem ca {p:List Nd} (h:pR p) (i:Nat):0<=(p.getD i dN).int:=by
 rw[Z00]
 cases e:p[i]? with
 |none=>simp[dN]
 |some x=>exact h x (Z4i e)
def ve (p:List Nd):Nat->Nat->Bool
 |_,0=>false
 |i,K+1=>decide (255<ai p i)||ve p (i+1) K
def aK (p:List Nd) (i:Nat):Bool:=
 if (p.getD i dN).op=12 then decide (5<ai p (i+2))||decide (65535<ai p (i+3))
 else if (p.getD i dN).op=14 then decide (7<ai p (i+2))||decide (1<ai p (i+3))||decide (15<ai p (i+4))
 else if (p.getD i dN).op=20 then decide (15<ai p (i+2))
 else if (p.getD i dN).op=15 then im (ai p (i+2)) (ai p (i+3)) (ai p (i+4))
 else if (p.getD i dN).op=16 then iY (ai p (i+2)) (ai p (i+3))
 else if (p.getD i dN).op=17 then iY (ai p (i+3)) (ai p (i+4))
 else if (p.getD i dN).op=18 then decide (ai p (i+2)=0)||decide (256<ai p (i+2))
 else if (p.getD i dN).op=19 then decide (8388608<ai p (i+1))
 else if (p.getD i dN).op=50 then decide (255<ai p (i+1))||ve p (i+3) (p.getD (i+2) dN).kids.toNat
 else if (p.getD i dN).op=51 then decide (64<ai p (i+1))
 else if (p.getD i dN).op=41 then decide (65535<ai p (i+2))
 else false
def jH (p:List Nd) (i:Nat):Prop:=i<p.length/\(((p.getD i dN).op=14\/(p.getD i dN).op=15\/(p.getD i dN).op=17)->i+4<p.length)/\(((p.getD i dN).op=12\/(p.getD i dN).op=16)->i+3<p.length)/\
 (((p.getD i dN).op=20\/(p.getD i dN).op=18\/(p.getD i dN).op=50\/(p.getD i dN).op=41)->i+2<p.length)/\(((p.getD i dN).op=19\/(p.getD i dN).op=51)->i+1<p.length)/\
 ((p.getD i dN).op=50->∃ K:Nat,(p.getD (i+2) dN).kids=(K:Int)/\i+3+K<=p.length)
theorem sA {p:List Nd}:∀ {K i:Nat},(∀ j,j<K-> ¬255<ai p (i+j))->ve p i K=false
 |0,_,_=>rfl
 |K+1,i,h=>by
  simp only[ve];rw[decide_eq_false (show ¬255<ai p i from h 0 (Z1n _)),sA λj hj=>by have:=h (j+1) aa;rwa [show i+(j+1)=i+1+j by omega] at this];rfl
theorem pc {p:List Nd}:∀ {K i j:Nat},j<K->255<ai p (i+j)->ve p i K=true
 |K+1,i,0,_,h=>by simp only[ve];rw[decide_eq_true (by simpa using h)];rfl
 |K+1,i,j+1,hj,h=>by
  simp only[ve];rw[pc (K:=K) (i:=i+1) (j:=j) aa (by rwa [show i+1+j=i+(j+1) by omega]),Z4m]
theorem BK {p:List Nd} {i:Nat} (h:(p.getD i dN).op=50):aK p i=(decide (255<ai p (i+1))||ve p (i+3) (p.getD (i+2) dN).kids.toNat):=by
 unfold aK
 repeat (first|rw[if_pos aa]|rw[if_neg aa])
theorem xU (p:List Nd) (hp:p.length<=2048) (hI:pR p) (i:Nat) (hn:jH p i):FC Tryz.prog 116 [.s (.ptr (some (0,0))),nI i] 1 (Ei p) (bV (aK p i)) 1 (Ei p):=by
 obtain⟨g0,g4,g3,g2,g1,h2⟩:=hn;have hr:=vf (ai p (i+2)) (ai p (i+3)) (ai p (i+4)) (ca hI _) (ca hI _);have ha:=mD (ai p (i+2)) (ai p (i+3));have hb:=mD (ai p (i+3)) (ai p (i+4));unfold ai at hr ha hb;refine wW Tryz.func116 ?_;by_cases h50:(p.getD i dN).op=50
 ·obtain⟨K,hK,hle⟩:=h2 h50
  repeat'(first|exact y0|refine y1 ?_|refine y2 ?_ ?_|refine y4 λh=>?_|refine⟨.inl rfl,_,[],VLe.of_eq (congrArg bV ?_),EndOK.by rfl ⟨rfl,trivial⟩ rfl rfl rfl rfl⟩|refine y3 ?_|exact y5|fail)
  all_goals try omega
  ·unfold aK ai
   repeat (first|rw[if_pos aa]|rw[if_neg aa])
   rw[decide_eq_true (by assumption)];rfl
  ·have hk:((i:Int)+3)+(p.getD (i+2) dN).kids=((i+3+K:Nat):Int):=by rw[hK];push_cast;rfl
   have hK2:i+3+K-(i+3)=K:=aa;refine RegX.chunkN 12 rfl rfl ?_ (RegX.eqv 169 (congrArg nI hk) rfl ?_)
   all_goals
    repeat'(first|exact y0|refine y1 ?_|refine y2 ?_ ?_|refine y4 λh=>?_|refine y3 ?_|exact y5|fail)
   all_goals try omega
   ·rw[hk];exact ae aa aa
   refine Ex.inv (σ:=Nat) (λj=>[(172,nI j)]) (λj=>Ei p) (λj=>j<=K/\∀ x,x<j-> ¬255<ai p (i+3+x)) (λj=>K-j) 0 rfl (λ_=>rfl) ⟨Z08 _,λx hx=>by omega⟩ aV ⟨rfl,trivial⟩ ?_;rintro j ⟨j1,j2⟩
   repeat'(first|exact y0|refine y1 ?_|refine y2 ?_ ?_|refine y4 λh=>?_|refine⟨.inl rfl,_,[],VLe.of_eq (congrArg bV ?_),EndOK.by rfl ⟨rfl,trivial⟩ rfl rfl rfl rfl⟩|refine LoopR.same (j+1) ⟨?_,?_⟩ ?_ rfl aV ⟨rfl,trivial⟩ rfl rfl ac|refine y3 ?_|exact y5|fail)
   all_goals first
    |omega
    |(have q:j<i+3+K-(i+3):=Int.ofNat_lt.1 (by assumption)
      first
       |omega
       |(rw[BK h50,hK,Z12,pc (j:=j) aa (by assumption),Z4m];done)
       |exact nc j2 (by assumption))
    |(have q: ¬j<i+3+K-(i+3):=λe=>absurd (Int.ofNat_lt.2 e) (by assumption)
      rw[BK h50,hK,Z12,sA (λx hx=>j2 x aa),Z41];exact (decide_eq_false (by assumption)).symm)
 ·clear h2
  repeat'(first|exact y0|refine y1 ?_|refine y2 ?_ ?_|refine y4 λh=>?_|refine wX 174 (pu hr ?_)|refine wX 175 (pu ha ?_)|refine wX 175 (pu hb ?_)|refine⟨.inl rfl,_,[],VLe.of_eq (congrArg bV ?_),EndOK.by rfl ⟨rfl,trivial⟩ rfl rfl rfl rfl⟩|refine y3 ?_|exact y5|fail)
  all_goals first
   |omega
   |(unfold aK ai
     repeat (first|rw[if_pos aa]|rw[if_neg aa])
     first
      |done
      |rfl
      |(refine Eq.symm ?_;simp only[Z1h,decide_eq_true_eq,Nat.add_eq] at* <;>omega)
      |(refine Eq.symm ?_;simp only[Z2y,decide_eq_false_iff_not,Nat.add_eq] at* <;>omega))
def dt (p:List Nd) (F:List (By×Nat)) (op:Int):List Pth->Int
 |[]=> -1
 |c::t=>match pH F (aI c) with|some i=>if (p.getD i dN).op=op then (i:Int) else-1|none=>dt p F op t
theorem iE {p:List Nd} {F:List (By×Nat)} {op:Int} {c:Pth} {t:List Pth} {i:Nat} (h:pH F (aI c)=some i):dt p F op (c::t)=if (p.getD i dN).op=op then (i:Int) else-1:=by simp only[dt,h]
theorem iF {p:List Nd} {F:List (By×Nat)} {op:Int} {c:Pth} {t:List Pth} (h:pH F (aI c)=none):dt p F op (c::t)=dt p F op t:=by simp only[dt,h]
theorem rK:∀ {F:List (By×Nat)} {k:By} {i:Nat},pH F k=some i->(k,i)∈F
 |x::t,k,i,h=>by
  simp only[pH] at h;split at h
  ·rename_i e;cases h;rw[<-e];exact .head _
  ·exact .tail _ (rK h)
theorem jW (bs:List By) (s0:By):∀ (k:Nat),∀ c∈cJ bs s0 k,c.root=true
 |0,c,h=>by simp[cJ] at h;rw[h]
 |k+1,c,h=>by
  unfold cJ at h;split at h
  ·exact jW bs s0 k c h
  ·rcases Z0h.1 h with rfl|h
   ·rfl
   ·exact jW bs s0 k c h
theorem jV {b r:Pth}:∀ c∈aL b r,c.root=true:=by
 intro c h;unfold aL at h;split at h
 ·simp at h
 ·split at h
  ·split at h
   ·rename_i hj;simp at h;rw[h];exact jO hj
   ·simp at h
  ·exact jW _ _ _ c h
theorem l6 (b r:Pth):(aL b r).length<=b.segs.length+1:=by
 unfold aL;split
 ·simp
 ·split
  ·split<;>simp
  ·exact fv _ _ _
abbrev anR (p:List Nd) (F:List (By×Nat)):Hp:=[(0,some {cells:=[.frz (λk=>ndC (p.getD k dN)) 4 p.length,.unk,.unk,.map (some 1)],ty:=186,more:=true,ro:=true}),(1,some {cj F with ro:=true})]
theorem lC (p:List Nd) (hp:p.length<=2048) (F:List (By×Nat)) (hF:∀ x∈F,x.2<p.length) (sc nm:Pth) (hs:sc.segs.length<=1000000) (op:Int):
 FC Tryz.prog 177 [.s (.ptr (some (0,0))),gw sc,gw nm,nI op] 2 (anR p F) (nI (dt p F op (aL sc nm))) 2 (anR p F):=by
 have hcd:=w4 sc nm;have hroot:= @jV sc nm;have hcl:=l6 sc nm
 have hzr:∀ w,(zeroValue 3).run Tryz.prog w=.ok (.int .i64 0) w:=λw=>by rw[Tryz.zeroValue3]
 generalize aL sc nm=cs at*;refine wW Tryz.func177 ?_
 repeat'(first|exact y0|refine y1 ?_|refine y2 ?_ ?_|refine y4 λh=>?_|refine wX 49 (pu hcd ?_)|refine y3 ?_|exact y5|fail)
 refine Ex.inv (σ:=Nat) (λj=>[(17,nI j)]) (λj=>anR p F) (λj=>j<=cs.length/\dt p F op (cs.drop j)=dt p F op cs) (λj=>cs.length-j) 0 rfl (λ_=>rfl) ⟨Z08 _,rfl⟩ aV ⟨rfl,rfl,trivial⟩ ?_;rintro j ⟨j1,j2⟩;by_cases hj:j<cs.length
 ·rw[Z0k hj] at j2
  have hg:cs.getD j z0=cs[j]:=by simp[Z00,hj]
  have hrt:(cs.getD j z0).root=true:=by rw[hg];exact hroot _ (Z0s hj)
  have hf:=oO (cs.getD j z0) hrt;rw[<-hg] at j2
  cases hl:pH F (aI (cs.getD j z0)) with
  |none=>
   rw[iF hl] at j2
   repeat'(first|exact y0|refine y1 ?_|refine y2 ?_ ?_|refine y4 λh=>?_|refine wX 50 (pu hf ?_)|refine RegX.lkp none rfl rfl rfl rfl rfl hzr hl rfl ?_|refine y3 ?_|exact y5|fail)
   all_goals try omega
   exact LoopR.same (j+1) ⟨hj,j2⟩ aa rfl aV ⟨rfl,rfl,trivial⟩ rfl rfl ac
  |some i=>
   rw[iE hl] at j2;have hi:i<p.length:=hF _ (rK hl)
   repeat'(first|exact y0|refine y1 ?_|refine y2 ?_ ?_|refine y4 λh=>?_|refine wX 50 (pu hf ?_)|refine RegX.lkp (some i) rfl rfl rfl rfl rfl hzr hl rfl ?_|refine y3 ?_|exact y5|fail)
   all_goals try exact hi
   ·rw[<-j2,if_pos ‹_›]
    exact bh
   ·rw[<-j2,if_neg ‹_›]
    exact bh
 ·have hd:cs.drop j=[]:=by simp;omega
  rw[hd] at j2;simp only[dt] at j2;rw[<-j2]
  repeat'(first|exact y0|refine y1 ?_|refine y2 ?_ ?_|refine y4 λh=>?_|refine y3 ?_|exact y5|fail)
  all_goals exact bh
def dM (i:Nat) (r:Bool) (G:List (Nat×Nat)):List (Nat×Nat):=if r then G else G++[(i,10)]
def bU (op:Int) (i:Nat) (lp:Bool) (G:List (Nat×Nat)):List (Nat×Nat):=if (op=34\/op=35)/\lp=false then G++[(i,8)] else G
def aN:Bool->Fo->Nat->Bool->Bool->List (Nat×Nat)->List (Nat×Nat)
 |_,.nil,_,_,_,G=>G
 |true,.cons x k n,i,lp,r,G=>aN true n (i+1+k.size) lp r (if x.op=4 then aN false k (i+1) lp true G else G)
 |false,.cons x k n,i,lp,r,G=>
  aN false n (i+1+k.size) lp (r&& !decide (x.op=33\/x.op=34\/x.op=35))
   (if x.op=31 then aN true k (i+1) lp true (bU x.op i lp (dM i r G)) else if x.op=32 then aN true k (i+1) true true (bU x.op i lp (dM i r G)) else bU x.op i lp (dM i r G))
theorem xH (op:Int) (i:Nat) (lp r:Bool) (G:List (Nat×Nat)):(bU op i lp (dM i r G)).length<=G.length+2:=by
 unfold bU dM
 split<;>split<;>simp<;>omega
theorem AW (i:Nat) (r:Bool) (G:List (Nat×Nat)):(dM i r G).length<=G.length+1:=by
 unfold dM
 split<;>simp
theorem dQ:∀ (m:Bool) (t:Fo) (i:Nat) (lp r:Bool) (G:List (Nat×Nat)),(aN m t i lp r G).length<=G.length+2*t.size
 |true,.nil,_,_,_,_=>Z02 _
 |false,.nil,_,_,_,_=>Z02 _
 |true,.cons x k n,i,lp,r,G=>by
  simp only[aN,Fo.size];have h1:=dQ true n (i+1+k.size) lp r (if x.op=4 then aN false k (i+1) lp true G else G);split at h1
  ·have h2:=dQ false k (i+1) lp true G
   rw[if_pos ‹_›];omega
  ·rw[if_neg ‹_›];omega
 |false,.cons x k n,i,lp,r,G=>by
  simp only[aN,Fo.size];have h0:=xH x.op i lp r G;generalize bU x.op i lp (dM i r G)=G2 at*;have h1:=dQ true k (i+1) lp true G2;have h2:=dQ true k (i+1) true true G2;have h3:=dQ false n (i+1+k.size) lp (r&& !decide (x.op=33\/x.op=34\/x.op=35)) (if x.op=31 then aN true k (i+1) lp true G2 else if x.op=32 then aN true k (i+1) true true G2 else G2)
  have h4:(if x.op=31 then aN true k (i+1) lp true G2 else if x.op=32 then aN true k (i+1) true true G2 else G2).length<=G2.length+2*k.size:=by
   split
   ·exact h1
   ·split
    ·exact h2
    ·omega
  omega
theorem FH {op:Int} (h:bn 101 op=true): ¬op=4:=by
 intro e;subst e;revert h;decide
theorem tc {x:Nd} {k n:Fo} {cs:List (Bool×Int)} (hv:(Fo.cons x k n).V ((false,83)::cs)) (ho:x.op=31\/x.op=32):
 ∃ e ke rest,k=.cons e ke rest/\ ¬e.op=4/\rest.V (List.replicate rest.cnt (true,83))/\1<=rest.cnt/\(x.op=32->rest.cnt=1):=by
 obtain⟨_,hk,_⟩:=hv
 have key:∀ m:Nat,dd (av x.op x.kids).1=(false,101)::List.replicate (m+1) (true,83)->(x.op=32->m=0)->∃ e ke rest,k=.cons e ke rest/\ ¬e.op=4/\rest.V (List.replicate rest.cnt (true,83))/\1<=rest.cnt/\(x.op=32->rest.cnt=1):=by
  intro m hs h0;rw[hs] at hk
  cases k with
  |nil=>exact hk.elim
  |cons e ke rest=>
   have hc:=Fo.V_cnt hk.2.2;rw[Z36] at hc;exact⟨e,ke,rest,rfl,FH hk.1.1,by rw[hc];exact hk.2.2,aa,λh=>by rw[hc,h0 h]⟩
 rcases ho with ho|ho
 ·by_cases h3:x.kids=3
  ·refine key 1 ?_ (λh=>by omega)
   rw[ho,h3];rfl
  ·refine key 0 ?_ (λ_=>rfl)
   rw[ho];unfold av;rw[if_neg ac,if_neg ac,if_neg (by simp[h3])];rfl
 ·refine key 0 ?_ (λ_=>rfl)
  rw[ho];rfl
abbrev stL (p:List Nd) (nD:Nat) (G:List (Nat×Nat)):Hp:=[(0,some (e8 p 3 nD 6 G.length)),(6,bA 6 G)]
abbrev I3 (p:List Nd) (nD:Nat) (G:List (Nat×Nat)):Hp:=[(0,some (e8 p 3 nD 8 G.length)),(6,none),(8,bA 8 G)]
def II (p:List Nd) (nD N:Nat):Prop:=∀ (b:Nd) (k:Fo) (i:Nat) (lp:Bool) (G:List (Nat×Nat)),k.size<N->(Fo.cons b k .nil).At p i->(Fo.cons b k .nil).V [(true,83)]->G.length+2*k.size<=1000000000->
 FC Tryz.prog 229 [.s (.ptr (some (0,0))),nI i,bV lp] 8 (stL p nD G) .any 10 (I3 p nD (aN false k (i+1) lp true G))
theorem I2 (p:List Nd) (hp:p.length<=2048) (nD N:Nat) (ih:II p nD N):II p nD (N+1):=by
 intro b k i lp G hN ha hv hG;have hi:=At.lt ha;have hx:=At.get ha;have hsz:=At.size_le (Z1k hi) ha;simp only[Fo.size] at hsz;have hcs:=bp k (i+1)
 have hkid:(p.getD i dN).kids=((k.starts (i+1)).length:Nat):=by rw[hx,hcs];exact ha.2.1
 have hcc:=Fo.cnt_le k;have hch:=fQ p hp i (i+1+k.size) hi (k.starts (i+1)) hkid (At.chain ha.2.2.1) aa;have hcs0:(k.starts (i+1)).drop 0=k.starts (i+1):=rfl;have hkA:=ha.2.2.1;have hkV:=hv.2.1;generalize hcsd:k.starts (i+1)=cs at hcs hkid hch;refine wW Tryz.func229 ?_
 repeat'(first|refine Ex.canon [0,1,2,3,4,5,6,7,6,7] 68 [(0,.s (.ptr (some (0,0)))),(2,bV lp),(6,bV true),(13,.s (d9 cs)),(14,nI cs.length),(15,nI 0)] [(0,some (e8 p 3 nD 8 (G).length)),(8,bA 8 (G))] rfl rfl ⟨VLe.refl _,VLe.refl _,VLe.refl _,VLe.refl _,VLe.refl _,VLe.refl _,trivial⟩ ⟨rfl,MemP.op rfl trivial⟩ (by unfold bA;generalize List.flatMap cb _=cg;cases cg<;>rfl) (Ex.block ?_)|exact y0|refine y1 ?_|refine y2 ?_ ?_|refine y4 λh=>?_|refine wX 228 (ip [0] 0 hch ?_)|refine y3 ?_|exact y5|fail)
 refine Ex.inv (σ:=Fo×Nat×Nat×Bool×List (Nat×Nat)) (λq=>[(6,bV q.2.2.2.1),(15,nI q.2.2.1)]) (λq=>[(0,some (e8 p 3 nD 8 (q.2.2.2.2).length)),(8,bA 8 (q.2.2.2.2))])
  (λq=>q.1.At p q.2.1/\q.1.V (List.replicate q.1.cnt (false,83))/\(i+1<=q.2.1/\q.2.1+q.1.size=i+1+k.size)/\q.2.2.1+q.1.cnt=cs.length/\cs.drop q.2.2.1=q.1.starts q.2.1/\q.2.2.2.2.length+2*q.1.size<=1000000000/\aN false q.1 q.2.1 lp q.2.2.2.1 q.2.2.2.2=aN false k (i+1) lp true G) (λq=>q.1.size) (k,i+1,0,true,G) rfl (λ_=>rfl) ?_ ?_ ?_ ?_
 ·refine⟨hkA,hkV,⟨by simp only;omega,by simp only⟩,by simp only;omega,by simp only[Z3f,hcsd],hG,rfl⟩
 ·exact aV
 ·exact⟨rfl,SubP.op rfl trivial⟩
 ·rintro⟨t,cur,idx,r,Gt⟩ ⟨t1,t2,⟨t0,t3⟩,t4,t5,t6,t7⟩
  simp only at t0 t1 t2 t3 t4 t5 t6 t7 |-
  cases t with
  |nil=>
   simp only[Fo.cnt,Z0p] at t4;simp only[aN] at t7;rw[<-t7]
   repeat'(first|exact y0|refine y1 ?_|refine y2 ?_ ?_|refine y4 λh=>?_|refine y3 ?_|exact y5|fail)
   refine⟨.inr rfl,.tup [],[8,9],VLe.any _,EndOK.by rfl ?_ rfl ?_ rfl rfl⟩
   ·exact⟨rfl,MemP.op rfl trivial⟩
   ·exact bI rfl rfl rfl
  |cons x ks n=>
   simp only[Fo.size] at t3 t6;simp only[Fo.cnt] at t4
   have hcur:cs.getD idx 0=cur:=by
    have:(cs.drop idx)[0]? =some cur:=by rw[t5];rfl
    rw[Z2k,Z0p] at this;rw[Z00,this];rfl
   have hnext:cs.drop (idx+1)=n.starts (cur+1+ks.size):=by
    rw[<-Z5c,t5];rfl
   have hcl:=At.lt t1;have hcx:=At.get t1;rw[show aN false (.cons x ks n) cur lp r Gt=aN false n (cur+1+ks.size) lp (r&& !decide (x.op=33\/x.op=34\/x.op=35)) (if x.op=31 then aN true ks (cur+1) lp true (bU x.op cur lp (dM cur r Gt)) else if x.op=32 then aN true ks (cur+1) true true (bU x.op cur lp (dM cur r Gt)) else bU x.op cur lp (dM cur r Gt)) from rfl] at t7;have hG1:=AW cur r Gt;have hG1d:dM cur r Gt=if r then Gt else Gt++[(cur,10)]:=rfl;have hG1d':dM cur r Gt=dM cur r Gt:=rfl;generalize hG1e:dM cur r Gt=G1 at hG1 hG1d t7;rw[hG1e] at hG1d'
   repeat'(first|refine Ex.cutC 20 68 10 [(0,.s (.ptr (some (0,0)))),(2,bV lp),(6,bV r),(8,nI cur),(13,.s (d9 cs)),(14,nI cs.length),(15,nI idx)] [(0,some (e8 p 3 nD 8 (G1).length)),(8,bA 8 (G1))] rfl ?_ ?_|refine Ex.cutBI 2 68 10 [(0,.s (.ptr (some (0,0)))),(2,bV lp),(6,bV (r&& !decide (x.op=33\/x.op=34\/x.op=35))),(13,.s (d9 cs)),(14,nI cs.length),(15,nI idx)] [(0,some (e8 p 3 nD 8 (if x.op=31 then aN true ks (cur+1) lp true (bU x.op cur lp G1) else if x.op=32 then aN true ks (cur+1) true true (bU x.op cur lp G1) else bU x.op cur lp G1).length)),(8,bA 8 (if x.op=31 then aN true ks (cur+1) lp true (bU x.op cur lp G1) else if x.op=32 then aN true ks (cur+1) true true (bU x.op cur lp G1) else bU x.op cur lp G1))] rfl ?_ ?_|exact y0|refine y1 ?_|refine y2 ?_ ?_|refine y4 λh=>?_|refine y3 ?_|exact y5|fail)
   all_goals try omega
   ·have hr:r=false:=by
     cases r
     ·rfl
     ·simp at*
    subst hr;subst hG1d
    repeat'(first|exact y0|refine y1 ?_|refine y2 ?_ ?_|refine y4 λh=>?_|(refine wX 117 ?_;refine CallG.mo [0,1,2,3,4,5,8,9] (cT p nD Gt cur 10 aa) rfl (bI rfl rfl rfl) rfl rfl rfl ⟨VLe.refl _,VLe.of_eq (congrArg nI (by rw[hcur])),VLe.refl _,trivial⟩ nC rfl rfl (wr:=[(0,some (e8 p 3 nD 10 (Gt.length+1))),(8,none),(10,bA 10 (Gt++[(cur,10)]))]) (by show [_,_,_]=_;rw[aH];rfl) ?_)|refine y3 ?_|exact y5|fail)
    rw[show (if false=true then Gt else Gt++[(cur,10)]).length=Gt.length+1 from by simp];refine CutR.at [0,1,2,3,4,5,6,7,10,11] rfl rfl ⟨VLe.refl _,VLe.refl _,VLe.refl _,VLe.of_eq (congrArg nI (by rw[hcur])),VLe.refl _,VLe.refl _,VLe.refl _,trivial⟩ ⟨rfl,MemP.op rfl trivial⟩ ?_
    (unfold bA;generalize List.flatMap cb _=cg;cases cg<;>rfl)
   ·have hr:r=true:=by
     cases r
     ·simp at*
     ·rfl
    subst hr;subst hG1d;refine CutR.at [0,1,2,3,4,5,6,7,8,9] rfl rfl ⟨VLe.refl _,VLe.refl _,VLe.refl _,VLe.of_eq (congrArg nI (by rw[hcur])),VLe.refl _,VLe.refl _,VLe.refl _,trivial⟩ ⟨rfl,MemP.op rfl trivial⟩ ?_
    (unfold bA;generalize List.flatMap cb _=cg;cases cg<;>rfl)
   ·have ho:x.op=33:=by rw[<-hcx];assumption
    rw[if_neg aa,if_neg aa,decide_eq_true aa,Z2z,Z4f];unfold bU;rw[if_neg aa];refine CutR.at [0,1,2,3,4,5,6,7,8,9] rfl rfl ⟨VLe.refl _,VLe.refl _,VLe.refl _,VLe.refl _,VLe.refl _,VLe.refl _,trivial⟩ ⟨rfl,MemP.op rfl trivial⟩ ?_
    (unfold bA;generalize List.flatMap cb _=cg;cases cg<;>rfl)
   ·have ho:x.op=34:=by rw[<-hcx];assumption
    have hlp:lp=false:=by
     cases lp
     ·rfl
     ·simp at*
    subst hlp;rw[if_neg aa,if_neg aa,decide_eq_true aa,Z2z,Z4f];unfold bU;rw[if_pos ⟨aa,rfl⟩,Z03,Z0n]
    repeat'(first|exact y0|refine y1 ?_|refine y2 ?_ ?_|refine y4 λh=>?_|(refine wX 117 ?_;refine CallG.mo [0,1,2,3,4,5,8,9] (cT p nD G1 cur 8 aa) rfl (bI rfl rfl rfl) rfl rfl rfl aV nC rfl rfl (wr:=[(0,some (e8 p 3 nD 10 (G1.length+1))),(8,none),(10,bA 10 (G1++[(cur,8)]))]) (by show [_,_,_]=_;rw[aH];rfl) ?_)|refine y3 ?_|exact y5|fail)
    refine CutR.at [0,1,2,3,4,5,6,7,10,11] rfl rfl ⟨VLe.refl _,VLe.refl _,VLe.refl _,VLe.refl _,VLe.refl _,VLe.refl _,trivial⟩ ⟨rfl,MemP.op rfl trivial⟩ ?_
    (unfold bA;generalize List.flatMap cb _=cg;cases cg<;>rfl)
   ·have ho:x.op=34:=by rw[<-hcx];assumption
    have hlp:lp=true:=by
     cases lp
     ·simp at*
     ·rfl
    subst hlp;rw[if_neg aa,if_neg aa,decide_eq_true aa,Z2z,Z4f];unfold bU;rw[if_neg an];refine CutR.at [0,1,2,3,4,5,6,7,8,9] rfl rfl ⟨VLe.refl _,VLe.refl _,VLe.refl _,VLe.refl _,VLe.refl _,VLe.refl _,trivial⟩ ⟨rfl,MemP.op rfl trivial⟩ ?_
    (unfold bA;generalize List.flatMap cb _=cg;cases cg<;>rfl)
   ·have ho:x.op=35:=by rw[<-hcx];assumption
    have hlp:lp=false:=by
     cases lp
     ·rfl
     ·simp at*
    subst hlp;rw[if_neg aa,if_neg aa,decide_eq_true aa,Z2z,Z4f];unfold bU;rw[if_pos ⟨aa,rfl⟩,Z03,Z0n]
    repeat'(first|exact y0|refine y1 ?_|refine y2 ?_ ?_|refine y4 λh=>?_|(refine wX 117 ?_;refine CallG.mo [0,1,2,3,4,5,8,9] (cT p nD G1 cur 8 aa) rfl (bI rfl rfl rfl) rfl rfl rfl aV nC rfl rfl (wr:=[(0,some (e8 p 3 nD 10 (G1.length+1))),(8,none),(10,bA 10 (G1++[(cur,8)]))]) (by show [_,_,_]=_;rw[aH];rfl) ?_)|refine y3 ?_|exact y5|fail)
    refine CutR.at [0,1,2,3,4,5,6,7,10,11] rfl rfl ⟨VLe.refl _,VLe.refl _,VLe.refl _,VLe.refl _,VLe.refl _,VLe.refl _,trivial⟩ ⟨rfl,MemP.op rfl trivial⟩ ?_
    (unfold bA;generalize List.flatMap cb _=cg;cases cg<;>rfl)
   ·have ho:x.op=35:=by rw[<-hcx];assumption
    have hlp:lp=true:=by
     cases lp
     ·simp at*
     ·rfl
    subst hlp;rw[if_neg aa,if_neg aa,decide_eq_true aa,Z2z,Z4f];unfold bU;rw[if_neg an];refine CutR.at [0,1,2,3,4,5,6,7,8,9] rfl rfl ⟨VLe.refl _,VLe.refl _,VLe.refl _,VLe.refl _,VLe.refl _,VLe.refl _,trivial⟩ ⟨rfl,MemP.op rfl trivial⟩ ?_
    (unfold bA;generalize List.flatMap cb _=cg;cases cg<;>rfl)
   ·have ho:x.op=31:=by rw[<-hcx];assumption
    obtain⟨e,ke,rest,rfl,he,hrV,hr1,hr32⟩:=tc t2 aa;have hcs':=bp (.cons e ke rest) (cur+1)
    have hkid':(p.getD cur dN).kids=(((Fo.cons e ke rest).starts (cur+1)).length:Nat):=by rw[hcx,hcs'];exact t1.2.1
    have hcc':=Fo.cnt_le (.cons e ke rest);have hch':=fQ p hp cur (cur+1+(Fo.cons e ke rest).size) hcl _ hkid' (At.chain t1.2.2.1) aa;have hd1:((Fo.cons e ke rest).starts (cur+1)).drop 1=rest.starts (cur+1+1+ke.size):=rfl;have hrA:=t1.2.2.1.2.2.2;simp only[Fo.cnt,Fo.size] at hcs' hcc' t3 t6;generalize (Fo.cons e ke rest).starts (cur+1)=cs' at*
    have hst:∀ (m:Bool) (lq:Bool) (r:Bool) (G:List (Nat×Nat)),aN true (.cons e ke rest) (cur+1) lq r G=aN true rest (cur+1+1+ke.size) lq r G:=λm lq r G=>by simp only[aN,if_neg he]
    rw[hst true,hst true] at t7;rw[hst true,hst true]
    have hG2:bU x.op cur lp G1=G1:=by unfold bU;rw[if_neg aa]
    rw[hG2] at t7 |-;rw[decide_eq_false aa,Z2f,Z3m] at*;rw[if_pos ho] at t7 |-
    repeat'(first|exact y0|refine y1 ?_|refine y2 ?_ ?_|refine y4 λh=>?_|(refine wX 228 ?_;refine CallG.mv [0] 0 hch' rfl rfl aV rfl rfl (λφ w b=>BlAt.view 1 rfl) rfl nC rfl rfl rfl rfl ?_)|refine y3 ?_|exact y5|fail)
    all_goals try omega
    refine Ex.inv (σ:=Fo×Nat×Nat×List (Nat×Nat)) (λq=>[(49,nI q.2.2.1)]) (λq=>[(0,some (e8 p 3 nD 8 (q.2.2.2).length)),(8,bA 8 (q.2.2.2))])
     (λq=>q.1.At p q.2.1/\q.1.V (List.replicate q.1.cnt (true,83))/\(cur+1+1+ke.size<=q.2.1/\q.2.1+q.1.size=cur+1+(1+ke.size+rest.size))/\q.2.2.1+q.1.cnt=rest.cnt/\cs'.drop (1+q.2.2.1)=q.1.starts q.2.1/\q.2.2.2.length+2*q.1.size<=1000000000/\aN true q.1 q.2.1 lp true q.2.2.2=aN true rest (cur+1+1+ke.size) lp true G1) (λq=>q.1.size) (rest,cur+1+1+ke.size,0,G1) rfl (λ_=>rfl) ?_ ?_ ?_ ?_
    ·exact⟨hrA,hrV,⟨Z02 _,by simp only;omega⟩,by simp only;omega,hd1,by simp only;omega,rfl⟩
    ·exact aV
    ·exact⟨rfl,SubP.op rfl trivial⟩
    ·rintro⟨u,cu,iu,Gu⟩ ⟨u1,u2,⟨u0,u3⟩,u4,u5,u6,u7⟩
     simp only at u0 u1 u2 u3 u4 u5 u6 u7 |-
     cases u with
     |nil=>
      simp only[Fo.cnt,Z0p] at u4;simp only[aN] at u7;rw[<-u7]
      repeat'(first|exact y0|refine y1 ?_|refine y2 ?_ ?_|refine y4 λh=>?_|refine y3 ?_|exact y5|fail)
      all_goals try omega
      refine CutR.at [0,1,2,3,4,5,6,7,8,9] rfl rfl ⟨VLe.refl _,VLe.refl _,VLe.refl _,VLe.refl _,VLe.refl _,VLe.refl _,trivial⟩ ⟨rfl,MemP.op rfl trivial⟩ ?_
      (unfold bA;generalize List.flatMap cb _=cg;cases cg<;>rfl)
     |cons b' bl' n'=>
      simp only[Fo.size] at u3 u6;simp only[Fo.cnt] at u4
      have hbi:cs'.getD (1+iu) 0=cu:=by
       have:(cs'.drop (1+iu))[0]? =some cu:=by rw[u5];rfl
       rw[Z2k,Z0p] at this;rw[Z00,this];rfl
      have hnx:cs'.drop (1+(iu+1))=n'.starts (cu+1+bl'.size):=by
       rw[show 1+(iu+1)=1+iu+1 by omega,<-Z5c,u5];rfl
      have hb4:b'.op=4:=u2.1.1;rw[show aN true (.cons b' bl' n') cu lp true Gu=aN true n' (cu+1+bl'.size) lp true (aN false bl' (cu+1) lp true Gu) from by simp only[aN,if_pos hb4]] at u7;have hrec:=ih b' bl' cu lp Gu aa ⟨u1.1,u1.2.1,u1.2.2.1,trivial⟩ ⟨u2.1,u2.2.1,trivial⟩ aa;have hln:=dQ false bl' (cu+1) lp true Gu;generalize aN false bl' (cu+1) lp true Gu=G3 at*
      repeat'(first|exact y0|refine y1 ?_|refine y2 ?_ ?_|refine y4 λh=>?_|(refine wX 229 ?_;refine CallG.mo [0,1,2,3,4,5,8,9] hrec rfl (bI rfl rfl rfl) rfl rfl rfl ⟨VLe.refl _,VLe.of_eq (congrArg nI (by rw[hbi])),VLe.refl _,trivial⟩ nC rfl rfl (wr:=[(0,some (e8 p 3 nD 10 G3.length)),(8,none),(10,bA 10 G3)]) (by show [_,_,_]=_;rw[aH];rfl) ?_)|refine y3 ?_|exact y5|fail)
      all_goals try omega
      refine LoopR.move (n',cu+1+bl'.size,iu+1,G3) ⟨u1.2.2.2,u2.2.2,⟨by simp only;omega,by simp only;omega⟩,by simp only;omega,hnx,by simp only;omega,u7⟩ (by simp only[Fo.size];omega) [0,1,2,3,4,5,6,7,10,11] rfl ?_ ?_ ?_
      ·repeat' (first|exact VLe.refl _|exact VLe.any _|exact Z0o|refine⟨?_,?_⟩)
      ·exact⟨rfl,MemP.op rfl trivial⟩
      ·(unfold bA;generalize List.flatMap cb _=cg;cases cg<;>rfl)
   ·have ho:x.op=32:=by rw[<-hcx];assumption
    obtain⟨e,ke,rest,rfl,he,hrV,hr1,hr32⟩:=tc t2 aa;have hcs':=bp (.cons e ke rest) (cur+1)
    have hkid':(p.getD cur dN).kids=(((Fo.cons e ke rest).starts (cur+1)).length:Nat):=by rw[hcx,hcs'];exact t1.2.1
    have hcc':=Fo.cnt_le (.cons e ke rest);have hch':=fQ p hp cur (cur+1+(Fo.cons e ke rest).size) hcl _ hkid' (At.chain t1.2.2.1) aa;have hd1:((Fo.cons e ke rest).starts (cur+1)).drop 1=rest.starts (cur+1+1+ke.size):=rfl;have hrA:=t1.2.2.1.2.2.2;simp only[Fo.cnt,Fo.size] at hcs' hcc' t3 t6;generalize (Fo.cons e ke rest).starts (cur+1)=cs' at*
    have hst:∀ (m:Bool) (lq:Bool) (r:Bool) (G:List (Nat×Nat)),aN true (.cons e ke rest) (cur+1) lq r G=aN true rest (cur+1+1+ke.size) lq r G:=λm lq r G=>by simp only[aN,if_neg he]
    rw[hst true,hst true] at t7;rw[hst true,hst true]
    have hG2:bU x.op cur lp G1=G1:=by unfold bU;rw[if_neg aa]
    rw[hG2] at t7 |-;rw[decide_eq_false aa,Z2f,Z3m] at*;rw[if_neg aa,if_pos ho] at t7 |-;have hc1:=hr32 ho
    cases rest with
    |nil=>exact absurd hr1 ac
    |cons b' bl' n'=>
     cases n' with
     |cons b2 bl2 n2=>simp only[Fo.cnt] at hc1;omega
     |nil=>
      have hb4:b'.op=4:=hrV.1.1
      have hbi:cs'.getD 1 0=cur+1+1+ke.size:=by
       have:(cs'.drop 1)[0]? =some (cur+1+1+ke.size):=by rw[hd1];rfl
       rw[Z2k,Z0p] at this;rw[Z00,this];rfl
      simp only[Fo.size,Z0p] at t3 t6;rw[show aN true (.cons b' bl' .nil) (cur+1+1+ke.size) true true G1=aN false bl' (cur+1+1+ke.size+1) true true G1 from by simp only[aN,if_pos hb4]] at t7 |-;have hrec:=ih b' bl' (cur+1+1+ke.size) true G1 aa hrA hrV aa;generalize aN false bl' (cur+1+1+ke.size+1) true true G1=G3 at*;simp only[Fo.cnt] at hcs'
      repeat'(first|exact y0|refine y1 ?_|refine y2 ?_ ?_|refine y4 λh=>?_|(refine wX 228 ?_;refine CallG.mv [0] 0 hch' rfl rfl aV rfl rfl (λφ w b=>BlAt.view 1 rfl) rfl nC rfl rfl rfl rfl ?_)|(refine wX 229 ?_;refine CallG.mo [0,1,2,3,4,5,8,9] hrec rfl (bI rfl rfl rfl) rfl rfl rfl ⟨VLe.refl _,VLe.of_eq (congrArg nI (by rw[hbi])),VLe.refl _,trivial⟩ nC rfl rfl (wr:=[(0,some (e8 p 3 nD 10 G3.length)),(8,none),(10,bA 10 G3)]) (by show [_,_,_]=_;rw[aH];rfl) ?_)|refine y3 ?_|exact y5|fail)
      all_goals try omega
      refine CutR.at [0,1,2,3,4,5,6,7,10,11] rfl rfl ⟨VLe.refl _,VLe.refl _,VLe.refl _,VLe.refl _,VLe.refl _,VLe.refl _,trivial⟩ ⟨rfl,MemP.op rfl trivial⟩ ?_
      (unfold bA;generalize List.flatMap cb _=cg;cases cg<;>rfl)
   ·rw[<-hcx] at t7 |-
    rw[if_neg aa,if_neg aa,decide_eq_false aa,Z2f,Z3m];unfold bU;rw[if_neg aa];refine CutR.at [0,1,2,3,4,5,6,7,8,9] rfl rfl ⟨VLe.refl _,VLe.refl _,VLe.refl _,VLe.refl _,VLe.refl _,VLe.refl _,trivial⟩ ⟨rfl,MemP.op rfl trivial⟩ ?_
    (unfold bA;generalize List.flatMap cb _=cg;cases cg<;>rfl)
   ·have hln:(if x.op=31 then aN true ks (cur+1) lp true (bU x.op cur lp G1) else if x.op=32 then aN true ks (cur+1) true true (bU x.op cur lp G1) else bU x.op cur lp G1).length+2*n.size<=1000000000:=by
     have h0:=xH x.op cur lp r Gt;rw[hG1e] at h0;have h1:=dQ true ks (cur+1) lp true (bU x.op cur lp G1);have h2:=dQ true ks (cur+1) true true (bU x.op cur lp G1);split
     ·omega
     ·split<;>omega
    generalize (if x.op=31 then aN true ks (cur+1) lp true (bU x.op cur lp G1) else if x.op=32 then aN true ks (cur+1) true true (bU x.op cur lp G1) else bU x.op cur lp G1)=G4 at*;refine LoopR.same (n,cur+1+ks.size,idx+1,(r&& !decide (x.op=33\/x.op=34\/x.op=35)),G4) ⟨t1.2.2.2,t2.2.2,⟨by simp only;omega,by simp only;omega⟩,by simp only;omega,hnext,hln,t7⟩ (by simp only[Fo.size];omega) rfl aV ⟨rfl,SubP.op rfl trivial⟩ rfl ?_ ac;exact bI rfl rfl rfl
theorem xG (p:List Nd) (hp:p.length<=2048) (nD:Nat):∀ N,II p nD N
 |0=>λb k i lp G h=>absurd h (Z1m _)
 |N+1=>I2 p hp nD N (xG p hp nD N)
theorem qx {p:List Nd} {c':Int}:∀ (ls:List Int) (t:Fo) (i:Nat),(ls.all d8)=true->t.V (ls.map (λc=>(false,c))++[(true,c')])->t.At p i->
 ∃ b bl,(Fo.cons b bl .nil).At p (i+ls.length)/\(Fo.cons b bl .nil).V [(true,c')]/\t.size=ls.length+1+bl.size
 |[],t,i,_,h,ha=>by
  obtain⟨y,bl,n,rfl,h1,h2,h3⟩:=iZ h;have:=gS h1;subst this;exact⟨y,bl,ha,h,by simp only[Fo.size,Z0e];omega⟩
 |c::ls,t,i,hl,h,ha=>by
  simp only[Z1b,Z07] at hl;obtain⟨y,n,rfl,h1,h2⟩:=d6 hl.1 h;obtain⟨b,bl,g1,g2,g3⟩:=qx ls n (i+1) hl.2 h1 (by simpa [Fo.size] using ha.2.2.2)
  have e:i+1+ls.length=i+(c::ls).length:=by simp only[Z04];omega
  rw[e] at g1;exact⟨b,bl,g1,g2,by simp only[Fo.size,Z04];omega⟩
def fk (p:List Nd) (lim:Int):Nat->Nat->List (Nat×Nat)->List (Nat×Nat)
 |0,_,G=>G
 |c+1,j,G=>fk p lim c (j+1) (if (p.getD j dN).op=7/\lim<=ai p j then G++[(j,9)] else G)
theorem pd (p:List Nd) (lim:Int):∀ (c j:Nat) (G:List (Nat×Nat)),(fk p lim c j G).length<=G.length+c
 |0,_,_=>Z02 _
 |c+1,j,G=>by
  simp only[fk];have:=pd p lim c (j+1) (if (p.getD j dN).op=7/\lim<=ai p j then G++[(j,9)] else G)
  have h2:(if (p.getD j dN).op=7/\lim<=ai p j then G++[(j,9)] else G).length<=G.length+1:=by split<;>simp
  omega
def lG (p:List Nd) (bl:Fo) (i:Nat) (G:List (Nat×Nat)):List (Nat×Nat):=aN false bl (i+6) false true (fk p (ai p (i+2)) (bl.size+1) (i+5) G)
theorem Jw (p:List Nd) (hp:p.length<=2048) (nD:Nat) (i:Nat) (b:Nd) (bl:Fo) (G:List (Nat×Nat)) (hend0:Ends p (i+6+bl.size) 1 i) (ha:(Fo.cons b bl .nil).At p (i+5)) (hv:(Fo.cons b bl .nil).V [(true,83)]) (hG:G.length+4*2048<=1000000000):
 FC Tryz.prog 179 [.s (.ptr (some (0,0))),nI i] 8 (stL p nD G) .any 10 (I3 p nD (lG p bl i G)):=by
 have hi5:=At.lt ha;have hsz:=At.size_le (Z1k hi5) ha;simp only[Fo.size] at hsz;have hend:=CS p hp i (i+6+bl.size) hend0;have hal:=pd p (ai p (i+2)) (bl.size+1) (i+5) G;have hst:=xG p hp nD (bl.size+1) b bl (i+5) false (fk p (ai p (i+2)) (bl.size+1) (i+5) G) (Z1t _) ha hv aa;unfold lG;generalize hA:fk p (ai p (i+2)) (bl.size+1) (i+5) G=A at*;refine wW Tryz.func179 ?_
 repeat'(first|refine Ex.canon [0,1,2,3,4,5,6,7,6,7] 52 [(0,.s (.ptr (some (0,0)))),(1,nI i),(4,nI (i+6+bl.size:Nat)),(5,nI (i+5:Nat))] [(0,some (e8 p 3 nD 8 (G).length)),(8,bA 8 (G))] rfl rfl ⟨VLe.refl _,VLe.refl _,VLe.refl _,VLe.of_eq (congrArg nI (by push_cast;rfl)),trivial⟩ ⟨rfl,MemP.op rfl trivial⟩ (by unfold bA;generalize List.flatMap cb _=cg;cases cg<;>rfl) (Ex.block ?_)|exact y0|refine y1 ?_|refine y2 ?_ ?_|refine y4 λh=>?_|refine wX 227 (ip [0] 0 hend ?_)|refine y3 ?_|exact y5|fail)
 refine Ex.inv (σ:=Nat×Nat×List (Nat×Nat)) (λq=>[(5,nI q.2.1)]) (λq=>[(0,some (e8 p 3 nD 8 (q.2.2).length)),(8,bA 8 (q.2.2))])
  (λq=>q.1+q.2.1=i+6+bl.size/\i+5<=q.2.1/\q.2.2.length+q.1<=G.length+(bl.size+1)/\fk p (ai p (i+2)) q.1 q.2.1 q.2.2=A) (λq=>q.1) (bl.size+1,i+5,G) rfl (λ_=>rfl) ?_ ?_ ?_ ?_
 ·exact⟨by simp only;omega,Z02 _,Z02 _,hA⟩
 ·exact aV
 ·exact⟨rfl,SubP.op rfl trivial⟩
 ·rintro⟨c,j,Gt⟩ ⟨t1,t2,t3,t4⟩
  simp only at t1 t2 t3 t4 |-
  cases c with
  |zero=>
   simp only[fk] at t4;subst t4
   repeat'(first|exact y0|refine y1 ?_|refine y2 ?_ ?_|refine y4 λh=>?_|(refine wX 229 ?_;refine CallG.mo [0,1,2,3,4,5,8,9] hst rfl (bI rfl rfl rfl) rfl rfl rfl ⟨VLe.refl _,VLe.of_eq (congrArg nI (by push_cast;rfl)),VLe.refl _,trivial⟩ nC rfl rfl (wr:=[(0,some (e8 p 3 nD 10 (aN false bl (i+5+1) false true Gt).length)),(8,none),(10,bA 10 (aN false bl (i+5+1) false true Gt))]) (by show [_,_,_]=_;rw[aH];rfl) ?_)|refine y3 ?_|exact y5|fail)
   all_goals try omega
   refine⟨.inr rfl,.tup [],[10,11],VLe.any _,EndOK.by rfl ?_ rfl ?_ rfl rfl⟩
   ·exact⟨rfl,MemP.op rfl trivial⟩
   ·exact bI rfl rfl rfl
  |succ c=>
   simp only[fk] at t4;by_cases hc:(p.getD j dN).op=7/\ai p (i+2)<=ai p j
   ·rw[if_pos hc] at t4
    obtain⟨hc1,hc2⟩:=hc;unfold ai at hc2
    repeat'(first|exact y0|refine y1 ?_|refine y2 ?_ ?_|(refine y4 λh=>?_;try(first|(exact absurd hc2 (by assumption))|exact y6))|(refine wX 117 ?_;refine CallG.mo [0,1,2,3,4,5,8,9] (cT p nD Gt j 9 aa) rfl (bI rfl rfl rfl) rfl rfl rfl aV nC rfl rfl (wr:=[(0,some (e8 p 3 nD 10 (Gt.length+1))),(8,none),(10,bA 10 (Gt++[(j,9)]))]) (by show [_,_,_]=_;rw[aH];rfl) ?_)|refine y3 ?_|exact y5|fail)
    all_goals try omega
    refine LoopR.move (c,j+1,Gt++[(j,9)]) ⟨by simp only;omega,by simp only;omega,by simp only[Z03,Z0n];omega,t4⟩ (by simp only;omega) [0,1,2,3,4,5,6,7,10,11] rfl ?_ ?_ ?_
    ·repeat' (first|exact VLe.refl _|exact VLe.any _|exact Z0o|exact VLe.of_eq (congrArg nI (by push_cast;rfl))|refine⟨?_,?_⟩)
    ·rw[Z03,Z0n]
     exact⟨rfl,MemP.op rfl trivial⟩
    ·(unfold bA;generalize List.flatMap cb _=cg;cases cg<;>rfl)
   ·rw[if_neg hc] at t4
    unfold ai at hc
    repeat'(first|exact y0|refine y1 ?_|refine y2 ?_ ?_|(refine y4 λh=>?_;try(first|(exfalso;exact hc ⟨by assumption,by assumption⟩)|exact y6))|refine y3 ?_|exact y5|fail)
    all_goals try omega
    all_goals
     refine LoopR.same (c,j+1,Gt) ⟨by simp only;omega,by simp only;omega,by simp only;omega,t4⟩ (by simp only;omega) rfl ⟨VLe.of_eq (congrArg nI (by push_cast;rfl)),trivial⟩ ⟨rfl,SubP.op rfl trivial⟩ rfl ?_ ac;exact bI rfl rfl rfl
abbrev nQ (S:List Pth):Bl:={cells:=S.flatMap bX,ty:=99,sym:=true,flat:=true}
theorem tk:∀ {T:List Pth} {i:Nat} {q:Pth},i<T.length->bR (T.flatMap bX) (i*3) (bX q)=(T.set i q).flatMap bX
 |[],i,q,h=>by simp at h
 |p::T,0,q,_=>by
  simp only[Z0g,Z3k,Z24];have:=ko (bX q) [] (bX p++T.flatMap bX) (by simp[bX])
  simpa [bX] using this
 |p::T,i+1,q,h=>by
  simp only[Z0g,Z2j];have ih:=tk (T:=T) (i:=i) (q:=q) (by simpa using h)
  have e:(i+1)*3=(bX p).length+i*3:=by simp[bX];omega
  rw[e,<-ih]
  have h2:∀ (vs l pre:List S) (o:Nat),bR (pre++l) (pre.length+o) vs=pre++bR l o vs:=by
   intro vs
   induction vs with
   |nil=>intro l pre o;rfl
   |cons v vs ihv=>
    intro l pre o;simp only[bR];rw[Z4y _ _ aa,Nat.add_sub_cancel_left,show pre.length+o+1=pre.length+(o+1) by omega,ihv]
  exact h2 _ _ _ _
abbrev DJ (p:List Nd) (s:St):Hp:=[(0,some (e8 p 3 s.D.length 6 s.G.length)),(1,some (nQ s.S)),(3,k9 3 s.D),(5,some (cj s.F)),(6,bA 6 s.G)]
abbrev IA (p:List Nd) (s:St):Hp:=[(0,some (e8 p 8 s.D.length 10 s.G.length)),(1,some (nQ s.S)),(3,none),(6,none),(5,some (cj s.F)),(8,k9 8 s.D),(10,bA 10 s.G)]
def D7 (p:List Nd) (N:Nat):Prop:=∀ (x:Nd) (k:Fo) (c:Int) (i:Nat) (sc:Pth) (s:St),k.size<N->(c=68\/c=70)->(Fo.cons x k .nil).At p i->(Fo.cons x k .nil).V [(false,c)]->s.S.length=p.length->s.D.length<=i->s.G.length<=i->
 FC Tryz.prog 173 [.s (.ptr (some (0,0))),nI i,gw sc] 8 (DJ p s) (nI (i+1+k.size:Nat)) 12 (IA p (aQ false (.cons x k .nil) i sc s))
theorem Ii (p:List Nd) (hp:p.length<=2048) (hw:mS p) (N:Nat) (ih:D7 p N):D7 p (N+1):=by
 intro x k c i sc s hN hc ha hv hS hD hG;have hi:=At.lt ha;have hx:=At.get ha;obtain⟨hi1,hnm⟩:=lX hc ha hv;have hpa:=kC p hw (i+1) hi1;have hend:=CS p hp i (i+1+k.size) (At.ends1 ha)
 have hse:(Tryz.prog.types[99]).size=3:=by kernel_rfl
 have hcat:bJ 0 (bG i (Tryz.prog.types[99]).size)=i*3:=by rw[hse,am,aB,Z0c]
 have hjn:=Co sc (ao k);rw[hnm] at hjn;generalize hhd:bO x (ao k) i sc s=hd;obtain⟨inner,s1⟩:=hd
 have hfin:aQ false (.cons x k .nil) i sc s=if fM x.op then aQ true k (i+1) inner s1 else s1:=by simp only[aQ,hhd]
 have hlen:=qj x (ao k) i sc s;rw[hhd] at hlen;simp only at hlen;rw[hfin];unfold bO at hhd;rw[hnm] at hhd;rw[<-hx] at hhd;have hjr:= @jO sc (ah (p.getD (i+1) dN).str).1;generalize aq sc (ah (p.getD (i+1) dN).str).1=jj at*;obtain⟨jp,jok⟩:=jj;refine wW Tryz.func173 ?_
 repeat'(first|exact y0|refine y1 ?_|refine y2 ?_ ?_|refine y4 λh=>?_|refine y3 ?_|exact y5|fail)
 ·refine RegX.sto [.cells ((s.S.set i sc).flatMap bX)] rfl rfl ⟨?_,?_⟩ rfl ?_
  ·rw[hcat];show i*3+3<=(s.S.flatMap bX).length
   rw[cn];omega
  ·rw[hcat];exact (tk aa).symm
  repeat'(first|refine Ex.cutB 0 107 14 [(0,.s (.ptr (some (0,0)))),(1,nI i),(7,.s (.ptr (some (9,0)))),(8,nI (p.getD i dN).op)] [(0,some (e8 p 10 s1.D.length 12 s1.G.length)),(1,some (nQ s1.S)),(5,some (cj s1.F)),(9,some {cells:=bX inner,ty:=99}),(10,k9 10 s1.D),(12,bA 12 s1.G)] rfl ?_ ?_|exact y0|refine y1 ?_|refine y2 ?_ ?_|refine y4 λh=>?_|refine y3 ?_|exact y5|fail)
  ·cases jok
   ·rw[if_pos ‹(p.getD i dN).op=10›,if_neg an] at hhd
    cases hhd
    repeat'(first|exact y0|refine y1 ?_|refine y2 ?_ ?_|refine y4 λh=>?_|(refine wX 178 ?_;refine ip [0] 0 hpa ?_ (hle:=by exact⟨VLe.refl _,VLe.of_eq (congrArg nI (by push_cast;rfl)),trivial⟩))|refine wX 95 (pu hjn ?_)|(refine wX 117 ?_;refine CallG.mo [0,1,2,3,4,5,6,7] (cT p s.D.length s.G i 2 aa) rfl (bI rfl rfl rfl) rfl rfl rfl aV nC rfl rfl (wr:=[(0,some (e8 p 3 s.D.length 11 (s.G.length+1))),(6,none),(11,bA 11 (s.G++[(i,2)]))]) (by show [_,_,_]=_;rw[aH];rfl) ?_)|refine y3 ?_|exact y5|fail)
    all_goals try omega
    rw[show (St.rep (s.sc i sc) i 2).G.length=s.G.length+1 from by simp[St.rep,St.sc]];refine CutR.at [0,1,2,3,4,5,6,7,8,9,3,4,11,12] rfl rfl ⟨VLe.refl _,VLe.refl _,VLe.refl _,VLe.refl _,trivial⟩ ⟨rfl,rfl,rfl,rfl,MemP.op rfl (MemP.op rfl trivial)⟩ ?_
    (unfold k9 bA;generalize List.flatMap ll _=cd;generalize List.flatMap cb _=cg;cases cd<;>cases cg<;>rfl)
   ·rw[if_pos ‹(p.getD i dN).op=10›,if_pos rfl] at hhd
    cases hhd
    repeat'(first|exact y0|refine y1 ?_|refine y2 ?_ ?_|refine y4 λh=>?_|(refine wX 178 ?_;refine ip [0] 0 hpa ?_ (hle:=by exact⟨VLe.refl _,VLe.of_eq (congrArg nI (by push_cast;rfl)),trivial⟩))|refine wX 95 (pu hjn ?_)|refine y3 ?_|exact y5|fail)
    all_goals try omega
    refine CutR.at [0,1,2,3,4,5,6,7,8,9,3,4,6,7] rfl rfl ⟨VLe.refl _,VLe.refl _,VLe.refl _,VLe.refl _,trivial⟩ ⟨rfl,rfl,rfl,rfl,MemP.op rfl (MemP.op rfl trivial)⟩ ?_
    (unfold k9 bA;generalize List.flatMap ll _=cd;generalize List.flatMap cb _=cg;cases cd<;>cases cg<;>rfl)
  ·rw[if_neg aa,if_pos aa] at hhd
   cases hhd;refine CutR.at [0,1,2,3,4,5,6,7,8,9,3,4,6,7] rfl rfl ⟨VLe.refl _,VLe.refl _,VLe.refl _,VLe.refl _,trivial⟩ ⟨rfl,rfl,rfl,rfl,MemP.op rfl (MemP.op rfl trivial)⟩ ?_
   (unfold k9 bA;generalize List.flatMap ll _=cd;generalize List.flatMap cb _=cg;cases cd<;>cases cg<;>rfl)
  ·rw[if_neg aa,if_pos aa] at hhd
   cases hhd;refine CutR.at [0,1,2,3,4,5,6,7,8,9,3,4,6,7] rfl rfl ⟨VLe.refl _,VLe.refl _,VLe.refl _,VLe.refl _,trivial⟩ ⟨rfl,rfl,rfl,rfl,MemP.op rfl (MemP.op rfl trivial)⟩ ?_
   (unfold k9 bA;generalize List.flatMap ll _=cd;generalize List.flatMap cb _=cg;cases cd<;>cases cg<;>rfl)
  ·rw[if_neg aa,if_pos aa] at hhd
   cases hhd;refine CutR.at [0,1,2,3,4,5,6,7,8,9,3,4,6,7] rfl rfl ⟨VLe.refl _,VLe.refl _,VLe.refl _,VLe.refl _,trivial⟩ ⟨rfl,rfl,rfl,rfl,MemP.op rfl (MemP.op rfl trivial)⟩ ?_
   (unfold k9 bA;generalize List.flatMap ll _=cd;generalize List.flatMap cb _=cg;cases cd<;>cases cg<;>rfl)
  ·cases jok
   ·rw[if_neg aa,if_neg aa,if_neg an] at hhd
    cases hhd
    repeat'(first|exact y0|refine y1 ?_|refine y2 ?_ ?_|refine y4 λh=>?_|(refine wX 178 ?_;refine ip [0] 0 hpa ?_ (hle:=by exact⟨VLe.refl _,VLe.of_eq (congrArg nI (by push_cast;rfl)),trivial⟩))|refine wX 95 (pu hjn ?_)|(refine wX 117 ?_;refine CallG.mo [0,1,2,3,4,5,6,7] (cT p s.D.length s.G i 2 aa) rfl (bI rfl rfl rfl) rfl rfl rfl aV nC rfl rfl (wr:=[(0,some (e8 p 3 s.D.length 11 (s.G.length+1))),(6,none),(11,bA 11 (s.G++[(i,2)]))]) (by show [_,_,_]=_;rw[aH];rfl) ?_)|refine y3 ?_|exact y5|fail)
    all_goals try omega
    rw[show (St.rep (s.sc i sc) i 2).G.length=s.G.length+1 from by simp[St.rep,St.sc]];refine CutR.at [0,1,2,3,4,5,6,7,8,9,3,4,11,12] rfl rfl ⟨VLe.refl _,VLe.refl _,VLe.refl _,VLe.refl _,trivial⟩ ⟨rfl,rfl,rfl,rfl,MemP.op rfl (MemP.op rfl trivial)⟩ ?_
    (unfold k9 bA;generalize List.flatMap ll _=cd;generalize List.flatMap cb _=cg;cases cd<;>cases cg<;>rfl)
   ·rw[if_neg aa,if_neg aa,if_pos rfl] at hhd
    have hf:=oO jp (hjr rfl)
    repeat'(first|exact y0|refine y1 ?_|refine y2 ?_ ?_|refine y4 λh=>?_|(refine wX 178 ?_;refine ip [0] 0 hpa ?_ (hle:=by exact⟨VLe.refl _,VLe.of_eq (congrArg nI (by push_cast;rfl)),trivial⟩))|refine wX 95 (pu hjn ?_)|refine wX 50 (pu hf ?_)|(refine wX 226 ?_;refine CallG.mo [0,1,2,3,4,5,6,7] (z_ p s.D s.F s.G i (aI jp) hi aa aa) rfl (bI (t:=[(5,some (cj s.F)),(6,bA 6 s.G)]) rfl rfl (bI rfl rfl rfl)) rfl rfl rfl aV ⟨⟨rfl,_,rfl,rfl,λh=>h⟩,FitP.op rfl rfl ⟨⟨rfl,_,rfl,rfl,λh=>h⟩,FitP.op rfl rfl trivial⟩⟩ rfl rfl (wr:=[(0,some (e8 p 11 (s.D.length+1) 13 (k8 s.F s.G (aI jp) i).length)),(3,none),(6,none),(5,some (cj (pL s.F (aI jp) i))),(11,k9 11 (s.D++[⟨aI jp,(p.getD i dN).op,i⟩])),(13,bA 13 (k8 s.F s.G (aI jp) i))]) (by show [_,_,_,_,_,_]=_;rw[aH,aH];rfl) ?_)|refine y3 ?_|exact y5|fail)
    all_goals try omega
    all_goals
     first
      |rw[if_pos aa] at hhd
      |rw[if_neg aa] at hhd
     cases hhd;rw[show (St.dec (s.sc i sc) i (aI jp) (p.getD i dN).op).D.length=s.D.length+1 from by simp[St.dec,St.sc]];refine CutR.at [0,1,2,3,4,5,6,7,8,9,11,12,13,14] rfl rfl ⟨VLe.refl _,VLe.refl _,VLe.refl _,VLe.refl _,trivial⟩ ⟨rfl,rfl,rfl,rfl,MemP.op rfl (MemP.op rfl trivial)⟩ ?_
     (unfold k9 bA;generalize List.flatMap ll _=cd;generalize List.flatMap cb _=cg;cases cd<;>cases cg<;>rfl)
  ·have hbl:fM x.op=decide ((p.getD i dN).op=10\/(p.getD i dN).op=11\/(p.getD i dN).op=12\/(p.getD i dN).op=16\/(p.getD i dN).op=17):=by rw[hx];rfl
   cases hb:fM x.op
   ·rw[hb] at hbl
    have hbl:=of_decide_eq_false hbl.symm;simp only[Z0l,if_false]
    repeat'(first|refine Ex.cutS 21 107 14 [(0,.s (.ptr (some (0,0)))),(1,nI i),(7,.s (.ptr (some (9,0)))),(13,nI (i+1+k.size:Nat)),(83,bV false)] [(0,some (e8 p 10 s1.D.length 12 s1.G.length)),(1,some (nQ s1.S)),(5,some (cj s1.F)),(9,some {cells:=bX inner,ty:=99}),(10,k9 10 s1.D),(12,bA 12 s1.G)] rfl ?_ ?_|exact y0|refine y1 ?_|refine y2 ?_ ?_|refine y4 λh=>?_|refine wX 227 (ip [0] 0 hend ?_)|refine y3 ?_|exact y5|fail)
    all_goals try omega
    ·refine CutR.at [0,1,2,3,4,5,6,7,8,9,10,11,12,13] rfl rfl ⟨VLe.refl _,VLe.refl _,VLe.refl _,VLe.refl _,VLe.refl _,trivial⟩ ⟨rfl,rfl,rfl,rfl,MemP.op rfl (MemP.op rfl trivial)⟩ ?_
     (unfold k9 bA;generalize List.flatMap ll _=cd;generalize List.flatMap cb _=cg;cases cd<;>cases cg<;>rfl)
    ·refine⟨.inl rfl,_,[10,11,12,13],VLe.refl _,EndOK.by rfl ?_ rfl ?_ rfl rfl⟩
     ·exact⟨rfl,rfl,rfl,MemP.op rfl (MemP.op rfl trivial)⟩
     ·(unfold IA k9 bA;generalize List.flatMap ll _=cd;generalize List.flatMap cb _=cg;cases cd<;>cases cg<;>rfl)
   ·rw[hb] at hbl
    have hbl:=of_decide_eq_true hbl.symm;simp only[if_true];obtain⟨m,c',bl,hm4,hc',hblV,hblA,hks,hkc,hst,hdec⟩:=C9 ha hv hb;have hcs:=bp k (i+1);have hchn:=At.chain ha.2.2.1
    have hkid:(p.getD i dN).kids=((k.starts (i+1)).length:Nat):=by rw[hx,hcs];exact ha.2.1
    rw[hkc] at hcs;generalize k.starts (i+1)=cs at*;have hsz:=At.size_le (Z1k (At.lt ha)) ha;simp only[Fo.size] at hsz;have hch:=fQ p hp i (i+1+k.size) hi cs hkid hchn aa;have hk1:(cs.length:Int)-1=(m:Nat):=aa
    repeat'(first|refine Ex.cutS 21 107 14 [(0,.s (.ptr (some (0,0)))),(1,nI i),(7,.s (.ptr (some (9,0)))),(13,nI (i+1+k.size:Nat)),(83,bV true)] [(0,some (e8 p 10 s1.D.length 12 s1.G.length)),(1,some (nQ s1.S)),(5,some (cj s1.F)),(9,some {cells:=bX inner,ty:=99}),(10,k9 10 s1.D),(12,bA 12 s1.G)] rfl ?_ ?_|exact y0|refine y1 ?_|refine y2 ?_ ?_|refine y4 λh=>?_|refine wX 227 (ip [0] 0 hend ?_)|refine wX 228 (ip [0] 0 hch ?_)|refine y3 ?_|exact y5|fail)
    all_goals try omega
    all_goals try (refine CutR.at [0,1,2,3,4,5,6,7,8,9,10,11,12,13] rfl rfl ⟨VLe.refl _,VLe.refl _,VLe.refl _,VLe.refl _,VLe.refl _,trivial⟩ ⟨rfl,rfl,rfl,rfl,MemP.op rfl (MemP.op rfl trivial)⟩ ?_;(unfold k9 bA;generalize List.flatMap ll _=cd;generalize List.flatMap cb _=cg;cases cd<;>cases cg<;>rfl))
    refine RegX.chunkN 4 rfl rfl ?_ (RegX.eqv 95 (congrArg nI hk1) rfl ?_)
    all_goals
     repeat'(first|exact y0|refine y1 ?_|refine y2 ?_ ?_|refine y4 λh=>?_|refine y3 ?_|exact y5|fail)
    all_goals try omega
    refine Ex.inv (σ:=Fo×Nat×St) (λq=>[(15,nI q.2.1)]) (λq=>[(0,some (e8 p 10 q.2.2.D.length 12 q.2.2.G.length)),(1,some (nQ q.2.2.S)),(5,some (cj q.2.2.F)),(9,some {cells:=bX inner,ty:=99}),(10,k9 10 q.2.2.D),(12,bA 12 q.2.2.G)])
     (λq=>q.1.At p q.2.1/\q.1.V (List.replicate q.1.cnt (false,c'))/\(i+2<=q.2.1/\q.2.1+q.1.size=i+1+k.size)/\q.2.2.S.length=p.length/\q.2.2.D.length<=q.2.1/\q.2.2.G.length<=q.2.1/\aQ false q.1 q.2.1 inner q.2.2=aQ true k (i+1) inner s1) (λq=>q.1.size) (bl,i+1+m+1,s1) rfl (λ_=>rfl) ?_ ?_ ?_ ?_
    ·refine⟨hblA,hblV,⟨by simp only;omega,by simp only;omega⟩,by simp only;omega,by simp only;omega,by simp only;omega,(hdec inner s1).symm⟩
    ·exact⟨VLe.of_eq (congrArg nI (by rw[hst];push_cast;rfl)),trivial⟩
    ·exact⟨rfl,rfl,rfl,rfl,SubP.op rfl (SubP.op rfl trivial)⟩
    ·rintro⟨t,j,st⟩ ⟨t1,t2,⟨t0,t3⟩,t4,t5,t6,t7⟩
     simp only at t0 t1 t2 t3 t4 t5 t6 t7 |-
     cases t with
     |nil=>
      simp only[Fo.size,Z0p] at t3;subst t3;simp only[aQ] at t7;rw[<-t7]
      repeat'(first|exact y0|refine y1 ?_|refine y2 ?_ ?_|refine y4 λh=>?_|refine y3 ?_|exact y5|fail)
      refine⟨.inl rfl,_,[10,11,12,13],VLe.refl _,EndOK.by rfl ?_ rfl ?_ rfl rfl⟩
      ·exact⟨rfl,rfl,rfl,MemP.op rfl (MemP.op rfl trivial)⟩
      ·(unfold IA k9 bA;generalize List.flatMap ll _=cd;generalize List.flatMap cb _=cg;cases cd<;>cases cg<;>rfl)
     |cons x' k' n'=>
      simp only[Fo.size] at t3
      have hr:aQ false (.cons x' k' n') j inner st=aQ false n' (j+1+k'.size) inner (aQ false (.cons x' k' .nil) j inner st):=by simp only[aQ]
      rw[hr] at t7;have hl:=cX false (.cons x' k' .nil) j inner st;simp only[Fo.size,Z0p] at hl;have hrec:=ih x' k' c' j inner st aa hc' ⟨t1.1,t1.2.1,t1.2.2.1,trivial⟩ ⟨t2.1,t2.2.1,trivial⟩ t4 t5 t6;generalize aQ false (.cons x' k' .nil) j inner st=st' at*
      have k2:eV 8 (DJ p st)=true:=by (unfold DJ k9 bA;generalize List.flatMap ll _=cd;generalize List.flatMap cb _=cg;cases cd<;>cases cg<;>rfl)
      repeat'(first|exact y0|refine y1 ?_|refine y2 ?_ ?_|refine y4 λh=>?_|(refine wX 173 ?_;refine CallG.mo [0,1,2,10,11,5,12,13] hrec rfl k2 rfl rfl rfl aV ⟨⟨rfl,_,rfl,rfl,λh=>h⟩,⟨rfl,_,rfl,rfl,λh=>h⟩,FitP.op rfl rfl ⟨⟨rfl,_,rfl,rfl,λh=>h⟩,FitP.op rfl rfl trivial⟩⟩ rfl rfl (wr:=[(0,some (e8 p 14 st'.D.length 16 st'.G.length)),(1,some (nQ st'.S)),(10,none),(12,none),(5,some (cj st'.F)),(14,k9 14 st'.D),(16,bA 16 st'.G)]) (by show [_,_,_,_,_,_,_]=_;rw[aH,aH];rfl) ?_)|refine y3 ?_|exact y5|fail)
      all_goals try omega
      refine LoopR.move (n',j+1+k'.size,st') ⟨t1.2.2.2,t2.2.2,⟨by simp only;omega,by simp only;omega⟩,by simp only;omega,by simp only;omega,by simp only;omega,t7⟩ (by simp only[Fo.size];omega) [0,1,2,3,4,5,6,7,8,9,14,15,16,17] rfl ?_ ?_ ?_
      ·repeat' (first|exact VLe.refl _|exact VLe.any _|exact Z0o|refine⟨?_,?_⟩)
      ·exact⟨rfl,rfl,rfl,rfl,MemP.op rfl (MemP.op rfl trivial)⟩
      ·(unfold k9 bA;generalize List.flatMap ll _=cd;generalize List.flatMap cb _=cg;cases cd<;>cases cg<;>rfl)
theorem uY (p:List Nd) (hp:p.length<=2048) (hw:mS p):∀ N,D7 p N
 |0=>λx k c i sc s h=>absurd h (Z1m _)
 |N+1=>Ii p hp hw N (uY p hp hw N)
theorem SubF.cons {i:Nat} {bl bl':Bl} {L L':Hp} (hr:bl'.ro=bl.ro) (hb:∀ φ w b,BlAt φ w b bl->BlAt φ w b bl') (h:SubF L' L):SubF ((i,some bl')::L') ((i,some bl)::L):=by
 intro j c hj;rw[bd] at hj |-;split at hj
 ·cases hj;rw[if_pos ‹_›];exact⟨bl,rfl,hr,hb⟩
 ·rw[if_neg ‹_›];exact h j c hj
theorem ET (n:Nat):All2 SLe (rep n [S.bool false,S.int IntKind.i64 0,S.slc none 0 (some 0)]) ((List.replicate n z0).flatMap bX):=by
 refine All2.of_get (by rw[ec,cn];simp) λi a b ha hb=>?_
 have hi:i<n*3:=by
  rcases Z0a i (rep n [S.bool false,S.int IntKind.i64 0,S.slc none 0 (some 0)]).length with h|h
  ·rwa [ec] at h
  ·rw[Z0b h] at ha;cases ha
 rw[re _ _ _ hi] at ha
 have hk:i/3<(List.replicate n z0).length:=by rw[Z36];omega
 have hg:(List.replicate n z0).getD (i/3) z0=z0:=by simp only[Z00,Z43];split<;>rfl
 have hx:∀ x,(bX z0)[i%3]? =some x->((List.replicate n z0).flatMap bX)[i]? =some x:=λx hx=>by
  have:=(jc (l:=List.replicate n z0) (k:=i/3) (j:=i%3) (x:=x) hk (by rw[hg];exact hx)).1
  rwa [show i/3*3+i%3=i by omega] at this
 have hm:i%3<3:=Nat.mod_lt _ ac;have ha:[S.bool false,S.int IntKind.i64 0,S.slc none 0 (some 0)][i%3]? =some a:=ha;generalize i%3=m at*
 match m,hm with
 |0,_=>rw[hx _ rfl] at hb;cases hb;cases ha;exact SLe.refl _
 |1,_=>rw[hx _ rfl] at hb;cases hb;cases ha;exact SLe.refl _
 |2,_=>rw[hx _ rfl] at hb;cases hb;cases ha;exact SLe.nil
def sU (p:List Nd):St:=⟨List.replicate p.length z0,[],[],[]⟩
def anS (p:List Nd) (t:Fo):St:=aQ false t 0 ⟨true,0,[]⟩ (sU p)
theorem Ao (p:List Nd) (hp:p.length<=2048) (hw:mS p) (t:Fo) (ha:t.At p 0) (hv:t.V (List.replicate t.cnt (false,68))) (hs:t.size=p.length):
 FC Tryz.prog 115 [al p] 0 [] (.s (.ptr (some (0,0)))) 8 (DJ p (anS p t)):=by
 have hsz:(Tryz.prog.types[99]).size=3:=by kernel_rfl
 have hby:(Tryz.prog.types[99]).bytes=40:=by kernel_rfl
 generalize hU:anS p t=U;refine wW Tryz.func115 ?_
 repeat'(first|exact y0|refine y1 ?_|refine y2 ?_ ?_|refine y4 λh=>?_|refine y3 ?_|exact y5|fail)
 refine RegX.opA [.idx p.length,.idx p.length] rfl rfl ?_ ?_
 ·rw[hby];exact⟨rfl,rfl,Z02 _,aa,aa⟩
 repeat'(first|exact y0|refine y1 ?_|refine y2 ?_ ?_|refine y4 λh=>?_|refine RegX.mkm rfl ?_|refine y3 ?_|exact y5|fail)
 refine Ex.subF (L':=[(0,some (nQ (List.replicate p.length z0))),(1,some (cj [])),(2,some {cells:=[.frz (λk=>ndC (p.getD k dN)) 4 p.length,.slc (some (0,0)) p.length (some p.length),.row 3 4 0,.map (some 1),.row 5 6 0],ty:=186})]) ?_ ?_
 ·refine SubF.cons rfl ?_ (SubF.cons rfl ?_ (SubF.cons rfl ?_ (SubF.refl _)))
  ·exact λφ w b h=>BlAt.cells (ET p.length) h
  ·exact λφ w b h=>h
  ·exact λφ w b h=>BlAt.cells (bl:={cells:=[.frz (λk=>ndC (p.getD k dN)) 4 p.length,.slc (some (0,0)) p.length (some p.length),.slc none 0 (some 0),.map (some 1),.slc none 0 (some 0)],ty:=186}) (cs:=[.frz (λk=>ndC (p.getD k dN)) 4 p.length,.slc (some (0,0)) p.length (some p.length),.row 3 4 0,.map (some 1),.row 5 6 0]) ⟨SLe.refl _,SLe.refl _,SLe.nilrow,SLe.refl _,SLe.nilrow,trivial⟩ h
 refine Ex.canon [2,0,7,3,4,1,5,6] 21 [(0,al p),(3,.s (.ptr (some (0,0)))),(4,nI 0)] (DJ p (sU p)) rfl rfl ⟨VLe.refl _,VLe.refl _,VLe.refl _,trivial⟩ ⟨rfl,rfl,rfl,trivial⟩ rfl ?_
 refine Ex.inv (σ:=Fo×Nat×St) (λq=>[(4,nI q.2.1)]) (λq=>DJ p q.2.2)
  (λq=>q.1.At p q.2.1/\q.1.V (List.replicate q.1.cnt (false,68))/\q.2.1+q.1.size=p.length/\q.2.2.S.length=p.length/\q.2.2.D.length<=q.2.1/\q.2.2.G.length<=q.2.1/\aQ false q.1 q.2.1 ⟨true,0,[]⟩ q.2.2=U) (λq=>q.1.size) (t,0,sU p) rfl (λ_=>rfl) ?_ ?_ ?_ ?_
 ·exact⟨ha,hv,by simp only;omega,by simp[sU],Z02 _,Z02 _,hU⟩
 ·exact aV
 ·exact⟨rfl,rfl,rfl,trivial⟩
 ·rintro⟨t,j,s⟩ ⟨t1,t2,t3,t4,t5,t6,t7⟩
  simp only at t1 t2 t3 t4 t5 t6 t7 |-
  cases t with
  |nil=>
   simp only[Fo.size,Z0p] at t3;simp only[aQ] at t7;subst t7
   repeat'(first|exact y0|refine y1 ?_|refine y2 ?_ ?_|refine y4 λh=>?_|refine y3 ?_|exact y5|fail)
   all_goals try omega
   refine⟨.inl rfl,_,[0,1,2,3,4,5,6,7],VLe.refl _,EndOK.by rfl ?_ rfl ?_ rfl rfl⟩
   ·exact⟨rfl,rfl,MemP.op rfl ⟨rfl,MemP.op rfl trivial⟩⟩
   ·(unfold DJ k9 bA;generalize List.flatMap ll _=cd;generalize List.flatMap cb _=cg;cases cd<;>cases cg<;>rfl)
  |cons x k n=>
   simp only[Fo.size] at t3
   have hr:aQ false (.cons x k n) j ⟨true,0,[]⟩ s=aQ false n (j+1+k.size) ⟨true,0,[]⟩ (aQ false (.cons x k .nil) j ⟨true,0,[]⟩ s):=by simp only[aQ]
   rw[hr] at t7;have hl:=cX false (.cons x k .nil) j ⟨true,0,[]⟩ s;simp only[Fo.size,Z0p] at hl;have hrec:=uY p hp hw (k.size+1) x k 68 j ⟨true,0,[]⟩ s (Z1t _) (.inl rfl) ⟨t1.1,t1.2.1,t1.2.2.1,trivial⟩ ⟨t2.1,t2.2.1,trivial⟩ t4 t5 t6;generalize aQ false (.cons x k .nil) j ⟨true,0,[]⟩ s=s' at*
   have k2:eV 8 (DJ p s)=true:=by (unfold DJ k9 bA;generalize List.flatMap ll _=cd;generalize List.flatMap cb _=cg;cases cd<;>cases cg<;>rfl)
   repeat'(first|exact y0|refine y1 ?_|refine y2 ?_ ?_|refine y4 λh=>?_|(refine wX 173 ?_;refine CallG.mo [0,1,2,3,4,5,6,7] hrec rfl k2 rfl rfl rfl ⟨VLe.refl _,VLe.refl _,VLe.agg ⟨SLe.refl _,SLe.refl _,SLe.nil,trivial⟩,trivial⟩ ⟨⟨rfl,_,rfl,rfl,λh=>h⟩,⟨rfl,_,rfl,rfl,λh=>h⟩,FitP.op rfl rfl ⟨⟨rfl,_,rfl,rfl,λh=>h⟩,FitP.op rfl rfl trivial⟩⟩ rfl rfl (wr:=[(0,some (e8 p 8 s'.D.length 10 s'.G.length)),(1,some (nQ s'.S)),(3,none),(6,none),(5,some (cj s'.F)),(8,k9 8 s'.D),(10,bA 10 s'.G)]) (by show [_,_,_,_,_,_,_]=_;rw[aH,aH];rfl) ?_)|refine y3 ?_|exact y5|fail)
   all_goals try omega
   refine LoopR.move (n,j+1+k.size,s') ⟨t1.2.2.2,t2.2.2,by simp only;omega,by simp only;omega,by simp only;omega,by simp only;omega,t7⟩ (by simp only[Fo.size];omega) [0,1,2,8,9,5,10,11] rfl ?_ ?_ ?_
   ·repeat' (first|exact VLe.refl _|exact VLe.any _|exact Z0o|refine⟨?_,?_⟩)
   ·exact⟨rfl,rfl,MemP.op rfl ⟨rfl,MemP.op rfl trivial⟩⟩
   ·(unfold DJ k9 bA;generalize List.flatMap ll _=cd;generalize List.flatMap cb _=cg;cases cd<;>cases cg<;>rfl)
end Go.Proofs.YtegjgpldfgjoiaaGreatDoor
namespace Go.Proofs.YtegjgpldfgjoiaaGreatDoor
namespace Ab
open Go
structure Hold (p:Prop):Prop where
 k:p
theorem SC.fresh {P:Program} {f:FuncId} {args:List V} {n n':Nat} {L:Hp} {v:V} (bl:Bl) (hL:∀ i,n<=i->lk L i=none) (hn:n+1<=n')
 (h:∀ (φ:Ph) (xs:List Value) (w:World),All2 (Vr φ) args xs->Good φ L w->Calls P f xs.toArray w λe w'=>∃ (g:Nat) (c:Nat->Option (Nat×Nat)) (y:Value),e=.returned y/\RowKit.Below w.heap.size w w'/\w.heap.size<=g/\c n=some (g,0)/\(∀ i,n'<=i->c i=none)/\∀ φ':Ph,φ.le φ'->(∀ i,n<=i->φ' i=c i)->Vr φ' v y/\BlAt φ' w' (g,0) bl):
 SC P f args n L v n' (put L n (some bl)):=by
 intro φ xs w h1 h2 h3;refine Z4d (h φ xs w h1 h2) ?_;rintro e w' ⟨g,c,y,rfl,hb,hlt,hcn,hc,hv⟩
 let φ':Ph:=⟨λi=>if n<=i then c i else φ i,φ.z⟩
 have hge:∀ i,n<=i->φ' i=c i:=λi hi=>by simp only[φ'];rw[if_pos hi]
 have hlo:∀ i,i<n->φ' i=φ i:=λi hi=>by simp only[φ'];rw[if_neg aa]
 have hle:φ.le φ':=by
  refine⟨λi b hi=>?_,λ_ _ h=>h⟩
  rcases Z0a i n with e|e
  ·rw[hlo i e];exact hi
  ·rw[h3 i e] at hi;cases hi
 obtain⟨hv1,hv2⟩:=hv φ' hle hge
 have hφn:φ' n=some (g,0):=by rw[hge n (Z02 _)];exact hcn
 have old:∀ j bj,lk (put L n (some bl)) j=some bj->n≠j->lk L j=some bj/\φ' j=φ j:=by
  intro j bj hj hne;rw[az,if_neg hne] at hj;refine⟨hj,?_⟩
  rcases Z0a j n with e|e
  ·exact hlo j e
  ·rw[hL j e] at hj;cases hj
 have new:∀ j bj b,lk L j=some bj->φ j=some b->b.1<w.heap.size:=by
  intro j bj b hj hbj;obtain⟨b',hb',hat⟩:=h2.hr j bj hj;rw[hbj] at hb';cases hb';exact hat.lt
 refine⟨φ',y,rfl,hv1,⟨λj bj hj=>?_,λj j' bj bj' b b₂ hj hj' hb1 hb2 hbb=>?_,λb l hb1=>?_,h2.gz⟩,λi hi=>?_,⟨hb.os,hb.tape,hb.output,hb.size,λb hb' _=>hb.block b hb',λj bj b hj hp hlt'=>?_,λ_ _ h=>h,λ_ _ h=> .inl h⟩,aa,λi hi=>hlo i hi⟩
 ·by_cases e:n=j
  ·subst e
   rw[az,if_pos rfl] at hj;cases hj;exact⟨(g,0),hφn,hv2⟩
  ·obtain⟨hm,hφ⟩:=old j bj hj e
   obtain⟨b,hb1,hat⟩:=h2.hr j bj hm;exact⟨b,by rw[hφ];exact hb1,hat.mono hle (hb.block _ hat.lt)⟩
 ·by_cases e:n=j<;>by_cases e':n=j'
  ·exact .inl (e▸e')
  ·subst e
   obtain⟨hm,hφ⟩:=old j' bj' hj' e';rw[hφn] at hb1;cases hb1;have:=new j' bj' b₂ hm (by rw[<-hφ];exact hb2);simp only at hbb;omega
  ·subst e'
   obtain⟨hm,hφ⟩:=old j bj hj e;rw[hφn] at hb2;cases hb2;have:=new j bj b hm (by rw[<-hφ];exact hb1);simp only at hbb;omega
  ·obtain⟨hm,hφ⟩:=old j bj hj e
   obtain⟨hm',hφ'⟩:=old j' bj' hj' e';exact h2.inj j j' bj bj' b b₂ hm hm' (by rw[<-hφ];exact hb1) (by rw[<-hφ'];exact hb2) hbb
 ·have hl:=h2.fzlt hb1
  refine⟨by rw[hb.block b hl];exact (h2.fz b l hb1).1,?_⟩;rintro⟨i,bi,d,hi,hd,hdb,hro⟩;by_cases e:n=i
  ·subst e
   rw[hφn] at hd;cases hd;simp only at hdb;omega
  ·obtain⟨hm,hφ⟩:=old i bi hi e
   exact (h2.fz b l hb1).2 ⟨i,bi,d,hm,by rw[<-hφ];exact hd,hdb,hro⟩
 ·rw[hge i aa];exact hc i hi
 ·by_cases e:n=j
  ·subst e
   rw[hφn] at hp;cases hp;simp only at hlt';omega
  ·obtain⟨hm,hφ⟩:=old j bj hj e
   exact⟨j,bj,b,hm,by rw[<-hφ];exact hp,rfl,id,.inl rfl⟩
end Ab
end Go.Proofs.YtegjgpldfgjoiaaGreatDoor
namespace Go.Proofs.YtegjgpldfgjoiaaGreatDoor
open Go Ab
set_option maxRecDepth 100000
set_option maxHeartbeats 40000000
theorem Ie (p:List Nd) (hp:p.length<=2048) (i e:Nat) (h:Ends p e 1 i):FC Tryz.prog 169 [al p,nI i] 0 [] (nI e) 0 []:=by
 refine wW Tryz.func169 ?_
 repeat'(first|exact y0|refine y1 ?_|refine y2 ?_ ?_|refine y4 λh=>?_|refine y3 ?_|exact y5|fail)
 refine Ex.inv (σ:=Nat×Nat) (λx=>[(1,nI x.2),(5,nI x.1)]) (λx=>[]) (λx=>Ends p e x.1 x.2) (λx=>p.length-x.2+(if x.1=0 then 0 else 1)) (1,i) rfl (λ_=>rfl) h aV trivial ?_;rintro⟨n,j⟩ hE;simp only at hE |-
 cases hE with
 |done=>
  repeat'(first|exact y0|refine y1 ?_|refine y2 ?_ ?_|refine y4 λh=>?_|refine Fin.int (.inl rfl) rfl ?_|refine y3 ?_|exact y5|fail)
  all_goals rfl
 | @step n1 _ hlt k hk r=>
   obtain⟨l1,l2⟩:=r.le;have l3:=l2 aa
   repeat'(first|exact y0|refine y1 ?_|refine y2 ?_ ?_|refine y4 λh=>?_|refine y3 ?_|exact y5|fail)
   all_goals try exact y7
   refine LoopR.same (n1+k,j+1) r ?_ rfl ⟨VLe.of_eq (congrArg nI ?_),VLe.of_eq (congrArg nI ?_),trivial⟩ trivial rfl rfl ac
   ·simp only
    rw[if_neg (Nat.succ_ne_zero n1)]
    split<;>omega
   ·push_cast;rfl
   ·push_cast;omega
theorem uy {a j:Nat} {x:S} (h:[S.int .i64 ((a:Nat):Int)][j]? =some x):bE x=true:=by
 cases j with
 |zero=>cases h;rfl
 |succ j=>simp at h
abbrev JF (i:Nat) (D:List Nat):Option Bl:=eI 3 (i+1) 1 (D.flatMap λj=>[S.int .i64 ((j:Nat):Int)])
theorem Cu (D:List Nat):(D.flatMap λj=>[S.int .i64 ((j:Nat):Int)]).length=D.length:=by induction D with
 |nil=>rfl
 |cons a D ih=>rw[Z0g,Z03,ih];simp;omega
theorem Fi (p:List Nd) (hp:p.length<=2048) (i f:Nat) (hi:i<p.length) (cs:List Nat) (hk:(p.getD i dN).kids=(cs.length:Nat)) (hc:Chain p f (i+1) cs) (hl:cs.length<=2048):
 FC Tryz.prog 105 [al p,nI i] 0 [] (.s (d9 cs)) 0 []:=by
 have hsz:(Tryz.prog.types[3]).size=1:=by kernel_rfl
 have hby:(Tryz.prog.types[3]).bytes=8:=by kernel_rfl
 refine wW Tryz.func105 ?_
 repeat'(first|exact y0|refine y1 ?_|refine y2 ?_ ?_|refine y4 λh=>?_|refine y3 ?_|exact y5|fail)
 refine Ex.set 5 (.s (.row 0 1 0)) (VLe.s SLe.nilrow) rfl (Ex.upN (n':=2) aa ?_);refine Ex.inv (σ:=List Nat×Nat×List Nat) (λx=>[(5,.s (.row 0 1 x.1.length)),(6,nI x.2.1),(7,nI x.1.length)]) (λx=>[(0,JF 0 x.1)]) (λx=>x.1++x.2.2=cs/\Chain p f x.2.1 x.2.2) (λx=>x.2.2.length) ([],i+1,cs) rfl (λ_=>rfl) ⟨rfl,hc⟩ ⟨VLe.refl _,VLe.of_eq (congrArg nI (by push_cast;rfl)),VLe.refl _,trivial⟩ trivial ?_;rintro⟨D,j,rest⟩ ⟨h1,h2⟩;simp only at h1 h2 |-
 cases h2 with
 |nil=>
  rw[Z0u] at h1;subst h1
  repeat'(first|exact y0|refine y1 ?_|refine y2 ?_ ?_|refine y4 λh=>?_|refine Ex.fzR 4 (λj=>[S.int .i64 ((j:Nat):Int)]) 1 0 D rfl rfl (λ_=>rfl) (λa j x h=>uy h) ac rfl rfl ?_|refine Fin.le (.inl rfl) rfl (VLe.refl _) rfl|refine y3 ?_|exact y5|fail)
 | @cons _ e rest he r=>
   have hlen:D.length+(rest.length+1)=cs.length:=by rw[<-h1];simp
   have hend:=Ie p hp j e he
   repeat'(first|exact y0|refine y1 ?_|refine y2 ?_ ?_|refine y4 λh=>?_|refine wX 169 (pu hend ?_)|refine RegX.apr (i:=0) (g:=1) (m:=D.length) (w:=1) (cs:=D.flatMap λj=>[S.int .i64 ((j:Nat):Int)]) (foot:=[2]) (k:=1) (add:=[S.int .i64 (j:Int)]) rfl rfl (by rw[Cu];omega) rfl rfl rfl rfl rfl rfl rfl hsz ac rfl ⟨Z02 _,rfl⟩ ac an rfl (by rw[hby];omega) aa rfl ?_|refine y3 ?_|exact y5|fail)
   all_goals try first
    |exact ae (by push_cast;omega) (by push_cast;omega)
    |omega
   refine LoopR.move (D++[j],e,rest) ⟨by simpa using h1,r⟩ (by simp only[Z04];omega) [3,4] rfl ?_ ?_ ?_
   ·repeat' (first|exact VLe.refl _|exact VLe.any _|exact Z0o|exact VLe.of_eq (congrArg nI an)|(refine VLe.of_eq (congrArg V.s (?_:S.row 3 4 _=S.row 3 4 _));simp;done)|refine⟨?_,?_⟩)
   ·refine MemP.op ?_ trivial
    rw[Z0r];rfl
   ·unfold JF;generalize List.flatMap _ _=cg;cases cg<;>rfl
end Go.Proofs.YtegjgpldfgjoiaaGreatDoor
