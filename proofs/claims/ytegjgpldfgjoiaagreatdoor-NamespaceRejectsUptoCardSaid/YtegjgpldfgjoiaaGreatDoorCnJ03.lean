import Derived.Test.YtegjgpldfgjoiaaGreatDoorCnJ02
set_option linter.all false
namespace Go.Proofs.YtegjgpldfgjoiaaGreatDoor
namespace Ab
open Go
section
variable {φ:Ph} {w:World} {P:Program} {tbl:List Nat} {M L0 L0':Hp} {v:V} {r:Nat->Nat} {b:Nat×Nat} {bl:Bl} {new i n0' n n':Nat} {f:FuncId} {env:List V} {fn:Func}
def oq (r:Nat->Nat):S->S
 | .ptr (some (i,o))=> .ptr (some (r i,o))
 | .slc (some (i,o)) n c=> .slc (some (r i,o)) n c
 | .sla i g n=> .sla (r i) (r g) n
 | .map (some i)=> .map (some (r i))
 | .itr i m=> .itr (r i) (r m)
 | .clo f ps=> .clo f (ps.map λp=>(r p.1,p.2))
 | .opq k t K=> .opq k (t.ren r) K
 | .row i g n=> .row (r i) (r g) n
 |x=>x
def vA (r:Nat->Nat):U->U
 | .s x=> .s (oq r x)
 | .agg l=> .agg (l.map (oq r))
def cb (r:Nat->Nat):V->V
 | .s x=> .s (oq r x)
 | .agg l=> .agg (l.map (oq r))
 | .tup l=> .tup (l.map (vA r))
 | .w i g sz k m=> .w (r i) (r g) sz k m
 |x=>x
def Hb (r:Nat->Nat):Option (Nat×Nat)->Option (Nat×Nat)
 |some (g,z)=>some (r g,z)
 |none=>none
def eT (r:Nat->Nat) (bl:Bl):Bl:=match bl.flat with|true=>{bl with gh:=Hb r bl.gh}|false=>{bl with cells:=bl.cells.map (oq r),gh:=Hb r bl.gh}
theorem dU (r:Nat->Nat) (bl:Bl):(eT r bl).ro=bl.ro:=by unfold eT;split<;>rfl
theorem zA {x:S} {v:Value}:Sr φ (oq r x) v↔Sr (φ.ren r) x v:=by
 cases x with
 |unk|bool|int|str|sla|junk|emp|emq|fn|gp|itr|frz|fpt|row|cst=>exact Z44
 |clo f ps=>
  have key:∀ {ps:List (Nat×Nat)} {vs:List Value},All2 (PtrR φ) (ps.map λp=>(r p.1,p.2)) vs↔All2 (PtrR (φ.ren r)) ps vs:=by
   intro ps
   induction ps with
   |nil=>intro vs;cases vs<;>exact Z44
   |cons p t ih=>intro vs;cases vs with
    |nil=>exact Z44
    |cons v vs=>exact and_congr Z44 ih
  simp only[oq,Sr,key]
 |opq k t K=>simp only[oq,Sr,Tm.ev_ren]
 |map a=>rcases a with _|i<;>exact Z44
 |ptr a=>rcases a with _|⟨i,o⟩<;>exact Z44
 |slc a n c=>rcases a with _|⟨i,o⟩<;>exact Z44
theorem mi {φ:Ph} {r:Nat->Nat}:∀ {l:List S} {xs:List Value},All2 (Sr φ) (l.map (oq r)) xs↔All2 (Sr (φ.ren r)) l xs
 |[],[]=>Z44
 |_::_,_::_=>and_congr zA mi
 |[],_::_=>Z44
 |_::_,[]=>Z44
theorem K8 {x:U} {v:Value}:Ur φ (vA r x) v↔Ur (φ.ren r) x v:=by
 cases x with
 |s x=>exact zA
 |agg l=>simp only[Ur,vA,mi]
theorem sv {φ:Ph} {r:Nat->Nat}:∀ {l:List U} {xs:List Value},All2 (Ur φ) (l.map (vA r)) xs↔All2 (Ur (φ.ren r)) l xs
 |[],[]=>Z44
 |_::_,_::_=>and_congr K8 sv
 |[],_::_=>Z44
 |_::_,[]=>Z44
theorem uJ {x:V} {v:Value}:Vr φ (cb r x) v↔Vr (φ.ren r) x v:=by
 cases x with
 |any|undef=>exact Z44
 |s x=>exact zA
 |agg l=>simp only[Vr,cb,mi]
 |tup l=>simp only[Vr,cb,sv]
 |w=>exact Z44
theorem mq:BlAt φ w b (eT r bl)↔BlAt (φ.ren r) w b bl:=by
 have hg:∀ (m:Nat),(∀ g z,Hb r bl.gh=some (g,z)->∃ k,φ g=some (k,0)/\k*z<=m)↔(∀ g z,bl.gh=some (g,z)->∃ k,φ (r g)=some (k,0)/\k*z<=m):=by
  intro m;constructor
  ·intro h g z e
   exact h (r g) z (by rw[e];rfl)
  ·intro h g z e
   cases hb:bl.gh with
   |none=>rw[hb] at e;cases e
   |some p=>
    grind [Hb]
 unfold eT
 cases hf:bl.flat with
 |true=>simp only[BlAt,Bl.ph,hf,hg]
 |false=>simp only[BlAt,Bl.ph,hf,mi,hg]
theorem BlAt.weaken (h:BlAt φ w b bl) (ro:Bool) (hr:bl.ro=true->ro=true):BlAt φ w b {bl with ro:=ro}:=by
 obtain⟨pre,xs,rest,fr,h1,hp,h2,h3,h4,h5⟩:=h;exact⟨pre,xs,rest,fr,h1,hp,h2,h3,λe=>h4 (by cases hb:bl.ro with|false=>rfl|true=>have:=hr hb;simp at e;rw[e] at this;cases this),h5⟩
def SC (P:Program) (f:FuncId) (args:List V) (n:Nat) (L:Hp) (v:V) (n':Nat) (L':Hp):Prop:=
 ∀ (φ:Ph) (xs:List Value) (w:World),All2 (Vr φ) args xs->Good φ L w->(∀ i,n<=i->φ i=none)->
   Calls P f xs.toArray w λe w'=>∃ φ' x,e=.returned x/\Vr φ' v x/\Good φ' L' w'/\(∀ i,n'<=i->φ' i=none)/\Stp φ L w φ' L' w'/\n<=n'/\(∀ i,i<n->φ' i=φ i)
def rn (tbl:List Nat) (new:Nat) (i:Nat):Nat:=match Nat.blt i tbl.length with|true=>tbl.getD i 0|false=>new+(i-tbl.length)
theorem gi (h:i<tbl.length):rn tbl new i=tbl.getD i 0:=by unfold rn;rw[bd.2 h]
theorem LJ (h: ¬i<tbl.length):rn tbl new i=new+(i-tbl.length):=by
 unfold rn
 have:Nat.blt i tbl.length=false:=by
  cases e:Nat.blt i tbl.length with
  |false=>rfl
  |true=>exact absurd (bd.1 e) h
 rw[this]
structure Fits (tbl:List Nat) (new n0':Nat) (L0:Hp) (M:Hp):Prop where
 old:∀ i,i<tbl.length-> ¬(new<=tbl.getD i 0/\tbl.getD i 0<new+(n0'-tbl.length))
 fit:∀ i bl0,lk L0 i=some bl0->i<tbl.length/\∃ bl',lk M (tbl.getD i 0)=some bl'/\{eT (rn tbl new) bl0 with ro:=bl'.ro}=bl'/\(bl'.ro=true->bl0.ro=true)
 ali:∀ i j bl bl',lk L0 i=some bl->lk L0 j=some bl'->tbl.getD i 0=tbl.getD j 0->i=j\/(bl.ro=true/\bl'.ro=true)
def xD (tbl:List Nat) (new:Nat) (L0 L0' M M':Hp):Prop:=
 ∀ x bl,lk M' x=some bl->
   (∃ i bl0,rn tbl new i=x/\lk L0' i=some bl0/\bl=eT (rn tbl new) bl0/\(tbl.length<=i\/∃ b,lk L0 i=some b/\b.ro=false))\/
   (lk M x=some bl/\∀ i,i<tbl.length->tbl.getD i 0=x->∀ b,lk L0 i=some b->b.ro=true)
theorem Dw {φc':Ph} {M':Hp} {w':World} (hn:tbl.length<=n0') (hM:Good φ M w) (ft:Fits tbl new n0' L0 M)
 (h':Good φc' L0' w') (st:Stp (aH tbl.length (φ.ren (rn tbl new))) L0 w φc' L0' w') (hag:∀ i,i<tbl.length->φc' i=(aH tbl.length (φ.ren (rn tbl new))) i)
 (hnone:∀ i,n0'<=i->φc' i=none) (hfree:∀ i,new<=i->i<new+(n0'-tbl.length)->φ i=none) (af:xD tbl new L0 L0' M M'):
 ∃ φ':Ph,(Ph.le φc' (φ'.ren (rn tbl new)))/\Good φ' M' w'/\Stp φ M w φ' M' w'/\(∀ i,¬(new<=i/\i<new+(n0'-tbl.length))->φ' i=φ i):=by
 let φ':Ph:=⟨λx=>if new<=x/\x<new+(n0'-tbl.length) then φc' (x-new+tbl.length) else φ x,φc'.z⟩
 have e1:∀ i b,φc' i=some b->φ' (rn tbl new i)=some b:=by
  intro i b hb;by_cases hi:i<tbl.length
  ·have h:=hag i hi
   grind [aH]
  all_goals grind [LJ]
 have hle:∀ (x:Nat) (b:Nat×Nat),φ x=some b->φ' x=some b:=by
  grind
 have hmono:Ph.le φc' (φ'.ren (rn tbl new)):=⟨λi b hb=>e1 i b hb,λ_ _ h=>h⟩
 have hle':φ.le φ':=⟨hle,st.zle⟩
 --a block of the caller's that the callee may not write
 have out:∀ x bl b,lk M x=some bl->(∀ i,i<tbl.length->tbl.getD i 0=x->∀ b,lk L0 i=some b->b.ro=true)->φ x=some b-> ¬Wr (aH tbl.length (φ.ren (rn tbl new))) L0 b.1:=by
  rintro x bl b hx hro hb ⟨j,bj,c,hj,hpj,hcc,hrj⟩;obtain⟨hjl,bl',hbl',hre,hw⟩:=ft.fit j bj hj;simp only[aH,if_pos hjl,gi hjl] at hpj
  rcases hM.inj x (tbl.getD j 0) bl bl' b c hx hbl' hb hpj hcc.symm with e|⟨_,e⟩
  all_goals grind
 have cross:∀ x bl b j blj bb,lk M x=some bl->(∀ i,i<tbl.length->tbl.getD i 0=x->∀ b,lk L0 i=some b->b.ro=true)->φ x=some b->
  lk L0' j=some blj->φc' j=some bb->b.1=bb.1->(tbl.length<=j\/∃ b,lk L0 j=some b/\b.ro=false)->bl.ro=true/\blj.ro=true:=by
  intro x bl b j blj bb hx hro hb hj hpj hbb hcase;obtain⟨b',hb',hat⟩:=hM.hr x bl hx;rw[hb] at hb';cases hb';obtain⟨k,bk,c,hk,hpk,hcc,hr,ho⟩:=st.fresh j blj bb hj hpj (hbb▸hat.lt);obtain⟨hkl,bl',hbl',hre,hw⟩:=ft.fit k bk hk;simp only[aH,if_pos hkl,gi hkl] at hpk
  rcases hM.inj x (tbl.getD k 0) bl bl' b c hx hbl' hb hpk (hbb.trans hcc.symm) with e|⟨e1,e2⟩
  all_goals grind
 have zout:∀ b l,φ'.z b=some l->∀ x bl c,lk M x=some bl->(∀ i,i<tbl.length->tbl.getD i 0=x->∀ b,lk L0 i=some b->b.ro=true)->φ x=some c->c.1=b->bl.ro=false->False:=by
  intro b l hb x bl c hm hro hc hcb hrw;obtain⟨c',hc',hat⟩:=hM.hr x bl hm;rw[hc] at hc';cases hc'
  rcases st.zfr b l hb with h|h|h
  ·exact (hM.fz b l h).2 ⟨x,bl,c,hm,hc,hcb,hrw⟩
  all_goals grind [hat.lt]
 refine⟨φ',hmono,⟨?_,?_,λb l hb=>⟨(h'.fz b l hb).1,?_⟩,h'.gz⟩,⟨st.os,st.tape,st.output,st.size,?_,?_,st.zle,?_⟩,λi hi=>by grind⟩
 rotate_left 2
 ·rintro⟨x,bl,c,hx,hc,hcb,hrw⟩
  rcases af x bl hx with ⟨i,bl0,rfl,hi,rfl,_⟩|⟨hm,hro⟩
  ·obtain⟨d,hd,_⟩:=h'.hr i bl0 hi
   have:=e1 i d hd;rw[hc] at this;cases this;exact (h'.fz b l hb).2 ⟨i,bl0,c,hi,hd,hcb,by rw[dU] at hrw;exact hrw⟩
  all_goals grind [hM.hr]
 rotate_left 2
 ·intro b l hb
  rcases st.zfr b l hb with h|h|⟨j,bj,c,hj,hpj,hcc,hrj⟩
  ·exact .inl h
  ·grind
  ·obtain⟨hjl,bl',hbl',hre,hw⟩:=ft.fit j bj hj
   simp only[aH,if_pos hjl,gi hjl] at hpj;exact .inr (.inr ⟨_,bl',c,hbl',hpj,hcc,by cases e:bl'.ro with|false=>rfl|true=>rw[hw e] at hrj;cases hrj⟩)
 ·intro x bl hx
  rcases af x bl hx with ⟨i,bl0,rfl,hi,rfl,_⟩|⟨hm,hro⟩
  ·obtain⟨b,hb,hat⟩:=h'.hr i bl0 hi
   exact⟨b,e1 i b hb,mq.2 (hat.mono hmono rfl)⟩
  ·obtain⟨b,hb,hat⟩:=hM.hr x bl hm
   exact⟨b,hle x b hb,hat.mono hle' (st.keep b.1 hat.lt (out x bl b hm hro hb))⟩
 ·intro x y bl bl' b b' hx hy hb hb' hbb
  rcases af x bl hx with ⟨i,bi,rfl,hi,rfl,hci⟩|⟨hm,hro⟩<;>rcases af y bl' hy with ⟨j,bj,rfl,hj,rfl,hcj⟩|⟨km,kro⟩
  ·obtain⟨c,hc,_⟩:=h'.hr i bi hi
   obtain⟨d,hd,_⟩:=h'.hr j bj hj;have:=e1 i c hc;rw[hb] at this;cases this;have:=e1 j d hd;rw[hb'] at this;cases this
   rcases h'.inj i j bi bj b b' hi hj hc hd hbb with rfl|h
   ·exact .inl rfl
   ·exact .inr (by rw[dU,dU];exact h)
  ·obtain⟨c,hc,_⟩:=h'.hr i bi hi
   have:=e1 i c hc;rw[hb] at this;cases this;obtain⟨d,hd,_⟩:=hM.hr y bl' km;have:=hle y d hd;rw[hb'] at this;cases this;have:=cross y bl' b' i bi b km kro hd hi hc hbb.symm hci;exact .inr ⟨by rw[dU];exact this.2,this.1⟩
  ·obtain⟨c,hc,_⟩:=h'.hr j bj hj
   have:=e1 j c hc;rw[hb'] at this;cases this;obtain⟨d,hd,_⟩:=hM.hr x bl hm;have:=hle x d hd;rw[hb] at this;cases this;have:=cross x bl b j bj b' hm hro hd hj hc hbb hcj;exact .inr ⟨this.1,by rw[dU];exact this.2⟩
  ·obtain⟨c,hc,_⟩:=hM.hr x bl hm
   have:=hle x c hc;rw[hb] at this;cases this;obtain⟨d,hd,_⟩:=hM.hr y bl' km;have:=hle y d hd;rw[hb'] at this;cases this;exact hM.inj x y bl bl' b b' hm km hc hd hbb
 ·intro b hb hn
  refine st.keep b hb ?_;rintro⟨j,bj,c,hj,hpj,hcc,hrj⟩;obtain⟨hjl,bl',hbl',hre,hw⟩:=ft.fit j bj hj;simp only[aH,if_pos hjl,gi hjl] at hpj;exact hn ⟨_,bl',c,hbl',hpj,hcc,by cases e:bl'.ro with|false=>rfl|true=>rw[hw e] at hrj;cases hrj⟩
 ·intro x bl b hx hb hlt
  rcases af x bl hx with ⟨i,bi,rfl,hi,rfl,hci⟩|⟨hm,hro⟩
  ·obtain⟨c,hc,_⟩:=h'.hr i bi hi
   have:=e1 i c hc;rw[hb] at this;cases this;obtain⟨k,bk,c,hk,hpk,hcc,hr,ho⟩:=st.fresh i bi b hi hc hlt;obtain⟨hkl,bl',hbl',hre,hw⟩:=ft.fit k bk hk;simp only[aH,if_pos hkl] at hpk;refine⟨rn tbl new k,bl',c,by rw[gi hkl];exact hbl',hpk,hcc,λe=>by rw[dU];exact hr (hw e),?_⟩
   rcases ho with rfl|ho
   ·exact .inl rfl
   ·exact .inr (by cases e:bl'.ro with|false=>rfl|true=>rw[hw e] at ho;cases ho)
  all_goals grind [hM.hr]
theorem Fits.good (ft:Fits tbl new n0' L0 M) (hM:Good φ M w) (ok:fg tbl.length L0=true):
 Good (aH tbl.length (φ.ren (rn tbl new))) L0 w:=by
 refine⟨λi bl hi=>?_,λi j bl bl' b b' hi hj hb hb' hbb=>?_,λb l hb=>⟨(hM.fz b l hb).1,?_⟩,hM.gz⟩
 rotate_left 2
 ·rintro⟨j,bj,c,hj,hpj,hcc,hrj⟩
  obtain⟨hjl,bl',hbl',hre,hw⟩:=ft.fit j bj hj;simp only[aH,if_pos hjl,gi hjl] at hpj;exact (hM.fz b l hb).2 ⟨_,bl',c,hbl',hpj,hcc,by cases e:bl'.ro with|false=>rfl|true=>rw[hw e] at hrj;cases hrj⟩
 ·obtain⟨hil,bl',hbl',hre,hw⟩:=ft.fit i bl hi
  obtain⟨b,hb,hat⟩:=hM.hr _ bl' hbl';refine⟨b,by grind [aH,gi],?_⟩
  have h1:BlAt φ w b (eT (rn tbl new) bl):=by
   have h2:=hat.weaken bl.ro hw;rw[<-hre] at h2
   have e:({{eT (rn tbl new) bl with ro:=bl'.ro} with ro:=bl.ro}:Bl)=eT (rn tbl new) bl:=by
    have:=dU (rn tbl new) bl
    cases hx:eT (rn tbl new) bl with|mk c t m r s f gg=>rw[hx] at this;simp at this;subst this;rfl
   grind
  exact (mq.1 h1).cut (dD ok hi).2
 ·obtain⟨hil,bi,hbi,_,wi⟩:=ft.fit i bl hi
  obtain⟨hjl,bj,hbj,_,wj⟩:=ft.fit j bl' hj;simp only[aH,if_pos hil,gi hil] at hb;simp only[aH,if_pos hjl,gi hjl] at hb'
  rcases hM.inj _ _ bi bj b b' hbi hbj hb hb' hbb with e|⟨e1,e2⟩
  all_goals grind [ft.ali]
def VLe (a b:V):Prop:=∀ (φ:Ph) (x:Value),Vr φ a x->Vr φ b x
theorem ah (a:V):VLe a a:=λ_ _ h=>h
theorem VLe.refls:∀ l:List V,All2 VLe l l
 |[]=>trivial
 |x::t=>⟨ah x,VLe.refls t⟩
theorem VLe.all {φ:Ph}:∀ {l l':List V} {xs:List Value},All2 VLe l l'->All2 (Vr φ) l xs->All2 (Vr φ) l' xs
 |[],[],[],_,_=>trivial
 |_::_,_::_,_::_,h,k=>⟨h.1 _ _ k.1,VLe.all h.2 k.2⟩
 |[],_::_,_,h,_=>h.elim
 |_::_,[],_,h,_=>h.elim
 |[],[],_::_,_,k=>k.elim
 |_::_,_::_,[],_,k=>k.elim
theorem SC.opW {args0:List V} {v0:V} (h:SC P f args0 tbl.length L0 v0 n0' L0')
 (ok1:args0.all (fI tbl.length)=true) (ok2:fg tbl.length L0=true) {o:Oper} {c:Call} {fn:Func} (ho:o.op=.call c) (hc:c.callee=.value (.func f)) (hfn:P.funcs[f]? =some fn) (hbody:fn.body.isSome=true)
 (hname : (fn.name == "runtime.NumGoroutine") = false) {env : List V} {n : Nat} (hargs : All2 VLe (c.args.toList.map (ev env)) (args0.map (cb (rn tbl n)))) {M M' : Hp} (ft : Fits tbl n n0' L0 M) (af : xD tbl n L0 L0' M M') :
 OpL P o env n M (cb (rn tbl n) v0) (n+(n0'-tbl.length)) M':=by
 intro φ a w Q hx hM hfree
 have hrun:(execOp a.eval o).run P w=.ok (.enter f (c.args.map a.eval)) w:=by
  have h1 : ¬ fn.name = "runtime.NumGoroutine" := ae
  have h2: ¬fn.body=none:=ae;simp[execOp,ho,resolve,hc,Deferred.ofValue,Act.eval,invoke,callFunc,hfn,h1,h2]
 unfold Oper.wp;rw[hrun,Oper.upon_enter]
 have hxs:All2 (Vr φ) (args0.map (cb (rn tbl n))) (c.args.toList.map a.eval):=by
  refine VLe.all hargs ?_
  have key:∀ l:List Operand,(∀ x∈l,Vr φ (ev env x) (a.eval x))->All2 (Vr φ) (l.map (ev env)) (l.map a.eval):=by
   intro l
   induction l with
   |nil=>intro _;trivial
   |cons y t ih=>intro hl;exact⟨hl y (.head _),ih λx hx=>hl x (.tail _ hx)⟩
  grind [Op.operands,Call.operands]
 have hxs':All2 (Vr (aH tbl.length (φ.ren (rn tbl n)))) args0 (c.args.toList.map a.eval):=by
  refine kx ?_ ok1
  have key:∀ (l:List V) (xs:List Value),All2 (Vr φ) (l.map (cb (rn tbl n))) xs->All2 (Vr (φ.ren (rn tbl n))) l xs:=by
   intro l
   induction l with
   |nil=>intro xs hl;cases xs<;>first|trivial|exact hl.elim
   |cons y t ih=>intro xs hl;cases xs with
    |nil=>exact hl.elim
    |cons x xs=>exact⟨uJ.1 hl.1,ih xs hl.2⟩
  grind
 have hcall:=h (aH tbl.length (φ.ren (rn tbl n))) (c.args.toList.map a.eval) w hxs' (ft.good hM ok2) (λi hi=>by simp[aH];omega)
 have e:(c.args.toList.map a.eval).toArray=c.args.map a.eval:=by
  grind
 rw[e] at hcall;refine Z4d hcall ?_;rintro en w' ⟨φc',x,rfl,hv,hg,hnone,st,hn,hag⟩;obtain⟨φ',e1,g1,g2,g3⟩:=Dw hn hM ft hg st hag hnone hfree af;exact⟨φ',x,rfl,uJ.2 (hv.mono e1),g1,g2,g3⟩
theorem SC.op {args0:List V} {v0:V} (h:SC P f args0 tbl.length L0 v0 n0' L0')
 (ok1:args0.all (fI tbl.length)=true) (ok2:fg tbl.length L0=true) {o:Oper} {c:Call} {fn:Func} (ho:o.op=.call c) (hc:c.callee=.value (.func f)) (hfn:P.funcs[f]? =some fn) (hbody:fn.body.isSome=true)
 (hname : (fn.name == "runtime.NumGoroutine") = false) {env : List V} {n : Nat} (hargs : c.args.toList.map (ev env) = args0.map (cb (rn tbl n))) {M M' : Hp} (ft : Fits tbl n n0' L0 M) (af : xD tbl n L0 L0' M M') :
 OpL P o env n M (cb (rn tbl n) v0) (n+(n0'-tbl.length)) M':=SC.opW h ok1 ok2 ho hc hfn hbody hname (hargs▸VLe.refls _) ft af
def xL (P:Program) (t:TypeId):Option (Bool×Nat):=
 match P.underlying t with
 |some (.struct _)=>(P.info? t).map λi=>(true,i.size)
 |some (.array _ _)=>(P.info? t).map λi=>(true,i.size)
 |some _=>(P.info? t).map λi=>(false,i.size)
 |none=>none
def eO (agg:Bool) (sz:Nat) (bl:Bl) (o:Nat):Option V:=
 match bl.kind with
 |some _=>none
 |none=>
  match agg with
  |true=>match Nat.ble (o+sz) bl.cells.length with|true=>some (.agg ((bl.cells.drop o).take sz))|false=>none
  |false=>match bl.cells[o]? with|some x=>some (.s x)|none=>none
theorem iJ {α:Type} (pre l:List α) {k:Nat} (h:pre.length=k) (o:Nat):(pre++l)[o+k]? =l[o]? :=ae
theorem AZ (h:BlAt φ w b bl) (hkd:bl.kind=none) {o:Nat} {x:S} (hx:bl.cells[o]? =some x):∃ v,w.cell? ⟨b.1,o+b.2,none⟩=some v/\Sr φ x v:=by
 obtain⟨pre,xs,rest,fr,h1,hp,h2,h3,h4⟩:=h;rw[hkd] at h1;simp only[di] at h1;obtain⟨v,hv,hs⟩:=h2.get hx;refine⟨v,?_,hs.mono (bl.ph_le_self φ)⟩
 have hlt:o<xs.length:=by
  grind
 simp only[World.cell?,h1]
 grind
theorem bw (b o n:Nat):Addr.add ⟨b,o,none⟩ n=⟨b,o+n,none⟩:=by unfold Addr.add;split<;>simp_all
theorem bA {P:Program} {w:World} {b o:Nat}:∀ (vs:List Value) (i:Nat) (acc:Array Value),(∀ j v,vs[j]? =some v->w.cell? ⟨b,o+(i+j),none⟩=some v)->
 (loadCellsFrom ⟨b,o,none⟩ i vs.length acc).run P w=.ok (acc++vs.toArray) w
 |[],i,acc,_=>by simp[loadCellsFrom]
 |v::vs,i,acc,h=>by
  have h0:=h 0 v rfl;simp only[Z04,loadCellsFrom,bw,Z09,run_load];rw[Z0p] at h0;simp only[h0,Z05]
  rw[bA vs (i+1) _ (λj v' hj=>by
   have:=h (j+1) v' (by simpa using hj)
   rwa [show i+1+j=i+(j+1) by omega])]
  simp
theorem nO (h:BlAt φ w b bl) {t:TypeId} {ag:Bool} {sz o:Nat} (ht:xL P t=some (ag,sz)) (hv:eO ag sz bl o=some v):
 ∃ x,(loadVar t ⟨b.1,o+b.2,none⟩).run P w=.ok x w/\Vr φ v x:=by
 have hagg:(isAgg t).run P w=.ok ag w/\(ag=true->(sizeOf t).run P w=.ok sz w):=by
  unfold xL at ht;simp only[isAgg,sizeOf,typeInfo,underlying,Z09,run_program,Z05]
  cases hu:P.underlying t with
  |none=>grind
  |some d=>
   simp only[hu] at ht |-
   cases hi:P.info? t with
   |none=>grind
   |some i=>rw[hi] at ht;cases d<;>simp at ht<;>obtain⟨rfl,rfl⟩:=ht<;>simp
 unfold eO at hv
 cases hkd:bl.kind with
 |some m=>grind
 |none=>
 rw[hkd] at hv;simp only[] at hv
 cases ag with
 |true=>
  simp only[] at hv
  cases hle:Nat.ble (o+sz) bl.cells.length with
  |false=>grind
  |true=>
   rw[hle] at hv;simp only[Z06] at hv;subst hv;have hle':=Z1y hle;obtain⟨pre,xs,rest,fr,h1,hp,h2,h3,h4⟩:=h;rw[hkd] at h1;simp only[di] at h1;have hl:=h2.len;have hv2:All2 (Sr φ) ((bl.cells.drop o).take sz) ((xs.drop o).take sz):=((h2.mono λ_ _=>Sr.mono (bl.ph_le_self φ)).drop o).take sz;refine⟨.agg ((xs.drop o).take sz).toArray,?_,_,rfl,hv2⟩;have hlen:((xs.drop o).take sz).length=sz:=ae
   have hld:=bA (P:=P) (w:=w) (b:=b.1) (o:=o+b.2) ((xs.drop o).take sz) 0 #[] (by
    intro j v hj
    have hj':j<sz:=by
     rcases Z0a j ((xs.drop o).take sz).length with h|h
     ·omega
     ·simp[Z0b h] at hj
    simp only[Z2w,Z2k,if_pos hj'] at hj;simp only[World.cell?,h1];have:o+j<xs.length:=aa;simp only[Z2b,Z0l,if_false,Z1a,Z0c]
    rw[show o+b.2+j=(o+j)+b.2 by omega,iJ pre _ hp,Z0x this];exact hj)
   rw[hlen] at hld;simp only[loadVar,Z09,hagg.1,Z05,if_true,hagg.2 rfl,loadCells,hld,Z0f];simp
 |false=>
  simp only[] at hv
  cases hc:bl.cells[o]? with
  |none=>grind
  |some y=>
   rw[hc] at hv;simp only[Z06] at hv;subst hv;obtain⟨x,hx,hs⟩:=AZ h hkd hc;refine⟨x,?_,hs⟩;simp only[loadVar,Z09,hagg.1,Z05,Z0l,if_false,run_load,hx]
def toU:V->Option U
 | .s x=>some (.s x)
 | .agg l=>some (.agg l)
 |_=>none
def J1:U->V
 | .s x=> .s x
 | .agg l=> .agg l
theorem II {u:U} {x:Value} (h:toU v=some u) (hv:Vr φ v x):Ur φ u x:=by
 cases v<;>simp[toU] at h<;>subst h<;>exact hv
theorem DQ {u:U} {x:Value} (hv:Ur φ u x):Vr φ (J1 u) x:=by cases u<;>exact hv
def tc (P:Program) (env:List V) (M:Hp):ResultVar->Option U
 | .tmp t=>toU (env.getD t .undef)
 | .cell t ty=>
   match env.getD t .undef with
   | .s (.ptr (some (i,o)))=>
     match lk M i,xL P ty with
     |some bl,some (ag,sz)=>(eO ag sz bl o).bind toU
     |_,_=>none
   |_=>none
def xX (P:Program) (env:List V) (M:Hp):List ResultVar->Option (List U)
 |[]=>some []
 |x::t=>match tc P env M x,xX P env M t with|some u,some us=>some (u::us)|_,_=>none
def gC (P:Program) (fn:Func) (env:List V) (M:Hp):Option V:=
 match xX P env M fn.results.toList with
 |some [u]=>some (J1 u)
 |some us=>some (.tup us)
 |none=>none
def ef (tmps:Array Value):ResultVar->Sem Value
 | .tmp t=>pure (tmps.getD t Go.undef)
 | .cell s t=>do loadVar t (<-asAddr (tmps.getD s Go.undef))
theorem Dq {a:Act} (h1:EnvR φ env a) (h2:Good φ M w) {x:ResultVar} {u:U} (h:tc P env M x=some u):
 ∃ v,(ef a.tmps x).run P w=.ok v w/\Ur φ u v:=by
 cases x with
 |tmp t=>exact⟨_,rfl,II h (h1.slot t)⟩
 |cell t ty=>
  simp only[tc] at h;have hs:=h1.slot t
  cases hv:env.getD t .undef with
  |s y=>
   rw[hv] at h hs
   cases y with
   |ptr p=>
    rcases p with _|⟨i,o⟩
    ·simp at h
    ·simp only[] at h
     obtain⟨b,hb,hval⟩:=hs
     cases hl:lk M i with
     |none=>grind
     |some bl=>
      cases ht:xL P ty with
      |none=>grind
      |some q=>
       obtain⟨ag,sz⟩:=q;rw[hl,ht] at h;simp only[] at h
       cases hld:eO ag sz bl o with
       |none=>grind
       |some v=>
        rw[hld] at h;obtain⟨b',hb',hat⟩:=h2.hr i bl hl;rw[hb] at hb';cases hb';obtain⟨x,hx,hr⟩:=nO hat ht hld;refine⟨x,?_,II h hr⟩
        grind [ef,asAddr]
   |_=>simp at h
  |_=>grind
theorem JM {a:Act} (h1:EnvR φ env a) (h2:Good φ M w) (h:gC P fn env M=some v):
 ∃ x,(results fn a.tmps).run P w=.ok x w/\Vr φ v x:=by
 have key:∀ (l:List ResultVar) (us:List U),xX P env M l=some us->∃ vs:List Value,
  (l.mapM (ef a.tmps)).run P w=.ok vs w/\All2 (Ur φ) us vs:=by
  intro l
  induction l with
  |nil=>intro us h;simp[xX] at h;subst h;exact⟨[],aq,trivial⟩
  |cons x t ih=>
   intro us h;simp only[xX] at h
   cases hu:tc P env M x with
   |none=>grind
   |some u=>
    cases ht:xX P env M t with
    |none=>grind
    |some us'=>
     rw[hu,ht] at h;simp only[Z06] at h;subst h;obtain⟨y,hy,hr⟩:=Dq h1 h2 hu;obtain⟨vs,hvs,hall⟩:=ih us' ht;refine⟨y::vs,?_,hr,hall⟩;rw[List.mapM_cons];simp only[Z09,hy,Z05,hvs,Z0f]
 unfold gC at h
 cases hl:xX P env M fn.results.toList with
 |none=>grind
 |some us=>
  rw[hl] at h;obtain⟨vs,hvs,hall⟩:=key _ _ hl
  have hrun:(results fn a.tmps).run P w=.ok (if h:vs.toArray.size=1 then vs.toArray[0] else .tuple vs.toArray) w:=by
   have e:results fn a.tmps=(fn.results.mapM (ef a.tmps)>>=λvs=>pure (if h:vs.size=1 then vs[0] else .tuple vs)):=by
    unfold results;refine congrArg (·>>=_) (congrArg (λf=>Array.mapM f fn.results) (funext λx=>?_))
    cases x<;>rfl
   rw[e,Z09,Array.mapM_eq_mapM_toList];simp only[Sem.run_map,hvs,Z05,Z0f]
  refine⟨_,hrun,?_⟩
  match us,h,vs,hall with
  |[u],h,[x],hall=>
   simp only[Z06] at h;subst h;exact DQ hall.1
  |[],h,[],_=>
   simp only[Z06] at h;subst h;exact⟨[],aq,trivial⟩
  |u::u'::us,h,x::x'::xs,hall=>
   simp only[Z06] at h;subst h;exact⟨x::x'::xs,aq,hall⟩
  |[],_,_::_,h=>exact h.elim
  |[_],_,[],h=>exact h.elim
  |[_],_,_::_::_,h=>exact h.2.elim
  |_::_::_,_,[],h=>exact h.elim
  |_::_::_,_,[_],h=>exact h.2.elim
structure EndOK (P:Program) (fn:Func) (n:Nat) (v:V) (n':Nat) (L':Hp) (new:List Nat) (env:List V) (M:Hp):Prop where
 res:gC P fn env M=some (cb (rn (List.range n++new) 0) v)
 mem:∀ i bl,lk L' i=some bl->lk M (rn (List.range n++new) 0 i)=some (eT (rn (List.range n++new) 0) bl)
 okv:fI n' v=true
 okl:fg n' L'=true
 hn:n'=n+new.length
 inj:∀ i j bl bl',lk L' i=some bl->lk L' j=some bl'->rn (List.range n++new) 0 i=rn (List.range n++new) 0 j->i=j
 mv:∀ j bl,lk L' j=some bl->n<=j->rn (List.range n++new) 0 j<n->bl.ro=false
theorem Dn {new:List Nat} (hn:n'=n+new.length) (hd:(List.range n++new).Nodup) {j:Nat} (hi:i<n') (hj:j<n') (e:rn (List.range n++new) 0 i=rn (List.range n++new) 0 j):i=j:=by
 grind [gi,List.getElem_inj]
theorem LI {new:List Nat} (hi:i<n):rn (List.range n++new) 0 i=i:=by
 grind [gi]
theorem EndOK.nodup {L':Hp} {new:List Nat} (res:gC P fn env M=some (cb (rn (List.range n++new) 0) v))
 (mem:∀ i bl,lk L' i=some bl->lk M (rn (List.range n++new) 0 i)=some (eT (rn (List.range n++new) 0) bl)) (okv:fI n' v=true) (okl:fg n' L'=true) (hn:n'=n+new.length) (inj:(List.range n++new).Nodup):EndOK P fn n v n' L' new env M:=
 ⟨res,mem,okv,okl,hn,λi j bl bl' hi hj e=>Dn hn inj (dD okl hi).1 (dD okl hj).1 e,λj bl hj hjn hlt=>by
  have hj':=(dD okl hj).1;have:=Dn hn inj hj' (show rn (List.range n++new) 0 j<n' by omega) (by rw[LI hlt])
  omega⟩
theorem SC.intro {c:Code} {args:List V} {L:Hp} {L':Hp} (hf:P.funcs[f]? =some fn) (hb:fn.body=some c)
 (h:Ex P n c (args++List.replicate (fn.ntmps-args.length) .undef) n L λx env m M=>(x=.ret\/x=.normal)/\∃ v1 new,VLe v1 v/\EndOK P fn n v1 n' L' new env M):SC P f args n L v n' L':=by
 intro φ xs w hx hg hnone;have hlen:=hx.len;refine calls_of_wp hf hb (wp_mono (h φ _ w ⟨rfl,?_⟩ hg hnone (Z02 _)) ?_)
 ·have:(xs.toArray++Array.replicate (fn.ntmps-xs.toArray.size) Go.undef).toList=xs++List.replicate (fn.ntmps-args.length) Go.undef:=by simp[hlen]
  rw[this];refine hx.append ?_;generalize fn.ntmps-args.length=k
  induction k with
  |zero=>simp[All2]
  |succ k ih=>simp only[Z16];exact⟨rfl,ih⟩
 rintro x a' w' ⟨φ',env',m,M,⟨hxe,v1,new,hle,fin⟩,g1,g2,g3,g4,g5,g6⟩;obtain⟨y,hy,hr⟩:=JM g1 g2 fin.res
 let r:=rn (List.range n++new) 0
 let φ2:Ph:=aH n' (φ'.ren r)
 have hlen2:(List.range n++new).length=n':=by rw[fin.hn];simp
 have hro:∀ i,i<n'->r i=(List.range n++new).getD i 0:=λi hi=>gi aa
 have hrn:∀ i,i<n->r i=i:=λi hi=>by
  grind
 have good2:Good φ2 L' w':=by
  refine⟨λi bl hi=>?_,λi j bl bl' b b' hi hj hb hb' hbb=>?_,λb l hb=>⟨(g2.fz b l hb).1,?_⟩,g2.gz⟩
  rotate_left 2
  ·rintro⟨i,bl,c,hi,hc,hcb,hro⟩
   have hi':=(dD fin.okl hi).1;simp only[φ2,aH,if_pos hi'] at hc;exact (g2.fz b l hb).2 ⟨_,_,c,fin.mem i bl hi,hc,hcb,by rw[dU];exact hro⟩
  ·obtain⟨b,hb,hat⟩:=g2.hr _ _ (fin.mem i bl hi)
   obtain⟨hlt,hok⟩:=dD fin.okl hi;exact⟨b,by grind [aH],(mq.1 hat).cut hok⟩
  ·have hi':=(dD fin.okl hi).1
   have hj':=(dD fin.okl hj).1;simp only[φ2,aH,if_pos hi'] at hb;simp only[φ2,aH,if_pos hj'] at hb'
   rcases g2.inj _ _ _ _ b b' (fin.mem i bl hi) (fin.mem j bl' hj) hb hb' hbb with e|e
   ·exact .inl (fin.inj i j bl bl' hi hj e)
   all_goals grind [dU]
 have stp2:Stp φ L w φ2 L' w':=by
  refine⟨g5.os,g5.tape,g5.output,g5.size,g5.keep,λj bl b hj hb hlt=>?_,g5.zle,g5.zfr⟩;have hj':=(dD fin.okl hj).1;simp only[φ2,aH,if_pos hj'] at hb;obtain⟨k,bk,c,hk,hpk,hcc,hr,ho⟩:=g5.fresh _ _ b (fin.mem j bl hj) hb hlt
  grind [dU,fin.mv]
 have post:a'.defers=[]/\∃ v',(results fn a'.tmps).run P w'=.ok v' w'/\∃ φ' x,Ending.returned v'=.returned x/\Vr φ' v x/\Good φ' L' w'/\(∀ i,n'<=i->φ' i=none)/\Stp φ L w φ' L' w'/\n<=n'/\(∀ i,i<n->φ' i=φ i):=by
  refine⟨g1.1,y,hy,φ2,y,rfl,hle _ _ ((uJ.1 hr).cut fin.okv),good2,λi hi=>by simp[φ2,aH];omega,stp2,ae,λi hi=>?_⟩
  grind [aH]
 rcases hxe with rfl|rfl<;>exact post
end
