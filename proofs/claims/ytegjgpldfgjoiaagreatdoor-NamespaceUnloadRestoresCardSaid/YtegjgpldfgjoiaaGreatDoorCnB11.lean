import Derived.Test.YtegjgpldfgjoiaaGreatDoorCnB10
import Derived.Below
import Derived.MapKept
set_option linter.unusedSimpArgs false
set_option linter.unusedVariables false
namespace Go.Proofs.YtegjgpldfgjoiaaGreatDoor
namespace Ab
open Go Go.RowKit
theorem FC.below {P:Program} {f:FuncId} {args:List V} {v:V} (hok:kq P f=true)
 (h:∀ (φ:Ph) (xs:List Value) (w:World),All2 (Vr φ) args xs->Good φ [] w->Calls P f xs.toArray w fun e w'=>∃ x,e=.returned x/\(∀ ψ:Ph,ψ.z=φ.z->Vr ψ v x)/\Below w.heap.size w w'):FC P f args 0 [] v 0 []:=by
 refine⟨hok,fun φ xs w hx hg hf=>?_⟩;refine (h φ xs w hx hg).mono ?_;rintro e w' ⟨x,rfl,hv,hb⟩;refine⟨φ,x,rfl,hv φ rfl,⟨fun i bl hi=>(by cases hi),fun i j bl bl' b b' hi=>(by cases hi),fun b l hz=>?_,hg.gz⟩,hf,⟨hb.os,hb.tape,hb.output,hb.size,fun b hlt _=>hb.block b hlt,fun j bl b hj=>(by cases hj),fun _ _ q=>q,fun _ _ q=> .inl q⟩,Nat.le_refl _,fun _ _=>rfl⟩;obtain⟨h1,h2⟩:=hg.fz b l hz;exact⟨by rw[hb.block b (hg.fzlt hz)];exact h1,fun hw=>by obtain⟨i,bl,c,hi,_⟩:=hw;cases hi⟩
theorem OpL.view {P:Program} {o:Oper} {env:List V} {n:Nat} {M M1 M1' M':Hp} {v:V} {n':Nat} (i:Nat) {bl bl1:Bl} (hl:lk M i=some bl) (hro:bl1.ro=true) (hv:∀ φ w b,BlAt φ w b bl->BlAt φ w b bl1) (hin:i<n)
 (h1:∀ j,lk M1 j=if i=j then some bl1 else lk M j) (h:OpL P o env n M1 v n' M1') (h2:∀ j bl,lk M' j=some bl->if i=j then some bl=lk M i else lk M1' j=some bl) (hk:lk M1' i=some bl1):OpL P o env n M v n' M':=by
 intro φ a w Q hx hg hf
 have wr1:∀ b,Wr φ M1 b->Wr φ M b/\∀ c,φ i=some c->c.1=b->bl.ro=true:=by
  rintro b ⟨k,blk,c,hk1,hpk,hc,hr⟩;rw[h1] at hk1;split at hk1
  ·cases hk1;rw[hro] at hr;cases hr
  ·rename_i hne
   refine⟨⟨k,blk,c,hk1,hpk,hc,hr⟩,fun c' hc' e=>?_⟩
   rcases hg.inj i k bl blk c' c hl hk1 hc' hpk (e.trans hc.symm) with q|q
   ·exact absurd q hne
   ·exact q.1
 have hg1:Good φ M1 w:=by
  refine⟨fun j bj hj=>?_,fun j k bj bk b b' hj hk' hb hb' e=>?_,fun b l hb=>⟨(hg.fz b l hb).1,fun hw=>(hg.fz b l hb).2 (wr1 b hw).1⟩,hg.gz⟩
  ·rw[h1] at hj
   split at hj
   ·rename_i e;subst e;cases hj
    obtain⟨b,hb,hat⟩:=hg.hr i bl hl;exact⟨b,hb,hv φ w b hat⟩
   ·exact hg.hr j bj hj
  ·rw[h1] at hj hk'
   split at hj<;>split at hk'
   ·rename_i e1 e2;exact .inl (e1.symm.trans e2)
   ·rename_i e1 e2;subst e1;cases hj
    rcases hg.inj i k bl bk b b' hl hk' hb hb' e with q|q
    ·exact .inl q
    ·exact .inr ⟨hro,q.2⟩
   ·rename_i e1 e2;subst e2;cases hk'
    rcases hg.inj j i bj bl b b' hj hl hb hb' e with q|q
    ·exact .inl q
    ·exact .inr ⟨q.1,hro⟩
   ·exact hg.inj j k bj bk b b' hj hk' hb hb' e
 refine Oper.wp_mono (fun a' w'=>?_) (h φ a w Q hx hg1 hf);rintro⟨φ',x,e1,e2,hg',st,hφ⟩;have hφi:φ' i=φ i:=hφ i (fun q=>Nat.lt_irrefl _ (Nat.lt_of_lt_of_le hin q.1));have hle:φ.le φ':=gf hf hφ st.zle;obtain⟨bi,hbi,hat⟩:=hg.hr i bl hl
 have nwr:bl.ro=false-> ¬Wr φ M1 bi.1:=fun hr hw=>by have:=(wr1 _ hw).2 bi hbi rfl;rw[hr] at this;cases this
 have kept:bl.ro=false->w'.heap[bi.1]? =w.heap[bi.1]? :=fun hr=>st.keep bi.1 hat.lt (nwr hr)
 have keptA:w'.heap[bi.1]? =w.heap[bi.1]? :=by
  cases hr:bl.ro with
  |false=>exact kept hr
  |true=>
   refine st.keep bi.1 hat.lt fun hw=>?_
   have hw':=hw;obtain⟨k,blk,c,hk1,hpk,hc,hr'⟩:=hw';have:=h1 k;rw[hk1] at this;split at this
   ·cases this;rw[hro] at hr';cases hr'
   ·rename_i hne
    rcases hg.inj i k bl blk bi c hl this.symm hbi hpk hc.symm with q|q
    ·exact hne q
    ·rw[q.2] at hr';cases hr'
 have wr':∀ b,Wr φ' M' b->Wr φ' M1' b\/(b=bi.1/\bl.ro=false):=by
  rintro b ⟨k,blk,c,hk1,hpk,hc,hr⟩;have:=h2 k blk hk1;split at this
  ·rename_i e;subst e
   rw[hl] at this;cases this;rw[hφi,hbi] at hpk;cases hpk;exact .inr ⟨hc.symm,hr⟩
  ·exact .inl ⟨k,blk,c,this,hpk,hc,hr⟩
 have same:∀ k blk c,i≠k->lk M1' k=some blk->φ' k=some c->c.1=bi.1->bl.ro=true/\blk.ro=true:=by
  intro k blk c hne hk1 hpk hc;obtain⟨k2,b2,c2,q1,q2,q3,q4,q5⟩:=st.fresh k blk c hk1 hpk (by rw[hc];exact hat.lt);have q1':=h1 k2;rw[q1] at q1';split at q1'
  ·rename_i e;subst e;cases q1'
   rcases q5 with q5|q5
   ·exact absurd q5 hne
   ·rw[hro] at q5;cases q5
  ·rename_i hne2
   rcases hg.inj i k2 bl b2 bi c2 hl q1'.symm hbi q2 (hc.symm.trans q3.symm) with q|q
   ·exact absurd q hne2
   ·exact⟨q.1,q4 q.2⟩
 refine⟨φ',x,e1,e2,⟨fun j bj hj=>?_,fun j k bj bk b b' hj hk' hb hb' e=>?_,fun b l hb=>⟨(hg'.fz b l hb).1,fun hw=>?_⟩,hg'.gz⟩,⟨st.os,st.tape,st.output,st.size,fun b hb hn=>st.keep b hb fun hw=>hn (wr1 b hw).1,fun j bj b hj hb hlt=>?_,st.zle,fun b l hb=>?_⟩,hφ⟩
 ·have:=h2 j bj hj
  split at this
  ·rename_i e;subst e;rw[hl] at this;cases this
   exact⟨bi,by rw[hφi];exact hbi,hat.mono hle keptA⟩
  ·exact hg'.hr j bj this
 ·have a1:=h2 j bj hj
  have a2:=h2 k bk hk'
  split at a1<;>split at a2
  ·rename_i e1 e2;exact .inl (e1.symm.trans e2)
  ·rename_i e1 e2;subst e1;rw[hl] at a1;cases a1
   rw[hφi,hbi] at hb;cases hb;exact .inr (same k bk b' e2 a2 hb' e.symm)
  ·rename_i e1 e2;subst e2;rw[hl] at a2;cases a2
   rw[hφi,hbi] at hb';cases hb';exact .inr ((same j bj b e1 a1 hb e).symm)
  ·exact hg'.inj j k bj bk b b' a1 a2 hb hb' e
 ·rcases wr' b hw with q|⟨q,hr⟩
  ·exact (hg'.fz b l hb).2 q
  ·subst q
   rcases st.zfr _ _ hb with q|q|q
   ·exact (hg.fz _ _ q).2 ⟨i,bl,bi,hl,hbi,rfl,hr⟩
   ·exact absurd hat.lt (Nat.not_lt.2 q)
   ·exact nwr hr q
 ·have:=h2 j bj hj
  split at this
  ·rename_i e;subst e;rw[hl] at this;cases this
   rw[hφi,hbi] at hb;cases hb;exact⟨i,bl,bi,hl,hbi,rfl,id,.inl rfl⟩
  ·rename_i hne
   obtain⟨k2,b2,c2,q1,q2,q3,q4,q5⟩:=st.fresh j bj b this hb hlt;have q1':=h1 k2;rw[q1] at q1';split at q1'
   ·rename_i e;subst e;cases q1'
    rcases q5 with q5|q5
    ·exact absurd q5 hne
    ·rw[hro] at q5;cases q5
   ·exact⟨k2,b2,c2,q1'.symm,q2,q3,q4,q5⟩
 ·rcases st.zfr b l hb with q|q|q
  ·exact .inl q
  ·exact .inr (.inl q)
  ·exact .inr (.inr (wr1 b q).1)
def nh (i:Nat):Hp->Hp
 |[]=>[]
 |(k,b)::t=>match Nat.beq k i with|true=>nh i t|false=>(k,b)::nh i t
theorem lE (i:Nat):∀ (cw:Hp) (M M1:Hp),(∀ j,i≠j->lk M1 j=lk M j)->(lk (puts M (nh i cw)) i=lk M i)/\∀ j,i≠j->lk (puts M (nh i cw)) j=lk (puts M1 cw) j
 |[],M,M1,h=>⟨rfl,fun j hj=>(h j hj).symm⟩
 |(k,b)::t,M,M1,h=>by
  simp only[nh];split
  ·rename_i e
   have e:=Nat.eq_of_beq_eq_true e;subst e;have:=lE k t M (put M1 k b) (fun j hj=>by rw[ax,if_neg hj];exact h j hj);exact this
  ·rename_i e
   have hne: ¬k=i:=fun q=>by subst q;simp at e
   have:=lE i t (put M k b) (put M1 k b) (fun j hj=>by rw[ax,ax];split;·rfl
                                                       ·exact h j hj)
   refine⟨this.1.trans (by rw[ax,if_neg hne]),this.2⟩
section
variable {P:Program} {b:Nat} {ops:Array Oper} {d:Bool} {acc:List Row} {os:List Oper} {o:Oper} {env:List V} {n:Nat} {L:Hp} {R:Post} {f:FuncId} {xs:Array Operand}
theorem CallG.mv (tbl:List Nat) (i:Nat) {bl bl1:Bl} {args0:List V} {L0:Hp} {v0:V} {n0':Nat} {L0':Hp} (sc:FC P f args0 tbl.length L0 v0 n0' L0')
 (hchk:(args0.all (okV tbl.length)&&okH tbl.length L0&&eC L0 L0'&&bY (az L0')&&Nat.ble tbl.length n0'&&vV tbl n n0'&&xc tbl L0)=true) {args1:List V} (ha:xs.toList.map (ev env)=args1) (hle:All2 VLe args1 (args0.map (bv (rn tbl n))))
 (hl:lk (res tbl L) i=some bl) (hro:bl1.ro=true) (hvw:∀ φ w b,BlAt φ w b bl->BlAt φ w b bl1) (hin:Nat.blt i n=true) (ft:FitP tbl n (put (res tbl L) i (some bl1)) L0) (hk:lk (puts (put (res tbl L) i (some bl1)) (bH tbl n L0 L0')) i=some bl1)
 (hw:aI ops env o=some true) {v:V} (hv:iX (bv (rn tbl n) v0) some=some v) {wr:Hp} (hwr:frc (nh i (bH tbl n L0 L0')) [] some=some wr)
 (k:RegX P ops d (av d o tbl wr acc) os (aB env o.dst v) (n+(n0'-tbl.length)) (puts L wr) R):CallG P ops d acc o f xs os env n L R:=by
 refine⟨fun⟨ts,ho⟩=>?_⟩;obtain⟨hf,sc⟩:=sc;rw[dd] at hv;cases hv;rw[aQ] at hwr;cases hwr;simp only[Bool.and_eq_true] at hchk;obtain⟨⟨⟨⟨⟨⟨k1,k2⟩,k3⟩,k4⟩,k5⟩,k6⟩,k7⟩:=hchk;unfold kq at hf;split at hf
 ·rename_i fn hfn
  simp only[Bool.and_eq_true,Bool.not_eq_true'] at hf;have h:=SC.opW (n:=n) (env:=env) (M:=put (res tbl L) i (some bl1)) sc k1 k2 ho rfl hfn hf.1 hf.2 (ha▸hle) (Fits.of k6 k7 ft) (dT k3 k4);have hd:=lE i (bH tbl n L0 L0') (res tbl L) (put (res tbl L) i (some bl1)) (fun j hj=>by rw[ax,if_neg hj]);refine RegX.op hw (OpL.view i hl hro hvw (al.1 hin) (fun j=>by rw[ax]) h (fun j bj hj=>?_) hk) (Nat.le_add_right _ _) k;split
  ·rename_i e;subst e;rw[<-hj];exact hd.1
  ·rename_i e;rw[<-hj];exact (hd.2 j e).symm
 ·cases hf
end
def DM (k:Nat) (bl:Bl):Bl:={cells:=bl.cells.take k,ty:=bl.ty,more:=true,ro:=true}
theorem BlAt.view {φ:Ph} {w:World} {b:Nat×Nat} {bl:Bl} (k:Nat) (hk:bl.kind=none) (h:BlAt φ w b bl):BlAt φ w b (DM k bl):=by
 obtain⟨pre,xs,rest,fr,h1,h2,h3,h4,h5,h6⟩:=h;refine⟨pre,xs.take k,xs.drop k++rest,fr,?_,h2,?_,(fun e=>by cases e),(fun e=>by cases e),⟨fun g z e=>(by cases e),fun g e=>(by cases e)⟩⟩
 ·rw[h1,hk];show _=some (bC none _ bl.ty fr)
  rw[<-List.append_assoc (xs.take k),List.take_append_drop]
 ·exact (h3.mono fun _ _=>Sr.mono (bl.ph_le_self φ)).take k
theorem SLe.slcfrz {i o:Nat} {c:Option Nat} {get:Nat->List S} {sz:Nat}:SLe (.slc (some (i,o)) 0 c) (.frz get sz 0):=fun φ x h=>by
 obtain⟨b,k,_,e,_⟩:=h;subst e;exact Pr.nil _ _ (some _) k (fun h=>nomatch h)
end Ab
end Go.Proofs.YtegjgpldfgjoiaaGreatDoor
namespace Go.Proofs.YtegjgpldfgjoiaaGreatDoor
namespace Ab
open Go
section
variable {P:Program} {f:FuncId} {args:List V} {n:Nat} {L L1:Hp} {v:V} {n':Nat} {L':Hp}
theorem SC.post (h:SC P f args n L v n' L1) (hs:SubF L' L1):SC P f args n L v n' L':=by
 intro φ xs w hx hg hf;refine (h φ xs w hx hg hf).mono ?_;rintro e w' ⟨φ',x,he,hv,hg',hn,st,hle,hag⟩;refine⟨φ',x,he,hv,hg'.subF hs,hn,⟨st.os,st.tape,st.output,st.size,st.keep,fun j bl b hj hb hlt=>?_,st.zle,st.zfr⟩,hle,hag⟩;obtain⟨bl0,e1,e2,_⟩:=hs j bl hj;obtain⟨k,bl',c,hk,q1,q2,q3,q4⟩:=st.fresh j bl0 b e1 hb hlt;exact⟨k,bl',c,hk,q1,q2,fun hr=>e2.trans (q3 hr),q4⟩
theorem SC.pre (h:SC P f args n L1 v n' L') (hs:SubF L1 L):SC P f args n L v n' L':=by
 intro φ xs w hx hg hf;refine (h φ xs w hx (hg.subF hs) hf).mono ?_;rintro e w' ⟨φ',x,he,hv,hg',hn,st,hle,hag⟩;refine⟨φ',x,he,hv,hg',hn,⟨st.os,st.tape,st.output,st.size,fun b hb hn=>st.keep b hb fun hw=>hn (hw.subF hs),fun j bl b hj hb hlt=>?_,st.zle,fun x l hx=>?_⟩,hle,hag⟩
 ·obtain⟨k,bl',c,hk,q1,q2,q3,q4⟩:=st.fresh j bl b hj hb hlt
  obtain⟨bl0,e1,e2,_⟩:=hs k bl' hk;exact⟨k,bl0,c,e1,q1,q2,fun hr=>q3 (e2.trans hr),q4.imp id fun hr=>e2▸hr⟩
 ·rcases st.zfr x l hx with q|q|q
  ·exact .inl q
  ·exact .inr (.inl q)
  ·exact .inr (.inr (q.subF hs))
theorem FC.post (h:FC P f args n L v n' L1) (hs:SubF L' L1):FC P f args n L v n' L':=⟨h.1,h.2.post hs⟩
theorem FC.pre (h:FC P f args n L1 v n' L') (hs:SubF L1 L):FC P f args n L v n' L':=⟨h.1,h.2.pre hs⟩
end
theorem SubF.refl (L:Hp):SubF L L:=fun i bl h=>⟨bl,h,rfl,fun _ _ _ h=>h⟩
theorem SubF.one {L L':Hp} (i:Nat) {bl bl':Bl} (h1:lk L i=some bl) (h2:∀ j,lk L' j=if i=j then some bl' else lk L j) (hr:bl'.ro=bl.ro) (hb:∀ φ w b,BlAt φ w b bl->BlAt φ w b bl'):SubF L' L:=by
 intro j c hj;rw[h2] at hj;split at hj
 ·rename_i e;subst e;cases hj;exact⟨bl,h1,hr,hb⟩
 ·exact⟨c,hj,rfl,fun _ _ _ h=>h⟩
theorem BlAt.cells {φ:Ph} {w:World} {b:Nat×Nat} {bl:Bl} {cs:List S} (hc:All2 SLe bl.cells cs) (h:BlAt φ w b bl):BlAt φ w b {bl with cells:=cs}:=by
 obtain⟨pre,xs,rest,fr,h1,h2,h3,h4,h5,h6⟩:=h;refine⟨pre,xs,rest,fr,h1,h2,?_,h4,h5,h6⟩;exact SLe.alls hc h3
def opB (ty g w:Nat):List S->Option Bl
 |[]=>none
 |c::cs=>some {cells:=c::cs,ty:=ty,more:=true,sym:=true,flat:=true,gh:=some (g,w)}
theorem ah {r:Nat->Nat} {ty g w:Nat} {cs:List S}:yb r (opB ty g w cs)=opB ty (r g) w cs:=by cases cs<;>rfl
theorem aT {n i ty g w:Nat} {cs:List S} {t:Hp} (h1:Nat.blt i n=true) (h2:Nat.blt g n=true) (k:okH n t=true):okH n ((i,opB ty g w cs)::t)=true:=by
 cases cs with
 |nil=>exact k
 |cons c cs=>simp only[opB,okH,okB,okG,h1,h2,k,Bool.and_self]
theorem FitP.op {tbl:List Nat} {new:Nat} {M:Hp} {i ty g w:Nat} {cs:List S} {t:Hp} (h1:Nat.blt i tbl.length=true) (h2:lk M (tbl.getD i 0)=opB ty (rn tbl new g) w cs) (k:FitP tbl new M t):FitP tbl new M ((i,opB ty g w cs)::t):=by
 cases cs with
 |nil=>exact k
 |cons c cs=>exact⟨⟨h1,_,h2,rfl,fun h=>h⟩,k⟩
theorem MemP.op {r:Nat->Nat} {M:Hp} {i ty g w:Nat} {cs:List S} {t:Hp} (h2:lk M (r i)=opB ty (r g) w cs) (k:MemP r M t):MemP r M ((i,opB ty g w cs)::t):=by
 cases cs with
 |nil=>exact k
 |cons c cs=>exact⟨h2,k⟩
theorem SubP.op {M:Hp} {i ty g w:Nat} {cs:List S} {t:Hp} (h2:lk M i=opB ty g w cs) (k:SubP M t):SubP M ((i,opB ty g w cs)::t):=by
 cases cs with
 |nil=>exact k
 |cons c cs=>exact⟨h2,k⟩
def cT (tbl:List Nat) (new:Nat) (L0:Hp):Hp->Hp
 |[]=>[]
 |(i,c)::t=>
  match Nat.blt i tbl.length with
  |true=>
   match c with
   |none=>(rn tbl new i,none)::cT tbl new L0 t
   |some c=>
    match lk L0 i with
    |some b=>match b.ro with|true=>cT tbl new L0 t|false=>(rn tbl new i,some (cE (rn tbl new) c))::cT tbl new L0 t
    |none=>cT tbl new L0 t
  |false=>(rn tbl new i,yb (rn tbl new) c)::cT tbl new L0 t
theorem lB {tbl:List Nat} {new:Nat} {L0:Hp}:∀ {L0':Hp} {x:Nat} {c:Option Bl},(x,c)∈cT tbl new L0 L0'->
 ∃ i d,(i,d)∈L0'/\rn tbl new i=x/\c=d.map (cE (rn tbl new))/\(d=none\/tbl.length<=i\/∃ b,lk L0 i=some b/\b.ro=false)
 |(j,d)::t,x,c,h=>by
  simp only[cT] at h
  have rest:(x,c)∈cT tbl new L0 t->∃ i d',(i,d')∈(j,d)::t/\rn tbl new i=x/\c=d'.map (cE (rn tbl new))/\(d'=none\/tbl.length<=i\/∃ b,lk L0 i=some b/\b.ro=false):=fun h=>by
   obtain⟨i,d',h1,h2⟩:=lB h;exact⟨i,d',.tail _ h1,h2⟩
  have here:∀ d1:Option Bl,d1=d.map (cE (rn tbl new))->(d=none\/tbl.length<=j\/∃ b,lk L0 j=some b/\b.ro=false)->(x,c)∈(rn tbl new j,d1)::cT tbl new L0 t->
   ∃ i d',(i,d')∈(j,d)::t/\rn tbl new i=x/\c=d'.map (cE (rn tbl new))/\(d'=none\/tbl.length<=i\/∃ b,lk L0 i=some b/\b.ro=false):=by
   intro d1 hd1 hc h
   rcases List.mem_cons.1 h with e|h
   ·simp only[Prod.mk.injEq] at e
    exact⟨j,d,.head _,e.1.symm,by rw[e.2,hd1],hc⟩
   ·exact rest h
  split at h
  ·rename_i hlt
   split at h
   ·exact here _ rfl (.inl rfl) h
   ·split at h
    ·rename_i b hb
     split at h
     ·exact rest h
     ·rename_i hro;exact here _ rfl (.inr (.inr ⟨b,hb,hro⟩)) h
    ·exact rest h
  ·rename_i hge
   refine here _ (by cases d<;>rfl) (.inr (.inl ?_)) h
   rcases Nat.lt_or_ge j tbl.length with hl|hl
   ·rw[al.2 hl] at hge;cases hge
   ·exact hl
theorem mc {tbl:List Nat} {new:Nat} {L0:Hp} {i:Nat} {b:Bl} (hb:lk L0 i=some b) (hro:b.ro=false) (hi:i<tbl.length):∀ {L0':Hp},i∈az L0'->rn tbl new i∈az (cT tbl new L0 L0')
 |(j,d)::t,h=>by
  simp only[az,List.map_cons,List.mem_cons] at h;simp only[cT]
  rcases h with rfl|h
  ·rw[al.2 hi]
   cases d<;>simp only[hb,hro,az,List.map_cons,List.mem_cons,true_or]
  ·have ih:=mc (new:=new) hb hro hi (L0':=t) h
   split
   ·split
    ·simp only[az,List.map_cons,List.mem_cons];exact .inr ih
    ·split
     ·split
      ·exact ih
      ·simp only[az,List.map_cons,List.mem_cons];exact .inr ih
     ·exact ih
   ·simp only[az,List.map_cons,List.mem_cons];exact .inr ih
theorem pC {tbl:List Nat} {new:Nat} {L0 L0' M:Hp} (hs:eC L0 L0'=true) (hn:bY (az L0')=true):sv tbl new L0 L0' M (puts M (cT tbl new L0 L0')):=by
 intro x bl hx;by_cases hk:x∈az (cT tbl new L0 L0')
 ·left
  obtain⟨c,hc,he⟩:=dz _ M x hk;rw[he] at hx;subst hx;obtain⟨i,d,h1,h2,h3,h4⟩:=lB hc
  cases d with
  |none=>simp at h3
  |some bl0=>exact⟨i,bl0,h2,jx hn h1,by simpa using h3,h4.resolve_left (by simp)⟩
 ·right
  rw[aN _ _ _ hk] at hx;refine⟨hx,fun i hi e b hb=>?_⟩
  cases hro:b.ro with
  |true=>rfl
  |false=>
   exfalso;have h1:=List.all_eq_true.1 hs _ (bM hb)
   have h2:i∈az L0':=by simpa using h1
   have:=mc (tbl:=tbl) (new:=new) hb hro hi h2;rw[dq hi,e] at this;exact hk this
section
variable {P:Program} {b:Nat} {ops:Array Oper} {d:Bool} {acc:List Row} {os:List Oper} {o:Oper} {env:List V} {n:Nat} {L:Hp} {R:Post} {f:FuncId} {xs:Array Operand}
theorem CallG.mo (tbl:List Nat) {args0:List V} {L0:Hp} {v0:V} {n0':Nat} {L0':Hp} (sc:FC P f args0 tbl.length L0 v0 n0' L0')
 (k1:args0.all (okV tbl.length)=true) (k2:okH tbl.length L0=true) (hchk:(eC L0 L0'&&bY (az L0')&&Nat.ble tbl.length n0'&&vV tbl n n0')=true) (k7:xc tbl L0=true)
 {args1:List V} (ha:xs.toList.map (ev env)=args1) (hle:All2 VLe args1 (args0.map (bv (rn tbl n)))) (ft:FitP tbl n (res tbl L) L0)
 (hw:aI ops env o=some true) {v:V} (hv:iX (bv (rn tbl n) v0) some=some v) {wr:Hp} (hwr:cT tbl n L0 L0'=wr)
 (k:RegX P ops d (av d o tbl wr acc) os (aB env o.dst v) (n+(n0'-tbl.length)) (puts L wr) R):CallG P ops d acc o f xs os env n L R:=by
 refine⟨fun⟨ts,ho⟩=>?_⟩;obtain⟨hf,sc⟩:=sc;rw[dd] at hv;cases hv;subst hwr;simp only[Bool.and_eq_true] at hchk;obtain⟨⟨⟨k3,k4⟩,k5⟩,k6⟩:=hchk;unfold kq at hf;split at hf
 ·rename_i fn hfn
  simp only[Bool.and_eq_true,Bool.not_eq_true'] at hf;have h:=SC.opW (n:=n) (env:=env) (M:=res tbl L) sc k1 k2 ho rfl hfn hf.1 hf.2 (ha▸hle) (Fits.of k6 k7 ft) (pC k3 k4);exact RegX.op hw h (Nat.le_add_right _ _) k
 ·cases hf
end
end Ab
end Go.Proofs.YtegjgpldfgjoiaaGreatDoor
namespace Go.Proofs.YtegjgpldfgjoiaaGreatDoor
namespace Ab
open Go Go.MapKept
def kvC (x:List UInt8×Nat):List S:=[.str x.1,.int .i64 (x.2:Int)]
def a_ (F:List (List UInt8×Nat)):Bl:={cells:=F.flatMap kvC,ty:=0,flat:=true,kind:=some ⟨1,false,List.range F.length,F.length,false⟩}
def lkF:List (List UInt8×Nat)->List UInt8->Option Nat
 |[],_=>none
 |x::t,k=>if x.1=k then some x.2 else lkF t k
def fP (l:List UInt8):Value:=.string ⟨l.toArray⟩
def kvV (x:List UInt8×Nat):List Value:=[fP x.1,.int .i64 (x.2:Int)]
theorem uF {φ:Ph}:∀ {F:List (List UInt8×Nat)} {xs:List Value},All2 (Sr φ) (F.flatMap kvC) xs->xs=F.flatMap kvV
 |[],[],_=>rfl
 |[],_::_,h=>h.elim
 |x::F,[],h=>h.elim
 |x::F,[_],h=>h.2.elim
 |x::F,a::b::xs,h=>by
  have h:Sr φ (.str x.1) a/\Sr φ (.int .i64 (x.2:Int)) b/\All2 (Sr φ) (F.flatMap kvC) xs:=h;obtain⟨h1,h2,h3⟩:=h;have h1:a=fP x.1:=h1;have h2:b=.int .i64 (x.2:Int):=h2;rw[uF h3,h1,h2];rfl
theorem ze (φ:Ph):∀ F:List (List UInt8×Nat),All2 (Sr φ) (F.flatMap kvC) (F.flatMap kvV)
 |[]=>trivial
 |x::F=>⟨rfl,rfl,ze φ F⟩
def iZ:List Nat->List (List UInt8×Nat)->List MapEntry
 |b::bs,x::t=>{key:=fP x.1,val:=.int .i64 (x.2:Int),born:=b}::iZ bs t
 |_,_=>[]
theorem jH:∀ (born:List Nat) (F:List (List UInt8×Nat)),tq false 1 born (F.flatMap kvV)=iZ born F
 |[],[]=>rfl
 |[],_::_=>rfl
 |_::_,[]=>rfl
 |b::bs,x::F=>by
  show MapEntry.mk (fP x.1) _ b::tq false 1 bs (F.flatMap kvV)=_;rw[jH bs F];rfl
theorem Bh (x y:List UInt8):((⟨x.toArray⟩:ByteArray)==⟨y.toArray⟩)=decide (x=y):=by
 by_cases h:x=y
 ·subst h;simp only[decide_true];exact (bytes_beq _ _).2 rfl
 ·have hne: ¬((⟨x.toArray⟩:ByteArray)=⟨y.toArray⟩):=fun e=>h (by
   have:=congrArg ByteArray.data e
   simpa using this)
  simp only[h,decide_false]
  cases hb:((⟨x.toArray⟩:ByteArray)==⟨y.toArray⟩) with
  |false=>rfl
  |true=>exact absurd ((bytes_beq _ _).1 hb) hne
theorem xY (x y:List UInt8):Instr.sameNow .string (fP x) (fP y)=some (decide (x=y)):=by
 show some ((⟨x.toArray⟩:ByteArray)==⟨y.toArray⟩)=_;rw[Bh]
theorem jF {k:List UInt8}:∀ (F:List (List UInt8×Nat)) (born:List Nat) (i:Nat),born.length=F.length->
 (∀ v,lkF F k=some v->∃ j,Instr.findNow .string (fP k) (iZ born F) i=some (some (j,.int .i64 (v:Int))))/\(lkF F k=none->Instr.findNow .string (fP k) (iZ born F) i=some none)
 |[],[],i,_=>⟨fun v h=>(by cases h),fun _=>rfl⟩
 |[],_::_,i,h=>by cases h
 |_::_,[],i,h=>by cases h
 |x::F,b::bs,i,h=>by
  have ih:=jF (k:=k) F bs (i+1) (by simpa using h);simp only[lkF,iZ,Instr.findNow,xY];by_cases hx:k=x.1
  ·subst hx;simp
  ·rw[if_neg (fun e=>hx e.symm)]
   simp only[hx,decide_false];exact ih
theorem ng:∀ (F:List (List UInt8×Nat)) (born:List Nat) (x:List UInt8×Nat) (c:Nat),born.length=F.length->iZ (born++[c]) (F++[x])=iZ born F++[{key:=fP x.1,val:=.int .i64 (x.2:Int),born:=c}]
 |[],[],_,_,_=>rfl
 |[],_::_,_,_,h=>by cases h
 |_::_,[],_,_,h=>by cases h
 |y::F,b::bs,x,c,h=>by
  show _::iZ (bs++[c]) (F++[x])=_::(iZ bs F++_)
  rw[ng F bs x c (by simpa using h)]
theorem yP {φ:Ph} {w:World} {b:Nat×Nat} {F:List (List UInt8×Nat)} {r:Bool} (h:BlAt φ w b {a_ F with ro:=r}) (hb:b.2=0):w.heap[b.1]? =some (.map (iZ (List.range F.length) F).toArray F.length):=by
 obtain⟨pre,xs,rest,fr,h1,h2,h3,h4,h5,h6⟩:=h;rw[hb] at h2;have:=List.eq_nil_of_length_eq_zero h2;subst this;have:=h4 rfl;subst this;have:=uF h3;subst this;rw[h1];simp only[a_,bC,List.nil_append,List.append_nil];rw[jH]
theorem Bm {φ:Ph} {w:World} {b:Nat×Nat} {F:List (List UInt8×Nat)} (h:w.heap[b.1]? =some (.map (iZ (List.range F.length) F).toArray F.length)) (hb:b.2=0):BlAt φ w b (a_ F):=by
 refine⟨[],F.flatMap kvV,[],(0,0),?_,by rw[hb];rfl,ze _ F,fun _=>rfl,fun _ o ho=>by simp,⟨fun g z e=>(by cases e),fun g e=>(by cases e)⟩⟩;rw[h];simp only[a_,bC,List.nil_append,List.append_nil];rw[jH]
section
variable {P:Program} {b:Nat} {ops:Array Oper} {d:Bool} {acc:List Row} {os:List Oper} {o:Oper} {env:List V} {n:Nat} {L:Hp} {R:Post}
theorem RegX.lkp {r0:Bool} {dst:Option Tmp} {x ix:Operand} {tx kt et:TypeId} {t:TypeId} {pos:String} {af:Array Edge} {gd:Option (Nat×Bool)} {i:Nat} {key:List UInt8} {F:List (List UInt8×Nat)} (r:Option Nat) (hx:ev env x=.s (.map (some i))) (hix:ev env ix=.s (.str key))
 (hl:lk L i=some {a_ F with ro:=r0}) (hty:P.underlying tx=some (.map kt et)) (hd:P.underlying kt=some .string) (hz:∀ w,(zeroValue et).run P w=.ok (.int .i64 0) w) (hr:lkF F key=r)
 (hw:aI ops env ⟨dst,.lookup tx x ix true,t,pos,af,gd⟩=some true)
 (k:RegX P ops d (av d ⟨dst,.lookup tx x ix true,t,pos,af,gd⟩ [i] [] acc) os (aB env dst (.tup [.s (.int .i64 ((r.getD 0:Nat):Int)),.s (.bool r.isSome)])) n L R):
 RegX P ops d acc (⟨dst,.lookup tx x ix true,t,pos,af,gd⟩::os) env n L R:=by
 refine RegX.op (foot:=[i]) (wr:=[]) hw (OpL.light fun φ a w hop hg=>?_) (Nat.le_refl _) k;have g1:=hop x (by simp[Op.operands]);have g2:=hop ix (by simp[Op.operands]);rw[hx] at g1;rw[hix] at g2;obtain⟨b,hb,hb2,hv⟩:=g1;have g2:a.eval ix=fP key:=g2;obtain⟨b',hb',hat⟩:=hg.hr i {a_ F with ro:=r0} (by rw[aE];simp[hl]);rw[hb] at hb';cases hb';have hm:=yP hat hb2;have hk:IsKey .string (fP key):=trivial
 have hc:=fun em=>run_checkKey (P:=P) (w:=w) hd hk em 9999
 obtain⟨f1,f2⟩:=jF (k:=key) F (List.range F.length) 0 (by simp)
 cases r with
 |none=>
  have hf:=run_findKey (P:=P) (w:=w) hd (f2 hr);refine⟨.tuple #[.int .i64 0,.bool false],?_,[.int .i64 0,.bool false],rfl,rfl,rfl,trivial⟩;simp only[execOp,Instr.lookup,Sem.run_bind,Ab.run_underlying hty,Result.andThen_ok,hv,Go.MapKept.run_getObj_map hm,Sem.run_pure,g2];simp[hc,hf,hz]
 |some v=>
  obtain⟨j,hj⟩:=f1 v hr;have hf:=run_findKey (P:=P) (w:=w) hd hj;refine⟨.tuple #[.int .i64 (v:Int),.bool true],?_,[.int .i64 (v:Int),.bool true],rfl,rfl,rfl,trivial⟩;simp only[execOp,Instr.lookup,Sem.run_bind,Ab.run_underlying hty,Result.andThen_ok,hv,Go.MapKept.run_getObj_map hm,Sem.run_pure,g2];simp[hc,hf]
theorem iK {φ:Ph} {w:World} {i:Nat} {b:Nat×Nat} {bl bl':Bl} {ob:Obj} (hg:Good φ [(i,some bl)] w) (hb:φ i=some b) (hro:bl.ro=false) (hro':bl'.ro=false) (hat:BlAt φ {w with heap:=w.heap.setIfInBounds b.1 ob} b bl'):
 Good φ [(i,some bl')] {w with heap:=w.heap.setIfInBounds b.1 ob}/\Stp φ [(i,some bl)] w φ [(i,some bl')] {w with heap:=w.heap.setIfInBounds b.1 ob}:=by
 have one:∀ (c:Bl) j bj,lk [(i,some c)] j=some bj->j=i/\bj=c:=by
  intro c j bj hj;rw[ak] at hj;split at hj
  ·rename_i e;cases hj;exact⟨e.symm,rfl⟩
  ·simp[lk] at hj
 have hwr:Wr φ [(i,some bl)] b.1:=⟨i,bl,b,by simp[lk],hb,rfl,hro⟩
 refine⟨⟨?_,?_,?_,hg.gz⟩,⟨rfl,rfl,rfl,by simp,?_,?_,fun _ _ h=>h,fun _ _ h=> .inl h⟩⟩
 ·intro j bj hj
  obtain⟨rfl,rfl⟩:=one _ _ _ hj;exact⟨b,hb,hat⟩
 ·intro j k bj bk c c' hj hk _ _ _
  obtain⟨rfl,_⟩:=one _ _ _ hj;obtain⟨rfl,_⟩:=one _ _ _ hk;exact .inl rfl
 ·intro c l hc
  obtain⟨⟨ty,fr,h1⟩,h2⟩:=hg.fz c l hc
  have hne:c≠b.1:=fun e=>h2 (e▸hwr)
  refine⟨⟨ty,fr,by simp only[Array.getElem?_setIfInBounds_ne (Ne.symm hne)];exact h1⟩,?_⟩;rintro⟨j,bj,c',hj,hc',e,hr⟩;obtain⟨rfl,rfl⟩:=one _ _ _ hj;rw[hb] at hc';cases hc';exact hne e.symm
 ·intro c _ hn
  have:c≠b.1:=fun e=>hn (e▸hwr)
  simp[Array.getElem?_setIfInBounds_ne (Ne.symm this)]
 ·intro j bj c hj hc _
  obtain⟨rfl,rfl⟩:=one _ _ _ hj;exact⟨j,bl,c,by simp[lk],hc,rfl,(fun e=>by rw[hro] at e;cases e),.inl rfl⟩
theorem RegX.mup {dst:Option Tmp} {x ix y:Operand} {tx kt et:TypeId} {t:TypeId} {pos:String} {af:Array Edge} {gd:Option (Nat×Bool)} {i:Nat} {key:List UInt8} {z:Int} {F:List (List UInt8×Nat)} (m:Nat) (hx:ev env x=.s (.map (some i))) (hix:ev env ix=.s (.str key)) (hy:ev env y=.s (.int .i64 z)) (hm:z=(m:Int))
 (hl:lk L i=some (a_ F)) (hty:P.underlying tx=some (.map kt et)) (hd:P.underlying kt=some .string) (hr:lkF F key=none)
 (hw:aI ops env ⟨dst,.mapUpdate tx x ix y,t,pos,af,gd⟩=some true)
 (k:RegX P ops d (av d ⟨dst,.mapUpdate tx x ix y,t,pos,af,gd⟩ [i] [(i,some (a_ (F++[(key,m)])))] acc) os (aB env dst .undef) n (puts L [(i,some (a_ (F++[(key,m)])))]) R):
 RegX P ops d acc (⟨dst,.mapUpdate tx x ix y,t,pos,af,gd⟩::os) env n L R:=by
 subst hm;refine RegX.op (foot:=[i]) (wr:=[(i,some (a_ (F++[(key,m)])))]) hw ?_ (Nat.le_refl _) k;intro φ a w Q hop hg hf
 have e1:res [i] L=[(i,some (a_ F))]:=by simp[res,hl]
 have e2:puts (res [i] L) [(i,some (a_ (F++[(key,m)])))]=[(i,some (a_ (F++[(key,m)])))]:=by rw[e1];simp[puts,put]
 have g1:=hop x (by simp[Op.operands]);have g2:=hop ix (by simp[Op.operands]);have g3:=hop y (by simp[Op.operands]);rw[hx] at g1;rw[hix] at g2;rw[hy] at g3;obtain⟨b,hb,hb2,hv⟩:=g1;have g2:a.eval ix=fP key:=g2;have g3:a.eval y=.int .i64 (m:Int):=g3;rw[e1] at hg;obtain⟨b',hb',hat⟩:=hg.hr i (a_ F) (by simp[lk]);rw[hb] at hb';cases hb';have hmap:=yP hat hb2;have hlt:=hat.lt;have hk:IsKey .string (fP key):=trivial
 have hc:=fun em=>run_checkKey (P:=P) (w:=w) hd hk em 9999
 obtain⟨_,f2⟩:=jF (k:=key) F (List.range F.length) 0 (by simp);have hfn:=run_findKey (P:=P) (w:=w) hd (f2 hr)
 have hrun:(execOp a.eval ⟨dst,.mapUpdate tx x ix y,t,pos,af,gd⟩).run P w=.ok .skip {w with heap:=w.heap.setIfInBounds b.1 (.map (iZ (List.range (F++[(key,m)]).length) (F++[(key,m)])).toArray (F++[(key,m)]).length)}:=by
  simp only[execOp,Instr.mapUpdate,Sem.run_bind,Ab.run_underlying hty,Result.andThen_ok,hv,Go.MapKept.run_getObj_map hmap,Sem.run_pure,g2,g3,hc,hfn];rw[Go.MapKept.run_setObj_map _ hmap];simp only[Result.andThen_ok,List.length_append,List.length_singleton,List.range_succ];rw[ng _ _ _ _ (by simp)];simp
 obtain⟨good,stp⟩:=iK (bl':=a_ (F++[(key,m)])) (ob:=.map (iZ (List.range (F++[(key,m)]).length) (F++[(key,m)])).toArray (F++[(key,m)]).length) hg hb rfl rfl (Bm (by simp[hlt]) hb2);unfold Oper.wp;rw[hrun,Oper.upon_skip];exact⟨φ,Go.undef,rfl,rfl,by rw[e2];exact good,by rw[e2,e1];exact stp,fun _ _=>rfl⟩
theorem RegX.mkm {dst:Option Tmp} {tx:TypeId} {t:TypeId} {pos:String} {af:Array Edge} {gd:Option (Nat×Bool)}
 (hw:aI ops env ⟨dst,.makeMap tx none,t,pos,af,gd⟩=some true)
 (k:RegX P ops d (av d ⟨dst,.makeMap tx none,t,pos,af,gd⟩ [] [(n,some (a_ []))] acc) os (aB env dst (.s (.map (some n)))) (n+1) (puts L [(n,some (a_ []))]) R):
 RegX P ops d acc (⟨dst,.makeMap tx none,t,pos,af,gd⟩::os) env n L R:=by
 refine RegX.op (foot:=[]) (wr:=[(n,some (a_ []))]) hw ?_ (Nat.le_succ _) k
 have e:puts (res ([]:List Nat) L) [(n,some (a_ []))]=put [] n (some (a_ [])):=by simp[res,puts]
 rw[e]
 refine OpL.fresh (L:=[]) (by simp[lk]) fun φ a w hop _=>?_
 refine⟨.map (some w.heap.size),{w with heap:=w.heap.push (.map #[] 0)},?_,rfl,rfl,rfl,⟨_,rfl⟩,Bm (F:=[]) (by simp[iZ]) rfl,fun φ' hn _=>⟨_,hn,rfl,rfl⟩⟩;simp[execOp,Instr.makeMap,newObj,Sem.run]
end
structure KD (κ:Type) where
 s:κ->S
 v:κ->Value
 d:TypeDesc
 sr:∀ (φ:Ph) k x,Sr φ (s k) x↔x=v k
 key:∀ k,IsKey d (v k)
 inj:∀ a b,v a=v b->a=b
 np:∀ k,bD (s k)=true
def kdI:KD Int:=⟨fun k=> .int .i64 k,fun k=> .int .i64 k,.int .i64,fun _ _ _=>Iff.rfl,fun _=>rfl,fun a b h=>by cases h;rfl,fun _=>rfl⟩
theorem xO (a b:List UInt8) (h:fP a=fP b):a=b:=by
 unfold fP at h;have:=congrArg ByteArray.data (Value.string.inj h)
 simpa using this
def kdS:KD (List UInt8):=⟨fun k=> .str k,fP,.string,fun _ _ _=>Iff.rfl,fun _=>trivial,xO,fun _=>rfl⟩
section
variable {κ α:Type}
abbrev En (κ α:Type):=List (Nat×κ×α)
def mB (K:KD κ) (agg:Bool) (w:Nat) (c:α->List S) (E:En κ α) (ck:Nat):Bl:={cells:=E.flatMap fun e=>K.s e.2.1::c e.2.2,ty:=0,flat:=true,kind:=some ⟨w,agg,E.map (·.1),ck,false⟩}
def lkM [DecidableEq κ]:En κ α->κ->Option α
 |[],_=>none
 |e::t,k=>if e.2.1=k then some e.2.2 else lkM t k
def upM [DecidableEq κ]:En κ α->κ->α->En κ α
 |[],_,_=>[]
 |e::t,k,x=>if e.2.1=k then (e.1,k,x)::t else e::upM t k x
def deM [DecidableEq κ]:En κ α->κ->En κ α
 |[],_=>[]
 |e::t,k=>if e.2.1=k then t else e::deM t k
def Gd (agg:Bool) (vs:List Value):Value:=match agg with|true=> .agg vs.toArray|false=>vs.headD default
def VO (φ:Ph) (agg:Bool) (cs:List S) (v:Value):Prop:=∃ vs,v=Gd agg vs/\All2 (Sr φ) cs vs
def EntsR (φ:Ph) (K:KD κ) (agg:Bool) (c:α->List S):En κ α->List MapEntry->Prop
 |[],[]=>True
 |e::E,m::M=>(m.key=K.v e.2.1/\m.born=e.1/\VO φ agg (c e.2.2) m.val)/\EntsR φ K agg c E M
 |_,_=>False
variable {φ:Ph} {K:KD κ} {agg:Bool} {c:α->List S}
theorem rB {w:Nat} (hw:∀ a,(c a).length=w):∀ {E:En κ α} {xs:List Value},All2 (Sr φ) (E.flatMap fun e=>K.s e.2.1::c e.2.2) xs->EntsR φ K agg c E (tq agg w (E.map (·.1)) xs)
 |[],[],_=>trivial
 |[],_::_,h=>h.elim
 |e::E,[],h=>h.elim
 |e::E,x::xs,h=>by
  have h:Sr φ (K.s e.2.1) x/\All2 (Sr φ) (c e.2.2++E.flatMap fun e=>K.s e.2.1::c e.2.2) xs:=h;have h1:=All2.take w h.2;have h2:=All2.drop w h.2;rw[List.take_append_of_le_length (by rw[hw];exact Nat.le_refl _),List.take_of_length_le (by rw[hw];exact Nat.le_refl _)] at h1;rw[List.drop_append_of_le_length (by rw[hw];exact Nat.le_refl _),List.drop_eq_nil_of_le (by rw[hw];exact Nat.le_refl _),List.nil_append] at h2;exact⟨⟨(K.sr _ _ _).1 h.1,rfl,_,rfl,h1⟩,rB hw h2⟩
theorem qg {w:Nat} (hw:∀ a,(c a).length=w):∀ {E:En κ α} {M:List MapEntry},EntsR φ K agg c E M->∃ xs,All2 (Sr φ) (E.flatMap fun e=>K.s e.2.1::c e.2.2) xs/\tq agg w (E.map (·.1)) xs=M
 |[],[],_=>⟨[],trivial,rfl⟩
 |[],_::_,h=>h.elim
 |e::E,[],h=>h.elim
 |e::E,m::M,⟨⟨h1,h2,vs,h3,h4⟩,h5⟩=>by
  obtain⟨xs,g1,g2⟩:=qg hw h5;have hl:=h4.len;rw[hw] at hl;refine⟨m.key::(vs++xs),⟨(K.sr _ _ _).2 h1,h4.append g1⟩,?_⟩;show MapEntry.mk m.key _ e.1::tq agg w (E.map (·.1)) ((vs++xs).drop w)=_;rw[List.drop_append_of_le_length (by omega),List.drop_eq_nil_of_le (by omega),List.nil_append,g2,List.take_append_of_le_length (by omega),List.take_of_length_le (by omega)];obtain⟨mk,mv,mb⟩:=m;simp only at h1 h2 h3;subst h2;subst h3;rfl
theorem EntsR.mono {φ':Ph} (hl:φ.le φ'):∀ {E:En κ α} {M:List MapEntry},EntsR φ K agg c E M->EntsR φ' K agg c E M
 |[],[],_=>trivial
 |[],_::_,h=>h.elim
 |_::_,[],h=>h.elim
 |e::E,m::M,⟨⟨h1,h2,vs,h3,h4⟩,h5⟩=>⟨⟨h1,h2,vs,h3,h4.mono fun _ _=>Sr.mono hl⟩,EntsR.mono hl h5⟩
theorem EntsR.find [DecidableEq κ] (k:κ):∀ {E:En κ α} {M:List MapEntry} (i:Nat),EntsR φ K agg c E M->
 (lkM E k=none->Instr.findNow K.d (K.v k) M i=some none)/\
 (∀ x,lkM E k=some x->∃ j m,Instr.findNow K.d (K.v k) M i=some (some (i+j,m.val))/\M[j]? =some m/\m.key=K.v k/\VO φ agg (c x) m.val/\
   (∀ y v,VO φ agg (c y) v->EntsR φ K agg c (upM E k y) (M.modify j fun e=>{e with key:=K.v k,val:=v}))/\EntsR φ K agg c (deM E k) (M.eraseIdx j))
 |[],[],i,_=>⟨fun _=>rfl,fun x h=>by cases h⟩
 |[],_::_,_,h=>h.elim
 |_::_,[],_,h=>h.elim
 |e::E,m::M,i,⟨⟨h1,h2,h3⟩,h5⟩=>by
  obtain⟨ih1,ih2⟩:=EntsR.find (k:=k) (i+1) h5;obtain⟨r,hr,hi⟩:=sameNow_of_keys (K.key k) (K.key e.2.1)
  have hf:Instr.findNow K.d (K.v k) (m::M) i=match r with|true=>some (some (i,m.val))|false=>Instr.findNow K.d (K.v k) M (i+1):=by
   simp only[Instr.findNow,h1,hr]
   cases r<;>rfl
  by_cases hk:e.2.1=k
  ·have hr1:r=true:=hi.2 (by rw[hk])
   subst hr1;refine⟨fun h=>(by rw[lkM,if_pos hk] at h;cases h),fun x hx=>?_⟩;rw[lkM,if_pos hk] at hx;cases hx;refine⟨0,m,hf,rfl,by rw[h1,hk],h3,fun y v hv=>?_,?_⟩
   ·rw[upM,if_pos hk]
    exact⟨⟨rfl,h2,hv⟩,h5⟩
   ·rw[deM,if_pos hk]
    exact h5
  ·have hr1:r=false:=by
    cases r with
    |false=>rfl
    |true=>exact absurd (K.inj _ _ (hi.1 rfl)).symm hk
   subst hr1;refine⟨fun h=>?_,fun x hx=>?_⟩
   ·rw[lkM,if_neg hk] at h
    rw[hf];exact ih1 h
   ·rw[lkM,if_neg hk] at hx
    obtain⟨j,m',g1,g2,g3,g4,g5,g6⟩:=ih2 x hx;refine⟨j+1,m',by rw[hf,show i+(j+1)=i+1+j by omega];exact g1,g2,g3,g4,fun y v hv=>?_,?_⟩
    ·rw[upM,if_neg hk]
     exact⟨⟨h1,h2,h3⟩,g5 y v hv⟩
    ·rw[deM,if_neg hk]
     exact⟨⟨h1,h2,h3⟩,g6⟩
theorem EntsR.push {b:Nat} {k:κ} {y:α} {v:Value} (hv:VO φ agg (c y) v):∀ {E:En κ α} {M:List MapEntry},EntsR φ K agg c E M->EntsR φ K agg c (E++[(b,k,y)]) (M++[{key:=K.v k,val:=v,born:=b}])
 |[],[],_=>⟨⟨rfl,rfl,hv⟩,trivial⟩
 |[],_::_,h=>h.elim
 |_::_,[],h=>h.elim
 |e::E,m::M,⟨h1,h2⟩=>⟨h1,EntsR.push hv h2⟩
theorem EntsR.len:∀ {E:En κ α} {M:List MapEntry},EntsR φ K agg c E M->M.length=E.length
 |[],[],_=>rfl
 |[],_::_,h=>h.elim
 |_::_,[],h=>h.elim
 |e::E,m::M,⟨_,h⟩=>by simp[EntsR.len h]
abbrev fl (φ:Ph):Ph:=⟨fun _=>none,φ.z⟩
theorem ge {w:World} {b:Nat×Nat} {sz ck:Nat} {E:En κ α} {r:Bool} (hw:∀ a,(c a).length=sz) (h:BlAt φ w b {mB K agg sz c E ck with ro:=r}) (hb:b.2=0):∃ M,w.heap[b.1]? =some (.map M.toArray ck)/\EntsR (fl φ) K agg c E M:=by
 obtain⟨pre,xs,rest,fr,h1,h2,h3,h4,h5,h6⟩:=h;rw[hb] at h2;have:=List.eq_nil_of_length_eq_zero h2;subst this;have:=h4 rfl;subst this;refine⟨_,?_,rB hw h3⟩;rw[h1];simp only[mB,bC,List.nil_append,List.append_nil]
theorem rV {w:World} {b:Nat×Nat} {sz ck:Nat} {E:En κ α} {M:List MapEntry} (hw:∀ a,(c a).length=sz) (h:w.heap[b.1]? =some (.map M.toArray ck)) (hM:EntsR (fl φ) K agg c E M) (hb:b.2=0):BlAt φ w b (mB K agg sz c E ck):=by
 obtain⟨xs,h1,h2⟩:=qg hw hM;refine⟨[],xs,[],(0,0),?_,by rw[hb];rfl,h1,fun _=>rfl,fun _ o ho=>by simp,⟨fun g z e=>(by cases e),fun g e=>(by cases e)⟩⟩;rw[h];simp only[mB,bC,List.nil_append,List.append_nil,h2]
def uO:Bool->List S->U
 |true,l=> .agg l
 |false,l=> .s (l.headD .unk)
theorem VO.ur {l:List S} {v:Value} (h:VO φ agg l v) (hl:agg=false->l.length=1):Ur φ (uO agg l) v:=by
 obtain⟨vs,rfl,h⟩:=h
 cases agg with
 |true=>exact⟨vs,rfl,h⟩
 |false=>
  match l,vs,h,hl rfl with
  |[x],[y],h,_=>exact h.1
end
end Ab
end Go.Proofs.YtegjgpldfgjoiaaGreatDoor
