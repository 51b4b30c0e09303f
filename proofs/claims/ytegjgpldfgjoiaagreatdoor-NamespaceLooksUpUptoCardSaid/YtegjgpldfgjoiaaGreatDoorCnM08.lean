import Derived.Test.YtegjgpldfgjoiaaGreatDoorCnM07
set_option linter.all false
namespace Go.Proofs.YtegjgpldfgjoiaaGreatDoor
namespace Ab
open Go
section
variable {P:Program} {n n0':Nat} {M L:Hp} {f:FuncId}
theorem EndOK.plain {fn:Func} {v:V} {env:List V} (h1:fU P fn env M=some (bW (rn (List.range n++[]) 0) v))
 (h2:∀ i bl,lk L i=some bl->lk M (rn (List.range n++[]) 0 i)=some (ed (rn (List.range n++[]) 0) bl)) (h3:fp n v=true) (h4:eV n L=true):EndOK P fn n v n L [] env M:=
 .nodup h1 h2 h3 h4 rfl (by simpa using List.nodup_range)
theorem HS {r:Nat->Nat}:∀ i bl,lk ([]:Hp) i=some bl->lk M (r i)=some (ed r bl):=λ_ _ h=>by simp[lk] at h
def sH (tbl:List Nat) (L0:Hp):Bool:=L0.all λx=>L0.all λy=>Nat.beq x.1 y.1|| !Nat.beq (tbl.getD x.1 0) (tbl.getD y.1 0)||((match x.2 with|some b=>b.ro|none=>true)&&(match y.2 with|some b=>b.ro|none=>true))
def rC (tbl:List Nat) (new n0':Nat):Bool:=tbl.all λx=> !(Nat.ble new x&&Nat.blt x (new+(n0'-tbl.length)))
def FitP (tbl:List Nat) (new:Nat) (M:Hp):Hp->Prop
 |[]=>True
 |(_,none)::t=>FitP tbl new M t
 |(i,some bl0)::t=>(Nat.blt i tbl.length=true/\∃ bl',lk M (tbl.getD i 0)=some bl'/\{ed (rn tbl new) bl0 with ro:=bl'.ro}=bl'/\(bl'.ro=true->bl0.ro=true))/\FitP tbl new M t
theorem FitP.at {tbl:List Nat} {new:Nat} {M:Hp}:∀ {L0:Hp},FitP tbl new M L0->∀ i bl0,(i,some bl0)∈L0->i<tbl.length/\∃ bl',lk M (tbl.getD i 0)=some bl'/\{ed (rn tbl new) bl0 with ro:=bl'.ro}=bl'/\(bl'.ro=true->bl0.ro=true)
 |(j,c)::t,h,i,bl0,hm=>by
  cases hm with
  |head=>exact⟨aU.1 h.1.1,h.1.2⟩
  |tail _ hm=>
   cases c with
   |none=>exact FitP.at (L0:=t) h i bl0 hm
   |some c=>exact FitP.at (L0:=t) h.2 i bl0 hm
theorem Fits.of {tbl:List Nat} {new:Nat} {L0:Hp} (h1:rC tbl new n0'=true) (h2:sH tbl L0=true) (h3:FitP tbl new M L0):Fits tbl new n0' L0 M:=by
 refine⟨λi hi=>?_,λi bl hl=>h3.at i bl (cO hl),λi j bl bl' hi hj e=>?_⟩
 ·have hm:tbl.getD i 0∈tbl:=by rw[Z00,Z01 hi];simp
  have:=Z0i.1 h1 _ hm;simp only[Z0v,Bool.and_eq_false_iff] at this;rintro⟨a,b⟩
  rcases this with h|h
  ·rw[Z3y a] at h;cases h
  ·rw[aU.2 b] at h;cases h
 ·have g1:=Z0i.1 h2 _ (cO hi)
  have g2:=Z0i.1 g1 _ (cO hj);simp only[Z1h,Z0v,Z07] at g2
  rcases g2 with (h|h)|h
  ·exact .inl (Z0q h)
  ·rw[e,Z2n] at h;cases h
  ·exact .inr h
theorem uM:Fits [] n n0' [] M:=⟨λi hi=>by simp at hi,λi bl h=>by simp[lk] at h,λi j bl bl' h=>by simp[lk] at h⟩
end
section
variable {n b:Nat} {env:List V} {P:Program} {L L':Hp} {c:Code}
def oH (ks:List Nat):Hp->Hp
 |[]=>[]
 |(i,b)::t=>match ks.elem i with|true=>(i,b)::oH ks t|false=>oH ks t
theorem lJ (ks:List Nat):∀ L:Hp,vv (oH ks L) L
 |[],i,bl,h=>h
 |(j,b)::t,i,bl,h=>by
  simp only[oH] at h;rw[bd];split at h
  ·rw[bd] at h
   split
   ·rename_i e;rw[if_pos e] at h;exact h
   ·rename_i e;rw[if_neg e] at h;exact lJ ks t i bl h
  ·rename_i hk
   have h':=lJ ks t i bl h;split
   ·rename_i e;subst e
    exfalso
    have:∀ t:Hp,lk (oH ks t) j=none:=by
     intro t
     induction t with
     |nil=>rfl
     |cons x t ih=>
      obtain⟨a,c⟩:=x;simp only[oH];split
      ·rename_i ha
       rw[bd,if_neg (by intro e;subst e;rw[ha] at hk;cases hk)];exact ih
      ·exact ih
    rw[this] at h;cases h
   ·exact h'
theorem Wk.by {env':List V} (keep ks:List Nat) (he:Ek keep 0 env=env') (hl:oH ks L=L') (o1:env'.all (fp n)=true) (o2:eV n L'=true):Wk n env L env' L':=
 Wk.of keep he (hl▸lJ ks L) o1 o2
def MemP (r:Nat->Nat) (M:Hp):Hp->Prop
 |[]=>True
 |(_,none)::t=>MemP r M t
 |(i,some bl)::t=>lk M (r i)=some (ed r bl)/\MemP r M t
theorem MemP.at {r:Nat->Nat} {M:Hp}:∀ {L:Hp},MemP r M L->∀ i bl,(i,some bl)∈L->lk M (r i)=some (ed r bl)
 |(j,c)::t,h,i,bl,hm=>by
  cases hm with
  |head=>exact h.1
  |tail _ hm=>
   cases c with
   |none=>exact MemP.at (L:=t) h i bl hm
   |some c=>exact MemP.at (L:=t) h.2 i bl hm
theorem EndOK.by {fn:Func} {v:V} {n':Nat} {new:List Nat} {M:Hp} (h1:fU P fn env M=some (bW (rn (List.range n++new) 0) v))
 (h2:MemP (rn (List.range n++new) 0) M L') (h3:fp n' v=true) (h4:eV n' L'=true) (h5:n'=n+new.length) (h6:ce (List.range n++new)=true):EndOK P fn n v n' L' new env M:=by
 refine .nodup h1 (λi bl h=>h2.at i bl (cO h)) h3 h4 h5 ?_
 have:∀ l:List Nat,ce l=true->l.Nodup:=by
  intro l
  induction l with
  |nil=>intro _;exact .nil
  |cons x t ih=>
   intro h;simp only[ce,Z07,Z0v] at h;refine Z4r.2 ⟨λhm=>?_,ih h.2⟩;rw[Z4q hm] at h;cases h.1
 exact this _ h6
def H0 (r:Nat->Nat) (L':Hp):Bool:=L'.all λx=>L'.all λy=>match x.2,y.2 with|some _,some _=>Nat.beq x.1 y.1|| !Nat.beq (r x.1) (r y.1)|_,_=>true
def mvB (n:Nat) (r:Nat->Nat) (L':Hp):Bool:=L'.all λx=>match x.2 with|some bl=>Nat.blt x.1 n|| !Nat.blt (r x.1) n|| !bl.ro|none=>true
theorem EndOK.move {fn:Func} {v:V} {n':Nat} {new:List Nat} {M:Hp} (h1:fU P fn env M=some (bW (rn (List.range n++new) 0) v))
 (h2:MemP (rn (List.range n++new) 0) M L') (h3:fp n' v=true) (h4:eV n' L'=true) (h5:n'=n+new.length) (h6:H0 (rn (List.range n++new) 0) L'=true) (h7:mvB n (rn (List.range n++new) 0) L'=true):EndOK P fn n v n' L' new env M:=by
 refine⟨h1,λi bl h=>h2.at i bl (cO h),h3,h4,h5,λi j bl bl' hi hj e=>?_,λj bl hj hjn hlt=>?_⟩
 ·have g:=Z0i.1 (Z0i.1 h6 _ (cO hi)) _ (cO hj)
  simp only[Z1h,Z0v] at g
  rcases g with g|g
  ·exact Z0q g
  ·rw[e,Z2n] at g;cases g
 ·have g:=Z0i.1 h7 _ (cO hj)
  simp only[Z1h,Z0v] at g
  rcases g with (g|g)|g
  ·have:=aU.1 g;omega
  ·rw[aU.2 hlt] at g;cases g
  ·exact g
end
structure LikeB (a b:Bl):Prop where
 ro:a.ro=b.ro
 cells:a.cells=b.cells
 ty:a.ty=b.ty
 more:b.more=a.more\/b.more=true
 flat:a.flat=b.flat\/a.cells.all bM=true
 gh:∀ g z,b.gh=some (g,z)->a.gh=some (g,z)
 kind:a.kind=b.kind
 abs:∀ g,b.abs=some g->a.abs=some g
theorem pe {φ ψ:Ph} (hz:∀ b l,φ.z b=some l->ψ.z b=some l):∀ {l:List S} {xs:List Value},All2 (Sr φ) l xs->l.all bM=true->All2 (Sr ψ) l xs
 |[],[],_,_=>trivial
 |_::_,_::_,h,ok=>by
  simp only[Z1b,Z07] at ok;exact⟨xV hz ok.1 h.1,pe hz h.2 ok.2⟩
 |[],_::_,h,_=>h.elim
 |_::_,[],h,_=>h.elim
theorem LikeB.at {φ:Ph} {w:World} {x:Nat×Nat} {a b:Bl} (h:LikeB a b) (hat:BlAt φ w x a):BlAt φ w x b:=by
 obtain⟨pre,xs,rest,fr,h1,hp,h2,h3,h4,h5⟩:=hat;refine⟨pre,xs,rest,fr,by rw[<-h.kind,<-h.ty];exact h1,hp,?_,λe=>?_,λe=>h4 (h.ro.trans e),⟨λg z e=>h5.1 g z (h.gh g z e),λg e=>h5.2 g (h.abs g e)⟩⟩
 ·rcases h.flat with e|e
  ·have:b.ph φ=a.ph φ:=by unfold Bl.ph;rw[e]
   rw[this,<-h.cells];exact h2
  ·rw[<-h.cells];exact pe (λx l hx=>by rw[Bl.ph_z] at hx |-;exact hx) h2 e
 ·rcases h.more with e'|e'
  ·exact h3 (e'▸e)
  ·rw[e'] at e;cases e
section
variable {b n:Nat} {env:List V} {L:Hp} {P:Program} {c:Code}
def idB (b:Nat) (tbl:List Nat) (L':Hp):Bool:=
 (List.range b).all (λi=>Nat.beq (tbl.getD i 0) i)&&L'.all λx=>match x.2 with|some bl=>Nat.beq (tbl.getD x.1 0) x.1|| !bl.ro|none=>true
theorem To.ren {env':List V} {L':Hp} (keep tbl:List Nat) (he:Ek keep 0 env=env'.map (bW (rn tbl 0))) (hl:MemP (rn tbl 0) L L') (o1:env'.all (fp tbl.length)=true) (o2:eV tbl.length L'=true) (hn:H0 (rn tbl 0) L'=true) (hid:idB b tbl L'=true) (hb:b<=tbl.length):
 To b tbl.length env L env' L':=by
 intro φ₀ φ L₀ w₀ w a h1 h2 h3;simp only[idB,Z07] at hid
 let r:=rn tbl 0
 have hro:∀ i,i<tbl.length->r i=tbl.getD i 0:=λi hi=>eH hi
 have hinj:∀ i j bl bl',lk L' i=some bl->lk L' j=some bl'->r i=r j->i=j:=by
  intro i j bl bl' hi hj e;have g:=Z0i.1 (Z0i.1 hn _ (cO hi)) _ (cO hj);simp only[Z1h,Z0v] at g
  rcases g with g|g
  ·exact Z0q g
  ·have e':rn tbl 0 i=rn tbl 0 j:=e
   rw[e',Z2n] at g;cases g
 refine⟨aF tbl.length (φ.ren r),⟨h1.1,?_⟩,⟨λi bl hi=>?_,λi j bl bl' c c' hi hj hc hc' hcc=>?_,λx l hx=>⟨(h2.fz x l hx).1,?_⟩,h2.gz⟩,λi hi=>by simp[aF];omega,⟨h3.os,h3.tape,h3.output,h3.size,h3.keep,λj bl c hj hc hlt=>?_,h3.zle,h3.zfr⟩,λi hi=>?_⟩
 rotate_left 3
 ·rintro⟨i,bl,c,hi,hc,hcb,hro⟩
  have hi':=(cN o2 hi).1;simp only[aF,if_pos hi'] at hc;exact (h2.fz x l hx).2 ⟨_,_,c,hl.at i bl (cO hi),hc,hcb,by rw[cM];exact hro⟩
 rotate_left 2
 ·refine jo ?_ o1
  have:=AF (keep:=keep) (i:=0) h1.2;rw[he] at this
  have key:∀ (l:List V) (xs:List Value),All2 (Vr φ) (l.map (bW r)) xs->All2 (Vr (φ.ren r)) l xs:=by
   intro l
   induction l with
   |nil=>intro xs hl;cases xs<;>first|trivial|exact hl.elim
   |cons y t ih=>intro xs hl;cases xs with
    |nil=>exact hl.elim
    |cons x xs=>exact⟨sR.1 hl.1,ih xs hl.2⟩
  exact key _ _ this
 ·obtain⟨c,hc,hat⟩:=h2.hr _ _ (hl.at i bl (cO hi))
  obtain⟨hlt,hok⟩:=cN o2 hi;exact⟨c,by simp only[aF,if_pos hlt];exact hc,(lh.1 hat).cut hok⟩
 ·have hi':=(cN o2 hi).1
  have hj':=(cN o2 hj).1;simp only[aF,if_pos hi'] at hc;simp only[aF,if_pos hj'] at hc'
  rcases h2.inj _ _ _ _ c c' (hl.at i bl (cO hi)) (hl.at j bl' (cO hj)) hc hc' hcc with e|e
  ·exact .inl (hinj i j bl bl' hi hj e)
  ·rw[cM,cM] at e;exact .inr e
 ·have hj':=(cN o2 hj).1
  simp only[aF,if_pos hj'] at hc;obtain⟨k,bk,d,hk,hpk,hdd,hr,ho⟩:=h3.fresh _ _ c (hl.at j bl (cO hj)) hc hlt;rw[cM] at hr;refine⟨k,bk,d,hk,hpk,hdd,hr,?_⟩
  rcases ho with ho|ho
  ·have:=Z0i.1 hid.2 _ (cO hj)
   simp only[Z1h,Z0v] at this
   rcases this with e|e
   ·refine .inl ?_
    have e:=Z0q e;rw[ho];show r j=j;rw[hro j hj',e]
   ·refine .inr ?_
    cases hb:bk.ro with
    |false=>rfl
    |true=>rw[hr hb] at e;cases e
  ·exact .inr ho
 ·have hit:i<tbl.length:=aa
  have:=Z0i.1 hid.1 i (by simpa using hi);have:=Z0q this;simp only[aF,if_pos hit,hro i hit,this]
theorem Ex.loopT {R:Post} (I:Nat->List V->Hp->Prop) (hb:b<=n)
 (step:∀ k env L,I (k+1) env L->Ex P b c env n L λx e m M=>(x=.normal/\∃ e' M',To b n e M e' M'/\I k e' M')\/(x≠.normal/\R x e m M))
 (last:∀ env L,I 0 env L->Ex P b c env n L λx e m M=>x≠.normal/\R x e m M):
 ∀ k env L,I k env L->Ex P b (.loop c) env n L R:=by
 intro k env L hI φ a w h1 h2 h3 h4;refine wp_loop_rounds (k+1) ?_
 have key:∀ k env L φ₁ a₁ w₁,I k env L->EnvR φ₁ env a₁->Good φ₁ L w₁->(∀ i,n<=i->φ₁ i=none)->∀ (φ₀:Ph) (L₀:Hp) (w₀:World),Stp φ₀ L₀ w₀ φ₁ L w₁->(∀ i,i<b->φ₁ i=φ₀ i)->
  Code.rounds P c (λx a' w'=>∃ φ' env' n' L',R x env' n' L'/\EnvR φ' env' a'/\Good φ' L' w'/\(∀ i,n'<=i->φ' i=none)/\b<=n'/\Stp φ₀ L₀ w₀ φ' L' w'/\(∀ i,i<b->φ' i=φ₀ i)) (k+1) a₁ w₁:=by
  intro k
  induction k with
  |zero=>
   intro env L φ₁ a₁ w₁ hI h1 h2 h3 φ₀ L₀ w₀ h5 h6;rw[rounds_succ];refine wp_mono (last env L hI φ₁ a₁ w₁ h1 h2 h3 hb) ?_;rintro x a' w' ⟨φ',e,m,M,⟨hx,hR⟩,k1,k2,k3,k4,k5,k6⟩
   cases x with
   |normal=>exact absurd rfl hx
   |_=>exact⟨φ',e,m,M,hR,k1,k2,k3,k4,h5.trans k5,λi hi=>(k6 i hi).trans (h6 i hi)⟩
  |succ k ih=>
   intro env L φ₁ a₁ w₁ hI h1 h2 h3 φ₀ L₀ w₀ h5 h6;rw[rounds_succ];refine wp_mono (step k env L hI φ₁ a₁ w₁ h1 h2 h3 hb) ?_;rintro x a' w' ⟨φ',e,m,M,hcase,k1,k2,k3,k4,k5,k6⟩
   rcases hcase with ⟨rfl,e',M',hwk,hI'⟩|⟨hx,hR⟩
   ·simp only[Exit.then]
    obtain⟨φ2,g1,g2,g3,g4,g5⟩:=hwk φ₀ φ' L₀ w₀ w' a' k1 k2 (h5.trans k5);exact ih e' M' _ a' w' hI' g1 g2 g3 φ₀ L₀ w₀ g4 (λi hi=>(g5 i hi).trans ((k6 i hi).trans (h6 i hi)))
   ·cases x with
    |normal=>exact absurd rfl hx
    |_=>exact⟨φ',e,m,M,hR,k1,k2,k3,k4,h5.trans k5,λi hi=>(k6 i hi).trans (h6 i hi)⟩
 exact key k env L φ a w hI h1 h2 h3 φ L w (Stp.refl _ _ _) (λ_ _=>rfl)
def mL (b:Nat) (tbl:List Nat) (e:List V) (H:Hp):Bool:=e.all (fp tbl.length)&&eV tbl.length H&&H0 (rn tbl 0) H&&idB b tbl H&&Nat.ble b tbl.length
theorem To.by {env':List V} {L':Hp} (keep tbl:List Nat) (hn:tbl.length=n) (he:Ek keep 0 env=env'.map (bW (rn tbl 0))) (hl:MemP (rn tbl 0) L L') (ok:mL b tbl env' L'=true):To b n env L env' L':=by
 subst hn;simp only[mL,Z07] at ok;exact To.ren keep tbl he hl ok.1.1.1.1 ok.1.1.1.2 ok.1.1.2 ok.1.2 (Z1y ok.2)
end
end Ab
end Go.Proofs.YtegjgpldfgjoiaaGreatDoor
