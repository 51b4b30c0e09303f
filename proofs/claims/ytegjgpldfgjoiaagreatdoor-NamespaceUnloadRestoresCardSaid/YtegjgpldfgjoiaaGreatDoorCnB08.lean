import Derived.Test.YtegjgpldfgjoiaaGreatDoorCnB07
set_option linter.unusedSimpArgs false
set_option linter.unusedVariables false
namespace Go.Proofs.YtegjgpldfgjoiaaGreatDoor
namespace Ab
open Go
theorem EndOK.plain {P:Program} {fn:Func} {n:Nat} {v:V} {L:Hp} {env:List V} {M:Hp} (h1:eJ P fn env M=some (bv (rn (List.range n++[]) 0) v))
 (h2:∀ i bl,lk L i=some bl->lk M (rn (List.range n++[]) 0 i)=some (cE (rn (List.range n++[]) 0) bl)) (h3:okV n v=true) (h4:okH n L=true):EndOK P fn n v n L [] env M:=
 .nodup h1 h2 h3 h4 rfl (by simpa using List.nodup_range)
theorem E9 {M:Hp} {r:Nat->Nat}:∀ i bl,lk ([]:Hp) i=some bl->lk M (r i)=some (cE r bl):=fun _ _ h=>by simp[lk] at h
def xc (tbl:List Nat) (L0:Hp):Bool:=L0.all fun x=>L0.all fun y=>Nat.beq x.1 y.1|| !Nat.beq (tbl.getD x.1 0) (tbl.getD y.1 0)||((match x.2 with|some b=>b.ro|none=>true)&&(match y.2 with|some b=>b.ro|none=>true))
def vV (tbl:List Nat) (new n0':Nat):Bool:=tbl.all fun x=> !(Nat.ble new x&&Nat.blt x (new+(n0'-tbl.length)))
def FitP (tbl:List Nat) (new:Nat) (M:Hp):Hp->Prop
 |[]=>True
 |(_,none)::t=>FitP tbl new M t
 |(i,some bl0)::t=>(Nat.blt i tbl.length=true/\∃ bl',lk M (tbl.getD i 0)=some bl'/\{cE (rn tbl new) bl0 with ro:=bl'.ro}=bl'/\(bl'.ro=true->bl0.ro=true))/\FitP tbl new M t
theorem FitP.at {tbl:List Nat} {new:Nat} {M:Hp}:∀ {L0:Hp},FitP tbl new M L0->∀ i bl0,(i,some bl0)∈L0->i<tbl.length/\∃ bl',lk M (tbl.getD i 0)=some bl'/\{cE (rn tbl new) bl0 with ro:=bl'.ro}=bl'/\(bl'.ro=true->bl0.ro=true)
 |(j,c)::t,h,i,bl0,hm=>by
  cases hm with
  |head=>exact⟨al.1 h.1.1,h.1.2⟩
  |tail _ hm=>
   cases c with
   |none=>exact FitP.at (L0:=t) h i bl0 hm
   |some c=>exact FitP.at (L0:=t) h.2 i bl0 hm
theorem Fits.of {tbl:List Nat} {new n0':Nat} {L0 M:Hp} (h1:vV tbl new n0'=true) (h2:xc tbl L0=true) (h3:FitP tbl new M L0):Fits tbl new n0' L0 M:=by
 refine⟨fun i hi=>?_,fun i bl hl=>h3.at i bl (bM hl),fun i j bl bl' hi hj e=>?_⟩
 ·have hm:tbl.getD i 0∈tbl:=by rw[List.getD_eq_getElem?_getD,List.getElem?_eq_getElem hi];simp
  have:=List.all_eq_true.1 h1 _ hm;simp only[Bool.not_eq_true',Bool.and_eq_false_iff] at this;rintro⟨a,b⟩
  rcases this with h|h
  ·rw[Nat.ble_eq_true_of_le a] at h;cases h
  ·rw[al.2 b] at h;cases h
 ·have g1:=List.all_eq_true.1 h2 _ (bM hi)
  have g2:=List.all_eq_true.1 g1 _ (bM hj);simp only[Bool.or_eq_true,Bool.not_eq_true',Bool.and_eq_true] at g2
  rcases g2 with (h|h)|h
  ·exact .inl (Nat.eq_of_beq_eq_true h)
  ·rw[e,Nat.beq_refl] at h;cases h
  ·exact .inr h
theorem rp {n n0':Nat} {M:Hp}:Fits [] n n0' [] M:=⟨fun i hi=>by simp at hi,fun i bl h=>by simp[lk] at h,fun i j bl bl' h=>by simp[lk] at h⟩
def lJ (ks:List Nat):Hp->Hp
 |[]=>[]
 |(i,b)::t=>match ks.elem i with|true=>(i,b)::lJ ks t|false=>lJ ks t
theorem jz (ks:List Nat):∀ L:Hp,Sub (lJ ks L) L
 |[],i,bl,h=>h
 |(j,b)::t,i,bl,h=>by
  simp only[lJ] at h;rw[ak];split at h
  ·rw[ak] at h
   split
   ·rename_i e;rw[if_pos e] at h;exact h
   ·rename_i e;rw[if_neg e] at h;exact jz ks t i bl h
  ·rename_i hk
   have h':=jz ks t i bl h;split
   ·rename_i e;subst e
    exfalso
    have:∀ t:Hp,lk (lJ ks t) j=none:=by
     intro t
     induction t with
     |nil=>rfl
     |cons x t ih=>
      obtain⟨a,c⟩:=x;simp only[lJ];split
      ·rename_i ha
       rw[ak,if_neg (by intro e;subst e;rw[ha] at hk;cases hk)];exact ih
      ·exact ih
    rw[this] at h;cases h
   ·exact h'
theorem Wk.by {n:Nat} {env:List V} {L:Hp} {env':List V} {L':Hp} (keep ks:List Nat) (he:wkE keep 0 env=env') (hl:lJ ks L=L') (o1:env'.all (okV n)=true) (o2:okH n L'=true):Wk n env L env' L':=
 Wk.of keep he (hl▸jz ks L) o1 o2
def MemP (r:Nat->Nat) (M:Hp):Hp->Prop
 |[]=>True
 |(_,none)::t=>MemP r M t
 |(i,some bl)::t=>lk M (r i)=some (cE r bl)/\MemP r M t
theorem MemP.at {r:Nat->Nat} {M:Hp}:∀ {L:Hp},MemP r M L->∀ i bl,(i,some bl)∈L->lk M (r i)=some (cE r bl)
 |(j,c)::t,h,i,bl,hm=>by
  cases hm with
  |head=>exact h.1
  |tail _ hm=>
   cases c with
   |none=>exact MemP.at (L:=t) h i bl hm
   |some c=>exact MemP.at (L:=t) h.2 i bl hm
theorem EndOK.by {P:Program} {fn:Func} {n:Nat} {v:V} {n':Nat} {L':Hp} {new:List Nat} {env:List V} {M:Hp} (h1:eJ P fn env M=some (bv (rn (List.range n++new) 0) v))
 (h2:MemP (rn (List.range n++new) 0) M L') (h3:okV n' v=true) (h4:okH n' L'=true) (h5:n'=n+new.length) (h6:bY (List.range n++new)=true):EndOK P fn n v n' L' new env M:=by
 refine .nodup h1 (fun i bl h=>h2.at i bl (bM h)) h3 h4 h5 ?_
 have:∀ l:List Nat,bY l=true->l.Nodup:=by
  intro l
  induction l with
  |nil=>intro _;exact .nil
  |cons x t ih=>
   intro h;simp only[bY,Bool.and_eq_true,Bool.not_eq_true'] at h;refine List.nodup_cons.2 ⟨fun hm=>?_,ih h.2⟩;rw[List.elem_eq_true_of_mem hm] at h;cases h.1
 exact this _ h6
def Fp (r:Nat->Nat) (L':Hp):Bool:=L'.all fun x=>L'.all fun y=>match x.2,y.2 with|some _,some _=>Nat.beq x.1 y.1|| !Nat.beq (r x.1) (r y.1)|_,_=>true
def mvB (n:Nat) (r:Nat->Nat) (L':Hp):Bool:=L'.all fun x=>match x.2 with|some bl=>Nat.blt x.1 n|| !Nat.blt (r x.1) n|| !bl.ro|none=>true
theorem EndOK.move {P:Program} {fn:Func} {n:Nat} {v:V} {n':Nat} {L':Hp} {new:List Nat} {env:List V} {M:Hp} (h1:eJ P fn env M=some (bv (rn (List.range n++new) 0) v))
 (h2:MemP (rn (List.range n++new) 0) M L') (h3:okV n' v=true) (h4:okH n' L'=true) (h5:n'=n+new.length) (h6:Fp (rn (List.range n++new) 0) L'=true) (h7:mvB n (rn (List.range n++new) 0) L'=true):EndOK P fn n v n' L' new env M:=by
 refine⟨h1,fun i bl h=>h2.at i bl (bM h),h3,h4,h5,fun i j bl bl' hi hj e=>?_,fun j bl hj hjn hlt=>?_⟩
 ·have g:=List.all_eq_true.1 (List.all_eq_true.1 h6 _ (bM hi)) _ (bM hj)
  simp only[Bool.or_eq_true,Bool.not_eq_true'] at g
  rcases g with g|g
  ·exact Nat.eq_of_beq_eq_true g
  ·rw[e,Nat.beq_refl] at g;cases g
 ·have g:=List.all_eq_true.1 h7 _ (bM hj)
  simp only[Bool.or_eq_true,Bool.not_eq_true'] at g
  rcases g with (g|g)|g
  ·have:=al.1 g;omega
  ·rw[al.2 hlt] at g;cases g
  ·exact g
structure LikeB (a b:Bl):Prop where
 ro:a.ro=b.ro
 cells:a.cells=b.cells
 ty:a.ty=b.ty
 more:b.more=a.more\/b.more=true
 flat:a.flat=b.flat\/a.cells.all bD=true
 gh:∀ g z,b.gh=some (g,z)->a.gh=some (g,z)
 kind:a.kind=b.kind
 abs:∀ g,b.abs=some g->a.abs=some g
theorem mh {φ ψ:Ph} (hz:∀ b l,φ.z b=some l->ψ.z b=some l):∀ {l:List S} {xs:List Value},All2 (Sr φ) l xs->l.all bD=true->All2 (Sr ψ) l xs
 |[],[],_,_=>trivial
 |_::_,_::_,h,ok=>by
  simp only[List.all_cons,Bool.and_eq_true] at ok;exact⟨uy hz ok.1 h.1,mh hz h.2 ok.2⟩
 |[],_::_,h,_=>h.elim
 |_::_,[],h,_=>h.elim
theorem LikeB.at {φ:Ph} {w:World} {x:Nat×Nat} {a b:Bl} (h:LikeB a b) (hat:BlAt φ w x a):BlAt φ w x b:=by
 obtain⟨pre,xs,rest,fr,h1,hp,h2,h3,h4,h5⟩:=hat;refine⟨pre,xs,rest,fr,by rw[<-h.kind,<-h.ty];exact h1,hp,?_,fun e=>?_,fun e=>h4 (h.ro.trans e),⟨fun g z e=>h5.1 g z (h.gh g z e),fun g e=>h5.2 g (h.abs g e)⟩⟩
 ·rcases h.flat with e|e
  ·have:b.ph φ=a.ph φ:=by unfold Bl.ph;rw[e]
   rw[this,<-h.cells];exact h2
  ·rw[<-h.cells];exact mh (fun x l hx=>by rw[Bl.ph_z] at hx |-;exact hx) h2 e
 ·rcases h.more with e'|e'
  ·exact h3 (e'▸e)
  ·rw[e'] at e;cases e
def idB (b:Nat) (tbl:List Nat) (L':Hp):Bool:=
 (List.range b).all (fun i=>Nat.beq (tbl.getD i 0) i)&&L'.all fun x=>match x.2 with|some bl=>Nat.beq (tbl.getD x.1 0) x.1|| !bl.ro|none=>true
theorem To.ren {b:Nat} {env:List V} {L:Hp} {env':List V} {L':Hp} (keep tbl:List Nat) (he:wkE keep 0 env=env'.map (bv (rn tbl 0))) (hl:MemP (rn tbl 0) L L') (o1:env'.all (okV tbl.length)=true) (o2:okH tbl.length L'=true) (hn:Fp (rn tbl 0) L'=true) (hid:idB b tbl L'=true) (hb:b<=tbl.length):
 To b tbl.length env L env' L':=by
 intro φ₀ φ L₀ w₀ w a h1 h2 h3;simp only[idB,Bool.and_eq_true] at hid
 let r:=rn tbl 0
 have hro:∀ i,i<tbl.length->r i=tbl.getD i 0:=fun i hi=>dq hi
 have hinj:∀ i j bl bl',lk L' i=some bl->lk L' j=some bl'->r i=r j->i=j:=by
  intro i j bl bl' hi hj e;have g:=List.all_eq_true.1 (List.all_eq_true.1 hn _ (bM hi)) _ (bM hj);simp only[Bool.or_eq_true,Bool.not_eq_true'] at g
  rcases g with g|g
  ·exact Nat.eq_of_beq_eq_true g
  ·have e':rn tbl 0 i=rn tbl 0 j:=e
   rw[e',Nat.beq_refl] at g;cases g
 refine⟨aj tbl.length (φ.ren r),⟨h1.1,?_⟩,⟨fun i bl hi=>?_,fun i j bl bl' c c' hi hj hc hc' hcc=>?_,fun x l hx=>⟨(h2.fz x l hx).1,?_⟩,h2.gz⟩,fun i hi=>by simp[aj];omega,⟨h3.os,h3.tape,h3.output,h3.size,h3.keep,fun j bl c hj hc hlt=>?_,h3.zle,h3.zfr⟩,fun i hi=>?_⟩
 rotate_left 3
 ·rintro⟨i,bl,c,hi,hc,hcb,hro⟩
  have hi':=(bL o2 hi).1;simp only[aj,if_pos hi'] at hc;exact (h2.fz x l hx).2 ⟨_,_,c,hl.at i bl (bM hi),hc,hcb,by rw[be];exact hro⟩
 rotate_left 2
 ·refine fb ?_ o1
  have:=xr (keep:=keep) (i:=0) h1.2;rw[he] at this
  have key:∀ (l:List V) (xs:List Value),All2 (Vr φ) (l.map (bv r)) xs->All2 (Vr (φ.ren r)) l xs:=by
   intro l
   induction l with
   |nil=>intro xs hl;cases xs<;>first|trivial|exact hl.elim
   |cons y t ih=>intro xs hl;cases xs with
    |nil=>exact hl.elim
    |cons x xs=>exact⟨mw.1 hl.1,ih xs hl.2⟩
  exact key _ _ this
 ·obtain⟨c,hc,hat⟩:=h2.hr _ _ (hl.at i bl (bM hi))
  obtain⟨hlt,hok⟩:=bL o2 hi;exact⟨c,by simp only[aj,if_pos hlt];exact hc,(gG.1 hat).cut hok⟩
 ·have hi':=(bL o2 hi).1
  have hj':=(bL o2 hj).1;simp only[aj,if_pos hi'] at hc;simp only[aj,if_pos hj'] at hc'
  rcases h2.inj _ _ _ _ c c' (hl.at i bl (bM hi)) (hl.at j bl' (bM hj)) hc hc' hcc with e|e
  ·exact .inl (hinj i j bl bl' hi hj e)
  ·rw[be,be] at e;exact .inr e
 ·have hj':=(bL o2 hj).1
  simp only[aj,if_pos hj'] at hc;obtain⟨k,bk,d,hk,hpk,hdd,hr,ho⟩:=h3.fresh _ _ c (hl.at j bl (bM hj)) hc hlt;rw[be] at hr;refine⟨k,bk,d,hk,hpk,hdd,hr,?_⟩
  rcases ho with ho|ho
  ·have:=List.all_eq_true.1 hid.2 _ (bM hj)
   simp only[Bool.or_eq_true,Bool.not_eq_true'] at this
   rcases this with e|e
   ·refine .inl ?_
    have e:=Nat.eq_of_beq_eq_true e;rw[ho];show r j=j;rw[hro j hj',e]
   ·refine .inr ?_
    cases hb:bk.ro with
    |false=>rfl
    |true=>rw[hr hb] at e;cases e
  ·exact .inr ho
 ·have hit:i<tbl.length:=by omega
  have:=List.all_eq_true.1 hid.1 i (by simpa using hi);have:=Nat.eq_of_beq_eq_true this;simp only[aj,if_pos hit,hro i hit,this]
theorem Ex.loopT {P:Program} {b:Nat} {c:Code} {n:Nat} {R:Post} (I:Nat->List V->Hp->Prop) (hb:b<=n)
 (step:∀ k env L,I (k+1) env L->Ex P b c env n L fun x e m M=>(x=.normal/\∃ e' M',To b n e M e' M'/\I k e' M')\/(x≠.normal/\R x e m M))
 (last:∀ env L,I 0 env L->Ex P b c env n L fun x e m M=>x≠.normal/\R x e m M):
 ∀ k env L,I k env L->Ex P b (.loop c) env n L R:=by
 intro k env L hI φ a w h1 h2 h3 h4;refine wp_loop_rounds (k+1) ?_
 have key:∀ k env L φ₁ a₁ w₁,I k env L->EnvR φ₁ env a₁->Good φ₁ L w₁->(∀ i,n<=i->φ₁ i=none)->∀ (φ₀:Ph) (L₀:Hp) (w₀:World),Stp φ₀ L₀ w₀ φ₁ L w₁->(∀ i,i<b->φ₁ i=φ₀ i)->
  Code.rounds P c (fun x a' w'=>∃ φ' env' n' L',R x env' n' L'/\EnvR φ' env' a'/\Good φ' L' w'/\(∀ i,n'<=i->φ' i=none)/\b<=n'/\Stp φ₀ L₀ w₀ φ' L' w'/\(∀ i,i<b->φ' i=φ₀ i)) (k+1) a₁ w₁:=by
  intro k
  induction k with
  |zero=>
   intro env L φ₁ a₁ w₁ hI h1 h2 h3 φ₀ L₀ w₀ h5 h6;rw[rounds_succ];refine wp_mono (last env L hI φ₁ a₁ w₁ h1 h2 h3 hb) ?_;rintro x a' w' ⟨φ',e,m,M,⟨hx,hR⟩,k1,k2,k3,k4,k5,k6⟩
   cases x with
   |normal=>exact absurd rfl hx
   |_=>exact⟨φ',e,m,M,hR,k1,k2,k3,k4,h5.trans k5,fun i hi=>(k6 i hi).trans (h6 i hi)⟩
  |succ k ih=>
   intro env L φ₁ a₁ w₁ hI h1 h2 h3 φ₀ L₀ w₀ h5 h6;rw[rounds_succ];refine wp_mono (step k env L hI φ₁ a₁ w₁ h1 h2 h3 hb) ?_;rintro x a' w' ⟨φ',e,m,M,hcase,k1,k2,k3,k4,k5,k6⟩
   rcases hcase with ⟨rfl,e',M',hwk,hI'⟩|⟨hx,hR⟩
   ·simp only[Exit.then]
    obtain⟨φ2,g1,g2,g3,g4,g5⟩:=hwk φ₀ φ' L₀ w₀ w' a' k1 k2 (h5.trans k5);exact ih e' M' _ a' w' hI' g1 g2 g3 φ₀ L₀ w₀ g4 (fun i hi=>(g5 i hi).trans ((k6 i hi).trans (h6 i hi)))
   ·cases x with
    |normal=>exact absurd rfl hx
    |_=>exact⟨φ',e,m,M,hR,k1,k2,k3,k4,h5.trans k5,fun i hi=>(k6 i hi).trans (h6 i hi)⟩
 exact key k env L φ a w hI h1 h2 h3 φ L w (Stp.refl _ _ _) (fun _ _=>rfl)
def oz (b:Nat) (tbl:List Nat) (e:List V) (H:Hp):Bool:=e.all (okV tbl.length)&&okH tbl.length H&&Fp (rn tbl 0) H&&idB b tbl H&&Nat.ble b tbl.length
theorem To.by {b:Nat} {env:List V} {L:Hp} {env':List V} {L':Hp} {n:Nat} (keep tbl:List Nat) (hn:tbl.length=n) (he:wkE keep 0 env=env'.map (bv (rn tbl 0))) (hl:MemP (rn tbl 0) L L') (ok:oz b tbl env' L'=true):To b n env L env' L':=by
 subst hn;simp only[oz,Bool.and_eq_true] at ok;exact To.ren keep tbl he hl ok.1.1.1.1 ok.1.1.1.2 ok.1.1.2 ok.1.2 (Nat.le_of_ble_eq_true ok.2)
theorem oM {L:Hp} {i:Nat} (h:i∉az L):lk L i=none:=by
 induction L with
 |nil=>rfl
 |cons x t ih=>
  obtain⟨j,b⟩:=x;simp only[az,List.map_cons,List.mem_cons,not_or] at h;rw[ak,if_neg (Ne.symm h.1)];exact ih h.2
theorem m7 {φ:Ph} {get:Nat->List S} {sz n:Nat} {v:Value} (h:Sr φ (.frz get sz n) v):∃ a k,v=.slice a n k:=by
 cases h with
 |nil get sz a k=>exact⟨a,k,rfl⟩
 |frz get sz n b o k vs h1 hn val hl hv hx=>exact⟨_,k,rfl⟩
def tO:V->Option Nat
 | .s (.frz _ _ n)=>some n
 | .s (.row _ _ n)=>some n
 |_=>none
theorem xa {φ:Ph} {x:V} {n:Nat} (h:tO x=some n) {u:Value} (hu:Vr φ x u):∃ a k,u=.slice a n k:=by
 unfold tO at h;split at h
 ·cases h;exact m7 hu
 ·cases h
  rcases hu with ⟨rfl,hu⟩|⟨_,b,k,_,_,hu,_⟩
  ·exact⟨_,_,hu⟩
  ·exact⟨_,_,hu⟩
 ·cases h
theorem Ah {φ:Ph} {get:Nat->List S} {sz n k:Nat} {v:Value} (h:Sr φ (.frz get sz n) v) (hk:k<n):∃ b o c,v=.slice (some ⟨b,o,none⟩) n c/\Sr φ (.fpt (get k) 0) (.pointer (some ⟨b,o+k*sz,none⟩)):=by
 cases h with
 |nil get sz a c=>omega
 |frz get sz n b o c vs h1 hn val hl hv hx=>
  exact⟨b,o,c,rfl,b,o+k*sz,vs,h1,rfl,fun i x hi=>⟨val k i,by rw[Nat.add_assoc];exact hv k i x hk hi,hx k i x hk hi⟩⟩
def rm (agg:Bool) (sz:Nat) (cs:List S) (j:Nat):Option V:=
 match agg with
 |true=>match Nat.ble (j+sz) cs.length with|true=>some (.agg ((cs.drop j).take sz))|false=>none
 |false=>match cs[j]? with|some x=>some (.s x)|none=>none
theorem n_ {P:Program} {φ:Ph} {L:Hp} {w:World} (hg:Good φ L w) {cs:List S} {j:Nat} {u:Value} (hu:Sr φ (.fpt cs j) u) {t:TypeId} {ag:Bool} {sz:Nat} (ht:tyS P t=some (ag,sz)) {v:V} (hv:rm ag sz cs j=some v):
 ∃ a,u=.pointer (some a)/\∃ x,(loadVar t a).run P w=.ok x w/\Vr φ v x:=by
 obtain⟨b,o,vs,hz,rfl,hx⟩:=hu;obtain⟨⟨ty,fr,hb⟩,_⟩:=hg.fz b vs hz;refine⟨_,rfl,?_⟩
 have hagg:(isAgg t).run P w=.ok ag w/\(ag=true->(sizeOf t).run P w=.ok sz w):=by
  unfold tyS at ht;simp only[isAgg,sizeOf,typeInfo,underlying,Sem.run_bind,run_program,Result.andThen_ok]
  cases hu:P.underlying t with
  |none=>simp[hu] at ht
  |some d=>
   simp only[hu] at ht |-
   cases hi:P.info? t with
   |none=>rw[hi] at ht;cases d<;>simp at ht
   |some i=>rw[hi] at ht;cases d<;>simp at ht<;>obtain⟨rfl,rfl⟩:=ht<;>simp
 have cell:∀ i x,cs[i]? =some x->∃ y,w.cell? ⟨b,o+i,none⟩=some y/\Sr φ x y:=by
  intro i x hi;obtain⟨y,hy,hp⟩:=hx i x hi;exact⟨y,by simp only[World.cell?,hb,Option.isSome_none,Bool.false_eq_true,if_false,List.getElem?_toArray];exact hy,hp.sr⟩
 unfold rm at hv
 cases ag with
 |true=>
  simp only[] at hv
  cases hle:Nat.ble (j+sz) cs.length with
  |false=>rw[hle] at hv;cases hv
  |true=>
   rw[hle] at hv;simp only[Option.some.injEq] at hv;subst hv;have hle':=Nat.le_of_ble_eq_true hle
   have ex:∀ (l:List S) (k:Nat),(∀ i x,l[i]? =some x->cs[k+i]? =some x)->∃ ys:List Value,All2 (Sr φ) l ys/\∀ i y,ys[i]? =some y->w.cell? ⟨b,o+(k+i),none⟩=some y:=by
    intro l
    induction l with
    |nil=>intro k _;exact⟨[],trivial,fun i y h=>by simp at h⟩
    |cons x t ih=>
     intro k hk;obtain⟨y,hy,hs⟩:=cell k x (by simpa using hk 0 x rfl)
     obtain⟨ys,hys,hc⟩:=ih (k+1) fun i z hi=>by rw[show k+1+i=k+(i+1) by omega];exact hk (i+1) z (by simpa using hi)
     refine⟨y::ys,⟨hs,hys⟩,fun i z hi=>?_⟩
     cases i with
     |zero=>simp at hi;subst hi;exact hy
     |succ i=>rw[show k+(i+1)=k+1+i by omega];exact hc i z (by simpa using hi)
   obtain⟨ys,hys,hc⟩:=ex ((cs.drop j).take sz) j fun i x hi=>by
    simp only[List.getElem?_take,List.getElem?_drop] at hi;split at hi
    ·exact hi
    ·cases hi
   refine⟨.agg ys.toArray,?_,ys,rfl,hys⟩
   have hlen:ys.length=sz:=by rw[hys.len];simp;omega
   have hld:=aK (P:=P) (w:=w) (b:=b) (o:=o+j) ys 0 #[] (by
    intro i v hi
    rw[Nat.zero_add,Nat.add_assoc];exact hc i v hi)
   rw[hlen] at hld;simp only[loadVar,Sem.run_bind,hagg.1,Result.andThen_ok,if_true,hagg.2 rfl,loadCells,hld,Sem.run_pure];simp
 |false=>
  simp only[] at hv
  cases hc:cs[j]? with
  |none=>rw[hc] at hv;cases hv
  |some y=>
   rw[hc] at hv;simp only[Option.some.injEq] at hv;subst hv;obtain⟨x,hxv,hs⟩:=cell j y hc;refine⟨x,?_,hs⟩;simp only[loadVar,Sem.run_bind,hagg.1,Result.andThen_ok,Bool.false_eq_true,if_false,run_load,hxv]
def GY:Option V->Option (List Ans)
 |none=>some []
 |some (.s (.int _ (.ofNat k)))=>some [.idx k]
 |_=>none
def w_:Option V->Nat->Option Nat
 |none,d=>some d
 |some (.s (.int _ (.ofNat k))),_=>some k
 |_,_=>none
def kr (P:Program) (o:Oper) (e:Operand->V) (n:Nat) (L:Hp) (ans:List Ans):Option Out:=
 match o.op with
 | .move x=>lt n (e x) ans True
 | .assign x=>lt n (e x) ans True
 | .pick c a b=>
   match e c with
   | .s (.bool t)=>match t with|true=>lt n (e a) ans True|false=>lt n (e b) ans True
   |_=>none
 | .binOp op t x y _=>f_ n (jg P op t (wkV (e x)) (wkV (e y)) ans)
 | .unOp op _ x=>f_ n (aUn op (e x) ans)
 | .convert src dst x=>
   match P.underlying src,P.underlying dst with
   |some (.slice _),some .string=>ir P n L src dst (wkV (e x)) ans
   |some .string,some (.slice _)=>ek P n src dst (e x) ans
   |_,_=>f_ n (iv P src dst (e x) ans)
 | .makeSlice t l c=>sb P n t (e l) (e c) ans
 | .slice t x lo hi mx=>
   match ans with
   | .win k h cs::as_=>Bv P n L t (e x) (lo.map e) (hi.map e) (mx.map e) k h cs as_
   | .wlz k h::as_=>r_ P n t (e x) (lo.map e) (hi.map e) (mx.map e) k h as_
   |ans=>gE P n t (wkV (e x)) (lo.map fun y=>wkV (e y)) (hi.map fun y=>wkV (e y)) (mx.map fun y=>wkV (e y)) ans
 | .build t parts=>ep P n t (parts.toList.map fun (i,x)=>(i,e x)) ans
 | .buildSlice t len parts=>cb P n t len (parts.toList.map fun (i,x)=>(i,e x)) ans
 | .field t x f=>cU P n t (e x) f ans
 | .extract x i=>match tT (e x) i with|some v=>lt n v ans True|none=>none
 | .load t a=>vC P n L t (e a) ans
 | .store t a x=>
   match ans with
   | .stw cs cells::as_=>kO P n L t (e a) (e x) cs cells as_
   |ans=>dL P n L t (e a) (e x) ans
 | .alloc t=>iw P n t ans
 | .box t x=>tU n t (e x) ans
 | .fieldAddr s x f=>eo P n s (e x) f ans
 | .indexAddr t x ix=>cy P n t (wkV (e x)) (wkV (e ix)) ans
 | .index t x ix=>mp P n t (e x) (e ix) ans
 | .nilCheck x=>mn n (e x) ans
 | .call c=>
   match c.callee with
   | .value (.func f)=>
     match ans with
     | .ext args0 v::as_=>iX v fun v=>some ⟨⟨[],v,[],n⟩,as_,c.args.toList.map e=args0/\XT P f args0 v⟩
     | .callw tbl args0 L0 v0 n0' L0'::as_=>nE P f (c.args.toList.map fun y=>wkV (e y)) n L (.call tbl args0 L0 v0 n0' L0'::as_)
     |ans=>nE P f (c.args.toList.map e) n L ans
   | .builtin b=>ca P b c.argTypes n L (c.args.toList.map e) ans
   |_=>none
 |_=>none
theorem Dz (P:Program) (o:Oper) (env:List V) (n:Nat) (L:Hp) (ans:List Ans):kr P o (ev env) n L ans=aop P o env n L ans:=by
 unfold kr aop iI;rfl
def Bp (P:Program) (o:Oper) (e:Operand->V) (n:Nat) (L:Hp):Option Out:=
 match o.op with
 | .indexAddr t x ix=>
   match e ix with
   | .s (.int _ (.ofNat k))=>
     match e x with
     | .s (.frz get sz m)=>
       match P.underlying t with
       |some (.slice el)=>
        match aF P el with
        |some sz'=>match Nat.beq sz sz' with|true=>frc (get k) [] fun cs=>some ⟨⟨[],.s (.fpt cs 0),[],n⟩,[],k<m⟩|false=>none
        |none=>none
       |_=>none
     | .s (.gp g off)=>
       match P.underlying t with
       |some (.array len el)=>match aF P el with|some sz=>some ⟨⟨[],.s (.gp g (dv off (cj k sz))),[],n⟩,[],k<len⟩|none=>none
       |_=>none
     |_=>kr P o e n L [.idx k]
   |_=>none
 | .index _ _ ix=>
   match e ix with
   | .s (.int _ (.ofNat k))=>kr P o e n L [.idx k]
   |_=>none
 | .fieldAddr s x f=>
   match e x with
   | .s (.fpt cs j)=>match gu P s f with|some off=>some ⟨⟨[],.s (.fpt cs (dv j off)),[],n⟩,[],True⟩|none=>none
   | .s (.gp g j)=>match gu P s f with|some off=>some ⟨⟨[],.s (.gp g (dv j off)),[],n⟩,[],True⟩|none=>none
   |_=>kr P o e n L []
 | .load t a=>
   match e a with
   | .s (.fpt cs j)=>
     match tyS P t with
     |some (ag,sz)=>match rm ag sz cs j with|some v=>iX v fun v=>some ⟨⟨[],v,[],n⟩,[],True⟩|none=>none
     |none=>none
   | .s (.gp g j)=>
     match tyS P t,GS g with
     |some (ag,sz),some cs=>match rm ag sz cs j with|some v=>iX v fun v=>some ⟨⟨[],v,[],n⟩,[],True⟩|none=>none
     |_,_=>none
   |_=>kr P o e n L []
 | .nilCheck x=>
   match e x with
   | .s (.fpt cs j)=>some ⟨⟨[],.s (.fpt cs j),[],n⟩,[],True⟩
   |_=>kr P o e n L []
 | .slice t x lo hi mx=>
   match e x with
   | .s (.str _)=>
     match GY (hi.map e),GY (lo.map e) with
     |some a,some b=>kr P o e n L (a++b)
     |_,_=>none
   | .s (.frz get sz m)=>
     match mx,P.underlying t with
     |none,some (.slice el)=>
      match aF P el,w_ (lo.map e) 0,w_ (hi.map e) m with
      |some sz',some k,some h=>
       match Nat.beq sz sz' with
       |true=>some ⟨⟨[],.s (.frz (match lo with|none=>get|some _=>fun i=>get (k+i)) sz (match lo with|none=>h|some _=>h-k)),[],n⟩,[],k<=h/\h<=m⟩
       |false=>none
      |_,_,_=>none
     |_,_=>none
   |_=>kr P o e n L []
 | .call c=>
   match c.callee with
   | .builtin .len=>
     match c.args.toList with
     |[x]=>
      match tO (e x) with
      |some m=>
       match c.argTypes[0]? with
       |some t=>match P.underlying t with|some (.slice _)=>some ⟨⟨[],.s (.int .i64 (m:Int)),[],n⟩,[],True⟩|_=>none
       |none=>none
      |none=>kr P o e n L []
     |_=>none
   |_=>kr P o e n L []
 |_=>kr P o e n L []
def Dy (P:Program) (o:Oper) (env:List V) (n:Nat) (L:Hp):Option Out:=Bp P o (ev env) n L
theorem vt {P:Program} {w:World} {φ:Ph} {a:Act} {env:List V} {x:Option Operand} (hx:∀ y,x=some y->Vr φ (ev env y) (a.eval y)) {dflt top k:Nat} (code:BoundsCode) (h:w_ (x.map (ev env)) dflt=some k) (hk:k<=top):
 (match x.map a.eval with|some v=>Instr.sliceBound v top code|none=>pure dflt).run P w=.ok k w:=by
 cases x with
 |none=>simp only[Option.map_none,w_,Option.some.injEq] at h;subst h;rfl
 |some y=>
  have g:=hx y rfl;simp only[Option.map_some] at h |-;unfold w_ at h;split at h
  ·rename_i e;cases e
  ·rename_i kk kn e
   simp only[Option.some.injEq] at e;rw[e] at g;simp only[Vr,Sr] at g;cases h
   have hb:(0:Int)<=Int.ofNat k/\Int.ofNat k<=(top:Int):=by simp;omega
   simp only[Instr.sliceBound,g,asIntOf,Sem.run_bind,Sem.run_pure,Result.andThen_ok];rw[if_pos hb];simp
  ·cases h
theorem vx {P:Program} {o:Oper} {env:List V} {n:Nat} {L:Hp} {out:Out} (h:Dy P o env n L=some out) (hC:out.C):OutOK P o env n L out:=by
 unfold Dy Bp at h;simp only[Dz] at h;split at h
 ·rename_i t x ix ho
  split at h
  ·rename_i ki k hix
   split at h
   ·rename_i get sz m hx
    split at h
    ·rename_i e hty
     split at h
     ·rename_i sz' hsz
      split at h
      ·rename_i hb
       have hb:=Nat.eq_of_beq_eq_true hb;subst hb;rw[aQ] at h;cases h;refine⟨OpL.light fun φ a w hop _=>?_,Nat.le_refl _⟩;have g1:=hop x (by simp[ho,Op.operands]);have g2:=hop ix (by simp[ho,Op.operands]);rw[hx] at g1;rw[hix] at g2;simp only[Vr,Sr] at g2;obtain⟨b,o',c,hv,hp⟩:=Ah g1 hC;refine⟨_,?_,hp⟩
       have h1:(0:Int)<=Int.ofNat k:=by simp
       have h2:Int.ofNat k<(m:Int):=by simp;exact hC
       simp only[execOp,ho,hv,g2,Instr.indexAt,asIntOf,Sem.run_bind,Sem.run_pure,run_underlying hty,Result.andThen_ok,ao hsz,aA];rw[if_pos ⟨h1,h2⟩];simp[ao hsz,aA]
      ·cases h
     ·cases h
    ·cases h
   ·rename_i g off hx
    split at h
    ·rename_i len e hty
     split at h
     ·rename_i sz hsz
      cases h;refine⟨OpL.light fun φ a w hop _=>?_,Nat.le_refl _⟩;have g1:=hop x (by simp[ho,Op.operands]);have g2:=hop ix (by simp[ho,Op.operands]);rw[hx] at g1;rw[hix] at g2;simp only[Vr,Sr] at g1 g2;have hk:k<len:=hC
      have h1:(0:Int)<=Int.ofNat k:=by simp
      have h2:Int.ofNat k<(len:Int):=by simp;exact hk
      refine⟨.pointer (some ⟨g,dv off (cj k sz),none⟩),?_,rfl⟩;simp only[execOp,ho,g1,g2,Instr.indexAt,Instr.sureAddr,asIntOf,Sem.run_bind,Sem.run_pure,run_underlying hty,Result.andThen_ok,ao hsz,aA,aV,aX];rw[if_pos ⟨h1,h2⟩];simp[ao hsz,aA]
     ·cases h
    ·cases h
   ·exact dK h hC
  ·cases h
 ·split at h
  ·exact dK h hC
  ·cases h
 ·rename_i s x f ho
  split at h
  ·rename_i cs j hx
   split at h
   ·rename_i off hoff
    cases h;refine⟨OpL.light fun φ a w hop _=>?_,Nat.le_refl _⟩;have g1:=hop x (by simp[ho,Op.operands]);rw[hx] at g1;obtain⟨b,o',vs,hz,hv,hxx⟩:=g1;refine⟨.pointer (some ⟨b,o'+dv j off,none⟩),?_,b,o',vs,hz,rfl,hxx⟩;simp only[execOp,ho,hv,Sem.run_bind,gt hoff,Result.andThen_ok,Sem.run_pure,aV,Nat.add_assoc]
   ·cases h
  ·rename_i g j hx
   split at h
   ·rename_i off hoff
    cases h;refine⟨OpL.light fun φ a w hop _=>?_,Nat.le_refl _⟩;have g1:=hop x (by simp[ho,Op.operands]);rw[hx] at g1;simp only[Vr,Sr] at g1;exact⟨.pointer (some ⟨g,dv j off,none⟩),by simp only[execOp,ho,g1,Sem.run_bind,gt hoff,Result.andThen_ok,Sem.run_pure,aV],rfl⟩
   ·cases h
  ·exact dK h hC
 ·rename_i t x ho
  split at h
  ·rename_i cs j hx
   split at h
   ·rename_i ag sz ht
    split at h
    ·rename_i v hv
     rw[dd] at h;cases h;refine⟨OpL.light fun φ a w hop hg=>?_,Nat.le_refl _⟩;have g1:=hop x (by simp[ho,Op.operands]);rw[hx] at g1;obtain⟨ad,hu,y,hy,hr⟩:=n_ hg g1 ht hv;exact⟨y,by simp only[execOp,ho,hu,Instr.loadAt,Instr.sureAddr,Sem.run_bind,Sem.run_pure,Result.andThen_ok,hy],hr⟩
    ·cases h
   ·cases h
  ·rename_i g j hx
   split at h
   ·rename_i ag sz cs ht hcs
    split at h
    ·rename_i v hv
     rw[dd] at h;cases h;refine⟨OpL.light fun φ a w hop hg=>?_,Nat.le_refl _⟩;have g1:=hop x (by simp[ho,Op.operands]);rw[hx] at g1;simp only[Vr,Sr] at g1;obtain⟨vs,hz,hall⟩:=hg.gz g cs hcs
     have hf:Sr φ (.fpt cs j) (a.eval x):=⟨g,0,vs,hz,by rw[g1,Nat.zero_add],fun i y hi=>by rw[Nat.zero_add];exact hall.get hi⟩
     obtain⟨ad,hu,y,hy,hr⟩:=n_ hg hf ht hv;exact⟨y,by simp only[execOp,ho,hu,Instr.loadAt,Instr.sureAddr,Sem.run_bind,Sem.run_pure,Result.andThen_ok,hy],hr⟩
    ·cases h
   ·cases h
  ·exact dK h hC
 ·rename_i x ho
  split at h
  ·rename_i cs j hx
   cases h;refine⟨OpL.light fun φ a w hop _=>?_,Nat.le_refl _⟩;have g1:=hop x (by simp[ho,Op.operands]);rw[hx] at g1;refine⟨a.eval x,?_,g1⟩;obtain⟨b,o',vs,hz,hv,hxx⟩:=g1;simp only[execOp,ho,hv,Sem.run_pure]
  ·exact dK h hC
 ·rename_i t x lo hi mx ho
  split at h
  ·split at h
   ·exact dK h hC
   ·cases h
  ·rename_i get sz m hx
   split at h
   ·rename_i e hty
    split at h
    ·rename_i sz' k hh hsz hlo hhi
     split at h
     ·rename_i hb
      have hb:=Nat.eq_of_beq_eq_true hb;subst hb;cases h;obtain⟨c1,c2⟩:=hC;refine⟨OpL.light fun φ a w hop _=>?_,Nat.le_refl _⟩;have g1:=hop x (by simp[ho,Op.operands]);rw[hx] at g1
      have gl:∀ y,lo=some y->Vr φ (ev env y) (a.eval y):=fun y hy=>hop y (by subst hy;simp[ho,Op.operands])
      have gh:∀ y,hi=some y->Vr φ (ev env y) (a.eval y):=fun y hy=>hop y (by subst hy;simp[ho,Op.operands])
      have sr:∀ (b o c:Nat) (vs:List Value) (val:Nat->Nat->Value),φ.z b=some vs->m<=c->(∀ i,i<m->(get i).length=sz)->(∀ i j x,i<m->(get i)[j]? =some x->vs[o+(i*sz+j)]? =some (val i j))->(∀ i j x,i<m->(get i)[j]? =some x->Pr φ.z x (val i j))->
       Sr φ (.frz (fun i=>get (k+i)) sz (hh-k)) (.slice (some ⟨b,if c=k then o else o+k*sz,none⟩) (hh-k) (c-k)):=by
       intro b o c vs val h1 hn hl hv hxx;by_cases hck:c=k
       ·have:hh-k=0:=by omega
        rw[this];exact .nil _ _ _ _ (fun e=>by cases e)
       ·rw[if_neg hck]
        exact .frz _ _ _ _ _ _ vs h1 (by omega) (fun i j=>val (k+i) j) (fun i hi=>hl _ (by omega)) (fun i j x hi hg=>by
         have:=hv (k+i) j x (by omega) hg;rw[Nat.add_mul] at this
         rw[show o+k*sz+(i*sz+j)=o+(k*sz+i*sz+j) by omega];exact this) (fun i j x hi hg=>hxx _ j x (by omega) hg)
      have sr0:∀ (b o c:Nat) (vs:List Value) (val:Nat->Nat->Value),φ.z b=some vs->m<=c->(∀ i,i<m->(get i).length=sz)->(∀ i j x,i<m->(get i)[j]? =some x->vs[o+(i*sz+j)]? =some (val i j))->(∀ i j x,i<m->(get i)[j]? =some x->Pr φ.z x (val i j))->
       Sr φ (.frz get sz hh) (.slice (some ⟨b,o,none⟩) hh c):=by
       intro b o c vs val h1 hn hl hv hxx;exact .frz _ _ _ _ _ _ vs h1 (by omega) val (fun i hi=>hl _ (by omega)) (fun i j x hi hg=>hv i j x (by omega) hg) (fun i j x hi hg=>hxx _ j x (by omega) hg)
      generalize hu:a.eval x=u at g1
      have bounds:∀ (cap:Nat),m<=cap->(Instr.sliceBounds true m cap (lo.map a.eval) (hi.map a.eval) none).run P w=.ok (k,hh,cap) w:=by
       intro cap hcap;have r1:=vt (P:=P) (w:=w) gl (top:=hh) .sliceB hlo c1;have r2:=vt (P:=P) (w:=w) gh (top:=cap) .sliceAcap hhi (by omega);unfold Instr.sliceBounds
       cases hi<;>cases lo<;>simp_all
      cases g1 with
      |nil _ _ ad c hk0=>
       have h0:k=0/\hh=0:=by omega
       obtain⟨rfl,rfl⟩:=h0;have hb:=bounds c (Nat.zero_le _)
       have hex:∃ ad' c',(execOp a.eval o).run P w=.ok (.value (.slice ad' 0 c')) w/\(ad'=none->c'=0):=by
        cases ad with
        |none=>
         obtain rfl:=hk0 rfl;refine⟨none,0,?_,fun _=>rfl⟩;simp only[execOp,ho,hu,Option.map_none,Instr.sliceAt,Instr.slice,Sem.run_bind,run_underlying hty,Result.andThen_ok,hb,ao hsz,Option.map_some,aA,Sem.run_pure];rfl
        |some ad=>
         refine⟨_,_,by simp only[execOp,ho,hu,Option.map_none,Instr.sliceAt,Instr.slice,Sem.run_bind,run_underlying hty,Result.andThen_ok,hb,ao hsz,Option.map_some,aA,Sem.run_pure];rfl,?_⟩
         intro e;split at e<;>cases e
       obtain⟨ad',c',he,hk1⟩:=hex;refine⟨_,he,?_⟩
       cases lo with
       |none=>exact .nil _ _ _ _ hk1
       |some y=>exact .nil _ _ _ _ hk1
      |frz _ _ _ b oo c vs h1 hn val hl hv hxx=>
       have hb:=bounds c hn
       cases lo with
       |none=>
        simp only[Option.map_none,w_,Option.some.injEq] at hlo;subst hlo;refine⟨.slice (some ⟨b,oo,none⟩) hh c,?_,sr0 b oo c vs val h1 hn hl hv hxx⟩;simp only[execOp,ho,hu,Option.map_none,Instr.sliceAt,Instr.slice,Sem.run_bind,run_underlying hty,Result.andThen_ok,ao hsz,Option.map_some,aA,Sem.run_pure];rw[show (Instr.sliceBounds true m c none (Option.map a.eval hi) none).run P w=.ok (0,hh,c) w from hb];simp
       |some y=>
        refine⟨_,?_,sr b oo c vs val h1 hn hl hv hxx⟩;simp only[execOp,ho,hu,Option.map_none,Instr.sliceAt,Instr.slice,Sem.run_bind,run_underlying hty,Result.andThen_ok,ao hsz,Option.map_some,aA,Sem.run_pure];rw[show (Instr.sliceBounds true m c (some (a.eval y)) (Option.map a.eval hi) none).run P w=.ok (k,hh,c) w from hb];simp only[Result.andThen_ok]
        split<;>rfl
     ·cases h
    ·cases h
   ·cases h
  ·exact dK h hC
 ·rename_i c ho
  split at h
  ·rename_i hc
   split at h
   ·rename_i x hargs
    split at h
    ·rename_i m hm
     split at h
     ·rename_i t ht
      split at h
      ·rename_i e hty
       cases h;refine⟨OpL.light fun φ a w hop _=>?_,Nat.le_refl _⟩;have g:=hop x (by rw[ho];simp only[Op.operands,Call.operands,hc];simpa using (by rw[hargs];exact .head _:x∈c.args.toList));obtain⟨ad,kk,hu⟩:=xa hm g
       have ea:c.args.map a.eval= #[a.eval x]:=by apply Array.ext';simp[hargs]
       have hl:(Builtin.len_ c.argTypes o.type #[a.eval x]).run P w=.ok (.int .i64 m) w:=by
        rw[hu];simp[Builtin.len_,ht,run_underlying hty,goInt]
       exact⟨_,by simp only[execOp,ho,resolve,hc,Sem.run_bind,Sem.run_pure,Result.andThen_ok,invoke,builtin,ea,hl],rfl⟩
      ·cases h
     ·cases h
    ·exact dK h hC
   ·cases h
  ·exact dK h hC
 ·exact dK h hC
end Ab
end Go.Proofs.YtegjgpldfgjoiaaGreatDoor
