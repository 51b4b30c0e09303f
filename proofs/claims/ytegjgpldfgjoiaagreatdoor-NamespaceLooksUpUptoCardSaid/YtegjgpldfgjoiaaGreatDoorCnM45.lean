import Derived.Test.YtegjgpldfgjoiaaGreatDoorCnM44
set_option linter.all false
namespace Go.Proofs.YtegjgpldfgjoiaaGreatDoor
open Go Ab
set_option maxRecDepth 100000
set_option maxHeartbeats 40000000
section
variable {p:List Nd} {num:Int}
theorem GQ {x:Nd} {k:Fo} {j:Nat} {a:Inf} (hk:k.At p (j+1)) (h:x.op=10\/x.op=11\/x.op=12) (hv:k.V (dd (av x.op x.kids).1)) (h1:(aq a.sc (ah (p.getD (j+1) dN).str).1).2=true):
 (bS p (j+1) a.sc).2=true/\(bc x (ao k) j a).sc=(bS p (j+1) a.sc).1:=by
 have h2:bS p (j+1) a.sc=aq a.sc (ah (p.getD (j+1) dN).str).1:=by unfold bS;rw[if_pos (jh h1)]
 have hn:ao k=(ah (p.getD (j+1) dN).str).1:=by
  have hne:∃ sl r,dd (av x.op x.kids).1=sl::r:=by
   rcases h with e|e|e<;>rw[e]<;>exact⟨_,_,rfl⟩
  obtain⟨sl,r,e⟩:=hne;rw[e] at hv;obtain⟨y,ky,n',rfl,_⟩:=sS hv;rw[At.get hk];rfl
 rw[h2];refine⟨h1,?_⟩;unfold bc;simp only;rw[hn,if_pos ⟨h,h1⟩]
structure FsQ (p:List Nd) (C:Nat->Inf) (Kd:Nat->Fo) (l:List Nat) (E:List Ent) (fs:List Fd) (E':List Ent) (fs':List Fd):Prop where
 new:∃ nw:List Fd,fs'=fs++nw/\nw.map (·.node)=(jC p l).map (λi:Nat=>(i:Int))/\∀ d∈nw,FdQ p C Kd E' d
 kp:Kp E E'
theorem FsQ.nil {C:Nat->Inf} {Kd:Nat->Fo} {l:List Nat} {E E':List Ent} {fs:List Fd} (h:jC p l=[]) (hk:Kp E E'):FsQ p C Kd l E fs E' fs:=⟨⟨[],(Z0u _).symm,by rw[h];rfl,λd h=>(by cases h)⟩,hk⟩
theorem FsQ.cat {C:Nat->Inf} {Kd:Nat->Fo} {l1 l2 l:List Nat} {E E1 E2:List Ent} {fs fs1 fs2:List Fd} (h:FsQ p C Kd l1 E fs E1 fs1) (k:FsQ p C Kd l2 E1 fs1 E2 fs2) (hl:jC p l=jC p l1++jC p l2):FsQ p C Kd l E fs E2 fs2:=by
 obtain⟨⟨n1,a1,a2,a3⟩,a4⟩:=h;obtain⟨⟨n2,b1,b2,b3⟩,b4⟩:=k;refine⟨⟨n1++n2,by rw[b1,a1,Z14],by rw[Z0d,a2,b2,hl,Z0d],λd hd=>?_⟩,a4.trans b4⟩
 rcases Z0w.1 hd with hd|hd
 ·exact (a3 d hd).kp b4
 ·exact b3 d hd
theorem Db (C:Nat->Inf) (Kd:Nat->Fo):∀ (N:Nat) (t:Fo) (j:Nat) (a:Inf) (E:List Ent) (fs:List Fd),t.size<N->t.At p j->t.V (List.replicate t.cnt (false,68))->(∀ i,j<=i->i<j+t.size->bf t j i a=C i/\t.kid j i=Kd i)->(∀ i,j<=i->i<j+t.size->eS (p.getD i dN).op=true->(aq (C i).sc (ah (p.getD (i+1) dN).str).1).2=true)->
 (aS p num false t j a.sc E fs).2.2=0->FsQ p C Kd (List.range' j t.size) E fs (aS p num false t j a.sc E fs).1 (aS p num false t j a.sc E fs).2.1
 |0,_,_,_,_,_,h,_,_,_,_,_=>absurd h (Z1m _)
 |N+1,.nil,j,a,E,fs,_,_,_,_,_,_=>FsQ.nil rfl (Kp.refl _)
 |N+1,.cons x k n,j,a,E,fs,hN,ha,hv,hK,hJ,h0=>by
  simp only[Fo.size] at hN;have hv':=hv;simp only[Fo.cnt,Z16] at hv';obtain⟨⟨h1,h2,h3⟩,h4,h5⟩:=hv';have hop:=kZ (.inl rfl) h1;have h18:=G9 h1;have hx:p.getD j dN=x:=At.get ha;have hk:=ha.2.2.1
  have hKn:∀ i,j+1+k.size<=i->i<j+1+k.size+n.size->bf n (j+1+k.size) i a=C i/\n.kid (j+1+k.size) i=Kd i:=λi g1 g2=>by
   have:=hK i aa (by simp only[Fo.size];omega);simp only[bf,Fo.kid] at this
   rwa [if_neg aa,if_neg aa,if_neg aa,if_neg aa] at this
  have hKk:∀ i,j+1<=i->i<j+1+k.size->bf k (j+1) i (bc x (ao k) j a)=C i/\k.kid (j+1) i=Kd i:=λi g1 g2=>by
   have:=hK i aa (by simp only[Fo.size];omega);simp only[bf,Fo.kid] at this
   rwa [if_neg aa,if_pos aa,if_neg aa,if_pos aa] at this
  have hCj:C j=a:=by
   have:=(hK j (Z02 _) (by simp only[Fo.size];omega)).1
   simpa only [bf,if_true] using this.symm
  have hJj:eS x.op=true->(aq a.sc (ah (p.getD (j+1) dN).str).1).2=true:=λh=>by
   have:=hJ j (Z02 _) (by simp only[Fo.size];omega) (by rw[hx];exact h)
   rwa [hCj] at this
  rw[aS] at h0 |-
  have key:(fV p num x k j a.sc E fs λsc E fs=>aS p num true k (j+1) sc E fs).2.2=0->FsQ p C Kd (j::List.range' (j+1) k.size) E fs (fV p num x k j a.sc E fs λsc E fs=>aS p num true k (j+1) sc E fs).1 (fV p num x k j a.sc E fs λsc E fs=>aS p num true k (j+1) sc E fs).2.1:=by
   have hfj:jz x.op=false->jC p (j::List.range' (j+1) k.size)=jC p (List.range' (j+1) k.size):=λh=>by
    unfold jC;rw[Z2o,hx,h];rfl
   have blk:∀ (ls:List Int) (E:List Ent),(ls.all d8)=true->k.V (ls.map (λc=>(false,c))++[(true,68)])->(aS p num true k (j+1) (bc x (ao k) j a).sc E fs).2.2=0->
    FsQ p C Kd (List.range' (j+1) k.size) E fs (aS p num true k (j+1) (bc x (ao k) j a).sc E fs).1 (aS p num true k (j+1) (bc x (ao k) j a).sc E fs).2.1:=λls E hl hk4 h0=>by
    obtain⟨b,q1,q2,q3,q4,q5,q6⟩:=l_ (num:=num) ls k (j+1) (bc x (ao k) j a) (mI E 0) hl hk hk4;obtain⟨f1,f2,f3⟩:=sD ls k (j+1) hl hk hk4;rw[dY ls k hl hk4,<-q1] at h0 |-;have:=Db C Kd N (ak k) (j+1+ls.length+1) b E fs aa q2 q3 (λi g1 g2=>⟨by rw[<-q5 i g1 g2];exact (hKk i aa aa).1,by rw[<-f3 i g1 g2];exact (hKk i aa aa).2⟩) (λi g1 g2 g3=>hJ i aa (by simp only[Fo.size];omega) g3) h0;exact⟨by rw[f1];exact this.new,this.kp⟩
   have els:∀ (ls:List Int) (w u:Int) (bk:Nat),(ls.all d8)=true->k.V (ls.map (λc=>(false,c))++[(true,70)])->bk=j+1+ls.length->jz x.op=true->(x.op=16/\bk=j+4\/x.op=17/\bk=j+5)->w=ai p (bk-2)->u=ai p (bk-1)->
    (ii j a.sc fs (dB p num a.sc w u (ak k) (bk+1) E [] 0)).2.2=0->FsQ p C Kd (j::List.range' (j+1) k.size) E fs (ii j a.sc fs (dB p num a.sc w u (ak k) (bk+1) E [] 0)).1 (ii j a.sc fs (dB p num a.sc w u (ak k) (bk+1) E [] 0)).2.1:=λls w u bk hl hk4 hbk hfd hcs hw hu h0=>by
    obtain⟨b,q1,q2,q3,q4,q5,q6⟩:=l_ (num:=num) ls k (j+1) (bc x (ao k) j a) (mI E 0) hl hk hk4;obtain⟨f1,f2,f3⟩:=sD ls k (j+1) hl hk hk4;subst hbk;obtain⟨news,g1,g2,g3,g4,g5⟩:=CZ (num:=num) a.sc w u (ak k) (j+1+ls.length+1) E [] 0 q2 q3 h0
    have hKb:Kd (j+1+ls.length)=ak k:=by rw[<-(hKk (j+1+ls.length) aa aa).2];exact f2
    have hfl:jC p (j::List.range' (j+1) k.size)=[j]:=by
     unfold jC;rw[Z2o,hx,hfd,if_pos rfl]
     have:jC p (List.range' (j+1) k.size)=[]:=by rw[f1];exact CE q2 (CY q3)
     unfold jC at this;rw[this]
    unfold ii sf;unfold ii at h0;simp only at h0 |-;rw[if_pos h0];refine⟨⟨_,rfl,by rw[hfl];rfl,λd hd=>?_⟩,g5⟩
    rcases Z0m.1 hd with rfl
    rw[Z1e] at g1;refine⟨⟨j,j+1+ls.length,rfl,by rw[hx];exact hcs,by rw[hCj],?_,?_⟩,?_⟩
    ·rw[hKb];simp only;rw[g4];omega
    ·rw[hKb,<-hw,<-hu];simp only;rw[g1];exact g2
    ·simp only;rw[g1];exact g3
   have hns: ¬(x.op=10\/x.op=11\/x.op=12)->(bc x (ao k) j a).sc=a.sc:=λh=>by
    unfold bc;simp only;rw[if_neg (λe=>h e.1)]
   intro h0;unfold fV at h0 |-;by_cases h10:x.op=10
   ·obtain⟨g1,g2⟩:=GQ hk (.inl h10) h4 (hJj (by rw[h10];decide))
    rw[if_pos h10,if_neg (by rw[g1];simp)] at h0 |-;by_cases hcn:(eT E (bS p (j+1) a.sc).1).2=false
    ·rw[if_pos hcn] at h0;exact absurd h0 (show ¬(6:Int)=0 by decide)
    ·rw[if_neg hcn,<-g2] at h0 |-
     have h4':=h4;rw[h10] at h4';have:=blk [110] E rfl h4' h0;exact⟨by rw[hfj (by rw[h10];decide)];exact this.new,this.kp⟩
   rw[if_neg h10] at h0 |-;by_cases h16:x.op=16
   ·rw[if_pos h16] at h0 |-
    have h4':=h4;rw[h16] at h4';exact els [110,105,105] _ _ (j+4) rfl h4' rfl (by rw[h16];decide) (.inl ⟨h16,rfl⟩) rfl rfl h0
   rw[if_neg h16] at h0 |-;by_cases h17:x.op=17
   ·rw[if_pos h17] at h0 |-
    have h4':=h4;rw[h17] at h4';exact els [110,110,105,105] _ _ (j+5) rfl h4' rfl (by rw[h17];decide) (.inr ⟨h17,rfl⟩) rfl rfl h0
   rw[if_neg h17] at h0 |-;by_cases he:(bt p num E j a.sc).2.2.2=0
   ·rw[if_neg (λh=>h he)] at h0 |-
    obtain⟨y,hy⟩:=vj he
    have k1:Kp E (bt p num E j a.sc).1:=by rw[hy];exact Kp.app E y
    have hfn:jz x.op=false:=by unfold jz;rw[decide_eq_false_iff_not];omega
    by_cases hb:x.op=11\/x.op=12
    ·rw[if_pos hb] at h0 |-
     obtain⟨g1,g2⟩:=GQ hk (.inr hb) h4 (hJj (by unfold eS;rw[decide_eq_true_eq];omega))
     have g3:(bt p num E j a.sc).2.2.1=(bc x (ao k) j a).sc:=by
      rw[g2];exact DN he
     rw[g3] at h0 |-
     have:FsQ p C Kd (List.range' (j+1) k.size) (bt p num E j a.sc).1 fs (aS p num true k (j+1) (bc x (ao k) j a).sc (bt p num E j a.sc).1 fs).1 (aS p num true k (j+1) (bc x (ao k) j a).sc (bt p num E j a.sc).1 fs).2.1:=by
      rcases hb with hb|hb
      ·have h4':=h4
       rw[hb] at h4';exact blk [115] _ rfl h4' h0
      ·have h4':=h4
       rw[hb] at h4';exact blk [115,105,105] _ rfl h4' h0
     exact⟨by rw[hfj hfn];exact this.new,k1.trans this.kp⟩
    ·rw[if_neg hb]
     have hq:k.all quiet:=eC h4 λsl hsl=>by
      obtain⟨b,hb',rfl⟩:=Z1d.1 hsl;exact gM h1 (.inl rfl) (by unfold fM;rw[decide_eq_false_iff_not];omega) b hb'
     exact FsQ.nil (by rw[hfj hfn];exact CE hk (tN hq)) k1
   ·rw[if_pos he] at h0
    exact absurd h0 he
  generalize fV p num x k j a.sc E fs (λsc E fs=>aS p num true k (j+1) sc E fs)=Q at*;obtain⟨E1,fs1,e⟩:=Q;by_cases he:e=0
  ·subst he
   rw[if_pos rfl] at h0 |-;have q:=Db C Kd N n (j+1+k.size) a E1 fs1 aa ha.2.2.2 h5 hKn (λi g1 g2 g3=>hJ i aa (by simp only[Fo.size];omega) g3) h0;refine (key rfl).cat q ?_;rw[oP ha]
   have:jC p (j::List.range' (j+1) k.size)=(if jz x.op=true then [j] else [])++jC p (List.range' (j+1) k.size):=by
    unfold jC;rw[Z2o,hx]
    split<;>rfl
   rw[this,Z14]
  ·rw[if_neg he] at h0
   exact absurd h0 he
end
def dw (p:List Nd) (i:Nat):Nat:=if (p.getD i dN).op=17 then i+5 else i+4
def D_ (p:List Nd) (t:Fo) (i:Nat):List Nat:=(t.kid 0 (dw p i)).starts (dw p i+1)
abbrev jZ (p:List Nd) (i:Nat):Int:=ai p (dw p i-2)
abbrev px (p:List Nd) (i:Nat):Int:=ai p (dw p i-1)
def AA (p:List Nd) (t:Fo) (num:Int) (T:List Tb) (E:List Ent) (i:Nat) (K:List Rk):List Rk×Int:=
 BB p num (aA 0 E) K i (aC t i).sc (D_ p t i) (λa b l=>eW (bT T (E.getD a.toNat eZ) 2) (bT T (E.getD a.toNat eZ) 3) (bT T (E.getD a.toNat eZ) 4) b l (jZ p i) (px p i)) (λb l=>eW 0 0 (vE (jG p (D_ p t i)) (jZ p i)) b l (jZ p i) (px p i))
theorem xN (p:List Nd) (t:Fo) (num:Int) (T:List Tb) (E:List Ent) (i:Nat) (K:List Rk):(AA p t num T E i K).1.length<=K.length+1:=by
 unfold AA BB
 repeat' split
 all_goals simp
theorem om (sp ba ln idx dat:Int):∀ (us:List Int) (E:List Ent),aA 0 (eX sp ba ln idx dat us E).1=aA 0 E
 |[],_=>rfl
 |u::us,E=>by
  rw[eX];split
  ·rw[om sp ba ln idx dat us]
   exact oq E 0 u.toNat _ λx hx=>by rw[Z00,hx];rfl
  ·rfl
theorem rh {T:List Tb} {x y:Ent} (h:zb x=zb y) (o:Nat):bT T x o=bT T y o:=by
 unfold zb dH at h;cases x;cases y;simp only[Ent.mk.injEq] at h;unfold bT;simp only;rw[h.2.2.2.1,h.2.2.2.2.1]
theorem tW {E F:List Ent} (h:aA 0 E=aA 0 F) (k:Nat):zb (E.getD k eZ)=zb (F.getD k eZ):=by
 have key:∀ (E:List Ent) (s k:Nat),((aA s E).getD k (0,zb eZ)).2=zb (E.getD k eZ):=by
  intro E
  induction E with
  |nil=>intro s k;cases k<;>rfl
  |cons x t ih=>
   intro s k
   cases k with
   |zero=>rfl
   |succ k=>exact ih (s+1) k
 rw[<-key E 0 k,h,key F 0 k]
section
variable {p:List Nd} {t:Fo} {num:Int} {T:List Tb} {E:List Ent}
theorem Jc {E2:List Ent} {d:Fd} {i:Nat} {rs:List Int} {K:List Rk} (hq:FdQ p (aC t) (t.kid 0) E d) (hi:d.node=(i:Int)) (hn:aA 0 E2=aA 0 E) (hs:∀ u,gv E2 u=gv E u):
 (gX p T d d.node.toNat E2 rs).2.2=(AA p t num T E i K).2/\aA 0 (gX p T d d.node.toNat E2 rs).1=aA 0 E/\∀ u,gv (gX p T d d.node.toNat E2 rs).1 u=gv E u:=by
 obtain⟨⟨i',blk,h1,h2,h3,h4,h5⟩,h6⟩:=hq;obtain rfl:i'=i:=aa
 have hb:blk=dw p i':=by
  unfold dw
  rcases h2 with ⟨e1,e2⟩|⟨e1,e2⟩
  ·rw[e1,if_neg ac];exact e2
  ·rw[e1,if_pos rfl];exact e2
 subst hb
 have hall:∀ f:Int->Int->Int->Int->Bool,(d.units.all λu=>f (gv E2 u).1 (gv E2 u).2.1 (gv E2 u).2.2.1 (gv E2 u).2.2.2)=(He p (D_ p t i') 0).all λx=>f x.1 x.2 (jZ p i') (px p i'):=λf=>by
  have e1:(d.units.all λu=>f (gv E2 u).1 (gv E2 u).2.1 (gv E2 u).2.2.1 (gv E2 u).2.2.2)=(d.units.map (gv E)).all λq=>f q.1 q.2.1 q.2.2.1 q.2.2.2:=by
   rw[List.all_map];congr 1
   funext u
   rw[hs u];rfl
  rw[e1,h5,List.all_map];rfl
 have hu0:∀ u∈d.units,0<=u:=λu hu=>(h6 u hu).1
 have hfn:∀ i op,uL (aA 0 E) d.scope (p.getD i dN).str op=(fi p E2 d.scope i op).map λk:Nat=>(k:Int):=λi op=>by rw[<-hn,FB]
 rw[hi,Z12];unfold gX AA BB;rw[<-h3]
 rcases h2 with ⟨e1,e2⟩|⟨e1,e2⟩
 ·rw[if_pos e1,if_neg (by rw[e1];decide),hfn]
  cases hk:fi p E2 d.scope (i'+1) 15 with
  |none=>exact⟨rfl,hn,hs⟩
  |some k=>
   have hst:=tW hn k;have hun:=AM (bT T (E2.getD k eZ) 2) (bT T (E2.getD k eZ) 3) (bT T (E2.getD k eZ) 4) (-1) (-1) d.units E2 hu0;refine⟨?_,by rw[<-hn];exact om _ _ _ _ _ _ _,λu=>(hun.2 u).trans (hs u)⟩
   show (eX _ _ _ _ _ _ _).2=(if mH _ p (D_ p t i') 0=true then 0 else 1)
   rw[hun.1,hall λb l w u=>eW (bT T (E2.getD k eZ) 2) (bT T (E2.getD k eZ) 3) (bT T (E2.getD k eZ) 4) b l w u,vB,rh hst 2,rh hst 3,rh hst 4];rfl
 ·rw[if_neg (by rw[e1];decide),if_pos e1,hfn,hfn]
  have ew:ai p (i'+3)=jZ p i':=by unfold jZ;rw[e2];rfl
  cases hk:fi p E2 d.scope (i'+1) 18 with
  |none=>exact⟨rfl,hn,hs⟩
  |some k=>
   cases hk2:fi p E2 d.scope (i'+2) 18 with
   |none=>exact⟨rfl,hn,hs⟩
   |some k2=>
    have hun:=AM 0 0 ((d.bits+8*ai p (i'+3)-1).tdiv (8*ai p (i'+3))*ai p (i'+3)) k k2 d.units E2 hu0;refine⟨?_,by rw[<-hn];exact om _ _ _ _ _ _ _,λu=>(hun.2 u).trans (hs u)⟩
    show (eX _ _ _ _ _ _ _).2=(if mH _ p (D_ p t i') 0=true then 0 else 1)
    rw[hun.1,hall λb l w u=>eW 0 0 ((d.bits+8*ai p (i'+3)-1).tdiv (8*ai p (i'+3))*ai p (i'+3)) b l w u,vB,ew,h4];rfl
theorem Be:∀ (l:List Nat) (fs:List Fd) (E2:List Ent) (rs:List Int) (K:List Rk),fs.map (·.node)=(jC p l).map (λi:Nat=>(i:Int))->(∀ d∈fs,FdQ p (aC t) (t.kid 0) E d)->aA 0 E2=aA 0 E->(∀ u,gv E2 u=gv E u)->
 (kw p T fs E2 rs).2.2=(Bo p (AA p t num T E) l K).2/\aA 0 (kw p T fs E2 rs).1=aA 0 E
 |[],fs,E2,rs,K,h1,_,h3,_=>by
  have:fs=[]:=by simpa [jC] using h1
  subst this;exact⟨rfl,h3⟩
 |i::l,fs,E2,rs,K,h1,h2,h3,h4=>by
  rw[Bo];by_cases ho:(p.getD i dN).op=16\/(p.getD i dN).op=17
  ·rw[if_pos ho]
   have hf:jC p (i::l)=i::jC p l:=by unfold jC jz;rw[Z2o,if_pos (decide_eq_true ho)]
   rw[hf,Z13] at h1
   cases fs with
   |nil=>simp at h1
   |cons d fs=>
    rw[Z13,Z4s] at h1;obtain⟨g1,g2,g3⟩:=Jc (num:=num) (T:=T) (rs:=rs) (K:=K) (h2 d (.head _)) h1.1 h3 h4;rw[kw,g1];by_cases he:(AA p t num T E i K).2=0
    ·rw[if_pos he,if_pos he]
     exact Be l fs _ _ _ h1.2 (λd hd=>h2 d (.tail _ hd)) g2 g3
    ·rw[if_neg he,if_neg he]
     exact⟨g1,g2⟩
  ·rw[if_neg ho]
   have hf:jC p (i::l)=jC p l:=by unfold jC jz;rw[Z2o,if_neg (by rw[decide_eq_false ho];simp)]
   rw[hf] at h1;exact Be l fs E2 rs K h1 h2 h3 h4
end
end Go.Proofs.YtegjgpldfgjoiaaGreatDoor
