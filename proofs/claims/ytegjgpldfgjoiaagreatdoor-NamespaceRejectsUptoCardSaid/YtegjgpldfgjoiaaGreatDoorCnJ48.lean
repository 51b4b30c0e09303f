import Derived.Test.YtegjgpldfgjoiaaGreatDoorCnJ47
import Derived.Test.YtegjgpldfgjoiaaGreatDoorCnJ45
set_option linter.all false
set_option maxHeartbeats 40000000
set_option maxRecDepth 100000
namespace Go.Proofs.YtegjgpldfgjoiaaGreatDoor
open Go Ab
section
variable {E:List Ent}
section
variable {p:List Nd} {num:Int}
theorem I9 {x:Nd} {k:Fo} {j:Nat} {a:Inf} (hk:k.At p (j+1)) (h:x.op=10\/x.op=11\/x.op=12) (hv:k.V (dB (av x.op x.kids).1)) (h1:(ax a.sc (ai (p.getD (j+1) dN).str).1).2=true):
 (cc p (j+1) a.sc).2=true/\(bq x (aw k) j a).sc=(cc p (j+1) a.sc).1:=by
 have h2:cc p (j+1) a.sc=ax a.sc (ai (p.getD (j+1) dN).str).1:=by unfold cc;rw[if_pos (kq h1)]
 have hn:aw k=(ai (p.getD (j+1) dN).str).1:=by
  have hne:∃ sl r,dB (av x.op x.kids).1=sl::r:=by
   rcases h with e|e|e<;>rw[e]<;>exact⟨_,_,rfl⟩
  obtain⟨sl,r,e⟩:=hne;rw[e] at hv;obtain⟨y,ky,n',rfl,_⟩:=uK hv;rw[At.get hk];rfl
 grind [bq]
structure FsQ (p:List Nd) (num:Int) (C:Nat->Inf) (Kd:Nat->Fo) (l:List Nat) (E:List Ent) (fs:List Fd) (E':List Ent) (fs':List Fd):Prop where
 new:∃ nw:List Fd,fs'=fs++nw/\nw.map (·.node)=(gF p l).map (λi:Nat=>(i:Int))/\(∀ d∈nw,FdQ p C Kd E' d/\FdO p num Kd E' d)/\∀ k,E.length<=k->k<E'.length->(E'.getD k eZ).op=18->∃ d∈nw,(k:Int)∈d.units
 kp:Kp E E'
theorem FsQ.nil {C:Nat->Inf} {Kd:Nat->Fo} {l:List Nat} {E':List Ent} {fs:List Fd} (h:gF p l=[]) (hk:Kp E E') (ho:∀ k,E.length<=k->k<E'.length->(E'.getD k eZ).op≠18):FsQ p num C Kd l E fs E' fs:=⟨⟨[],(Z0u _).symm,ae,λd h=>(by cases h),λk h1 h2 h3=>absurd h3 (ho k h1 h2)⟩,hk⟩
theorem FsQ.cat {C:Nat->Inf} {Kd:Nat->Fo} {l1 l2 l:List Nat} {E1 E2:List Ent} {fs fs1 fs2:List Fd} (h:FsQ p num C Kd l1 E fs E1 fs1) (k:FsQ p num C Kd l2 E1 fs1 E2 fs2) (hl:gF p l=gF p l1++gF p l2):FsQ p num C Kd l E fs E2 fs2:=by
 obtain⟨⟨n1,a1,a2,a3,a5⟩,a4⟩:=h;obtain⟨⟨n2,b1,b2,b3,b5⟩,b4⟩:=k;refine⟨⟨n1++n2,ae,ae,λd hd=>?_,λk h1 h2 h3=>?_⟩,a4.trans b4⟩
 ·rcases Z0w.1 hd with hd|hd
  ·exact⟨(a3 d hd).1.kp b4,(a3 d hd).2.kp (a3 d hd).1 b4⟩
  ·exact b3 d hd
 ·rcases Z0a k E1.length with e|e
  ·have:=b4.ob (k:Int) aa aa
   grind [Am]
  all_goals grind
theorem Bg {i:Nat} {sc:Pth} (h:(bt p num E i sc).2.2.2=0) (ho:(p.getD i dN).op≠18):∀ k,E.length<=k->k<(bt p num E i sc).1.length->((bt p num E i sc).1.getD k eZ).op≠18:=λk h1 h2=>by
 obtain⟨a,c,e⟩:=xj h;rw[e,Z03,Z0n] at h2;obtain rfl:k=E.length:=aa;rw[e];have:(E++[cV a (p.getD i dN).op c num i]).getD E.length eZ=cV a (p.getD i dN).op c num i:=aq;rw[this];exact ho
theorem Fp (C:Nat->Inf) (Kd:Nat->Fo):∀ (N:Nat) (t:Fo) (j:Nat) (a:Inf) (E:List Ent) (fs:List Fd),t.size<N->t.At p j->t.V (List.replicate t.cnt (false,68))->(∀ i,j<=i->i<j+t.size->bF t j i a=C i/\t.kid j i=Kd i)->(∀ i,j<=i->i<j+t.size->fC (p.getD i dN).op=true->(ax (C i).sc (ai (p.getD (i+1) dN).str).1).2=true)->
 (aX p num false t j a.sc E fs).2.2=0->FsQ p num C Kd (List.range' j t.size) E fs (aX p num false t j a.sc E fs).1 (aX p num false t j a.sc E fs).2.1
 |0,_,_,_,_,_,h,_,_,_,_,_=>absurd h (Z1m _)
 |N+1,.nil,j,a,E,fs,_,_,_,_,_,_=>FsQ.nil rfl (Kp.refl _) λk h1 h2=>absurd h1 (Nat.not_le.2 h2)
 |N+1,.cons x k n,j,a,E,fs,hN,ha,hv,hK,hJ,h0=>by
  simp only[Fo.size] at hN;have hv':=hv;simp only[Fo.cnt,Z16] at hv';obtain⟨⟨h1,h2,h3⟩,h4,h5⟩:=hv';have hop:=l9 (.inl rfl) h1;have h18:=Jn h1;have hx:p.getD j dN=x:=At.get ha;have hk:=ha.2.2.1
  have hKn:∀ i,j+1+k.size<=i->i<j+1+k.size+n.size->bF n (j+1+k.size) i a=C i/\n.kid (j+1+k.size) i=Kd i:=λi g1 g2=>by
   have:=hK i aa (by simp only[Fo.size];omega);simp only[bF,Fo.kid] at this
   rwa [if_neg aa,if_neg aa,if_neg aa,if_neg aa] at this
  have hKk:∀ i,j+1<=i->i<j+1+k.size->bF k (j+1) i (bq x (aw k) j a)=C i/\k.kid (j+1) i=Kd i:=λi g1 g2=>by
   have:=hK i aa (by simp only[Fo.size];omega);simp only[bF,Fo.kid] at this
   rwa [if_neg aa,if_pos aa,if_neg aa,if_pos aa] at this
  have hCj:C j=a:=by
   have:=(hK j (Z02 _) (by simp only[Fo.size];omega)).1
   simpa only [bF,if_true] using this.symm
  have hJj:fC x.op=true->(ax a.sc (ai (p.getD (j+1) dN).str).1).2=true:=λh=>by
   grind [Fo.size]
  rw[aX] at h0 |-
  have key:(gS p num x k j a.sc E fs λsc E fs=>aX p num true k (j+1) sc E fs).2.2=0->FsQ p num C Kd (j::List.range' (j+1) k.size) E fs (gS p num x k j a.sc E fs λsc E fs=>aX p num true k (j+1) sc E fs).1 (gS p num x k j a.sc E fs λsc E fs=>aX p num true k (j+1) sc E fs).2.1:=by
   have hfj:gV x.op=false->gF p (j::List.range' (j+1) k.size)=gF p (List.range' (j+1) k.size):=λh=>by
    unfold gF;rw[Z2o,hx,h];rfl
   have blk:∀ (ls:List Int) (E:List Ent),(ls.all eI)=true->k.V (ls.map (λc=>(false,c))++[(true,68)])->(aX p num true k (j+1) (bq x (aw k) j a).sc E fs).2.2=0->
    FsQ p num C Kd (List.range' (j+1) k.size) E fs (aX p num true k (j+1) (bq x (aw k) j a).sc E fs).1 (aX p num true k (j+1) (bq x (aw k) j a).sc E fs).2.1:=λls E hl hk4 h0=>by
    obtain⟨b,q1,q2,q3,q4,q5,q6⟩:=ld (num:=num) ls k (j+1) (bq x (aw k) j a) (nL E 0) hl hk hk4;obtain⟨f1,f2,f3⟩:=qF ls k (j+1) hl hk hk4;rw[eK ls k hl hk4,<-q1] at h0 |-;have:=Fp C Kd N (am k) (j+1+ls.length+1) b E fs aa q2 q3 (λi g1 g2=>⟨ae,ae⟩) (λi g1 g2 g3=>hJ i aa (by simp only[Fo.size];omega) g3) h0;exact⟨by rw[f1];exact this.new,this.kp⟩
   have els:∀ (ls:List Int) (w u:Int) (bk:Nat),(ls.all eI)=true->k.V (ls.map (λc=>(false,c))++[(true,70)])->bk=j+1+ls.length->gV x.op=true->(x.op=16/\bk=j+4\/x.op=17/\bk=j+5)->w=aj p (bk-2)->u=aj p (bk-1)->
    (i_ j a.sc fs (dI p num a.sc w u (am k) (bk+1) E [] 0)).2.2=0->FsQ p num C Kd (j::List.range' (j+1) k.size) E fs (i_ j a.sc fs (dI p num a.sc w u (am k) (bk+1) E [] 0)).1 (i_ j a.sc fs (dI p num a.sc w u (am k) (bk+1) E [] 0)).2.1:=λls w u bk hl hk4 hbk hfd hcs hw hu h0=>by
    obtain⟨b,q1,q2,q3,q4,q5,q6⟩:=ld (num:=num) ls k (j+1) (bq x (aw k) j a) (nL E 0) hl hk hk4;obtain⟨f1,f2,f3⟩:=qF ls k (j+1) hl hk hk4;subst hbk;obtain⟨news,g1,g2,g3,g4,g5,g6,g7⟩:=Fc (num:=num) a.sc w u (am k) (j+1+ls.length+1) E [] 0 q2 q3 h0;have hKb:Kd (j+1+ls.length)=am k:=ae
    have hfl:gF p (j::List.range' (j+1) k.size)=[j]:=by
     unfold gF;rw[Z2o,hx,hfd,if_pos rfl]
     have:gF p (List.range' (j+1) k.size)=[]:=by rw[f1];exact yK q2 (yR q3)
     unfold gF at this;rw[this]
    unfold i_ ud;unfold i_ at h0;simp only at h0 |-;rw[if_pos h0];rw[Z1e] at g1;refine⟨⟨_,rfl,ae,λd hd=>?_,λk' k1 k2 _=>⟨_,Z0m.2 rfl,ae⟩⟩,g5⟩
    rcases Z0m.1 hd with rfl
    refine⟨?_,j,j+1+ls.length,rfl,ae,ae⟩;refine⟨⟨j,j+1+ls.length,rfl,ae,by rw[hCj],?_,?_⟩,?_⟩
    ·rw[hKb];simp only;rw[g4];omega
    ·rw[hKb,<-hw,<-hu];simp only;rw[g1];exact g2
    ·simp only;rw[g1];exact g3
   have hns: ¬(x.op=10\/x.op=11\/x.op=12)->(bq x (aw k) j a).sc=a.sc:=λh=>by
    grind [bq]
   intro h0;unfold gS at h0 |-;by_cases h10:x.op=10
   ·obtain⟨g1,g2⟩:=I9 hk (.inl h10) h4 (hJj (by rw[h10];decide))
    rw[if_pos h10,if_neg ae] at h0 |-;by_cases hcn:(fD E (cc p (j+1) a.sc).1).2=false
    ·grind
    ·rw[if_neg hcn,<-g2] at h0 |-
     have h4':=h4;rw[h10] at h4';have:=blk [110] E rfl h4' h0;exact⟨by rw[hfj (by rw[h10];decide)];exact this.new,this.kp⟩
   rw[if_neg h10] at h0 |-;by_cases h16:x.op=16
   ·rw[if_pos h16] at h0 |-
    have h4':=h4;rw[h16] at h4';exact els [110,105,105] _ _ (j+4) rfl h4' rfl (by rw[h16];decide) (.inl ⟨h16,rfl⟩) rfl rfl h0
   rw[if_neg h16] at h0 |-;by_cases h17:x.op=17
   ·rw[if_pos h17] at h0 |-
    have h4':=h4;rw[h17] at h4';exact els [110,110,105,105] _ _ (j+5) rfl h4' rfl (by rw[h17];decide) (.inr ⟨h17,rfl⟩) rfl rfl h0
   rw[if_neg h17] at h0 |-;by_cases he:(bt p num E j a.sc).2.2.2=0
   ·rw[if_neg (λh=>h he)] at h0 |-
    obtain⟨y,hy⟩:=F4 he
    have k1:Kp E (bt p num E j a.sc).1:=by rw[hy];exact Kp.app E y
    have hfn:gV x.op=false:=by grind [gV]
    by_cases hb:x.op=11\/x.op=12
    ·rw[if_pos hb] at h0 |-
     obtain⟨g1,g2⟩:=I9 hk (.inr hb) h4 (hJj (by grind [fC]))
     have g3:(bt p num E j a.sc).2.2.1=(bq x (aw k) j a).sc:=by
      grind [F3]
     rw[g3] at h0 |-
     have:FsQ p num C Kd (List.range' (j+1) k.size) (bt p num E j a.sc).1 fs (aX p num true k (j+1) (bq x (aw k) j a).sc (bt p num E j a.sc).1 fs).1 (aX p num true k (j+1) (bq x (aw k) j a).sc (bt p num E j a.sc).1 fs).2.1:=by
      rcases hb with hb|hb
      ·have h4':=h4
       rw[hb] at h4';exact blk [115] _ rfl h4' h0
      ·have h4':=h4
       rw[hb] at h4';exact blk [115,105,105] _ rfl h4' h0
     have q0:FsQ p num C Kd [] E fs (bt p num E j a.sc).1 fs:=FsQ.nil rfl k1 (Bg he ae);have q1:=q0.cat (l:=List.range' (j+1) k.size) this rfl;exact⟨by rw[hfj hfn];exact q1.new,q1.kp⟩
    ·rw[if_neg hb]
     have hq:k.all quiet:=fj h4 λsl hsl=>by
      obtain⟨b,hb',rfl⟩:=Z1d.1 hsl;exact iy h1 (.inl rfl) (by unfold gw;rw[decide_eq_false_iff_not];omega) b hb'
     exact FsQ.nil (by rw[hfj hfn];exact yK hk (vF hq)) k1 (Bg he ae)
   all_goals grind
  generalize gS p num x k j a.sc E fs (λsc E fs=>aX p num true k (j+1) sc E fs)=Q at*;obtain⟨E1,fs1,e⟩:=Q;by_cases he:e=0
  ·subst he
   rw[if_pos rfl] at h0 |-;have q:=Fp C Kd N n (j+1+k.size) a E1 fs1 aa ha.2.2.2 h5 hKn (λi g1 g2 g3=>hJ i aa (by simp only[Fo.size];omega) g3) h0;refine (key rfl).cat q ?_;rw[qi ha]
   grind [gF]
  all_goals grind
end
end
def cl (p:List Nd) (i:Nat):Nat:=if (p.getD i dN).op=17 then i+5 else i+4
def om (p:List Nd) (t:Fo) (i:Nat):List Nat:=(t.kid 0 (cl p i)).starts (cl p i+1)
abbrev jd (p:List Nd) (i:Nat):Int:=aj p (cl p i-2)
abbrev lm (p:List Nd) (i:Nat):Int:=aj p (cl p i-1)
def vy (p:List Nd) (t:Fo) (num:Int) (T:List Tb) (E:List Ent) (i:Nat) (K:List Rk):List Rk×Int:=
 BH p num (ay 0 E) K i (aF t i).sc (om p t i) (λa b l=>fM (bX T (E.getD a.toNat eZ) 2) (bX T (E.getD a.toNat eZ) 3) (bX T (E.getD a.toNat eZ) 4) b l (jd p i) (lm p i)) (λb l=>fM 0 0 (uX (jh p (om p t i)) (jd p i)) b l (jd p i) (lm p i))
theorem Af (p:List Nd) (t:Fo) (num:Int) (T:List Tb) (E:List Ent) (i:Nat) (K:List Rk):(vy p t num T E i K).1.length<=K.length+1:=by
 unfold vy BH
 repeat' split
 all_goals simp
theorem pP (sp ba ln idx dat:Int):∀ (us:List Int) (E:List Ent),ay 0 (eB sp ba ln idx dat us E).1=ay 0 E
 |[],_=>rfl
 |u::us,E=>by
  rw[eB];split
  ·rw[pP sp ba ln idx dat us]
   exact pQ E 0 u.toNat _ λx hx=>by rw[Z00,hx];rfl
  ·rfl
theorem kg {T:List Tb} {x y:Ent} (h:stE x=stE y) (o:Nat):bX T x o=bX T y o:=by
 unfold stE cV at h;cases x;cases y;simp only[Ent.mk.injEq] at h;unfold bX;simp only;rw[h.2.2.2.1,h.2.2.2.2.1]
theorem lN {E F:List Ent} (h:ay 0 E=ay 0 F) (k:Nat):stE (E.getD k eZ)=stE (F.getD k eZ):=by
 have key:∀ (E:List Ent) (s k:Nat),((ay s E).getD k (0,stE eZ)).2=stE (E.getD k eZ):=by
  intro E
  induction E with
  |nil=>intro s k;cases k<;>rfl
  |cons x t ih=>
   intro s k
   cases k with
   |zero=>rfl
   |succ k=>exact ih (s+1) k
 rw[<-key E 0 k,h,key F 0 k]
section
variable {p:List Nd} {t:Fo} {num:Int} {T:List Tb} {E:List Ent}
theorem IR {E2:List Ent} {d:Fd} {i:Nat} {rs:List Int} {K:List Rk} (hq:FdQ p (aF t) (t.kid 0) E d) (hi:d.node=(i:Int)) (hn:ay 0 E2=ay 0 E) (hs:∀ u,gQ E2 u=gQ E u):
 (gk p T d d.node.toNat E2 rs).2.2=(vy p t num T E i K).2/\ay 0 (gk p T d d.node.toNat E2 rs).1=ay 0 E/\∀ u,gQ (gk p T d d.node.toNat E2 rs).1 u=gQ E u:=by
 obtain⟨⟨i',blk,h1,h2,h3,h4,h5⟩,h6⟩:=hq;obtain rfl:i'=i:=aa
 have hb:blk=cl p i':=by
  grind [cl]
 subst hb
 have hall:∀ f:Int->Int->Int->Int->Bool,(d.units.all λu=>f (gQ E2 u).1 (gQ E2 u).2.1 (gQ E2 u).2.2.1 (gQ E2 u).2.2.2)=(Gn p (om p t i') 0).all λx=>f x.1 x.2 (jd p i') (lm p i'):=λf=>by
  have e1:(d.units.all λu=>f (gQ E2 u).1 (gQ E2 u).2.1 (gQ E2 u).2.2.1 (gQ E2 u).2.2.2)=(d.units.map (gQ E)).all λq=>f q.1 q.2.1 q.2.2.1 q.2.2.2:=by
   grind
  rw[e1,h5,List.all_map];rfl
 have hu0:∀ u∈d.units,0<=u:=λu hu=>(h6 u hu).1
 have hfn:∀ i op,qg (ay 0 E) d.scope (p.getD i dN).str op=(eY p E2 d.scope i op).map λk:Nat=>(k:Int):=λi op=>by rw[<-hn,AI]
 rw[hi,Z12];unfold gk vy BH;rw[<-h3]
 rcases h2 with ⟨e1,e2⟩|⟨e1,e2⟩
 ·rw[if_pos e1,if_neg ae,hfn]
  cases hk:eY p E2 d.scope (i'+1) 15 with
  |none=>grind
  |some k=>
   have hst:=lN hn k;have hun:=CS (bX T (E2.getD k eZ) 2) (bX T (E2.getD k eZ) 3) (bX T (E2.getD k eZ) 4) (-1) (-1) d.units E2 hu0;refine⟨?_,by rw[<-hn];exact pP _ _ _ _ _ _ _,λu=>(hun.2 u).trans (hs u)⟩
   show (eB _ _ _ _ _ _ _).2=(if ol _ p (om p t i') 0=true then 0 else 1)
   rw[hun.1,hall λb l w u=>fM (bX T (E2.getD k eZ) 2) (bX T (E2.getD k eZ) 3) (bX T (E2.getD k eZ) 4) b l w u,xH,kg hst 2,kg hst 3,kg hst 4];rfl
 ·rw[if_neg ae,if_pos e1,hfn,hfn]
  have ew:aj p (i'+3)=jd p i':=ae
  cases hk:eY p E2 d.scope (i'+1) 18 with
  |none=>grind
  |some k=>
   cases hk2:eY p E2 d.scope (i'+2) 18 with
   |none=>grind
   |some k2=>
    have hun:=CS 0 0 ((d.bits+8*aj p (i'+3)-1).tdiv (8*aj p (i'+3))*aj p (i'+3)) k k2 d.units E2 hu0;refine⟨?_,by rw[<-hn];exact pP _ _ _ _ _ _ _,λu=>(hun.2 u).trans (hs u)⟩
    show (eB _ _ _ _ _ _ _).2=(if ol _ p (om p t i') 0=true then 0 else 1)
    rw[hun.1,hall λb l w u=>fM 0 0 ((d.bits+8*aj p (i'+3)-1).tdiv (8*aj p (i'+3))*aj p (i'+3)) b l w u,xH,ew,h4];rfl
theorem Ad:∀ (l:List Nat) (fs:List Fd) (E2:List Ent) (rs:List Int) (K:List Rk),fs.map (·.node)=(gF p l).map (λi:Nat=>(i:Int))->(∀ d∈fs,FdQ p (aF t) (t.kid 0) E d)->ay 0 E2=ay 0 E->(∀ u,gQ E2 u=gQ E u)->
 (gf p T fs E2 rs).2.2=(xV p (vy p t num T E) l K).2/\ay 0 (gf p T fs E2 rs).1=ay 0 E
 |[],fs,E2,rs,K,h1,_,h3,_=>by
  have:fs=[]:=by simpa [gF] using h1
  subst this;exact⟨rfl,h3⟩
 |i::l,fs,E2,rs,K,h1,h2,h3,h4=>by
  rw[xV];by_cases ho:(p.getD i dN).op=16\/(p.getD i dN).op=17
  ·rw[if_pos ho]
   have hf:gF p (i::l)=i::gF p l:=by grind [gF,gV]
   rw[hf,Z13] at h1
   cases fs with
   |nil=>simp at h1
   |cons d fs=>
    rw[Z13,Z4s] at h1;obtain⟨g1,g2,g3⟩:=IR (num:=num) (T:=T) (rs:=rs) (K:=K) (h2 d (.head _)) h1.1 h3 h4;rw[gf,g1];by_cases he:(vy p t num T E i K).2=0
    ·rw[if_pos he,if_pos he]
     exact Ad l fs _ _ _ h1.2 (λd hd=>h2 d (.tail _ hd)) g2 g3
    all_goals grind
  ·rw[if_neg ho]
   have hf:gF p (i::l)=gF p l:=by grind [gF,gV]
   rw[hf] at h1;exact Ad l fs E2 rs K h1 h2 h3 h4
end
section
variable {i:Nat}
theorem mE:∀ (t:Fo) (j:Nat),(t.starts j).Nodup
 | .nil,_=>Z5b
 | .cons x k n,j=>by
   rw[Fo.starts,Z4r];exact⟨λh=>by have:=(bC h).1;omega,mE n _⟩
section
variable {p:List Nd} {t:Fo}
theorem F6 {w u:Int} (h:jW w u=false):(w=1\/w=2\/w=4\/w=8)/\u<=2:=by
 grind [jW]
theorem EU (H:PrO p) (hi:i<p.length) (ho:(p.getD i dN).op=16\/(p.getD i dN).op=17):(jd p i=1\/jd p i=2\/jd p i=4\/jd p i=8)/\0<=lm p i/\lm p i<=2:=by
 have h:=H.hO i hi;have h0:0<=lm p i:=ce H.hI (cl p i-1)
 have key:jW (jd p i) (lm p i)=false:=by
  grind [aN,cl]
 exact⟨(F6 key).1,h0,(F6 key).2⟩
theorem tT (ha:t.At p 0) (hv:t.V (List.replicate t.cnt (false,68))) (hi:i<t.size) (ho:(p.getD i dN).op=16\/(p.getD i dN).op=17):
 cl p i<t.size/\(t.kid 0 (cl p i)).At p (cl p i+1)/\(t.kid 0 (cl p i)).V (List.replicate (t.kid 0 (cl p i)).cnt (false,70))/\(t.kid 0 i).starts (i+1)=List.range' (i+1) (cl p i-i)/\cl p i+1+(t.kid 0 (cl p i)).size<=t.size:=by
 obtain⟨_,hk,h2,_,_⟩:=bT ha hv hi aa;have hsz:=bv (t:=t) (Z08 i) aa
 have key:∀ ls:List Int,ls.all eI=true->(t.kid 0 i).V (ls.map (λc=>(false,c))++[(true,70)])->cl p i=i+1+ls.length->cl p i<t.size/\(t.kid 0 (cl p i)).At p (cl p i+1)/\(t.kid 0 (cl p i)).V (List.replicate (t.kid 0 (cl p i)).cnt (false,70))/\(t.kid 0 i).starts (i+1)=List.range' (i+1) (cl p i-i)/\cl p i+1+(t.kid 0 (cl p i)).size<=t.size:=λls hl hv4 hb=>by
  obtain⟨b,q1,q2,q3,q4,q5,q6⟩:=ld (num:=0) ls (t.kid 0 i) (i+1) ini (nL [] 0) hl hk hv4;obtain⟨f1,f2,f3⟩:=qF ls (t.kid 0 i) (i+1) hl hk hv4;have e:=(ct ha (Z08 i) aa (aa:i<i+1+ls.length) aa ini).1
  have hs:∀ (ls:List Int) (k:Fo) (j:Nat),ls.all eI=true->k.V (ls.map (λc=>(false,c))++[(true,70)])->k.starts j=List.range' j (ls.length+1):=by
   intro ls
   induction ls with
   |nil=>
    intro k j _ hv;obtain⟨y,bl,n,rfl,h1,h2,h3⟩:=jY hv;have:=iE h1;subst this;rfl
   |cons c ls ih=>
    intro k j hl hv;simp only[Z1b,Z07] at hl;obtain⟨y,n,rfl,h1,hop⟩:=eN hl.1 hv;rw[Fo.starts,ih n _ hl.2 h1];rfl
  grind
 rcases ho with ho|ho
 ·rw[ho] at h2
  exact key [110,105,105] rfl h2 (by grind [cl])
 ·rw[ho] at h2
  exact key [110,110,105,105] rfl h2 (by unfold cl;rw[if_pos ho];rfl)
theorem I_ (H:PrO p) (ha:t.At p 0) (hv:t.V (List.replicate t.cnt (false,68))) (hs:t.size=p.length) (hi:i<t.size) (ho:(p.getD i dN).op=16\/(p.getD i dN).op=17) {c:Nat} (hc:c∈om p t i):
 c+1<p.length/\((p.getD c dN).op=18->c+2<p.length)/\(0<=g_ p c/\g_ p c<=8388608)/\IntKind.i64.wrap (p.getD (c+1) dN).int=(p.getD (c+1) dN).int/\((p.getD c dN).op=18->1<=g_ p c/\g_ p c<=256):=by
 obtain⟨b1,b2,b3,b4,b5⟩:=tT ha hv hi ho;have hr:=bC hc;have hcl:c<p.length:=aa;obtain⟨sl,hsl,g1⟩:=eq b2 b3 hc;have:=(Z3b.1 hsl).2;subst this;have hop:=nE g1.1.1;have hn:=H.hN c hcl;have hor:=H.hO c hcl;unfold kN at hn;have i1:=ce H.hI (c+1);have i2:=ce H.hI (c+2)
 rcases hop with h18|h19
 ·have hz:g_ p c=aj p (c+2):=if_pos h18
  have hb:=yg hor h18;have hc2:c+2<p.length:=hn.2.2.2.1 (.inr (.inl h18))
  have h1:1<=aj p (c+2):=by
   have h2:(decide (aj p (c+2)=0)||decide (256<aj p (c+2)))=false:=by
    grind [aN]
   simp only[Z2y,decide_eq_false_iff_not] at h2;have i2:0<=aj p (c+2):=i2;omega
  have hk:=g1.2.1;rw[h18] at hk;obtain⟨y,n,e,_,hyo⟩:=eN (c:=115) ac hk
  have hat:p.getD (c+1) dN=y:=by
   obtain⟨_,hk2,_,_,_⟩:=bT ha hv (aa:c<t.size) aa;have e2:=(ct ha (Z08 _) (aa:cl p i<0+t.size) (aa:cl p i<c) aa ini).1
   grind [At.get]
  have hy:(p.getD (c+1) dN).int=0:=by
   rw[hat];rw[e] at hk;have hf:=hk.1.2.1;have ha3:=hk.1.1
   grind [bH,b_]
  rw[hz];unfold aj at hb h1 |-;exact⟨aa,λ_=>hc2,⟨aa,aa⟩,by rw[hy];rfl,λ_=>⟨h1,hb⟩⟩
 ·have hz:g_ p c=aj p (c+1):=if_neg aa
  have hb:=yf hor h19;have hc2:c+1<p.length:=hn.2.2.2.2.1 (.inl h19);rw[hz];unfold aj at hb |-;exact⟨hc2,λh=>by omega,⟨i1,hb⟩,aB aa aa,λh=>by omega⟩
theorem Mm (H:PrO p) (ha:t.At p 0) (hv:t.V (List.replicate t.cnt (false,68))) (hs:t.size=p.length) (hi:i<t.size) (ho:(p.getD i dN).op=16\/(p.getD i dN).op=17) (num:Int):
 FdR p ⟨num,i,0,if (p.getD i dN).op=17 then 0 else-1⟩ (om p t i) (jd p i) (lm p i):=by
 obtain⟨b1,b2,b3,b4,b5⟩:=tT ha hv hi ho;obtain⟨c1,c2,c3⟩:=EU H aa ho;have hk1:=eV H.hp ha hv hs hi;have hk2:=eV H.hp ha hv hs b1;rw[b4] at hk1;refine⟨⟨i,cl p i,_,rfl,hk1,hk2,aa,?_,?_,rfl,rfl⟩,?_,λc hc=>?_,aa,aa,c2,c3,?_⟩
 ·grind [cl]
 ·unfold cl
  rcases ho with ho|ho
  ·rw[ho];simp[Z31]
  ·rw[ho];simp[Z31]
 all_goals grind [bE,om,Fo.cnt_le,H.hp,I_]
end
end
theorem BV (p:List Nd) (hacc:FQ 82 [al p] 0 [] (bV false) 0 []) (O:List Ro) (T:List Rt) (K:List Rk) (nx nh:Int):
 FQ 45 [.s (.ptr (some (0,0))),al p] 7 (Di O T K nx nh) (GL 0 1) 13 (Gr O T K nx nh):=by
 refine wW Tryz.func45 ?_
 repeat'(first|refine yA ?_|refine y2 ?_ ?_|refine bG hacc ?_|exact y5|fail)
 all_goals exact Fin.zm (.inl rfl) rfl rfl rfl rfl rfl rfl rfl
theorem BW (p:List Nd) (hw:kO p) (hI:li p):∃ G G2:Dgs,G.length<=1000000000/\G2.length<=1000000000/\(C6 G↔C6 G2)/\FQ 65 [al p] 0 [] (oC G) 0 []/\FQ 23 [al p] 0 [] (oC G2) 0 []/\
 (C6 G->PrO p/\∃ t:Fo,t.At p 0/\t.V (List.replicate t.cnt (false,68))/\t.size=p.length/\EOK p (cz t)/\FQ 68 [al p] 0 [] (.s (.frz (λk=>[.int .i64 (((cz t).getD k 0:Nat):Int)]) 1 (cz t).length)) 0 []/\
   ∀ i,i<t.size->fC (p.getD i dN).op=true->i+1<p.length/\aw (t.kid 0 i)=(ai (p.getD (i+1) dN).str).1/\(ax (aF t i).sc (ai (p.getD (i+1) dN).str).1).2=true):=by
 have hwN:oh p:=λx hx=>by have:=hw x hx;omega
 cases h:eR p with
 |false=>exact⟨[(0,1)],[(0,1)],ac,ac,Z44,FG p hwN h,Ia p hw h,λe=>by have:=e (0,1) (Z0m.2 rfl);cases this⟩
 |true=>
  obtain⟨hp,t,ha,hv,hd,hs⟩:=ll h;have hck:FQ 65 [al p] 0 [] (oC (fO (mh p t))) 0 []:=sj p hwN hI h hp t ha hv hs;have hG:=Dm hp ha hv hs;have hgl:(Dz p t).length<=10*t.size:=mM t.size;refine⟨_,Dz p t,hG,aa,⟨λh d hd=>h d ((Au ha hv hs d).2 hd),λh d hd=>h d ((Au ha hv hs d).1 hd)⟩,hck,FF hp hw hI h ha hv hs,λh6=>⟨⟨hp,hwN,hI,λj hj=>FN (FM h6) j hj,λj hj=>?_⟩,t,ha,hv,hs,wS ha hv hs,?_,λi hi ho=>?_⟩⟩
  ·obtain⟨sl,h1,h2⟩:=cM ha hv (Z08 _) (aa:j<0+t.size)
   exact yn h1 h2
  ·rcases Z21 p.length with e|e
   ·obtain rfl:=Z15 e
    cases t with
    |nil=>exact E5
    |cons x k n=>simp only[Fo.size,Z0e] at hs;omega
   ·exact E6 p hp e t ha hv hs
  ·have hop:(p.getD i dN).op=10\/ca (p.getD i dN).op=true:=by
    grind [fC,ca]
   obtain⟨g1,g2,_⟩:=Ao ha hv hi hop;refine⟨g1,g2,?_⟩
   cases e:(ax (aF t i).sc (ai (p.getD (i+1) dN).str).1).2 with
   |true=>rfl
   |false=>
    have hb:kE p t i=true:=by
     grind [kE,Gw]
    have hm:(i,2)∈mh p t:=(lQ ha hv hs (i,2)).2 (.inl ⟨i,hi,by grind [Ch]⟩);have:=FM h6 (i,2) hm;cases this
def bI (s:Int):List Tb->List Rt
 |[]=>[]
 |x::t=>(s,x.p)::bI (s+1) t
theorem jE:∀ (T:List Tb) (s:Int),(bI s T).length=T.length
 |[],_=>rfl
 |x::t,s=>by rw[bI,Z04,jE t,Z04]
theorem ik:∀ (T U:List Tb) (s:Int),bI s (T++U)=bI s T++bI (s+T.length) U
 |[],U,s=>by simp[bI]
 |x::t,U,s=>by
  rw[Z25,bI,bI,ik t U,Z25,Z04]
  grind
theorem ij:∀ (T:List Tb) (s:Int) (j:Nat),j<T.length->((bI s T).getD j dT).2=(T.getD j tZ).p
 |[],_,_,h=>by grind
 |x::t,s,0,_=>rfl
 |x::t,s,j+1,h=>ij t (s+1) j ae
theorem py:∀ (T:List Tb) (s:Int) (k j:Nat),j<T.length->jo (s+j) k (bI s T)=((k+j:Nat):Int)
 |[],_,_,_,h=>by grind
 |x::t,s,k,0,_=>by rw[bI,jo,if_pos aq];rfl
 |x::t,s,k,j+1,h=>by
  rw[bI,jo,if_neg ae];have:=py t (s+1) (k+1) j ae
  grind
theorem IS {E:List Ent} {T:List Tb} (hr:RegE T E) {a:Int} {y:Ent} (hy:fu a (ay 0 E)=some y) (ho:y.op=15):
 RegR (ay 0 E) (bI 1 T) a (bX T (E.getD a.toNat eZ) 2) (bX T (E.getD a.toNat eZ) 3) (bX T (E.getD a.toNat eZ) 4)/\0<=bX T (E.getD a.toNat eZ) 3/\bX T (E.getD a.toNat eZ) 3<=9223372036854775808/\0<=bX T (E.getD a.toNat eZ) 4/\bX T (E.getD a.toNat eZ) 4<=1048576:=by
 have hy':=hy;rw[iK] at hy';split at hy'
 ·rename_i h0
  have e0:(a-((0:Nat):Int)).toNat=a.toNat:=aq;rw[e0] at hy'
  have hlt:a.toNat<E.length:=by
   grind
  have hx:stE (E.getD a.toNat eZ)=y:=by
   grind
  have hop:(E.getD a.toNat eZ).op=15:=by rw[<-ho,<-hx];rfl
  obtain⟨⟨j,nd,g1,g2,g3,g4,g5,g6,g7⟩,s0,s1,b0,b1,l0,l1⟩:=hr a.toNat hlt hop;refine⟨⟨⟨y,j,nd,hy,?_,by rw[jE];exact g2,by rw[<-hx];exact g3,by rw[ij _ _ _ g2];exact g4,by rw[ij _ _ _ g2];exact g5,by rw[ij _ _ _ g2];exact g6,by rw[ij _ _ _ g2];exact g7⟩,s0,s1⟩,b0,b1,l0,l1⟩;rw[<-hx];show jo (E.getD a.toNat eZ).tab 0 _=_;rw[g1,py T 1 0 j g2,Z0c]
 ·cases hy'
def LdQ (p:List Nd) (E:List Ent) (T:List Tb) (K:List Rk) (E':List Ent) (T':List Tb) (K':List Rk):Prop:=
 ∃ (t:Fo) (D:List Ent) (fs:List Fd),t.At p 0/\t.V (List.replicate t.cnt (false,68))/\t.size=p.length/\PrO p/\RegE (T++[⟨p,[]⟩]) D/\FsQ p (1+(T.length:Int)) (aF t) (t.kid 0) (List.range' 0 t.size) E [] D fs/\Gro p (1+(T.length:Int)) E.length E E'/\(gf p (T++[⟨p,[]⟩]) fs D []).2.2=0/\
   E'=(gf p (T++[⟨p,[]⟩]) fs D []).1/\(∃ rs,T'=T++[⟨p,rs⟩])/\K'=(xV p (vy p t (1+(T.length:Int)) (T++[⟨p,[]⟩]) D) (List.range p.length) K).1
structure LoadB (p:List Nd) (E:List Ent) (T:List Tb) (K:List Rk) (E':List Ent) (T':List Tb) (K':List Rk) (z e:Int):Prop where
 h:LoadR p E T E' T' z e
 r:FQ 45 [.s (.ptr (some (0,0))),al p] 7 (Di (ay 0 E) (bI 1 T) K E.length (1+(T.length:Int))) (GL z e) 13 (Gr (ay 0 E') (bI 1 T') K' E'.length (1+(T'.length:Int)))
 root:RootE E'
 len:E'.length<=1024
 k:K'.length<=K.length+2048
 q:(E'=E/\T'=T/\K'=K)\/LdQ p E T K E' T' K'
theorem IQ {G:Dgs}:lf G=true↔C6 G:=by
 unfold C6;rw[Z0i];simp
theorem s_ {p:List Nd} {F:Nat->List Rk->List Rk×Int} (hF:∀ i K,(F i K).1.length<=K.length+1):∀ (l:List Nat) (K:List Rk),(xV p F l K).1.length<=K.length+l.length
 |[],K=>Z02 _
 |i::l,K=>by
  have h1:=hF i K;have h2:=s_ (p:=p) hF l (F i K).1;have h3:=s_ (p:=p) hF l K;rw[xV,Z04]
  repeat' split
  all_goals omega
theorem AR (p:List Nd) (num:Int) (Sc:List Pth):∀ (l:List Nat) (O:List Ro) (nx:Int),O.length<=1024->(Gz p num Sc l O nx).1.length<=1024
 |[],_,_,h=>h
 |i::l,O,nx,h=>by
  have h1:=(sh p num O nx i (Sc.getD i z0)).2.1 h;rw[Gz];split
  ·exact AR p num Sc l _ _ h1
  ·exact h1
theorem RootE.num {E F:List Ent} (h:RootE E) (e:ay 0 F=ay 0 E):RootE F:=by
 obtain⟨x,t,rfl,hx⟩:=h
 cases F with
 |nil=>cases e
 |cons y u=>
  have:=lN e 0;exact⟨y,u,rfl,(congrArg Ent.path this).trans hx⟩
theorem Hd {p:List Nd} (hw:kO p) (H:PrO p) {t:Fo} (ha:t.At p 0) (hv:t.V (List.replicate t.cnt (false,68))) (hs:t.size=p.length) {T:List Tb} {E:List Ent} (num:Int) (hreg:RegE T E) (hT:T.length<=11) (hT0:0<T.length) (h0:0<E.length) (h1:E.length<=1024)
 {i:Nat} (hi:i<p.length) (ho:(p.getD i dN).op=16\/(p.getD i dN).op=17) (K':List Rk) (hK':K'.length<=100000) (nx nh:Int) (R:List Rk×Int) (hR:vy p t num T E i K'=R):
 FQ 86 [.s (.ptr (some (0,0))),al p,nI i,hY (aF t i).sc,nI num] 7 (Di (ay 0 E) (bI 1 T) K' nx nh) (nI R.2) 9 (G_ (ay 0 E) (bI 1 T) R.1 nx nh):=by
 have hnl:(bI 1 T).length=T.length:=jE _ _
 have hrg:=λa y h1 h2=>IS hreg (a:=a) (y:=y) h1 h2
 generalize bI 1 T=TT at hnl hrg |-;have hac:=EU H hi ho;have hit:i<t.size:=aa;have hf:=Mm H ha hv hs hit ho num
 have hln:∀ c∈om p t i,(p.getD c dN).op=18->1<=g_ p c/\g_ p c<=256:=λc hc h=>(I_ H ha hv hs hit ho hc).2.2.2.2 h
 have hfm:=mZ (aF t i).sc
 have hi5:i+5<p.length\/(p.getD i dN).op=16:=by
  rcases ho with h|h
  ·exact .inr h
  ·left
   have:=(tT ha hv hit (.inr h)).1;unfold cl at this;rw[if_pos h] at this;omega
 have hp2:∀ nm,0<=(dG (ay 0 E) (aM (aF t i).sc) nm).getD 0:=λnm=>by
  rw[vW]
  cases fw E (aM (aF t i).sc) nm with
  |none=>exact Z2l _
  |some k=>exact Z5f k
 have hO:(ay 0 E).length<=100000:=by rw[bO];omega
 have hO0:0<(ay 0 E).length:=by rw[bO];omega
 cases TT with
 |nil=>simp only[Z0e] at hnl;omega
 |cons t0 tt=>
  unfold vy at hR;exact He p H.hp hw num (ay 0 E) t0 tt K' nx nh hO hO0 aa hK' i (aF t i).sc (dS (iA t i)) aa ho (om p t i) (jd p i) (lm p i) hf hi5 hac.1 (mE _ _) hln _ _ _ hrg hp2 R hR
theorem KN (p:List Nd) (hw:kO p) (hI:li p) (E:List Ent) (T:List Tb) (hT:T.length<=10) (hreg:RegE T E) (hbit:BitO E) (hroot:RootE E) (hEl:E.length<=1024) (K:List Rk) (hK:K.length<=50000):∃ E' T' K' z e,LoadB p E T K E' T' K' z e:=by
 obtain⟨G,G2,hG,hG2,h62,hck,hrk,hpre⟩:=BW p hw hI;have hacc:=MH p G2 hG2 hrk
 have hE0:0<E.length:=by obtain⟨x,t,rfl,_⟩:=hroot;simp
 by_cases h6:C6 G
 ·rw[IQ.2 (h62.1 h6)] at hacc
  obtain⟨H,t,ha,hv,hs,hE,hen,hJ⟩:=hpre h6;have hp:=H.hp
  have hy:=λv n' L'=>Ej p H G hG hck h6 t ha hv hs hE hen E T hT hreg hbit _ rfl _ rfl v n' L'
  obtain⟨hdl,hr1⟩:=Mo (num:=1+(T.length:Int)) ha hs hv E hroot λi hi ho=>(hJ i hi ho).2.2
  have hdF:=Fp (num:=1+(T.length:Int)) (aF t) (t.kid 0) (t.size+1) t 0 ini E [] (Z1t _) ha hv (λi _ _=>⟨rfl,rfl⟩) λi _ h2 ho=>(hJ i aa ho).2.2
  have hdg:=ng (num:=1+(T.length:Int)) (m:=E.length) H t.size t 0 ⟨true,0,[]⟩ E [] (Z02 _) ha hv ⟨Z02 _,hbit,λd hd=>by cases hd⟩;have hdF:(aX p (1+(T.length:Int)) false t 0 ⟨true,0,[]⟩ E []).2.2=0->FsQ p (1+(T.length:Int)) (aF t) (t.kid 0) (List.range' 0 t.size) E [] (aX p (1+(T.length:Int)) false t 0 ⟨true,0,[]⟩ E []).1 (aX p (1+(T.length:Int)) false t 0 ⟨true,0,[]⟩ E []).2.1:=hdF;generalize aX p (1+(T.length:Int)) false t 0 ⟨true,0,[]⟩ E []=D at*;have hrs:=Df (p:=p) (num:=1+(T.length:Int)) (m:=E.length) (T:=T++[⟨p,[]⟩]) D.2.1 D.1 [] hdg.2.2 hdg.2.1 (λr hr=>by cases hr)
  have hsc:=Db p hp hw t ha hv hs λi hi ho=>by
   have:=hJ i hi (by unfold fC;rw[decide_eq_true_eq];omega);rw[this.2.1];exact this.2.2
  have hTn:∃ j:Nat,1+(T.length:Int)=1+(j:Int)/\j<(T++[(⟨p,[]⟩:Tb)]).length/\((T++[(⟨p,[]⟩:Tb)]).getD j tZ).p=p:=⟨T.length,rfl,aq,aq⟩
  have hreg1:RegE (T++[⟨p,[]⟩]) D.1:=RegE.gro H hTn hdg.1 (RegE.tab _ aq (λj hj=>by rw[ip hj]) hreg)
  have hnT:bI 1 T++[(1+(T.length:Int),p)]=bI 1 (T++[⟨p,[]⟩]):=by rw[ik];rfl
  have hsg:∀ i,i<p.length->(rF p t).getD i z0=(aF t i).sc/\de ((rF p t).getD i z0).segs:=λi hi=>by
   have e:=z_ (p:=p) ha (aa:i<t.size);rw[e];exact⟨rfl,dS (iA t i)⟩
  have hd:∀ i,i<p.length->∀ O' nx',O'.length<=1024->0<O'.length->0<=nx'->nx'<=1000000->FQ 85 [.s (.ptr (some (0,0))),al p,nI i,hY ((rF p t).getD i z0),nI (1+(T.length:Int))] 7 (rsV O' (bI 1 T++[(1+(T.length:Int),p)]).length K.length nx' (1+(T.length:Int)+1)) (nI (dq p (1+(T.length:Int)) O' nx' i ((rF p t).getD i z0)).2.2) 9 (rsW (dq p (1+(T.length:Int)) O' nx' i ((rF p t).getD i z0)).1 (bI 1 T++[(1+(T.length:Int),p)]).length K.length (dq p (1+(T.length:Int)) O' nx' i ((rF p t).getD i z0)).2.1 (1+(T.length:Int)+1)):=λi hi O' nx' g1 g2 g3 g4=>by
   refine Cf p hp hw (1+(T.length:Int)) O' _ K.length nx' _ aa g2 g3 g4 i hi _ (hsg i hi).2 (λho=>?_) _ rfl;have:=hJ i aa ho;refine⟨this.1,?_⟩;unfold qr;rw[(hsg i hi).1];exact dS (zt this.2.2)
  have hD0:0<D.1.length:=by obtain⟨x,t,e,_⟩:=hr1;rw[e];simp
  have hD1:D.1.length<=1024:=by
   have h:=AR p (1+(T.length:Int)) (rF p t) (List.range p.length) (ay 0 E) E.length (by rw[bO];exact hEl);rw[hdl] at h;have h:(ay 0 D.1).length<=1024:=h;rw[bO] at h;exact h
  have hr:D.2.2=0->∀ i,i<p.length->(p.getD i dN).op=16\/(p.getD i dN).op=17->∀ K':List Rk,K'.length<=100000->FQ 86 [.s (.ptr (some (0,0))),al p,nI i,hY ((rF p t).getD i z0),nI (1+(T.length:Int))] 7 (Di (ay 0 D.1) (bI 1 T++[(1+(T.length:Int),p)]) K' (D.1.length:Int) (1+(T.length:Int)+1)) (nI (vy p t (1+(T.length:Int)) (T++[⟨p,[]⟩]) D.1 i K').2) 9 (G_ (ay 0 D.1) (bI 1 T++[(1+(T.length:Int),p)]) (vy p t (1+(T.length:Int)) (T++[⟨p,[]⟩]) D.1 i K').1 (D.1.length:Int) (1+(T.length:Int)+1)):=λ_ i hi ho K' hK'=>by
   rw[hnT,(hsg i hi).1];exact Hd hw H ha hv hs _ hreg1 (by simp;omega) aq hD0 hD1 hi ho K' hK' _ _ _ rfl
  have k1:(rF p t).length=p.length:=by rw[zZ];exact hs
  have k2:(ay 0 E).length<=1024:=by rw[bO];exact hEl
  have k3:0<(ay 0 E).length:=by rw[bO];exact hE0
  have k4:(bI 1 T).length<=10:=by rw[jE];exact hT
  have h1:=Ke p hp (rF p t) k1 hsc hacc (ay 0 E) (bI 1 T) K (E.length:Int) (1+(T.length:Int)) k2 k3 k4 hK aa aa aa aa;have h2:=h1 hd (ay 0 D.1,(D.1.length:Int),D.2.2) hdl (vy p t (1+(T.length:Int)) (T++[⟨p,[]⟩]) D.1) (Af p t _ _ _);have hload:=h2 hr _ rfl;clear h1 h2;by_cases hd0:D.2.2=0
  ·obtain⟨⟨nw,n1,n2,n3,_⟩,_⟩:=hdF hd0
   rw[Z1e] at n1;obtain⟨g1,g2⟩:=Ad (t:=t) (num:=1+(T.length:Int)) (T:=T++[⟨p,[]⟩]) (List.range p.length) D.2.1 D.1 [] K (by rw[n1,Z4g,<-hs];exact n2) (λd hd=>(n3 d (by rw[<-n1];exact hd)).1) rfl (λ_=>rfl);have hkl:=s_ (p:=p) (Af p t (1+(T.length:Int)) (T++[⟨p,[]⟩]) D.1) (List.range p.length) K;rw[Z2e] at hkl
   have hLQ:(gf p (T++[⟨p,[]⟩]) D.2.1 D.1 []).2.2=0->LdQ p E T K (gf p (T++[⟨p,[]⟩]) D.2.1 D.1 []).1 (T++[⟨p,(gf p (T++[⟨p,[]⟩]) D.2.1 D.1 []).2.1⟩]) (xV p (vy p t (1+(T.length:Int)) (T++[⟨p,[]⟩]) D.1) (List.range p.length) K).1:=λh0=>⟨t,D.1,D.2.1,ha,hv,hs,H,hreg1,hdF hd0,hdg.1.trans hrs.1,h0,rfl,⟨_,rfl⟩,rfl⟩
   generalize gf p (T++[⟨p,[]⟩]) D.2.1 D.1 []=R at*;generalize xV p (vy p t (1+(T.length:Int)) (T++[⟨p,[]⟩]) D.1) (List.range p.length) K=RK at*;obtain⟨r1,r2,r3,r4⟩:=hrs;by_cases hr0:R.2.2=0
   ·have h1:=hy _ _ _ (λh=>absurd hd0 h) (λ_ h=>absurd hr0 h) λ_ _=>⟨rfl,rfl,rfl⟩
    have h2:=hload _ _ (λh=>absurd hd0 h) (λ_ h=>absurd (g1.symm.trans hr0) h) λ_ _=>⟨rfl,rfl⟩
    have hlT:(((T++[(⟨p,R.2.1⟩:Tb)]).length:Nat):Int)=(T.length:Int)+1:=aq
    have h3:LoadR p E T R.1 (T++[⟨p,R.2.1⟩]) (1+(T.length:Int)) 0:=by
     refine⟨?_,.inr ⟨rfl,rfl,R.2.1,rfl,H,hdg.1.trans r1,by rw[r3];exact r4,RegE.gro H ⟨T.length,rfl,aq,aq⟩ (hdg.1.trans r1) (RegE.tab _ aq (λj hj=>by rw[ip hj]) hreg),r2⟩⟩;unfold Lz;rw[hlT,show 1+((T.length:Int)+1)=1+(T.length:Int)+1 by omega];exact h1
    refine⟨R.1,_,RK.1,_,_,h3,?_,hr1.num g2,by rw[r3];exact hD1,aa,.inr (hLQ hr0)⟩;rw[g2,r3,hlT,ik,show 1+((T.length:Int)+1)=1+(T.length:Int)+1 by omega];exact h2
   ·have h2:=hload _ _ (λh=>absurd hd0 h) (λ_ _=>⟨rfl,rfl⟩) λ_ h=>absurd (g1.trans h) hr0
    exact⟨E,T,K,0,R.2.2,⟨hy _ _ _ (λh=>absurd hd0 h) (λ_ _=>⟨rfl,rfl,rfl⟩) λ_ h=>absurd h hr0,.inl ⟨hr0,rfl,rfl,rfl⟩⟩,by rw[g1];exact h2,hroot,hEl,Z1o _ _,.inl ⟨rfl,rfl,rfl⟩⟩
  ·have h2:=hload _ _ (λ_=>⟨rfl,rfl⟩) (λh=>absurd h hd0) λh=>absurd h hd0
   exact⟨E,T,K,0,D.2.2,⟨hy _ _ _ (λ_=>⟨rfl,rfl,rfl⟩) (λh=>absurd h hd0) λh=>absurd h hd0,.inl ⟨hd0,rfl,rfl,rfl⟩⟩,h2,hroot,hEl,Z1o _ _,.inl ⟨rfl,rfl,rfl⟩⟩
 ·have h6':lf G2=false:=by
   cases h:lf G2 with
   |false=>rfl
   |true=>exact absurd (h62.2 (IQ.1 h)) h6
  rw[h6'] at hacc;exact⟨E,T,K,0,1,⟨Ek p G hG hck h6 E T,.inl ⟨ac,rfl,rfl,rfl⟩⟩,BV p hacc _ _ _ _ _,hroot,hEl,Z1o _ _,.inl ⟨rfl,rfl,rfl⟩⟩
section
variable {E E':List Ent} {T:List Tb} {K:List Rk} {p:List Nd}
abbrev Lm (E:List Ent) (T:List Tb) (K:List Rk):Hp:=[(0,some (ge 1 2 3 (E.length:Nat) (1+(T.length:Int)))),(1,some (oB E)),(2,some (pB E)),(3,some (tB T)),(4,some (pC 5 7 9 (ay 0 E).length (bI 1 T).length K.length E.length (1+(T.length:Int)))),(5,some (oG 5 (ay 0 E))),(7,tR 7 (bI 1 T)),(9,kR 9 K)]
abbrev bsN (E:List Ent) (T:List Tb) (K:List Rk):Hp:=[(0,some (ge 11 12 13 (E.length:Nat) (1+(T.length:Int)))),(1,none),(2,none),(3,none),(11,some (oB E)),(12,some (pB E)),(13,some (tB T)),(4,some (pC 14 16 18 (ay 0 E).length (bI 1 T).length K.length E.length (1+(T.length:Int)))),(5,none),(7,none),(9,none),(14,some (oG 14 (ay 0 E))),(16,tR 16 (bI 1 T)),(18,kR 18 K)]
theorem jD:fg 11 (Lm E T K)=true:=by
 unfold Lm tR kR;generalize (bI 1 T).flatMap rG=c1;generalize K.flatMap kH=c2
 cases c1<;>cases c2<;>rfl
theorem J0:fg 20 (bsN E T K)=true:=by
 unfold bsN tR kR;generalize (bI 1 T).flatMap rG=c1;generalize K.flatMap kH=c2
 cases c1<;>cases c2<;>rfl
theorem o0 {T':List Tb} {K':List Rk} {z e:Int} (h:LoadB p E T K E' T' K' z e):
 FQ 13 [.agg [.ptr (some (0,0)),.ptr (some (4,0))],al p] 11 (Lm E T K) (bV true) 20 (bsN E' T' K'):=by
 have h1:=h.h.h;have h2:=h.r;refine wW Tryz.func13 ?_
 repeat'(first|refine yA ?_|refine y2 ?_ ?_|refine y4 λh=>?_|(refine wX ?_;refine kF [0,1,2,3] h1 rfl rfl rfl rfl rfl aP pi rfl rfl (wr:=[(0,some (ge 12 13 14 (E'.length:Nat) (1+(T'.length:Int)))),(1,none),(2,none),(3,none),(12,some (oB E')),(13,some (pB E')),(14,some (tB T'))]) (by rfl) ?_)|(refine wX ?_;refine kF [4,5,6,7,8,9,10] h2 rfl yi rfl rfl rfl aP ⟨⟨rfl,_,rfl,rfl,λh=>h⟩,⟨rfl,_,rfl,rfl,λh=>h⟩,mp rfl rfl (mp rfl rfl trivial)⟩ rfl rfl (wr:=[(4,some (pC 15 17 19 (ay 0 E').length (bI 1 T').length K'.length E'.length (1+(T'.length:Int)))),(5,none),(7,none),(9,none),(15,some (oG 15 (ay 0 E'))),(17,tR 17 (bI 1 T')),(19,kR 19 K')]) (by show [_,_,_,_,_,_,_]=_;rw[az,az];rfl) ?_)|exact y5|fail)
 all_goals exact⟨.inl rfl,_,[12,13,14,15,16,17,18,19,20],ah _,fY rfl ⟨rfl,rfl,rfl,rfl,rfl,rfl,bh rfl (bh rfl trivial)⟩ rfl J0 rfl rfl⟩
def Ln (E:List Ent):Prop:=∀ k,(E.getD k eZ).path.length<=500
theorem Gro.shp {num:Int} {m:Nat} (g:Gro p num m E E'):Ln E->Ln E':=by
 induction g with
 |refl=>exact id
 | @add E E1 E2 i sc q hi h k ih=>
   intro hE;obtain⟨ab,c,_,_,rfl⟩:=h.up
   refine ih λk=>?_
   rw[Z00]
   rcases Z3g k E.length with hk|hk|hk
   ·rw[Z0x hk,<-Z00];exact hE k
   ·rw[Z1f aa,hk,Z3r];exact mZ q
   ·rw[Z0b (by simp;omega)];exact Z08 _
 | @spec E E2 j y hm hj hs k ih=>
   intro hE
   refine ih λk=>?_
   rw[jN hj];split
   ·rw[hs.1];exact hE j
   ·exact hE k
theorem LC:Ln E0:=λk=>by
 rcases k with _|_|_|k
 ·decide
 ·decide
 ·decide
 ·simp[E0,eZ,cV]
theorem LoadR.shp {T':List Tb} {z e:Int} (h:LoadR p E T E' T' z e) (hE:Ln E):Ln E'/\T'.length<=T.length+1:=by
 rcases h.o with ⟨_,_,rfl,rfl⟩|⟨_,_,rs,rfl,_,g,_⟩
 ·exact⟨hE,aa⟩
 ·exact⟨g.shp hE,aq⟩
structure BothOK (E:List Ent) (T:List Tb) (K:List Rk) (n k:Nat):Prop where
 tl:T.length<=n
 kl:K.length<=k
 reg:RegE T E
 bit:BitO E
 root:RootE E
 len:E.length<=1024
 shp:Ln E
theorem KO:BothOK E0 [] [] 0 0:=⟨ac,ac,IT,Ji,⟨_,_,rfl,rfl⟩,ac,LC⟩
theorem zg (p:List Nd) (hw:kO p) (hI:li p) {n k:Nat} (h:BothOK E T K n k) (hn:n<=10) (hk:k<=50000):∃ E' T' K' z e,LoadB p E T K E' T' K' z e/\BothOK E' T' K' (n+1) (k+2048):=by
 obtain⟨E',T',K',z,e,hl⟩:=KN p hw hI E T (Z1z h.tl hn) h.reg h.bit h.root h.len K (Z1z h.kl hk);obtain⟨s1,s2⟩:=hl.h.shp h.shp;have h1:=h.tl;have h2:=h.kl;have h3:=hl.k;refine⟨E',T',K',z,e,hl,aa,aa,?_,?_,hl.root,hl.len,s1⟩
 ·rcases hl.h.o with ⟨_,_,rfl,rfl⟩|⟨_,_,rs,_,_,_,_,hr,_⟩
  ·exact h.reg
  ·exact hr
 ·rcases hl.h.o with ⟨_,_,rfl,rfl⟩|⟨_,_,rs,_,_,_,_,_,hb⟩
  ·exact h.bit
  ·exact hb
end
def Bz (x:Ent):List S:=[.int .i64 x.sp,.int .u64 x.ba,.int .u64 x.ln,.int .i64 x.bit,.int .i64 x.len,.int .i64 x.wid,.int .i64 x.upd,.int .i64 x.idx,.int .i64 x.dat]
def oV (E:List Ent) (z:Int):Option Ent:=match iO E z with
 |some x=>if x.op=18 then some x else none
 |none=>none
theorem Ml (E:List Ent) (T:List Tb) (z:Int) (r:Option Ent) (hr:iO E z=r):FQ 75 [.s (.ptr (some (0,0))),nI z] 4 (oE E T) (.tup [.agg (Bz ((oV E z).getD eZ)),.s (.bool (oV E z).isSome)]) 4 (oE E T):=by
 unfold oV;rw[hr];refine wW Tryz.func75 ?_
 cases r with
 |none=>
  repeat'(first|refine y1 ?_|refine y2 ?_ ?_|refine RegX.oLkT none rfl rfl rfl rfl rfl rfl hr rfl ?_|refine y3 ?_|exact y5|fail)
  all_goals exact bK
 |some x=>
  simp only;by_cases h:x.op=18
  ·rw[if_pos h]
   repeat'(first|refine y1 ?_|refine y2 ?_ ?_|refine y4 λh=>?_|refine RegX.oLkT (some x) rfl rfl rfl rfl rfl rfl hr rfl ?_|refine y3 ?_|exact y5|fail)
   all_goals exact bK
  ·rw[if_neg h]
   repeat'(first|refine y1 ?_|refine y2 ?_ ?_|refine y4 λh=>?_|refine RegX.oLkT (some x) rfl rfl rfl rfl rfl rfl hr rfl ?_|refine y3 ?_|exact y5|fail)
   all_goals exact bK
