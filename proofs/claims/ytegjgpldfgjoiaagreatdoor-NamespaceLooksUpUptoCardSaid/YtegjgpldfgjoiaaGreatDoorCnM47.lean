import Derived.Test.YtegjgpldfgjoiaaGreatDoorCnM46
import Derived.Test.YtegjgpldfgjoiaaGreatDoorCnM30
import Derived.Test.YtegjgpldfgjoiaaGreatDoorCnM32
set_option linter.all false
namespace Go.Proofs.YtegjgpldfgjoiaaGreatDoor
open Go Ab
set_option maxRecDepth 100000
set_option maxHeartbeats 40000000
structure LoadB (p:List Nd) (E:List Ent) (T:List Tb) (K:List Rk) (E':List Ent) (T':List Tb) (K':List Rk) (z e:Int):Prop where
 h:LoadR p E T E' T' z e
 r:FC Tryz.prog 45 [.s (.ptr (some (0,0))),al p] 7 (Bh (aA 0 E) (bY 1 T) K E.length (1+(T.length:Int))) (Es z e) 13 (Ec (aA 0 E') (bY 1 T') K' E'.length (1+(T'.length:Int)))
 root:RootE E'
 len:E'.length<=1024
 k:K'.length<=K.length+2048
theorem Gz {G:Dgs}:jX G=true↔C6 G:=by
 unfold C6;rw[Z0i];simp
theorem qZ {p:List Nd} {F:Nat->List Rk->List Rk×Int} (hF:∀ i K,(F i K).1.length<=K.length+1):∀ (l:List Nat) (K:List Rk),(Bo p F l K).1.length<=K.length+l.length
 |[],K=>Z02 _
 |i::l,K=>by
  have h1:=hF i K;have h2:=qZ (p:=p) hF l (F i K).1;have h3:=qZ (p:=p) hF l K;rw[Bo,Z04]
  repeat' split
  all_goals omega
theorem yu (p:List Nd) (num:Int) (Sc:List Pth):∀ (l:List Nat) (O:List Ro) (nx:Int),O.length<=1024->(Eg p num Sc l O nx).1.length<=1024
 |[],_,_,h=>h
 |i::l,O,nx,h=>by
  have h1:=(qt p num O nx i (Sc.getD i z0)).2.1 h;rw[Eg];split
  ·exact yu p num Sc l _ _ h1
  ·exact h1
theorem RootE.num {E F:List Ent} (h:RootE E) (e:aA 0 F=aA 0 E):RootE F:=by
 obtain⟨x,t,rfl,hx⟩:=h
 cases F with
 |nil=>cases e
 |cons y u=>
  have:=tW e 0;exact⟨y,u,rfl,(congrArg Ent.path this).trans hx⟩
theorem EP {p:List Nd} (hw:pn p) (H:PrO p) {t:Fo} (ha:t.At p 0) (hv:t.V (List.replicate t.cnt (false,68))) (hs:t.size=p.length) {T:List Tb} {E:List Ent} (num:Int) (hreg:RegE T E) (hT:T.length<=11) (hT0:0<T.length) (h0:0<E.length) (h1:E.length<=1024)
 {i:Nat} (hi:i<p.length) (ho:(p.getD i dN).op=16\/(p.getD i dN).op=17) (K':List Rk) (hK':K'.length<=100000) (nx nh:Int) (R:List Rk×Int) (hR:AA p t num T E i K'=R):
 FC Tryz.prog 86 [.s (.ptr (some (0,0))),al p,nI i,gw (aC t i).sc,nI num] 7 (Bh (aA 0 E) (bY 1 T) K' nx nh) (nI R.2) 9 (EL (aA 0 E) (bY 1 T) R.1 nx nh):=by
 have hnl:(bY 1 T).length=T.length:=kF _ _
 have hrg:=λa y h1 h2=>Jd hreg (a:=a) (y:=y) h1 h2
 generalize bY 1 T=TT at hnl hrg |-;have hac:=CI H hi ho;have hit:i<t.size:=aa;have hf:=fd_R H ha hv hs hit ho num
 have hln:∀ c∈D_ p t i,(p.getD c dN).op=18->1<=fS p c/\fS p c<=256:=λc hc h=>(GR H ha hv hs hit ho hc).2.2.2.2 h
 have hfm:=lQ (aC t i).sc
 have hi5:i+5<p.length\/(p.getD i dN).op=16:=by
  rcases ho with h|h
  ·exact .inr h
  ·left
   have:=(rW ha hv hit (.inr h)).1;unfold dw at this;rw[if_pos h] at this;omega
 have hp2:∀ nm,0<=(dA (aA 0 E) (aI (aC t i).sc) nm).getD 0:=λnm=>by
  rw[oD]
  cases d7 E (aI (aC t i).sc) nm with
  |none=>exact Z2l _
  |some k=>exact Z5f k
 have hO:(aA 0 E).length<=100000:=by rw[dV];omega
 have hO0:0<(aA 0 E).length:=by rw[dV];omega
 cases TT with
 |nil=>simp only[Z0e] at hnl;omega
 |cons t0 tt=>
  unfold AA at hR;exact EQ p H.hp hw num (aA 0 E) t0 tt K' nx nh hO hO0 aa hK' i (aC t i).sc (dr (gO t i)) aa ho (D_ p t i) (jZ p i) (px p i) hf hi5 hac.1 (pW _ _) hln _ _ _ hrg hp2 R hR
theorem Ip (p:List Nd) (hw:pn p) (hI:pR p) (E:List Ent) (T:List Tb) (hT:T.length<=10) (hreg:RegE T E) (hbit:BitO E) (hroot:RootE E) (hEl:E.length<=1024) (K:List Rk) (hK:K.length<=50000):∃ E' T' K' z e,LoadB p E T K E' T' K' z e:=by
 obtain⟨G,hG,hck,hrk,hpre⟩:=zK p hw hI;have hacc:=J1 p G hG hrk
 have hE0:0<E.length:=by obtain⟨x,t,rfl,_⟩:=hroot;simp
 by_cases h6:C6 G
 ·rw[Gz.2 h6] at hacc
  obtain⟨H,t,ha,hv,hs,hE,hen,hJ⟩:=hpre h6;have hp:=H.hp
  have hy:=λv n' L'=>Cc p H G hG hck h6 t ha hv hs hE hen E T hT hreg hbit _ rfl _ rfl v n' L'
  obtain⟨hdl,hr1⟩:=JJ (num:=1+(T.length:Int)) ha hs hv E hroot λi hi ho=>(hJ i hi ho).2.2
  have hdF:=Db (num:=1+(T.length:Int)) (aC t) (t.kid 0) (t.size+1) t 0 ini E [] (Z1t _) ha hv (λi _ _=>⟨rfl,rfl⟩) λi _ h2 ho=>(hJ i aa ho).2.2
  have hdg:=lY (num:=1+(T.length:Int)) (m:=E.length) H t.size t 0 ⟨true,0,[]⟩ E [] (Z02 _) ha hv ⟨Z02 _,hbit,λd hd=>by cases hd⟩;have hdF:(aS p (1+(T.length:Int)) false t 0 ⟨true,0,[]⟩ E []).2.2=0->FsQ p (aC t) (t.kid 0) (List.range' 0 t.size) E [] (aS p (1+(T.length:Int)) false t 0 ⟨true,0,[]⟩ E []).1 (aS p (1+(T.length:Int)) false t 0 ⟨true,0,[]⟩ E []).2.1:=hdF;generalize aS p (1+(T.length:Int)) false t 0 ⟨true,0,[]⟩ E []=D at*;have hrs:=Bd (p:=p) (num:=1+(T.length:Int)) (m:=E.length) (T:=T++[⟨p,[]⟩]) D.2.1 D.1 [] hdg.2.2 hdg.2.1 (λr hr=>by cases hr)
  have hsc:=A_ p hp hw t ha hv hs λi hi ho=>by
   have:=hJ i hi (by unfold eS;rw[decide_eq_true_eq];omega);rw[this.2.1];exact this.2.2
  have hTn:∃ j:Nat,1+(T.length:Int)=1+(j:Int)/\j<(T++[(⟨p,[]⟩:Tb)]).length/\((T++[(⟨p,[]⟩:Tb)]).getD j tZ).p=p:=⟨T.length,rfl,an,an⟩
  have hreg1:RegE (T++[⟨p,[]⟩]) D.1:=RegE.gro H hTn hdg.1 (RegE.tab _ an (λj hj=>by rw[iQ hj]) hreg)
  have hnT:bY 1 T++[(1+(T.length:Int),p)]=bY 1 (T++[⟨p,[]⟩]):=by rw[ol];rfl
  have hsg:∀ i,i<p.length->(p8 p t).getD i z0=(aC t i).sc/\cR ((p8 p t).getD i z0).segs:=λi hi=>by
   have e:=xK (p:=p) ha (aa:i<t.size);rw[e];exact⟨rfl,dr (gO t i)⟩
  have hd:∀ i,i<p.length->∀ O' nx',O'.length<=1024->0<O'.length->0<=nx'->nx'<=1000000->FC Tryz.prog 85 [.s (.ptr (some (0,0))),al p,nI i,gw ((p8 p t).getD i z0),nI (1+(T.length:Int))] 7 (rsV O' (bY 1 T++[(1+(T.length:Int),p)]).length K.length nx' (1+(T.length:Int)+1)) (nI (cW p (1+(T.length:Int)) O' nx' i ((p8 p t).getD i z0)).2.2) 9 (rsW (cW p (1+(T.length:Int)) O' nx' i ((p8 p t).getD i z0)).1 (bY 1 T++[(1+(T.length:Int),p)]).length K.length (cW p (1+(T.length:Int)) O' nx' i ((p8 p t).getD i z0)).2.1 (1+(T.length:Int)+1)):=λi hi O' nx' g1 g2 g3 g4=>by
   refine z8 p hp hw (1+(T.length:Int)) O' _ K.length nx' _ aa g2 g3 g4 i hi _ (hsg i hi).2 (λho=>?_) _ rfl;have:=hJ i aa ho;refine⟨this.1,?_⟩;unfold mQ;rw[(hsg i hi).1];exact dr (xg this.2.2)
  have hD0:0<D.1.length:=by obtain⟨x,t,e,_⟩:=hr1;rw[e];simp
  have hD1:D.1.length<=1024:=by
   have h:=yu p (1+(T.length:Int)) (p8 p t) (List.range p.length) (aA 0 E) E.length (by rw[dV];exact hEl);rw[hdl] at h;have h:(aA 0 D.1).length<=1024:=h;rw[dV] at h;exact h
  have hr:D.2.2=0->∀ i,i<p.length->(p.getD i dN).op=16\/(p.getD i dN).op=17->∀ K':List Rk,K'.length<=100000->FC Tryz.prog 86 [.s (.ptr (some (0,0))),al p,nI i,gw ((p8 p t).getD i z0),nI (1+(T.length:Int))] 7 (Bh (aA 0 D.1) (bY 1 T++[(1+(T.length:Int),p)]) K' (D.1.length:Int) (1+(T.length:Int)+1)) (nI (AA p t (1+(T.length:Int)) (T++[⟨p,[]⟩]) D.1 i K').2) 9 (EL (aA 0 D.1) (bY 1 T++[(1+(T.length:Int),p)]) (AA p t (1+(T.length:Int)) (T++[⟨p,[]⟩]) D.1 i K').1 (D.1.length:Int) (1+(T.length:Int)+1)):=λ_ i hi ho K' hK'=>by
   rw[hnT,(hsg i hi).1];exact EP hw H ha hv hs _ hreg1 (by simp;omega) an hD0 hD1 hi ho K' hK' _ _ _ rfl
  have k1:(p8 p t).length=p.length:=by rw[xJ];exact hs
  have k2:(aA 0 E).length<=1024:=by rw[dV];exact hEl
  have k3:0<(aA 0 E).length:=by rw[dV];exact hE0
  have k4:(bY 1 T).length<=10:=by rw[kF];exact hT
  have h1:=HX p hp (p8 p t) k1 hsc hacc (aA 0 E) (bY 1 T) K (E.length:Int) (1+(T.length:Int)) k2 k3 k4 hK aa aa aa aa;have h2:=h1 hd (aA 0 D.1,(D.1.length:Int),D.2.2) hdl (AA p t (1+(T.length:Int)) (T++[⟨p,[]⟩]) D.1) (xN p t _ _ _);have hload:=h2 hr _ rfl;clear h1 h2;by_cases hd0:D.2.2=0
  ·obtain⟨⟨nw,n1,n2,n3⟩,_⟩:=hdF hd0
   rw[Z1e] at n1;obtain⟨g1,g2⟩:=Be (t:=t) (num:=1+(T.length:Int)) (T:=T++[⟨p,[]⟩]) (List.range p.length) D.2.1 D.1 [] K (by rw[n1,Z4g,<-hs];exact n2) (λd hd=>n3 d (by rw[<-n1];exact hd)) rfl (λ_=>rfl);have hkl:=qZ (p:=p) (xN p t (1+(T.length:Int)) (T++[⟨p,[]⟩]) D.1) (List.range p.length) K;rw[Z2e] at hkl;generalize kw p (T++[⟨p,[]⟩]) D.2.1 D.1 []=R at*;generalize Bo p (AA p t (1+(T.length:Int)) (T++[⟨p,[]⟩]) D.1) (List.range p.length) K=RK at*;obtain⟨r1,r2,r3,r4⟩:=hrs;by_cases hr0:R.2.2=0
   ·have h1:=hy _ _ _ (λh=>absurd hd0 h) (λ_ h=>absurd hr0 h) λ_ _=>⟨rfl,rfl,rfl⟩
    have h2:=hload _ _ (λh=>absurd hd0 h) (λ_ h=>absurd (g1.symm.trans hr0) h) λ_ _=>⟨rfl,rfl⟩
    have hlT:(((T++[(⟨p,R.2.1⟩:Tb)]).length:Nat):Int)=(T.length:Int)+1:=an
    have h3:LoadR p E T R.1 (T++[⟨p,R.2.1⟩]) (1+(T.length:Int)) 0:=by
     refine⟨?_,.inr ⟨rfl,rfl,R.2.1,rfl,H,hdg.1.trans r1,by rw[r3];exact r4,RegE.gro H ⟨T.length,rfl,an,an⟩ (hdg.1.trans r1) (RegE.tab _ an (λj hj=>by rw[iQ hj]) hreg),r2⟩⟩;unfold I4;rw[hlT,show 1+((T.length:Int)+1)=1+(T.length:Int)+1 by omega];exact h1
    refine⟨R.1,_,RK.1,_,_,h3,?_,hr1.num g2,by rw[r3];exact hD1,aa⟩;rw[g2,r3,hlT,ol,show 1+((T.length:Int)+1)=1+(T.length:Int)+1 by omega];exact h2
   ·have h2:=hload _ _ (λh=>absurd hd0 h) (λ_ _=>⟨rfl,rfl⟩) λ_ h=>absurd (g1.trans h) hr0
    exact⟨E,T,K,0,R.2.2,⟨hy _ _ _ (λh=>absurd hd0 h) (λ_ _=>⟨rfl,rfl,rfl⟩) λ_ h=>absurd h hr0,.inl ⟨hr0,rfl,rfl,rfl⟩⟩,by rw[g1];exact h2,hroot,hEl,Z1o _ _⟩
  ·have h2:=hload _ _ (λ_=>⟨rfl,rfl⟩) (λh=>absurd h hd0) λh=>absurd h hd0
   exact⟨E,T,K,0,D.2.2,⟨hy _ _ _ (λ_=>⟨rfl,rfl,rfl⟩) (λh=>absurd h hd0) λh=>absurd h hd0,.inl ⟨hd0,rfl,rfl,rfl⟩⟩,h2,hroot,hEl,Z1o _ _⟩
 ·have h6':jX G=false:=by
   cases h:jX G with
   |false=>rfl
   |true=>exact absurd (Gz.1 h) h6
  rw[h6'] at hacc;exact⟨E,T,K,0,1,⟨Cd p G hG hck h6 E T,.inl ⟨ac,rfl,rfl,rfl⟩⟩,zJ p hacc _ _ _ _ _,hroot,hEl,Z1o _ _⟩
section
variable {E E':List Ent} {T:List Tb} {K:List Rk} {p:List Nd}
abbrev bsL (E:List Ent) (T:List Tb) (K:List Rk):Hp:=[(0,some (ik 1 2 3 (E.length:Nat) (1+(T.length:Int)))),(1,some (oB E)),(2,some (pB E)),(3,some (tB T)),(4,some (qX 5 7 9 (aA 0 E).length (bY 1 T).length K.length E.length (1+(T.length:Int)))),(5,some (oG 5 (aA 0 E))),(7,tR 7 (bY 1 T)),(9,kR 9 K)]
abbrev bsN (E:List Ent) (T:List Tb) (K:List Rk):Hp:=[(0,some (ik 11 12 13 (E.length:Nat) (1+(T.length:Int)))),(1,none),(2,none),(3,none),(11,some (oB E)),(12,some (pB E)),(13,some (tB T)),(4,some (qX 14 16 18 (aA 0 E).length (bY 1 T).length K.length E.length (1+(T.length:Int)))),(5,none),(7,none),(9,none),(14,some (oG 14 (aA 0 E))),(16,tR 16 (bY 1 T)),(18,kR 18 K)]
theorem BR:eV 11 (bsL E T K)=true:=by
 unfold bsL tR kR;generalize (bY 1 T).flatMap qW=c1;generalize K.flatMap q9=c2
 cases c1<;>cases c2<;>rfl
theorem HI:eV 20 (bsN E T K)=true:=by
 unfold bsN tR kR;generalize (bY 1 T).flatMap qW=c1;generalize K.flatMap q9=c2
 cases c1<;>cases c2<;>rfl
theorem yI {T':List Tb} {K':List Rk} {z e:Int} (h:LoadB p E T K E' T' K' z e):
 FC Tryz.prog 13 [.agg [.ptr (some (0,0)),.ptr (some (4,0))],al p] 11 (bsL E T K) (bV true) 20 (bsN E' T' K'):=by
 have h1:=h.h.h;have h2:=h.r;refine wW Tryz.func13 ?_
 repeat'(first|exact y0|refine y1 ?_|refine y2 ?_ ?_|refine y4 λh=>?_|(refine wX 25 ?_;refine CallG.mo [0,1,2,3] h1 rfl rfl rfl rfl rfl aV nC rfl rfl (wr:=[(0,some (ik 12 13 14 (E'.length:Nat) (1+(T'.length:Int)))),(1,none),(2,none),(3,none),(12,some (oB E')),(13,some (pB E')),(14,some (tB T'))]) (by rfl) ?_)|(refine wX 45 ?_;refine CallG.mo [4,5,6,7,8,9,10] h2 rfl vZ rfl rfl rfl aV ⟨⟨rfl,_,rfl,rfl,λh=>h⟩,⟨rfl,_,rfl,rfl,λh=>h⟩,FitP.op rfl rfl (FitP.op rfl rfl trivial)⟩ rfl rfl (wr:=[(4,some (qX 15 17 19 (aA 0 E').length (bY 1 T').length K'.length E'.length (1+(T'.length:Int)))),(5,none),(7,none),(9,none),(15,some (oG 15 (aA 0 E'))),(17,tR 17 (bY 1 T')),(19,kR 19 K')]) (by show [_,_,_,_,_,_,_]=_;rw[aH,aH];rfl) ?_)|refine y3 ?_|exact y5|fail)
 all_goals exact⟨.inl rfl,_,[12,13,14,15,16,17,18,19,20],VLe.refl _,EndOK.by rfl ⟨rfl,rfl,rfl,rfl,rfl,rfl,MemP.op rfl (MemP.op rfl trivial)⟩ rfl HI rfl rfl⟩
def IJ (E:List Ent):Prop:=∀ k,(E.getD k eZ).path.length<=500
theorem Gro.shp {num:Int} {m:Nat} (g:Gro p num m E E'):IJ E->IJ E':=by
 induction g with
 |refl=>exact id
 | @add E E1 E2 i sc q hi h k ih=>
   intro hE;obtain⟨ab,c,_,_,rfl⟩:=h.up
   refine ih λk=>?_
   rw[Z00]
   rcases Z3g k E.length with hk|hk|hk
   ·rw[Z0x hk,<-Z00];exact hE k
   ·rw[Z1f aa,hk,Z3r];exact lQ q
   ·rw[Z0b (by simp;omega)];exact Z08 _
 | @spec E E2 j y hm hj hs k ih=>
   intro hE
   refine ih λk=>?_
   rw[kV hj];split
   ·rw[hs.1];exact hE j
   ·exact hE k
theorem I7:IJ E0:=λk=>by
 rcases k with _|_|_|k
 ·decide
 ·decide
 ·decide
 ·simp[E0,eZ,dH]
theorem LoadR.shp {T':List Tb} {z e:Int} (h:LoadR p E T E' T' z e) (hE:IJ E):IJ E'/\T'.length<=T.length+1:=by
 rcases h.o with ⟨_,_,rfl,rfl⟩|⟨_,_,rs,rfl,_,g,_⟩
 ·exact⟨hE,aa⟩
 ·exact⟨g.shp hE,an⟩
structure BothOK (E:List Ent) (T:List Tb) (K:List Rk) (n k:Nat):Prop where
 tl:T.length<=n
 kl:K.length<=k
 reg:RegE T E
 bit:BitO E
 root:RootE E
 len:E.length<=1024
 shp:IJ E
theorem Iq:BothOK E0 [] [] 0 0:=⟨ac,ac,GB,GZ,⟨_,_,rfl,rfl⟩,ac,I7⟩
theorem DA (p:List Nd) (hw:pn p) (hI:pR p) {n k:Nat} (h:BothOK E T K n k) (hn:n<=10) (hk:k<=50000):∃ E' T' K' z e,LoadB p E T K E' T' K' z e/\BothOK E' T' K' (n+1) (k+2048):=by
 obtain⟨E',T',K',z,e,hl⟩:=Ip p hw hI E T (Z1z h.tl hn) h.reg h.bit h.root h.len K (Z1z h.kl hk);obtain⟨s1,s2⟩:=hl.h.shp h.shp;have h1:=h.tl;have h2:=h.kl;have h3:=hl.k;refine⟨E',T',K',z,e,hl,aa,aa,?_,?_,hl.root,hl.len,s1⟩
 ·rcases hl.h.o with ⟨_,_,rfl,rfl⟩|⟨_,_,rs,_,_,_,_,hr,_⟩
  ·exact h.reg
  ·exact hr
 ·rcases hl.h.o with ⟨_,_,rfl,rfl⟩|⟨_,_,rs,_,_,_,_,_,hb⟩
  ·exact h.bit
  ·exact hb
end
end Go.Proofs.YtegjgpldfgjoiaaGreatDoor
