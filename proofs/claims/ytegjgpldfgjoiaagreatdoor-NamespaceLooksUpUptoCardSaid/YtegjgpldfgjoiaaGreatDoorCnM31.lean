import Derived.Test.YtegjgpldfgjoiaaGreatDoorCnM27
set_option linter.all false
namespace Go.Proofs.YtegjgpldfgjoiaaGreatDoor
open Go Ab
set_option maxRecDepth 100000
set_option maxHeartbeats 40000000
def JE:List S:=[.bool true,.int .i64 0,.slc none 0 (some 0),.str [],.int .i64 (-1),.int .i64 (-1),.int .i64 (-1)]
def IW:List S:=[.bool false,.int .i64 0,.slc none 0 (some 0),.str [],.int .i64 0,.int .i64 0,.int .i64 0]
def H2 (b:Bool):List S:=match b with|true=>JE|false=>IW
theorem yb (b:Bool):(H2 b).length=7:=by cases b<;>rfl
abbrev JG (T:List Bool):Bl:={cells:=T.flatMap H2,ty:=117,sym:=true,flat:=true}
def upto (n i:Nat):List Bool:=(List.range n).map λj=>decide (j<i)
theorem pV (n:Nat):upto n 0=List.replicate n false:=by
 refine Z2i λj=>?_
 unfold upto;rw[Z0t,Z43];split
 ·rename_i h;rw[Z26 h];simp
 ·rename_i h;rw[Z0b (by simp;omega)];rfl
theorem s7 (n:Nat):upto n n=List.replicate n true:=by
 refine Z2i λj=>?_
 unfold upto;rw[Z0t,Z43];split
 ·rename_i h;rw[Z26 h];simp[h]
 ·rename_i h;rw[Z0b (by simp;omega)];rfl
theorem iv (n i:Nat):(upto n i).length=n:=by simp[upto]
theorem s6 (n i:Nat) (h:i<n):(upto n i).set i true=upto n (i+1):=by
 refine Z2i λj=>?_
 rw[Z1i,iv];unfold upto;rw[Z0t,Z0t];by_cases e:i=j
 ·subst e
  rw[if_pos rfl,if_pos h,Z26 h];simp
 ·rw[if_neg e]
  rcases Z0a j n with hj|hj
  ·rw[Z26 hj]
   simp only[Z1j,Z06,decide_eq_decide];omega
  ·rw[Z0b (by simpa using hj)];rfl
theorem SLe.refls:∀ l:List S,All2 SLe l l
 |[]=>trivial
 |a::l=>⟨SLe.refl a,SLe.refls l⟩
theorem Fv:All2 SLe (H2 true) (infC ini):=show All2 SLe JE (infC ini) from ⟨SLe.refl _,SLe.refl _,SLe.nil,SLe.refl _,SLe.refl _,SLe.refl _,SLe.refl _,trivial⟩
theorem SLe.app2 {x y:List S} (h:All2 SLe x y) {u v:List S} (k:All2 SLe u v):All2 SLe (x++u) (y++v):=by
 induction x generalizing y with
 |nil=>cases y with
  |nil=>exact k
  |cons _ _=>exact h.elim
 |cons a x ih=>cases y with
  |nil=>exact h.elim
  |cons b y=>exact⟨h.1,ih h.2⟩
theorem H1 (n:Nat):All2 SLe ((List.replicate n true).flatMap H2) ((List.replicate n ini).flatMap infC):=by
 induction n with
 |zero=>trivial
 |succ n ih=>
  rw[Z16,Z16,Z0g,Z0g];exact SLe.app2 Fv ih
theorem kg {α:Type} {T:List α} {i:Nat} {x:α} (h:T[i]? =some x):T.set i x=T:=by
 refine Z2i λj=>?_
 rw[Z1i];split
 ·rename_i e;subst e
  have hl:i<T.length:=by
   rcases Z0a i T.length with q|q
   ·exact q
   ·rw[Z0b q] at h;cases h
  rw[if_pos hl,h]
 ·rfl
theorem zi {T:List Inf} {ks:List Nat} {x:Inf} {k:Nat} (h:k<ks.length):jw T (ks.take (k+1)) x=(jw T (ks.take k) x).set (ks.getD k 0) x:=by
 unfold jw;rw[Z49,Z4a,Z01 h,Z00,Z01 h];rfl
theorem Cv (op:Int) (ok:Bool) (q c:Pth):(if (op=10\/op=11\/op=12)/\ok=true then q else c)=if op=10/\ok=true then q else if (op=11\/op=12)/\ok=true then q else c:=by
 cases ok
 ·simp
 ·by_cases h1:op=10<;>simp[h1]
theorem Fs {cs:List (Bool×Int)} (p:List Nd) (hp:p.length<=2048) (hw:pn p) (t:Fo) (ha:t.At p 0) (hv:t.V cs) (hs:t.size=p.length):FC Tryz.prog 63 [al p] 0 [] (lL (be p t)) 0 []:=by
 have hsz:(Tryz.prog.types[117]).size=7:=by kernel_rfl
 have hby:(Tryz.prog.types[117]).bytes=80:=by kernel_rfl
 refine wW Tryz.func63 ?_
 repeat'(first|exact y0|refine y1 ?_|refine y2 ?_ ?_|refine y4 λh=>?_|refine y3 ?_|exact y5|fail)
 refine RegX.opA [.idx p.length,.idx p.length] rfl rfl ?_ ?_
 ·rw[hby];exact⟨rfl,rfl,Z02 _,aa,aa⟩
 repeat'(first|exact y0|refine y1 ?_|refine y2 ?_ ?_|refine y4 λh=>?_|refine y3 ?_|exact y5|fail)
 refine Ex.subF (L':=[(0,some (JG (upto p.length 0)))]) (SubF.cons rfl (λφ w b h=>BlAt.cells (by rw[pV];exact Bv (zs:=IW) (g:=H2) (a:=false) (w:=7) rfl (SLe.refls _) p.length) h) (SubF.refl _)) ?_;refine Ex.inv (σ:=Nat) (λi=>[(4,nI i)]) (λi=>[(0,some (JG (upto p.length i)))]) (λi=>i<=p.length) (λi=>p.length-i) 0 rfl (λ_=>rfl) (Z08 _) aV ⟨rfl,trivial⟩ ?_;intro i hi;by_cases hlt:i<p.length
 ·have hcat:bJ 0 (bG i (Tryz.prog.types[117]).size)=i*7:=by rw[hsz,am,aB,Z0c]
  repeat'(first|exact y0|refine y1 ?_|refine y2 ?_ ?_|refine y4 λh=>?_|refine RegX.sto [.cells ((upto p.length (i+1)).flatMap H2)] rfl rfl ⟨?_,?_⟩ rfl ?_|refine y3 ?_|exact y5|fail)
  all_goals try first
   |omega
   |(rw[hcat];show i*7+7<=((upto p.length i).flatMap H2).length;rw[jD yb,iv];omega)
   |(rw[hcat,<-s6 _ _ hlt];exact (kq yb (q:=true) (by rw[iv];exact hlt)).symm)
  refine LoopR.same (i+1) aa aa rfl ⟨VLe.of_eq (congrArg nI (by push_cast;rfl)),trivial⟩ ⟨rfl,trivial⟩ rfl rfl ac
 have hi':i=p.length:=aa;subst hi'
 repeat'(first|exact y0|refine y1 ?_|refine y2 ?_ ?_|refine y4 λh=>?_|refine y3 ?_|exact y5|fail)
 rw[s7];refine Ex.subF (L':=[(0,some (rS (iN p t 0)))]) (SubF.cons rfl (λφ w b h=>BlAt.cells (by rw[qh ha,hs];exact H1 p.length) h) (SubF.refl _)) ?_;refine Ex.canon [0] 151 [(0,al p),(3,.s (.slc (some (0,0)) p.length (some p.length))),(5,nI 0)] [(0,some (rS (iN p t 0)))] rfl rfl ⟨VLe.refl _,VLe.refl _,VLe.refl _,trivial⟩ ⟨rfl,trivial⟩ rfl ?_;refine Ex.inv (σ:=Nat) (λi=>[(5,nI i)]) (λi=>[(0,some (rS (iN p t i)))]) (λi=>i<=p.length) (λi=>p.length-i) 0 rfl (λ_=>rfl) (Z08 _) aV ⟨rfl,trivial⟩ ?_;clear hi hlt;intro i hi;by_cases hlt:i<p.length
 ·have hti:i<t.size:=aa
  have hkc:=eh hp ha hv hs hti;have hst:=qi ha hti;have hat:=rR ha hti;have hT:=eN (p:=p) (t:=t) i
  have hkb:∀ j∈(t.kid 0 i).starts (i+1),j<p.length:=λj hj=>by have:=(eB ha hti hj).2.1;omega
  have hkl:(t.kid 0 i).cnt<=2048:=by
   have h1:=Fo.cnt_le (t.kid 0 i);have h2:=bm (t:=t) (Z08 i) aa;omega
  rw[<-bp (t.kid 0 i) (i+1)] at hkl;have hnm:=xW ha hv hti;have habs:=gO t i;have hcp:=u_ ha hti;have hdc:=yx (p.getD i dN).op;unfold jL at hst;generalize hTn:iN p t (i+1)=Tn at*;generalize iN p t i=T at*;generalize aC t i=C at*;obtain⟨csc,cpath,cme,clo,cpa⟩:=C;simp only at habs hcp;subst hcp;obtain⟨croot,cup,csegs⟩:=csc;have hjn:=m8 ⟨croot,cup,csegs⟩ (ao (t.kid 0 i)) (dr habs);have hja:= @xg ⟨croot,cup,csegs⟩ (ao (t.kid 0 i));have hprs:=dU (p.getD (i+1) dN).str (fZ hw (i+1));have hsk:=de (p.getD (i+1) dN).str
  have hcat:bJ 0 (bG i (Tryz.prog.types[117]).size)=i*7:=by rw[hsz,am,aB,Z0c]
  have hTi:T.getD i ini=⟨⟨croot,cup,csegs⟩,[],cme,clo,cpa⟩:=by rw[Z00,hat];rfl
  have hl7:=kM (g:=infC) dD (bl:=rS T) rfl rfl ini (i:=i) (j:=0) (m:=7) aa aa;rw[hTi] at hl7
  obtain⟨A1,hA1⟩:∃ A1:Inf,A1=⟨if ((p.getD i dN).op=11\/(p.getD i dN).op=12)/\(aq ⟨croot,cup,csegs⟩ (ao (t.kid 0 i))).2=true then (aq ⟨croot,cup,csegs⟩ (ao (t.kid 0 i))).1 else ⟨croot,cup,csegs⟩,[],cme,clo,(i:Int)⟩:=⟨_,rfl⟩
  obtain⟨A2,hA2⟩:∃ A2:Inf,A2=bc (p.getD i dN) (ao (t.kid 0 i)) i ⟨⟨croot,cup,csegs⟩,[],cme,clo,cpa⟩:=⟨_,rfl⟩
  rw[<-hA2] at hst
  obtain⟨T1,hT1⟩:∃ T1,T1=T.set i (mK (p.getD i dN) (ao (t.kid 0 i)) ⟨⟨croot,cup,csegs⟩,[],cme,clo,cpa⟩):=⟨_,rfl⟩
  rw[<-hT1] at hst
  have hT1l:T1.length=p.length:=by rw[hT1,Z18,hT,hs]
  generalize hks:(t.kid 0 i).starts (i+1)=ks at*
  repeat'(first|refine Ex.cutC 52 151 2 [(0,al p),(3,.s (.slc (some (0,0)) p.length (some p.length))),(5,nI i),(6,.s (d9 ks)),(7,.s (.ptr (some (1,0))))] [(0,some (rS T1)),(1,some {cells:=infC A1,ty:=117})] rfl (Hold.k ?_) (Hold.k ?_)|exact y0|refine y1 ?_|refine y2 ?_ ?_|refine y4 λh=>?_|refine wX 105 (pu hkc ?_)|refine wX 106 (pu hdc ?_)|refine RegX.ldS [.val (.agg (infC ⟨⟨croot,cup,csegs⟩,[],cme,clo,cpa⟩))] rfl rfl ?_ rfl ?_|refine y3 ?_|exact y5|fail)
  ·rw[hcat];exact hl7
  ·refine⟨?_⟩
   cases hdB:bQ (p.getD i dN).op
   ·have e1: ¬((p.getD i dN).op=11\/(p.getD i dN).op=12):=by unfold bQ at hdB;simp only[decide_eq_false_iff_not] at hdB;omega
    rw[if_neg (λh=>e1 h.1)] at hA1
    have e2:T1=T:=by rw[hT1];unfold mK;rw[if_neg (by rw[hdB];simp)];exact kg hat
    subst hA1;subst e2
    repeat'(first|exact y0|refine y1 ?_|refine y2 ?_ ?_|refine y4 λh=>?_|refine y3 ?_|exact y5|fail)
    refine CutR.at [0,1] rfl rfl ⟨VLe.refl _,VLe.refl _,VLe.refl _,VLe.refl _,VLe.refl _,trivial⟩ ⟨rfl,rfl,trivial⟩ rfl
   ·obtain⟨hi1,hnmE,l,rfl⟩:=hnm (.inr hdB)
    rw[hnmE] at hjn hA1 hT1 hA2 hja;have hjn:=hjn hsk;generalize ah (p.getD (i+1) dN).str=pp at*;obtain⟨⟨pr,pq,ps⟩,pok⟩:=pp;unfold mK at hT1;simp only at hjn hA1 hT1 hja hA2;generalize aq ⟨croot,cup,csegs⟩ ⟨pr,pq,ps⟩=jj at*;obtain⟨⟨jr,ju,js⟩,ok⟩:=jj
    have hsp:(Tryz.prog.types[99]).size=3:=by kernel_rfl
    have hl3:=kM (g:=infC) dD (bl:=rS T) rfl rfl ini (i:=i) (j:=0) (m:=3) aa aa;rw[hTi] at hl3;cases ok
    ·rw[if_neg an] at hA1 hT1
     have e2:T1=T:=by rw[hT1];exact kg hat
     subst hA1;subst e2
     repeat'(first|exact y0|refine y1 ?_|refine y2 ?_ ?_|refine y4 λh=>?_|refine wX 51 (pu hprs ?_)|refine wX 101 (pu hjn ?_)|refine RegX.ldS [.val (.agg (bX ⟨croot,cup,csegs⟩))] rfl rfl ?_ rfl ?_|refine y3 ?_|exact y5|fail)
     all_goals try first
      |exact hi1
      |(show 0<((i+1)::l).length;simp)
      |(show ef true (Tryz.prog.types[99]).size (rS T1) (bJ (bJ 0 (bG i (Tryz.prog.types[117]).size)) 0)=_;rw[hsp,hcat,am];exact hl3)
     all_goals try refine CutR.at [0,1] rfl rfl ⟨VLe.refl _,VLe.refl _,VLe.refl _,VLe.refl _,VLe.refl _,trivial⟩ ⟨rfl,rfl,trivial⟩ rfl
    ·rw[if_pos ⟨hdB,rfl⟩] at hT1
     have hfm:=jQ ⟨jr,ju,js⟩ (dr (hja rfl))
     have hst2:bR (T.flatMap infC) (i*7+3) [.str (aI ⟨jr,ju,js⟩)]=T1.flatMap infC:=by
      rw[hT1];exact kh dD (d:=ini) an aa (by rw[hTi];rfl)
     have hp3:bJ (bJ 0 (bG i (Tryz.prog.types[117]).size)) 3=i*7+3:=by rw[hcat,am]
     by_cases hd:(p.getD i dN).op=11\/(p.getD i dN).op=12
     ·rw[if_pos ⟨hd,rfl⟩] at hA1
      subst hA1
      repeat'(first|exact y0|refine y1 ?_|refine y2 ?_ ?_|refine y4 λh=>?_|refine wX 51 (pu hprs ?_)|refine wX 101 (pu hjn ?_)|refine wX 54 (pu hfm ?_)|refine RegX.ldS [.val (.agg (bX ⟨croot,cup,csegs⟩))] rfl rfl ?_ rfl ?_|refine RegX.sto [.cells (T1.flatMap infC)] rfl rfl ⟨?_,?_⟩ rfl ?_|refine y3 ?_|exact y5|fail)
      all_goals try first
       |exact hi1
       |(show 0<((i+1)::l).length;simp)
       |(show ef true (Tryz.prog.types[99]).size (rS T) (bJ (bJ 0 (bG i (Tryz.prog.types[117]).size)) 0)=_;rw[hsp,hcat,am];exact hl3)
       |(show _=bR (rS T).cells (bJ (bJ 0 (bG i (Tryz.prog.types[117]).size)) 3) _;rw[hp3];exact hst2.symm)
       |(show bJ (bJ 0 (bG i (Tryz.prog.types[117]).size)) 3+1<=(T.flatMap infC).length;rw[hp3,jD dD];omega)
      all_goals try refine CutR.at [0,1] rfl rfl ⟨VLe.refl _,VLe.refl _,VLe.refl _,VLe.refl _,VLe.refl _,trivial⟩ ⟨rfl,rfl,trivial⟩ rfl
     ·rw[if_neg (λh=>hd h.1)] at hA1
      subst hA1
      repeat'(first|exact y0|refine y1 ?_|refine y2 ?_ ?_|refine y4 λh=>?_|refine wX 51 (pu hprs ?_)|refine wX 101 (pu hjn ?_)|refine wX 54 (pu hfm ?_)|refine RegX.ldS [.val (.agg (bX ⟨croot,cup,csegs⟩))] rfl rfl ?_ rfl ?_|refine RegX.sto [.cells (T1.flatMap infC)] rfl rfl ⟨?_,?_⟩ rfl ?_|refine y3 ?_|exact y5|fail)
      all_goals try first
       |exact hi1
       |(show 0<((i+1)::l).length;simp)
       |(show ef true (Tryz.prog.types[99]).size (rS T) (bJ (bJ 0 (bG i (Tryz.prog.types[117]).size)) 0)=_;rw[hsp,hcat,am];exact hl3)
       |(show _=bR (rS T).cells (bJ (bJ 0 (bG i (Tryz.prog.types[117]).size)) 3) _;rw[hp3];exact hst2.symm)
       |(show bJ (bJ 0 (bG i (Tryz.prog.types[117]).size)) 3+1<=(T.flatMap infC).length;rw[hp3,jD dD];omega)
      all_goals try refine CutR.at [0,1] rfl rfl ⟨VLe.refl _,VLe.refl _,VLe.refl _,VLe.refl _,VLe.refl _,trivial⟩ ⟨rfl,rfl,trivial⟩ rfl
  ·refine⟨?_⟩
   clear hl7
   repeat'(first|refine Ex.cutB 4 151 2 [(0,al p),(3,.s (.slc (some (0,0)) p.length (some p.length))),(5,nI i),(6,.s (d9 ks)),(7,.s (.ptr (some (1,0))))] [(0,some (rS T1)),(1,some {cells:=infC A2,ty:=117})] rfl (Hold.k ?_) (Hold.k ?_)|exact y0|refine y1 ?_|refine y2 ?_ ?_|refine y4 λh=>?_|refine y3 ?_|exact y5|fail)
   ·refine⟨?_⟩
    have hA2':A2=⟨if (p.getD i dN).op=10/\(aq ⟨croot,cup,csegs⟩ (ao (t.kid 0 i))).2=true then (aq ⟨croot,cup,csegs⟩ (ao (t.kid 0 i))).1 else A1.sc,[],if (p.getD i dN).op=14 then (i:Int) else cme,if (p.getD i dN).op=14 then-1 else if (p.getD i dN).op=32 then (i:Int) else clo,(i:Int)⟩:=by
     rw[hA2,hA1];unfold bc;simp only[Inf.mk.injEq,and_true,true_and];exact Cv _ _ _ _
    by_cases h10:(p.getD i dN).op=10
    ·obtain⟨hi1,hnmE,l,rfl⟩:=hnm (.inl h10)
     have e1:A1=⟨⟨croot,cup,csegs⟩,[],cme,clo,(i:Int)⟩:=by rw[hA1,if_neg (λh=>by omega)]
     have e2:T1=T:=by rw[hT1];unfold mK;rw[if_neg (λh=>by have:=h.1;unfold bQ at this;simp only[decide_eq_true_eq] at this;omega)];exact kg hat
     rw[hnmE] at hjn hA2';have hjn:=hjn hsk;rw[if_neg (show ¬(p.getD i dN).op=14 by omega),if_neg (show ¬(p.getD i dN).op=14 by omega),if_neg (show ¬(p.getD i dN).op=32 by omega)] at hA2';clear hA2 hA1 hT1;subst e1;subst e2;generalize ah (p.getD (i+1) dN).str=pp at*;obtain⟨⟨pr,pq,ps⟩,pok⟩:=pp;simp only at hjn hA2';generalize aq ⟨croot,cup,csegs⟩ ⟨pr,pq,ps⟩=jj at*;obtain⟨⟨jr,ju,js⟩,ok⟩:=jj
     have hsp:(Tryz.prog.types[99]).size=3:=by kernel_rfl
     have hl3:=kM (g:=infC) dD (bl:=rS T1) rfl rfl ini (i:=i) (j:=0) (m:=3) aa aa;rw[hTi] at hl3;cases ok
     ·rw[if_neg an] at hA2'
      subst hA2'
      repeat'(first|exact y0|refine y1 ?_|refine y2 ?_ ?_|refine y4 λh=>?_|refine wX 51 (pu hprs ?_)|refine wX 101 (pu hjn ?_)|refine RegX.ldS [.val (.agg (bX ⟨croot,cup,csegs⟩))] rfl rfl ?_ rfl ?_|refine y3 ?_|exact y5|fail)
      all_goals try first
       |exact hi1
       |(show 0<((i+1)::l).length;simp)
       |(show ef true (Tryz.prog.types[99]).size (rS T1) (bJ (bJ 0 (bG i (Tryz.prog.types[117]).size)) 0)=_;rw[hsp,hcat,am];exact hl3)
      all_goals refine CutR.at [0,1] rfl rfl ⟨VLe.refl _,VLe.refl _,VLe.refl _,VLe.refl _,VLe.refl _,trivial⟩ ⟨rfl,rfl,trivial⟩ rfl
     ·rw[if_pos ⟨h10,rfl⟩] at hA2'
      subst hA2'
      repeat'(first|exact y0|refine y1 ?_|refine y2 ?_ ?_|refine y4 λh=>?_|refine wX 51 (pu hprs ?_)|refine wX 101 (pu hjn ?_)|refine RegX.ldS [.val (.agg (bX ⟨croot,cup,csegs⟩))] rfl rfl ?_ rfl ?_|refine y3 ?_|exact y5|fail)
      all_goals try first
       |exact hi1
       |(show 0<((i+1)::l).length;simp)
       |(show ef true (Tryz.prog.types[99]).size (rS T1) (bJ (bJ 0 (bG i (Tryz.prog.types[117]).size)) 0)=_;rw[hsp,hcat,am];exact hl3)
      all_goals refine CutR.at [0,1] rfl rfl ⟨VLe.refl _,VLe.refl _,VLe.refl _,VLe.refl _,VLe.refl _,trivial⟩ ⟨rfl,rfl,trivial⟩ rfl
    ·rw[if_neg (λh=>h10 h.1)] at hA2'
     have hc1:A1.path=[]/\A1.me=cme/\A1.lo=clo/\A1.pa=(i:Int):=by rw[hA1];exact⟨rfl,rfl,rfl,rfl⟩
     obtain⟨asc,apath,ame,alo,apa⟩:=A1;obtain⟨r1,r2,r3,r4⟩:=hc1;simp only at r1 r2 r3 r4 hA2';subst r1;subst r2;subst r3;subst r4;by_cases h14:(p.getD i dN).op=14
     ·rw[if_pos h14,if_pos h14] at hA2'
      subst hA2'
      repeat'(first|exact y0|refine y1 ?_|refine y2 ?_ ?_|refine y4 λh=>?_|refine y3 ?_|exact y5|fail)
      all_goals refine CutR.at [0,1] rfl rfl ⟨VLe.refl _,VLe.refl _,VLe.refl _,VLe.refl _,VLe.refl _,trivial⟩ ⟨rfl,rfl,trivial⟩ rfl
     ·rw[if_neg h14,if_neg h14] at hA2'
      by_cases h32:(p.getD i dN).op=32
      ·rw[if_pos h32] at hA2'
       subst hA2'
       repeat'(first|exact y0|refine y1 ?_|refine y2 ?_ ?_|refine y4 λh=>?_|refine y3 ?_|exact y5|fail)
       all_goals refine CutR.at [0,1] rfl rfl ⟨VLe.refl _,VLe.refl _,VLe.refl _,VLe.refl _,VLe.refl _,trivial⟩ ⟨rfl,rfl,trivial⟩ rfl
      ·rw[if_neg h32] at hA2'
       subst hA2'
       repeat'(first|exact y0|refine y1 ?_|refine y2 ?_ ?_|refine y4 λh=>?_|refine y3 ?_|exact y5|fail)
       all_goals refine CutR.at [0,1] rfl rfl ⟨VLe.refl _,VLe.refl _,VLe.refl _,VLe.refl _,VLe.refl _,trivial⟩ ⟨rfl,rfl,trivial⟩ rfl
   ·refine⟨?_⟩
    clear hA2 hA1 hT1 hnm hprs hjn hja hTi hat
    repeat'(first|exact y0|refine y1 ?_|refine y2 ?_ ?_|refine y4 λh=>?_|refine y3 ?_|exact y5|fail)
    refine Ex.inv (σ:=Nat) (λk=>[(16,nI k)]) (λk=>[(0,some (rS (jw T1 (ks.take k) A2))),(1,some {cells:=infC A2,ty:=117})]) (λk=>k<=ks.length) (λk=>ks.length-k) 0 rfl (λ_=>rfl) (Z08 _) aV ⟨rfl,rfl,trivial⟩ ?_;intro k hk;by_cases hkl2:k<ks.length
    ·have hkb2:ks.getD k 0<p.length:=hkb _ (by rw[Z00,Z01 hkl2];exact Z0s _)
     have hck:bJ 0 (bG (ks.getD k 0) (Tryz.prog.types[117]).size)=ks.getD k 0*7:=by rw[hsz,am,aB,Z0c]
     have hlk:(jw T1 (ks.take k) A2).length=p.length:=by rw[tm,hT1l]
     repeat'(first|exact y0|refine y1 ?_|refine y2 ?_ ?_|refine y4 λh=>?_|refine RegX.sto [.cells ((jw T1 (ks.take (k+1)) A2).flatMap infC)] rfl rfl ⟨?_,?_⟩ rfl ?_|refine y3 ?_|exact y5|fail)
     all_goals try first
      |omega
      |(show bJ 0 (bG (ks.getD k 0) (Tryz.prog.types[117]).size)+7<=((jw T1 (ks.take k) A2).flatMap infC).length;rw[hck,jD dD,hlk];omega)
      |(show _=bR (rS (jw T1 (ks.take k) A2)).cells (bJ 0 (bG (ks.getD k 0) (Tryz.prog.types[117]).size)) _;rw[hck,zi hkl2];exact (kq dD (q:=A2) (by rw[hlk];exact hkb2)).symm)
     refine LoopR.same (k+1) aa aa rfl ⟨VLe.of_eq (congrArg nI (by push_cast;rfl)),trivial⟩ ⟨rfl,rfl,trivial⟩ rfl rfl ac
    ·rw[Z1l aa,hst]
     repeat'(first|exact y0|refine y1 ?_|refine y2 ?_ ?_|refine y4 λh=>?_|refine y3 ?_|exact y5|fail)
     refine LoopR.same (i+1) aa aa rfl ⟨VLe.of_eq (congrArg nI (by push_cast;rfl)),trivial⟩ ⟨(show some (rS Tn)=some (rS (iN p t (i+1))) by rw[hTn]),trivial⟩ rfl rfl ac
 ·have hi':i=p.length:=aa
  subst hi';rw[<-hs,uD,hs]
  have hl:(be p t).length=p.length:=by simp[be,hs]
  repeat'(first|exact y0|refine y1 ?_|refine y2 ?_ ?_|refine y4 λh=>?_|refine Ex.fz 2 (λk=>infC ((be p t).getD k ini)) 7 rfl rfl rfl rfl (λ_ _=>dD _) (λk j x hk hx=>⟨cF infC 7 ini dD (by rw[hl];exact hk) hx,zO hx⟩) rfl rfl ?_|refine Fin.le (.inl rfl) rfl (VLe.of_eq (by unfold lL;rw[hl];rfl)) rfl|refine y3 ?_|exact y5|fail)
end Go.Proofs.YtegjgpldfgjoiaaGreatDoor
