import Derived.Test.YtegjgpldfgjoiaaGreatDoorCnD33
set_option linter.all false
set_option maxHeartbeats 40000000
set_option maxRecDepth 100000
namespace Go.Proofs.YtegjgpldfgjoiaaGreatDoor
open Go Ab
def HP:List S:=[.bool true,.int .i64 0,.slc none 0 (some 0),.str [],.int .i64 (-1),.int .i64 (-1),.int .i64 (-1)]
def G9:List S:=[.bool false,.int .i64 0,.slc none 0 (some 0),.str [],.int .i64 0,.int .i64 0,.int .i64 0]
def F9 (b:Bool):List S:=match b with|true=>HP|false=>G9
theorem wl (b:Bool):(F9 b).length=7:=by cases b<;>rfl
abbrev HR (T:List Bool):Bl:={cells:=T.flatMap F9,ty:=117,sym:=true,flat:=true}
def kP (n i:Nat):List Bool:=(List.range n).map λj=>decide (j<i)
theorem xc (n:Nat):kP n 0=List.replicate n false:=by
 refine Z2i λj=>?_
 grind [kP]
theorem yP (n:Nat):kP n n=List.replicate n true:=by
 refine Z2i λj=>?_
 grind [kP]
theorem mJ (n i:Nat):(kP n i).length=n:=by simp[kP]
theorem yO (n i:Nat) (h:i<n):(kP n i).set i true=kP n (i+1):=by
 refine Z2i λj=>?_
 rw[Z1i,mJ];unfold kP
 grind
theorem SLe.refls:∀ l:List S,All2 SLe l l
 |[]=>trivial
 |a::l=>⟨SLe.refl a,SLe.refls l⟩
theorem Dy:All2 SLe (F9 true) (infC ini):=show All2 SLe HP (infC ini) from ⟨SLe.refl _,SLe.refl _,SLe.nil,SLe.refl _,SLe.refl _,SLe.refl _,SLe.refl _,trivial⟩
theorem SLe.app2 {x y:List S} (h:All2 SLe x y) {u v:List S} (k:All2 SLe u v):All2 SLe (x++u) (y++v):=by
 induction x generalizing y with
 |nil=>cases y with
  |nil=>exact k
  |cons _ _=>exact h.elim
 |cons a x ih=>cases y with
  |nil=>exact h.elim
  |cons b y=>exact⟨h.1,ih h.2⟩
theorem F8 (n:Nat):All2 SLe ((List.replicate n true).flatMap F9) ((List.replicate n ini).flatMap infC):=by
 induction n with
 |zero=>trivial
 |succ n ih=>
  rw[Z16,Z16,Z0g,Z0g];exact SLe.app2 Dy ih
theorem mQ {α:Type} {T:List α} {i:Nat} {x:α} (h:T[i]? =some x):T.set i x=T:=by
 refine Z2i λj=>?_
 grind
theorem xn {T:List Inf} {ks:List Nat} {x:Inf} {k:Nat} (h:k<ks.length):jO T (ks.take (k+1)) x=(jO T (ks.take k) x).set (ks.getD k 0) x:=by
 unfold jO;rw[Z49,Z4a,Z01 h,Z00,Z01 h];rfl
theorem wh {cs:List (Bool×Int)} (p:List Nd) (hp:p.length<=2048) (hw:tX p) (t:Fo) (ha:t.At p 0) (hv:t.V cs) (hs:t.size=p.length):FQ 63 [ao p] 0 [] (lh (be p t)) 0 []:=by
 have hsz:(Tryz.prog.types[117]).size=7:=bd;have hby:(Tryz.prog.types[117]).bytes=80:=bd;refine wW Tryz.func63 ?_
 repeat'(first|refine yA ?_|refine y2 ?_ ?_|exact y5|fail)
 refine kO [.idx p.length,.idx p.length] rfl rfl ?_ ?_
 ·grind
 repeat'(first|refine yA ?_|refine y2 ?_ ?_|exact y5|fail)
 refine Ex.subF (L':=[(0,some (HR (kP p.length 0)))]) (SubF.cons rfl (λφ w b h=>BlAt.cells (by rw[xc];exact FA (zs:=G9) (g:=F9) (a:=false) (w:=7) rfl (SLe.refls _) p.length) h) (SubF.refl _)) ?_;refine cD (σ:=Nat) (λi=>[(4,nI i)]) (λi=>[(0,some (HR (kP p.length i)))]) (λi=>i<=p.length) (λi=>p.length-i) 0 rfl (λ_=>rfl) (Z08 _) bc ⟨rfl,trivial⟩ ?_;intro i hi;by_cases hlt:i<p.length
 ·have hcat:bT 0 (bS i (Tryz.prog.types[117]).size)=i*7:=by rw[hsz,aL,bB,Z0c]
  repeat'(first|refine y1 ?_|refine y2 ?_ ?_|refine y4 λh=>?_|refine RegX.sto [.cells ((kP p.length (i+1)).flatMap F9)] rfl rfl ⟨?_,?_⟩ rfl ?_|refine y3 ?_|exact y5|fail)
  all_goals try first
   |(rw[hcat];show i*7+7<=((kP p.length i).flatMap F9).length;rw[lT wl,mJ];omega)
   |(rw[hcat,<-yO _ _ hlt];exact (rB wl (q:=true) (by rw[mJ];exact hlt)).symm)
  refine dT (i+1) aa aa rfl ⟨bp (congrArg nI ae),trivial⟩ ⟨rfl,trivial⟩ rfl rfl ac
 have hi':i=p.length:=aa;subst hi'
 repeat'(first|refine yA ?_|refine y2 ?_ ?_|refine y4 λh=>?_|exact y5|fail)
 rw[yP];refine Ex.subF (L':=[(0,some (qq (jw p t 0)))]) (SubF.cons rfl (λφ w b h=>BlAt.cells (by grind [xO,F8]) h) (SubF.refl _)) ?_;refine Cy [0] 151 [(0,ao p),(3,.s (.slc (some (0,0)) p.length (some p.length))),(5,nI 0)] [(0,some (qq (jw p t 0)))] rfl rfl ⟨ah _,ah _,ah _,trivial⟩ ⟨rfl,trivial⟩ rfl ?_;refine cD (σ:=Nat) (λi=>[(5,nI i)]) (λi=>[(0,some (qq (jw p t i)))]) (λi=>i<=p.length) (λi=>p.length-i) 0 rfl (λ_=>rfl) (Z08 _) bc ⟨rfl,trivial⟩ ?_;clear hi hlt;intro i hi;by_cases hlt:i<p.length
 ·have hti:i<t.size:=aa
  have hkc:=fJ hp ha hv hs hti;have hst:=xP ha hti;have hat:=Dw ha hti;have hT:=gc (p:=p) (t:=t) i
  have hkb:∀ j∈(t.kid 0 i).starts (i+1),j<p.length:=λj hj=>by have:=(ee ha hti hj).2.1;omega
  have hkl:(t.kid 0 i).cnt<=2048:=by
   have h1:=Fo.cnt_le (t.kid 0 i);have h2:=bC (t:=t) (Z08 i) aa;omega
  rw[<-bH (t.kid 0 i) (i+1)] at hkl;have hnm:=EN ha hv hti;have habs:=nT t i;have hcp:=tn ha hti;have hdc:=wD (p.getD i dN).op;unfold jZ at hst;generalize hTn:jw p t (i+1)=Tn at*;generalize jw p t i=T at*;generalize aD t i=C at*;obtain⟨csc,cpath,cme,clo,cpa⟩:=C;simp only at habs hcp;subst hcp;obtain⟨croot,cup,csegs⟩:=csc;have hjn:=we ⟨croot,cup,csegs⟩ (aw (t.kid 0 i)) (fS habs);have hja:= @vo ⟨croot,cup,csegs⟩ (aw (t.kid 0 i));have hprs:=io (p.getD (i+1) dN).str (l_ hw (i+1));have hsk:=ii (p.getD (i+1) dN).str
  have hcat:bT 0 (bS i (Tryz.prog.types[117]).size)=i*7:=by rw[hsz,aL,bB,Z0c]
  have hTi:T.getD i ini=⟨⟨croot,cup,csegs⟩,[],cme,clo,cpa⟩:=ae;have hl7:=nk (g:=infC) dy (bl:=qq T) rfl rfl ini (i:=i) (j:=0) (m:=7) aa aa;rw[hTi] at hl7
  obtain⟨A1,hA1⟩:∃ A1:Inf,A1=⟨if ((p.getD i dN).op=11\/(p.getD i dN).op=12)/\(au ⟨croot,cup,csegs⟩ (aw (t.kid 0 i))).2=true then (au ⟨croot,cup,csegs⟩ (aw (t.kid 0 i))).1 else ⟨croot,cup,csegs⟩,[],cme,clo,(i:Int)⟩:=⟨_,rfl⟩
  obtain⟨A2,hA2⟩:∃ A2:Inf,A2=bJ (p.getD i dN) (aw (t.kid 0 i)) i ⟨⟨croot,cup,csegs⟩,[],cme,clo,cpa⟩:=⟨_,rfl⟩
  rw[<-hA2] at hst
  obtain⟨T1,hT1⟩:∃ T1,T1=T.set i (r9 (p.getD i dN) (aw (t.kid 0 i)) ⟨⟨croot,cup,csegs⟩,[],cme,clo,cpa⟩):=⟨_,rfl⟩
  rw[<-hT1] at hst;have hT1l:T1.length=p.length:=ae;generalize hks:(t.kid 0 i).starts (i+1)=ks at*
  repeat'(first|refine Ex.cutC 52 151 2 [(0,ao p),(3,.s (.slc (some (0,0)) p.length (some p.length))),(5,nI i),(6,.s (gb ks)),(7,.s (.ptr (some (1,0))))] [(0,some (qq T1)),(1,some {cells:=infC A1,ty:=117})] rfl (Hold.k ?_) (Hold.k ?_)|refine y1 ?_|refine y2 ?_ ?_|refine y4 λh=>?_|refine an hkc ?_|refine an hdc ?_|refine tW [.val (.agg (infC ⟨⟨croot,cup,csegs⟩,[],cme,clo,cpa⟩))] rfl rfl ?_ rfl ?_|refine y3 ?_|exact y5|fail)
  ·rw[hcat];exact hl7
  ·refine⟨?_⟩
   cases hdB:bw (p.getD i dN).op
   ·have e1: ¬((p.getD i dN).op=11\/(p.getD i dN).op=12):=by grind [bw]
    rw[if_neg (λh=>e1 h.1)] at hA1
    have e2:T1=T:=by grind [r9,mQ]
    subst hA1;subst e2
    repeat'(first|refine yA ?_|fail)
    refine fu [0,1] rfl rfl ⟨ah _,ah _,ah _,ah _,ah _,trivial⟩ ⟨rfl,rfl,trivial⟩ rfl
   ·obtain⟨hi1,hnmE,l,rfl⟩:=hnm (.inr hdB)
    rw[hnmE] at hjn hA1 hT1 hA2 hja;have hjn:=hjn hsk;generalize ak (p.getD (i+1) dN).str=pp at*;obtain⟨⟨pr,pq,ps⟩,pok⟩:=pp;unfold r9 at hT1;simp only at hjn hA1 hT1 hja hA2;generalize au ⟨croot,cup,csegs⟩ ⟨pr,pq,ps⟩=jj at*;obtain⟨⟨jr,ju,js⟩,ok⟩:=jj;have hsp:(Tryz.prog.types[99]).size=3:=bd;have hl3:=nk (g:=infC) dy (bl:=qq T) rfl rfl ini (i:=i) (j:=0) (m:=3) aa aa;rw[hTi] at hl3;cases ok
    ·rw[if_neg av] at hA1 hT1
     have e2:T1=T:=by rw[hT1];exact mQ hat
     subst hA1;subst e2
     repeat'(first|refine y1 ?_|refine y2 ?_ ?_|refine an hprs ?_|refine an hjn ?_|refine tW [.val (.agg (cX ⟨croot,cup,csegs⟩))] rfl rfl ?_ rfl ?_|refine y3 ?_|exact y5|fail)
     all_goals try first
      |exact hi1
      |(show 0<((i+1)::l).length;simp)
      |(show fo true (Tryz.prog.types[99]).size (qq T1) (bT (bT 0 (bS i (Tryz.prog.types[117]).size)) 0)=_;rw[hsp,hcat,aL];exact hl3)
     all_goals try refine fu [0,1] rfl rfl ⟨ah _,ah _,ah _,ah _,ah _,trivial⟩ ⟨rfl,rfl,trivial⟩ rfl
    ·rw[if_pos ⟨hdB,rfl⟩] at hT1
     have hfm:=uR ⟨jr,ju,js⟩ (fS (hja rfl))
     have hst2:bW (T.flatMap infC) (i*7+3) [.str (aH ⟨jr,ju,js⟩)]=T1.flatMap infC:=by
      rw[hT1];exact jL dy (d:=ini) av aa (by rw[hTi];rfl)
     have hp3:bT (bT 0 (bS i (Tryz.prog.types[117]).size)) 3=i*7+3:=by rw[hcat,aL]
     by_cases hd:(p.getD i dN).op=11\/(p.getD i dN).op=12
     ·rw[if_pos ⟨hd,rfl⟩] at hA1
      subst hA1
      repeat'(first|refine y1 ?_|refine y2 ?_ ?_|refine y4 λh=>?_|refine an hprs ?_|refine an hjn ?_|refine an hfm ?_|refine tW [.val (.agg (cX ⟨croot,cup,csegs⟩))] rfl rfl ?_ rfl ?_|refine RegX.sto [.cells (T1.flatMap infC)] rfl rfl ⟨?_,?_⟩ rfl ?_|refine y3 ?_|exact y5|fail)
      all_goals try first
       |exact hi1
       |(show 0<((i+1)::l).length;simp)
       |(show fo true (Tryz.prog.types[99]).size (qq T) (bT (bT 0 (bS i (Tryz.prog.types[117]).size)) 0)=_;rw[hsp,hcat,aL];exact hl3)
       |(show _=bW (qq T).cells (bT (bT 0 (bS i (Tryz.prog.types[117]).size)) 3) _;rw[hp3];exact hst2.symm)
       |(show bT (bT 0 (bS i (Tryz.prog.types[117]).size)) 3+1<=(T.flatMap infC).length;rw[hp3,lT dy];omega)
      all_goals try refine fu [0,1] rfl rfl ⟨ah _,ah _,ah _,ah _,ah _,trivial⟩ ⟨rfl,rfl,trivial⟩ rfl
     ·rw[if_neg (λh=>hd h.1)] at hA1
      subst hA1
      repeat'(first|refine y1 ?_|refine y2 ?_ ?_|refine y4 λh=>?_|refine an hprs ?_|refine an hjn ?_|refine an hfm ?_|refine tW [.val (.agg (cX ⟨croot,cup,csegs⟩))] rfl rfl ?_ rfl ?_|refine RegX.sto [.cells (T1.flatMap infC)] rfl rfl ⟨?_,?_⟩ rfl ?_|refine y3 ?_|exact y5|fail)
      all_goals try first
       |exact hi1
       |(show 0<((i+1)::l).length;simp)
       |(show fo true (Tryz.prog.types[99]).size (qq T) (bT (bT 0 (bS i (Tryz.prog.types[117]).size)) 0)=_;rw[hsp,hcat,aL];exact hl3)
       |(show _=bW (qq T).cells (bT (bT 0 (bS i (Tryz.prog.types[117]).size)) 3) _;rw[hp3];exact hst2.symm)
       |(show bT (bT 0 (bS i (Tryz.prog.types[117]).size)) 3+1<=(T.flatMap infC).length;rw[hp3,lT dy];omega)
      all_goals try refine fu [0,1] rfl rfl ⟨ah _,ah _,ah _,ah _,ah _,trivial⟩ ⟨rfl,rfl,trivial⟩ rfl
  ·refine⟨?_⟩
   clear hl7
   repeat'(first|refine Ex.cutB 4 151 2 [(0,ao p),(3,.s (.slc (some (0,0)) p.length (some p.length))),(5,nI i),(6,.s (gb ks)),(7,.s (.ptr (some (1,0))))] [(0,some (qq T1)),(1,some {cells:=infC A2,ty:=117})] rfl (Hold.k ?_) (Hold.k ?_)|refine y1 ?_|refine y2 ?_ ?_|refine y3 ?_|exact y5|fail)
   ·refine⟨?_⟩
    have hA2':A2=⟨if (p.getD i dN).op=10/\(au ⟨croot,cup,csegs⟩ (aw (t.kid 0 i))).2=true then (au ⟨croot,cup,csegs⟩ (aw (t.kid 0 i))).1 else A1.sc,[],if (p.getD i dN).op=14 then (i:Int) else cme,if (p.getD i dN).op=14 then-1 else if (p.getD i dN).op=32 then (i:Int) else clo,(i:Int)⟩:=by
     grind [bJ]
    by_cases h10:(p.getD i dN).op=10
    ·obtain⟨hi1,hnmE,l,rfl⟩:=hnm (.inl h10)
     have e1:A1=⟨⟨croot,cup,csegs⟩,[],cme,clo,(i:Int)⟩:=by rw[hA1,if_neg (λh=>by omega)]
     have e2:T1=T:=by rw[hT1];unfold r9;rw[if_neg (λh=>by grind [bw])];exact mQ hat
     rw[hnmE] at hjn hA2';have hjn:=hjn hsk;rw[if_neg (show ¬(p.getD i dN).op=14 by omega),if_neg (show ¬(p.getD i dN).op=14 by omega),if_neg (show ¬(p.getD i dN).op=32 by omega)] at hA2';clear hA2 hA1 hT1;subst e1;subst e2;generalize ak (p.getD (i+1) dN).str=pp at*;obtain⟨⟨pr,pq,ps⟩,pok⟩:=pp;simp only at hjn hA2';generalize au ⟨croot,cup,csegs⟩ ⟨pr,pq,ps⟩=jj at*;obtain⟨⟨jr,ju,js⟩,ok⟩:=jj;have hsp:(Tryz.prog.types[99]).size=3:=bd;have hl3:=nk (g:=infC) dy (bl:=qq T1) rfl rfl ini (i:=i) (j:=0) (m:=3) aa aa;rw[hTi] at hl3;cases ok
     ·rw[if_neg av] at hA2'
      subst hA2'
      repeat'(first|refine y1 ?_|refine y2 ?_ ?_|refine y4 λh=>?_|refine an hprs ?_|refine an hjn ?_|refine tW [.val (.agg (cX ⟨croot,cup,csegs⟩))] rfl rfl ?_ rfl ?_|refine y3 ?_|exact y5|fail)
      all_goals try first
       |exact hi1
       |(show 0<((i+1)::l).length;simp)
       |(show fo true (Tryz.prog.types[99]).size (qq T1) (bT (bT 0 (bS i (Tryz.prog.types[117]).size)) 0)=_;rw[hsp,hcat,aL];exact hl3)
      all_goals refine fu [0,1] rfl rfl ⟨ah _,ah _,ah _,ah _,ah _,trivial⟩ ⟨rfl,rfl,trivial⟩ rfl
     ·rw[if_pos ⟨h10,rfl⟩] at hA2'
      subst hA2'
      repeat'(first|refine y1 ?_|refine y2 ?_ ?_|refine y4 λh=>?_|refine an hprs ?_|refine an hjn ?_|refine tW [.val (.agg (cX ⟨croot,cup,csegs⟩))] rfl rfl ?_ rfl ?_|refine y3 ?_|exact y5|fail)
      all_goals try first
       |exact hi1
       |(show 0<((i+1)::l).length;simp)
       |(show fo true (Tryz.prog.types[99]).size (qq T1) (bT (bT 0 (bS i (Tryz.prog.types[117]).size)) 0)=_;rw[hsp,hcat,aL];exact hl3)
      all_goals refine fu [0,1] rfl rfl ⟨ah _,ah _,ah _,ah _,ah _,trivial⟩ ⟨rfl,rfl,trivial⟩ rfl
    ·rw[if_neg (λh=>h10 h.1)] at hA2'
     have hc1:A1.path=[]/\A1.me=cme/\A1.lo=clo/\A1.pa=(i:Int):=ae;obtain⟨asc,apath,ame,alo,apa⟩:=A1;obtain⟨r1,r2,r3,r4⟩:=hc1;simp only at r1 r2 r3 r4 hA2';subst r1;subst r2;subst r3;subst r4;by_cases h14:(p.getD i dN).op=14
     ·rw[if_pos h14,if_pos h14] at hA2'
      subst hA2'
      repeat'(first|refine yA ?_|refine y2 ?_ ?_|refine y4 λh=>?_|exact y5|fail)
      all_goals refine fu [0,1] rfl rfl ⟨ah _,ah _,ah _,ah _,ah _,trivial⟩ ⟨rfl,rfl,trivial⟩ rfl
     ·rw[if_neg h14,if_neg h14] at hA2'
      by_cases h32:(p.getD i dN).op=32
      ·rw[if_pos h32] at hA2'
       subst hA2'
       repeat'(first|refine yA ?_|refine y2 ?_ ?_|refine y4 λh=>?_|exact y5|fail)
       all_goals refine fu [0,1] rfl rfl ⟨ah _,ah _,ah _,ah _,ah _,trivial⟩ ⟨rfl,rfl,trivial⟩ rfl
      ·rw[if_neg h32] at hA2'
       subst hA2'
       repeat'(first|refine yA ?_|refine y2 ?_ ?_|refine y4 λh=>?_|exact y5|fail)
       all_goals refine fu [0,1] rfl rfl ⟨ah _,ah _,ah _,ah _,ah _,trivial⟩ ⟨rfl,rfl,trivial⟩ rfl
   ·refine⟨?_⟩
    clear hA2 hA1 hT1 hnm hprs hjn hja hTi hat
    repeat'(first|refine yA ?_|refine y2 ?_ ?_|exact y5|fail)
    refine cD (σ:=Nat) (λk=>[(16,nI k)]) (λk=>[(0,some (qq (jO T1 (ks.take k) A2))),(1,some {cells:=infC A2,ty:=117})]) (λk=>k<=ks.length) (λk=>ks.length-k) 0 rfl (λ_=>rfl) (Z08 _) bc ⟨rfl,rfl,trivial⟩ ?_;intro k hk;by_cases hkl2:k<ks.length
    ·have hkb2:ks.getD k 0<p.length:=hkb _ ae
     have hck:bT 0 (bS (ks.getD k 0) (Tryz.prog.types[117]).size)=ks.getD k 0*7:=by rw[hsz,aL,bB,Z0c]
     have hlk:(jO T1 (ks.take k) A2).length=p.length:=by rw[rC,hT1l]
     repeat'(first|refine y1 ?_|refine y2 ?_ ?_|refine y4 λh=>?_|refine RegX.sto [.cells ((jO T1 (ks.take (k+1)) A2).flatMap infC)] rfl rfl ⟨?_,?_⟩ rfl ?_|refine y3 ?_|exact y5|fail)
     all_goals try first
      |(show bT 0 (bS (ks.getD k 0) (Tryz.prog.types[117]).size)+7<=((jO T1 (ks.take k) A2).flatMap infC).length;rw[hck,lT dy,hlk];omega)
      |(show _=bW (qq (jO T1 (ks.take k) A2)).cells (bT 0 (bS (ks.getD k 0) (Tryz.prog.types[117]).size)) _;rw[hck,xn hkl2];exact (rB dy (q:=A2) ae).symm)
     refine dT (k+1) aa aa rfl ⟨bp (congrArg nI ae),trivial⟩ ⟨rfl,rfl,trivial⟩ rfl rfl ac
    ·rw[Z1l aa,hst]
     repeat'(first|refine yA ?_|refine y2 ?_ ?_|refine y4 λh=>?_|exact y5|fail)
     refine dT (i+1) aa aa rfl ⟨bp (congrArg nI ae),trivial⟩ ⟨(show some (qq Tn)=some (qq (jw p t (i+1))) by rw[hTn]),trivial⟩ rfl rfl ac
 ·have hi':i=p.length:=aa
  subst hi';rw[<-hs,AG,hs]
  have hl:(be p t).length=p.length:=by simp[be,hs]
  repeat'(first|refine y1 ?_|refine y2 ?_ ?_|refine y4 λh=>?_|refine Ex.fz 2 (λk=>infC ((be p t).getD k ini)) 7 rfl rfl rfl rfl (λ_ _=>dy _) (λk j x hk hx=>⟨dQ infC 7 ini dy (by rw[hl];exact hk) hx,xQ hx⟩) rfl rfl ?_|refine cW (.inl rfl) rfl (bp (by unfold lh;rw[hl];rfl)) rfl|refine y3 ?_|exact y5|fail)
