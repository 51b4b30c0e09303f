import Derived.Test.YtegjgpldfgjoiaaGreatDoorCnM31
set_option linter.all false
namespace Go.Proofs.YtegjgpldfgjoiaaGreatDoor
open Go Ab
set_option maxRecDepth 100000
set_option maxHeartbeats 40000000
section
variable {i:Nat}
def Gk (b:Bool):List S:=[.bool b,.int .i64 0,.slc none 0 (some 0)]
abbrev zcB (T:List Bool):Bl:={cells:=T.flatMap Gk,ty:=99,sym:=true,flat:=true}
abbrev Ed (T:List Pth):Bl:={cells:=T.flatMap bX,ty:=99,sym:=true,flat:=true}
theorem xp (b:Bool):(Gk b).length=3:=rfl
theorem mX (q:Pth):(bX q).length=3:=rfl
abbrev rt0:Pth:=⟨true,0,[]⟩
theorem I9 (n:Nat):All2 SLe ((List.replicate n true).flatMap Gk) ((List.replicate n rt0).flatMap bX):=by
 induction n with
 |zero=>trivial
 |succ n ih=>
  rw[Z16,Z16,Z0g,Z0g];exact SLe.app2 (show All2 SLe (Gk true) (bX rt0) from ⟨SLe.refl _,SLe.refl _,SLe.nil,trivial⟩) ih
def p8 (p:List Nd) (t:Fo):List Pth:=(be p t).map (·.sc)
def tz (p:List Nd) (t:Fo) (i:Nat):List Pth:=(iN p t i).map (·.sc)
def lA (T:List Pth) (ks:List Nat) (x:Pth):List Pth:=ks.foldl (λT k=>T.set k x) T
theorem tj (x:Pth):∀ (ks:List Nat) (T:List Pth),(lA T ks x).length=T.length
 |[],T=>rfl
 |k::ks,T=>by unfold lA;rw[Z2s];exact (tj x ks _).trans an
theorem zh {T:List Pth} {ks:List Nat} {x:Pth} {k:Nat} (h:k<ks.length):lA T (ks.take (k+1)) x=(lA T (ks.take k) x).set (ks.getD k 0) x:=by
 unfold lA;rw[Z49,Z4a,Z01 h,Z00,Z01 h];rfl
theorem ti (x:Inf):∀ (ks:List Nat) (T:List Inf),(jw T ks x).map (·.sc)=lA (T.map (·.sc)) ks x.sc
 |[],T=>rfl
 |k::ks,T=>by
  unfold jw lA;rw[Z2s,Z2s];have:=ti x ks (T.set k x);rw[Z4l] at this;exact this
theorem EV {x:Pth} {j:Nat} {s:S} (h:(bX x)[j]? =some s):bE s=true:=by
 rcases j with _|_|_|j
 ·cases h;rfl
 ·cases h;rfl
 ·cases h;rfl
 ·simp[bX] at h
section
variable {p:List Nd} {t:Fo}
theorem EH (i:Nat):(tz p t i).length=t.size:=by simp[tz,eN]
theorem Hu (ha:t.At p 0) (hi:i<t.size):(tz p t i).getD i z0=(aC t i).sc:=by
 unfold tz;rw[Z00,Z0t,rR ha hi];rfl
theorem Ba (ha:t.At p 0) (hi:i<t.size):lA (tz p t i) ((t.kid 0 i).starts (i+1)) (bc (p.getD i dN) (ao (t.kid 0 i)) i (aC t i)).sc=tz p t (i+1):=by
 have h:=congrArg (List.map (·.sc)) (qi ha hi);rw[ti,Z4l] at h
 have e:((iN p t i).map (·.sc)).set i (jL p t i).sc=tz p t i:=by
  refine kg ?_;rw[Z0t,rR ha hi];show _=some (mK _ _ _).sc;unfold mK
  split<;>rfl
 rw[e] at h;exact h
theorem xK (ha:t.At p 0) (hi:i<t.size):(p8 p t).getD i z0=(aC t i).sc:=by
 unfold p8;rw[Z00,Z0t,uE hi];show (mK _ _ _).sc=_;unfold mK
 split<;>rfl
theorem xJ:(p8 p t).length=t.size:=by simp[p8,be]
end
theorem A_ {cs:List (Bool×Int)} (p:List Nd) (hp:p.length<=2048) (hw:pn p) (t:Fo) (ha:t.At p 0) (hv:t.V cs) (hs:t.size=p.length)
 (hJ:∀ i,i<t.size->(p.getD i dN).op=10\/(p.getD i dN).op=11\/(p.getD i dN).op=12->(aq (aC t i).sc (ao (t.kid 0 i))).2=true):FC Tryz.prog 84 [al p] 0 [] (.s (rz (p8 p t))) 0 []:=by
 have hsz:(Tryz.prog.types[99]).size=3:=by kernel_rfl
 have hby:(Tryz.prog.types[99]).bytes=40:=by kernel_rfl
 refine wW Tryz.func84 ?_
 repeat'(first|exact y0|refine y1 ?_|refine y2 ?_ ?_|refine y4 λh=>?_|refine y3 ?_|exact y5|fail)
 refine RegX.opA [.idx p.length,.idx p.length] rfl rfl ?_ ?_
 ·rw[hby];exact⟨rfl,rfl,Z02 _,aa,aa⟩
 repeat'(first|exact y0|refine y1 ?_|refine y2 ?_ ?_|refine y4 λh=>?_|refine y3 ?_|exact y5|fail)
 refine Ex.subF (L':=[(0,some (zcB (upto p.length 0)))]) (SubF.cons rfl (λφ w b h=>BlAt.cells (by rw[pV];exact Bv (zs:=Gk false) (g:=Gk) (a:=false) (w:=3) rfl (SLe.refls _) p.length) h) (SubF.refl _)) ?_;refine Ex.inv (σ:=Nat) (λi=>[(4,nI i)]) (λi=>[(0,some (zcB (upto p.length i)))]) (λi=>i<=p.length) (λi=>p.length-i) 0 rfl (λ_=>rfl) (Z08 _) aV ⟨rfl,trivial⟩ ?_;intro i hi;by_cases hlt:i<p.length
 ·have hcat:bJ 0 (bG i (Tryz.prog.types[99]).size)=i*3:=by rw[hsz,am,aB,Z0c]
  repeat'(first|exact y0|refine y1 ?_|refine y2 ?_ ?_|refine y4 λh=>?_|refine RegX.sto [.cells ((upto p.length (i+1)).flatMap Gk)] rfl rfl ⟨?_,?_⟩ rfl ?_|refine y3 ?_|exact y5|fail)
  all_goals try first
   |omega
   |(rw[hcat];show i*3+3<=((upto p.length i).flatMap Gk).length;rw[jD xp,iv];omega)
   |(rw[hcat,<-s6 _ _ hlt];exact (kq xp (q:=true) (by rw[iv];exact hlt)).symm)
  refine LoopR.same (i+1) aa aa rfl ⟨VLe.of_eq (congrArg nI (by push_cast;rfl)),trivial⟩ ⟨rfl,trivial⟩ rfl rfl ac
 have hi':i=p.length:=aa;subst hi'
 repeat'(first|exact y0|refine y1 ?_|refine y2 ?_ ?_|refine y4 λh=>?_|refine y3 ?_|exact y5|fail)
 rw[s7]
 have hz:tz p t 0=List.replicate p.length rt0:=by unfold tz;rw[qh ha,hs,List.map_replicate];rfl
 refine Ex.subF (L':=[(0,some (Ed (tz p t 0)))]) (SubF.cons rfl (λφ w b h=>BlAt.cells (by rw[hz];exact I9 p.length) h) (SubF.refl _)) ?_;refine Ex.canon [0] 92 [(0,al p),(3,.s (.slc (some (0,0)) p.length (some p.length))),(5,nI 0)] [(0,some (Ed (tz p t 0)))] rfl rfl ⟨VLe.refl _,VLe.refl _,VLe.refl _,trivial⟩ ⟨rfl,trivial⟩ rfl ?_;refine Ex.inv (σ:=Nat) (λi=>[(5,nI i)]) (λi=>[(0,some (Ed (tz p t i)))]) (λi=>i<=p.length) (λi=>p.length-i) 0 rfl (λ_=>rfl) (Z08 _) aV ⟨rfl,trivial⟩ ?_;clear hi hlt;intro i hi;by_cases hlt:i<p.length
 ·have hti:i<t.size:=aa
  have hkc:=eh hp ha hv hs hti;have hst:=Ba ha hti;have hat:=Hu ha hti;have hT:=EH (p:=p) (t:=t) i
  have hkb:∀ j∈(t.kid 0 i).starts (i+1),j<p.length:=λj hj=>by have:=(eB ha hti hj).2.1;omega
  have hkl:(t.kid 0 i).cnt<=2048:=by
   have h1:=Fo.cnt_le (t.kid 0 i);have h2:=bm (t:=t) (Z08 i) aa;omega
  rw[<-bp (t.kid 0 i) (i+1)] at hkl;have hnm:=xW ha hv hti;have hJ:=hJ i hti;have habs:=gO t i;generalize hTn:tz p t (i+1)=Tn at*;generalize tz p t i=T at*;unfold bc at hst;simp only at hst;generalize (aC t i).sc=C at*;generalize hks:(t.kid 0 i).starts (i+1)=ks at*;obtain⟨croot,cup,csegs⟩:=C
  obtain⟨A,hA⟩:∃ A:Pth,A=if ((p.getD i dN).op=10\/(p.getD i dN).op=11\/(p.getD i dN).op=12)/\(aq ⟨croot,cup,csegs⟩ (ao (t.kid 0 i))).2=true then (aq ⟨croot,cup,csegs⟩ (ao (t.kid 0 i))).1 else ⟨croot,cup,csegs⟩:=⟨_,rfl⟩
  rw[<-hA] at hst
  have hcat:bJ 0 (bG i (Tryz.prog.types[99]).size)=i*3:=by rw[hsz,am,aB,Z0c]
  have hl3:=kM (g:=bX) mX (bl:=Ed T) rfl rfl z0 (i:=i) (j:=0) (m:=3) aa aa;rw[hat] at hl3
  have hl3:ef true (Tryz.prog.types[99]).size (Ed T) (bJ 0 (bG i (Tryz.prog.types[99]).size))=some (.agg (bX ⟨croot,cup,csegs⟩)):=by rw[hcat,hsz];exact hl3
  have hprs:=dU (p.getD (i+1) dN).str (fZ hw (i+1));have hsk:=de (p.getD (i+1) dN).str;have hop:(p.getD i dN).op=10\/(p.getD i dN).op=11\/(p.getD i dN).op=12\/ ¬((p.getD i dN).op=10\/(p.getD i dN).op=11\/(p.getD i dN).op=12):=aa
  have hpos:(p.getD i dN).op=10\/(p.getD i dN).op=11\/(p.getD i dN).op=12->i+1<p.length/\FC Tryz.prog 101 [gw ⟨croot,cup,csegs⟩,gw (ah (p.getD (i+1) dN).str).1] 0 [] (vR (A,true)) 0 []:=λh=>by
   obtain⟨h1,h2,_⟩:=hnm (by unfold bQ;rcases h with h|h|h<;>rw[h]<;>decide);have h3:=hJ h;rw[if_pos ⟨h,h3⟩] at hA;rw[hA];have:=m8 ⟨croot,cup,csegs⟩ (ah (p.getD (i+1) dN).str).1 (dr habs) hsk;rw[h2] at h3 |-;rw[<-h3];exact⟨h1,this⟩
  have hneg: ¬((p.getD i dN).op=10\/(p.getD i dN).op=11\/(p.getD i dN).op=12)->A=⟨croot,cup,csegs⟩:=λh=>by rw[hA,if_neg (λe=>h e.1)]
  clear hA hJ hnm hat;generalize ah (p.getD (i+1) dN).str=pp at*;obtain⟨⟨pr,pq,ps⟩,pok⟩:=pp;obtain⟨ar,au,as_⟩:=A
  rcases hop with h|h|h|h
  all_goals
   first
    |(have hE:=hneg h;have hi1:True:=Z0o;have hjn:True:=Z0o)
    |(have hE:True:=Z0o;obtain⟨hi1,hjn⟩:=hpos (by rw[h];decide))
   clear hpos hneg
   repeat'(first|exact y0|refine y1 ?_|refine y2 ?_ ?_|refine y4 λh=>?_|refine wX 51 (pu hprs ?_)|refine wX 101 (pu hjn ?_)|refine wX 105 (pu hkc ?_)|refine RegX.ldS [.val (.agg (bX ⟨croot,cup,csegs⟩))] rfl rfl hl3 rfl ?_|refine y3 ?_|exact y5|fail)
   refine Ex.canon [0,1] 92 [(0,al p),(3,.s (.slc (some (0,0)) p.length (some p.length))),(5,nI i),(6,.s (.ptr (some (1,0)))),(9,.s (d9 ks)),(10,nI 0)] [(0,some (Ed T)),(1,some {cells:=bX ⟨ar,au,as_⟩,ty:=99})] rfl rfl ⟨VLe.refl _,VLe.refl _,VLe.refl _,VLe.refl _,VLe.refl _,VLe.refl _,trivial⟩ ⟨rfl,(by first|rfl|(rw[hE];rfl)),trivial⟩ rfl ?_;refine Ex.inv (σ:=Nat) (λk=>[(10,nI k)]) (λk=>[(0,some (Ed (lA T (ks.take k) ⟨ar,au,as_⟩))),(1,some {cells:=bX ⟨ar,au,as_⟩,ty:=99})]) (λk=>k<=ks.length) (λk=>ks.length-k) 0 rfl (λ_=>rfl) (Z08 _) aV ⟨rfl,rfl,trivial⟩ ?_;intro k hk;by_cases hkl2:k<ks.length
   ·have hkb2:ks.getD k 0<p.length:=hkb _ (by rw[Z00,Z01 hkl2];exact Z0s _)
    have hck:bJ 0 (bG (ks.getD k 0) (Tryz.prog.types[99]).size)=ks.getD k 0*3:=by rw[hsz,am,aB,Z0c]
    have hlk:(lA T (ks.take k) ⟨ar,au,as_⟩).length=p.length:=by rw[tj];omega
    repeat'(first|exact y0|refine y1 ?_|refine y2 ?_ ?_|refine y4 λh=>?_|refine RegX.sto [.cells ((lA T (ks.take (k+1)) ⟨ar,au,as_⟩).flatMap bX)] rfl rfl ⟨?_,?_⟩ rfl ?_|refine y3 ?_|exact y5|fail)
    all_goals try first
     |omega
     |(show bJ 0 (bG (ks.getD k 0) (Tryz.prog.types[99]).size)+3<=((lA T (ks.take k) ⟨ar,au,as_⟩).flatMap bX).length;rw[hck,jD mX,hlk];omega)
     |(show _=bR (Ed (lA T (ks.take k) ⟨ar,au,as_⟩)).cells (bJ 0 (bG (ks.getD k 0) (Tryz.prog.types[99]).size)) _;rw[hck,zh hkl2];exact (kq mX (q:=⟨ar,au,as_⟩) (by rw[hlk];exact hkb2)).symm)
    refine LoopR.same (k+1) aa aa rfl ⟨VLe.of_eq (congrArg nI (by push_cast;rfl)),trivial⟩ ⟨rfl,rfl,trivial⟩ rfl rfl ac
   ·rw[Z1l aa,hst]
    repeat'(first|exact y0|refine y1 ?_|refine y2 ?_ ?_|refine y4 λh=>?_|refine y3 ?_|exact y5|fail)
    refine LoopR.same (i+1) aa aa rfl ⟨VLe.of_eq (congrArg nI (by push_cast;rfl)),trivial⟩ ⟨(show some (Ed Tn)=some (Ed (tz p t (i+1))) by rw[hTn]),trivial⟩ rfl rfl ac
 ·have hi':i=p.length:=aa
  subst hi'
  have hE:tz p t p.length=p8 p t:=by unfold tz p8;rw[<-hs,uD]
  rw[hE]
  have hl:(p8 p t).length=p.length:=by rw[xJ,hs]
  repeat'(first|exact y0|refine y1 ?_|refine y2 ?_ ?_|refine y4 λh=>?_|refine Ex.fz 2 (λk=>bX ((p8 p t).getD k z0)) 3 rfl rfl rfl rfl (λ_ _=>rfl) (λk j x hk hx=>⟨cF bX 3 z0 mX (by rw[hl];exact hk) hx,EV hx⟩) rfl rfl ?_|refine Fin.le (.inl rfl) rfl (VLe.of_eq (by unfold rz;rw[hl];rfl)) rfl|refine y3 ?_|exact y5|fail)
end
end Go.Proofs.YtegjgpldfgjoiaaGreatDoor
