import Derived.Test.YtegjgpldfgjoiaaGreatDoorCnJ32
set_option linter.all false
set_option maxHeartbeats 40000000
set_option maxRecDepth 100000
namespace Go.Proofs.YtegjgpldfgjoiaaGreatDoor
open Go Ab
section
variable {i:Nat}
def IC (b:Bool):List S:=[.bool b,.int .i64 0,.slc none 0 (some 0)]
abbrev zcB (T:List Bool):Bl:={cells:=T.flatMap IC,ty:=99,sym:=true,flat:=true}
abbrev Gv (T:List Pth):Bl:={cells:=T.flatMap cH,ty:=99,sym:=true,flat:=true}
theorem zD (b:Bool):(IC b).length=3:=rfl
theorem oI (q:Pth):(cH q).length=3:=rfl
abbrev rt0:Pth:=⟨true,0,[]⟩
theorem LH (n:Nat):All2 SLe ((List.replicate n true).flatMap IC) ((List.replicate n rt0).flatMap cH):=by
 induction n with
 |zero=>trivial
 |succ n ih=>
  rw[Z16,Z16,Z0g,Z0g];exact SLe.app2 (show All2 SLe (IC true) (cH rt0) from ⟨SLe.refl _,SLe.refl _,SLe.nil,trivial⟩) ih
def rF (p:List Nd) (t:Fo):List Pth:=(bz p t).map (·.sc)
def vo (p:List Nd) (t:Fo) (i:Nat):List Pth:=(jK p t i).map (·.sc)
def mI (T:List Pth) (ks:List Nat) (x:Pth):List Pth:=ks.foldl (λT k=>T.set k x) T
theorem vg (x:Pth):∀ (ks:List Nat) (T:List Pth),(mI T ks x).length=T.length
 |[],T=>rfl
 |k::ks,T=>by unfold mI;rw[Z2s];exact (vg x ks _).trans aq
theorem BB {T:List Pth} {ks:List Nat} {x:Pth} {k:Nat} (h:k<ks.length):mI T (ks.take (k+1)) x=(mI T (ks.take k) x).set (ks.getD k 0) x:=by
 unfold mI;rw[Z49,Z4a,Z01 h,Z00,Z01 h];rfl
theorem vf (x:Inf):∀ (ks:List Nat) (T:List Inf),(kB T ks x).map (·.sc)=mI (T.map (·.sc)) ks x.sc
 |[],T=>rfl
 |k::ks,T=>by
  unfold kB mI;rw[Z2s,Z2s];have:=vf x ks (T.set k x);rw[Z4l] at this;exact this
theorem Hh {x:Pth} {j:Nat} {s:S} (h:(cH x)[j]? =some s):bL s=true:=by
 rcases j with _|_|_|j
 ·cases h;rfl
 ·cases h;rfl
 ·cases h;rfl
 ·simp[cH] at h
section
variable {p:List Nd} {t:Fo}
theorem G6 (i:Nat):(vo p t i).length=t.size:=by simp[vo,gv]
theorem JH (ha:t.At p 0) (hi:i<t.size):(vo p t i).getD i z0=(aF t i).sc:=by
 grind [tN,vo]
theorem Dd (ha:t.At p 0) (hi:i<t.size):mI (vo p t i) ((t.kid 0 i).starts (i+1)) (bq (p.getD i dN) (aw (t.kid 0 i)) i (aF t i)).sc=vo p t (i+1):=by
 have h:=congrArg (List.map (·.sc)) (rS ha hi);rw[vf,Z4l] at h
 have e:((jK p t i).map (·.sc)).set i (kV p t i).sc=vo p t i:=by
  refine lx ?_;rw[Z0t,tN ha hi];show _=some (ot _ _ _).sc;unfold ot
  split<;>rfl
 rw[e] at h;exact h
theorem z_ (ha:t.At p 0) (hi:i<t.size):(rF p t).getD i z0=(aF t i).sc:=by
 unfold rF;rw[Z00,Z0t,wz hi];show (ot _ _ _).sc=_;unfold ot
 split<;>rfl
theorem zZ:(rF p t).length=t.size:=by simp[rF,bz]
end
theorem Db {cs:List (Bool×Int)} (p:List Nd) (hp:p.length<=2048) (hw:kO p) (t:Fo) (ha:t.At p 0) (hv:t.V cs) (hs:t.size=p.length)
 (hJ:∀ i,i<t.size->(p.getD i dN).op=10\/(p.getD i dN).op=11\/(p.getD i dN).op=12->(ax (aF t i).sc (aw (t.kid 0 i))).2=true):FQ 84 [al p] 0 [] (.s (tu (rF p t))) 0 []:=by
 have hsz:(Tryz.prog.types[99]).size=3:=aK;have hby:(Tryz.prog.types[99]).bytes=40:=aK;refine wW Tryz.func84 ?_
 repeat'(first|refine yA ?_|refine y2 ?_ ?_|exact y5|fail)
 refine mo [.idx p.length,.idx p.length] rfl rfl ?_ ?_
 ·grind
 repeat'(first|refine yA ?_|refine y2 ?_ ?_|exact y5|fail)
 refine Ex.subF (L':=[(0,some (zcB (upto p.length 0)))]) (SubF.cons rfl (λφ w b h=>BlAt.cells (by rw[rC];exact Du (zs:=IC false) (g:=IC) (a:=false) (w:=3) rfl (SLe.refls _) p.length) h) (SubF.refl _)) ?_;refine cy (σ:=Nat) (λi=>[(4,nI i)]) (λi=>[(0,some (zcB (upto p.length i)))]) (λi=>i<=p.length) (λi=>p.length-i) 0 rfl (λ_=>rfl) (Z08 _) aP ⟨rfl,trivial⟩ ?_;intro i hi;by_cases hlt:i<p.length
 ·have hcat:bU 0 (bQ i (Tryz.prog.types[99]).size)=i*3:=by rw[hsz,ak,ao,Z0c]
  repeat'(first|refine y1 ?_|refine y2 ?_ ?_|refine y4 λh=>?_|refine RegX.sto [.cells ((upto p.length (i+1)).flatMap IC)] rfl rfl ⟨?_,?_⟩ rfl ?_|refine y3 ?_|exact y5|fail)
  all_goals try first
   |(rw[hcat];show i*3+3<=((upto p.length i).flatMap IC).length;rw[kK zD,jn];omega)
   |(rw[hcat,<-uU _ _ hlt];exact (lA zD (q:=true) (by rw[jn];exact hlt)).symm)
  refine dz (i+1) aa aa rfl ⟨bB (congrArg nI ae),trivial⟩ ⟨rfl,trivial⟩ rfl rfl ac
 have hi':i=p.length:=aa;subst hi'
 repeat'(first|refine yA ?_|refine y2 ?_ ?_|refine y4 λh=>?_|exact y5|fail)
 rw[uV]
 have hz:vo p t 0=List.replicate p.length rt0:=by unfold vo;rw[rR ha,hs,List.map_replicate];rfl
 refine Ex.subF (L':=[(0,some (Gv (vo p t 0)))]) (SubF.cons rfl (λφ w b h=>BlAt.cells (by rw[hz];exact LH p.length) h) (SubF.refl _)) ?_;refine my [0] 92 [(0,al p),(3,.s (.slc (some (0,0)) p.length (some p.length))),(5,nI 0)] [(0,some (Gv (vo p t 0)))] rfl rfl ⟨ah _,ah _,ah _,trivial⟩ ⟨rfl,trivial⟩ rfl ?_;refine cy (σ:=Nat) (λi=>[(5,nI i)]) (λi=>[(0,some (Gv (vo p t i)))]) (λi=>i<=p.length) (λi=>p.length-i) 0 rfl (λ_=>rfl) (Z08 _) aP ⟨rfl,trivial⟩ ?_;clear hi hlt;intro i hi;by_cases hlt:i<p.length
 ·have hti:i<t.size:=aa
  have hkc:=eV hp ha hv hs hti;have hst:=Dd ha hti;have hat:=JH ha hti;have hT:=G6 (p:=p) (t:=t) i
  have hkb:∀ j∈(t.kid 0 i).starts (i+1),j<p.length:=λj hj=>by have:=(fi ha hti hj).2.1;omega
  have hkl:(t.kid 0 i).cnt<=2048:=by
   have h1:=Fo.cnt_le (t.kid 0 i);have h2:=bv (t:=t) (Z08 i) aa;omega
  rw[<-bE (t.kid 0 i) (i+1)] at hkl;have hnm:=Ao ha hv hti;have hJ:=hJ i hti;have habs:=iA t i;generalize hTn:vo p t (i+1)=Tn at*;generalize vo p t i=T at*;unfold bq at hst;simp only at hst;generalize (aF t i).sc=C at*;generalize hks:(t.kid 0 i).starts (i+1)=ks at*;obtain⟨croot,cup,csegs⟩:=C
  obtain⟨A,hA⟩:∃ A:Pth,A=if ((p.getD i dN).op=10\/(p.getD i dN).op=11\/(p.getD i dN).op=12)/\(ax ⟨croot,cup,csegs⟩ (aw (t.kid 0 i))).2=true then (ax ⟨croot,cup,csegs⟩ (aw (t.kid 0 i))).1 else ⟨croot,cup,csegs⟩:=⟨_,rfl⟩
  rw[<-hA] at hst
  have hcat:bU 0 (bQ i (Tryz.prog.types[99]).size)=i*3:=by rw[hsz,ak,ao,Z0c]
  have hl3:=lT (g:=cH) oI (bl:=Gv T) rfl rfl z0 (i:=i) (j:=0) (m:=3) aa aa;rw[hat] at hl3
  have hl3:eO true (Tryz.prog.types[99]).size (Gv T) (bU 0 (bQ i (Tryz.prog.types[99]).size))=some (.agg (cH ⟨croot,cup,csegs⟩)):=by rw[hcat,hsz];exact hl3
  have hprs:=eG (p.getD (i+1) dN).str (fb hw (i+1));have hsk:=dC (p.getD (i+1) dN).str;have hop:(p.getD i dN).op=10\/(p.getD i dN).op=11\/(p.getD i dN).op=12\/ ¬((p.getD i dN).op=10\/(p.getD i dN).op=11\/(p.getD i dN).op=12):=aa
  have hpos:(p.getD i dN).op=10\/(p.getD i dN).op=11\/(p.getD i dN).op=12->i+1<p.length/\FQ 101 [hY ⟨croot,cup,csegs⟩,hY (ai (p.getD (i+1) dN).str).1] 0 [] (x6 (A,true)) 0 []:=λh=>by
   obtain⟨h1,h2,_⟩:=hnm (by unfold ca;rcases h with h|h|h<;>rw[h]<;>decide);have h3:=hJ h;rw[if_pos ⟨h,h3⟩] at hA;rw[hA];have:=oO ⟨croot,cup,csegs⟩ (ai (p.getD (i+1) dN).str).1 (dS habs) hsk
   grind
  have hneg: ¬((p.getD i dN).op=10\/(p.getD i dN).op=11\/(p.getD i dN).op=12)->A=⟨croot,cup,csegs⟩:=λh=>by rw[hA,if_neg (λe=>h e.1)]
  clear hA hJ hnm hat;generalize ai (p.getD (i+1) dN).str=pp at*;obtain⟨⟨pr,pq,ps⟩,pok⟩:=pp;obtain⟨ar,au,as_⟩:=A
  rcases hop with h|h|h|h
  all_goals
   first
    |(have hE:=hneg h;have hi1:True:=Z0o;have hjn:True:=Z0o)
    |(have hE:True:=Z0o;obtain⟨hi1,hjn⟩:=hpos ae)
   clear hpos hneg
   repeat'(first|refine y1 ?_|refine y2 ?_ ?_|refine y4 λh=>?_|refine an hprs ?_|refine an hjn ?_|refine an hkc ?_|refine gG [.val (.agg (cH ⟨croot,cup,csegs⟩))] rfl rfl hl3 rfl ?_|refine y3 ?_|exact y5|fail)
   refine my [0,1] 92 [(0,al p),(3,.s (.slc (some (0,0)) p.length (some p.length))),(5,nI i),(6,.s (.ptr (some (1,0)))),(9,.s (eQ ks)),(10,nI 0)] [(0,some (Gv T)),(1,some {cells:=cH ⟨ar,au,as_⟩,ty:=99})] rfl rfl ⟨ah _,ah _,ah _,ah _,ah _,ah _,trivial⟩ ⟨rfl,(by first|rfl|(rw[hE];rfl)),trivial⟩ rfl ?_;refine cy (σ:=Nat) (λk=>[(10,nI k)]) (λk=>[(0,some (Gv (mI T (ks.take k) ⟨ar,au,as_⟩))),(1,some {cells:=cH ⟨ar,au,as_⟩,ty:=99})]) (λk=>k<=ks.length) (λk=>ks.length-k) 0 rfl (λ_=>rfl) (Z08 _) aP ⟨rfl,rfl,trivial⟩ ?_;intro k hk;by_cases hkl2:k<ks.length
   ·have hkb2:ks.getD k 0<p.length:=hkb _ ae
    have hck:bU 0 (bQ (ks.getD k 0) (Tryz.prog.types[99]).size)=ks.getD k 0*3:=by rw[hsz,ak,ao,Z0c]
    have hlk:(mI T (ks.take k) ⟨ar,au,as_⟩).length=p.length:=by rw[vg];omega
    repeat'(first|refine y1 ?_|refine y2 ?_ ?_|refine y4 λh=>?_|refine RegX.sto [.cells ((mI T (ks.take (k+1)) ⟨ar,au,as_⟩).flatMap cH)] rfl rfl ⟨?_,?_⟩ rfl ?_|refine y3 ?_|exact y5|fail)
    all_goals try first
     |(show bU 0 (bQ (ks.getD k 0) (Tryz.prog.types[99]).size)+3<=((mI T (ks.take k) ⟨ar,au,as_⟩).flatMap cH).length;rw[hck,kK oI,hlk];omega)
     |(show _=bW (Gv (mI T (ks.take k) ⟨ar,au,as_⟩)).cells (bU 0 (bQ (ks.getD k 0) (Tryz.prog.types[99]).size)) _;rw[hck,BB hkl2];exact (lA oI (q:=⟨ar,au,as_⟩) ae).symm)
    refine dz (k+1) aa aa rfl ⟨bB (congrArg nI ae),trivial⟩ ⟨rfl,rfl,trivial⟩ rfl rfl ac
   ·rw[Z1l aa,hst]
    repeat'(first|refine yA ?_|refine y2 ?_ ?_|refine y4 λh=>?_|exact y5|fail)
    refine dz (i+1) aa aa rfl ⟨bB (congrArg nI ae),trivial⟩ ⟨(show some (Gv Tn)=some (Gv (vo p t (i+1))) by rw[hTn]),trivial⟩ rfl rfl ac
 ·have hi':i=p.length:=aa
  subst hi'
  have hE:vo p t p.length=rF p t:=by unfold vo rF;rw[<-hs,wy]
  rw[hE]
  have hl:(rF p t).length=p.length:=by rw[zZ,hs]
  repeat'(first|refine y1 ?_|refine y2 ?_ ?_|refine y4 λh=>?_|refine Ex.fz 2 (λk=>cH ((rF p t).getD k z0)) 3 rfl rfl rfl rfl (λ_ _=>rfl) (λk j x hk hx=>⟨cq cH 3 z0 oI (by rw[hl];exact hk) hx,Hh hx⟩) rfl rfl ?_|refine dv (.inl rfl) rfl (bB (by unfold tu;rw[hl];rfl)) rfl|refine y3 ?_|exact y5|fail)
end
