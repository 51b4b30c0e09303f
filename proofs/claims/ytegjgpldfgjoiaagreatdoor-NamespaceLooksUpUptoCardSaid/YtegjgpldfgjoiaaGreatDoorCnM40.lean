import Derived.Test.YtegjgpldfgjoiaaGreatDoorCnM38
import Derived.Test.YtegjgpldfgjoiaaGreatDoorCnM26
import Derived.Test.YtegjgpldfgjoiaaGreatDoorCnM29
import Derived.Test.YtegjgpldfgjoiaaGreatDoorCnM32
set_option linter.all false
namespace Go.Proofs.YtegjgpldfgjoiaaGreatDoor
open Go Ab
set_option maxRecDepth 100000
set_option maxHeartbeats 40000000
section
variable {i:Nat}
section
variable {p:List Nd} {t:Fo}
theorem z7 (hi:i<t.size) (hne:bF p t i≠[]):mO p t i=decide (di (be p t) (bF p t i)<(i:Int)):=by
 unfold mO;rw[decide_eq_true hne,Z1r,Z5t,decide_eq_true_eq,wG]
 rcases hZ (p:=p) (t:=t) (bF p t i) with ⟨_,h2⟩|⟨k,h1,h2,h3,h4⟩
 ·exact absurd rfl (h2 i hi)
 ·rw[h1]
  constructor
  ·rintro⟨m,m1,m2⟩
   rcases Z0a m k with q|q
   ·exact absurd m2 (h4 m q)
   ·omega
  ·intro h
   exact⟨k,aa,h3⟩
theorem F2 (ha:t.At p 0) (hi:i<t.size) (hd:bQ (p.getD i dN).op=true):ie p t i=decide (bF p t i=[]):=by
 have h:=nY (p:=p) ha hi;unfold ie;rw[hd,Z3e,Z1r]
 by_cases e:bF p t i=[]
 ·rw[decide_eq_true e]
  cases q:BM p t i with
  |false=>rfl
  |true=>exact absurd e (h.2 ⟨hd,q⟩)
 ·rw[decide_eq_false e,(h.1 e).2];rfl
theorem Ex.cutQ {P:Program} {b:Nat} {y:Code} {env:List V} {n:Nat} {L:Hp} {R:Post} (id N n':Nat) (X:List (Nat×V)) (H:Hp) {E:List V} {ops:Array Oper} {d:Bool} (hE:fY (ov X 0 N) [] some=some E) (h:Ex P b (.region id ops d) env n L (CutR b N n' X H)) (k:Ex P b y E n' H R):Ex P b (.seq (.region id ops d) y) env n L R:=Ex.seq (Ex.cut N n' X H hE h k)
def GX (A:List Bool) (j:Nat):List Nat:=(List.range' 1 j).filter λk=>A.getD k false
theorem Ds (A:List Bool) (j:Nat):GX A (j+1)=GX A j++if A.getD (j+1) false=true then [j+1] else []:=by
 unfold GX;rw[List.range'_1_concat,Z3l,Z4k 1 j,Z2o,List.filter_nil]
theorem FU (A:List Bool) (j:Nat):(GX A j).length<=j:=by
 have:=Z37 (λk=>A.getD k false) (List.range' 1 j);rw[Z5e] at this;exact this
abbrev DQ (l:List Bool):Bl:={cells:=l.map S.bool,ty:=175}
theorem x9 {A:List Bool} {k:Nat} {b:Bool} (hl:k<A.length) (h:A.getD k false=b):ef false 1 (DQ A) k=some (bV b):=by
 show (match (A.map S.bool)[k]? with|some x=>some (V.s x)|none=>none)=_;rw[Z00,Z01 hl] at h;rw[Z0t,Z01 hl];simp only[Z22] at h;rw[<-h];rfl
theorem o0 (p:List Nd) (t:Fo) (i:Nat):(fP p t i).length<=10:=by
 unfold fP;have:=Z37 (λk=>(F7 p t i).getD k false) (List.range' 1 10)
 simpa using this
theorem FN (hp:p.length<=2048) (hw:pn p) (hI:pR p) (ha:t.At p 0) (hv:t.V (List.replicate t.cnt (false,68))) (hs:t.size=p.length) (hi:i<t.size):
 FC Tryz.prog 64 [al p,lL (be p t),nI i] 0 [] (.s (d9 (fP p t i))) 0 []:=by
 have hsz:(Tryz.prog.types[3]).size=1:=by kernel_rfl
 have hby:(Tryz.prog.types[3]).bytes=8:=by kernel_rfl
 have hip:i<p.length:=aa
 have hLl:(be p t).length=p.length:=by rw[eO,hs]
 have hkc:=eh hp ha hv hs hi;have hdc:=yx (p.getD i dN).op;have hir:=uH hp hI ha hv hs hi;have hto:=IZ hp ha hv hs hi;have hnr:=GI hp hw ha hv hs hi;have hou:=Jf hp hw hI ha hv hs hi;have hun:=IY hp ha hv hs hi
 have hsc:((be p t).getD i ini).sc=(aC t i).sc:=by rw[gc hi];exact BJ i
 have hpt:((be p t).getD i ini).path=bF p t i:=mY hi
 have hlo:((be p t).getD i ini).lo=(aC t i).lo:=by rw[gc hi];exact (n9 i).2.1
 have hme:((be p t).getD i ini).me=(aC t i).me:=by rw[gc hi];exact (n9 i).1
 have hfi:=uN (be p t) aa (bF p t i)
 have hsg:cR ((be p t).getD i ini).sc.segs:=by rw[hsc];exact dr (gO t i)
 have hdf:=z7 (p:=p) hi;have hbd:=F2 (p:=p) ha hi;have hnm:=xW ha hv hi;have hprs:=dU (p.getD (i+1) dN).str (fZ hw (i+1));have hjn:=m8 ((be p t).getD i ini).sc (ah (p.getD (i+1) dN).str).1 hsg (de _)
 have hok:(p.getD i dN).op=10->BM p t i=(aq ((be p t).getD i ini).sc (ah (p.getD (i+1) dN).str).1).2:=λh=>by
  unfold BM;rw[hsc,(hnm (.inl h)).2.1]
 have hks:(p.getD i dN).op=10->((t.kid 0 i).starts (i+1)).getD 0 0=i+1/\0<((t.kid 0 i).starts (i+1)).length/\i+1<p.length:=λh=>by
  obtain⟨a,b,c⟩:=hnm (.inl h);obtain⟨l,e⟩:=c;rw[e];exact⟨rfl,an,a⟩
 have hbm:=yG ha hv i hi
 have hnum:∀ M,M<t.size->(p.getD M dN).op=14->FC Tryz.prog 112 [al p,nI M,nI (1:Nat)] 0 [] (nU (ai p (M+1+1))) 0 []:=λM hM h=>oh hp ha hv hs hM 1 (by rw[h];decide)
 have hge:∀ j,0<=ai p j:=λj=>ca hI j
 have hlo2:zI p t i=(decide ((p.getD i dN).op=34\/(p.getD i dN).op=35)&&decide (((be p t).getD i ini).lo<0)):=by unfold zI;rw[hlo]
 obtain⟨c4,hc4⟩:∃ c,c= !aK p i:=⟨_,rfl⟩
 have hc4':aK p i= !c4:=by rw[hc4,Bool.not_not]
 rw[<-hc4] at hir;unfold fP F7;rw[hc4'];clear hc4 hc4' hlo hsc
 have hb2:ie p t i=(if (p.getD i dN).op=10 then !BM p t i else if bQ (p.getD i dN).op=true then decide (bF p t i=[]) else false):=by
  by_cases h:(p.getD i dN).op=10
  ·unfold ie;rw[if_pos h,decide_eq_true h,Z4m,Z1r]
  ·rw[if_neg h]
   split
   ·rename_i hd;exact hbd hd
   ·rename_i hd
    have hd:bQ (p.getD i dN).op=false:=by cases q:bQ (p.getD i dN).op<;>simp_all
    unfold ie;rw[hd,decide_eq_false h];rfl
 have hb3:mO p t i=(if bQ (p.getD i dN).op=true then decide (bF p t i≠[])&&decide (di (be p t) (bF p t i)<(i:Int)) else false):=by
  by_cases e:bF p t i=[]
  ·unfold mO;simp[e]
  ·rw[hdf e,decide_eq_true e,Z1r,if_pos ((nY ha hi).1 e).1]
 have hx10:(p.getD i dN).op=10->bQ (p.getD i dN).op=false:=λh=>by unfold bQ;rw[decide_eq_false aa]
 clear hbd hdf hnm;generalize BM p t i=ok at*;generalize ie p t i=b2 at*;generalize mO p t i=b3 at*;generalize pC p i=b5 at*;generalize fW p t i=b6 at*;generalize fe p t i=b7 at*;generalize hb8:zI p t i=b8 at*;generalize hb9:DE p t i=b9 at*;generalize nH p t i=b10 at*;unfold DE at hb9;rw[<-hme] at hb9 hbm;generalize bF p t i=P at*;generalize (t.kid 0 i).starts (i+1)=ks at*;generalize be p t=L at*;generalize di L P=fr at*;rw[<-hpt] at hfi
 obtain⟨B2,hB2⟩:∃ B,B=(if (p.getD i dN).op=10 then !ok else false):=⟨_,rfl⟩
 refine wW Tryz.func64 ?_
 repeat'(first|refine Ex.cutS 3 159 1 [(0,al p),(1,lL L),(2,nI i),(7,.s (.slc none 0 (some 0))),(8,.s (.ptr (some (0,0))))] [(0,some (DQ [false,false,B2,false,false,false,false,false,false,false,false]))] rfl (Hold.k ?_) (Hold.k ?_)|exact y0|refine y1 ?_|refine y2 ?_ ?_|refine y4 λh=>?_|refine y3 ?_|exact y5|fail)
 all_goals try omega
 ·refine⟨?_⟩
  by_cases h10:(p.getD i dN).op=10
  ·obtain⟨k1,k2,k3⟩:=hks h10
   have hok:=hok h10;rw[if_pos h10] at hB2;subst hB2;rw[<-k1] at hprs hjn hok;have hkp:ks.getD 0 0<p.length:=aa;generalize ah (p.getD (ks.getD 0 0) dN).str=pp at*;obtain⟨⟨pr,pq,ps⟩,pok⟩:=pp;simp only at hjn hok;generalize aq (L.getD i ini).sc ⟨pr,pq,ps⟩=jj at*;obtain⟨⟨jr,ju,js⟩,jok⟩:=jj;simp only at hok;subst hok
   repeat'(first|exact y0|refine y1 ?_|refine y2 ?_ ?_|refine y4 λh=>?_|refine wX 105 (pu hkc ?_)|refine wX 51 (pu hprs ?_)|refine wX 101 (pu hjn ?_)|refine y3 ?_|exact y5|fail)
   all_goals try first|omega|exact k2
   all_goals refine CutR.at [0] rfl rfl ⟨VLe.refl _,VLe.refl _,VLe.refl _,VLe.refl _,VLe.refl _,trivial⟩ ⟨rfl,trivial⟩ rfl
  ·rw[if_neg h10] at hB2
   subst hB2
   repeat'(first|exact y0|refine y1 ?_|refine y2 ?_ ?_|refine y4 λh=>?_|refine y3 ?_|exact y5|fail)
   all_goals refine CutR.at [0] rfl rfl ⟨VLe.refl _,VLe.refl _,VLe.refl _,VLe.refl _,VLe.refl _,trivial⟩ ⟨rfl,trivial⟩ rfl
 refine⟨?_⟩;clear hkc hprs hjn hok hks
 repeat'(first|refine Ex.cutC 52 159 1 [(0,al p),(1,lL L),(2,nI i),(7,.s (.slc none 0 (some 0))),(8,.s (.ptr (some (0,0))))] [(0,some (DQ [false,false,b2,b3,false,false,false,false,false,false,false]))] rfl (Hold.k ?_) (Hold.k ?_)|exact y0|refine y1 ?_|refine y2 ?_ ?_|refine y4 λh=>?_|refine wX 106 (pu hdc ?_)|refine y3 ?_|exact y5|fail)
 all_goals try omega
 ·refine⟨?_⟩
  cases hd:bQ (p.getD i dN).op
  ·rw[hd,if_neg ac] at hb3
   rw[hd,if_neg (show ¬(false=true) by decide),<-hB2] at hb2;subst hb2;subst hb3
   repeat'(first|exact y0|refine y1 ?_|refine y2 ?_ ?_|refine y4 λh=>?_|refine y3 ?_|exact y5|fail)
   all_goals refine CutR.at [0] rfl rfl ⟨VLe.refl _,VLe.refl _,VLe.refl _,VLe.refl _,VLe.refl _,trivial⟩ ⟨rfl,trivial⟩ rfl
  ·have h10: ¬(p.getD i dN).op=10:=λh=>by rw[hx10 h] at hd;cases hd
   rw[if_neg h10] at hB2 hb2;rw[hd,if_pos rfl] at hb2 hb3;subst hB2
   by_cases hP:P=[]
   ·rw[decide_eq_true hP] at hb2
    rw[decide_eq_false (λh=>h hP),Z2c] at hb3;subst hb2;subst hb3;have hP':(L.getD i ini).path=[]:=hpt.trans hP
    repeat'(first|exact y0|refine y1 ?_|refine y2 ?_ ?_|refine y4 λh=>?_|refine y3 ?_|exact y5|fail)
    all_goals try omega
    all_goals refine CutR.at [0] rfl rfl ⟨VLe.refl _,VLe.refl _,VLe.refl _,VLe.refl _,VLe.refl _,trivial⟩ ⟨rfl,trivial⟩ rfl
   ·rw[decide_eq_false hP] at hb2
    rw[decide_eq_true hP,Z1r] at hb3
    have hP': ¬(L.getD i ini).path=[]:=λh=>hP (hpt.symm.trans h)
    by_cases hf:fr<(i:Int)
    ·rw[decide_eq_true hf] at hb3
     subst hb2;subst hb3
     repeat'(first|exact y0|refine y1 ?_|refine y2 ?_ ?_|refine y4 λh=>?_|refine wX 107 (pu hfi ?_)|refine y3 ?_|exact y5|fail)
     all_goals try omega
     all_goals refine CutR.at [0] rfl rfl ⟨VLe.refl _,VLe.refl _,VLe.refl _,VLe.refl _,VLe.refl _,trivial⟩ ⟨rfl,trivial⟩ rfl
    ·rw[decide_eq_false hf] at hb3
     subst hb2;subst hb3
     repeat'(first|exact y0|refine y1 ?_|refine y2 ?_ ?_|refine y4 λh=>?_|refine wX 107 (pu hfi ?_)|refine y3 ?_|exact y5|fail)
     all_goals try omega
     all_goals refine CutR.at [0] rfl rfl ⟨VLe.refl _,VLe.refl _,VLe.refl _,VLe.refl _,VLe.refl _,trivial⟩ ⟨rfl,trivial⟩ rfl
 refine⟨?_⟩;clear hb2 hb3 hB2 hdc hfi hx10
 repeat'(first|refine Ex.cutQ 14 159 1 [(0,al p),(1,lL L),(2,nI i),(7,.s (.slc none 0 (some 0))),(8,.s (.ptr (some (0,0))))] [(0,some (DQ [false,false,b2,b3,!c4,b5,b6,b7,b8,false,false]))] rfl (Hold.k ?_) (Hold.k ?_)|exact y0|refine y1 ?_|refine y2 ?_ ?_|refine y4 λh=>?_|refine wX 108 (pu hir ?_)|refine wX 109 (pu hto ?_)|refine wX 110 (pu hnr ?_)|refine wX 111 (pu hou ?_)|refine y3 ?_|exact y5|fail)
 ·refine⟨?_⟩
  clear hir hto hnr hou hun hb9 hbm hnum;by_cases h3:(p.getD i dN).op=34\/(p.getD i dN).op=35
  ·rw[decide_eq_true h3,Z1r] at hlo2
   by_cases hl:(L.getD i ini).lo<0
   ·rw[decide_eq_true hl] at hlo2
    clear hb8;subst hlo2
    repeat'(first|exact y0|refine y1 ?_|refine y2 ?_ ?_|refine y4 λh=>?_|refine y3 ?_|exact y5|fail)
    all_goals try omega
    all_goals refine CutR.at [0] rfl rfl ⟨VLe.refl _,VLe.refl _,VLe.refl _,VLe.refl _,VLe.refl _,trivial⟩ ⟨rfl,trivial⟩ rfl
   ·rw[decide_eq_false hl] at hlo2
    clear hb8;subst hlo2
    repeat'(first|exact y0|refine y1 ?_|refine y2 ?_ ?_|refine y4 λh=>?_|refine y3 ?_|exact y5|fail)
    all_goals try omega
    all_goals refine CutR.at [0] rfl rfl ⟨VLe.refl _,VLe.refl _,VLe.refl _,VLe.refl _,VLe.refl _,trivial⟩ ⟨rfl,trivial⟩ rfl
  ·rw[decide_eq_false h3,Z2c] at hlo2
   clear hb8;subst hlo2
   repeat'(first|exact y0|refine y1 ?_|refine y2 ?_ ?_|refine y4 λh=>?_|refine y3 ?_|exact y5|fail)
   all_goals try omega
   all_goals refine CutR.at [0] rfl rfl ⟨VLe.refl _,VLe.refl _,VLe.refl _,VLe.refl _,VLe.refl _,trivial⟩ ⟨rfl,trivial⟩ rfl
 refine⟨?_⟩;clear hir hto hnr hou hlo2 hb8
 repeat'(first|refine Ex.cutQ 15 159 1 [(0,al p),(1,lL L),(2,nI i),(7,.s (.slc none 0 (some 0))),(8,.s (.ptr (some (0,0))))] [(0,some (DQ [false,false,b2,b3,!c4,b5,b6,b7,b8,b9,false]))] rfl (Hold.k ?_) (Hold.k ?_)|exact y0|refine y1 ?_|refine y2 ?_ ?_|refine y4 λh=>?_|refine y3 ?_|exact y5|fail)
 ·refine⟨?_⟩
  have hgi:ai p i=(p.getD i dN).int:=rfl;rw[hgi] at hb9;by_cases h7:(p.getD i dN).op=7
  ·obtain⟨M,m1,m2,m3,m4⟩:=hbm (by rw[h7];decide)
   have hnM:FC Tryz.prog 112 [al p,nI M,nI (1:Nat)] 0 [] (nU (ai p (M+2))) 0 []:=hnum M aa m3;rw[decide_eq_true h7,Z1r,m2,Z12] at hb9;clear hun hnum hbm;by_cases h9:ai p (M+2)<=(p.getD i dN).int
   ·rw[decide_eq_true h9] at hb9
    subst hb9
    repeat'(first|refine RegX.eqv 137 (congrArg nI m2) rfl ?_|exact y0|refine y1 ?_|refine y2 ?_ ?_|refine y4 λh=>?_|refine wX 112 (pu hnM ?_)|refine y3 ?_|exact y5|fail)
    all_goals try omega
    all_goals refine CutR.at [0] rfl rfl ⟨VLe.refl _,VLe.refl _,VLe.refl _,VLe.refl _,VLe.refl _,trivial⟩ ⟨rfl,trivial⟩ rfl
   ·rw[decide_eq_false h9] at hb9
    subst hb9
    repeat'(first|refine RegX.eqv 137 (congrArg nI m2) rfl ?_|exact y0|refine y1 ?_|refine y2 ?_ ?_|refine y4 λh=>?_|refine wX 112 (pu hnM ?_)|refine y3 ?_|exact y5|fail)
    all_goals try omega
    all_goals refine CutR.at [0] rfl rfl ⟨VLe.refl _,VLe.refl _,VLe.refl _,VLe.refl _,VLe.refl _,trivial⟩ ⟨rfl,trivial⟩ rfl
  ·rw[decide_eq_false h7,Z2c] at hb9
   subst hb9;clear hun hnum hbm
   repeat'(first|exact y0|refine y1 ?_|refine y2 ?_ ?_|refine y4 λh=>?_|refine y3 ?_|exact y5|fail)
   all_goals try omega
   all_goals refine CutR.at [0] rfl rfl ⟨VLe.refl _,VLe.refl _,VLe.refl _,VLe.refl _,VLe.refl _,trivial⟩ ⟨rfl,trivial⟩ rfl
 refine⟨?_⟩;clear hb9 hbm hnum
 repeat'(first|exact y0|refine y1 ?_|refine y2 ?_ ?_|refine y4 λh=>?_|refine wX 113 (pu hun ?_)|refine y3 ?_|exact y5|fail)
 refine Ex.canon [0] 159 [(7,.s (.slc none 0 (some 0))),(8,.s (.ptr (some (0,0)))),(13,nI (0+1:Nat))] [(0,some (DQ [false,false,b2,b3,!c4,b5,b6,b7,b8,b9,b10]))] rfl rfl ⟨VLe.refl _,VLe.refl _,VLe.refl _,trivial⟩ ⟨rfl,trivial⟩ rfl ?_;refine Ex.set 7 (.s (.row 1 2 0)) (VLe.s SLe.nilrow) rfl (Ex.upN (n':=3) ac ?_);refine Ex.inv (σ:=Nat) (λj=>[(7,.s (.row 1 2 (GX [false,false,b2,b3,!c4,b5,b6,b7,b8,b9,b10] j).length)),(13,nI (j+1:Nat))]) (λj=>[(0,some (DQ [false,false,b2,b3,!c4,b5,b6,b7,b8,b9,b10])),(1,JF 1 (GX [false,false,b2,b3,!c4,b5,b6,b7,b8,b9,b10] j))]) (λj=>j<=10) (λj=>10-j) 0 rfl (λ_=>rfl) (Z08 _) aV ⟨rfl,trivial⟩ ?_;intro j hj;by_cases hj10:j<10
 ·have hDs:=Ds [false,false,b2,b3,!c4,b5,b6,b7,b8,b9,b10] j
  have hDl:=FU [false,false,b2,b3,!c4,b5,b6,b7,b8,b9,b10] j
  have hcat:bJ 0 (bG (j+1) (Tryz.prog.types[4]).size)=j+1:=by rw[show (Tryz.prog.types[4]).size=1 by kernel_rfl,am,aB];omega
  have hsb:(Tryz.prog.types[4]).size=1:=by kernel_rfl
  generalize GX [false,false,b2,b3,!c4,b5,b6,b7,b8,b9,b10] j=D at*;cases hb:[false,false,b2,b3,!c4,b5,b6,b7,b8,b9,b10].getD (j+1) false
  ·rw[hb,if_neg ac,Z0u] at hDs
   repeat'(first|exact y0|refine y1 ?_|refine y2 ?_ ?_|refine y4 λh=>?_|refine RegX.chunkN 2 rfl rfl ?_ (RegX.ldS [.ldv (bV false)] rfl rfl ?_ rfl ?_)|refine y3 ?_|exact y5|fail)
   all_goals try first
    |omega
    |(show ef false _ (DQ [false,false,b2,b3,!c4,b5,b6,b7,b8,b9,b10]) _=_;rw[hcat,hsb];exact x9 (show j+1<11 by omega) hb)
    |(show ef false _ (DQ [false,false,b2,b3,!c4,b5,b6,b7,b8,b9,b10]) _=_;rw[hcat];exact x9 (show j+1<11 by omega) hb)
   refine LoopR.same (j+1) aa aa rfl ⟨VLe.of_eq (by rw[hDs];rfl),VLe.of_eq (congrArg nI (by push_cast;rfl)),trivial⟩ ⟨rfl,SubP.op (by rw[hDs];rfl) trivial⟩ rfl ?_ ac
   unfold JF;generalize List.flatMap _ _=cg;cases cg<;>rfl
  ·rw[hb,if_pos rfl] at hDs
   repeat'(first|exact y0|refine y1 ?_|refine y2 ?_ ?_|refine y4 λh=>?_|refine RegX.chunkN 2 rfl rfl ?_ (RegX.ldS [.ldv (bV true)] rfl rfl ?_ rfl ?_)|refine RegX.apr (i:=1) (g:=2) (m:=D.length) (w:=1) (cs:=D.flatMap λj=>[S.int .i64 ((j:Nat):Int)]) (foot:=[3]) (k:=1) (add:=[S.int .i64 ((j+1:Nat):Int)]) rfl rfl (by rw[Cu];omega) rfl rfl rfl rfl rfl rfl rfl hsz ac rfl ⟨Z02 _,rfl⟩ ac an rfl (by rw[hby];omega) aa rfl ?_|refine y3 ?_|exact y5|fail)
   all_goals try first
    |exact ae (by push_cast;omega) (by push_cast;omega)
    |omega
    |(show ef false _ (DQ [false,false,b2,b3,!c4,b5,b6,b7,b8,b9,b10]) _=_;rw[hcat,hsb];exact x9 (show j+1<11 by omega) hb)
    |(show ef false _ (DQ [false,false,b2,b3,!c4,b5,b6,b7,b8,b9,b10]) _=_;rw[hcat];exact x9 (show j+1<11 by omega) hb)
   refine LoopR.move (j+1) aa aa [0,4,5] rfl ?_ ?_ ?_
   ·rw[hDs]
    repeat' (first|exact VLe.refl _|exact VLe.any _|exact Z0o|exact VLe.of_eq (congrArg nI (by push_cast;rfl))|(refine VLe.of_eq (congrArg V.s (?_:S.row 4 5 _=S.row 4 5 _));simp;done)|refine⟨?_,?_⟩)
   ·rw[hDs]
    refine⟨rfl,MemP.op ?_ trivial⟩;rw[Z0r];rfl
   ·rw[hDs];unfold JF;generalize List.flatMap _ _=cg;cases cg<;>rfl
 ·have hj':j=10:=aa
  subst hj';generalize hD:GX [false,false,b2,b3,!c4,b5,b6,b7,b8,b9,b10] 10=D at*;have hD':(List.filter (λk=>[false,false,b2,b3,!c4,b5,b6,b7,b8,b9,b10].getD k false) (List.range' 1 10))=D:=hD;rw[hD']
  repeat'(first|exact y0|refine y1 ?_|refine y2 ?_ ?_|refine y4 λh=>?_|refine Ex.fzR 6 (λj=>[S.int .i64 ((j:Nat):Int)]) 1 0 D rfl rfl (λ_=>rfl) (λa j x h=>uy h) ac rfl rfl ?_|refine Fin.le (.inl rfl) rfl (VLe.refl _) rfl|refine y3 ?_|exact y5|fail)
end
end
section
variable {p:List Nd} {t:Fo}
def kz (p:List Nd) (t:Fo) (n:Nat):Dgs:=(List.range n).flatMap λi=>(fP p t i).map λc=>(i,c)
theorem nW (n:Nat):kz p t (n+1)=kz p t n++(fP p t n).map λc=>(n,c):=by
 unfold kz;rw[Z3a,Z0r];simp
theorem p9:∀ n:Nat,(kz p t n).length<=10*n
 |0=>Z02 _
 |n+1=>by
  have:=p9 n;have h:=o0 p t n;rw[nW,Z03,Z0z];omega
theorem FP (p:List Nd) (hw:pn p) (h:cy p=false):FC Tryz.prog 23 [al p] 0 [] (mP [(0,1)]) 0 []:=by
 have hv:=fB p hw;rw[h] at hv;refine wW Tryz.func23 ?_
 repeat'(first|exact y0|refine y1 ?_|refine y2 ?_ ?_|refine y4 λh=>?_|refine wX 47 (pu hv ?_)|refine Ex.fz 2 (λk=>cb ([(0,1)].getD k (0,0))) 2 rfl rfl rfl rfl (λ_ _=>rfl) (λk j x hk hx=>sg hk hx) rfl rfl ?_|refine Fin.le (.inl rfl) rfl (VLe.refl _) rfl|refine y3 ?_|exact y5|fail)
theorem Dp (hp:p.length<=2048) (hw:pn p) (hI:pR p) (h:cy p=true) (ha:t.At p 0) (hv:t.V (List.replicate t.cnt (false,68))) (hs:t.size=p.length):
 FC Tryz.prog 23 [al p] 0 [] (mP (ES p t)) 0 []:=by
 have hsz:(Tryz.prog.types[112]).size=2:=by kernel_rfl
 have hby:(Tryz.prog.types[112]).bytes=16:=by kernel_rfl
 have hvl:=fB p hw;rw[h] at hvl;have hin:=Fs p hp hw t ha hv hs
 have hcd:=λi (hi:i<t.size)=>FN hp hw hI ha hv hs hi
 show FC Tryz.prog 23 [al p] 0 [] (mP (kz p t t.size)) 0 [];rw[hs];generalize be p t=L at*;refine wW Tryz.func23 ?_
 repeat'(first|exact y0|refine y1 ?_|refine y2 ?_ ?_|refine y4 λh=>?_|refine wX 47 (pu hvl ?_)|refine wX 63 (pu hin ?_)|refine y3 ?_|exact y5|fail)
 refine Ex.set 3 (.s (.row 0 1 0)) (VLe.s SLe.nilrow) rfl (Ex.upN (n':=2) aa ?_);refine Ex.inv (σ:=Nat) (λi=>[(3,.s (.row 0 1 (kz p t i).length)),(5,nI i)]) (λi=>[(0,bA 0 (kz p t i))]) (λi=>i<=p.length) (λi=>p.length-i) 0 rfl (λ_=>rfl) (Z08 _) aV trivial ?_;intro i hi;by_cases hlt:i<p.length
 ·have hc:=hcd i aa
  have hl10:=o0 p t i;have hsu:=nW (p:=p) (t:=t) i;have hgl:=p9 (p:=p) (t:=t) i;generalize fP p t i=cs at*;generalize kz p t i=Gi at*
  repeat'(first|exact y0|refine y1 ?_|refine y2 ?_ ?_|refine y4 λh=>?_|refine wX 64 (pu hc ?_)|refine y3 ?_|exact y5|fail)
  refine Ex.inv (σ:=Nat) (λk=>[(3,.s (.row 0 1 (Gi++(cs.take k).map λc=>(i,c)).length)),(7,nI k)]) (λk=>[(0,bA 0 (Gi++(cs.take k).map λc=>(i,c)))]) (λk=>k<=cs.length) (λk=>cs.length-k) 0 rfl (λ_=>rfl) (Z08 _) ⟨VLe.of_eq an,VLe.refl _,trivial⟩ (SubP.op (by simp;rfl) trivial) ?_;intro k hk;by_cases hkl:k<cs.length
  ·have hts:(Gi++(cs.take (k+1)).map λc=>(i,c))=(Gi++(cs.take k).map λc=>(i,c))++[(i,cs.getD k 0)]:=by
    rw[Z49,Z01 hkl,Z00,Z01 hkl,Z0d,Z14];rfl
   have hgk:(Gi++(cs.take k).map λc=>(i,c)).length<=10*i+10:=by rw[Z03,Z0z,Z19];omega
   generalize hGG:(Gi++(cs.take k).map λc=>(i,c))=G at*;have hfl:(G.flatMap cb).length=G.length*2:=jD (g:=cb) (w:=2) (λ_=>rfl) G
   repeat'(first|exact y0|refine y1 ?_|refine y2 ?_ ?_|refine y4 λh=>?_|refine RegX.apr (i:=0) (g:=1) (m:=G.length) (w:=2) (cs:=G.flatMap cb) (foot:=[2]) (k:=1) (add:=cb (i,cs.getD k 0)) rfl rfl hfl rfl rfl rfl rfl rfl rfl rfl hsz ac rfl ⟨Z02 _,rfl⟩ ac (by simp[cb]) rfl (by rw[hby];omega) aa rfl ?_|refine y3 ?_|exact y5|fail)
   all_goals try first
    |exact ae (by push_cast;omega) (by push_cast;omega)
    |omega
   refine LoopR.move (k+1) aa aa [3,4] rfl ?_ ?_ ?_
   ·rw[hts]
    repeat' (first|exact VLe.refl _|exact VLe.any _|exact Z0o|exact VLe.of_eq (congrArg nI (by push_cast;rfl))|(refine VLe.of_eq (congrArg V.s (?_:S.row 3 4 _=S.row 3 4 _));simp;done)|refine⟨?_,?_⟩)
   ·rw[hts]
    refine MemP.op ?_ trivial;rw[Z0r];rfl
   ·rw[hts];unfold bA;generalize List.flatMap _ _=cg;cases cg<;>rfl
  ·rw[Z1l aa,<-hsu]
   repeat'(first|exact y0|refine y1 ?_|refine y2 ?_ ?_|refine y4 λh=>?_|refine y3 ?_|exact y5|fail)
   refine LoopR.same (i+1) aa aa rfl ⟨VLe.refl _,VLe.of_eq (congrArg nI (by push_cast;rfl)),trivial⟩ (SubP.op rfl trivial) rfl ?_ ac
   unfold bA;generalize List.flatMap _ _=cg;cases cg<;>rfl
 ·have hi':i=p.length:=aa
  subst hi';generalize kz p t p.length=G at*
  repeat'(first|exact y0|refine y1 ?_|refine y2 ?_ ?_|refine y4 λh=>?_|refine Ex.fzR 2 cb 2 (0,0) G rfl rfl (λ_=>rfl) (λa j x h=>FL h) ac rfl rfl ?_|refine Fin.le (.inl rfl) rfl (VLe.refl _) rfl|refine y3 ?_|exact y5|fail)
end
section
variable {i:Nat}
section
variable {p:List Nd} {t:Fo}
theorem sG (ha:t.At p 0) (hv:t.V (List.replicate t.cnt (false,68))):anS p t=qR p t t.size:=DI ha hv
end
end
section
variable {i:Nat}
theorem Dt {b r c:Pth} (h:c∈aL b r):bz c=true:=by
 unfold aL at h;split at h
 ·cases h
 ·rename_i h1
  have hb:bz b=true:=by cases hq:bz b<;>simp_all
  have hr:ay r=true:=by cases hq:ay r<;>simp_all
  split at h
  ·split at h
   ·rw[Z0m] at h
    subst h;rename_i h2;exact xg h2
   ·cases h
  ·rename_i h3
   obtain⟨b1,b2,b3⟩:=cH hb
   have hbs:∀ x∈b.segs,aT x=true:=by
    unfold bz at hb;simp only[Z07] at hb
    exact λx hx=>Z0i.1 (aJ hb.2).2.2.2.2.1 x hx
   have hrs:aT (r.segs.headD [])=true:=by
    have h5:=(aJ hr).2.2.2.2.1;have hl:r.segs.length=1:=aa
    match hq:r.segs,hl with
    |[a],_=>rw[hq] at h5;simpa using h5
   have key:∀ k,k<=b.segs.length->∀ c∈cJ b.segs (r.segs.headD []) k,bz c=true:=by
    intro k
    induction k with
    |zero=>
     intro _ c hc;simp only[cJ,Z0m] at hc;subst hc;clear h;generalize r.segs.headD []=s0 at*;simp[bz,ay,hrs]
    |succ k ih=>
     intro hk c hc;simp only[cJ] at hc;split at hc
     ·exact ih aa c hc
     ·rename_i h32
      rcases Z0h.1 hc with rfl|hc
      ·have hall:(b.segs.take (k+1)++[r.segs.headD []]).all aT=true:=by
        rw[Z0i];intro x hx
        rcases Z0w.1 hx with h|h
        ·exact hbs x (Z2x h)
        ·rw[Z0m] at h;rw[h];exact hrs
       have hlen:(b.segs.take (k+1)++[r.segs.headD []]).length=k+2:=by
        rw[Z03,Z19,Z45 hk];rfl
       unfold bz ay;simp only[hall,hlen,Z3e,Z3m,Z1r];simp only[decide_eq_true (show (0:Int)<=0 by decide),decide_eq_false (show ¬(0:Int)≠0 by decide),decide_eq_true (show (0:Int)<=32 by decide),Z2f,Z1r,decide_eq_true_eq];omega
      ·exact ih aa c hc
   exact key _ (Z02 _) c h
section
variable {p:List Nd} {t:Fo}
theorem CF (s:By):di (be p t) s=match cQ p t s t.size with|some i=>(i:Int)|none=> -1:=by
 cases h:cQ p t s t.size with
 |none=>
  have h0:=iS h
  rcases hZ (p:=p) (t:=t) s with ⟨h1,_⟩|⟨k,_,h2,h3,_⟩
  ·exact h1
  ·exact absurd h3 (h0 k h2)
 |some i=>
  obtain⟨i1,i2,i3⟩:=gi h
  rcases hZ (p:=p) (t:=t) s with ⟨_,h2⟩|⟨k,h1,h2,h3,h4⟩
  ·exact absurd i2 (h2 i i1)
  ·rw[h1]
   rcases Z3g i k with q|q|q
   ·exact absurd i2 (h4 i q)
   ·rw[q]
   ·exact absurd h3 (i3 k q)
theorem J0 (ha:t.At p 0) (hv:t.V (List.replicate t.cnt (false,68))) {s:By} (hs:s≠[]):pH (anS p t).F s=cQ p t s t.size:=by
 rw[sG ha hv];exact vI ha hs (Z02 _)
theorem Bt (ha:t.At p 0) (hv:t.V (List.replicate t.cnt (false,68))) (op:Int):∀ cs:List Pth,(∀ c∈cs,bz c=true)->
 dt p (anS p t).F op cs=if 0<=jx (be p t) cs/\(p.getD (jx (be p t) cs).toNat dN).op=op then jx (be p t) cs else-1
 |[],_=>by
  show (-1:Int)=if 0<=(-1:Int)/\(p.getD (-1:Int).toNat dN).op=op then-1 else-1;rw[if_neg];rintro⟨h,_⟩;omega
 |c::cs,hc=>by
  have hne:=CC (hc c (Z17 ..));have hF:=J0 ha hv hne;have hR:=CF (p:=p) (t:=t) (aI c);have hrr:jx (be p t) (c::cs)=if 0<=di (be p t) (aI c) then di (be p t) (aI c) else jx (be p t) cs:=rfl;generalize jx (be p t) (c::cs)=rr at*
  cases hf:cQ p t (aI c) t.size with
  |some i=>
   rw[hf] at hF hR;simp only at hR;rw[hR,if_pos (Z5f i)] at hrr;subst hrr;rw[iE hF,Z12];by_cases ho:(p.getD i dN).op=op
   ·rw[if_pos ho,if_pos ⟨Z5f i,ho⟩]
   ·rw[if_neg ho,if_neg (λh=>ho h.2)]
  |none=>
   rw[hf] at hF hR;simp only at hR;rw[hR,if_neg ac] at hrr;subst hrr;rw[iF hF];exact Bt ha hv op cs (λc h=>hc c (Z0y _ h))
theorem G5 (ha:t.At p 0) (hv:t.V (List.replicate t.cnt (false,68))) (hs:t.size=p.length) (hi:i<t.size) (hop:ij (p.getD i dN).op=true):(anS p t).S.getD i z0=(aC t i).sc:=by
 rw[sG ha hv];exact (AX ha (Z02 _)).2 i hi aa hop
theorem Bs (ha:t.At p 0) (hv:t.V (List.replicate t.cnt (false,68))) (op:Int) (i k:Nat):
 dt p (anS p t).F op (aL (aC t i).sc (ah (p.getD (i+1+k) dN).str).1)=if 0<=fb p t i k/\(p.getD (fb p t i k).toNat dN).op=op then fb p t i k else-1:=by
 exact Bt ha hv op _ λc hc=>Dt hc
theorem nT (ha:t.At p 0) (hv:t.V (List.replicate t.cnt (false,68))) (op:Int) (i k:Nat):
 dt p (anS p t).F op (aL (aC t i).sc (ah (p.getD (i+1+k) dN).str).1)<0↔fb p t i k<0\/(p.getD (fb p t i k).toNat dN).op≠op:=by
 rw[Bs ha hv];split
 ·rename_i h
  constructor
  ·intro q;omega
  ·rintro (q|q)
   ·exact q
   ·exact absurd h.2 q
 ·rename_i h
  refine⟨λ_=>?_,λ_=>by decide⟩
  rcases Int.lt_or_le (fb p t i k) 0 with q|q
  ·exact .inl q
  ·exact .inr λe=>h ⟨q,e⟩
theorem Jq (ha:t.At p 0) (hv:t.V (List.replicate t.cnt (false,68))) (hop:(p.getD i dN).op=16):dt p (anS p t).F 15 (aL (aC t i).sc (ah (p.getD (i+1) dN).str).1)<0↔fW p t i=true:=by
 rw[show i+1=i+1+0 from rfl,nT ha hv];unfold fW;rw[if_pos hop];simp only[Z1h,decide_eq_true_eq]
theorem Jp (ha:t.At p 0) (hv:t.V (List.replicate t.cnt (false,68))) (hop:(p.getD i dN).op=17):
 (dt p (anS p t).F 18 (aL (aC t i).sc (ah (p.getD (i+1) dN).str).1)<0\/dt p (anS p t).F 18 (aL (aC t i).sc (ah (p.getD (i+2) dN).str).1)<0)↔fW p t i=true:=by
 rw[show i+2=i+1+1 from rfl,show i+1=i+1+0 from rfl,nT ha hv,nT ha hv];unfold fW;rw[if_neg aa,if_pos hop];simp only[Z1h,decide_eq_true_eq,or_assoc]
theorem fa (len w:Int):∀ (u:Fo) (j:Nat) (bit:Int),∀ d∈bH p len w u j bit [],d.2=7
 | .nil,_,_,d,h=>by simp[bH] at h
 | .cons x k n,j,bit,d,h=>by
   simp only[bH] at h;split at h
   ·cases h
   ·split at h
    ·exact fa len w n _ _ d h
    ·rw[co] at h
     rcases Z0w.1 h with h|h
     ·split at h
      ·simp at h;rw[h]
      ·cases h
     ·exact fa len w n _ _ d h
theorem dE (lim:Int):∀ (c j:Nat) (d:Nat×Nat),d∈fk p lim c j []↔d.2=9/\j<=d.1/\d.1<j+c/\(p.getD d.1 dN).op=7/\lim<=ai p d.1
 |0,j,d=>by
  simp only[fk,Z3t,false_iff];rintro⟨_,h1,h2,_⟩;omega
 |c+1,j,d=>by
  simp only[fk];rw[gR,Z0w,dE lim c (j+1)];constructor
  ·rintro (h|⟨h1,h2,h3,h4⟩)
   ·split at h
    ·rename_i h0
     simp at h;subst h;exact⟨rfl,Z02 _,by simp only;omega,h0⟩
    ·cases h
   ·exact⟨h1,aa,aa,h4⟩
  ·rintro⟨h1,h2,h3,h4⟩
   rcases Z0a j d.1 with h|h
   ·exact .inr ⟨h1,aa,aa,h4⟩
   ·left
    have e:d.1=j:=aa;rw[e] at h4;rw[if_pos h4];simp only[Z1e,Z0m];exact Prod.ext e h1
theorem dg (bl:Fo) (i:Nat) (d:Nat×Nat):d∈lG p bl i []↔d∈fk p (ai p (i+2)) (bl.size+1) (i+5) []\/d∈aN false bl (i+6) false true []:=by
 unfold lG;rw[aW,Z0w]
theorem dW (ha:t.At p 0) (hv:t.V (List.replicate t.cnt (false,68))) (hs:t.size=p.length) {j:Nat} (hj:j<t.size) (d:Nat×Nat):
 d∈gE p (anS p t).F (anS p t).S t j↔d=(j,4)/\aK p j=true\/d=(j,5)/\pC p j=true\/d=(j,6)/\fW p t j=true\/
  (p.getD j dN).op=16/\fW p t j=false/\aK p (fb p t j 0).toNat=false/\aK p j=false/\d∈bH p (ai p ((fb p t j 0).toNat+4)) (ai p (j+2)) (ak (t.kid 0 j)) (j+5) 0 []\/
  (p.getD j dN).op=14/\d∈lG p (ak (t.kid 0 j)) j []:=by
 unfold gE;rw[Z0w]
 have h4:d∈(if aK p j then [(j,4)] else []:Dgs)↔d=(j,4)/\aK p j=true:=by
  split
  ·rename_i h;simp[h]
  ·rename_i h;simp[h]
 rw[h4];refine or_congr_right ?_;unfold fG;by_cases h50:(p.getD j dN).op=50\/(p.getD j dN).op=51
 ·rw[if_pos h50]
  have hno:fW p t j=false:=by unfold fW;rw[if_neg aa,if_neg aa]
  have hto:pC p j=decide (ai p (j+1)<(p.getD (j+2) dN).kids):=by unfold pC;rw[decide_eq_true h50,Z1r]
  rw[hno,hto];split
  ·rename_i h
   simp only[Z1e,Z0m,decide_eq_true h,and_true];constructor
   ·exact λh=> .inl h
   ·rintro (h|⟨_,h⟩|⟨h,_⟩|⟨h,_⟩)
    ·exact h
    ·cases h
    ·omega
    ·omega
  ·rename_i h
   simp only[Z3t,decide_eq_false h,false_iff];rintro (⟨_,h⟩|⟨_,h⟩|⟨h,_⟩|⟨h,_⟩)
   ·cases h
   ·cases h
   ·omega
   ·omega
 ·rw[if_neg h50]
  have hto:pC p j=false:=by unfold pC;rw[decide_eq_false h50,Z2c]
  rw[hto];by_cases h16:(p.getD j dN).op=16
  ·rw[if_pos h16]
   have hS:=G5 ha hv hs hj (by unfold ij;rw[decide_eq_true_eq];omega);rw[hS];have hn:=Jq ha hv h16;have hT:=Bs ha hv 15 j 0;unfold gu;rw[Z0p] at hT;by_cases hr:dt p (anS p t).F 15 (aL (aC t j).sc (ah (p.getD (j+1) dN).str).1)<0
   ·rw[if_pos hr,hn.1 hr]
    simp only[Z1e,Z0m,and_true];constructor
    ·exact λh=> .inr (.inl h)
    ·rintro (⟨_,h⟩|h|⟨_,h,_⟩|⟨h,_⟩)
     ·cases h
     ·exact h
     ·cases h
     ·omega
   ·rw[if_neg hr]
    have hnf:fW p t j=false:=by
     cases hq:fW p t j with
     |false=>rfl
     |true=>exact absurd (hn.2 hq) hr
    rw[hnf]
    have hT2:dt p (anS p t).F 15 (aL (aC t j).sc (ah (p.getD (j+1) dN).str).1)=fb p t j 0:=by
     split at hT
     ·exact hT
     ·exact absurd (by rw[hT];decide) hr
    rw[hT2];split
    ·rename_i ho
     simp only[Z3t,false_iff];simp only[Z1h] at ho;rintro (⟨_,h⟩|⟨_,h⟩|⟨_,_,h1,h2,_⟩|⟨h,_⟩)
     ·cases h
     ·cases h
     ·rw[h1,h2] at ho;rcases ho with ho|ho<;>cases ho
     ·omega
    ·rename_i ho
     simp only[Z1h,not_or,Bool.not_eq_true] at ho;constructor
     ·exact λh=> .inr (.inr (.inl ⟨h16,rfl,ho.1,ho.2,h⟩))
     ·rintro (⟨_,h⟩|⟨_,h⟩|⟨_,_,_,_,h⟩|⟨h,_⟩)
      ·cases h
      ·cases h
      ·exact h
      ·omega
  ·rw[if_neg h16]
   by_cases h17:(p.getD j dN).op=17
   ·rw[if_pos h17]
    have hS:=G5 ha hv hs hj (by unfold ij;rw[decide_eq_true_eq];omega);rw[hS];have hn:=Jp ha hv h17;split
    ·rename_i h
     rw[hn.1 h];simp only[Z1e,Z0m,and_true];constructor
     ·exact λh=> .inr (.inl h)
     ·rintro (⟨_,h⟩|h|⟨h,_⟩|⟨h,_⟩)
      ·cases h
      ·exact h
      ·omega
      ·omega
    ·rename_i h
     have hnf:fW p t j=false:=by
      cases hq:fW p t j with
      |false=>rfl
      |true=>exact absurd (hn.2 hq) h
     rw[hnf];simp only[Z3t,false_iff];rintro (⟨_,h⟩|⟨_,h⟩|⟨h,_⟩|⟨h,_⟩)
     ·cases h
     ·cases h
     ·omega
     ·omega
   ·rw[if_neg h17]
    have hno:fW p t j=false:=by unfold fW;rw[if_neg h16,if_neg h17]
    rw[hno];split
    ·rename_i h14
     constructor
     ·exact λh=> .inr (.inr (.inr ⟨h14,h⟩))
     ·rintro (⟨_,h⟩|⟨_,h⟩|⟨h,_⟩|⟨_,h⟩)
      ·cases h
      ·cases h
      ·omega
      ·exact h
    ·rename_i h14
     simp only[Z3t,false_iff];rintro (⟨_,h⟩|⟨_,h⟩|⟨h,_⟩|⟨h,_⟩)
     ·cases h
     ·cases h
     ·omega
     ·exact h14 h
theorem kI (ha:t.At p 0) (hv:t.V (List.replicate t.cnt (false,68))) (hs:t.size=p.length) (d:Nat×Nat):
 d∈jA p t↔(∃ j,j<t.size/\d∈Aa p t j)\/∃ j,j<t.size/\d∈gE p (anS p t).F (anS p t).S t j:=by
 unfold jA;rw[iD,Z0w,sG ha hv,AY ha (Z02 _),Z2h,Z2h,<-sG ha hv,hs];simp only[Z29,Z20,Z08,Z0c,true_and]
theorem gN (ha:t.At p 0) {j:Nat} (hj:j<t.size) (d:Nat×Nat):d∈Aa p t j↔d=(j,2)/\ie p t j=true\/d=(j,3)/\mO p t j=true:=by
 unfold Aa;by_cases hb:ie p t j=true
 ·have hd:mO p t j=false:=by unfold mO;rw[DC ha hj hb];simp
  rw[if_pos hb,hd,hb];simp
 ·rw[if_neg hb]
  have hb':ie p t j=false:=by cases h:ie p t j<;>simp_all
  rw[hb'];split
  ·rename_i h;rw[h];simp
  ·rename_i h;simp[h]
end
end
section
variable {i:Nat} {c op:Int}
def Hi (op:Int):Bool:=decide (op=33\/op=34\/op=35)
def bB:Bool->Fo->Nat->Nat->Bool->Bool->Option (Bool×Bool)
 |_,.nil,_,_,_,_=>none
 |true,.cons x k n,j,i,lp,r=>if i<j+1+k.size then (if x.op=4/\j<i then bB false k (j+1) i lp true else none) else bB true n (j+1+k.size) i lp r
 |false,.cons x k n,j,i,lp,r=>
  if i=j then some (lp,r)
  else if i<j+1+k.size then (if x.op=31 then bB true k (j+1) i lp true else if x.op=32 then bB true k (j+1) i true true else none)
  else bB false n (j+1+k.size) i lp (r&& !Hi x.op)
theorem dP:∀ {m:Bool} {u:Fo} {j i:Nat} {lp r:Bool} {q:Bool×Bool},bB m u j i lp r=some q->j<=i/\i<j+u.size
 |true,.nil,_,_,_,_,_,h=>by simp[bB] at h
 |false,.nil,_,_,_,_,_,h=>by simp[bB] at h
 |true,.cons x k n,j,i,lp,r,q,h=>by
  simp only[bB] at h;simp only[Fo.size];split at h
  ·split at h
   ·have:=dP h;omega
   ·cases h
  ·have:=dP h;omega
 |false,.cons x k n,j,i,lp,r,q,h=>by
  simp only[bB] at h;simp only[Fo.size];split at h
  ·omega
  ·split at h
   ·split at h
    ·have:=dP h;omega
    ·split at h
     ·have:=dP h;omega
     ·cases h
   ·have:=dP h;omega
section
variable {p:List Nd} {t:Fo}
def vM (p:List Nd) (i c:Nat) (q:Bool×Bool):Prop:=c=10/\q.2=false\/c=8/\((p.getD i dN).op=34\/(p.getD i dN).op=35)/\q.1=false
theorem ez {m:Bool} {u:Fo} {j c:Nat} {lp r:Bool} (h:(i,c)∈aN m u j lp r []):j<=i/\i<j+u.size:=(fC m u j lp r).2 _ h
theorem cL:∀ (m:Bool) (u:Fo) (j:Nat) (lp r:Bool),u.At p j->∀ i c,(i,c)∈aN m u j lp r []↔∃ q,bB m u j i lp r=some q/\vM p i c q
 |true,.nil,_,_,_,_,i,c=>by simp[aN,bB]
 |false,.nil,_,_,_,_,i,c=>by simp[aN,bB]
 |true,.cons x k n,j,lp,r,ha,i,c=>by
  simp only[aN,bB];rw[aW,Z0w];by_cases h1:i<j+1+k.size
  ·rw[if_pos h1]
   have hn: ¬(i,c)∈aN true n (j+1+k.size) lp r []:=λh=>by have:=ez h;omega
   by_cases h4:x.op=4
   ·rw[if_pos h4]
    by_cases hj:j<i
    ·rw[if_pos ⟨h4,hj⟩,<-cL false k (j+1) lp true ha.2.2.1 i c]
     exact⟨λh=>h.resolve_right hn,.inl⟩
    ·rw[if_neg (λh=>hj h.2)]
     constructor
     ·rintro (h|h)
      ·have:=ez h;omega
      ·exact absurd h hn
     ·rintro⟨q,h,_⟩;cases h
   ·rw[if_neg h4,if_neg (λh=>h4 h.1)]
    constructor
    ·rintro (h|h)
     ·cases h
     ·exact absurd h hn
    ·rintro⟨q,h,_⟩;cases h
  ·rw[if_neg h1,<-cL true n (j+1+k.size) lp r ha.2.2.2 i c]
   refine⟨λh=>h.resolve_left λh=>?_,.inr⟩;split at h
   ·have:=ez h;omega
   ·cases h
 |false,.cons x k n,j,lp,r,ha,i,c=>by
  simp only[aN,bB];have hx:=At.get ha;rw[aW,Z0w]
  have hE:∀ X:Dgs,X=bU x.op j lp (dM j r [])->((i,c)∈X↔i=j/\vM p i c (lp,r)):=by
   intro X hX;subst hX;unfold bU dM vM;constructor
   ·intro h
    by_cases hi:i=j
    ·subst hi
     refine⟨rfl,?_⟩;rw[hx]
     cases r<;>cases lp<;>simp at h |-
     ·split at h<;>simp at h
      ·rcases h with h|h
       ·exact .inl h
       ·exact .inr ⟨h,‹_›⟩
      ·exact .inl h
     ·exact h
     ·exact⟨h.2,h.1⟩
    ·exfalso
     split at h<;>split at h<;>simp at h<;>(first|exact hi h.1|(rcases h with h|h<;>exact hi h.1))
   ·rintro⟨rfl,h⟩
    rw[hx] at h;simp only at h
    rcases h with ⟨rfl,h⟩|⟨rfl,h1,h2⟩
    ·subst h
     split<;>simp
    ·subst h2
     rw[if_pos ⟨h1,rfl⟩];simp
  have hX:(i,c)∈(if x.op=31 then aN true k (j+1) lp true (bU x.op j lp (dM j r [])) else if x.op=32 then aN true k (j+1) true true (bU x.op j lp (dM j r [])) else bU x.op j lp (dM j r []))↔
   (i=j/\vM p i c (lp,r))\/(i,c)∈(if x.op=31 then aN true k (j+1) lp true [] else if x.op=32 then aN true k (j+1) true true [] else []):=by
   split
   ·rw[aW,Z0w,hE _ rfl]
   ·split
    ·rw[aW,Z0w,hE _ rfl]
    ·rw[hE _ rfl];simp
  rw[hX];by_cases hi:i=j
  ·rw[if_pos hi]
   constructor
   ·rintro ((h|h)|h)
    ·exact⟨_,rfl,h.2⟩
    ·exfalso
     split at h
     ·have:=ez h;omega
     ·split at h
      ·have:=ez h;omega
      ·cases h
    ·have:=ez h;omega
   ·rintro⟨q,h1,h2⟩
    cases h1;exact .inl (.inl ⟨hi,h2⟩)
  ·rw[if_neg hi]
   by_cases h1:i<j+1+k.size
   ·rw[if_pos h1]
    have hn: ¬(i,c)∈aN false n (j+1+k.size) lp (r&& !decide (x.op=33\/x.op=34\/x.op=35)) []:=λh=>by have:=ez h;omega
    have e:(((i=j/\vM p i c (lp,r))\/(i,c)∈(if x.op=31 then aN true k (j+1) lp true [] else if x.op=32 then aN true k (j+1) true true [] else []))\/(i,c)∈aN false n (j+1+k.size) lp (r&& !decide (x.op=33\/x.op=34\/x.op=35)) [])↔(i,c)∈(if x.op=31 then aN true k (j+1) lp true [] else if x.op=32 then aN true k (j+1) true true [] else []):=
     ⟨λh=>by
      rcases h with (h|h)|h
      ·exact absurd h.1 hi
      ·exact h
      ·exact absurd h hn,λh=> .inl (.inr h)⟩
    rw[e];split
    ·exact cL true k (j+1) lp true ha.2.2.1 i c
    ·split
     ·exact cL true k (j+1) true true ha.2.2.1 i c
     ·simp
   ·rw[if_neg h1]
    have:=cL false n (j+1+k.size) lp (r&& !Hi x.op) ha.2.2.2 i c;rw[<-this];constructor
    ·rintro ((h|h)|h)
     ·exact absurd h.1 hi
     ·exfalso
      split at h
      ·have:=ez h;omega
      ·split at h
       ·have:=ez h;omega
       ·cases h
     ·exact h
    ·exact .inr
theorem ir:∀ {u:Fo} {j i:Nat} {lp r:Bool},u.At p j->i∈u.starts j->bB false u j i lp r=some (lp,r&& !py p i (u.starts j))
 | .nil,_,_,_,_,_,h=>by simp[Fo.starts] at h
 | .cons x k n,j,i,lp,r,ha,h=>by
   simp only[Fo.starts,Z0h] at h;have hx:=At.get ha;simp only[bB,Fo.starts,py];by_cases hi:i=j
   ·rw[if_pos hi,if_pos hi.symm];simp
   ·have h:=h.resolve_left hi
    have hg:=bD h;rw[if_neg hi,if_neg aa,if_neg (λe=>hi e.symm),ir ha.2.2.2 h,hx];unfold Hi;split
    ·rename_i hs;rw[decide_eq_true hs];simp
    ·rename_i hs;rw[decide_eq_false hs];simp
theorem pS:∀ {u:Fo} {j b i:Nat} {lp r:Bool},u.At p j->b∈u.starts j->(p.getD b dN).op=4->b<i->i<b+1+(u.kid j b).size->bB true u j i lp r=bB false (u.kid j b) (b+1) i lp true
 | .nil,_,_,_,_,_,_,h,_,_,_=>by simp[Fo.starts] at h
 | .cons x k n,j,b,i,lp,r,ha,h,h4,h1,h2=>by
   simp only[Fo.starts,Z0h] at h;have hx:=At.get ha;unfold Fo.kid at h2 |-;simp only[bB];by_cases hb:b=j
   ·subst hb
    rw[if_pos rfl] at h2 |-;rw[hx] at h4;rw[if_pos h2,if_pos ⟨h4,h1⟩]
   ·have h:=h.resolve_left hb
    have hg:=bD h;rw[if_neg hb,if_neg (show ¬b<j+1+k.size by omega)] at h2 |-;rw[if_neg aa];exact pS ha.2.2.2 h h4 h1 h2
theorem fo:∀ {m:Bool} {u:Fo} {j f i:Nat} {lp r:Bool} {q:Bool×Bool},u.At p j->bB m u j f lp r=some q->f<i->i<f+1+(u.kid j f).size->
 bB m u j i lp r=if (p.getD f dN).op=31 then bB true (u.kid j f) (f+1) i q.1 true else if (p.getD f dN).op=32 then bB true (u.kid j f) (f+1) i true true else none
 |true,.nil,_,_,_,_,_,_,_,h,_,_=>by simp[bB] at h
 |false,.nil,_,_,_,_,_,_,_,h,_,_=>by simp[bB] at h
 |true,.cons x k n,j,f,i,lp,r,q,ha,h,h1,h2=>by
  have hx:=At.get ha;have hk:=dP h;simp only[Fo.size] at hk;have hks:=bm (t:=.cons x k n) hk.1 (by simpa [Fo.size] using hk.2);simp only[bB] at h;by_cases hfk:f<j+1+k.size
  ·rw[if_pos hfk] at h
   split at h
   ·rename_i h4
    have hkid:(Fo.cons x k n).kid j f=k.kid (j+1) f:=by simp only[Fo.kid];rw[if_neg aa,if_pos hfk]
    rw[hkid] at h2 hks |-;have hks':=bm (t:=k) (j:=j+1) (i:=f) aa aa;simp only[bB];rw[if_pos aa,if_pos ⟨h4.1,aa⟩];exact fo ha.2.2.1 h h1 h2
   ·cases h
  ·rw[if_neg hfk] at h
   have hkid:(Fo.cons x k n).kid j f=n.kid (j+1+k.size) f:=by simp only[Fo.kid];rw[if_neg aa,if_neg hfk]
   rw[hkid] at h2 hks |-;simp only[bB];rw[if_neg aa];exact fo ha.2.2.2 h h1 h2
 |false,.cons x k n,j,f,i,lp,r,q,ha,h,h1,h2=>by
  have hx:=At.get ha;have hk:=dP h;simp only[Fo.size] at hk;unfold Fo.kid at h2 |-;simp only[bB] at h |-;by_cases hf:f=j
  ·subst hf
   rw[if_pos rfl] at h h2 |-;cases h;rw[if_neg aa,if_pos h2,hx]
  ·rw[if_neg hf] at h
   rw[if_neg (show ¬i=j by omega)];by_cases hfk:f<j+1+k.size
   ·rw[if_pos hfk] at h
    have hks':=bm (t:=k) (j:=j+1) (i:=f) aa aa;rw[if_neg hf,if_pos hfk] at h2 |-;rw[if_pos aa];split at h
    ·rename_i h31
     rw[if_pos h31];exact fo ha.2.2.1 h h1 h2
    ·rename_i h31
     rw[if_neg h31];split at h
     ·rename_i h32
      rw[if_pos h32];exact fo ha.2.2.1 h h1 h2
     ·cases h
   ·rw[if_neg hfk] at h
    rw[if_neg hf,if_neg hfk] at h2 |-;rw[if_neg aa];exact fo ha.2.2.2 h h1 h2
def GD (op:Int) (b:UInt8):Bool:=decide (op≠31/\op≠32)||decide (b=83)|| !dh (b.toNat:Int)
theorem wu {kids:Int} (h:bn c op=true):∀ b∈(av op kids).1,GD op b=true:=lI (by decide+kernel) ac ac ac h
theorem gx:∀ {m:Bool} {u:Fo} {j i:Nat} {lp r:Bool} {q:Bool×Bool} {cs:List (Bool×Int)},u.At p j->u.V cs->(m=false->∀ sl∈cs,sl=(false,83))->(m=true->∀ sl∈cs,sl.1=true->sl.2=83)->bB m u j i lp r=some q->
 bn 83 (p.getD i dN).op=true/\((m=false/\i∈u.starts j)\/∃ b,j<=b/\b<i/\(p.getD b dN).op=4/\i∈(u.kid j b).starts (b+1))
 |true,.nil,_,_,_,_,_,_,_,_,_,_,h=>by simp[bB] at h
 |false,.nil,_,_,_,_,_,_,_,_,_,_,h=>by simp[bB] at h
 |true,.cons x k n,j,i,lp,r,q,cs,ha,hv,_,hc,h=>by
  have hx:=At.get ha;simp only[bB] at h;split at h
  ·rename_i hk
   split at h
   ·rename_i h4
    obtain⟨c,hkv⟩:∃ c,c=(83:Int)/\k.V (List.replicate k.cnt (false,c)):=by
     match cs,hv with
     |(true,c)::cs',⟨h1,h2,h3⟩=>exact⟨c,hc rfl (true,c) (Z17 ..) rfl,h2⟩
     |(false,c)::cs',⟨h1,h2,h3⟩=>rw[h4.1,J2] at h1;exact absurd h1.1 ac
    obtain⟨rfl,hkv⟩:=hkv;obtain⟨g1,g2⟩:=gx ha.2.2.1 hkv (λ_ sl hsl=>(Z3b.1 hsl).2) (λh=>by cases h) h;refine⟨g1,.inr ?_⟩
    rcases g2 with ⟨_,g⟩|⟨b,b1,b2,b3,b4⟩
    ·exact⟨j,Z02 _,h4.2,by rw[hx];exact h4.1,by unfold Fo.kid;rw[if_pos rfl];exact g⟩
    ·refine⟨b,aa,b2,b3,?_⟩
     unfold Fo.kid;rw[if_neg aa,if_pos aa];exact b4
   ·cases h
  ·rename_i hk
   obtain⟨sl,cs',rfl,hn⟩:∃ sl cs',cs=sl::cs'/\n.V cs':=by
    match cs,hv with
    |(true,c)::cs',⟨h1,h2,h3⟩=>exact⟨_,_,rfl,h3⟩
    |(false,c)::cs',⟨h1,h2,h3⟩=>exact⟨_,_,rfl,h3⟩
   obtain⟨g1,g2⟩:=gx ha.2.2.2 hn (λh=>by cases h) (λe sl hsl=>hc e sl (Z0y _ hsl)) h;refine⟨g1,.inr ?_⟩
   rcases g2 with ⟨g,_⟩|⟨b,b1,b2,b3,b4⟩
   ·cases g
   ·refine⟨b,aa,b2,b3,?_⟩
    unfold Fo.kid;rw[if_neg aa,if_neg aa];exact b4
 |false,.cons x k n,j,i,lp,r,q,cs,ha,hv,hc,_,h=>by
  have hx:=At.get ha;simp only[bB] at h
  obtain⟨hx83,hkv,cs',hcs,hn⟩:bn 83 x.op=true/\k.V (dd (av x.op x.kids).1)/\∃ cs',(∀ sl∈cs',sl=(false,83))/\n.V cs':=by
   match cs,hv with
   |(true,c)::cs',hv=>exact absurd (hc rfl (true,c) (Z17 ..)) an
   |(false,c)::cs',⟨h1,h2,h3⟩=>
    have hc0:=hc rfl (false,c) (Z17 ..);simp only[Z0j,true_and] at hc0;subst hc0;exact⟨h1.1,h2,cs',λsl hsl=>hc rfl sl (Z0y _ hsl),h3⟩
  split at h
  ·rename_i hi
   subst hi;exact⟨by rw[hx];exact hx83,.inl ⟨rfl,by simp[Fo.starts]⟩⟩
  ·rename_i hi
   split at h
   ·rename_i hk
    have key:∀ lp',(x.op=31\/x.op=32)->bB true k (j+1) i lp' true=some q->bn 83 (p.getD i dN).op=true/\((false=false/\i∈(Fo.cons x k n).starts j)\/∃ b,j<=b/\b<i/\(p.getD b dN).op=4/\i∈((Fo.cons x k n).kid j b).starts (b+1)):=by
     intro lp' ho h
     obtain⟨g1,g2⟩:=gx ha.2.2.1 hkv (λh=>by cases h) (λ_ sl hsl h1=>by
      obtain⟨b,hb,rfl⟩:=eb hsl;have hq:=wu hx83 b hb;unfold GD at hq;simp only at h1;rw[h1] at hq
      have hb83:b=83:=by
       simp only[Z1h,decide_eq_true_eq,Z2z,Z41] at hq
       rcases hq with hq|hq
       ·omega
       ·exact hq
      subst hb83;rfl) h
     refine⟨g1,.inr ?_⟩
     rcases g2 with ⟨g,_⟩|⟨b,b1,b2,b3,b4⟩
     ·cases g
     ·refine⟨b,aa,b2,b3,?_⟩
      unfold Fo.kid;rw[if_neg aa,if_pos aa];exact b4
    split at h
    ·exact key _ (.inl ‹_›) h
    ·split at h
     ·exact key _ (.inr ‹_›) h
     ·cases h
   ·obtain⟨g1,g2⟩:=gx ha.2.2.2 hn (λ_=>hcs) (λh=>by cases h) h
    refine⟨g1,?_⟩
    rcases g2 with ⟨_,g⟩|⟨b,b1,b2,b3,b4⟩
    ·exact .inl ⟨rfl,by simp only[Fo.starts,Z0h];exact .inr g⟩
    ·refine .inr ⟨b,aa,b2,b3,?_⟩
     unfold Fo.kid;rw[if_neg aa,if_neg aa];exact b4
theorem yQ (h:bn c op=true) (ho:op=31\/op=32\/op=33\/op=34\/op=35):c=83:=by
 unfold bn at h;split at h
 ·simp at h;omega
 split at h
 ·simp at h;omega
 split at h
 ·simp[fh,bN] at h;omega
 split at h
 ·simp at h;omega
 split at h
 ·simp[bN] at h;omega
 split at h
 ·simp[bN] at h;omega
 split at h
 ·simp at h;omega
 split at h
 ·simp[cx] at h;omega
 split at h
 ·assumption
 ·cases h
theorem ID (h:bn c op=true) (hb:dh c=true) (h83:bn 83 op=true):c=83:=by
 have ho:30<=op/\op<=42\/op=5:=by unfold bn at h83;simp at h83;omega
 unfold dh at hb;rw[decide_eq_true_eq] at hb;unfold bn at h;split at h
 ·omega
 split at h
 ·simp at h;omega
 split at h
 ·omega
 split at h
 ·omega
 split at h
 ·omega
 split at h
 ·simp[bN] at h;omega
 split at h
 ·simp at h;omega
 split at h
 ·simp[cx] at h;omega
 split at h
 ·assumption
 ·cases h
theorem o_ {c':Int}:∀ (ls:List Int) (u:Fo) (i b:Nat),(ls.all d8)=true->u.V (ls.map (λc=>(false,c))++[(true,c')])->u.At p i->b∈u.starts i->(p.getD b dN).op=4->b=i+ls.length
 |[],u,i,b,_,h,ha,hb,h4=>by
  obtain⟨y,bl,n,rfl,h1,h2,h3⟩:=iZ h;have:=gS h1;subst this
  simpa [Fo.starts] using hb
 |c::ls,u,i,b,hl,h,ha,hb,h4=>by
  simp only[Z1b,Z07] at hl;obtain⟨y,n,rfl,h1,h2⟩:=d6 hl.1 h;have hx:=At.get ha;simp only[Fo.starts,Z0h] at hb
  rcases hb with rfl|hb
  ·rw[hx] at h4;omega
  ·have:=o_ ls n _ b hl.2 h1 ha.2.2.2 hb h4
   rw[this];simp only[Fo.size,Z04];omega
theorem DB (ha:t.At p 0) (hv:t.V (List.replicate t.cnt (false,68))) {b:Nat} (hb:b<t.size) (h4:(p.getD b dN).op=4):
 ∃ c,mE p t b (true,c)/\dh c=true/\∃ f,f<b/\aC t b=bc (p.getD f dN) (ao (t.kid 0 f)) f (aC t f)/\b∈(t.kid 0 f).starts (f+1)/\(c=83->(p.getD f dN).op=14\/(p.getD f dN).op=31\/(p.getD f dN).op=32):=by
 obtain⟨sb,g1,g2⟩:=gC ha hv hb;have hsb:=(gP g1).2 h4
 rcases g2 with ⟨_,g⟩|⟨f,slf,hfb,hcf,hbf,hnf,g⟩
 ·rw[g] at hsb;cases hsb
 rcases g with ⟨_,g,_⟩|⟨_,g3,g4⟩
 ·rw[g] at hsb;cases hsb
 ·obtain⟨x,hx,e⟩:=eb g4
  rw[e] at g1 hsb;refine⟨(x.toNat:Int),by rw[<-show dh (x.toNat:Int)=true from hsb];exact g1,hsb,f,hfb,hcf,hbf,λh83=>?_⟩
  have hx83:x=83:=by
   have:=Z39 (a:=x) (b:=83);exact this.1 (by simp;omega)
  subst hx83;exact xS (jN (kids:=(p.getD f dN).kids) g3 _ hx)
theorem sv (ha:t.At p 0) (hv:t.V (List.replicate t.cnt (false,68))) {b:Nat} (hb:b<t.size) (hn:mE p t b (true,c)) (hi:i∈(t.kid 0 b).starts (b+1)):bn c (p.getD i dN).op=true:=by
 obtain⟨s',q1,q2⟩:=ka ha hb hn hv hi
 rcases q2 with ⟨_,q,_⟩|⟨q,_⟩
 ·subst q;exact q1.1.1
 ·cases q
theorem xF (ha:t.At p 0) (hv:t.V (List.replicate t.cnt (false,68))) (hi:i<t.size) (ho:(p.getD i dN).op=31\/(p.getD i dN).op=32\/(p.getD i dN).op=33\/(p.getD i dN).op=34\/(p.getD i dN).op=35):
 ∃ b,b<i/\(p.getD b dN).op=4/\i∈(t.kid 0 b).starts (b+1)/\bn 83 (p.getD i dN).op=true:=by
 obtain⟨⟨sb,sc⟩,g1,g2⟩:=gC ha hv hi
 have hsb:sb=false:=by
  cases sb
  ·rfl
  ·have:=(gP g1).1 rfl;omega
 subst hsb;have h83:=yQ g1.1.1 ho;subst h83
 rcases g2 with ⟨_,g⟩|⟨b,slb,hb,_,hib,_,g⟩
 ·cases g
 rcases g with ⟨_,_,g⟩|⟨_,_,g⟩
 ·exact⟨b,hb,g,hib,g1.1.1⟩
 ·obtain⟨x,_,e⟩:=eb g
  simp only[Z0j] at e;rw[<-e.2] at e;exact absurd e.1 ac
theorem nF (ha:t.At p 0) (hv:t.V (List.replicate t.cnt (false,68))):∀ i,i<t.size->∀ b,b<i->(p.getD b dN).op=4->i∈(t.kid 0 b).starts (b+1)->bn 83 (p.getD i dN).op=true->
 ∃ M:Nat,M<i/\(aC t i).me=(M:Int)/\(p.getD M dN).op=14/\bB false (ak (t.kid 0 M)) (M+6) i false true=some (decide (0<=(aC t i).lo),!nH p t i):=by
 intro i
 induction i using Nat.strongRecOn with
 |ind i ih=>
  intro hi b hbi h4 hib h83;have hb:b<t.size:=aa;obtain⟨c,n1,n2,f,hfb,hcf,hbf,hop⟩:=DB ha hv hb h4;have hc83:c=83:=ID (sv ha hv hb n1 hib) n2 h83;have hop:=hop hc83;have hci:=(eB ha hb hib).2.2
  have hme:(aC t i).me=(aC t b).me:=by rw[hci];unfold bc;simp only;rw[if_neg aa]
  have hlo:(aC t i).lo=(aC t b).lo:=by rw[hci];unfold bc;simp only;rw[if_neg aa,if_neg aa]
  have hpa:(aC t i).pa=(b:Int):=by rw[hci];rfl
  have hun:nH p t i=py p i ((t.kid 0 b).starts (b+1)):=by
   unfold nH;rw[hpa,if_neg aa,Z12,if_pos h4]
  obtain⟨_,kb,_⟩:=cC ha hv (Z08 b) (aa:b<0+t.size);have kbA:=kb.2.2.1;have hrb:=bD hbf;by_cases h14:(p.getD f dN).op=14
  ·refine⟨f,aa,by rw[hme,hcf];unfold bc;simp only;rw[if_pos h14],h14,?_⟩
   obtain⟨_,f1,f2,_,_⟩:=bL ha hv (show f<t.size by omega) aa;rw[h14,fK] at f2;have hbe:=o_ (c':=83) [115,105,105,105] (t.kid 0 f) (f+1) b ac f2 f1 hbf h4
   have hbe:b=f+5:=by simpa using hbe
   obtain⟨_,k2⟩:=(eu (c':=83) [115,105,105,105] (t.kid 0 f) ac f2).2 (f+1)
   have hk:t.kid 0 b=ak (t.kid 0 f):=by
    rw[(cl ha (Z08 f) aa hfb aa ini).1,<-k2,hbe];rfl
   rw[hk,hbe] at kbA hib hun;rw[ir kbA hib,hun,hlo,hcf];unfold bc;simp only;rw[if_pos h14];rfl
  ·have h31:=hop.resolve_left h14
   obtain⟨b',hb1,hb2,hb3,hb4⟩:=xF ha hv (show f<t.size by omega) aa;obtain⟨M,m1,m2,m3,m4⟩:=ih f aa aa b' hb1 hb2 hb3 hb4;refine⟨M,aa,by rw[hme,hcf,<-m2];unfold bc;simp only;rw[if_neg h14],m3,?_⟩;obtain⟨_,q1,q2,_,_⟩:=bL ha hv (show M<t.size by omega) aa;rw[m3,fK] at q2;obtain⟨s1,s2⟩:=eu (c':=83) [115,105,105,105] (t.kid 0 M) ac q2;obtain⟨s3,s4⟩:=s2 (M+1);have e5:M+1+([115,105,105,105]:List Int).length=M+5:=an;rw[e5] at s3 s4
   have hszM:(t.kid 0 M).size=5+(ak (t.kid 0 M)).size:=by simp at s1;omega
   have hMs:=bm (t:=t) (Z08 M) aa
   have hk5:t.kid 0 (M+5)=ak (t.kid 0 M):=by rw[(cl ha (Z08 M) aa (aa:M<M+5) aa ini).1,s4]
   obtain⟨_,k5,_⟩:=cC ha hv (Z08 (M+5)) (aa:M+5<0+t.size);have k5A:=k5.2.2.1;rw[hk5] at k5A;have hrg:=dP m4
   have hkf:(ak (t.kid 0 M)).kid (M+6) f=t.kid 0 f:=by
    rw[(cl ha (Z08 (M+5)) aa (aa:M+5<f) (by rw[hk5];omega) ini).1,hk5]
   have hri:=bD hib;have hsb:=gV ha (show f<t.size by omega) hfb aa;rw[fo k5A m4 (show f<i by omega) (by rw[hkf];omega),hkf];obtain⟨_,kf,_⟩:=cC ha hv (Z08 f) (aa:f<0+t.size);have kfA:=kf.2.2.1
   have hkb:(t.kid 0 f).kid (f+1) b=t.kid 0 b:=by
    rw[(cl ha (Z08 f) aa hfb aa ini).1]
   have hvb:∀ lp,bB true (t.kid 0 f) (f+1) i lp true=some (lp,!nH p t i):=λlp=>by
    rw[pS kfA hbf h4 hbi (by rw[hkb];omega),hkb,ir kbA hib,hun];rfl
   rw[hvb,hvb,hlo,hcf];unfold bc;simp only;rw[if_neg h14]
   rcases h31 with h|h
   ·rw[if_pos h,if_neg aa]
   ·rw[if_neg aa,if_pos h,if_pos h,decide_eq_true (Z5f f)]
theorem sZ (ha:t.At p 0) (hv:t.V (List.replicate t.cnt (false,68))) {M:Nat} (hM:M<t.size) (h14:(p.getD M dN).op=14) {q:Bool×Bool} (h:bB false (ak (t.kid 0 M)) (M+6) i false true=some q):
 i<t.size/\q=(decide (0<=(aC t i).lo),!nH p t i):=by
 obtain⟨_,q1,q2,_,_⟩:=bL ha hv hM aa;rw[h14,fK] at q2;obtain⟨s1,s2⟩:=eu (c':=83) [115,105,105,105] (t.kid 0 M) ac q2;obtain⟨s3,s4⟩:=s2 (M+1);have e5:M+1+([115,105,105,105]:List Int).length=M+5:=an;rw[e5] at s3 s4
 have hszM:(t.kid 0 M).size=5+(ak (t.kid 0 M)).size:=by simp at s1;omega
 have hMs:=bm (t:=t) (Z08 M) aa
 have hk5:t.kid 0 (M+5)=ak (t.kid 0 M):=by rw[(cl ha (Z08 M) aa (aa:M<M+5) aa ini).1,s4]
 obtain⟨_,k5,_⟩:=cC ha hv (Z08 (M+5)) (aa:M+5<0+t.size);have k5A:=k5.2.2.1;rw[hk5] at k5A;obtain⟨b,_,hb2⟩:=aR (c':=83) [115,105,105,105] (t.kid 0 M) ac q2;have hbV:=(hb2 p (M+1) q1).2.2.1
 have hop5:(p.getD (M+5) dN).op=4:=by
  have:=(hb2 p (M+1) q1).1;rw[show M+1+([115,105,105,105]:List Int).length=M+5 by simp] at this;rw[At.get this];exact (hb2 p (M+1) q1).2.1.1
 have hrg:=dP h;obtain⟨g1,g2⟩:=gx k5A hbV (λ_ sl hsl=>(Z3b.1 hsl).2) (λh=>by cases h) h
 have hb:∃ b,b<i/\(p.getD b dN).op=4/\i∈(t.kid 0 b).starts (b+1):=by
  rcases g2 with ⟨_,g⟩|⟨b,b1,b2,b3,b4⟩
  ·exact⟨M+5,aa,hop5,by rw[hk5];exact g⟩
  ·refine⟨b,b2,b3,?_⟩
   rw[(cl ha (Z08 (M+5)) aa (aa:M+5<b) (by rw[hk5];omega) ini).1,hk5];exact b4
 obtain⟨b,b1,b2,b3⟩:=hb;obtain⟨M',m1,m2,m3,m4⟩:=nF ha hv i aa b b1 b2 b3 g1;have hmi:=(ow ha hv hM h14).2 i aa aa;have hMM:M'=M:=aa;subst hMM;rw[h] at m4;exact⟨aa,Z1c m4⟩
end
end
section
variable {i c:Nat}
section
variable {p:List Nd} {t:Fo}
theorem EY (q w len:Int):len<(q+1)*w↔8*len<(q+1)*(8*w):=by
 have:(q+1)*(8*w)=8*((q+1)*w):=by rw[<-Int.mul_assoc,Int.mul_comm (q+1) 8,Int.mul_assoc]
 rw[this];omega
theorem lm {len w:Int} {u:Fo} {j:Nat} {bit:Int} (h:(i,c)∈bH p len w u j bit []):i∈u.starts j:=by
 induction u generalizing j bit with
 |nil=>simp[bH] at h
 |cons x k n _ ih=>
  simp only[bH] at h;simp only[Fo.starts,Z0h];split at h
  ·cases h
  ·split at h
   ·exact .inr (ih h)
   ·rw[co] at h
    rcases Z0w.1 h with h|h
    ·split at h
     ·simp at h;exact .inl h.1
     ·cases h
    ·exact .inr (ih h)
theorem gU (len w:Int):∀ (u:Fo) (j:Nat) (bit:Int),u.At p j->∀ i,i∈u.starts j->((i,7)∈bH p len w u j bit []↔(p.getD i dN).op≠19/\aK p i=false/\vW p i len w (pb p (u.starts j) i bit)=true)
 | .nil,j,bit,_,i,h=>by simp[Fo.starts] at h
 | .cons x k n,j,bit,ha,i,h=>by
   have hx:=At.get ha;simp only[Fo.starts,Z0h] at h;simp only[bH,Fo.starts,pb]
   have hbe:∀ w',(i,7)∈bH p len w n (j+1+k.size) w' []->j+1+k.size<=i:=λw' q=>(bD (lm q)).1
   by_cases hi:i=j
   ·subst hi
    rw[if_pos rfl,hx];split
    ·rename_i ho;rw[ho];simp
    ·rename_i ho
     have ho:aK p i=false:=by cases q:aK p i<;>simp_all
     split
     ·rename_i h19
      constructor
      ·intro q;have:=hbe _ q;omega
      ·rintro⟨q,_⟩;exact absurd h19 q
     ·rename_i h19
      rw[co,Z0w];unfold vW;simp only;rw[decide_eq_true_eq,<-EY];constructor
      ·rintro (q|q)
       ·split at q
        ·exact⟨h19,ho,‹_›⟩
        ·cases q
       ·have:=hbe _ q;omega
      ·rintro⟨_,_,q⟩
       left;rw[if_pos q];simp
   ·have h:=h.resolve_left hi
    rw[if_neg (show ¬j=i from λe=>hi e.symm),hx];split
    ·simp[vW]
    ·split
     ·exact gU len w n _ _ ha.2.2.2 i h
     ·rw[co,Z0w,gU len w n _ _ ha.2.2.2 i h]
      refine⟨λq=>q.resolve_left λq=>?_,.inr⟩;split at q
      ·simp at q;exact hi q
      ·cases q
theorem rV (ha:t.At p 0) (hv:t.V (List.replicate t.cnt (false,68))) {f:Nat} (hf:f<t.size) (h16:(p.getD f dN).op=16):
 f+4<t.size/\t.kid 0 (f+4)=ak (t.kid 0 f)/\(aC t (f+4)).pa=(f:Int)/\(ak (t.kid 0 f)).At p (f+5)/\(∀ b,b∈(t.kid 0 f).starts (f+1)->(p.getD b dN).op=4->b=f+4)/\∀ e∈(ak (t.kid 0 f)).starts (f+5),e<t.size/\(aC t e).pa=((f+4:Nat):Int)/\((p.getD e dN).op=18\/(p.getD e dN).op=19):=by
 obtain⟨u1,u2,u3,u4⟩:=xx ha hv hf h16;obtain⟨_,q1,q2,_,_⟩:=bL ha hv hf aa;rw[h16,uj] at q2;have hfs:=bm (t:=t) (Z08 f) aa;obtain⟨_,k5,_⟩:=cC ha hv (Z08 (f+4)) (aa:f+4<0+t.size);have k5A:=k5.2.2.1;rw[u2] at k5A;obtain⟨b,_,hb2⟩:=aR (c':=70) [110,105,105] (t.kid 0 f) ac q2;have hbV:=(hb2 p (f+1) q1).2.2.1;refine⟨aa,u2,u3,k5A,λb hb h4=>?_,λe he=>⟨?_,u4 e he,?_⟩⟩
 ·have:=o_ (c':=70) [110,105,105] (t.kid 0 f) (f+1) b ac q2 q1 hb h4
  simpa using this
 ·have:=bD he;omega
 ·obtain⟨sl,hs,g⟩:=dG k5A hbV he
  have:=(Z3b.1 hs).2;subst this;exact ma g.1.1
theorem mem7 (ha:t.At p 0) (hv:t.V (List.replicate t.cnt (false,68))) (hs:t.size=p.length) (hi:i<t.size):(i,7)∈jA p t↔fe p t i=true:=by
 rw[kI ha hv hs];constructor
 ·rintro (⟨j,hj,h⟩|⟨j,hj,h⟩)
  ·rw[gN ha hj] at h
   rcases h with ⟨h,_⟩|⟨h,_⟩<;>cases h
  ·rw[dW ha hv hs hj] at h
   rcases h with ⟨h,_⟩|⟨h,_⟩|⟨h,_⟩|⟨h16,h1,h2,h3,h⟩|⟨_,h⟩
   ·cases h
   ·cases h
   ·cases h
   ·obtain⟨b1,b2,b3,b4,b5,b6⟩:=rV ha hv hj h16
    have hst:=lm h;obtain⟨c1,c2,c3⟩:=b6 i hst;rw[gU _ _ _ _ _ b4 i hst] at h
    have hf:mN t i=j:=by unfold mN;rw[c2,Z12,b3,Z12]
    unfold fe;rw[hf,c2,Z12,b2,if_pos ⟨c3.resolve_right h.1,h16,h1,h3,h.2.1,h2⟩];exact h.2.2
   ·rw[dg] at h
    rcases h with h|h
    ·rw[dE] at h;exact absurd h.1 (by simp only;omega)
    ·rcases cz _ _ _ _ _ _ h with h|h<;>cases h
 ·intro h
  unfold fe at h;split at h
  ·rename_i hc
   obtain⟨h18,h16,h1,h3,h2,h5⟩:=hc;obtain⟨f,b,f1,f2,f3,f4,f5,f6,f7,f8,f9⟩:=xw ha hv hi h18
   have hf:mN t i=f:=by unfold mN;rw[f3,Z12,f4,Z12]
   rw[hf] at h h16 h1 h3 h5;obtain⟨b1,b2,b3,b4,b5,b6⟩:=rV ha hv (show f<t.size by omega) h16;have hb:=b5 b f8 f5;rw[f3,Z12,hb,b2] at h;rw[hb,b2] at f7;refine .inr ⟨f,aa,(dW ha hv hs aa _).2 (.inr (.inr (.inr (.inl ⟨h16,h1,h5,h3,?_⟩))))⟩;rw[gU _ _ _ _ _ b4 i f7];exact⟨aa,h2,h⟩
  ·cases h
theorem kH (ha:t.At p 0) (hv:t.V (List.replicate t.cnt (false,68))) (hs:t.size=p.length) {d:Nat×Nat} (hd:8<=d.2):d∈jA p t↔∃ M,M<t.size/\(p.getD M dN).op=14/\d∈lG p (ak (t.kid 0 M)) M []:=by
 rw[kI ha hv hs];constructor
 ·rintro (⟨j,hj,h⟩|⟨j,hj,h⟩)
  ·rw[gN ha hj] at h
   rcases h with ⟨h,_⟩|⟨h,_⟩<;>(rw[h] at hd;simp only at hd;omega)
  ·rw[dW ha hv hs hj] at h
   rcases h with ⟨h,_⟩|⟨h,_⟩|⟨h,_⟩|⟨_,_,_,_,h⟩|⟨h1,h⟩
   ·rw[h] at hd;simp only at hd;omega
   ·rw[h] at hd;simp only at hd;omega
   ·rw[h] at hd;simp only at hd;omega
   ·have:=fa _ _ _ _ _ _ h;omega
   ·exact⟨j,hj,h1,h⟩
 ·rintro⟨M,hM,h1,h2⟩
  exact .inr ⟨M,hM,(dW ha hv hs hM _).2 (.inr (.inr (.inr (.inr ⟨h1,h2⟩))))⟩
theorem mem8 (ha:t.At p 0) (hv:t.V (List.replicate t.cnt (false,68))) (hs:t.size=p.length) (hi:i<t.size):(i,8)∈jA p t↔zI p t i=true:=by
 rw[kH ha hv hs (Z02 _)];unfold zI;rw[Z07,decide_eq_true_eq,decide_eq_true_eq]
 have hAt:∀ M,M<t.size->(p.getD M dN).op=14->(ak (t.kid 0 M)).At p (M+6):=λM hM h14=>by
  obtain⟨_,q1,q2,_,_⟩:=bL ha hv hM aa;rw[h14,fK] at q2;obtain⟨b,_,hb2⟩:=aR (c':=83) [115,105,105,105] (t.kid 0 M) ac q2;have:=(hb2 p (M+1) q1).1.2.2.1
  simpa [Z52] using this
 constructor
 ·rintro⟨M,hM,h14,h⟩
  rw[dg] at h
  rcases h with h|h
  ·rw[dE] at h;exact absurd h.1 (by simp only;omega)
  ·obtain⟨q,hq,hsay⟩:=(cL false _ _ false true (hAt M hM h14) i 8).1 h
   have:=(sZ ha hv hM h14 hq).2;subst this;unfold vM at hsay
   rcases hsay with ⟨h,_⟩|⟨_,h1,h2⟩
   ·cases h
   ·exact⟨h1,by have:=of_decide_eq_false h2;omega⟩
 ·rintro⟨h1,h2⟩
  obtain⟨b,b1,b2,b3,b4⟩:=xF ha hv hi aa;obtain⟨M,m1,m2,m3,m4⟩:=nF ha hv i hi b b1 b2 b3 b4;refine⟨M,aa,m3,?_⟩;rw[dg];exact .inr ((cL false _ _ false true (hAt M aa m3) i 8).2 ⟨_,m4,.inr ⟨rfl,h1,decide_eq_false aa⟩⟩)
theorem Jx (ha:t.At p 0) (hv:t.V (List.replicate t.cnt (false,68))) (hs:t.size=p.length) (hi:i<t.size):(i,10)∈jA p t↔nH p t i=true:=by
 rw[kH ha hv hs (by simp only;omega)]
 have hAt:∀ M,M<t.size->(p.getD M dN).op=14->(ak (t.kid 0 M)).At p (M+6):=λM hM h14=>by
  obtain⟨_,q1,q2,_,_⟩:=bL ha hv hM aa;rw[h14,fK] at q2;obtain⟨b,_,hb2⟩:=aR (c':=83) [115,105,105,105] (t.kid 0 M) ac q2;have:=(hb2 p (M+1) q1).1.2.2.1
  simpa [Z52] using this
 constructor
 ·rintro⟨M,hM,h14,h⟩
  rw[dg] at h
  rcases h with h|h
  ·rw[dE] at h;exact absurd h.1 (by simp only;omega)
  ·obtain⟨q,hq,hsay⟩:=(cL false _ _ false true (hAt M hM h14) i 10).1 h
   have:=(sZ ha hv hM h14 hq).2;subst this;unfold vM at hsay
   rcases hsay with ⟨_,h⟩|⟨h,_⟩
   ·simpa using h
   ·cases h
 ·intro hu
  obtain⟨b,b1,b2,b3,b4⟩:∃ b,b<i/\(p.getD b dN).op=4/\i∈(t.kid 0 b).starts (b+1)/\bn 83 (p.getD i dN).op=true:=by
   have hu0:=hu;unfold nH at hu
   rcases er ha hi with ⟨_,h2⟩|⟨b,b1,b2,b3⟩
   ·rw[h2] at hu;simp[ini] at hu
   ·rw[b2,if_neg aa,Z12] at hu
    split at hu
    ·rename_i h4
     obtain⟨c,n1,n2,_⟩:=DB ha hv aa h4
     have hex:∀ l:List Nat,py p i l=true->∃ k∈l,(p.getD k dN).op=33\/(p.getD k dN).op=34\/(p.getD k dN).op=35:=by
      intro l
      induction l with
      |nil=>intro h;cases h
      |cons k l ih=>
       intro h;simp only[py] at h;split at h
       ·cases h
       ·split at h
        ·exact⟨k,Z17 ..,‹_›⟩
        ·obtain⟨m,h1,h2⟩:=ih h
         exact⟨m,Z0y _ h1,h2⟩
     obtain⟨k,hk,ho⟩:=hex _ hu;have hc:=yQ (sv ha hv aa n1 hk) (.inr (.inr ho));subst hc;exact⟨b,b1,h4,b3,sv ha hv aa n1 b3⟩
    ·cases hu
  obtain⟨M,m1,m2,m3,m4⟩:=nF ha hv i hi b b1 b2 b3 b4;refine⟨M,aa,m3,?_⟩;rw[dg];exact .inr ((cL false _ _ false true (hAt M aa m3) i 10).2 ⟨_,m4,.inl ⟨rfl,by rw[hu];rfl⟩⟩)
theorem mem9 (ha:t.At p 0) (hv:t.V (List.replicate t.cnt (false,68))) (hs:t.size=p.length) (hi:i<t.size):(i,9)∈jA p t↔DE p t i=true:=by
 rw[kH ha hv hs (by simp only;omega)];unfold DE;rw[Z07,decide_eq_true_eq,decide_eq_true_eq];constructor
 ·rintro⟨M,hM,h14,h⟩
  rw[dg] at h
  rcases h with h|h
  ·rw[dE] at h
   obtain⟨_,h1,h2,h3,h4⟩:=h;obtain⟨s1,s2⟩:=ow ha hv hM h14;rw[s2 i (by simp only at h1;omega) (by simp only at h2;omega),Z12];exact⟨h3,h4⟩
  ·rcases cz _ _ _ _ _ _ h with h|h<;>cases h
 ·rintro⟨h7,h⟩
  obtain⟨M,m1,m2,m3,m4⟩:=yG ha hv i hi (by rw[h7];decide);rw[m2,Z12] at h;refine⟨M,aa,m3,?_⟩;rw[dg,dE];have hM:M<t.size:=aa;obtain⟨s1,s2⟩:=ow ha hv hM m3;refine .inl ⟨rfl,?_,by simp only;omega,h7,h⟩;show M+5<=i;obtain⟨_,q1,q2,_,_⟩:=bL ha hv hM aa;rw[m3,fK] at q2
  rcases Z0a i (M+5) with hlt|hge
  ·exfalso
   obtain⟨k,hk,rfl⟩:∃ k,k<4/\i=M+1+k:=⟨i-(M+1),aa,aa⟩
   obtain⟨l1,l2,l3⟩:=jg ha hv hM (k:=k) (by rw[m3];show k<5;omega)
   have hmem:M+1+k∈(t.kid 0 M).starts (M+1):=by
    rw[<-l1,Z00,Z01 l2];exact Z0s _
   obtain⟨⟨sb,sc⟩,g1,g2⟩:=dG q1 q2 hmem;cases sb
   ·have hacc:=g2.1.1
    rw[h7] at hacc;simp[dd,dh] at g1
    rcases g1 with g1|g1|g1
    all_goals
     first
      |(rw[g1] at hacc;revert hacc;decide)
      |(revert hacc;decide)
   ·have:=g2.1.1
    omega
  ·exact hge
theorem E8 (ha:t.At p 0) (hv:t.V (List.replicate t.cnt (false,68))) (hs:t.size=p.length) (hi:i<t.size) (hc:c<=6):
 (i,c)∈jA p t↔(c=2/\ie p t i=true)\/(c=3/\mO p t i=true)\/(c=4/\aK p i=true)\/(c=5/\pC p i=true)\/(c=6/\fW p t i=true):=by
 rw[kI ha hv hs];constructor
 ·rintro (⟨j,hj,h⟩|⟨j,hj,h⟩)
  ·rw[gN ha hj] at h
   rcases h with ⟨h,h2⟩|⟨h,h2⟩<;>cases h
   ·exact .inl ⟨rfl,h2⟩
   ·exact .inr (.inl ⟨rfl,h2⟩)
  ·rw[dW ha hv hs hj] at h
   rcases h with ⟨h,h2⟩|⟨h,h2⟩|⟨h,h2⟩|⟨_,_,_,_,h⟩|⟨h1,h⟩
   ·cases h;exact .inr (.inr (.inl ⟨rfl,h2⟩))
   ·cases h;exact .inr (.inr (.inr (.inl ⟨rfl,h2⟩)))
   ·cases h;exact .inr (.inr (.inr (.inr ⟨rfl,h2⟩)))
   ·have:=fa _ _ _ _ _ _ h;simp only at this;omega
   ·rw[dg] at h
    rcases h with h|h
    ·rw[dE] at h;have:=h.1;simp only at this;omega
    ·rcases cz _ _ _ _ _ _ h with h|h<;>(simp only at h;omega)
 ·rintro (⟨rfl,h⟩|⟨rfl,h⟩|⟨rfl,h⟩|⟨rfl,h⟩|⟨rfl,h⟩)
  ·exact .inl ⟨i,hi,(gN ha hi _).2 (.inl ⟨rfl,h⟩)⟩
  ·exact .inl ⟨i,hi,(gN ha hi _).2 (.inr ⟨rfl,h⟩)⟩
  ·exact .inr ⟨i,hi,(dW ha hv hs hi _).2 (.inl ⟨rfl,h⟩)⟩
  ·exact .inr ⟨i,hi,(dW ha hv hs hi _).2 (.inr (.inl ⟨rfl,h⟩))⟩
  ·exact .inr ⟨i,hi,(dW ha hv hs hi _).2 (.inr (.inr (.inl ⟨rfl,h⟩)))⟩
theorem ua (ha:t.At p 0) (hv:t.V (List.replicate t.cnt (false,68))) (hs:t.size=p.length) (hi:i<t.size):(i,c)∈jA p t↔c∈fP p t i:=by
 unfold fP;rw[Z2d,Z20];unfold F7
 rcases Z0a c 7 with h|h
 ·rw[E8 ha hv hs hi aa]
  have:c=0\/c=1\/c=2\/c=3\/c=4\/c=5\/c=6:=aa
  rcases this with rfl|rfl|rfl|rfl|rfl|rfl|rfl<;>simp
 ·rcases Z0a c 11 with h2|h2
  ·have:c=7\/c=8\/c=9\/c=10:=aa
   rcases this with rfl|rfl|rfl|rfl
   ·rw[mem7 ha hv hs hi];simp
   ·rw[mem8 ha hv hs hi];simp
   ·rw[mem9 ha hv hs hi];simp
   ·rw[Jx ha hv hs hi];simp
  ·refine⟨λq=>?_,λq=>by omega⟩
   obtain⟨M,_,_,q⟩:=(kH ha hv hs (d:=(i,c)) (by simp only;omega)).1 q;rw[dg] at q
   rcases q with q|q
   ·rw[dE] at q;have:=q.1;simp only at this;omega
   ·rcases cz _ _ _ _ _ _ q with q|q<;>(simp only at q;omega)
theorem E6 (ha:t.At p 0) (hv:t.V (List.replicate t.cnt (false,68))) (hs:t.size=p.length) {d:Nat×Nat} (h:d∈jA p t):d.1<t.size:=by
 rcases Z0a d.2 8 with hc|hc
 ·rw[kI ha hv hs] at h
  rcases h with ⟨j,hj,h⟩|⟨j,hj,h⟩
  ·rw[gN ha hj] at h
   rcases h with ⟨h,_⟩|⟨h,_⟩<;>(rw[h];exact hj)
  ·rw[dW ha hv hs hj] at h
   rcases h with ⟨h,_⟩|⟨h,_⟩|⟨h,_⟩|⟨h16,_,_,_,h⟩|⟨_,h⟩
   ·rw[h];exact hj
   ·rw[h];exact hj
   ·rw[h];exact hj
   ·exact ((rV ha hv hj h16).2.2.2.2.2 d.1 (lm (c:=d.2) h)).1
   ·rw[dg] at h
    rcases h with h|h
    ·rw[dE] at h;omega
    ·rcases cz _ _ _ _ _ _ h with h|h<;>omega
 ·obtain⟨M,hM,h14,h⟩:=(kH ha hv hs hc).1 h
  obtain⟨s1,_⟩:=ow ha hv hM h14;have hMs:=bm (t:=t) (Z08 M) aa;rw[dg] at h
  rcases h with h|h
  ·rw[dE] at h;omega
  ·have:=ez (i:=d.1) (c:=d.2) h;omega
theorem ER:(ES p t).Pairwise dlt:=by
 have key:∀ l:List Nat,l.Pairwise (·<·)->(l.flatMap λi=>(fP p t i).map λc=>(i,c)).Pairwise dlt:=by
  intro l
  induction l with
  |nil=>intro _;exact Z5i
  |cons i l ih=>
   intro h;rw[Z2v] at h;rw[Z0g,Z4h];refine⟨?_,ih h.2,λa ha b hb=>?_⟩
   ·rw[Z2p]
    refine List.Pairwise.imp (λhab=> .inr ⟨rfl,hab⟩) (List.Pairwise.filter _ (List.pairwise_lt_range'))
   ·obtain⟨c,_,rfl⟩:=Z1d.1 ha
    obtain⟨j,hj,hb⟩:=Z2h.1 hb;obtain⟨c',_,rfl⟩:=Z1d.1 hb;exact .inl (h.1 j hj)
 exact key _ List.pairwise_lt_range
theorem yr (x:Nat×Nat): ¬dlt x x:=by unfold dlt;omega
theorem BC:∀ {a b:Dgs},a.Pairwise dlt->b.Pairwise dlt->(∀ d,d∈a↔d∈b)->a=b
 |[],[],_,_,_=>rfl
 |[],y::b,_,_,h=>by have:=(h y).2 (Z17 ..);cases this
 |x::a,[],_,_,h=>by have:=(h x).1 (Z17 ..);cases this
 |x::a,y::b,h1,h2,h=>by
  rw[Z2v] at h1 h2
  have hxy:x=y:=by
   have hx:=(h x).1 (Z17 ..);have hy:=(h y).2 (Z17 ..)
   rcases Z0h.1 hx with e|hx
   ·exact e
   ·rcases Z0h.1 hy with e|hy
    ·exact e.symm
    ·have q1:=h2.1 x hx
     have q2:=h1.1 y hy;unfold dlt at q1 q2;omega
  subst hxy;congr 1
  refine BC h1.2 h2.2 λd=>⟨λhd=>?_,λhd=>?_⟩
  ·rcases Z0h.1 ((h d).1 (Z0y _ hd)) with e|q
   ·subst e;exact absurd (h1.1 d hd) (yr d)
   ·exact q
  ·rcases Z0h.1 ((h d).2 (Z0y _ hd)) with e|q
   ·subst e;exact absurd (h2.1 d hd) (yr d)
   ·exact q
theorem wZ (ha:t.At p 0) (hv:t.V (List.replicate t.cnt (false,68))) (hs:t.size=p.length):d_ (jA p t)=ES p t:=by
 refine BC (EA _ (xe ha hv hs)) ER λd=>?_
 rw[(pX (jA p t)).mem_iff];unfold ES;rw[Z2h];constructor
 ·intro h
  have hd:=E6 ha hv hs h;exact⟨d.1,Z29.2 hd,Z1d.2 ⟨d.2,(ua ha hv hs hd).1 h,rfl⟩⟩
 ·rintro⟨i,hi,h⟩
  obtain⟨c,hc,rfl⟩:=Z1d.1 h;exact (ua ha hv hs (Z29.1 hi)).2 hc
end
end
end Go.Proofs.YtegjgpldfgjoiaaGreatDoor
