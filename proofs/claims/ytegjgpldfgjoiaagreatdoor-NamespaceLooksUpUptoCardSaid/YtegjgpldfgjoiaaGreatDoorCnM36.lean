import Derived.Test.YtegjgpldfgjoiaaGreatDoorCnM33
import Derived.Test.YtegjgpldfgjoiaaGreatDoorCnM30
import Derived.Test.YtegjgpldfgjoiaaGreatDoorCnM35
set_option linter.all false
namespace Go.Proofs.YtegjgpldfgjoiaaGreatDoor
open Go Ab
set_option maxRecDepth 100000
set_option maxHeartbeats 40000000
abbrev rsW (O:List Ro) (nt nl:Nat) (nx nh:Int):Hp:=[(0,some (qX 7 3 5 O.length nt nl nx nh)),(1,none),(7,some (oG 7 O))]
def eS (op:Int):Bool:=decide (op=10\/(11<=op/\op<=15)\/op=18\/op=20\/op=21)
abbrev mQ (p:List Nd) (i:Nat) (sc:Pth):Pth:=(aq sc (ah (p.getD (i+1) dN).str).1).1
def cW (p:List Nd) (num:Int) (O:List Ro) (nx:Int) (i:Nat) (sc:Pth):List Ro×Int×Int:=
 if eS (p.getD i dN).op=false then (O,nx,0)
 else if (p.getD i dN).op=10 then (if k_ O (pv (aI (mQ p i sc)) O)=false then (O,nx,6) else (O,nx,0))
 else if 0<=pv (aI (mQ p i sc)) O then (O,nx,7)
 else if k_ O (pv (aI (aO (mQ p i sc)).1) O)=false then (O,nx,6)
 else if (O.length:Int)≥1024 then (O,nx,8)
 else (O++[(nx,dH (aI (mQ p i sc)) (p.getD i dN).op (pv (aI (aO (mQ p i sc)).1) O) num i)],nx+1,0)
theorem qT {q:Pth} (h:cR q.segs):cR (aO q).1.segs:=by
 unfold aO;split
 ·exact λi hi=>by simp[z0] at hi
 ·exact jK h _
theorem z8 (p:List Nd) (hp:p.length<=2048) (hw:pn p) (num:Int) (O:List Ro) (nt nl:Nat) (nx nh:Int) (hO:O.length<=100000) (h0:0<O.length) (hx0:0<=nx) (hx1:nx<=1000000) (i:Nat) (hi:i<p.length) (sc:Pth) (hsc:cR sc.segs)
 (hj:eS (p.getD i dN).op=true->i+1<p.length/\cR (mQ p i sc).segs) (R:List Ro×Int×Int) (hR:cW p num O nx i sc=R):
 FC Tryz.prog 85 [.s (.ptr (some (0,0))),al p,nI i,gw sc,nI num] 7 (rsV O nt nl nx nh) (nI R.2.2) 9 (rsW R.1 nt nl R.2.1 nh):=by
 have hb1:(Tryz.prog.types[88]).bytes=56:=by kernel_rfl
 have hz1:(Tryz.prog.types[88]).size=6:=by kernel_rfl
 have hl:=mV O;unfold cW at hR;obtain⟨sr,su,ss⟩:=sc;refine wW Tryz.func85 ?_;cases hd:eS (p.getD i dN).op
 ·rw[if_pos hd] at hR
  subst hR;unfold eS at hd;rw[decide_eq_false_iff_not] at hd
  repeat'(first|exact y0|refine y1 ?_|refine y2 ?_ ?_|refine y4 λh=>?_|refine y3 ?_|exact y5|fail)
  all_goals exact⟨.inl rfl,_,[1,2],VLe.refl _,EndOK.move rfl ⟨rfl,rfl,trivial⟩ rfl rfl rfl rfl rfl⟩
 rw[if_neg (by rw[hd];simp)] at hR;obtain⟨hi1,hq⟩:=hj hd;unfold eS at hd;rw[decide_eq_true_eq] at hd;have hprs:=dU (p.getD (i+1) dN).str (fZ hw (i+1));have hsk:=de (p.getD (i+1) dN).str;have hjn:=m8 ⟨sr,su,ss⟩ (ah (p.getD (i+1) dN).str).1 hsc hsk;unfold mQ at hR hq;generalize ah (p.getD (i+1) dN).str=pp at*;obtain⟨⟨pr,pq,ps⟩,pok⟩:=pp;simp only at hR hq hjn;generalize aq ⟨sr,su,ss⟩ ⟨pr,pq,ps⟩=jj at*;obtain⟨⟨jr,ju,js⟩,jok⟩:=jj;simp only at hR hq;have hfm:=jQ ⟨jr,ju,js⟩ hq;have hpn:=zy ⟨jr,ju,js⟩ hq;have hfp:=jQ (aO ⟨jr,ju,js⟩).1 (qT hq);generalize aI ⟨jr,ju,js⟩=path at*;generalize aO ⟨jr,ju,js⟩=ab at*;obtain⟨⟨ar,au,as_⟩,aok⟩:=ab;simp only at hfp hR;generalize aI ⟨ar,au,as_⟩=upath at*;have hat:=Ix O nt nl nx nh path hO h0;have hau:=Ix O nt nl nx nh upath hO h0;have hct:=Dl O nt nl nx nh (pv path O) hO h0;have hcu:=Dl O nt nl nx nh (pv upath O) hO h0;generalize pv path O=a1 at*;generalize pv upath O=a2 at*;generalize k_ O a1=c1 at*;generalize k_ O a2=c2 at*
 repeat'(first|refine Ex.cutS 2 126 8 [(0,.s (.ptr (some (0,0)))),(1,al p),(2,nI i),(4,nI num),(8,.s (.ptr (some (7,0)))),(11,nI (p.getD i dN).op)] [(0,some (Bg O.length nt nl nx nh)),(1,some (oR O)),(7,some {cells:=bX ⟨sr,su,ss⟩,ty:=99})] rfl (Hold.k ?_) (Hold.k ?_)|exact y0|refine y1 ?_|refine y2 ?_ ?_|refine y4 λh=>?_|refine y3 ?_|exact y5|fail)
 ·refine⟨?_⟩
  repeat'(first|exact y0|refine y1 ?_|refine y2 ?_ ?_|refine y4 λh=>?_|refine y3 ?_|exact y5|fail)
  all_goals refine CutR.at [0,1,2,3,4,5,6,7] rfl rfl ⟨VLe.refl _,VLe.refl _,VLe.refl _,VLe.refl _,VLe.refl _,VLe.refl _,trivial⟩ ⟨rfl,rfl,rfl,trivial⟩ rfl
 refine⟨?_⟩;by_cases h10:(p.getD i dN).op=10
 ·rw[if_pos h10] at hR
  cases c1
  all_goals
   simp only[if_true,Z3x,if_false] at hR;subst hR
   repeat'(first|exact y0|refine y1 ?_|refine y2 ?_ ?_|refine y4 λh=>?_|refine wX 51 (pu hprs ?_)|refine wX 101 (pu hjn ?_)|refine wX 54 (pu hfm ?_)|refine wX 53 (cf [0,1,2,3,4,5,6] hat ?_)|refine wX 146 (cf [0,1,2,3,4,5,6] hct ?_)|refine y3 ?_|exact y5|fail)
   all_goals exact⟨.inl rfl,_,[1,2],VLe.refl _,EndOK.move rfl ⟨rfl,rfl,trivial⟩ rfl rfl rfl rfl rfl⟩
 rw[if_neg h10] at hR;by_cases g1:0<=a1
 ·rw[if_pos g1] at hR
  subst hR
  repeat'(first|exact y0|refine y1 ?_|refine y2 ?_ ?_|refine y4 λh=>?_|refine wX 51 (pu hprs ?_)|refine wX 101 (pu hjn ?_)|refine wX 54 (pu hfm ?_)|refine wX 102 (pu hpn ?_)|refine wX 54 (pu hfp ?_)|refine wX 53 (cf [0,1,2,3,4,5,6] hat ?_)|refine wX 53 (cf [0,1,2,3,4,5,6] hau ?_)|refine wX 146 (cf [0,1,2,3,4,5,6] hcu ?_)|refine y3 ?_|exact y5|fail)
  all_goals exact⟨.inl rfl,_,[1,2],VLe.refl _,EndOK.move rfl ⟨rfl,rfl,trivial⟩ rfl rfl rfl rfl rfl⟩
 rw[if_neg g1] at hR;cases c2
 ·simp only[if_true] at hR
  subst hR
  repeat'(first|exact y0|refine y1 ?_|refine y2 ?_ ?_|refine y4 λh=>?_|refine wX 51 (pu hprs ?_)|refine wX 101 (pu hjn ?_)|refine wX 54 (pu hfm ?_)|refine wX 102 (pu hpn ?_)|refine wX 54 (pu hfp ?_)|refine wX 53 (cf [0,1,2,3,4,5,6] hat ?_)|refine wX 53 (cf [0,1,2,3,4,5,6] hau ?_)|refine wX 146 (cf [0,1,2,3,4,5,6] hcu ?_)|refine y3 ?_|exact y5|fail)
  all_goals exact⟨.inl rfl,_,[1,2],VLe.refl _,EndOK.move rfl ⟨rfl,rfl,trivial⟩ rfl rfl rfl rfl rfl⟩
 simp only[Z3x,if_false] at hR;by_cases g3:(O.length:Int)≥1024
 ·rw[if_pos g3] at hR
  subst hR
  repeat'(first|exact y0|refine y1 ?_|refine y2 ?_ ?_|refine y4 λh=>?_|refine wX 51 (pu hprs ?_)|refine wX 101 (pu hjn ?_)|refine wX 54 (pu hfm ?_)|refine wX 102 (pu hpn ?_)|refine wX 54 (pu hfp ?_)|refine wX 53 (cf [0,1,2,3,4,5,6] hat ?_)|refine wX 53 (cf [0,1,2,3,4,5,6] hau ?_)|refine wX 146 (cf [0,1,2,3,4,5,6] hcu ?_)|refine y3 ?_|exact y5|fail)
  all_goals exact⟨.inl rfl,_,[1,2],VLe.refl _,EndOK.move rfl ⟨rfl,rfl,trivial⟩ rfl rfl rfl rfl rfl⟩
 rw[if_neg g3] at hR;subst hR
 repeat'(first|exact y0|refine y1 ?_|refine y2 ?_ ?_|refine y4 λh=>?_|refine wX 51 (pu hprs ?_)|refine wX 101 (pu hjn ?_)|refine wX 54 (pu hfm ?_)|refine wX 102 (pu hpn ?_)|refine wX 54 (pu hfp ?_)|refine wX 53 (cf [0,1,2,3,4,5,6] hat ?_)|refine wX 53 (cf [0,1,2,3,4,5,6] hau ?_)|refine wX 146 (cf [0,1,2,3,4,5,6] hcu ?_)|refine RegX.app [.app (O.length+1) ((O++[(nx,dH path (p.getD i dN).op a2 num i)]).flatMap mW)] rfl rfl ?_ rfl rfl rfl ?_|refine y3 ?_|exact y5|fail)
 ·rw[hz1];show O.length*6<=(O.flatMap mW).length;omega
 ·rw[hz1];exact Z02 6
 ·rw[hz1,Z0r]
  show O.flatMap mW++_=List.take (O.length*6) (O.flatMap mW)++_;rw[<-hl,Z1v];rfl
 ·rw[hb1];omega
 ·refine⟨.inl rfl,.s (.int .i64 0),[12,13],VLe.refl _,EndOK.move rfl ⟨?_,rfl,trivial⟩ rfl rfl rfl rfl rfl⟩
  show _=some (qX 12 3 5 (O++[(nx,dH path (p.getD i dN).op a2 num i)]).length nt nl (nx+1) nh);rw[Z03];rfl
end Go.Proofs.YtegjgpldfgjoiaaGreatDoor
