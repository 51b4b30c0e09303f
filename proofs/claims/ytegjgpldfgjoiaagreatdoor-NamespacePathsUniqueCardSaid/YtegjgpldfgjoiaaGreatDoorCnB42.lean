import Derived.Test.YtegjgpldfgjoiaaGreatDoorCnB37
import Derived.Test.YtegjgpldfgjoiaaGreatDoorCnB22
import Derived.Test.YtegjgpldfgjoiaaGreatDoorCnB33
set_option linter.unusedSimpArgs false
set_option linter.unusedVariables false
namespace Go.Proofs.YtegjgpldfgjoiaaGreatDoor
open Go Ab
set_option maxRecDepth 100000
set_option maxHeartbeats 4000000
structure SyD (B:Nat) (D:List Nd):Prop where
 len:D.length<=B
 wf:∀ x∈D,x.str.length<=1000/\0<=x.int
 nm:∃ k,k<D.length/\(D.getD k dN).op=3
theorem SyD.app {B C:Nat} {D r:List Nd} (h:SyD B D) (o:OKr C r):SyD (B+C) (D++r):=by
 refine⟨by rw[List.length_append];exact Nat.add_le_add h.len o.len,fun x hx=>?_,?_⟩
 ·rcases List.mem_append.1 hx with q|q
  ·exact h.wf x q
  ·exact o.wf x q
 ·obtain⟨k,h1,h2⟩:=h.nm
  refine⟨k,by rw[List.length_append];omega,?_⟩;rw[List.getD_eq_getElem?_getD,List.getElem?_append_left h1,<-List.getD_eq_getElem?_getD];exact h2
theorem oH {a:Nd} {j:Nat} {x:S} (h:(ndC a)[j]? =some x):aY x=true:=by
 rcases j with _|_|_|_|j
 ·cases h;rfl
 ·cases h;rfl
 ·cases h;rfl
 ·cases h;rfl
 ·simp[ndC] at h
theorem ye (l:List Int) (hl:l.length<=20000000000000) (i:Nat) (hi:i<=l.length) (s:By) (hs:s.length<=1000):
 ∃ (yy0 yy1 yy2 yy3 yy4:Nd) (i':Nat),yy1.op=3/\OKr 5 [yy0,yy1,yy2,yy3,yy4]/\i'<=l.length/\FC Tryz.prog 60 [cP,sV s] 1 (chL l i) (ae [yy0,yy1,yy2,yy3,yy4]) 1 (chL l i'):=by
 obtain⟨k,i1,hk,hi1,c1⟩:=am l hl 3 (by decide) (by decide) i hi;obtain⟨m,i2,hm2,hi2,c2⟩:=am l hl 4 (by decide) (by decide) i1 hi1;obtain⟨q,i3,hq,hi3,c3⟩:=am l hl 32 (by decide) (by decide) i2 hi2
 obtain⟨sp,hsp0,hsp⟩:∃ sp:Int,0<=sp/\sp=(if k=0 then 0 else if k=1 then 1 else 3):=⟨_,by split<;>(try split)<;>decide,rfl⟩
 have d1:=qr s;have d2:=uM sp;have d3:=uM (8*m);have d4:=uM (16+q)
 have o:∀ x∈[tree 3 0 s [],tree 1 sp [] [],tree 1 (8*m) [] [],tree 1 (16+q) [] []],OKr 1 x:=by
  simp[OKr.leaf (op:=3) (n:=0) (s:=s) (by decide) hs,OKr.leaf (op:=1) (s:=[]) hsp0 (by simp),OKr.leaf (op:=1) (n:=8*(m:Int)) (s:=[]) (by omega) (by simp),OKr.leaf (op:=1) (n:=16+(q:Int)) (s:=[]) (by omega) (by simp)]
 have dn:=yG 15 _ o (by simp) (by simp);have hO:=OKr.tree (op:=15) (n:=0) (s:=[]) (C:=5) o (by decide) (by simp) (by simp);refine⟨⟨15,0,[],4⟩,⟨3,0,s,0⟩,⟨1,sp,[],0⟩,⟨1,8*m,[],0⟩,⟨1,16+q,[],0⟩,i3,rfl,hO,hi3,?_⟩;change FC _ _ _ _ _ (ae (tree 15 0 [] [tree 3 0 s [],tree 1 sp [] [],tree 1 (8*m) [] [],tree 1 (16+q) [] []])) _ _;clear hO o;generalize tree 15 0 [] [tree 3 0 s [],tree 1 sp [] [],tree 1 (8*m) [] [],tree 1 (16+q) [] []]=r at*;generalize tree 3 0 s []=r1 at*;generalize tree 1 sp [] []=r2 at*;generalize tree 1 (8*m) [] []=r3 at*;generalize tree 1 (16+q) [] []=r4 at*;unfold bg at dn
 rcases (by omega:k=0\/k=1\/k=2) with rfl|rfl|rfl
 all_goals
  subst hsp;refine FC.walk (by kernel_rfl) Tryz.func60 rfl rfl ?_
  repeat'(first|exact y0|refine y1 ?_|refine y2 ?_ ?_|(refine y8 ?_ ?_<;>intro h<;>try exact y6)|(refine wC ?_;first|refine wF 18 (cm c1 ?_)|refine wF 18 (cm c2 ?_)|refine wF 18 (cm c3 ?_)|refine wF 56 (pu d1 ?_)|refine wF 58 (pu d2 ?_)|refine wF 58 (pu d3 ?_)|refine wF 58 (pu d4 ?_)|(refine wF 55 ?_;refine CallG.pz 25 (fun k=>[nS ([r1,r2,r3,r4].getD k [])]) 1 dn rfl rfl rfl rfl (fun _ _=>rfl) (fun k j x hk hx=>bE (K:=[r1,r2,r3,r4]) hk hx) rfl ⟨VLe.refl _,VLe.refl _,trivial⟩ rfl rfl rfl ?_))|refine y3 ?_|refine y7 ?_ ?_|refine y4 ?_|(refine y9 ?_ ?_<;>intro h)|exact y5|fail)
  all_goals first
   |exact⟨.inl rfl,_,[],VLe.refl _,EndOK.by rfl ⟨rfl,trivial⟩ rfl rfl rfl rfl⟩
   |omega
   |exact ac (by omega) (by omega)
   |exact aa (by omega) (by omega)
theorem xK (l:List Int) (hl:l.length<=20000000000000):∃ p,SyD 2000000000 p/\FC Tryz.prog 28 [.s (chF l)] 0 [] (ae p) 0 []:=by
 have hnew:=Eb l
 have hsz:(Tryz.prog.types[49]).size=4:=by kernel_rfl
 have hby:(Tryz.prog.types[49]).bytes=40:=by kernel_rfl
 obtain⟨yy0,yy1,yy2,yy3,yy4,i1,hy1,o1,hi1,c1⟩:=ye l hl 0 (Nat.zero_le _) [82,49] (by decide)
 obtain⟨w,hw,hwd⟩:∃ w:Nat,(w=0\/w=2)/\w=(if yy2.int=3 then 0 else 2):=⟨_,by split<;>simp,rfl⟩
 obtain⟨r2,i2,o2,hi2,c2⟩:=iY l hl [[70,49],[70,50]] (by decide) (by decide) false w hw i1 hi1;obtain⟨r3,i3,o3,hi3,c3⟩:=iY l hl [[70,51]] (by decide) (by decide) true 2 (.inr rfl) i2 hi2;unfold aJ at c2 c3;obtain⟨m4,i4,hm4,hi4,c4⟩:=am l hl 4 (by decide) (by decide) i3 hi3;obtain⟨a1,p1,d1⟩:=aZ [77,84,88] (by decide);obtain⟨a2,p2,d2⟩:=bF m4 (by omega);obtain⟨r4,o4,n4⟩:=au 20 [a1,a2] (B:=1) 3 (by simp[p1,p2]) (by simp) (by simp) (by simp);obtain⟨a3,p3,d3⟩:=aZ [69,86,84] (by decide);obtain⟨r5,o5,n5⟩:=au 21 [a3] (B:=1) 3 (by simp[p3]) (by simp) (by simp) (by simp);obtain⟨a4,p4,d4⟩:=aZ [65] (by decide);obtain⟨a5,i5,p5,hi5,c5⟩:=jL l hl 2 (by decide) i4 hi4;obtain⟨r6,o6,n6⟩:=au 13 [a4,a5] (B:=1000) 2001 (by simp[p4.le (show 1<=1000 by decide),p5.le (show 10^(2+1)<=1000 by decide)]) (by simp) (by simp) (by simp);obtain⟨a6,p6,d6⟩:=aZ [66] (by decide);obtain⟨x7,i6,hx7,hi6,c6⟩:=iL l hl i5 hi5;obtain⟨a7,p7,d7⟩:=bF x7 hx7;obtain⟨r7,o7,n7⟩:=au 13 [a6,a7] (B:=1) 3 (by simp[p6,p7]) (by simp) (by simp) (by simp);obtain⟨a8,p8,d8⟩:=aZ [67] (by decide);obtain⟨a9,p9,d9⟩:=bF 3 (by decide);obtain⟨b1,q1,e1⟩:=bF 1 (by decide);obtain⟨b2,i7,q2,hi7,c7⟩:=jL l hl 1 (by decide) i6 hi6;obtain⟨b3,q3,f3⟩:=au 4 [b1,b2] (B:=1000) 2001 (by simp[q1.le (show 1<=1000 by decide),q2.le (show 10^(1+1)<=1000 by decide)]) (by simp) (by simp) (by simp);obtain⟨b4,q4,f4⟩:=au 51 [a9,b3] (B:=3000) 6001 (by simp[p9.le (show 1<=3000 by decide),q3.le (show 2001<=3000 by decide)]) (by simp) (by simp) (by simp);obtain⟨r8,o8,n8⟩:=au 13 [a8,b4] (B:=7000) 14001 (by simp[p8.le (show 1<=7000 by decide),q4.le (show 6001<=7000 by decide)]) (by simp) (by simp) (by simp);obtain⟨m9,i8,hm9,hi8,c8⟩:=am l hl 16 (by decide) (by decide) i7 hi7;obtain⟨b5,q5,e5⟩:=aZ [68,69,86,48] (by decide);obtain⟨b6,q6,e6⟩:=aZ [95,83,84,65] (by decide);obtain⟨b7,q7,e7'⟩:=bF m9 (by omega);obtain⟨b8,q8,f8⟩:=au 13 [b6,b7] (B:=1) 3 (by simp[q6,q7]) (by simp) (by simp) (by simp);obtain⟨b9,q9,f9⟩:=au 4 [b8] (B:=3) 4 (by simp[q8]) (by simp) (by simp) (by simp);obtain⟨r9,o9,n9⟩:=au 11 [b5,b9] (B:=4) 9 (by simp[q5.le (show 1<=4 by decide),q9]) (by simp) (by simp) (by simp);obtain⟨r10,i9,o10,hi9,c9⟩:=lz l hl [77] (by decide) 2 (by decide) (by decide) i8 hi8;obtain⟨r11,i10,o11,hi10,c10⟩:=lz l hl [78] (by decide) 3 (by decide) (by decide) i9 hi9;unfold bg at n4 n5 n6 n7 n8 n9 f3 f4 f8 f9
 have h0:SyD 5 [yy0,yy1,yy2,yy3,yy4]:=⟨o1.len,o1.wf,1,by simp,hy1⟩
 obtain⟨D1,hD1,h1⟩:∃ D,D=[yy0,yy1,yy2,yy3,yy4]++r2/\SyD 105 D:=⟨_,rfl,h0.app o2⟩
 have hl1:=h1.len
 obtain⟨D2,hD2,h2⟩:∃ D,D=D1++r3/\SyD 205 D:=⟨_,rfl,h1.app o3⟩
 have hl2:=h2.len
 obtain⟨D3,hD3,h3⟩:∃ D,D=D2++r4/\SyD 208 D:=⟨_,rfl,h2.app o4⟩
 have hl3:=h3.len
 obtain⟨D4,hD4,h4⟩:∃ D,D=D3++r5/\SyD 211 D:=⟨_,rfl,h3.app o5⟩
 have hl4:=h4.len
 obtain⟨D5,hD5,h5⟩:∃ D,D=D4++r6/\SyD 2212 D:=⟨_,rfl,h4.app o6⟩
 have hl5:=h5.len
 obtain⟨D6,hD6,h6⟩:∃ D,D=D5++r7/\SyD 2215 D:=⟨_,rfl,h5.app o7⟩
 have hl6:=h6.len
 obtain⟨D7,hD7,h7⟩:∃ D,D=D6++r8/\SyD 16216 D:=⟨_,rfl,h6.app o8⟩
 have hl7:=h7.len
 obtain⟨D8,hD8,h8⟩:∃ D,D=D7++r9/\SyD 16225 D:=⟨_,rfl,h7.app o9⟩
 have hl8:=h8.len
 obtain⟨D9,hD9,h9⟩:∃ D,D=D8++r10/\SyD 300016225 D:=⟨_,rfl,h8.app o10⟩
 have hl9:=h9.len
 obtain⟨D10,hD10,h10⟩:∃ D,D=D9++r11/\SyD 600016225 D:=⟨_,rfl,h9.app o11⟩
 have hl10:=h10.len;refine⟨D10,⟨by omega,h10.wf,h10.nm⟩,?_⟩;clear h0 h1 h2 h3 h4 h5 h6 h7 h8 h9 h10 p1 p2 p3 p4 p5 p6 p7 p8 p9 q1 q2 q3 q4 q5 q6 q7 q8 q9 hi1 hi2 hi3 hi4 hi5 hi6 hi7 hi8 hi9 hi10 hy1;have le2:1<=r2.length:=List.length_pos_iff.2 o2.ne;have g2:=o2.len;have ne2:=o2.ne;have le3:1<=r3.length:=List.length_pos_iff.2 o3.ne;have g3:=o3.len;have ne3:=o3.ne;have le4:1<=r4.length:=List.length_pos_iff.2 o4.ne;have g4:=o4.len;have ne4:=o4.ne;have le5:1<=r5.length:=List.length_pos_iff.2 o5.ne;have g5:=o5.len;have ne5:=o5.ne;have le6:1<=r6.length:=List.length_pos_iff.2 o6.ne;have g6:=o6.len;have ne6:=o6.ne;have le7:1<=r7.length:=List.length_pos_iff.2 o7.ne;have g7:=o7.len;have ne7:=o7.ne;have le8:1<=r8.length:=List.length_pos_iff.2 o8.ne;have g8:=o8.len;have ne8:=o8.ne;have le9:1<=r9.length:=List.length_pos_iff.2 o9.ne;have g9:=o9.len;have ne9:=o9.ne;have le10:1<=r10.length:=List.length_pos_iff.2 o10.ne;have g10:=o10.len;have ne10:=o10.ne;have le11:1<=r11.length:=List.length_pos_iff.2 o11.ne;have g11:=o11.len;have ne11:=o11.ne;clear o1 o2 o3 o4 o5 o6 o7 o8 o9 o10 o11;refine FC.walk (by kernel_rfl) Tryz.func28 rfl rfl ?_
 repeat'(first|refine Ex.set 4 (.s (.row 1 2 0)) (VLe.s SLe.nilrow) rfl (Ex.upN (n':=3) (by decide) ?_)|exact y0|refine y1 ?_|refine y2 ?_ ?_|(refine y8 ?_ ?_<;>intro h<;>try exact y6)|(refine wC ?_;first|(refine wF 16 ?_;refine CallG.me [] hnew rfl rfl ⟨VLe.refl _,trivial⟩ trivial rfl rfl rfl ?_)|refine wF 60 (cm c1 ?_))|refine y3 ?_|refine y7 ?_ ?_|refine y4 ?_|(refine y9 ?_ ?_<;>intro h)|exact y5|fail)
 refine RegX.apr (i:=1) (g:=2) (m:=0) (w:=4) (cs:=[]) (foot:=[]) (k:=5) (add:=[yy0,yy1,yy2,yy3,yy4].flatMap ndC) rfl rfl rfl rfl rfl rfl rfl rfl rfl rfl hsz (by decide) rfl ?_ (by decide) (by simp[ndC]) rfl (by rw[hby];omega) (by omega) rfl ?_
 ·trivial
 repeat'(first|refine Ex.canon [0,3,4] 93 [(3,cP),(4,.s (.sla 1 2 5))] [(0,some {cells:=[chF l,.int .i64 (i1:Int)],ty:=97}),(1,ndB 1 [yy0,yy1,yy2,yy3,yy4])] rfl rfl ⟨VLe.refl _,VLe.s (SLe.rowsla (by decide)),trivial⟩ ⟨rfl,rfl,trivial⟩ rfl ?_|refine Ex.cutS 5 93 3 [(3,cP),(4,.s (.row 1 2 [yy0,yy1,yy2,yy3,yy4].length)),(5,nI w)] [(0,some {cells:=[chF l,.int .i64 (i1:Int)],ty:=97}),(1,ndB 1 [yy0,yy1,yy2,yy3,yy4])] rfl (Hold.k ?_) (Hold.k ?_)|exact y0|refine y1 ?_|refine y2 ?_ ?_|(refine y8 ?_ ?_<;>intro h<;>try exact y6)|refine y3 ?_|refine y7 ?_ ?_|refine y4 ?_|(refine y9 ?_ ?_<;>intro h)|exact y5|fail)
 ·refine⟨?_⟩
  by_cases hy:yy2.int=3
  ·rw[if_pos hy] at hwd
   subst hwd
   repeat'(first|exact y0|refine y1 ?_|refine y2 ?_ ?_|(refine y8 ?_ ?_<;>intro h<;>try exact y6)|refine RegX.ldS [.val (.s (.int .u64 yy2.int))] rfl rfl ?_ rfl ?_|refine y3 ?_|refine y7 ?_ ?_|refine y4 ?_|(refine y9 ?_ ?_<;>intro h)|exact y5|fail)
   all_goals try first|omega|rfl
   all_goals refine CutR.at [0,1,2] rfl rfl ⟨VLe.refl _,VLe.s (SLe.slarow (by decide)),VLe.refl _,trivial⟩ ⟨rfl,rfl,trivial⟩ rfl
  ·rw[if_neg hy] at hwd
   subst hwd
   repeat'(first|exact y0|refine y1 ?_|refine y2 ?_ ?_|(refine y8 ?_ ?_<;>intro h<;>try exact y6)|refine RegX.ldS [.val (.s (.int .u64 yy2.int))] rfl rfl ?_ rfl ?_|refine y3 ?_|refine y7 ?_ ?_|refine y4 ?_|(refine y9 ?_ ?_<;>intro h)|exact y5|fail)
   all_goals try first|omega|rfl
   all_goals refine CutR.at [0,1,2] rfl rfl ⟨VLe.refl _,VLe.s (SLe.slarow (by decide)),VLe.refl _,trivial⟩ ⟨rfl,rfl,trivial⟩ rfl
 refine⟨?_⟩
 obtain⟨D0,hD0⟩:∃ D,D=[yy0,yy1,yy2,yy3,yy4]:=⟨_,rfl⟩
 have hl0:D0.length<=5:=by rw[hD0];simp
 rw[<-hD0] at hD1 |-;clear hD0
 repeat'(first|exact y0|refine y1 ?_|refine y2 ?_ ?_|(refine y8 ?_ ?_<;>intro h<;>try exact y6)|(refine wC ?_;first|(refine wF 61 ?_;refine CallG.mz 1 S.str [] [[70,49],[70,50]] (fun _ _=>rfl) [0] c2 rfl rfl rfl rfl rfl rfl rfl rfl rfl ⟨VLe.refl _,VLe.refl _,VLe.refl _,VLe.refl _,trivial⟩ ⟨⟨rfl,_,rfl,rfl,fun h=>h⟩,trivial⟩ rfl rfl rfl ?_))|exact ac (by omega) (by omega)|exact aa (by omega) (by omega)|refine y3 ?_|refine y7 ?_ ?_|refine y4 ?_|(refine y9 ?_ ?_<;>intro h)|exact y5|fail)
 refine RegX.apr (i:=1) (g:=2) (m:=D0.length) (w:=4) (cs:=D0.flatMap ndC) (foot:=[]) (k:=r2.length) (add:=bQ (fun k=>ndC (r2.getD k dN)) r2.length) rfl rfl (by rw[bf]) rfl rfl rfl rfl rfl rfl rfl hsz (by decide) rfl ?_ le2 (by rw[an];exact gb ne2) (by rw[an];exact ga _) (by rw[hby];omega) (by omega) rfl ?_
 ·trivial
 repeat'(first|refine Ex.canon [0,4,5] 93 [(3,cP),(4,.s (.row 1 2 D1.length))] [(0,some {cells:=[chF l,.int .i64 (i2:Int)],ty:=97}),(1,ndB 1 D1)] rfl rfl ?_ ?_ ?_ (Hold.k ?_)|exact y0|refine y1 ?_|refine y2 ?_ ?_|(refine y8 ?_ ?_<;>intro h<;>try exact y6)|refine y3 ?_|refine y7 ?_ ?_|refine y4 ?_|(refine y9 ?_ ?_<;>intro h)|exact y5|fail)
 ·rw[hD1]
  repeat' (first|exact VLe.refl _|exact VLe.any _|exact True.intro|(refine VLe.of_eq (congrArg V.s (?_:S.row 4 5 _=S.row 4 5 _));simp;done)|refine⟨?_,?_⟩)
 ·rw[hD1]
  refine⟨rfl,MemP.op ?_ trivial⟩;rw[List.flatMap_append,<-an r2];rfl
 ·unfold ndB;generalize List.flatMap _ _=cg;cases cg<;>rfl
 refine⟨?_⟩
 repeat'(first|exact y0|refine y1 ?_|refine y2 ?_ ?_|(refine y8 ?_ ?_<;>intro h<;>try exact y6)|(refine wC ?_;first|(refine wF 61 ?_;refine CallG.mz 1 S.str [] [[70,51]] (fun _ _=>rfl) [0] c3 rfl rfl rfl rfl rfl rfl rfl rfl rfl ⟨VLe.refl _,VLe.refl _,VLe.refl _,VLe.refl _,trivial⟩ ⟨⟨rfl,_,rfl,rfl,fun h=>h⟩,trivial⟩ rfl rfl rfl ?_))|exact ac (by omega) (by omega)|exact aa (by omega) (by omega)|refine y3 ?_|refine y7 ?_ ?_|refine y4 ?_|(refine y9 ?_ ?_<;>intro h)|exact y5|fail)
 refine RegX.apr (i:=1) (g:=2) (m:=D1.length) (w:=4) (cs:=D1.flatMap ndC) (foot:=[]) (k:=r3.length) (add:=bQ (fun k=>ndC (r3.getD k dN)) r3.length) rfl rfl (by rw[bf]) rfl rfl rfl rfl rfl rfl rfl hsz (by decide) rfl ?_ le3 (by rw[an];exact gb ne3) (by rw[an];exact ga _) (by rw[hby];omega) (by omega) rfl ?_
 ·trivial
 repeat'(first|refine Ex.canon [0,4,5] 93 [(3,cP),(4,.s (.row 1 2 D2.length))] [(0,some {cells:=[chF l,.int .i64 (i3:Int)],ty:=97}),(1,ndB 1 D2)] rfl rfl ?_ ?_ ?_ (Hold.k ?_)|exact y0|refine y1 ?_|refine y2 ?_ ?_|(refine y8 ?_ ?_<;>intro h<;>try exact y6)|refine y3 ?_|refine y7 ?_ ?_|refine y4 ?_|(refine y9 ?_ ?_<;>intro h)|exact y5|fail)
 ·rw[hD2]
  repeat' (first|exact VLe.refl _|exact VLe.any _|exact True.intro|(refine VLe.of_eq (congrArg V.s (?_:S.row 4 5 _=S.row 4 5 _));simp;done)|refine⟨?_,?_⟩)
 ·rw[hD2]
  refine⟨rfl,MemP.op ?_ trivial⟩;rw[List.flatMap_append,<-an r3];rfl
 ·unfold ndB;generalize List.flatMap _ _=cg;cases cg<;>rfl
 refine⟨?_⟩
 repeat'(first|exact y0|refine y1 ?_|refine y2 ?_ ?_|(refine y8 ?_ ?_<;>intro h<;>try exact y6)|(refine wC ?_;first|refine wF 18 (cm c4 ?_)|refine wF 56 (pu d1 ?_)|refine wF 58 (pu d2 ?_)|(refine wF 55 ?_;refine CallG.pl nS [] [a1,a2] (fun _ _=>rfl) n4 rfl rfl rfl rfl rfl (by first|rfl|simp) (by first|rfl|simp|(rw[List.map_append];rfl)) rfl ⟨VLe.refl _,VLe.refl _,trivial⟩ rfl rfl rfl ?_))|exact ac (by omega) (by omega)|exact aa (by omega) (by omega)|refine y3 ?_|refine y7 ?_ ?_|refine y4 ?_|(refine y9 ?_ ?_<;>intro h)|exact y5|fail)
 refine RegX.apr (i:=1) (g:=2) (m:=D2.length) (w:=4) (cs:=D2.flatMap ndC) (foot:=[]) (k:=r4.length) (add:=bQ (fun k=>ndC (r4.getD k dN)) r4.length) rfl rfl (by rw[bf]) rfl rfl rfl rfl rfl rfl rfl hsz (by decide) rfl ?_ le4 (by rw[an];exact gb ne4) (by rw[an];exact ga _) (by rw[hby];omega) (by omega) rfl ?_
 ·trivial
 repeat'(first|refine Ex.canon [0,4,5] 93 [(3,cP),(4,.s (.row 1 2 D3.length))] [(0,some {cells:=[chF l,.int .i64 (i4:Int)],ty:=97}),(1,ndB 1 D3)] rfl rfl ?_ ?_ ?_ (Hold.k ?_)|exact y0|refine y1 ?_|refine y2 ?_ ?_|(refine y8 ?_ ?_<;>intro h<;>try exact y6)|refine y3 ?_|refine y7 ?_ ?_|refine y4 ?_|(refine y9 ?_ ?_<;>intro h)|exact y5|fail)
 ·rw[hD3]
  repeat' (first|exact VLe.refl _|exact VLe.any _|exact True.intro|(refine VLe.of_eq (congrArg V.s (?_:S.row 4 5 _=S.row 4 5 _));simp;done)|refine⟨?_,?_⟩)
 ·rw[hD3]
  refine⟨rfl,MemP.op ?_ trivial⟩;rw[List.flatMap_append,<-an r4];rfl
 ·unfold ndB;generalize List.flatMap _ _=cg;cases cg<;>rfl
 refine⟨?_⟩
 repeat'(first|exact y0|refine y1 ?_|refine y2 ?_ ?_|(refine y8 ?_ ?_<;>intro h<;>try exact y6)|(refine wC ?_;first|refine wF 56 (pu d3 ?_)|(refine wF 55 ?_;refine CallG.pl nS [] [a3] (fun _ _=>rfl) n5 rfl rfl rfl rfl rfl (by first|rfl|simp) (by first|rfl|simp|(rw[List.map_append];rfl)) rfl ⟨VLe.refl _,VLe.refl _,trivial⟩ rfl rfl rfl ?_))|exact ac (by omega) (by omega)|exact aa (by omega) (by omega)|refine y3 ?_|refine y7 ?_ ?_|refine y4 ?_|(refine y9 ?_ ?_<;>intro h)|exact y5|fail)
 refine RegX.apr (i:=1) (g:=2) (m:=D3.length) (w:=4) (cs:=D3.flatMap ndC) (foot:=[]) (k:=r5.length) (add:=bQ (fun k=>ndC (r5.getD k dN)) r5.length) rfl rfl (by rw[bf]) rfl rfl rfl rfl rfl rfl rfl hsz (by decide) rfl ?_ le5 (by rw[an];exact gb ne5) (by rw[an];exact ga _) (by rw[hby];omega) (by omega) rfl ?_
 ·trivial
 repeat'(first|refine Ex.canon [0,4,5] 93 [(3,cP),(4,.s (.row 1 2 D4.length))] [(0,some {cells:=[chF l,.int .i64 (i4:Int)],ty:=97}),(1,ndB 1 D4)] rfl rfl ?_ ?_ ?_ (Hold.k ?_)|exact y0|refine y1 ?_|refine y2 ?_ ?_|(refine y8 ?_ ?_<;>intro h<;>try exact y6)|refine y3 ?_|refine y7 ?_ ?_|refine y4 ?_|(refine y9 ?_ ?_<;>intro h)|exact y5|fail)
 ·rw[hD4]
  repeat' (first|exact VLe.refl _|exact VLe.any _|exact True.intro|(refine VLe.of_eq (congrArg V.s (?_:S.row 4 5 _=S.row 4 5 _));simp;done)|refine⟨?_,?_⟩)
 ·rw[hD4]
  refine⟨rfl,MemP.op ?_ trivial⟩;rw[List.flatMap_append,<-an r5];rfl
 ·unfold ndB;generalize List.flatMap _ _=cg;cases cg<;>rfl
 refine⟨?_⟩
 repeat'(first|exact y0|refine y1 ?_|refine y2 ?_ ?_|(refine y8 ?_ ?_<;>intro h<;>try exact y6)|(refine wC ?_;first|refine wF 56 (pu d4 ?_)|refine wF 62 (cm c5 ?_)|(refine wF 55 ?_;refine CallG.pl nS [] [a4,a5] (fun _ _=>rfl) n6 rfl rfl rfl rfl rfl (by first|rfl|simp) (by first|rfl|simp|(rw[List.map_append];rfl)) rfl ⟨VLe.refl _,VLe.refl _,trivial⟩ rfl rfl rfl ?_))|exact ac (by omega) (by omega)|exact aa (by omega) (by omega)|refine y3 ?_|refine y7 ?_ ?_|refine y4 ?_|(refine y9 ?_ ?_<;>intro h)|exact y5|fail)
 refine RegX.apr (i:=1) (g:=2) (m:=D4.length) (w:=4) (cs:=D4.flatMap ndC) (foot:=[]) (k:=r6.length) (add:=bQ (fun k=>ndC (r6.getD k dN)) r6.length) rfl rfl (by rw[bf]) rfl rfl rfl rfl rfl rfl rfl hsz (by decide) rfl ?_ le6 (by rw[an];exact gb ne6) (by rw[an];exact ga _) (by rw[hby];omega) (by omega) rfl ?_
 ·trivial
 repeat'(first|refine Ex.canon [0,4,5] 93 [(3,cP),(4,.s (.row 1 2 D5.length))] [(0,some {cells:=[chF l,.int .i64 (i5:Int)],ty:=97}),(1,ndB 1 D5)] rfl rfl ?_ ?_ ?_ (Hold.k ?_)|exact y0|refine y1 ?_|refine y2 ?_ ?_|(refine y8 ?_ ?_<;>intro h<;>try exact y6)|refine y3 ?_|refine y7 ?_ ?_|refine y4 ?_|(refine y9 ?_ ?_<;>intro h)|exact y5|fail)
 ·rw[hD5]
  repeat' (first|exact VLe.refl _|exact VLe.any _|exact True.intro|(refine VLe.of_eq (congrArg V.s (?_:S.row 4 5 _=S.row 4 5 _));simp;done)|refine⟨?_,?_⟩)
 ·rw[hD5]
  refine⟨rfl,MemP.op ?_ trivial⟩;rw[List.flatMap_append,<-an r6];rfl
 ·unfold ndB;generalize List.flatMap _ _=cg;cases cg<;>rfl
 refine⟨?_⟩
 repeat'(first|exact y0|refine y1 ?_|refine y2 ?_ ?_|(refine y8 ?_ ?_<;>intro h<;>try exact y6)|(refine wC ?_;first|refine wF 56 (pu d6 ?_)|refine wF 73 (cm c6 ?_)|refine wF 58 (pu d7 ?_)|(refine wF 55 ?_;refine CallG.pl nS [] [a6,a7] (fun _ _=>rfl) n7 rfl rfl rfl rfl rfl (by first|rfl|simp) (by first|rfl|simp|(rw[List.map_append];rfl)) rfl ⟨VLe.refl _,VLe.refl _,trivial⟩ rfl rfl rfl ?_))|exact ac (by omega) (by omega)|exact aa (by omega) (by omega)|refine y3 ?_|refine y7 ?_ ?_|refine y4 ?_|(refine y9 ?_ ?_<;>intro h)|exact y5|fail)
 refine RegX.apr (i:=1) (g:=2) (m:=D5.length) (w:=4) (cs:=D5.flatMap ndC) (foot:=[]) (k:=r7.length) (add:=bQ (fun k=>ndC (r7.getD k dN)) r7.length) rfl rfl (by rw[bf]) rfl rfl rfl rfl rfl rfl rfl hsz (by decide) rfl ?_ le7 (by rw[an];exact gb ne7) (by rw[an];exact ga _) (by rw[hby];omega) (by omega) rfl ?_
 ·trivial
 repeat'(first|refine Ex.canon [0,4,5] 93 [(3,cP),(4,.s (.row 1 2 D6.length))] [(0,some {cells:=[chF l,.int .i64 (i6:Int)],ty:=97}),(1,ndB 1 D6)] rfl rfl ?_ ?_ ?_ (Hold.k ?_)|exact y0|refine y1 ?_|refine y2 ?_ ?_|(refine y8 ?_ ?_<;>intro h<;>try exact y6)|refine y3 ?_|refine y7 ?_ ?_|refine y4 ?_|(refine y9 ?_ ?_<;>intro h)|exact y5|fail)
 ·rw[hD6]
  repeat' (first|exact VLe.refl _|exact VLe.any _|exact True.intro|(refine VLe.of_eq (congrArg V.s (?_:S.row 4 5 _=S.row 4 5 _));simp;done)|refine⟨?_,?_⟩)
 ·rw[hD6]
  refine⟨rfl,MemP.op ?_ trivial⟩;rw[List.flatMap_append,<-an r7];rfl
 ·unfold ndB;generalize List.flatMap _ _=cg;cases cg<;>rfl
 refine⟨?_⟩
 repeat'(first|exact y0|refine y1 ?_|refine y2 ?_ ?_|(refine y8 ?_ ?_<;>intro h<;>try exact y6)|(refine wC ?_;first|refine wF 56 (pu d8 ?_)|refine wF 58 (pu d9 ?_)|refine wF 58 (pu e1 ?_)|refine wF 62 (cm c7 ?_)|(refine wF 55 ?_;refine CallG.pl nS [] [b1,b2] (fun _ _=>rfl) f3 rfl rfl rfl rfl rfl (by first|rfl|simp) (by first|rfl|simp|(rw[List.map_append];rfl)) rfl ⟨VLe.refl _,VLe.refl _,trivial⟩ rfl rfl rfl ?_)|(refine wF 55 ?_;refine CallG.pl nS [] [a9,b3] (fun _ _=>rfl) f4 rfl rfl rfl rfl rfl (by first|rfl|simp) (by first|rfl|simp|(rw[List.map_append];rfl)) rfl ⟨VLe.refl _,VLe.refl _,trivial⟩ rfl rfl rfl ?_)|(refine wF 55 ?_;refine CallG.pl nS [] [a8,b4] (fun _ _=>rfl) n8 rfl rfl rfl rfl rfl (by first|rfl|simp) (by first|rfl|simp|(rw[List.map_append];rfl)) rfl ⟨VLe.refl _,VLe.refl _,trivial⟩ rfl rfl rfl ?_))|exact ac (by omega) (by omega)|exact aa (by omega) (by omega)|refine y3 ?_|refine y7 ?_ ?_|refine y4 ?_|(refine y9 ?_ ?_<;>intro h)|exact y5|fail)
 refine RegX.apr (i:=1) (g:=2) (m:=D6.length) (w:=4) (cs:=D6.flatMap ndC) (foot:=[]) (k:=r8.length) (add:=bQ (fun k=>ndC (r8.getD k dN)) r8.length) rfl rfl (by rw[bf]) rfl rfl rfl rfl rfl rfl rfl hsz (by decide) rfl ?_ le8 (by rw[an];exact gb ne8) (by rw[an];exact ga _) (by rw[hby];omega) (by omega) rfl ?_
 ·trivial
 repeat'(first|refine Ex.canon [0,6,7] 93 [(3,cP),(4,.s (.row 1 2 D7.length))] [(0,some {cells:=[chF l,.int .i64 (i7:Int)],ty:=97}),(1,ndB 1 D7)] rfl rfl ?_ ?_ ?_ (Hold.k ?_)|exact y0|refine y1 ?_|refine y2 ?_ ?_|(refine y8 ?_ ?_<;>intro h<;>try exact y6)|refine y3 ?_|refine y7 ?_ ?_|refine y4 ?_|(refine y9 ?_ ?_<;>intro h)|exact y5|fail)
 ·rw[hD7]
  repeat' (first|exact VLe.refl _|exact VLe.any _|exact True.intro|(refine VLe.of_eq (congrArg V.s (?_:S.row 6 7 _=S.row 6 7 _));simp;done)|refine⟨?_,?_⟩)
 ·rw[hD7]
  refine⟨rfl,MemP.op ?_ trivial⟩;rw[List.flatMap_append,<-an r8];rfl
 ·unfold ndB;generalize List.flatMap _ _=cg;cases cg<;>rfl
 refine⟨?_⟩
 repeat'(first|exact y0|refine y1 ?_|refine y2 ?_ ?_|(refine y8 ?_ ?_<;>intro h<;>try exact y6)|(refine wC ?_;first|refine wF 18 (cm c8 ?_)|refine wF 56 (pu e5 ?_)|refine wF 56 (pu e6 ?_)|refine wF 58 (pu (e7') ?_)|(refine wF 55 ?_;refine CallG.pl nS [] [b6,b7] (fun _ _=>rfl) f8 rfl rfl rfl rfl rfl (by first|rfl|simp) (by first|rfl|simp|(rw[List.map_append];rfl)) rfl ⟨VLe.refl _,VLe.refl _,trivial⟩ rfl rfl rfl ?_)|(refine wF 55 ?_;refine CallG.pl nS [] [b8] (fun _ _=>rfl) f9 rfl rfl rfl rfl rfl (by first|rfl|simp) (by first|rfl|simp|(rw[List.map_append];rfl)) rfl ⟨VLe.refl _,VLe.refl _,trivial⟩ rfl rfl rfl ?_)|(refine wF 55 ?_;refine CallG.pl nS [] [b5,b9] (fun _ _=>rfl) n9 rfl rfl rfl rfl rfl (by first|rfl|simp) (by first|rfl|simp|(rw[List.map_append];rfl)) rfl ⟨VLe.refl _,VLe.refl _,trivial⟩ rfl rfl rfl ?_))|exact ac (by omega) (by omega)|exact aa (by omega) (by omega)|refine y3 ?_|refine y7 ?_ ?_|refine y4 ?_|(refine y9 ?_ ?_<;>intro h)|exact y5|fail)
 refine RegX.apr (i:=1) (g:=2) (m:=D7.length) (w:=4) (cs:=D7.flatMap ndC) (foot:=[]) (k:=r9.length) (add:=bQ (fun k=>ndC (r9.getD k dN)) r9.length) rfl rfl (by rw[bf]) rfl rfl rfl rfl rfl rfl rfl hsz (by decide) rfl ?_ le9 (by rw[an];exact gb ne9) (by rw[an];exact ga _) (by rw[hby];omega) (by omega) rfl ?_
 ·trivial
 repeat'(first|refine Ex.canon [0,6,7] 93 [(3,cP),(4,.s (.row 1 2 D8.length))] [(0,some {cells:=[chF l,.int .i64 (i8:Int)],ty:=97}),(1,ndB 1 D8)] rfl rfl ?_ ?_ ?_ (Hold.k ?_)|exact y0|refine y1 ?_|refine y2 ?_ ?_|(refine y8 ?_ ?_<;>intro h<;>try exact y6)|refine y3 ?_|refine y7 ?_ ?_|refine y4 ?_|(refine y9 ?_ ?_<;>intro h)|exact y5|fail)
 ·rw[hD8]
  repeat' (first|exact VLe.refl _|exact VLe.any _|exact True.intro|(refine VLe.of_eq (congrArg V.s (?_:S.row 6 7 _=S.row 6 7 _));simp;done)|refine⟨?_,?_⟩)
 ·rw[hD8]
  refine⟨rfl,MemP.op ?_ trivial⟩;rw[List.flatMap_append,<-an r9];rfl
 ·unfold ndB;generalize List.flatMap _ _=cg;cases cg<;>rfl
 refine⟨?_⟩
 repeat'(first|exact y0|refine y1 ?_|refine y2 ?_ ?_|(refine y8 ?_ ?_<;>intro h<;>try exact y6)|(refine wC ?_;first|refine wF 59 (cm c9 ?_))|exact ac (by omega) (by omega)|exact aa (by omega) (by omega)|refine y3 ?_|refine y7 ?_ ?_|refine y4 ?_|(refine y9 ?_ ?_<;>intro h)|exact y5|fail)
 refine RegX.apr (i:=1) (g:=2) (m:=D8.length) (w:=4) (cs:=D8.flatMap ndC) (foot:=[]) (k:=r10.length) (add:=bQ (fun k=>ndC (r10.getD k dN)) r10.length) rfl rfl (by rw[bf]) rfl rfl rfl rfl rfl rfl rfl hsz (by decide) rfl ?_ le10 (by rw[an];exact gb ne10) (by rw[an];exact ga _) (by rw[hby];omega) (by omega) rfl ?_
 ·trivial
 repeat'(first|refine Ex.canon [0,3,4] 93 [(3,cP),(4,.s (.row 1 2 D9.length))] [(0,some {cells:=[chF l,.int .i64 (i9:Int)],ty:=97}),(1,ndB 1 D9)] rfl rfl ?_ ?_ ?_ (Hold.k ?_)|exact y0|refine y1 ?_|refine y2 ?_ ?_|(refine y8 ?_ ?_<;>intro h<;>try exact y6)|refine y3 ?_|refine y7 ?_ ?_|refine y4 ?_|(refine y9 ?_ ?_<;>intro h)|exact y5|fail)
 ·rw[hD9]
  repeat' (first|exact VLe.refl _|exact VLe.any _|exact True.intro|(refine VLe.of_eq (congrArg V.s (?_:S.row 3 4 _=S.row 3 4 _));simp;done)|refine⟨?_,?_⟩)
 ·rw[hD9]
  refine⟨rfl,MemP.op ?_ trivial⟩;rw[List.flatMap_append,<-an r10];rfl
 ·unfold ndB;generalize List.flatMap _ _=cg;cases cg<;>rfl
 refine⟨?_⟩
 repeat'(first|exact y0|refine y1 ?_|refine y2 ?_ ?_|(refine y8 ?_ ?_<;>intro h<;>try exact y6)|(refine wC ?_;first|refine wF 59 (cm c10 ?_))|exact ac (by omega) (by omega)|exact aa (by omega) (by omega)|refine y3 ?_|refine y7 ?_ ?_|refine y4 ?_|(refine y9 ?_ ?_<;>intro h)|exact y5|fail)
 refine RegX.apr (i:=1) (g:=2) (m:=D9.length) (w:=4) (cs:=D9.flatMap ndC) (foot:=[]) (k:=r11.length) (add:=bQ (fun k=>ndC (r11.getD k dN)) r11.length) rfl rfl (by rw[bf]) rfl rfl rfl rfl rfl rfl rfl hsz (by decide) rfl ?_ le11 (by rw[an];exact gb ne11) (by rw[an];exact ga _) (by rw[hby];omega) (by omega) rfl ?_
 ·trivial
 repeat'(first|refine Ex.canon [0,3,4] 93 [(3,cP),(4,.s (.row 1 2 D10.length))] [(0,some {cells:=[chF l,.int .i64 (i10:Int)],ty:=97}),(1,ndB 1 D10)] rfl rfl ?_ ?_ ?_ (Hold.k ?_)|exact y0|refine y1 ?_|refine y2 ?_ ?_|(refine y8 ?_ ?_<;>intro h<;>try exact y6)|refine y3 ?_|refine y7 ?_ ?_|refine y4 ?_|(refine y9 ?_ ?_<;>intro h)|exact y5|fail)
 ·rw[hD10]
  repeat' (first|exact VLe.refl _|exact VLe.any _|exact True.intro|(refine VLe.of_eq (congrArg V.s (?_:S.row 3 4 _=S.row 3 4 _));simp;done)|refine⟨?_,?_⟩)
 ·rw[hD10]
  refine⟨rfl,MemP.op ?_ trivial⟩;rw[List.flatMap_append,<-an r11];rfl
 ·unfold ndB;generalize List.flatMap _ _=cg;cases cg<;>rfl
 refine⟨?_⟩
 repeat'(first|exact y0|refine y1 ?_|refine y2 ?_ ?_|(refine y8 ?_ ?_<;>intro h<;>try exact y6)|refine Ex.fzR 2 ndC 4 dN D10 rfl rfl (fun _=>rfl) (fun a j x h=>oH h) (by decide) rfl rfl ?_|refine Fin.le (.inl rfl) rfl (VLe.refl _) rfl|refine y3 ?_|refine y7 ?_ ?_|refine y4 ?_|(refine y9 ?_ ?_<;>intro h)|exact y5|fail)
set_option maxRecDepth 100000
theorem PgOK.wfN {p:List Nd} (h:PgOK p):wfN p:=fun x hx=>by have:=(h.wf x hx).1;omega
theorem PgOK.wfI {p:List Nd} (h:PgOK p):wfI p:=fun x hx=>(h.wf x hx).2
theorem SyD.wfN' {B:Nat} {p:List Nd} (h:SyD B p):Go.Proofs.YtegjgpldfgjoiaaGreatDoor.wfN p:=fun x hx=>by have:=(h.wf x hx).1;omega
theorem SyD.wfI' {B:Nat} {p:List Nd} (h:SyD B p):Go.Proofs.YtegjgpldfgjoiaaGreatDoor.wfI p:=fun x hx=>(h.wf x hx).2
theorem ED (l1:List Int) (h1:l1.length<=20000000000000) (l2:List Int) (h2:l2.length<=20000000000000):FC Tryz.prog 5 [.s (chF l1),.s (chF l2)] 0 [] (bV true) 0 []:=by
 obtain⟨p1,k1,g1⟩:=gI l1 h1;obtain⟨p2,k2,g2⟩:=xK l2 h2;exact EE l1 l2 p1 p2 k1.wfN k1.wfI k2.wfN' k2.wfI' g1 g2
end Go.Proofs.YtegjgpldfgjoiaaGreatDoor
