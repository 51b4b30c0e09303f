import Derived.Test.YtbokilgdefkmiaaGreatDoorCzB18
import Derived.Test.YtbokilgdefkmiaaGreatDoorCzB22
import Derived.Test.YtbokilgdefkmiaaGreatDoorCzB14
set_option linter.unusedSimpArgs false
set_option linter.unusedVariables false
namespace Go.Proofs.YtbokilgdefkmiaaGreatDoor
namespace Ab
open Go
structure Hold (p:Prop):Prop where
 k:p
end Ab
end Go.Proofs.YtbokilgdefkmiaaGreatDoor
namespace Go.Proofs.YtbokilgdefkmiaaGreatDoor
open Go Ab
set_option maxRecDepth 100000
set_option maxHeartbeats 4000000
structure SyD (B:Nat) (D:List Nd):Prop where
 len:D.length≤B
 wf:∀ x∈D,x.str.length≤1000∧0≤x.int
 nm:∃ k,k<D.length∧(D.getD k dN).op=3
theorem SyD.app {B C:Nat} {D r:List Nd} (h:SyD B D) (o:OKr C r):SyD (B+C) (D++r):=by
 refine⟨by rw[List.length_append];exact Nat.add_le_add h.len o.len,fun x hx=>?_,?_⟩
 ·rcases List.mem_append.1 hx with q|q
  ·exact h.wf x q
  ·exact o.wf x q
 ·obtain⟨k,h1,h2⟩:=h.nm
  refine⟨k,by rw[List.length_append];omega,?_⟩;rw[List.getD_eq_getElem?_getD,List.getElem?_append_left h1,←List.getD_eq_getElem?_getD];exact h2
theorem nd_pure {a:Nd} {j:Nat} {x:S} (h:(ndC a)[j]? =some x):pureS x=true:=by
 rcases j with _|_|_|_|j
 ·cases h;rfl
 ·cases h;rfl
 ·cases h;rfl
 ·cases h;rfl
 ·simp[ndC] at h
theorem region_x (l:List Int) (hl:l.length≤20000000000000) (i:Nat) (hi:i≤l.length) (s:By) (hs:s.length≤1000):
 ∃ (yy0 yy1 yy2 yy3 yy4:Nd) (i':Nat),yy1.op=3∧OKr 5 [yy0,yy1,yy2,yy3,yy4]∧i'≤l.length∧FC Tryz.prog 23 [cP,sV s] 1 (chL l i) (nodes [yy0,yy1,yy2,yy3,yy4]) 1 (chL l i'):=by
 obtain⟨k,i1,hk,hi1,c1⟩:=next_c l hl 3 (by decide) (by decide) i hi;obtain⟨m,i2,hm2,hi2,c2⟩:=next_c l hl 4 (by decide) (by decide) i1 hi1;obtain⟨q,i3,hq,hi3,c3⟩:=next_c l hl 32 (by decide) (by decide) i2 hi2
 obtain⟨sp,hsp0,hsp⟩:∃ sp:Int,0≤sp∧sp=(if k=0 then 0 else if k=1 then 1 else 3):=⟨_,by split<;>(try split)<;>decide,rfl⟩
 have d1:=nameOf_c s;have d2:=int_c sp;have d3:=int_c (8*m);have d4:=int_c (16+q)
 have o:∀ x∈[tree 3 0 s [],tree 1 sp [] [],tree 1 (8*m) [] [],tree 1 (16+q) [] []],OKr 1 x:=by
  simp[OKr.leaf (op:=3) (n:=0) (s:=s) (by decide) hs,OKr.leaf (op:=1) (s:=[]) hsp0 (by simp),OKr.leaf (op:=1) (n:=8*(m:Int)) (s:=[]) (by omega) (by simp),OKr.leaf (op:=1) (n:=16+(q:Int)) (s:=[]) (by omega) (by simp)]
 have dn:=node_n 15 _ o (by simp) (by simp);have hO:=OKr.tree (op:=15) (n:=0) (s:=[]) (C:=5) o (by decide) (by simp) (by simp);refine⟨⟨15,0,[],4⟩,⟨3,0,s,0⟩,⟨1,sp,[],0⟩,⟨1,8*m,[],0⟩,⟨1,16+q,[],0⟩,i3,rfl,hO,hi3,?_⟩;change FC _ _ _ _ _ (nodes (tree 15 0 [] [tree 3 0 s [],tree 1 sp [] [],tree 1 (8*m) [] [],tree 1 (16+q) [] []])) _ _;clear hO o;generalize tree 15 0 [] [tree 3 0 s [],tree 1 sp [] [],tree 1 (8*m) [] [],tree 1 (16+q) [] []]=r at*;generalize tree 3 0 s []=r1 at*;generalize tree 1 sp [] []=r2 at*;generalize tree 1 (8*m) [] []=r3 at*;generalize tree 1 (16+q) [] []=r4 at*;unfold kidF at dn
 rcases (by omega:k=0∨k=1∨k=2) with rfl|rfl|rfl
 all_goals
  subst hsp;refine FC.walk (by kernel_rfl) Tryz.func23 rfl rfl ?_
  repeat'(first|exact y0|refine y1 ?_|refine y2 ?_ ?_|(refine y8 ?_ ?_<;>intro h<;>try exact y6)|(refine wC ?_;first|refine wF 28 (cm c1 ?_)|refine wF 28 (cm c2 ?_)|refine wF 28 (cm c3 ?_)|refine wF 26 (pu d1 ?_)|refine wF 27 (pu d2 ?_)|refine wF 27 (pu d3 ?_)|refine wF 27 (pu d4 ?_)|(refine wF 25 ?_;refine CallG.pz 25 (fun k=>[nS ([r1,r2,r3,r4].getD k [])]) 1 dn rfl rfl rfl rfl (fun _ _=>rfl) (fun k j x hk hx=>kid_cell (K:=[r1,r2,r3,r4]) hk hx) rfl ⟨VLe.refl _,VLe.refl _,trivial⟩ rfl rfl rfl ?_))|refine y3 ?_|refine y7 ?_ ?_|refine y4 ?_|(refine y9 ?_ ?_<;>intro h)|exact y5|fail)
  all_goals first
   |exact⟨.inl rfl,_,[],VLe.refl _,EndOK.by rfl ⟨rfl,trivial⟩ rfl rfl rfl rfl⟩
   |omega
   |exact u64_in (by omega) (by omega)
   |exact i64_in (by omega) (by omega)
theorem system_e (l:List Int) (hl:l.length≤20000000000000):∃ p,SyD 2000000000 p∧FC Tryz.prog 10 [.s (chF l)] 0 [] (nodes p) 0 []:=by
 have hnew:=new_c l
 have hsz:(Tryz.prog.types[31]).size=4:=by kernel_rfl
 have hby:(Tryz.prog.types[31]).bytes=40:=by kernel_rfl
 obtain⟨yy0,yy1,yy2,yy3,yy4,i1,hy1,o1,hi1,c1⟩:=region_x l hl 0 (Nat.zero_le _) [82,49] (by decide)
 obtain⟨w,hw,hwd⟩:∃ w:Nat,(w=0∨w=2)∧w=(if yy2.int=3 then 0 else 2):=⟨_,by split<;>simp,rfl⟩
 obtain⟨r2,i2,o2,hi2,c2⟩:=fields_e l hl [[70,49],[70,50]] (by decide) (by decide) false w hw i1 hi1;obtain⟨r3,i3,o3,hi3,c3⟩:=fields_e l hl [[70,51]] (by decide) (by decide) true 2 (.inr rfl) i2 hi2;unfold strsF at c2 c3;obtain⟨m4,i4,hm4,hi4,c4⟩:=next_c l hl 4 (by decide) (by decide) i3 hi3;obtain⟨a1,p1,d1⟩:=name_e [77,84,88] (by decide);obtain⟨a2,p2,d2⟩:=int_e m4 (by omega);obtain⟨r4,o4,n4⟩:=node_e 20 [a1,a2] (B:=1) 3 (by simp[p1,p2]) (by simp) (by simp) (by simp);obtain⟨a3,p3,d3⟩:=name_e [69,86,84] (by decide);obtain⟨r5,o5,n5⟩:=node_e 21 [a3] (B:=1) 3 (by simp[p3]) (by simp) (by simp) (by simp);obtain⟨a4,p4,d4⟩:=name_e [65] (by decide);obtain⟨a5,i5,p5,hi5,c5⟩:=data_e l hl 2 (by decide) i4 hi4;obtain⟨r6,o6,n6⟩:=node_e 13 [a4,a5] (B:=1000) 2001 (by simp[p4.le (show 1≤1000 by decide),p5.le (show 10^(2+1)≤1000 by decide)]) (by simp) (by simp) (by simp);obtain⟨a6,p6,d6⟩:=name_e [66] (by decide);obtain⟨x7,i6,hx7,hi6,c6⟩:=number_c l hl i5 hi5;obtain⟨a7,p7,d7⟩:=int_e x7 hx7;obtain⟨r7,o7,n7⟩:=node_e 13 [a6,a7] (B:=1) 3 (by simp[p6,p7]) (by simp) (by simp) (by simp);obtain⟨a8,p8,d8⟩:=name_e [67] (by decide);obtain⟨a9,p9,d9⟩:=int_e 3 (by decide);obtain⟨b1,q1,e1⟩:=int_e 1 (by decide);obtain⟨b2,i7,q2,hi7,c7⟩:=data_e l hl 1 (by decide) i6 hi6;obtain⟨b3,q3,f3⟩:=node_e 4 [b1,b2] (B:=1000) 2001 (by simp[q1.le (show 1≤1000 by decide),q2.le (show 10^(1+1)≤1000 by decide)]) (by simp) (by simp) (by simp);obtain⟨b4,q4,f4⟩:=node_e 51 [a9,b3] (B:=3000) 6001 (by simp[p9.le (show 1≤3000 by decide),q3.le (show 2001≤3000 by decide)]) (by simp) (by simp) (by simp);obtain⟨r8,o8,n8⟩:=node_e 13 [a8,b4] (B:=7000) 14001 (by simp[p8.le (show 1≤7000 by decide),q4.le (show 6001≤7000 by decide)]) (by simp) (by simp) (by simp);obtain⟨m9,i8,hm9,hi8,c8⟩:=next_c l hl 16 (by decide) (by decide) i7 hi7;obtain⟨b5,q5,e5⟩:=name_e [68,69,86,48] (by decide);obtain⟨b6,q6,e6⟩:=name_e [95,83,84,65] (by decide);obtain⟨b7,q7,e7'⟩:=int_e m9 (by omega);obtain⟨b8,q8,f8⟩:=node_e 13 [b6,b7] (B:=1) 3 (by simp[q6,q7]) (by simp) (by simp) (by simp);obtain⟨b9,q9,f9⟩:=node_e 4 [b8] (B:=3) 4 (by simp[q8]) (by simp) (by simp) (by simp);obtain⟨r9,o9,n9⟩:=node_e 11 [b5,b9] (B:=4) 9 (by simp[q5.le (show 1≤4 by decide),q9]) (by simp) (by simp) (by simp);obtain⟨r10,i9,o10,hi9,c9⟩:=method_e l hl [77] (by decide) 2 (by decide) (by decide) i8 hi8;obtain⟨r11,i10,o11,hi10,c10⟩:=method_e l hl [78] (by decide) 3 (by decide) (by decide) i9 hi9;unfold kidF at n4 n5 n6 n7 n8 n9 f3 f4 f8 f9
 have h0:SyD 5 [yy0,yy1,yy2,yy3,yy4]:=⟨o1.len,o1.wf,1,by simp,hy1⟩
 obtain⟨D1,hD1,h1⟩:∃ D,D=[yy0,yy1,yy2,yy3,yy4]++r2∧SyD 105 D:=⟨_,rfl,h0.app o2⟩
 have hl1:=h1.len
 obtain⟨D2,hD2,h2⟩:∃ D,D=D1++r3∧SyD 205 D:=⟨_,rfl,h1.app o3⟩
 have hl2:=h2.len
 obtain⟨D3,hD3,h3⟩:∃ D,D=D2++r4∧SyD 208 D:=⟨_,rfl,h2.app o4⟩
 have hl3:=h3.len
 obtain⟨D4,hD4,h4⟩:∃ D,D=D3++r5∧SyD 211 D:=⟨_,rfl,h3.app o5⟩
 have hl4:=h4.len
 obtain⟨D5,hD5,h5⟩:∃ D,D=D4++r6∧SyD 2212 D:=⟨_,rfl,h4.app o6⟩
 have hl5:=h5.len
 obtain⟨D6,hD6,h6⟩:∃ D,D=D5++r7∧SyD 2215 D:=⟨_,rfl,h5.app o7⟩
 have hl6:=h6.len
 obtain⟨D7,hD7,h7⟩:∃ D,D=D6++r8∧SyD 16216 D:=⟨_,rfl,h6.app o8⟩
 have hl7:=h7.len
 obtain⟨D8,hD8,h8⟩:∃ D,D=D7++r9∧SyD 16225 D:=⟨_,rfl,h7.app o9⟩
 have hl8:=h8.len
 obtain⟨D9,hD9,h9⟩:∃ D,D=D8++r10∧SyD 300016225 D:=⟨_,rfl,h8.app o10⟩
 have hl9:=h9.len
 obtain⟨D10,hD10,h10⟩:∃ D,D=D9++r11∧SyD 600016225 D:=⟨_,rfl,h9.app o11⟩
 have hl10:=h10.len;refine⟨D10,⟨by omega,h10.wf,h10.nm⟩,?_⟩;clear h0 h1 h2 h3 h4 h5 h6 h7 h8 h9 h10 p1 p2 p3 p4 p5 p6 p7 p8 p9 q1 q2 q3 q4 q5 q6 q7 q8 q9 hi1 hi2 hi3 hi4 hi5 hi6 hi7 hi8 hi9 hi10 hy1;have le2:1≤r2.length:=List.length_pos_iff.2 o2.ne;have g2:=o2.len;have ne2:=o2.ne;have le3:1≤r3.length:=List.length_pos_iff.2 o3.ne;have g3:=o3.len;have ne3:=o3.ne;have le4:1≤r4.length:=List.length_pos_iff.2 o4.ne;have g4:=o4.len;have ne4:=o4.ne;have le5:1≤r5.length:=List.length_pos_iff.2 o5.ne;have g5:=o5.len;have ne5:=o5.ne;have le6:1≤r6.length:=List.length_pos_iff.2 o6.ne;have g6:=o6.len;have ne6:=o6.ne;have le7:1≤r7.length:=List.length_pos_iff.2 o7.ne;have g7:=o7.len;have ne7:=o7.ne;have le8:1≤r8.length:=List.length_pos_iff.2 o8.ne;have g8:=o8.len;have ne8:=o8.ne;have le9:1≤r9.length:=List.length_pos_iff.2 o9.ne;have g9:=o9.len;have ne9:=o9.ne;have le10:1≤r10.length:=List.length_pos_iff.2 o10.ne;have g10:=o10.len;have ne10:=o10.ne;have le11:1≤r11.length:=List.length_pos_iff.2 o11.ne;have g11:=o11.len;have ne11:=o11.ne;clear o1 o2 o3 o4 o5 o6 o7 o8 o9 o10 o11;refine FC.walk (by kernel_rfl) Tryz.func10 rfl rfl ?_
 repeat'(first|refine Ex.set 4 (.s (.row 1 2 0)) (VLe.s SLe.nilrow) rfl (Ex.upN (n':=3) (by decide) ?_)|exact y0|refine y1 ?_|refine y2 ?_ ?_|(refine y8 ?_ ?_<;>intro h<;>try exact y6)|(refine wC ?_;first|(refine wF 22 ?_;refine CallG.me [] hnew rfl rfl ⟨VLe.refl _,trivial⟩ trivial rfl rfl rfl ?_)|refine wF 23 (cm c1 ?_))|refine y3 ?_|refine y7 ?_ ?_|refine y4 ?_|(refine y9 ?_ ?_<;>intro h)|exact y5|fail)
 refine RegX.apr (i:=1) (g:=2) (m:=0) (w:=4) (cs:=[]) (foot:=[]) (k:=5) (add:=[yy0,yy1,yy2,yy3,yy4].flatMap ndC) rfl rfl rfl rfl rfl rfl rfl rfl rfl rfl hsz (by decide) rfl ?_ (by decide) (by simp[ndC]) rfl (by rw[hby];omega) (by omega) rfl ?_
 ·trivial
 repeat'(first|refine Ex.canon [0,3,4] 93 [(3,cP),(4,.s (.sla 1 2 5))] [(0,some {cells:=[chF l,.int .i64 (i1:Int)],ty:=93}),(1,ndB 1 [yy0,yy1,yy2,yy3,yy4])] rfl rfl ⟨VLe.refl _,VLe.s (SLe.rowsla (by decide)),trivial⟩ ⟨rfl,rfl,trivial⟩ rfl ?_|refine Ex.cutS 5 93 3 [(3,cP),(4,.s (.row 1 2 [yy0,yy1,yy2,yy3,yy4].length)),(5,nI w)] [(0,some {cells:=[chF l,.int .i64 (i1:Int)],ty:=93}),(1,ndB 1 [yy0,yy1,yy2,yy3,yy4])] rfl (Hold.k ?_) (Hold.k ?_)|exact y0|refine y1 ?_|refine y2 ?_ ?_|(refine y8 ?_ ?_<;>intro h<;>try exact y6)|refine y3 ?_|refine y7 ?_ ?_|refine y4 ?_|(refine y9 ?_ ?_<;>intro h)|exact y5|fail)
 ·refine⟨?_⟩
  by_cases hy:yy2.int=3
  ·rw[if_pos hy] at hwd
   subst hwd
   repeat'(first|exact y0|refine y1 ?_|refine y2 ?_ ?_|(refine y8 ?_ ?_<;>intro h<;>try exact y6)|refine RegX.ldS [.val (.s (.int .u64 yy2.int))] rfl rfl ?_ rfl ?_|refine y3 ?_|refine y7 ?_ ?_|refine y4 ?_|(refine y9 ?_ ?_<;>intro h)|exact y5|fail)
   all_goals try first|omega|rfl
   all_goals refine CutR.at [0,1,2] rfl rfl ⟨VLe.refl _,VLe.s (SLe.slarow (by decide)),VLe.refl _,trivial⟩ ⟨rfl,rfl,trivial⟩ rfl
  ·rw[if_neg hy] at hwd
   subst hwd
   repeat'(first|exact y0|refine y1 ?_|refine y2 ?_ ?_|(refine y8 ?_ ?_<;>intro h<;>try exact y6)|refine RegX.ldS [.val (.s (.int .u64 yy2.int))] rfl rfl ?_ rfl ?_|refine y3 ?_|refine y7 ?_ ?_|refine y4 ?_|(refine y9 ?_ ?_<;>intro h)|exact y5|fail)
   all_goals try first|omega|rfl
   all_goals refine CutR.at [0,1,2] rfl rfl ⟨VLe.refl _,VLe.s (SLe.slarow (by decide)),VLe.refl _,trivial⟩ ⟨rfl,rfl,trivial⟩ rfl
 refine⟨?_⟩
 obtain⟨D0,hD0⟩:∃ D,D=[yy0,yy1,yy2,yy3,yy4]:=⟨_,rfl⟩
 have hl0:D0.length≤5:=by rw[hD0];simp
 rw[←hD0] at hD1 ⊢;clear hD0
 repeat'(first|exact y0|refine y1 ?_|refine y2 ?_ ?_|(refine y8 ?_ ?_<;>intro h<;>try exact y6)|(refine wC ?_;first|(refine wF 24 ?_;refine CallG.mz 1 S.str [] [[70,49],[70,50]] (fun _ _=>rfl) [0] c2 rfl rfl rfl rfl rfl rfl rfl rfl rfl ⟨VLe.refl _,VLe.refl _,VLe.refl _,VLe.refl _,trivial⟩ ⟨⟨rfl,_,rfl,rfl,fun h=>h⟩,trivial⟩ rfl rfl rfl ?_))|exact u64_in (by omega) (by omega)|exact i64_in (by omega) (by omega)|refine y3 ?_|refine y7 ?_ ?_|refine y4 ?_|(refine y9 ?_ ?_<;>intro h)|exact y5|fail)
 refine RegX.apr (i:=1) (g:=2) (m:=D0.length) (w:=4) (cs:=D0.flatMap ndC) (foot:=[]) (k:=r2.length) (add:=flatG (fun k=>ndC (r2.getD k dN)) r2.length) rfl rfl (by rw[nd_len]) rfl rfl rfl rfl rfl rfl rfl hsz (by decide) rfl ?_ le2 (by rw[nd_flat];exact nd_ne ne2) (by rw[nd_flat];exact nd_np _) (by rw[hby];omega) (by omega) rfl ?_
 ·trivial
 repeat'(first|refine Ex.canon [0,4,5] 93 [(3,cP),(4,.s (.row 1 2 D1.length))] [(0,some {cells:=[chF l,.int .i64 (i2:Int)],ty:=93}),(1,ndB 1 D1)] rfl rfl ?_ ?_ ?_ (Hold.k ?_)|exact y0|refine y1 ?_|refine y2 ?_ ?_|(refine y8 ?_ ?_<;>intro h<;>try exact y6)|refine y3 ?_|refine y7 ?_ ?_|refine y4 ?_|(refine y9 ?_ ?_<;>intro h)|exact y5|fail)
 ·rw[hD1]
  repeat' (first|exact VLe.refl _|exact VLe.any _|exact True.intro|(refine VLe.of_eq (congrArg V.s (?_:S.row 4 5 _=S.row 4 5 _));simp;done)|refine⟨?_,?_⟩)
 ·rw[hD1]
  refine⟨rfl,MemP.op ?_ trivial⟩;rw[List.flatMap_append,←nd_flat r2];rfl
 ·unfold ndB;generalize List.flatMap _ _=cg;cases cg<;>rfl
 refine⟨?_⟩
 repeat'(first|exact y0|refine y1 ?_|refine y2 ?_ ?_|(refine y8 ?_ ?_<;>intro h<;>try exact y6)|(refine wC ?_;first|(refine wF 24 ?_;refine CallG.mz 1 S.str [] [[70,51]] (fun _ _=>rfl) [0] c3 rfl rfl rfl rfl rfl rfl rfl rfl rfl ⟨VLe.refl _,VLe.refl _,VLe.refl _,VLe.refl _,trivial⟩ ⟨⟨rfl,_,rfl,rfl,fun h=>h⟩,trivial⟩ rfl rfl rfl ?_))|exact u64_in (by omega) (by omega)|exact i64_in (by omega) (by omega)|refine y3 ?_|refine y7 ?_ ?_|refine y4 ?_|(refine y9 ?_ ?_<;>intro h)|exact y5|fail)
 refine RegX.apr (i:=1) (g:=2) (m:=D1.length) (w:=4) (cs:=D1.flatMap ndC) (foot:=[]) (k:=r3.length) (add:=flatG (fun k=>ndC (r3.getD k dN)) r3.length) rfl rfl (by rw[nd_len]) rfl rfl rfl rfl rfl rfl rfl hsz (by decide) rfl ?_ le3 (by rw[nd_flat];exact nd_ne ne3) (by rw[nd_flat];exact nd_np _) (by rw[hby];omega) (by omega) rfl ?_
 ·trivial
 repeat'(first|refine Ex.canon [0,4,5] 93 [(3,cP),(4,.s (.row 1 2 D2.length))] [(0,some {cells:=[chF l,.int .i64 (i3:Int)],ty:=93}),(1,ndB 1 D2)] rfl rfl ?_ ?_ ?_ (Hold.k ?_)|exact y0|refine y1 ?_|refine y2 ?_ ?_|(refine y8 ?_ ?_<;>intro h<;>try exact y6)|refine y3 ?_|refine y7 ?_ ?_|refine y4 ?_|(refine y9 ?_ ?_<;>intro h)|exact y5|fail)
 ·rw[hD2]
  repeat' (first|exact VLe.refl _|exact VLe.any _|exact True.intro|(refine VLe.of_eq (congrArg V.s (?_:S.row 4 5 _=S.row 4 5 _));simp;done)|refine⟨?_,?_⟩)
 ·rw[hD2]
  refine⟨rfl,MemP.op ?_ trivial⟩;rw[List.flatMap_append,←nd_flat r3];rfl
 ·unfold ndB;generalize List.flatMap _ _=cg;cases cg<;>rfl
 refine⟨?_⟩
 repeat'(first|exact y0|refine y1 ?_|refine y2 ?_ ?_|(refine y8 ?_ ?_<;>intro h<;>try exact y6)|(refine wC ?_;first|refine wF 28 (cm c4 ?_)|refine wF 26 (pu d1 ?_)|refine wF 27 (pu d2 ?_)|(refine wF 25 ?_;refine CallG.pl nS [] [a1,a2] (fun _ _=>rfl) n4 rfl rfl rfl rfl rfl (by first|rfl|simp) (by first|rfl|simp|(rw[List.map_append];rfl)) rfl ⟨VLe.refl _,VLe.refl _,trivial⟩ rfl rfl rfl ?_))|exact u64_in (by omega) (by omega)|exact i64_in (by omega) (by omega)|refine y3 ?_|refine y7 ?_ ?_|refine y4 ?_|(refine y9 ?_ ?_<;>intro h)|exact y5|fail)
 refine RegX.apr (i:=1) (g:=2) (m:=D2.length) (w:=4) (cs:=D2.flatMap ndC) (foot:=[]) (k:=r4.length) (add:=flatG (fun k=>ndC (r4.getD k dN)) r4.length) rfl rfl (by rw[nd_len]) rfl rfl rfl rfl rfl rfl rfl hsz (by decide) rfl ?_ le4 (by rw[nd_flat];exact nd_ne ne4) (by rw[nd_flat];exact nd_np _) (by rw[hby];omega) (by omega) rfl ?_
 ·trivial
 repeat'(first|refine Ex.canon [0,4,5] 93 [(3,cP),(4,.s (.row 1 2 D3.length))] [(0,some {cells:=[chF l,.int .i64 (i4:Int)],ty:=93}),(1,ndB 1 D3)] rfl rfl ?_ ?_ ?_ (Hold.k ?_)|exact y0|refine y1 ?_|refine y2 ?_ ?_|(refine y8 ?_ ?_<;>intro h<;>try exact y6)|refine y3 ?_|refine y7 ?_ ?_|refine y4 ?_|(refine y9 ?_ ?_<;>intro h)|exact y5|fail)
 ·rw[hD3]
  repeat' (first|exact VLe.refl _|exact VLe.any _|exact True.intro|(refine VLe.of_eq (congrArg V.s (?_:S.row 4 5 _=S.row 4 5 _));simp;done)|refine⟨?_,?_⟩)
 ·rw[hD3]
  refine⟨rfl,MemP.op ?_ trivial⟩;rw[List.flatMap_append,←nd_flat r4];rfl
 ·unfold ndB;generalize List.flatMap _ _=cg;cases cg<;>rfl
 refine⟨?_⟩
 repeat'(first|exact y0|refine y1 ?_|refine y2 ?_ ?_|(refine y8 ?_ ?_<;>intro h<;>try exact y6)|(refine wC ?_;first|refine wF 26 (pu d3 ?_)|(refine wF 25 ?_;refine CallG.pl nS [] [a3] (fun _ _=>rfl) n5 rfl rfl rfl rfl rfl (by first|rfl|simp) (by first|rfl|simp|(rw[List.map_append];rfl)) rfl ⟨VLe.refl _,VLe.refl _,trivial⟩ rfl rfl rfl ?_))|exact u64_in (by omega) (by omega)|exact i64_in (by omega) (by omega)|refine y3 ?_|refine y7 ?_ ?_|refine y4 ?_|(refine y9 ?_ ?_<;>intro h)|exact y5|fail)
 refine RegX.apr (i:=1) (g:=2) (m:=D3.length) (w:=4) (cs:=D3.flatMap ndC) (foot:=[]) (k:=r5.length) (add:=flatG (fun k=>ndC (r5.getD k dN)) r5.length) rfl rfl (by rw[nd_len]) rfl rfl rfl rfl rfl rfl rfl hsz (by decide) rfl ?_ le5 (by rw[nd_flat];exact nd_ne ne5) (by rw[nd_flat];exact nd_np _) (by rw[hby];omega) (by omega) rfl ?_
 ·trivial
 repeat'(first|refine Ex.canon [0,4,5] 93 [(3,cP),(4,.s (.row 1 2 D4.length))] [(0,some {cells:=[chF l,.int .i64 (i4:Int)],ty:=93}),(1,ndB 1 D4)] rfl rfl ?_ ?_ ?_ (Hold.k ?_)|exact y0|refine y1 ?_|refine y2 ?_ ?_|(refine y8 ?_ ?_<;>intro h<;>try exact y6)|refine y3 ?_|refine y7 ?_ ?_|refine y4 ?_|(refine y9 ?_ ?_<;>intro h)|exact y5|fail)
 ·rw[hD4]
  repeat' (first|exact VLe.refl _|exact VLe.any _|exact True.intro|(refine VLe.of_eq (congrArg V.s (?_:S.row 4 5 _=S.row 4 5 _));simp;done)|refine⟨?_,?_⟩)
 ·rw[hD4]
  refine⟨rfl,MemP.op ?_ trivial⟩;rw[List.flatMap_append,←nd_flat r5];rfl
 ·unfold ndB;generalize List.flatMap _ _=cg;cases cg<;>rfl
 refine⟨?_⟩
 repeat'(first|exact y0|refine y1 ?_|refine y2 ?_ ?_|(refine y8 ?_ ?_<;>intro h<;>try exact y6)|(refine wC ?_;first|refine wF 26 (pu d4 ?_)|refine wF 29 (cm c5 ?_)|(refine wF 25 ?_;refine CallG.pl nS [] [a4,a5] (fun _ _=>rfl) n6 rfl rfl rfl rfl rfl (by first|rfl|simp) (by first|rfl|simp|(rw[List.map_append];rfl)) rfl ⟨VLe.refl _,VLe.refl _,trivial⟩ rfl rfl rfl ?_))|exact u64_in (by omega) (by omega)|exact i64_in (by omega) (by omega)|refine y3 ?_|refine y7 ?_ ?_|refine y4 ?_|(refine y9 ?_ ?_<;>intro h)|exact y5|fail)
 refine RegX.apr (i:=1) (g:=2) (m:=D4.length) (w:=4) (cs:=D4.flatMap ndC) (foot:=[]) (k:=r6.length) (add:=flatG (fun k=>ndC (r6.getD k dN)) r6.length) rfl rfl (by rw[nd_len]) rfl rfl rfl rfl rfl rfl rfl hsz (by decide) rfl ?_ le6 (by rw[nd_flat];exact nd_ne ne6) (by rw[nd_flat];exact nd_np _) (by rw[hby];omega) (by omega) rfl ?_
 ·trivial
 repeat'(first|refine Ex.canon [0,4,5] 93 [(3,cP),(4,.s (.row 1 2 D5.length))] [(0,some {cells:=[chF l,.int .i64 (i5:Int)],ty:=93}),(1,ndB 1 D5)] rfl rfl ?_ ?_ ?_ (Hold.k ?_)|exact y0|refine y1 ?_|refine y2 ?_ ?_|(refine y8 ?_ ?_<;>intro h<;>try exact y6)|refine y3 ?_|refine y7 ?_ ?_|refine y4 ?_|(refine y9 ?_ ?_<;>intro h)|exact y5|fail)
 ·rw[hD5]
  repeat' (first|exact VLe.refl _|exact VLe.any _|exact True.intro|(refine VLe.of_eq (congrArg V.s (?_:S.row 4 5 _=S.row 4 5 _));simp;done)|refine⟨?_,?_⟩)
 ·rw[hD5]
  refine⟨rfl,MemP.op ?_ trivial⟩;rw[List.flatMap_append,←nd_flat r6];rfl
 ·unfold ndB;generalize List.flatMap _ _=cg;cases cg<;>rfl
 refine⟨?_⟩
 repeat'(first|exact y0|refine y1 ?_|refine y2 ?_ ?_|(refine y8 ?_ ?_<;>intro h<;>try exact y6)|(refine wC ?_;first|refine wF 26 (pu d6 ?_)|refine wF 30 (cm c6 ?_)|refine wF 27 (pu d7 ?_)|(refine wF 25 ?_;refine CallG.pl nS [] [a6,a7] (fun _ _=>rfl) n7 rfl rfl rfl rfl rfl (by first|rfl|simp) (by first|rfl|simp|(rw[List.map_append];rfl)) rfl ⟨VLe.refl _,VLe.refl _,trivial⟩ rfl rfl rfl ?_))|exact u64_in (by omega) (by omega)|exact i64_in (by omega) (by omega)|refine y3 ?_|refine y7 ?_ ?_|refine y4 ?_|(refine y9 ?_ ?_<;>intro h)|exact y5|fail)
 refine RegX.apr (i:=1) (g:=2) (m:=D5.length) (w:=4) (cs:=D5.flatMap ndC) (foot:=[]) (k:=r7.length) (add:=flatG (fun k=>ndC (r7.getD k dN)) r7.length) rfl rfl (by rw[nd_len]) rfl rfl rfl rfl rfl rfl rfl hsz (by decide) rfl ?_ le7 (by rw[nd_flat];exact nd_ne ne7) (by rw[nd_flat];exact nd_np _) (by rw[hby];omega) (by omega) rfl ?_
 ·trivial
 repeat'(first|refine Ex.canon [0,4,5] 93 [(3,cP),(4,.s (.row 1 2 D6.length))] [(0,some {cells:=[chF l,.int .i64 (i6:Int)],ty:=93}),(1,ndB 1 D6)] rfl rfl ?_ ?_ ?_ (Hold.k ?_)|exact y0|refine y1 ?_|refine y2 ?_ ?_|(refine y8 ?_ ?_<;>intro h<;>try exact y6)|refine y3 ?_|refine y7 ?_ ?_|refine y4 ?_|(refine y9 ?_ ?_<;>intro h)|exact y5|fail)
 ·rw[hD6]
  repeat' (first|exact VLe.refl _|exact VLe.any _|exact True.intro|(refine VLe.of_eq (congrArg V.s (?_:S.row 4 5 _=S.row 4 5 _));simp;done)|refine⟨?_,?_⟩)
 ·rw[hD6]
  refine⟨rfl,MemP.op ?_ trivial⟩;rw[List.flatMap_append,←nd_flat r7];rfl
 ·unfold ndB;generalize List.flatMap _ _=cg;cases cg<;>rfl
 refine⟨?_⟩
 repeat'(first|exact y0|refine y1 ?_|refine y2 ?_ ?_|(refine y8 ?_ ?_<;>intro h<;>try exact y6)|(refine wC ?_;first|refine wF 26 (pu d8 ?_)|refine wF 27 (pu d9 ?_)|refine wF 27 (pu e1 ?_)|refine wF 29 (cm c7 ?_)|(refine wF 25 ?_;refine CallG.pl nS [] [b1,b2] (fun _ _=>rfl) f3 rfl rfl rfl rfl rfl (by first|rfl|simp) (by first|rfl|simp|(rw[List.map_append];rfl)) rfl ⟨VLe.refl _,VLe.refl _,trivial⟩ rfl rfl rfl ?_)|(refine wF 25 ?_;refine CallG.pl nS [] [a9,b3] (fun _ _=>rfl) f4 rfl rfl rfl rfl rfl (by first|rfl|simp) (by first|rfl|simp|(rw[List.map_append];rfl)) rfl ⟨VLe.refl _,VLe.refl _,trivial⟩ rfl rfl rfl ?_)|(refine wF 25 ?_;refine CallG.pl nS [] [a8,b4] (fun _ _=>rfl) n8 rfl rfl rfl rfl rfl (by first|rfl|simp) (by first|rfl|simp|(rw[List.map_append];rfl)) rfl ⟨VLe.refl _,VLe.refl _,trivial⟩ rfl rfl rfl ?_))|exact u64_in (by omega) (by omega)|exact i64_in (by omega) (by omega)|refine y3 ?_|refine y7 ?_ ?_|refine y4 ?_|(refine y9 ?_ ?_<;>intro h)|exact y5|fail)
 refine RegX.apr (i:=1) (g:=2) (m:=D6.length) (w:=4) (cs:=D6.flatMap ndC) (foot:=[]) (k:=r8.length) (add:=flatG (fun k=>ndC (r8.getD k dN)) r8.length) rfl rfl (by rw[nd_len]) rfl rfl rfl rfl rfl rfl rfl hsz (by decide) rfl ?_ le8 (by rw[nd_flat];exact nd_ne ne8) (by rw[nd_flat];exact nd_np _) (by rw[hby];omega) (by omega) rfl ?_
 ·trivial
 repeat'(first|refine Ex.canon [0,6,7] 93 [(3,cP),(4,.s (.row 1 2 D7.length))] [(0,some {cells:=[chF l,.int .i64 (i7:Int)],ty:=93}),(1,ndB 1 D7)] rfl rfl ?_ ?_ ?_ (Hold.k ?_)|exact y0|refine y1 ?_|refine y2 ?_ ?_|(refine y8 ?_ ?_<;>intro h<;>try exact y6)|refine y3 ?_|refine y7 ?_ ?_|refine y4 ?_|(refine y9 ?_ ?_<;>intro h)|exact y5|fail)
 ·rw[hD7]
  repeat' (first|exact VLe.refl _|exact VLe.any _|exact True.intro|(refine VLe.of_eq (congrArg V.s (?_:S.row 6 7 _=S.row 6 7 _));simp;done)|refine⟨?_,?_⟩)
 ·rw[hD7]
  refine⟨rfl,MemP.op ?_ trivial⟩;rw[List.flatMap_append,←nd_flat r8];rfl
 ·unfold ndB;generalize List.flatMap _ _=cg;cases cg<;>rfl
 refine⟨?_⟩
 repeat'(first|exact y0|refine y1 ?_|refine y2 ?_ ?_|(refine y8 ?_ ?_<;>intro h<;>try exact y6)|(refine wC ?_;first|refine wF 28 (cm c8 ?_)|refine wF 26 (pu e5 ?_)|refine wF 26 (pu e6 ?_)|refine wF 27 (pu (e7') ?_)|(refine wF 25 ?_;refine CallG.pl nS [] [b6,b7] (fun _ _=>rfl) f8 rfl rfl rfl rfl rfl (by first|rfl|simp) (by first|rfl|simp|(rw[List.map_append];rfl)) rfl ⟨VLe.refl _,VLe.refl _,trivial⟩ rfl rfl rfl ?_)|(refine wF 25 ?_;refine CallG.pl nS [] [b8] (fun _ _=>rfl) f9 rfl rfl rfl rfl rfl (by first|rfl|simp) (by first|rfl|simp|(rw[List.map_append];rfl)) rfl ⟨VLe.refl _,VLe.refl _,trivial⟩ rfl rfl rfl ?_)|(refine wF 25 ?_;refine CallG.pl nS [] [b5,b9] (fun _ _=>rfl) n9 rfl rfl rfl rfl rfl (by first|rfl|simp) (by first|rfl|simp|(rw[List.map_append];rfl)) rfl ⟨VLe.refl _,VLe.refl _,trivial⟩ rfl rfl rfl ?_))|exact u64_in (by omega) (by omega)|exact i64_in (by omega) (by omega)|refine y3 ?_|refine y7 ?_ ?_|refine y4 ?_|(refine y9 ?_ ?_<;>intro h)|exact y5|fail)
 refine RegX.apr (i:=1) (g:=2) (m:=D7.length) (w:=4) (cs:=D7.flatMap ndC) (foot:=[]) (k:=r9.length) (add:=flatG (fun k=>ndC (r9.getD k dN)) r9.length) rfl rfl (by rw[nd_len]) rfl rfl rfl rfl rfl rfl rfl hsz (by decide) rfl ?_ le9 (by rw[nd_flat];exact nd_ne ne9) (by rw[nd_flat];exact nd_np _) (by rw[hby];omega) (by omega) rfl ?_
 ·trivial
 repeat'(first|refine Ex.canon [0,6,7] 93 [(3,cP),(4,.s (.row 1 2 D8.length))] [(0,some {cells:=[chF l,.int .i64 (i8:Int)],ty:=93}),(1,ndB 1 D8)] rfl rfl ?_ ?_ ?_ (Hold.k ?_)|exact y0|refine y1 ?_|refine y2 ?_ ?_|(refine y8 ?_ ?_<;>intro h<;>try exact y6)|refine y3 ?_|refine y7 ?_ ?_|refine y4 ?_|(refine y9 ?_ ?_<;>intro h)|exact y5|fail)
 ·rw[hD8]
  repeat' (first|exact VLe.refl _|exact VLe.any _|exact True.intro|(refine VLe.of_eq (congrArg V.s (?_:S.row 6 7 _=S.row 6 7 _));simp;done)|refine⟨?_,?_⟩)
 ·rw[hD8]
  refine⟨rfl,MemP.op ?_ trivial⟩;rw[List.flatMap_append,←nd_flat r9];rfl
 ·unfold ndB;generalize List.flatMap _ _=cg;cases cg<;>rfl
 refine⟨?_⟩
 repeat'(first|exact y0|refine y1 ?_|refine y2 ?_ ?_|(refine y8 ?_ ?_<;>intro h<;>try exact y6)|(refine wC ?_;first|refine wF 31 (cm c9 ?_))|exact u64_in (by omega) (by omega)|exact i64_in (by omega) (by omega)|refine y3 ?_|refine y7 ?_ ?_|refine y4 ?_|(refine y9 ?_ ?_<;>intro h)|exact y5|fail)
 refine RegX.apr (i:=1) (g:=2) (m:=D8.length) (w:=4) (cs:=D8.flatMap ndC) (foot:=[]) (k:=r10.length) (add:=flatG (fun k=>ndC (r10.getD k dN)) r10.length) rfl rfl (by rw[nd_len]) rfl rfl rfl rfl rfl rfl rfl hsz (by decide) rfl ?_ le10 (by rw[nd_flat];exact nd_ne ne10) (by rw[nd_flat];exact nd_np _) (by rw[hby];omega) (by omega) rfl ?_
 ·trivial
 repeat'(first|refine Ex.canon [0,3,4] 93 [(3,cP),(4,.s (.row 1 2 D9.length))] [(0,some {cells:=[chF l,.int .i64 (i9:Int)],ty:=93}),(1,ndB 1 D9)] rfl rfl ?_ ?_ ?_ (Hold.k ?_)|exact y0|refine y1 ?_|refine y2 ?_ ?_|(refine y8 ?_ ?_<;>intro h<;>try exact y6)|refine y3 ?_|refine y7 ?_ ?_|refine y4 ?_|(refine y9 ?_ ?_<;>intro h)|exact y5|fail)
 ·rw[hD9]
  repeat' (first|exact VLe.refl _|exact VLe.any _|exact True.intro|(refine VLe.of_eq (congrArg V.s (?_:S.row 3 4 _=S.row 3 4 _));simp;done)|refine⟨?_,?_⟩)
 ·rw[hD9]
  refine⟨rfl,MemP.op ?_ trivial⟩;rw[List.flatMap_append,←nd_flat r10];rfl
 ·unfold ndB;generalize List.flatMap _ _=cg;cases cg<;>rfl
 refine⟨?_⟩
 repeat'(first|exact y0|refine y1 ?_|refine y2 ?_ ?_|(refine y8 ?_ ?_<;>intro h<;>try exact y6)|(refine wC ?_;first|refine wF 31 (cm c10 ?_))|exact u64_in (by omega) (by omega)|exact i64_in (by omega) (by omega)|refine y3 ?_|refine y7 ?_ ?_|refine y4 ?_|(refine y9 ?_ ?_<;>intro h)|exact y5|fail)
 refine RegX.apr (i:=1) (g:=2) (m:=D9.length) (w:=4) (cs:=D9.flatMap ndC) (foot:=[]) (k:=r11.length) (add:=flatG (fun k=>ndC (r11.getD k dN)) r11.length) rfl rfl (by rw[nd_len]) rfl rfl rfl rfl rfl rfl rfl hsz (by decide) rfl ?_ le11 (by rw[nd_flat];exact nd_ne ne11) (by rw[nd_flat];exact nd_np _) (by rw[hby];omega) (by omega) rfl ?_
 ·trivial
 repeat'(first|refine Ex.canon [0,3,4] 93 [(3,cP),(4,.s (.row 1 2 D10.length))] [(0,some {cells:=[chF l,.int .i64 (i10:Int)],ty:=93}),(1,ndB 1 D10)] rfl rfl ?_ ?_ ?_ (Hold.k ?_)|exact y0|refine y1 ?_|refine y2 ?_ ?_|(refine y8 ?_ ?_<;>intro h<;>try exact y6)|refine y3 ?_|refine y7 ?_ ?_|refine y4 ?_|(refine y9 ?_ ?_<;>intro h)|exact y5|fail)
 ·rw[hD10]
  repeat' (first|exact VLe.refl _|exact VLe.any _|exact True.intro|(refine VLe.of_eq (congrArg V.s (?_:S.row 3 4 _=S.row 3 4 _));simp;done)|refine⟨?_,?_⟩)
 ·rw[hD10]
  refine⟨rfl,MemP.op ?_ trivial⟩;rw[List.flatMap_append,←nd_flat r11];rfl
 ·unfold ndB;generalize List.flatMap _ _=cg;cases cg<;>rfl
 refine⟨?_⟩
 repeat'(first|exact y0|refine y1 ?_|refine y2 ?_ ?_|(refine y8 ?_ ?_<;>intro h<;>try exact y6)|refine Ex.fzR 2 ndC 4 dN D10 rfl rfl (fun _=>rfl) (fun a j x h=>nd_pure h) (by decide) rfl rfl ?_|refine Fin.le (.inl rfl) rfl (VLe.refl _) rfl|refine y3 ?_|refine y7 ?_ ?_|refine y4 ?_|(refine y9 ?_ ?_<;>intro h)|exact y5|fail)
set_option maxRecDepth 100000
set_option maxHeartbeats 1000000
def dgC (x:Nat×Nat):List S:=[.int .i64 (x.1:Int),.int .i64 (x.2:Int)]
structure Dc where
 path:By
 op:Int
 node:Nat
def dcC (x:Dc):List S:=[.str x.path,.int .i64 x.op,.int .i64 (x.node:Int)]
abbrev anB (p:List Nd) (d nD g nG:Nat):Bl:=
 {cells:=[.frz (fun k=>ndC (p.getD k dN)) 4 p.length,.slc (some (1,0)) p.length (some p.length),.row d (d+1) nD,.map (some 5),.row g (g+1) nG],ty:=109}
abbrev dgB (g:Nat) (G:List (Nat×Nat)):Option Bl:=opB 67 (g+1) 2 (G.flatMap dgC)
abbrev dcB (d:Nat) (D:List Dc):Option Bl:=opB 195 (d+1) 3 (D.flatMap dcC)
theorem dg_len:∀ G:List (Nat×Nat),(G.flatMap dgC).length=G.length*2
 |[]=>rfl
 |x::G=>by rw[List.flatMap_cons,List.length_append,dg_len G];simp only[List.length_cons];simp[dgC];omega
theorem dc_len:∀ D:List Dc,(D.flatMap dcC).length=D.length*3
 |[]=>rfl
 |x::D=>by rw[List.flatMap_cons,List.length_append,dc_len D];simp only[List.length_cons];simp[dcC];omega
theorem dg_push (G:List (Nat×Nat)) (x:Nat×Nat):(G++[x]).flatMap dgC=G.flatMap dgC++dgC x:=by rw[List.flatMap_append];simp
theorem dc_push (D:List Dc) (x:Dc):(D++[x]).flatMap dcC=D.flatMap dcC++dcC x:=by rw[List.flatMap_append];simp
theorem report_c (p:List Nd) (nD:Nat) (G:List (Nat×Nat)) (i c:Nat) (hG:G.length≤1000000000000):
 FC Tryz.prog 58 [.s (.ptr (some (0,0))),nI i,nI c] 8 [(0,some (anB p 3 nD 6 G.length)),(6,dgB 6 G)] .any 10 [(0,some (anB p 3 nD 8 (G.length+1))),(6,none),(8,dgB 8 (G++[(i,c)]))]:=by
 have hsz:(Tryz.prog.types[67]).size=2:=by kernel_rfl
 have hby:(Tryz.prog.types[67]).bytes=16:=by kernel_rfl
 rw[dgB,dgB,dg_push];refine FC.walk (by kernel_rfl) Tryz.func58 rfl rfl ?_
 repeat'(first|exact y0|refine y1 ?_|refine y2 ?_ ?_|(refine y8 ?_ ?_<;>intro h<;>try exact y6)|refine y3 ?_|refine y7 ?_ ?_|refine y4 ?_|(refine y9 ?_ ?_<;>intro h)|exact y5|fail)
 ·refine RegX.apr (i:=6) (g:=7) (m:=G.length) (w:=2) (cs:=G.flatMap dgC) (foot:=[8]) (k:=1) (add:=dgC (i,c)) rfl rfl (dg_len G) rfl rfl rfl rfl rfl rfl rfl hsz (by decide) rfl ⟨Nat.le_refl _,rfl⟩ (by decide) (by simp[dgC]) rfl ?_ (by omega) rfl ?_
  ·rw[hby];omega
  repeat'(first|exact y0|refine y1 ?_|refine y2 ?_ ?_|(refine y8 ?_ ?_<;>intro h<;>try exact y6)|refine y3 ?_|refine y7 ?_ ?_|refine y4 ?_|(refine y9 ?_ ?_<;>intro h)|exact y5|fail)
  refine⟨.inr rfl,.tup [],[9,10],VLe.any _,EndOK.by rfl ?_ rfl ?_ rfl rfl⟩
  ·refine⟨rfl,MemP.op rfl trivial⟩
  ·refine (okH_op rfl rfl rfl)
def decF (F:List (By×Nat)) (path:By) (i:Nat):List (By×Nat):=match lkF F path with|some _=>F|none=>F++[(path,i)]
def decG (F:List (By×Nat)) (G:List (Nat×Nat)) (path:By) (i:Nat):List (Nat×Nat):=match lkF F path with|some _=>G++[(i,3)]|none=>G
theorem declare_c (p:List Nd) (D:List Dc) (F:List (By×Nat)) (G:List (Nat×Nat)) (i:Nat) (path:By) (hi:i<p.length) (hD:D.length≤1000000000000) (hG:G.length≤1000000000000):
 FC Tryz.prog 139 [.s (.ptr (some (0,0))),nI i,sV path] 8 [(0,some (anB p 3 D.length 6 G.length)),(3,dcB 3 D),(5,some (mapB F)),(6,dgB 6 G)] .any 12
  [(0,some (anB p 8 (D.length+1) 10 (decG F G path i).length)),(3,none),(6,none),(5,some (mapB (decF F path i))),(8,dcB 8 (D++[⟨path,(p.getD i dN).op,i⟩])),(10,dgB 10 (decG F G path i))]:=by
 have hsz:(Tryz.prog.types[195]).size=3:=by kernel_rfl
 have hby:(Tryz.prog.types[195]).bytes=32:=by kernel_rfl
 have hzr:∀ w,(zeroValue 3).run Tryz.prog w=.ok (.int .i64 0) w:=fun w=>by rw[Tryz.zeroValue3]
 rw[dcB,dcB,dc_push];refine FC.walk (by kernel_rfl) Tryz.func139 rfl rfl ?_
 cases hl:lkF F path with
 |some v=>
  have e1:decF F path i=F:=by unfold decF;rw[hl]
  have e2:decG F G path i=G++[(i,3)]:=by unfold decG;rw[hl]
  rw[e1,e2,List.length_append,List.length_singleton]
  repeat'(first|exact y0|refine y1 ?_|refine y2 ?_ ?_|(refine y8 ?_ ?_<;>intro h<;>try exact y6)|refine RegX.lkp (some v) rfl rfl rfl rfl rfl hzr hl rfl ?_|refine y3 ?_|refine y7 ?_ ?_|refine y4 ?_|(refine y9 ?_ ?_<;>intro h)|exact y5|fail)
  refine RegX.atCall (CallG.mo [0,1,2,3,4,5,6,7] (report_c p D.length G i 3 hG) rfl (okH_op rfl rfl rfl) rfl rfl rfl ⟨VLe.refl _,VLe.refl _,VLe.refl _,trivial⟩ ⟨⟨rfl,_,rfl,rfl,fun h=>h⟩,FitP.op rfl rfl trivial⟩ rfl rfl (wr:=[(0,some (anB p 3 D.length 8 (G.length+1))),(6,none),(8,dgB 8 (G++[(i,3)]))]) ?_ ?_)
  ·show [_,_,_]=_;rw[renO_op];rfl
  repeat'(first|exact y0|refine y1 ?_|refine y2 ?_ ?_|(refine y8 ?_ ?_<;>intro h<;>try exact y6)|refine y3 ?_|refine y7 ?_ ?_|refine y4 ?_|(refine y9 ?_ ?_<;>intro h)|exact y5|fail)
  all_goals try omega
  refine RegX.apr (i:=3) (g:=4) (m:=D.length) (w:=3) (cs:=D.flatMap dcC) (foot:=[10]) (k:=1) (add:=dcC ⟨path,(p.getD i dN).op,i⟩) rfl rfl (dc_len D) rfl rfl rfl rfl rfl rfl rfl hsz (by decide) rfl ⟨Nat.le_refl _,rfl⟩ (by decide) (by simp[dcC]) rfl ?_ (by omega) rfl ?_
  ·rw[hby];omega
  repeat'(first|exact y0|refine y1 ?_|refine y2 ?_ ?_|(refine y8 ?_ ?_<;>intro h<;>try exact y6)|refine y3 ?_|refine y7 ?_ ?_|refine y4 ?_|(refine y9 ?_ ?_<;>intro h)|exact y5|fail)
  refine⟨.inr rfl,.tup [],[11,12,8,9],VLe.any _,EndOK.by rfl ?_ rfl ?_ rfl rfl⟩
  ·exact⟨rfl,rfl,MemP.op rfl (MemP.op rfl trivial)⟩
  ·exact okH_op (t:=[(10,dgB 10 (G++[(i,3)]))]) rfl rfl (okH_op rfl rfl rfl)
 |none=>
  have e1:decF F path i=F++[(path,i)]:=by unfold decF;rw[hl]
  have e2:decG F G path i=G:=by unfold decG;rw[hl]
  rw[e1,e2]
  repeat'(first|exact y0|refine y1 ?_|refine y2 ?_ ?_|(refine y8 ?_ ?_<;>intro h<;>try exact y6)|refine RegX.lkp none rfl rfl rfl rfl rfl hzr hl rfl ?_|refine RegX.mup i rfl rfl rfl rfl rfl rfl rfl hl rfl ?_|refine y3 ?_|refine y7 ?_ ?_|refine y4 ?_|(refine y9 ?_ ?_<;>intro h)|exact y5|fail)
  all_goals try omega
  refine RegX.apr (i:=3) (g:=4) (m:=D.length) (w:=3) (cs:=D.flatMap dcC) (foot:=[8]) (k:=1) (add:=dcC ⟨path,(p.getD i dN).op,i⟩) rfl rfl (dc_len D) rfl rfl rfl rfl rfl rfl rfl hsz (by decide) rfl ⟨Nat.le_refl _,rfl⟩ (by decide) (by simp[dcC]) rfl ?_ (by omega) rfl ?_
  ·rw[hby];omega
  repeat'(first|exact y0|refine y1 ?_|refine y2 ?_ ?_|(refine y8 ?_ ?_<;>intro h<;>try exact y6)|refine y3 ?_|refine y7 ?_ ?_|refine y4 ?_|(refine y9 ?_ ?_<;>intro h)|exact y5|fail)
  refine⟨.inr rfl,.tup [],[9,10,6,7],VLe.any _,EndOK.move rfl ?_ rfl ?_ rfl ?_ ?_⟩
  ·exact⟨rfl,rfl,MemP.op rfl (MemP.op rfl trivial)⟩
  ·exact okH_op (t:=[(10,dgB 10 G)]) rfl rfl (okH_op rfl rfl rfl)
  ·rcases G with _|⟨x,G⟩<;>rcases D with _|⟨y,D⟩<;>rfl
  ·rcases G with _|⟨x,G⟩<;>rcases D with _|⟨y,D⟩<;>rfl
set_option maxRecDepth 100000
structure St where
 S:List Pth
 D:List Dc
 F:List (By×Nat)
 G:List (Nat×Nat)
def St.rep (s:St) (i c:Nat):St:={s with G:=s.G++[(i,c)]}
def St.dec (s:St) (i:Nat) (path:By) (op:Int):St:={S:=s.S,D:=s.D++[⟨path,op,i⟩],F:=decF s.F path i,G:=decG s.F s.G path i}
def St.sc (s:St) (i:Nat) (sc:Pth):St:={s with S:=s.S.set i sc}
def nameF:Fo→Pth
 | .cons y _ _=>(parseP y.str).1
 | .nil=>z0
def headS (x:Nd) (nm:Pth) (i:Nat) (sc:Pth) (s:St):Pth×St:=
 if x.op=10 then (if (joinP sc nm).2 then ((joinP sc nm).1,s.sc i sc) else (sc,(s.sc i sc).rep i 2))
 else if x.op=16∨x.op=17∨x.op=19 then (sc,s.sc i sc)
 else if (joinP sc nm).2 then (if x.op=11∨x.op=12 then (joinP sc nm).1 else sc,(s.sc i sc).dec i (fmtP (joinP sc nm).1) x.op)
 else (sc,(s.sc i sc).rep i 2)
def hasBl (op:Int):Bool:=decide (op=10∨op=11∨op=12∨op=16∨op=17)
def declS:Bool→Fo→Nat→Pth→St→St
 |_,.nil,_,_,s=>s
 |true,.cons x k n,i,sc,s=>if x.op=4 then declS false k (i+1) sc s else declS true n (i+1+k.size) sc s
 |false,.cons x k n,i,sc,s=>
  declS false n (i+1+k.size) sc (if hasBl x.op then declS true k (i+1) (headS x (nameF k) i sc s).1 (headS x (nameF k) i sc s).2 else (headS x (nameF k) i sc s).2)
theorem decG_len (F:List (By×Nat)) (G:List (Nat×Nat)) (path:By) (i:Nat):(decG F G path i).length≤G.length+1:=by
 unfold decG;split<;>simp
theorem headS_len (x:Nd) (nm:Pth) (i:Nat) (sc:Pth) (s:St):(headS x nm i sc s).2.S.length=s.S.length∧(headS x nm i sc s).2.D.length≤s.D.length+1∧(headS x nm i sc s).2.G.length≤s.G.length+1:=by
 have:=decG_len s.F s.G (fmtP (joinP sc nm).1) i;unfold headS;split
 ·split<;>simp[St.sc,St.rep]
 ·split
  ·simp[St.sc]
  ·split<;>simp[St.sc,St.rep,St.dec]
   exact this
theorem declS_len:∀ (m:Bool) (t:Fo) (i:Nat) (sc:Pth) (s:St),(declS m t i sc s).S.length=s.S.length∧(declS m t i sc s).D.length≤s.D.length+t.size∧(declS m t i sc s).G.length≤s.G.length+t.size
 |true,.nil,_,_,s=>⟨rfl,Nat.le_refl _,Nat.le_refl _⟩
 |false,.nil,_,_,s=>⟨rfl,Nat.le_refl _,Nat.le_refl _⟩
 |true,.cons x k n,i,sc,s=>by
  simp only[declS,Fo.size];split
  ·have:=declS_len false k (i+1) sc s;omega
  ·have:=declS_len true n (i+1+k.size) sc s;omega
 |false,.cons x k n,i,sc,s=>by
  simp only[declS,Fo.size];have h:=headS_len x (nameF k) i sc s;split
  ·have h1:=declS_len true k (i+1) (headS x (nameF k) i sc s).1 (headS x (nameF k) i sc s).2
   have h2:=declS_len false n (i+1+k.size) sc (declS true k (i+1) (headS x (nameF k) i sc s).1 (headS x (nameF k) i sc s).2);omega
  ·have h2:=declS_len false n (i+1+k.size) sc (headS x (nameF k) i sc s).2
   omega
theorem V_nil {t:Fo} (h:t.V []):t=.nil:=by
 cases t with
 |nil=>rfl
 |cons x k n=>simp[Fo.V] at h
theorem V_cons {t:Fo} {sl:Bool×Int} {cs:List (Bool×Int)} (h:t.V (sl::cs)):∃ y k n,t=.cons y k n∧n.V cs:=by
 cases t with
 |nil=>exact h.elim
 |cons x k n=>
  obtain⟨b,c⟩:=sl;cases b
  ·exact⟨x,k,n,rfl,h.2.2⟩
  ·exact⟨x,k,n,rfl,h.2.2⟩
def leafK (c:Int):Bool:=decide (c=110∨c=115∨c=105∨c=73)
theorem V_leaf {t:Fo} {c:Int} {cs:List (Bool×Int)} (hc:leafK c=true) (h:t.V ((false,c)::cs)):∃ y n,t=.cons y .nil n∧n.V cs∧(y.op=3∨y.op=1):=by
 cases t with
 |nil=>exact h.elim
 |cons x k n=>
  obtain⟨⟨h1,_,h2⟩,h3,h4⟩:=h
  have hop:x.op=3∨x.op=1:=by
   unfold leafK at hc;simp only[decide_eq_true_eq] at hc;unfold accB at h1
   rcases hc with rfl|rfl|rfl|rfl<;>simp at h1<;>simp[h1]
  have hk:(kindsB x.op x.kids).1=[]:=by rcases hop with e|e<;>rw[e]<;>rfl
  rw[hk] at h3;have:=V_nil h3;subst this;exact⟨x,n,rfl,h4,hop⟩
theorem V_blk {t:Fo} {c:Int} {cs:List (Bool×Int)} (h:t.V ((true,c)::cs)):∃ y bl n,t=.cons y bl n∧n.V cs∧y.op=4∧bl.V (List.replicate bl.cnt (false,c)):=by
 cases t with
 |nil=>exact h.elim
 |cons x k n=>exact⟨x,k,n,rfl,h.2.2,h.1.1,h.2.1⟩
theorem args_blk {p:List Nd} {c':Int}:∀ (ls:List Int) (t:Fo) (i:Nat),(ls.all leafK)=true→t.V (ls.map (fun c=>(false,c))++[(true,c')])→t.At p i→
 ∃ bl:Fo,bl.V (List.replicate bl.cnt (false,c'))∧bl.At p (i+ls.length+1)∧t.size=ls.length+1+bl.size∧t.cnt=ls.length+1∧(t.starts i).getD ls.length 0=i+ls.length∧∀ sc s,declS true t i sc s=declS false bl (i+ls.length+1) sc s
 |[],t,i,_,h,ha=>by
  obtain⟨y,bl,n,rfl,h1,h2,h3⟩:=V_blk h;have:=V_nil h1;subst this;refine⟨bl,h3,ha.2.2.1,by simp only[Fo.size,List.length_nil];omega,rfl,rfl,fun sc s=>?_⟩;simp only[declS,h2,if_true];rfl
 |c::ls,t,i,hl,h,ha=>by
  simp only[List.all_cons,Bool.and_eq_true] at hl;obtain⟨y,n,rfl,h1,h2⟩:=V_leaf hl.1 h;obtain⟨bl,g1,g2,g3,g4,g5,g6⟩:=args_blk ls n (i+1) hl.2 h1 (by simpa [Fo.size] using ha.2.2.2)
  have e:i+1+ls.length=i+(c::ls).length:=by simp only[List.length_cons];omega
  rw[e] at g2 g5 g6;refine⟨bl,g1,g2,by simp only[Fo.size,List.length_cons];omega,by simp only[Fo.cnt,g4,List.length_cons],?_,fun sc s=>?_⟩
  ·simp only[Fo.starts,Fo.size,List.length_cons,List.getD_cons_succ]
   have:i+1+0=i+1:=rfl;rw[this,g5];simp only[List.length_cons]
  ·have: ¬y.op=4:=by omega
   simp only[declS,if_neg this,Fo.size,Nat.add_zero];exact g6 sc s
theorem decl_blk {p:List Nd} {x:Nd} {k n:Fo} {c:Int} {cs:List (Bool×Int)} {i:Nat} (ha:(Fo.cons x k n).At p i) (hv:(Fo.cons x k n).V ((false,c)::cs)) (hb:hasBl x.op=true):
 ∃ (m:Nat) (c':Int) (bl:Fo),m≤4∧(c'=68∨c'=70)∧bl.V (List.replicate bl.cnt (false,c'))∧bl.At p (i+1+m+1)∧k.size=m+1+bl.size∧k.cnt=m+1∧(k.starts (i+1)).getD m 0=i+1+m∧∀ sc s,declS true k (i+1) sc s=declS false bl (i+1+m+1) sc s:=by
 obtain⟨_,hk,_⟩:=hv;unfold hasBl at hb;simp only[decide_eq_true_eq] at hb
 rcases hb with e|e|e|e|e<;>rw[e] at hk
 ·obtain⟨bl,h⟩:=args_blk [110] k (i+1) rfl hk ha.2.2.1
  exact⟨1,_,bl,by decide,.inl rfl,h⟩
 ·obtain⟨bl,h⟩:=args_blk [115] k (i+1) rfl hk ha.2.2.1
  exact⟨1,_,bl,by decide,.inl rfl,h⟩
 ·obtain⟨bl,h⟩:=args_blk [115,105,105] k (i+1) rfl hk ha.2.2.1
  exact⟨3,_,bl,by decide,.inl rfl,h⟩
 ·obtain⟨bl,h⟩:=args_blk [110,105,105] k (i+1) rfl hk ha.2.2.1
  exact⟨3,_,bl,by decide,.inr rfl,h⟩
 ·obtain⟨bl,h⟩:=args_blk [110,110,105,105] k (i+1) rfl hk ha.2.2.1
  exact⟨4,_,bl,by decide,.inr rfl,h⟩
theorem decl_op {c op:Int} (hc:c=68∨c=70) (h:accB c op=true):op=10∨op=11∨op=12∨op=13∨op=14∨op=15∨op=16∨op=17∨op=18∨op=19∨op=20∨op=21:=by
 unfold accB at h
 rcases hc with rfl|rfl
 ·simp at h;omega
 ·simp[isElemB] at h;omega
theorem decl_name {p:List Nd} {x:Nd} {k n:Fo} {c:Int} {cs:List (Bool×Int)} {i:Nat} (hc:c=68∨c=70) (ha:(Fo.cons x k n).At p i) (hv:(Fo.cons x k n).V ((false,c)::cs)):i+1<p.length∧nameF k=(parseP (p.getD (i+1) dN).str).1:=by
 obtain⟨⟨hacc,_⟩,hk,_⟩:=hv
 have key:∃ sl r,slots (kindsB x.op x.kids).1=sl::r:=by
  rcases decl_op hc hacc with e|e|e|e|e|e|e|e|e|e|e|e<;>rw[e]<;>exact⟨_,_,rfl⟩
 obtain⟨sl,r,e⟩:=key;rw[e] at hk;obtain⟨y,ky,n',rfl,_⟩:=V_cons hk;have h1:=ha.2.2.1;exact⟨At.lt h1,by rw[At.get h1];rfl⟩
theorem joinP_root {b r:Pth} (h:(joinP b r).2=true):(joinP b r).1.root=true:=by
 unfold joinP at h ⊢;split
 ·simp_all
 ·split
  ·rfl
  ·split
   ·simp_all
   ·rfl
end Go.Proofs.YtbokilgdefkmiaaGreatDoor
