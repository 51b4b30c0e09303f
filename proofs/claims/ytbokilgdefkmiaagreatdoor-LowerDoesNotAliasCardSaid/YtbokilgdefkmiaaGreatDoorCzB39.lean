import Derived.Test.YtbokilgdefkmiaaGreatDoorCzB23
import Derived.Test.YtbokilgdefkmiaaGreatDoorCzB15
import Derived.Test.YtbokilgdefkmiaaGreatDoorCzB36
set_option linter.unusedSimpArgs false
set_option linter.unusedVariables false
namespace Go.Proofs.YtbokilgdefkmiaaGreatDoor
open Go Ab
set_option maxRecDepth 100000
set_option maxHeartbeats 4000000
theorem method_m (l:List Int) (hl:l.length≤20000000000000) (s:By) (hs:s.length≤1000) (dep:Int) (h1:0≤dep) (h2:dep≤3) (i:Nat) (hi:i≤l.length):
 ∃ (r:List Nd) (i':Nat),(r.getD 0 dN).op=14∧OKr 300000000 r∧i'≤l.length∧FC Tryz.prog 31 [cP,sV s,nI dep] 1 (chL l i) (nodes r) 1 (chL l i'):=by
 obtain⟨k,i1,hk,hi1,c1⟩:=next_c l hl 3 (by decide) (by decide) i hi;obtain⟨m,i2,hm2,hi2,c2⟩:=next_c l hl 2 (by decide) (by decide) i1 hi1;obtain⟨q,i3,hq,hi3,c3⟩:=next_c l hl 3 (by decide) (by decide) i2 hi2;obtain⟨rb,i4,ob,hi4,c4⟩:=block_d l hl k (by omega) dep h1 h2 false i3 hi3;obtain⟨r1,o1,d1⟩:=name_e s hs;obtain⟨r2,o2,d2⟩:=int_e k (by omega);obtain⟨r3,o3,d3⟩:=int_e m (by omega);obtain⟨r4,o4,d4⟩:=int_e q (by omega)
 obtain⟨r,hr,o,dn⟩:∃ r:List Nd,(r.getD 0 dN).op=14∧OKr 300000000 r∧FC Tryz.prog 25 [nI 14,.s (kidF [r1,r2,r3,r4,rb])] 0 [] (nodes r) 0 []:=
  ⟨_,rfl,OKr.tree (B:=50000000) (by simp[o1.le,o2.le,o3.le,o4.le,ob]) (by decide) (by simp) (by simp),node_n (B:=50000000) 14 _ (by simp[o1.le,o2.le,o3.le,o4.le,ob]) (by simp) (by simp)⟩
 unfold kidF at dn;refine⟨r,i4,hr,o,hi4,?_⟩;refine FC.walk (by kernel_rfl) Tryz.func31 rfl rfl ?_
 repeat'(first|exact y0|refine y1 ?_|refine y2 ?_ ?_|(refine y8 ?_ ?_<;>intro h<;>try(exact y6))|(refine wC ?_;first|refine wF 28 (cm c1 ?_)|refine wF 28 (cm c2 ?_)|refine wF 28 (cm c3 ?_)|refine wF 26 (pu d1 ?_)|refine wF 27 (pu d2 ?_)|refine wF 27 (pu d3 ?_)|refine wF 27 (pu d4 ?_)|refine wF 50 (cm c4 ?_)|(refine wF 25 ?_;refine CallG.pl nS [] [r1,r2,r3,r4,rb] (fun _ _=>rfl) dn rfl rfl rfl rfl rfl (by first|rfl|simp) (by first|rfl|simp|(rw[List.map_append];rfl)) rfl ⟨VLe.refl _,VLe.refl _,trivial⟩ rfl rfl rfl ?_))|exact u64_in (by omega) (by omega)|exact i64_in (by omega) (by omega)|refine y3 ?_|refine y7 ?_ ?_|refine y4 ?_|(refine y9 ?_ ?_<;>intro h)|exact y5|fail)
 all_goals first
  |exact⟨.inl rfl,_,[],VLe.refl _,EndOK.by rfl ⟨rfl,trivial⟩ rfl rfl rfl rfl⟩
  |omega
  |exact u64_in (by omega) (by omega)
  |exact i64_in (by omega) (by omega)
theorem system_m (l:List Int) (hl:l.length≤20000000000000):∃ p,SyD 2000000000 p∧(∃ k,k<p.length∧(p.getD k dN).op=14)∧FC Tryz.prog 10 [.s (chF l)] 0 [] (nodes p) 0 []:=by
 have hnew:=new_c l
 have hsz:(Tryz.prog.types[31]).size=4:=by kernel_rfl
 have hby:(Tryz.prog.types[31]).bytes=40:=by kernel_rfl
 obtain⟨yy0,yy1,yy2,yy3,yy4,i1,hy1,o1,hi1,c1⟩:=region_x l hl 0 (Nat.zero_le _) [82,49] (by decide)
 obtain⟨w,hw,hwd⟩:∃ w:Nat,(w=0∨w=2)∧w=(if yy2.int=3 then 0 else 2):=⟨_,by split<;>simp,rfl⟩
 obtain⟨r2,i2,o2,hi2,c2⟩:=fields_e l hl [[70,49],[70,50]] (by decide) (by decide) false w hw i1 hi1;obtain⟨r3,i3,o3,hi3,c3⟩:=fields_e l hl [[70,51]] (by decide) (by decide) true 2 (.inr rfl) i2 hi2;unfold strsF at c2 c3;obtain⟨m4,i4,hm4,hi4,c4⟩:=next_c l hl 4 (by decide) (by decide) i3 hi3;obtain⟨a1,p1,d1⟩:=name_e [77,84,88] (by decide);obtain⟨a2,p2,d2⟩:=int_e m4 (by omega);obtain⟨r4,o4,n4⟩:=node_e 20 [a1,a2] (B:=1) 3 (by simp[p1,p2]) (by simp) (by simp) (by simp);obtain⟨a3,p3,d3⟩:=name_e [69,86,84] (by decide);obtain⟨r5,o5,n5⟩:=node_e 21 [a3] (B:=1) 3 (by simp[p3]) (by simp) (by simp) (by simp);obtain⟨a4,p4,d4⟩:=name_e [65] (by decide);obtain⟨a5,i5,p5,hi5,c5⟩:=data_e l hl 2 (by decide) i4 hi4;obtain⟨r6,o6,n6⟩:=node_e 13 [a4,a5] (B:=1000) 2001 (by simp[p4.le (show 1≤1000 by decide),p5.le (show 10^(2+1)≤1000 by decide)]) (by simp) (by simp) (by simp);obtain⟨a6,p6,d6⟩:=name_e [66] (by decide);obtain⟨x7,i6,hx7,hi6,c6⟩:=number_c l hl i5 hi5;obtain⟨a7,p7,d7⟩:=int_e x7 hx7;obtain⟨r7,o7,n7⟩:=node_e 13 [a6,a7] (B:=1) 3 (by simp[p6,p7]) (by simp) (by simp) (by simp);obtain⟨a8,p8,d8⟩:=name_e [67] (by decide);obtain⟨a9,p9,d9⟩:=int_e 3 (by decide);obtain⟨b1,q1,e1⟩:=int_e 1 (by decide);obtain⟨b2,i7,q2,hi7,c7⟩:=data_e l hl 1 (by decide) i6 hi6;obtain⟨b3,q3,f3⟩:=node_e 4 [b1,b2] (B:=1000) 2001 (by simp[q1.le (show 1≤1000 by decide),q2.le (show 10^(1+1)≤1000 by decide)]) (by simp) (by simp) (by simp);obtain⟨b4,q4,f4⟩:=node_e 51 [a9,b3] (B:=3000) 6001 (by simp[p9.le (show 1≤3000 by decide),q3.le (show 2001≤3000 by decide)]) (by simp) (by simp) (by simp);obtain⟨r8,o8,n8⟩:=node_e 13 [a8,b4] (B:=7000) 14001 (by simp[p8.le (show 1≤7000 by decide),q4.le (show 6001≤7000 by decide)]) (by simp) (by simp) (by simp);obtain⟨m9,i8,hm9,hi8,c8⟩:=next_c l hl 16 (by decide) (by decide) i7 hi7;obtain⟨b5,q5,e5⟩:=name_e [68,69,86,48] (by decide);obtain⟨b6,q6,e6⟩:=name_e [95,83,84,65] (by decide);obtain⟨b7,q7,e7'⟩:=int_e m9 (by omega);obtain⟨b8,q8,f8⟩:=node_e 13 [b6,b7] (B:=1) 3 (by simp[q6,q7]) (by simp) (by simp) (by simp);obtain⟨b9,q9,f9⟩:=node_e 4 [b8] (B:=3) 4 (by simp[q8]) (by simp) (by simp) (by simp);obtain⟨r9,o9,n9⟩:=node_e 11 [b5,b9] (B:=4) 9 (by simp[q5.le (show 1≤4 by decide),q9]) (by simp) (by simp) (by simp);obtain⟨r10,i9,o10,hi9,c9⟩:=method_e l hl [77] (by decide) 2 (by decide) (by decide) i8 hi8;obtain⟨r11,i10,hr11,o11,hi10,c10⟩:=method_m l hl [78] (by decide) 3 (by decide) (by decide) i9 hi9;unfold kidF at n4 n5 n6 n7 n8 n9 f3 f4 f8 f9
 have h0:SyD 5 [yy0,yy1,yy2,yy3,yy4]:=⟨o1.len,o1.wf,1,by simp,hy1⟩
 obtain⟨D1,hD1,h1⟩:∃ D,D=[yy0,yy1,yy2,yy3,yy4]++r2∧SyD 105 D:=⟨_,rfl,h0.app o2⟩
 have hl1:=h1.len
 obtain⟨D2,hD2,h2⟩:∃ D,D=D1++r3∧SyD 205 D:=⟨_,rfl,h1.app o3⟩
 have hl2:=h2.len
 obtain⟨D3,hD3,h3⟩:∃ D,D=D2++r4∧SyD 208 D:=⟨_,rfl,h2.app o4⟩
 have hl3:=h3.len
 obtain⟨D4,hD4,h4⟩:∃ D,D=D3++r5∧SyD 211 D:=⟨_,rfl,h3.app o5⟩
 have hl4:=h4.len
 obtain⟨D5,hD5,h5⟩:∃ D,D=D4++r6∧SyD 2212 D:=⟨_,rfl,h4.app o6⟩
 have hl5:=h5.len
 obtain⟨D6,hD6,h6⟩:∃ D,D=D5++r7∧SyD 2215 D:=⟨_,rfl,h5.app o7⟩
 have hl6:=h6.len
 obtain⟨D7,hD7,h7⟩:∃ D,D=D6++r8∧SyD 16216 D:=⟨_,rfl,h6.app o8⟩
 have hl7:=h7.len
 obtain⟨D8,hD8,h8⟩:∃ D,D=D7++r9∧SyD 16225 D:=⟨_,rfl,h7.app o9⟩
 have hl8:=h8.len
 obtain⟨D9,hD9,h9⟩:∃ D,D=D8++r10∧SyD 300016225 D:=⟨_,rfl,h8.app o10⟩
 have hl9:=h9.len
 obtain⟨D10,hD10,h10⟩:∃ D,D=D9++r11∧SyD 600016225 D:=⟨_,rfl,h9.app o11⟩
 have hl10:=h10.len
 have hme:∃ k,k<D10.length∧(D10.getD k dN).op=14:=by
  have hne:=List.length_pos_iff.2 o11.ne;refine⟨D9.length,by rw[hD10,List.length_append];omega,?_⟩;rw[hD10,List.getD_eq_getElem?_getD,List.getElem?_append_right (Nat.le_refl _),Nat.sub_self,←List.getD_eq_getElem?_getD];exact hr11
 refine⟨D10,⟨by omega,h10.wf,h10.nm⟩,hme,?_⟩;clear hme hr11;clear h0 h1 h2 h3 h4 h5 h6 h7 h8 h9 h10 p1 p2 p3 p4 p5 p6 p7 p8 p9 q1 q2 q3 q4 q5 q6 q7 q8 q9 hi1 hi2 hi3 hi4 hi5 hi6 hi7 hi8 hi9 hi10 hy1;have le2:1≤r2.length:=List.length_pos_iff.2 o2.ne;have g2:=o2.len;have ne2:=o2.ne;have le3:1≤r3.length:=List.length_pos_iff.2 o3.ne;have g3:=o3.len;have ne3:=o3.ne;have le4:1≤r4.length:=List.length_pos_iff.2 o4.ne;have g4:=o4.len;have ne4:=o4.ne;have le5:1≤r5.length:=List.length_pos_iff.2 o5.ne;have g5:=o5.len;have ne5:=o5.ne;have le6:1≤r6.length:=List.length_pos_iff.2 o6.ne;have g6:=o6.len;have ne6:=o6.ne;have le7:1≤r7.length:=List.length_pos_iff.2 o7.ne;have g7:=o7.len;have ne7:=o7.ne;have le8:1≤r8.length:=List.length_pos_iff.2 o8.ne;have g8:=o8.len;have ne8:=o8.ne;have le9:1≤r9.length:=List.length_pos_iff.2 o9.ne;have g9:=o9.len;have ne9:=o9.ne;have le10:1≤r10.length:=List.length_pos_iff.2 o10.ne;have g10:=o10.len;have ne10:=o10.ne;have le11:1≤r11.length:=List.length_pos_iff.2 o11.ne;have g11:=o11.len;have ne11:=o11.ne;clear o1 o2 o3 o4 o5 o6 o7 o8 o9 o10 o11;refine FC.walk (by kernel_rfl) Tryz.func10 rfl rfl ?_
 repeat'(first|refine Ex.set 4 (.s (.row 1 2 0)) (VLe.s SLe.nilrow) rfl (Ex.upN (n':=3) (by decide) ?_)|exact y0|refine y1 ?_|refine y2 ?_ ?_|(refine y8 ?_ ?_<;>intro h<;>try exact y6)|(refine wC ?_;first|(refine wF 22 ?_;refine CallG.me [] hnew rfl rfl ⟨VLe.refl _,trivial⟩ trivial rfl rfl rfl ?_)|refine wF 23 (cm c1 ?_))|refine y3 ?_|refine y7 ?_ ?_|refine y4 ?_|(refine y9 ?_ ?_<;>intro h)|exact y5|fail)
 refine RegX.apr (i:=1) (g:=2) (m:=0) (w:=4) (cs:=[]) (foot:=[]) (k:=5) (add:=[yy0,yy1,yy2,yy3,yy4].flatMap ndC) rfl rfl rfl rfl rfl rfl rfl rfl rfl rfl hsz (by decide) rfl ?_ (by decide) (by simp[ndC]) rfl (by rw[hby];omega) (by omega) rfl ?_
 ·trivial
 repeat'(first|refine Ex.canon [0,3,4] 93 [(3,cP),(4,.s (.sla 1 2 5))] [(0,some {cells:=[chF l,.int .i64 (i1:Int)],ty:=93}),(1,ndB 1 [yy0,yy1,yy2,yy3,yy4])] rfl rfl ⟨VLe.refl _,VLe.s (SLe.rowsla (by decide)),trivial⟩ ⟨rfl,rfl,trivial⟩ rfl ?_|refine Ex.cutS 5 93 3 [(3,cP),(4,.s (.row 1 2 [yy0,yy1,yy2,yy3,yy4].length)),(5,nI w)] [(0,some {cells:=[chF l,.int .i64 (i1:Int)],ty:=93}),(1,ndB 1 [yy0,yy1,yy2,yy3,yy4])] rfl (Hold.k ?_) (Hold.k ?_)|exact y0|refine y1 ?_|refine y2 ?_ ?_|(refine y8 ?_ ?_<;>intro h<;>try exact y6)|refine y3 ?_|refine y7 ?_ ?_|refine y4 ?_|(refine y9 ?_ ?_<;>intro h)|exact y5|fail)
 ·refine⟨?_⟩
  by_cases hy:yy2.int=3
  ·rw[if_pos hy] at hwd
   subst hwd
   repeat'(first|exact y0|refine y1 ?_|refine y2 ?_ ?_|(refine y8 ?_ ?_<;>intro h<;>try exact y6)|refine RegX.ldS [.val (.s (.int .u64 yy2.int))] rfl rfl ?_ rfl ?_|refine y3 ?_|refine y7 ?_ ?_|refine y4 ?_|(refine y9 ?_ ?_<;>intro h)|exact y5|fail)
   all_goals try first|omega|rfl
   all_goals refine CutR.at [0,1,2] rfl rfl ⟨VLe.refl _,VLe.s (SLe.slarow (by decide)),VLe.refl _,trivial⟩ ⟨rfl,rfl,trivial⟩ rfl
  ·rw[if_neg hy] at hwd
   subst hwd
   repeat'(first|exact y0|refine y1 ?_|refine y2 ?_ ?_|(refine y8 ?_ ?_<;>intro h<;>try exact y6)|refine RegX.ldS [.val (.s (.int .u64 yy2.int))] rfl rfl ?_ rfl ?_|refine y3 ?_|refine y7 ?_ ?_|refine y4 ?_|(refine y9 ?_ ?_<;>intro h)|exact y5|fail)
   all_goals try first|omega|rfl
   all_goals refine CutR.at [0,1,2] rfl rfl ⟨VLe.refl _,VLe.s (SLe.slarow (by decide)),VLe.refl _,trivial⟩ ⟨rfl,rfl,trivial⟩ rfl
 refine⟨?_⟩
 obtain⟨D0,hD0⟩:∃ D,D=[yy0,yy1,yy2,yy3,yy4]:=⟨_,rfl⟩
 have hl0:D0.length≤5:=by rw[hD0];simp
 rw[←hD0] at hD1 ⊢;clear hD0
 repeat'(first|exact y0|refine y1 ?_|refine y2 ?_ ?_|(refine y8 ?_ ?_<;>intro h<;>try exact y6)|(refine wC ?_;first|(refine wF 24 ?_;refine CallG.mz 1 S.str [] [[70,49],[70,50]] (fun _ _=>rfl) [0] c2 rfl rfl rfl rfl rfl rfl rfl rfl rfl ⟨VLe.refl _,VLe.refl _,VLe.refl _,VLe.refl _,trivial⟩ ⟨⟨rfl,_,rfl,rfl,fun h=>h⟩,trivial⟩ rfl rfl rfl ?_))|exact u64_in (by omega) (by omega)|exact i64_in (by omega) (by omega)|refine y3 ?_|refine y7 ?_ ?_|refine y4 ?_|(refine y9 ?_ ?_<;>intro h)|exact y5|fail)
 refine RegX.apr (i:=1) (g:=2) (m:=D0.length) (w:=4) (cs:=D0.flatMap ndC) (foot:=[]) (k:=r2.length) (add:=flatG (fun k=>ndC (r2.getD k dN)) r2.length) rfl rfl (by rw[nd_len]) rfl rfl rfl rfl rfl rfl rfl hsz (by decide) rfl ?_ le2 (by rw[nd_flat];exact nd_ne ne2) (by rw[nd_flat];exact nd_np _) (by rw[hby];omega) (by omega) rfl ?_
 ·trivial
 repeat'(first|refine Ex.canon [0,4,5] 93 [(3,cP),(4,.s (.row 1 2 D1.length))] [(0,some {cells:=[chF l,.int .i64 (i2:Int)],ty:=93}),(1,ndB 1 D1)] rfl rfl ?_ ?_ ?_ (Hold.k ?_)|exact y0|refine y1 ?_|refine y2 ?_ ?_|(refine y8 ?_ ?_<;>intro h<;>try exact y6)|refine y3 ?_|refine y7 ?_ ?_|refine y4 ?_|(refine y9 ?_ ?_<;>intro h)|exact y5|fail)
 ·rw[hD1]
  repeat' (first|exact VLe.refl _|exact VLe.any _|exact True.intro|(refine VLe.of_eq (congrArg V.s (?_:S.row 4 5 _=S.row 4 5 _));simp;done)|refine⟨?_,?_⟩)
 ·rw[hD1]
  refine⟨rfl,MemP.op ?_ trivial⟩;rw[List.flatMap_append,←nd_flat r2];rfl
 ·unfold ndB;generalize List.flatMap _ _=cg;cases cg<;>rfl
 refine⟨?_⟩
 repeat'(first|exact y0|refine y1 ?_|refine y2 ?_ ?_|(refine y8 ?_ ?_<;>intro h<;>try exact y6)|(refine wC ?_;first|(refine wF 24 ?_;refine CallG.mz 1 S.str [] [[70,51]] (fun _ _=>rfl) [0] c3 rfl rfl rfl rfl rfl rfl rfl rfl rfl ⟨VLe.refl _,VLe.refl _,VLe.refl _,VLe.refl _,trivial⟩ ⟨⟨rfl,_,rfl,rfl,fun h=>h⟩,trivial⟩ rfl rfl rfl ?_))|exact u64_in (by omega) (by omega)|exact i64_in (by omega) (by omega)|refine y3 ?_|refine y7 ?_ ?_|refine y4 ?_|(refine y9 ?_ ?_<;>intro h)|exact y5|fail)
 refine RegX.apr (i:=1) (g:=2) (m:=D1.length) (w:=4) (cs:=D1.flatMap ndC) (foot:=[]) (k:=r3.length) (add:=flatG (fun k=>ndC (r3.getD k dN)) r3.length) rfl rfl (by rw[nd_len]) rfl rfl rfl rfl rfl rfl rfl hsz (by decide) rfl ?_ le3 (by rw[nd_flat];exact nd_ne ne3) (by rw[nd_flat];exact nd_np _) (by rw[hby];omega) (by omega) rfl ?_
 ·trivial
 repeat'(first|refine Ex.canon [0,4,5] 93 [(3,cP),(4,.s (.row 1 2 D2.length))] [(0,some {cells:=[chF l,.int .i64 (i3:Int)],ty:=93}),(1,ndB 1 D2)] rfl rfl ?_ ?_ ?_ (Hold.k ?_)|exact y0|refine y1 ?_|refine y2 ?_ ?_|(refine y8 ?_ ?_<;>intro h<;>try exact y6)|refine y3 ?_|refine y7 ?_ ?_|refine y4 ?_|(refine y9 ?_ ?_<;>intro h)|exact y5|fail)
 ·rw[hD2]
  repeat' (first|exact VLe.refl _|exact VLe.any _|exact True.intro|(refine VLe.of_eq (congrArg V.s (?_:S.row 4 5 _=S.row 4 5 _));simp;done)|refine⟨?_,?_⟩)
 ·rw[hD2]
  refine⟨rfl,MemP.op ?_ trivial⟩;rw[List.flatMap_append,←nd_flat r3];rfl
 ·unfold ndB;generalize List.flatMap _ _=cg;cases cg<;>rfl
 refine⟨?_⟩
 repeat'(first|exact y0|refine y1 ?_|refine y2 ?_ ?_|(refine y8 ?_ ?_<;>intro h<;>try exact y6)|(refine wC ?_;first|refine wF 28 (cm c4 ?_)|refine wF 26 (pu d1 ?_)|refine wF 27 (pu d2 ?_)|(refine wF 25 ?_;refine CallG.pl nS [] [a1,a2] (fun _ _=>rfl) n4 rfl rfl rfl rfl rfl (by first|rfl|simp) (by first|rfl|simp|(rw[List.map_append];rfl)) rfl ⟨VLe.refl _,VLe.refl _,trivial⟩ rfl rfl rfl ?_))|exact u64_in (by omega) (by omega)|exact i64_in (by omega) (by omega)|refine y3 ?_|refine y7 ?_ ?_|refine y4 ?_|(refine y9 ?_ ?_<;>intro h)|exact y5|fail)
 refine RegX.apr (i:=1) (g:=2) (m:=D2.length) (w:=4) (cs:=D2.flatMap ndC) (foot:=[]) (k:=r4.length) (add:=flatG (fun k=>ndC (r4.getD k dN)) r4.length) rfl rfl (by rw[nd_len]) rfl rfl rfl rfl rfl rfl rfl hsz (by decide) rfl ?_ le4 (by rw[nd_flat];exact nd_ne ne4) (by rw[nd_flat];exact nd_np _) (by rw[hby];omega) (by omega) rfl ?_
 ·trivial
 repeat'(first|refine Ex.canon [0,4,5] 93 [(3,cP),(4,.s (.row 1 2 D3.length))] [(0,some {cells:=[chF l,.int .i64 (i4:Int)],ty:=93}),(1,ndB 1 D3)] rfl rfl ?_ ?_ ?_ (Hold.k ?_)|exact y0|refine y1 ?_|refine y2 ?_ ?_|(refine y8 ?_ ?_<;>intro h<;>try exact y6)|refine y3 ?_|refine y7 ?_ ?_|refine y4 ?_|(refine y9 ?_ ?_<;>intro h)|exact y5|fail)
 ·rw[hD3]
  repeat' (first|exact VLe.refl _|exact VLe.any _|exact True.intro|(refine VLe.of_eq (congrArg V.s (?_:S.row 4 5 _=S.row 4 5 _));simp;done)|refine⟨?_,?_⟩)
 ·rw[hD3]
  refine⟨rfl,MemP.op ?_ trivial⟩;rw[List.flatMap_append,←nd_flat r4];rfl
 ·unfold ndB;generalize List.flatMap _ _=cg;cases cg<;>rfl
 refine⟨?_⟩
 repeat'(first|exact y0|refine y1 ?_|refine y2 ?_ ?_|(refine y8 ?_ ?_<;>intro h<;>try exact y6)|(refine wC ?_;first|refine wF 26 (pu d3 ?_)|(refine wF 25 ?_;refine CallG.pl nS [] [a3] (fun _ _=>rfl) n5 rfl rfl rfl rfl rfl (by first|rfl|simp) (by first|rfl|simp|(rw[List.map_append];rfl)) rfl ⟨VLe.refl _,VLe.refl _,trivial⟩ rfl rfl rfl ?_))|exact u64_in (by omega) (by omega)|exact i64_in (by omega) (by omega)|refine y3 ?_|refine y7 ?_ ?_|refine y4 ?_|(refine y9 ?_ ?_<;>intro h)|exact y5|fail)
 refine RegX.apr (i:=1) (g:=2) (m:=D3.length) (w:=4) (cs:=D3.flatMap ndC) (foot:=[]) (k:=r5.length) (add:=flatG (fun k=>ndC (r5.getD k dN)) r5.length) rfl rfl (by rw[nd_len]) rfl rfl rfl rfl rfl rfl rfl hsz (by decide) rfl ?_ le5 (by rw[nd_flat];exact nd_ne ne5) (by rw[nd_flat];exact nd_np _) (by rw[hby];omega) (by omega) rfl ?_
 ·trivial
 repeat'(first|refine Ex.canon [0,4,5] 93 [(3,cP),(4,.s (.row 1 2 D4.length))] [(0,some {cells:=[chF l,.int .i64 (i4:Int)],ty:=93}),(1,ndB 1 D4)] rfl rfl ?_ ?_ ?_ (Hold.k ?_)|exact y0|refine y1 ?_|refine y2 ?_ ?_|(refine y8 ?_ ?_<;>intro h<;>try exact y6)|refine y3 ?_|refine y7 ?_ ?_|refine y4 ?_|(refine y9 ?_ ?_<;>intro h)|exact y5|fail)
 ·rw[hD4]
  repeat' (first|exact VLe.refl _|exact VLe.any _|exact True.intro|(refine VLe.of_eq (congrArg V.s (?_:S.row 4 5 _=S.row 4 5 _));simp;done)|refine⟨?_,?_⟩)
 ·rw[hD4]
  refine⟨rfl,MemP.op ?_ trivial⟩;rw[List.flatMap_append,←nd_flat r5];rfl
 ·unfold ndB;generalize List.flatMap _ _=cg;cases cg<;>rfl
 refine⟨?_⟩
 repeat'(first|exact y0|refine y1 ?_|refine y2 ?_ ?_|(refine y8 ?_ ?_<;>intro h<;>try exact y6)|(refine wC ?_;first|refine wF 26 (pu d4 ?_)|refine wF 29 (cm c5 ?_)|(refine wF 25 ?_;refine CallG.pl nS [] [a4,a5] (fun _ _=>rfl) n6 rfl rfl rfl rfl rfl (by first|rfl|simp) (by first|rfl|simp|(rw[List.map_append];rfl)) rfl ⟨VLe.refl _,VLe.refl _,trivial⟩ rfl rfl rfl ?_))|exact u64_in (by omega) (by omega)|exact i64_in (by omega) (by omega)|refine y3 ?_|refine y7 ?_ ?_|refine y4 ?_|(refine y9 ?_ ?_<;>intro h)|exact y5|fail)
 refine RegX.apr (i:=1) (g:=2) (m:=D4.length) (w:=4) (cs:=D4.flatMap ndC) (foot:=[]) (k:=r6.length) (add:=flatG (fun k=>ndC (r6.getD k dN)) r6.length) rfl rfl (by rw[nd_len]) rfl rfl rfl rfl rfl rfl rfl hsz (by decide) rfl ?_ le6 (by rw[nd_flat];exact nd_ne ne6) (by rw[nd_flat];exact nd_np _) (by rw[hby];omega) (by omega) rfl ?_
 ·trivial
 repeat'(first|refine Ex.canon [0,4,5] 93 [(3,cP),(4,.s (.row 1 2 D5.length))] [(0,some {cells:=[chF l,.int .i64 (i5:Int)],ty:=93}),(1,ndB 1 D5)] rfl rfl ?_ ?_ ?_ (Hold.k ?_)|exact y0|refine y1 ?_|refine y2 ?_ ?_|(refine y8 ?_ ?_<;>intro h<;>try exact y6)|refine y3 ?_|refine y7 ?_ ?_|refine y4 ?_|(refine y9 ?_ ?_<;>intro h)|exact y5|fail)
 ·rw[hD5]
  repeat' (first|exact VLe.refl _|exact VLe.any _|exact True.intro|(refine VLe.of_eq (congrArg V.s (?_:S.row 4 5 _=S.row 4 5 _));simp;done)|refine⟨?_,?_⟩)
 ·rw[hD5]
  refine⟨rfl,MemP.op ?_ trivial⟩;rw[List.flatMap_append,←nd_flat r6];rfl
 ·unfold ndB;generalize List.flatMap _ _=cg;cases cg<;>rfl
 refine⟨?_⟩
 repeat'(first|exact y0|refine y1 ?_|refine y2 ?_ ?_|(refine y8 ?_ ?_<;>intro h<;>try exact y6)|(refine wC ?_;first|refine wF 26 (pu d6 ?_)|refine wF 30 (cm c6 ?_)|refine wF 27 (pu d7 ?_)|(refine wF 25 ?_;refine CallG.pl nS [] [a6,a7] (fun _ _=>rfl) n7 rfl rfl rfl rfl rfl (by first|rfl|simp) (by first|rfl|simp|(rw[List.map_append];rfl)) rfl ⟨VLe.refl _,VLe.refl _,trivial⟩ rfl rfl rfl ?_))|exact u64_in (by omega) (by omega)|exact i64_in (by omega) (by omega)|refine y3 ?_|refine y7 ?_ ?_|refine y4 ?_|(refine y9 ?_ ?_<;>intro h)|exact y5|fail)
 refine RegX.apr (i:=1) (g:=2) (m:=D5.length) (w:=4) (cs:=D5.flatMap ndC) (foot:=[]) (k:=r7.length) (add:=flatG (fun k=>ndC (r7.getD k dN)) r7.length) rfl rfl (by rw[nd_len]) rfl rfl rfl rfl rfl rfl rfl hsz (by decide) rfl ?_ le7 (by rw[nd_flat];exact nd_ne ne7) (by rw[nd_flat];exact nd_np _) (by rw[hby];omega) (by omega) rfl ?_
 ·trivial
 repeat'(first|refine Ex.canon [0,4,5] 93 [(3,cP),(4,.s (.row 1 2 D6.length))] [(0,some {cells:=[chF l,.int .i64 (i6:Int)],ty:=93}),(1,ndB 1 D6)] rfl rfl ?_ ?_ ?_ (Hold.k ?_)|exact y0|refine y1 ?_|refine y2 ?_ ?_|(refine y8 ?_ ?_<;>intro h<;>try exact y6)|refine y3 ?_|refine y7 ?_ ?_|refine y4 ?_|(refine y9 ?_ ?_<;>intro h)|exact y5|fail)
 ·rw[hD6]
  repeat' (first|exact VLe.refl _|exact VLe.any _|exact True.intro|(refine VLe.of_eq (congrArg V.s (?_:S.row 4 5 _=S.row 4 5 _));simp;done)|refine⟨?_,?_⟩)
 ·rw[hD6]
  refine⟨rfl,MemP.op ?_ trivial⟩;rw[List.flatMap_append,←nd_flat r7];rfl
 ·unfold ndB;generalize List.flatMap _ _=cg;cases cg<;>rfl
 refine⟨?_⟩
 repeat'(first|exact y0|refine y1 ?_|refine y2 ?_ ?_|(refine y8 ?_ ?_<;>intro h<;>try exact y6)|(refine wC ?_;first|refine wF 26 (pu d8 ?_)|refine wF 27 (pu d9 ?_)|refine wF 27 (pu e1 ?_)|refine wF 29 (cm c7 ?_)|(refine wF 25 ?_;refine CallG.pl nS [] [b1,b2] (fun _ _=>rfl) f3 rfl rfl rfl rfl rfl (by first|rfl|simp) (by first|rfl|simp|(rw[List.map_append];rfl)) rfl ⟨VLe.refl _,VLe.refl _,trivial⟩ rfl rfl rfl ?_)|(refine wF 25 ?_;refine CallG.pl nS [] [a9,b3] (fun _ _=>rfl) f4 rfl rfl rfl rfl rfl (by first|rfl|simp) (by first|rfl|simp|(rw[List.map_append];rfl)) rfl ⟨VLe.refl _,VLe.refl _,trivial⟩ rfl rfl rfl ?_)|(refine wF 25 ?_;refine CallG.pl nS [] [a8,b4] (fun _ _=>rfl) n8 rfl rfl rfl rfl rfl (by first|rfl|simp) (by first|rfl|simp|(rw[List.map_append];rfl)) rfl ⟨VLe.refl _,VLe.refl _,trivial⟩ rfl rfl rfl ?_))|exact u64_in (by omega) (by omega)|exact i64_in (by omega) (by omega)|refine y3 ?_|refine y7 ?_ ?_|refine y4 ?_|(refine y9 ?_ ?_<;>intro h)|exact y5|fail)
 refine RegX.apr (i:=1) (g:=2) (m:=D6.length) (w:=4) (cs:=D6.flatMap ndC) (foot:=[]) (k:=r8.length) (add:=flatG (fun k=>ndC (r8.getD k dN)) r8.length) rfl rfl (by rw[nd_len]) rfl rfl rfl rfl rfl rfl rfl hsz (by decide) rfl ?_ le8 (by rw[nd_flat];exact nd_ne ne8) (by rw[nd_flat];exact nd_np _) (by rw[hby];omega) (by omega) rfl ?_
 ·trivial
 repeat'(first|refine Ex.canon [0,6,7] 93 [(3,cP),(4,.s (.row 1 2 D7.length))] [(0,some {cells:=[chF l,.int .i64 (i7:Int)],ty:=93}),(1,ndB 1 D7)] rfl rfl ?_ ?_ ?_ (Hold.k ?_)|exact y0|refine y1 ?_|refine y2 ?_ ?_|(refine y8 ?_ ?_<;>intro h<;>try exact y6)|refine y3 ?_|refine y7 ?_ ?_|refine y4 ?_|(refine y9 ?_ ?_<;>intro h)|exact y5|fail)
 ·rw[hD7]
  repeat' (first|exact VLe.refl _|exact VLe.any _|exact True.intro|(refine VLe.of_eq (congrArg V.s (?_:S.row 6 7 _=S.row 6 7 _));simp;done)|refine⟨?_,?_⟩)
 ·rw[hD7]
  refine⟨rfl,MemP.op ?_ trivial⟩;rw[List.flatMap_append,←nd_flat r8];rfl
 ·unfold ndB;generalize List.flatMap _ _=cg;cases cg<;>rfl
 refine⟨?_⟩
 repeat'(first|exact y0|refine y1 ?_|refine y2 ?_ ?_|(refine y8 ?_ ?_<;>intro h<;>try exact y6)|(refine wC ?_;first|refine wF 28 (cm c8 ?_)|refine wF 26 (pu e5 ?_)|refine wF 26 (pu e6 ?_)|refine wF 27 (pu (e7') ?_)|(refine wF 25 ?_;refine CallG.pl nS [] [b6,b7] (fun _ _=>rfl) f8 rfl rfl rfl rfl rfl (by first|rfl|simp) (by first|rfl|simp|(rw[List.map_append];rfl)) rfl ⟨VLe.refl _,VLe.refl _,trivial⟩ rfl rfl rfl ?_)|(refine wF 25 ?_;refine CallG.pl nS [] [b8] (fun _ _=>rfl) f9 rfl rfl rfl rfl rfl (by first|rfl|simp) (by first|rfl|simp|(rw[List.map_append];rfl)) rfl ⟨VLe.refl _,VLe.refl _,trivial⟩ rfl rfl rfl ?_)|(refine wF 25 ?_;refine CallG.pl nS [] [b5,b9] (fun _ _=>rfl) n9 rfl rfl rfl rfl rfl (by first|rfl|simp) (by first|rfl|simp|(rw[List.map_append];rfl)) rfl ⟨VLe.refl _,VLe.refl _,trivial⟩ rfl rfl rfl ?_))|exact u64_in (by omega) (by omega)|exact i64_in (by omega) (by omega)|refine y3 ?_|refine y7 ?_ ?_|refine y4 ?_|(refine y9 ?_ ?_<;>intro h)|exact y5|fail)
 refine RegX.apr (i:=1) (g:=2) (m:=D7.length) (w:=4) (cs:=D7.flatMap ndC) (foot:=[]) (k:=r9.length) (add:=flatG (fun k=>ndC (r9.getD k dN)) r9.length) rfl rfl (by rw[nd_len]) rfl rfl rfl rfl rfl rfl rfl hsz (by decide) rfl ?_ le9 (by rw[nd_flat];exact nd_ne ne9) (by rw[nd_flat];exact nd_np _) (by rw[hby];omega) (by omega) rfl ?_
 ·trivial
 repeat'(first|refine Ex.canon [0,6,7] 93 [(3,cP),(4,.s (.row 1 2 D8.length))] [(0,some {cells:=[chF l,.int .i64 (i8:Int)],ty:=93}),(1,ndB 1 D8)] rfl rfl ?_ ?_ ?_ (Hold.k ?_)|exact y0|refine y1 ?_|refine y2 ?_ ?_|(refine y8 ?_ ?_<;>intro h<;>try exact y6)|refine y3 ?_|refine y7 ?_ ?_|refine y4 ?_|(refine y9 ?_ ?_<;>intro h)|exact y5|fail)
 ·rw[hD8]
  repeat' (first|exact VLe.refl _|exact VLe.any _|exact True.intro|(refine VLe.of_eq (congrArg V.s (?_:S.row 6 7 _=S.row 6 7 _));simp;done)|refine⟨?_,?_⟩)
 ·rw[hD8]
  refine⟨rfl,MemP.op ?_ trivial⟩;rw[List.flatMap_append,←nd_flat r9];rfl
 ·unfold ndB;generalize List.flatMap _ _=cg;cases cg<;>rfl
 refine⟨?_⟩
 repeat'(first|exact y0|refine y1 ?_|refine y2 ?_ ?_|(refine y8 ?_ ?_<;>intro h<;>try exact y6)|(refine wC ?_;first|refine wF 31 (cm c9 ?_))|exact u64_in (by omega) (by omega)|exact i64_in (by omega) (by omega)|refine y3 ?_|refine y7 ?_ ?_|refine y4 ?_|(refine y9 ?_ ?_<;>intro h)|exact y5|fail)
 refine RegX.apr (i:=1) (g:=2) (m:=D8.length) (w:=4) (cs:=D8.flatMap ndC) (foot:=[]) (k:=r10.length) (add:=flatG (fun k=>ndC (r10.getD k dN)) r10.length) rfl rfl (by rw[nd_len]) rfl rfl rfl rfl rfl rfl rfl hsz (by decide) rfl ?_ le10 (by rw[nd_flat];exact nd_ne ne10) (by rw[nd_flat];exact nd_np _) (by rw[hby];omega) (by omega) rfl ?_
 ·trivial
 repeat'(first|refine Ex.canon [0,3,4] 93 [(3,cP),(4,.s (.row 1 2 D9.length))] [(0,some {cells:=[chF l,.int .i64 (i9:Int)],ty:=93}),(1,ndB 1 D9)] rfl rfl ?_ ?_ ?_ (Hold.k ?_)|exact y0|refine y1 ?_|refine y2 ?_ ?_|(refine y8 ?_ ?_<;>intro h<;>try exact y6)|refine y3 ?_|refine y7 ?_ ?_|refine y4 ?_|(refine y9 ?_ ?_<;>intro h)|exact y5|fail)
 ·rw[hD9]
  repeat' (first|exact VLe.refl _|exact VLe.any _|exact True.intro|(refine VLe.of_eq (congrArg V.s (?_:S.row 3 4 _=S.row 3 4 _));simp;done)|refine⟨?_,?_⟩)
 ·rw[hD9]
  refine⟨rfl,MemP.op ?_ trivial⟩;rw[List.flatMap_append,←nd_flat r10];rfl
 ·unfold ndB;generalize List.flatMap _ _=cg;cases cg<;>rfl
 refine⟨?_⟩
 repeat'(first|exact y0|refine y1 ?_|refine y2 ?_ ?_|(refine y8 ?_ ?_<;>intro h<;>try exact y6)|(refine wC ?_;first|refine wF 31 (cm c10 ?_))|exact u64_in (by omega) (by omega)|exact i64_in (by omega) (by omega)|refine y3 ?_|refine y7 ?_ ?_|refine y4 ?_|(refine y9 ?_ ?_<;>intro h)|exact y5|fail)
 refine RegX.apr (i:=1) (g:=2) (m:=D9.length) (w:=4) (cs:=D9.flatMap ndC) (foot:=[]) (k:=r11.length) (add:=flatG (fun k=>ndC (r11.getD k dN)) r11.length) rfl rfl (by rw[nd_len]) rfl rfl rfl rfl rfl rfl rfl hsz (by decide) rfl ?_ le11 (by rw[nd_flat];exact nd_ne ne11) (by rw[nd_flat];exact nd_np _) (by rw[hby];omega) (by omega) rfl ?_
 ·trivial
 repeat'(first|refine Ex.canon [0,3,4] 93 [(3,cP),(4,.s (.row 1 2 D10.length))] [(0,some {cells:=[chF l,.int .i64 (i10:Int)],ty:=93}),(1,ndB 1 D10)] rfl rfl ?_ ?_ ?_ (Hold.k ?_)|exact y0|refine y1 ?_|refine y2 ?_ ?_|(refine y8 ?_ ?_<;>intro h<;>try exact y6)|refine y3 ?_|refine y7 ?_ ?_|refine y4 ?_|(refine y9 ?_ ?_<;>intro h)|exact y5|fail)
 ·rw[hD10]
  repeat' (first|exact VLe.refl _|exact VLe.any _|exact True.intro|(refine VLe.of_eq (congrArg V.s (?_:S.row 3 4 _=S.row 3 4 _));simp;done)|refine⟨?_,?_⟩)
 ·rw[hD10]
  refine⟨rfl,MemP.op ?_ trivial⟩;rw[List.flatMap_append,←nd_flat r11];rfl
 ·unfold ndB;generalize List.flatMap _ _=cg;cases cg<;>rfl
 refine⟨?_⟩
 repeat'(first|exact y0|refine y1 ?_|refine y2 ?_ ?_|(refine y8 ?_ ?_<;>intro h<;>try exact y6)|refine Ex.fzR 2 ndC 4 dN D10 rfl rfl (fun _=>rfl) (fun a j x h=>nd_pure h) (by decide) rfl rfl ?_|refine Fin.le (.inl rfl) rfl (VLe.refl _) rfl|refine y3 ?_|refine y7 ?_ ?_|refine y4 ?_|(refine y9 ?_ ?_<;>intro h)|exact y5|fail)
end Go.Proofs.YtbokilgdefkmiaaGreatDoor
namespace Go.Proofs.YtbokilgdefkmiaaGreatDoor
namespace Ab
open Go
theorem SC.thaw {P:Program} {f:FuncId} {args:List V} {v:V} {n':Nat} {L':Hp} (get:Nat→List S) (sz:Nat) {N:Nat} {c:Option Nat} {bl:Bl} (h:SC P f (.s (.frz get sz N)::args) 0 [] v n' L')
 (hro:bl.ro=false) (hk:bl.kind=none) (hg:∀ k,k<N→(get k).length=sz) (hc:∀ k j x,k<N→(get k)[j]? =some x→bl.cells[k*sz+j]? =some x∧pureS x=true)
 (ha:args.all (okV 0)=true) (hv:∀ (φ ψ:Ph) (x:Value),φ.f=ψ.f→Vr φ v x→Vr ψ v x) (hb:∀ (i:Nat) (b1:Bl),lk L' i=some b1→∀ (φ ψ:Ph) (w:World) (b:Nat×Nat),φ.f=ψ.f→BlAt φ w b b1→BlAt ψ w b b1)
 {L3:Hp} (h0:lk L3 0=some bl) (h3:∀ i,lk L3 (i+1)=(lk L' i).map (renB fun j=>j+1)):
 SC P f (.s (.slc (some (0,0)) N c)::args) 1 [(0,some bl)] (renV (fun j=>j+1) v) (n'+1) L3:=by
 intro φ xs w hx hgd hf;obtain⟨b0,hb0,hat⟩:=hgd.hr 0 bl rfl;obtain⟨φ1,e1,hle,hz,hg1,hsl⟩:=fz_core hgd get sz (i:=0) (N:=N) rfl hro hk hg hc
 have hz0:φ.z b0.1=none:=by
  cases e:φ.z b0.1 with
  |none=>rfl
  |some l=>exact absurd ⟨0,bl,b0,rfl,hb0,rfl,hro⟩ (hgd.fz b0.1 l e).2
 have hlt:=hat.lt
 match xs,hx with
 |[],hx=>exact hx.elim
 |x0::xs,⟨hx0,hx⟩=>
 have hx1:All2 (Vr (cutPh 0 φ1)) (.s (.frz get sz N)::args) (x0::xs):=by
  refine⟨Vr.cut (hsl _ x0 rfl hx0) rfl,?_⟩
  have key:∀ (l:List V) (ys:List Value),l.all (okV 0)=true→All2 (Vr φ) l ys→All2 (Vr (cutPh 0 φ1)) l ys:=by
   intro l
   induction l with
   |nil=>intro ys _ hy;cases ys with
    |nil=>trivial
    |cons _ _=>exact hy.elim
   |cons a t ih=>intro ys ho hy;cases ys with
    |nil=>exact hy.elim
    |cons y ys=>
     rw[List.all_cons,Bool.and_eq_true] at ho;exact⟨Vr.cut (Vr.mono hle hy.1) ho.1,ih ys ho.2 hy.2⟩
  exact key args xs ha hx
 have hg2:Good (cutPh 0 φ1) [] w:=⟨fun i b hi=>(by cases hi),fun i j b b' _ _ hi=>(by cases hi),fun b l hb=>⟨(hg1.fz b l hb).1,fun hw=>by obtain⟨i,b',c',hi,_⟩:=hw;cases hi⟩,hg1.gz⟩
 refine (h (cutPh 0 φ1) (x0::xs) w hx1 hg2 (fun i _=>if_neg (t:=φ1 i) (Nat.not_lt_zero i))).mono ?_;rintro e w' ⟨φ',x,rfl,hvx,hg',hn,st,_,_⟩
 let φ3:Ph:=⟨fun i=>match i with|0=>φ 0|i+1=>φ' i,fun y=>if y=b0.1 then none else φ'.z y⟩
 have z3:∀ y l,φ3.z y=some l→y≠b0.1∧φ'.z y=some l:=by
  intro y l hy;by_cases e:y=b0.1
  ·simp only[φ3,if_pos e] at hy;cases hy
  ·simp only[φ3,if_neg e] at hy;exact⟨e,hy⟩
 have zle:∀ y l,φ.z y=some l→φ3.z y=some l:=by
  intro y l hy
  have hne:y≠b0.1:=fun e=>by subst e;rw[hz0] at hy;cases hy
  simp only[φ3,if_neg hne];exact st.zle y l (hle.z y l hy)
 have fle:∀ i b,φ i=some b→φ3 i=some b:=by
  intro i b hi
  cases i with
  |zero=>exact hi
  |succ i=>rw[hf (i+1) (by omega)] at hi;cases hi
 have new:∀ (j:Nat) (b1:Bl) (d:Nat×Nat),lk L' j=some b1→φ' j=some d→ ¬d.1<w.heap.size:=by
  intro j b1 d hj hd hl;obtain⟨k,b2,c2,hk2,_⟩:=st.fresh j b1 d hj hd hl;cases hk2
 have l3:∀ j b1,lk L3 (j+1)=some b1→∃ b2,lk L' j=some b2∧b1=renB (fun j=>j+1) b2:=by
  intro j b1 hj;rw[h3] at hj
  cases e:lk L' j with
  |none=>rw[e] at hj;cases hj
  |some b2=>rw[e] at hj;exact⟨b2,rfl,by cases hj;rfl⟩
 have keep:w'.heap[b0.1]? =w.heap[b0.1]? :=st.keep b0.1 hlt fun hw=>by obtain⟨i,b',c',hi,_⟩:=hw;cases hi
 have wr:∀ y,Wr φ3 L3 y→y=b0.1∨Wr φ' L' y:=by
  rintro y ⟨i,b1,d,hi,hd,rfl,hr⟩
  cases i with
  |zero=>
   have hd:φ 0=some d:=hd;rw[hb0] at hd;cases hd;exact .inl rfl
  |succ i=>
   obtain⟨b2,q1,rfl⟩:=l3 i b1 hi;exact .inr ⟨i,b2,d,q1,hd,rfl,by rw[renB_ro] at hr;exact hr⟩
 refine⟨φ3,x,rfl,Vr_ren.2 (hv φ' _ x rfl hvx),⟨?_,?_,?_,?_⟩,?_,⟨st.os,st.tape,st.output,st.size,?_,?_,zle,?_⟩,by omega,?_⟩
 ·intro i b1 hi
  cases i with
  |zero=>
   rw[h0] at hi;cases hi;exact⟨b0,hb0,hat.mono ⟨fle,zle⟩ keep⟩
  |succ i=>
   obtain⟨b2,q1,rfl⟩:=l3 i b1 hi;obtain⟨d,q2,q3⟩:=hg'.hr i b2 q1;exact⟨d,q2,BlAt_ren.2 (hb i b2 q1 φ' _ w' d rfl q3)⟩
 ·intro i j b1 b2 d1 d2 hi hj hd1 hd2 he
  cases i with
  |zero=>
   cases j with
   |zero=>exact .inl rfl
   |succ j=>
    exfalso;obtain⟨b3,q1,_⟩:=l3 j b2 hj;have hd1:φ 0=some d1:=hd1;rw[hb0] at hd1;cases hd1;exact new j b3 d2 q1 hd2 (he▸hlt)
  |succ i=>
   obtain⟨b3,q1,rfl⟩:=l3 i b1 hi
   cases j with
   |zero=>
    exfalso;have hd2:φ 0=some d2:=hd2;rw[hb0] at hd2;cases hd2;exact new i b3 d1 q1 hd1 (he▸hlt)
   |succ j=>
    obtain⟨b4,q2,rfl⟩:=l3 j b2 hj
    rcases hg'.inj i j b3 b4 d1 d2 q1 q2 hd1 hd2 he with q|⟨q,r⟩
    ·exact .inl (by rw[q])
    ·exact .inr ⟨by rw[renB_ro];exact q,by rw[renB_ro];exact r⟩
 ·intro y l hy
  obtain⟨q1,q2⟩:=z3 y l hy;refine⟨(hg'.fz y l q2).1,fun hw=>?_⟩
  rcases wr y hw with q|q
  ·exact q1 q
  ·exact (hg'.fz y l q2).2 q
 ·exact hgd.gz.mono zle
 ·intro i hi
  cases i with
  |zero=>omega
  |succ i=>exact hn i (by omega)
 ·intro y hy _
  exact st.keep y hy fun hw=>by obtain⟨i,b',c',hi,_⟩:=hw;cases hi
 ·intro j b1 d hj hd hl
  cases j with
  |zero=>
   rw[h0] at hj;cases hj;exact⟨0,bl,d,rfl,hd,rfl,id,.inl rfl⟩
  |succ j=>
   exfalso;obtain⟨b3,q1,_⟩:=l3 j b1 hj;exact new j b3 d q1 hd hl
 ·intro y l hy
  obtain⟨q1,q2⟩:=z3 y l hy
  rcases st.zfr y l q2 with q|q|q
  ·rcases hz y l q with q|q
   ·exact .inl q
   ·exact .inr (.inr q)
  ·exact .inr (.inl q)
  ·obtain⟨i,b',c',hi,_⟩:=q;cases hi
 ·intro i hi
  cases i with
  |zero=>rfl
  |succ i=>omega
end Ab
end Go.Proofs.YtbokilgdefkmiaaGreatDoor
namespace Go.Proofs.YtbokilgdefkmiaaGreatDoor
open Go Ab
set_option maxRecDepth 100000
theorem all2_cells {a b:Ph}:∀ {cs:List S} {xs:List Value},(∀ s∈cs,∀ v,Sr a s v→Sr b s v)→All2 (Sr a) cs xs→All2 (Sr b) cs xs
 |[],[],_,_=>trivial
 |[],_::_,_,h=>h.elim
 |_::_,[],_,h=>h.elim
 |s::cs,x::xs,k,h=>⟨k s (List.mem_cons_self ..) x h.1,all2_cells (fun s hs=>k s (List.mem_cons_of_mem _ hs)) h.2⟩
theorem ins_any {R:Cd} {s:S} (h:s∈R.flatMap insC) (a b:Ph) (v:Value) (k:Sr a s v):Sr b s v:=by
 obtain⟨x,_,hx⟩:=List.mem_flatMap.1 h;simp only[insC,List.mem_cons,List.mem_nil_iff,or_false] at hx
 rcases hx with rfl|rfl|rfl<;>exact k
theorem ccB_any {R:Cd} {i:Nat} {b1:Bl} (h:lk [(0,ccB 0 R)] i=some b1) (φ ψ:Ph) (w:World) (b:Nat×Nat) (e:φ.f=ψ.f) (k:BlAt φ w b b1):BlAt ψ w b b1:=by
 rw[lk_cons] at h;split at h
 ·cases hR:R.flatMap insC with
  |nil=>rw[ccB,hR] at h;cases h
  |cons c cs=>
   rw[ccB,hR] at h;cases h;obtain⟨pre,xs,rest,fr,p1,p2,p3,p4,p5,p6⟩:=k;refine⟨pre,xs,rest,fr,p1,p2,all2_cells (fun s hs v k=>ins_any (R:=R) (by rw[hR];exact hs) _ _ v k) p3,p4,p5,⟨fun g z hg=>?_,p6.2⟩⟩;obtain⟨q,q1,q2⟩:=p6.1 g z hg;exact⟨q,by rw[←e];exact q1,q2⟩
 ·cases h
theorem tup_any {φ ψ:Ph} {x:Value} {m:Nat} {e:Int} (h:φ.f=ψ.f) (k:Vr φ (.tup [.s (.row 0 1 m),.s (.int .i64 e)]) x):Vr ψ (.tup [.s (.row 0 1 m),.s (.int .i64 e)]) x:=by
 obtain⟨f,z⟩:=φ;obtain⟨f',z'⟩:=ψ;cases h;obtain⟨xs,e1,h1⟩:=k;refine⟨xs,e1,?_⟩
 match xs,h1 with
 |[a,b],⟨h1,h2,_⟩=>exact⟨h1,h2,trivial⟩
theorem lower_w {p:List Nd} {R:Cd} {e:Int} {i:Nat} (h:FC Tryz.prog 12 [nodes p,nI i] 0 [] (.tup [.s (.row 0 1 R.length),.s (.int .i64 e)]) 2 [(0,ccB 0 R)]) (c:Option Nat) (bl:Bl) (hro:bl.ro=false) (hk:bl.kind=none)
 (hc:∀ k j x,k<p.length→(ndC (p.getD k dN))[j]? =some x→bl.cells[k*4+j]? =some x∧pureS x=true):
 FC Tryz.prog 12 [.s (.slc (some (0,0)) p.length c),nI i] 1 [(0,some bl)] (.tup [.s (.row 1 2 R.length),.s (.int .i64 e)]) 3 [(0,some bl),(1,ccB 1 R)]:=by
 refine⟨h.1,SC.thaw (fun k=>ndC (p.getD k dN)) 4 h.2 hro hk (fun _ _=>rfl) hc rfl (fun φ ψ x e k=>tup_any e k) (fun i b1 hl φ ψ w b e k=>ccB_any hl φ ψ w b e k) rfl (fun i=>?_)⟩
 cases i with
 |zero=>show ccB 1 R=(ccB 0 R).map _;cases hR:R.flatMap insC<;>(rw[ccB,ccB,hR];rfl)
 |succ i=>
  show lk [(0,some bl),(1,ccB 1 R)] (i+1+1)=_;rw[lk_cons,lk_cons,lk_cons,if_neg (by omega),if_neg (by omega),if_neg (by omega)];rfl
set_option maxRecDepth 100000
set_option maxHeartbeats 2000000
theorem lower_two (p:List Nd) (hw:wfN p) (hI:wfI p) (i:Nat) (hi:i<p.length) (h14:(p.getD i dN).op=14):∃ (R:Cd) (e:Int),(R=[]∨(0<R.length∧R.length≤900000000∧∃ d:Int×Bool,FC Tryz.prog 13 [.s (.sla 0 1 R.length)] 2 [(0,some (dpB R))] (.tup [.s (.int .i64 d.1),.s (.bool d.2)]) 2 [(0,some (dpB R))]))∧FC Tryz.prog 12 [nodes p,nI i] 0 [] (.tup [.s (.row 0 1 R.length),.s (.int .i64 e)]) 2 [(0,ccB 0 R)]:=by
 cases h:validN p with
 |false=>exact⟨[],1,.inl rfl,lower_no p [(0,1)] (by decide) (check_no p hw h) i fun e=>by have:=e (0,1) (List.mem_singleton.2 rfl);cases this⟩
 |true=>
  obtain⟨hp,t,ha,hv,hd,hs⟩:=valid_forest h;have hck:=check_yes p hw hI h hp t ha hv hs;have hG:=rowG_len hp ha hv hs;by_cases h6:C6 (srtD (rowG p (anS p t).F (anS p t).S t p.length 0 (anS p t).G))
  ·obtain⟨hO,hm6⟩:=c6_nok hI (c6_srt h6)
   obtain⟨b,g1,g2⟩:=met_parts ha hv (by omega) h14;have hlk:=met_lp g2 (hm6 i hi h14);have hbn:=At.size_le (Nat.le_of_lt (At.lt g1)) g1;simp only[Fo.size] at hbn;have hnn:NN (metC (lastBl (t.kid 0 i))):=met_nn (fo_nn (wfI_get hI) _ _ _ g1.2.2.1 g2);have hl:=met_len (lastBl (t.kid 0 i));obtain⟨d,hd0,hdp⟩:=met_depth hI (t:=t) (cs:=[]) (lastBl (t.kid 0 i)) (by omega) hnn;have hy:=lower_yes p hp (by omega) _ hG hck h6 hO t ha hv hs (endsL_ok ha hv hs) i hi h14 b _ g1 g2 hlk hnn d hdp;refine⟨_,_,?_,hy⟩;unfold lowV;split
   ·exact .inr ⟨hl.2,by simp only;omega,d,hdp⟩
   ·exact .inl rfl
  ·exact⟨[],1,.inl rfl,lower_no p _ hG hck i h6⟩
end Go.Proofs.YtbokilgdefkmiaaGreatDoor
namespace Go.Proofs.YtbokilgdefkmiaaGreatDoor
namespace Ab
open Go
section
variable {P:Program} {ops:Array Oper} {d:Bool} {acc:List Row} {os:List Oper} {env:List V} {n:Nat} {L:Hp} {R:Post}
theorem sliceBound_at {w:World} {code:BoundsCode} {kk:IntKind} {h y:Nat} (hh:h≤y):(Instr.sliceBound (.int kk (h:Int)) y code).run P w=.ok h w:=by
 simp only[Instr.sliceBound,asIntOf,Sem.run_bind,Sem.run_pure,Result.andThen_ok];rw[if_pos (by omega)];simp
theorem RegX.sl3 {dst:Option Tmp} {t e:TypeId} {x yh ym:Operand} {t':TypeId} {pos:String} {af:Array Edge} {gd:Option (Nat×Bool)} {i g m sz:Nat} {kh km:IntKind} {zh zm:Int} (h:Nat)
 (hx:ev env x=.s (.row i g m)) (hm0:0<m) (hyh:ev env yh=.s (.int kh zh)) (hym:ev env ym=.s (.int km zm)) (hzh:zh=(h:Int)) (hzm:zm=(m:Int)) (hle:h≤m) (ht:P.underlying t=some (.slice e)) (hsz:elemSz P e=some sz)
 (hw:want ops env ⟨dst,.slice t x none (some yh) (some ym),t',pos,af,gd⟩=some true)
 (k:RegX P ops d (pushR d ⟨dst,.slice t x none (some yh) (some ym),t',pos,af,gd⟩ [] [] acc) os (setD env dst (.s (.slc (some (i,0)) h (some m)))) n L R):RegX P ops d acc (⟨dst,.slice t x none (some yh) (some ym),t',pos,af,gd⟩::os) env n L R:=by
 subst hzh;subst hzm;refine RegX.op (foot:=[]) (wr:=[]) hw (OpL.light fun φ a w hop' _=>?_) (Nat.le_refl _) k;have g1:=hop' x (by simp[Op.operands]);have g2:=hop' yh (by simp[Op.operands]);have g3:=hop' ym (by simp[Op.operands]);rw[hx] at g1;rw[hyh] at g2;rw[hym] at g3
 rcases g1 with ⟨h0,_⟩|⟨_,b,c,hb,hg,hv,hc⟩
 ·omega
 have e2:a.eval yh=.int kh (h:Int):=g2;have e3:a.eval ym=.int km (m:Int):=g3;refine⟨.slice (some ⟨b.1,b.2,none⟩) h m,?_,b,m,hb,by rw[Nat.zero_add],hle,.inr rfl⟩
 have hsb:(Instr.sliceBounds true m c none (some (.int kh (h:Int))) (some (.int km (m:Int)))).run P w=.ok (0,h,m) w:=by
  simp only[Instr.sliceBounds,Sem.run_bind,sliceBound_at hc,Result.andThen_ok,sliceBound_at hle,Sem.run_pure]
 simp only[execOp,hv,e2,e3,Option.map_none,Option.map_some,Instr.sliceAt,Instr.slice,Sem.run_bind,run_underlying ht,Result.andThen_ok,hsb,elemSz_ok hsz,Sem.run_pure,Nat.sub_zero];rw[if_neg (by omega)];simp[addr_add]
theorem RegX.sl2 {dst:Option Tmp} {t e:TypeId} {x yh:Operand} {t':TypeId} {pos:String} {af:Array Edge} {gd:Option (Nat×Bool)} {i m K sz:Nat} {kh:IntKind} {zh:Int} (h:Nat)
 (hx:ev env x=.s (.slc (some (i,0)) m (some K))) (hyh:ev env yh=.s (.int kh zh)) (hzh:zh=(h:Int)) (h0:0<K) (hle:h≤K) (ht:P.underlying t=some (.slice e)) (hsz:elemSz P e=some sz)
 (hw:want ops env ⟨dst,.slice t x none (some yh) none,t',pos,af,gd⟩=some true)
 (k:RegX P ops d (pushR d ⟨dst,.slice t x none (some yh) none,t',pos,af,gd⟩ [] [] acc) os (setD env dst (.s (.slc (some (i,0)) h (some K)))) n L R):RegX P ops d acc (⟨dst,.slice t x none (some yh) none,t',pos,af,gd⟩::os) env n L R:=by
 subst hzh;refine RegX.op (foot:=[]) (wr:=[]) hw (OpL.light fun φ a w hop' _=>?_) (Nat.le_refl _) k;have g1:=hop' x (by simp[Op.operands]);have g2:=hop' yh (by simp[Op.operands]);rw[hx] at g1;rw[hyh] at g2;obtain⟨b,k',hb,e1,hmk,hc⟩:=g1
 obtain rfl:K=k':=by
  rcases hc with hc|hc
  ·cases hc
  ·exact Option.some.inj hc
 have e2:a.eval yh=.int kh (h:Int):=g2;refine⟨.slice (some ⟨b.1,b.2,none⟩) h K,?_,b,K,hb,by rw[Nat.zero_add],hle,.inr rfl⟩
 have hsb:(Instr.sliceBounds true m K none (some (.int kh (h:Int))) none).run P w=.ok (0,h,K) w:=by
  simp[Instr.sliceBounds,sliceBound_at hle]
 simp only[execOp,e1,e2,Option.map_none,Option.map_some,Instr.sliceAt,Instr.slice,Sem.run_bind,run_underlying ht,Result.andThen_ok,hsb,elemSz_ok hsz,Sem.run_pure,Nat.sub_zero];rw[if_neg (by omega)];simp[addr_add]
theorem RegX.cap1 {dst:Option Tmp} {x:Operand} {tx:TypeId} {t:TypeId} {pos:String} {af:Array Edge} {gd:Option (Nat×Bool)} {i o m K:Nat} (hx:ev env x=.s (.slc (some (i,o)) m (some K))) (hty:isSliceTy P tx=true)
 (hw:want ops env ⟨dst,.call ⟨.builtin .cap,#[x],#[tx]⟩,t,pos,af,gd⟩=some true) (k:RegX P ops d (pushR d ⟨dst,.call ⟨.builtin .cap,#[x],#[tx]⟩,t,pos,af,gd⟩ [] [] acc) os (setD env dst (.s (.int .i64 (K:Int)))) n L R):
 RegX P ops d acc (⟨dst,.call ⟨.builtin .cap,#[x],#[tx]⟩,t,pos,af,gd⟩::os) env n L R:=by
 refine RegX.op (foot:=[]) (wr:=[]) hw (OpL.light fun φ a w hop' _=>?_) (Nat.le_refl _) k;have g1:=hop' x (by simp[Op.operands,Call.operands]);rw[hx] at g1;obtain⟨b,k',_,e1,_,hc⟩:=g1
 obtain rfl:K=k':=by
  rcases hc with hc|hc
  ·cases hc
  ·exact Option.some.inj hc
 refine⟨.int .i64 (K:Int),?_,rfl⟩;unfold isSliceTy at hty;split at hty
 ·rename_i e hu
  simp only[execOp,resolve,Sem.run_bind,Sem.run_pure,Result.andThen_ok,invoke,builtin,List.map_toArray,List.map_cons,List.map_nil,e1];simp[Builtin.cap_,run_underlying hu,goInt]
 ·cases hty
end
theorem BlAt.gh0 {φ:Ph} {w:World} {b:Nat×Nat} {bl:Bl} (h:BlAt φ w b bl):BlAt φ w b {bl with gh:=none}:=by
 obtain⟨pre,xs,rest,fr,h1,hp,h2,h3,h4,h5⟩:=h;exact⟨pre,xs,rest,fr,h1,hp,h2,h3,h4,(fun g z e=>by cases e),h5.2⟩
theorem SC.thawB {P:Program} {f:FuncId} {args:List V} {t:Bool} (get:Nat→List S) (sz:Nat) {N:Nat} {c:Option Nat} {bl:Bl} (h:SC P f (.s (.frz get sz N)::args) 0 [] (.s (.bool t)) 0 [])
 (hro:bl.ro=false) (hk:bl.kind=none) (hg:∀ k,k<N→(get k).length=sz) (hc:∀ k j x,k<N→(get k)[j]? =some x→bl.cells[k*sz+j]? =some x∧pureS x=true)
 (ha:args.all (okV 0)=true):SC P f (.s (.slc (some (0,0)) N c)::args) 1 [(0,some bl)] (.s (.bool t)) 1 [(0,some bl)]:=
 SC.thaw get sz h hro hk hg hc ha (fun φ ψ x e k=>k) (fun i b1 h=>by cases h) rfl (fun i=>by
  show lk [(0,some bl)] (i+1)=_
  rw[lk_cons,if_neg (by omega)];rfl)
section
variable {P:Program} {b:Nat} {env:List V} {n:Nat} {L:Hp} {R:Post}
theorem Ex.ghAt (id:Nat) {ops:Array Oper} {d:Bool} (i:Nat) {bl:Bl} {g:Nat×Nat} (hl:lk L i=some bl) (hg:bl.gh=some g) {L':Hp} (hL:put L i (some {bl with gh:=none})=L') (k:Ex P b (.region id ops d) env n L' R):Ex P b (.region id ops d) env n L R:=by
 subst hL;refine Ex.subF (fun j bl' hj=>?_) k;rw[lk_put] at hj;split at hj
 ·rename_i e;subst e;cases hj
  exact⟨bl,hl,rfl,fun φ w b h=>h.gh0⟩
 ·exact⟨bl',hj,rfl,fun _ _ _ h=>h⟩
end
theorem SLe.slaslc {i g n:Nat}:SLe (.sla i g n) (.slc (some (i,0)) n none):=fun φ x h=>by
 obtain⟨b,k,h1,_,h2,h3⟩:=h;exact⟨b,k,h1,by rw[Nat.zero_add];exact h2,h3,.inl rfl⟩
theorem SLe.rownil {i g:Nat}:SLe (.row i g 0) (.slc none 0 (some 0)):=fun φ x h=>by
 rcases h with ⟨_,e⟩|⟨h,_⟩
 ·exact⟨rfl,rfl,e⟩
 ·omega
end Ab
end Go.Proofs.YtbokilgdefkmiaaGreatDoor
