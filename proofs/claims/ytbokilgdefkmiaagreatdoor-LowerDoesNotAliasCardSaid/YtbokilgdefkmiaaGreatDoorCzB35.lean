import Derived.Test.YtbokilgdefkmiaaGreatDoorCzB33
set_option linter.unusedSimpArgs false
set_option linter.unusedVariables false
namespace Go.Proofs.YtbokilgdefkmiaaGreatDoor
open Go Ab
set_option maxRecDepth 100000
set_option maxHeartbeats 40000000
theorem depth_c (C:Cd) (hC:C.length≤900000000) (h0:0<C.length) (hn:∀ x∈C,0≤x.int) (d:Int×Bool) (hd:d=depB C (2*C.length+2) (A0 C.length) [0] 0):
 FC Tryz.prog 13 [.s (.sla 0 1 C.length)] 2 [(0,some (dpB C))] (.tup [.s (.int .i64 d.1),.s (.bool d.2)]) 2 [(0,some (dpB C))]:=by
 have hsz:(Tryz.prog.types[3]).size=1:=by kernel_rfl
 have hby:(Tryz.prog.types[3]).bytes=8:=by kernel_rfl
 have hsz3:(Tryz.prog.types[40]).size=3:=by kernel_rfl
 refine FC.walk (by kernel_rfl) Tryz.func13 rfl rfl ?_
 repeat'(first|exact y0|refine y1 ?_|refine y2 ?_ ?_|(refine y8 ?_ ?_<;>intro h<;>try exact y6)|refine y3 ?_|refine y7 ?_ ?_|refine y4 ?_|(refine y9 ?_ ?_<;>intro h)|exact y5|fail)
 refine RegX.opA [.idx C.length,.idx C.length] rfl rfl ⟨rfl,rfl,Nat.le_refl _,?_,by omega⟩ ?_
 ·rw[hby];omega
 repeat'(first|exact y0|refine y1 ?_|refine y2 ?_ ?_|(refine y8 ?_ ?_<;>intro h<;>try exact y6)|refine y3 ?_|refine y7 ?_ ?_|refine y4 ?_|(refine y9 ?_ ?_<;>intro h)|exact y5|fail)
 refine Ex.inv (σ:=Nat) (fun j=>[(23,nI j)]) (fun j=>[(0,some (dpB C)),(2,some (itB (negU C.length j)))]) (fun j=>j≤C.length) (fun j=>C.length-j) 0 rfl (fun _=>rfl) (Nat.zero_le _) ⟨VLe.refl _,trivial⟩ ⟨rfl,by rw[itB,negU_zero];rfl,trivial⟩ ?_;intro j hj;by_cases hlt:j<C.length
 ·have e6:=negU_set hlt
  repeat'(first|exact y0|refine y1 ?_|refine y2 ?_ ?_|(refine y8 ?_ ?_<;>intro h<;>try exact y6)|refine RegX.sto [.cells (itC (negU C.length (j+1)))] rfl rfl ⟨?_,?_⟩ rfl ?_|refine y3 ?_|refine y7 ?_ ?_|refine y4 ?_|(refine y9 ?_ ?_<;>intro h)|exact y5|fail)
  all_goals try first
   |omega
   |(show plus 0 (times j (Tryz.prog.types[3]).size)+1≤(itC (negU C.length j)).length;rw[hsz,plus_eq,times_eq,List.length_map,negU_len];omega)
   |(show _=(itC (negU C.length j)).set (plus 0 (times j (Tryz.prog.types[3]).size)) _;rw[hsz,plus_eq,times_eq,Nat.zero_add,Nat.mul_one,←e6];exact List.map_set)
  exact LoopR.same (j+1) hlt (by omega) rfl ⟨VLe.refl _,trivial⟩ ⟨rfl,rfl,trivial⟩ rfl rfl (by decide)
 have hj':j=C.length:=by omega
 subst hj'
 have hA0:(itC (negU C.length C.length)).set 0 (.int .i64 0)=itC (A0 C.length):=by rw[A0,itC,itC,List.map_set]
 repeat'(first|refine Ex.capS 7 3 1 rfl rfl rfl (Nat.le_refl _) rfl rfl (Ex.subF (L':=[(0,some (dpB C)),(2,some (itB (A0 C.length))),(3,some (brB 4 [0]))]) (SubQ.subF ⟨⟨_,rfl,rfl,fun _ _ _ h=>h⟩,⟨_,rfl,rfl,fun _ _ _ h=>h⟩,⟨_,rfl,rfl,fun _ _ _ h=>BlAt.more (BlAt.flat rfl h)⟩,trivial⟩) (Ex.canon [0,1,2,3,4] 119 [(0,.s (.sla 0 1 C.length)),(4,.s (.slc (some (2,0)) C.length (some C.length))),(6,.s (.int .i64 0)),(7,.s (.sla 3 4 1))] [(0,some (dpB C)),(2,some (itB (A0 C.length))),(3,some (brB 4 [0]))] rfl rfl ⟨VLe.refl _,VLe.refl _,VLe.refl _,VLe.refl _,trivial⟩ ⟨rfl,rfl,rfl,trivial⟩ rfl ?_))|exact y0|refine y1 ?_|refine y2 ?_ ?_|(refine y8 ?_ ?_<;>intro h<;>try exact y6)|refine RegX.sto [.cells (itC (A0 C.length))] rfl rfl ⟨?_,?_⟩ rfl ?_|refine y3 ?_|refine y7 ?_ ?_|refine y4 ?_|(refine y9 ?_ ?_<;>intro h)|exact y5|fail)
 all_goals try first
  |omega
  |(show plus 0 (times 0 (Tryz.prog.types[3]).size)+1≤(itC (negU C.length C.length)).length;rw[hsz,plus_eq,times_eq,List.length_map,negU_len];omega)
  |(show _=(itC (negU C.length C.length)).set (plus 0 (times 0 (Tryz.prog.types[3]).size)) _;rw[hsz,plus_eq,times_eq];exact hA0.symm)
 have hneg:=negs_rep C.length
 have hAl:(A0 C.length).length=C.length:=by unfold A0;rw[List.length_set,negU_len]
 have hA00:(A0 C.length).getD 0 0=0:=by
  unfold A0;rw[List.getD_eq_getElem?_getD,List.getElem?_set];simp[negU_len,h0]
 have hAb:∀ a∈A0 C.length,-1≤a∧a≤0:=by
  intro a ha;unfold A0 at ha
  rcases List.mem_or_eq_of_mem_set ha with h|h
  ·rw[negU_all] at h
   have:=(List.mem_replicate.1 h).2;omega
  ·omega
 refine Ex.inv (σ:=Nat×List Int×List Nat×Int) (fun q=>[(6,.s (.int .i64 q.2.2.2)),(7,.s (.sla 3 4 q.2.2.1.length))]) (fun q=>[(0,some (dpB C)),(2,some (itB q.2.1)),(3,some (brB 4 q.2.2.1))])
  (fun q=>DOK C.length q.2.1 q.2.2.1∧2*negs q.2.1+q.2.2.1.length<q.1∧d=depB C q.1 q.2.1 q.2.2.1 q.2.2.2∧(∀ a∈q.2.1,-1≤a∧a+q.1≤2*C.length+2)∧(0≤q.2.2.2∧q.2.2.2+q.1≤2*C.length+2)) (fun q=>2*negs q.2.1+q.2.2.1.length) (2*C.length+2,A0 C.length,[0],0) rfl (fun _=>rfl)
  ⟨⟨hAl,fun i hi=>by rw[List.mem_singleton] at hi;subst hi;exact⟨h0,by rw[hA00];exact Int.le_refl _⟩⟩,by simp only[List.length_cons,List.length_nil];omega,hd,fun a ha=>by have:=hAb a ha;simp only;omega,by simp only;omega⟩ ⟨VLe.refl _,VLe.refl _,trivial⟩ ⟨rfl,rfl,rfl,trivial⟩ ?_
 rintro⟨f,A,W,m⟩ ⟨i1,i2,i3,i4,i5,i6⟩;simp only at i1 i2 i3 i4 i5 i6 ⊢
 cases f with
 |zero=>omega
 |succ f=>
  rcases List.eq_nil_or_concat W with rfl|⟨W0,i0,rfl⟩
  ·rw[depB_nil] at i3
   subst i3
   repeat'(first|exact y0|refine y1 ?_|refine y2 ?_ ?_|(refine y8 ?_ ?_<;>intro h<;>try exact y6)|exact⟨.inl rfl,_,[],VLe.refl _,EndOK.by rfl ⟨rfl,trivial⟩ rfl rfl rfl rfl⟩|refine y3 ?_|refine y7 ?_ ?_|refine y4 ?_|(refine y9 ?_ ?_<;>intro h)|exact y5|fail)
  ·rw[List.concat_eq_append] at*
   have hl:(W0++[i0]).length=W0.length+1:=by rw[List.length_append];rfl
   rw[hl] at i2;have hi0:=i1.w i0 (by simp)
   have hil:i0<A.length:=by rw[i1.len];exact hi0.1
   rw[depB_step] at i3;have hlc:=ld_int (bl:=brB 4 (W0++[i0])) (sz:=(Tryz.prog.types[3]).size) (o:=plus 0 (times W0.length (Tryz.prog.types[3]).size)) rfl rfl (br_get (W0++[i0]) (n:=W0.length) (by rw[hl];omega)) (by rw[hsz,plus_eq,times_eq]<;>omega);rw[show (W0++[i0]).getD W0.length 0=i0 by rw[List.getD_eq_getElem?_getD,List.getElem?_append_right (Nat.le_refl _),Nat.sub_self]<;>rfl] at hlc;have hlA:=ld_int (bl:=itB A) (sz:=(Tryz.prog.types[3]).size) (o:=plus 0 (times i0 (Tryz.prog.types[3]).size)) rfl rfl (it_get A hil) (by rw[hsz,plus_eq,times_eq]<;>omega);have hin:=in_get (C:=C) (i:=i0) hi0.1;have hlI:=ld_agg (bl:=dpB C) (sz:=(Tryz.prog.types[40]).size) (o:=plus 0 (times i0 (Tryz.prog.types[40]).size)) (i:=i0*3) (l:=insC (C.getD i0 dI)) rfl rfl (by rw[hsz3];exact hin.2) (by rw[hsz3];exact hin.1) (by rw[hsz3,plus_eq,times_eq,Nat.zero_add])
   have hxn:0≤(C.getD i0 dI).int:=by
    rw[List.getD_eq_getElem?_getD,List.getElem?_eq_getElem hi0.1];exact hn _ (List.getElem_mem hi0.1)
   generalize hx:C.getD i0 dI=x at*;obtain⟨xop,xint,xstr⟩:=x;simp only at i3 hxn;obtain⟨xm,rfl⟩:=Int.eq_ofNat_of_zero_le hxn;have hef:=eff_c xop (xm:Int) xstr (by omega);have hen:=effB_nn (op:=xop) (n:=(xm:Int)) (by omega);have hsu:=suc_l xop xm xstr i0 _ rfl (by have:=hi0.1;omega);rw[suc_map ⟨xop,(xm:Int),xstr⟩ xm i0 rfl] at i3;generalize effB xop (xm:Int)=ee at*;obtain⟨er,ep,eok⟩:=ee;simp only at i3 hen hef;rw[hl]
   cases eok with
   |false=>
    rw[if_pos (.inl rfl)] at i3;subst i3
    repeat'(first|refine Ex.canonR 15 [0,1,2,5,6] 119 [(0,.s (.sla 0 1 C.length)),(4,.s (.slc (some (2,0)) C.length (some C.length))),(6,.s (.int .i64 m)),(7,.s (.sla 3 4 W0.length)),(8,nI i0)] [(0,some (dpB C)),(2,some (itB A)),(3,some (brB 4 W0))] rfl rfl ⟨VLe.refl _,VLe.refl _,VLe.refl _,VLe.refl _,VLe.refl _,trivial⟩ ⟨rfl,rfl,(by show some ({cells:=_,ty:=_,more:=true,sym:=true,flat:=_,gh:=some (_,_)}:Bl)=_;rw[hsz];rfl),trivial⟩ rfl ?_|exact y0|refine y1 ?_|refine y2 ?_ ?_|(refine y8 ?_ ?_<;>intro h<;>try exact y6)|(refine wC ?_;first|refine wF 14 (pu hef ?_))|refine RegX.chunkN 4 rfl rfl ?_ (RegX.slO [.win 0 W0.length (W0.map fun (j:Nat)=>S.int .i64 (j:Int))] rfl rfl ?_ ?_)|refine RegX.chunkN 4 rfl rfl ?_ (RegX.eqv 39 (v:=nI (W0.length:Nat)) (congrArg nI (by push_cast;omega)) rfl ?_)|refine RegX.ldS [.val (nI (i0:Nat))] rfl rfl hlc rfl ?_|refine RegX.ldS [.val (.agg (insC ⟨xop,(xm:Int),xstr⟩))] rfl rfl hlI rfl ?_|refine RegX.ldS [.val (.s (.int .i64 (A.getD i0 0)))] rfl rfl hlA rfl ?_|exact⟨.inl rfl,_,[],VLe.refl _,EndOK.by rfl ⟨rfl,trivial⟩ rfl rfl rfl rfl⟩|refine y3 ?_|refine y7 ?_ ?_|refine y4 ?_|(refine y9 ?_ ?_<;>intro h)|exact y5|fail)
    all_goals try first
     |omega
     |(rw[hsz];show W0.length*1≤((W0++[i0]).map fun (j:Nat)=>S.int .i64 (j:Int)).length;rw[List.length_map,hl];omega)
     |(rw[hsz,Nat.zero_mul,List.drop_zero,Nat.sub_zero,Nat.mul_one];show _=List.take W0.length ((W0++[i0]).map fun (j:Nat)=>S.int .i64 (j:Int));rw[List.map_append,List.take_left' (by rw[List.length_map])])
   |true=>
    by_cases hb:A.getD i0 0<er
    ·rw[if_pos (.inr hb)] at i3
     subst i3
     repeat'(first|refine Ex.canonR 15 [0,1,2,5,6] 119 [(0,.s (.sla 0 1 C.length)),(4,.s (.slc (some (2,0)) C.length (some C.length))),(6,.s (.int .i64 m)),(7,.s (.sla 3 4 W0.length)),(8,nI i0)] [(0,some (dpB C)),(2,some (itB A)),(3,some (brB 4 W0))] rfl rfl ⟨VLe.refl _,VLe.refl _,VLe.refl _,VLe.refl _,VLe.refl _,trivial⟩ ⟨rfl,rfl,(by show some ({cells:=_,ty:=_,more:=true,sym:=true,flat:=_,gh:=some (_,_)}:Bl)=_;rw[hsz];rfl),trivial⟩ rfl ?_|exact y0|refine y1 ?_|refine y2 ?_ ?_|(refine y8 ?_ ?_<;>intro h<;>try exact y6)|(refine wC ?_;first|refine wF 14 (pu hef ?_))|refine RegX.chunkN 4 rfl rfl ?_ (RegX.slO [.win 0 W0.length (W0.map fun (j:Nat)=>S.int .i64 (j:Int))] rfl rfl ?_ ?_)|refine RegX.chunkN 4 rfl rfl ?_ (RegX.eqv 39 (v:=nI (W0.length:Nat)) (congrArg nI (by push_cast;omega)) rfl ?_)|refine RegX.ldS [.val (nI (i0:Nat))] rfl rfl hlc rfl ?_|refine RegX.ldS [.val (.agg (insC ⟨xop,(xm:Int),xstr⟩))] rfl rfl hlI rfl ?_|refine RegX.ldS [.val (.s (.int .i64 (A.getD i0 0)))] rfl rfl hlA rfl ?_|exact⟨.inl rfl,_,[],VLe.refl _,EndOK.by rfl ⟨rfl,trivial⟩ rfl rfl rfl rfl⟩|refine y3 ?_|refine y7 ?_ ?_|refine y4 ?_|(refine y9 ?_ ?_<;>intro h)|exact y5|fail)
     all_goals try first
      |omega
      |(rw[hsz];show W0.length*1≤((W0++[i0]).map fun (j:Nat)=>S.int .i64 (j:Int)).length;rw[List.length_map,hl];omega)
      |(rw[hsz,Nat.zero_mul,List.drop_zero,Nat.sub_zero,Nat.mul_one];show _=List.take W0.length ((W0++[i0]).map fun (j:Nat)=>S.int .i64 (j:Int));rw[List.map_append,List.take_left' (by rw[List.length_map])])
    ·rw[if_neg (by simp only[Bool.true_eq_false,false_or];exact hb)] at i3
     have hs2:(sucN xop xm i0).length≤2:=by
      unfold sucN
      repeat' split
      all_goals simp
     have hbd:=i4 (A.getD i0 0) (by rw[List.getD_eq_getElem?_getD,List.getElem?_eq_getElem hil];exact List.getElem_mem hil)
     repeat'(first|refine Ex.canonR 15 [0,1,2,5,6] 119 [(0,.s (.sla 0 1 C.length)),(4,.s (.slc (some (2,0)) C.length (some C.length))),(6,.s (.int .i64 m)),(7,.s (.sla 3 4 W0.length)),(8,nI i0)] [(0,some (dpB C)),(2,some (itB A)),(3,some (brB 4 W0))] rfl rfl ⟨VLe.refl _,VLe.refl _,VLe.refl _,VLe.refl _,VLe.refl _,trivial⟩ ⟨rfl,rfl,(by show some ({cells:=_,ty:=_,more:=true,sym:=true,flat:=_,gh:=some (_,_)}:Bl)=_;rw[hsz];rfl),trivial⟩ rfl ?_|exact y0|refine y1 ?_|refine y2 ?_ ?_|(refine y8 ?_ ?_<;>intro h<;>try exact y6)|(refine wC ?_;first|refine wF 14 (pu hef ?_)|refine wF 39 (pu hsu ?_))|refine RegX.chunkN 4 rfl rfl ?_ (RegX.slO [.win 0 W0.length (W0.map fun (j:Nat)=>S.int .i64 (j:Int))] rfl rfl ?_ ?_)|refine RegX.chunkN 4 rfl rfl ?_ (RegX.eqv 39 (v:=nI (W0.length:Nat)) (congrArg nI (by push_cast;omega)) rfl ?_)|refine RegX.ldS [.val (nI (i0:Nat))] rfl rfl hlc rfl ?_|refine RegX.ldS [.val (.agg (insC ⟨xop,(xm:Int),xstr⟩))] rfl rfl hlI rfl ?_|refine RegX.ldS [.val (.s (.int .i64 (A.getD i0 0)))] rfl rfl hlA rfl ?_|refine RegX.max3 rfl rfl rfl rfl ?_|refine y3 ?_|refine y7 ?_ ?_|refine y4 ?_|(refine y9 ?_ ?_<;>intro h)|exact y5|fail)
     all_goals try first
      |omega
      |(rw[hsz];show W0.length*1≤((W0++[i0]).map fun (j:Nat)=>S.int .i64 (j:Int)).length;rw[List.length_map,hl];omega)
      |(rw[hsz,Nat.zero_mul,List.drop_zero,Nat.sub_zero,Nat.mul_one];show _=List.take W0.length ((W0++[i0]).map fun (j:Nat)=>S.int .i64 (j:Int));rw[List.map_append,List.take_left' (by rw[List.length_map])])
     all_goals try exact i64_in (by omega) (by omega)
     refine Ex.inv (σ:=Nat×List Int×List Nat) (fun q=>[(7,.s (.sla 3 4 q.2.2.length)),(88,nI q.1)]) (fun q=>[(0,some (dpB C)),(2,some (itB q.2.1)),(3,some (brB 4 q.2.2))])
      (fun q=>q.1≤(sucN xop xm i0).length∧tgtB C.length (A.getD i0 0-er+ep) (((sucN xop xm i0).drop q.1).map fun (j:Nat)=>(j:Int)) q.2.1 q.2.2=tgtB C.length (A.getD i0 0-er+ep) ((sucN xop xm i0).map fun (j:Nat)=>(j:Int)) A W0∧DOK C.length q.2.1 q.2.2∧2*negs q.2.1+q.2.2.length≤2*negs A+W0.length∧(∀ y∈q.2.1,-1≤y∧y+f≤2*C.length+2)) (fun q=>(sucN xop xm i0).length-q.1) (0,A,W0) rfl (fun _=>rfl)
      ⟨Nat.zero_le _,rfl,i1.pop,Nat.le_refl _,fun y hy=>by have:=i4 y hy;omega⟩ ⟨VLe.refl _,VLe.refl _,trivial⟩ ⟨rfl,rfl,rfl,trivial⟩ ?_
     rintro⟨k,A1,W1⟩ ⟨j1,j2,j3,j4,j5⟩;simp only at j1 j2 j3 j4 j5 ⊢;by_cases hk:k<(sucN xop xm i0).length
     ·have hd:(sucN xop xm i0).drop k=(sucN xop xm i0).getD k 0::(sucN xop xm i0).drop (k+1):=by
       rw[List.drop_eq_getElem_cons hk,List.getD_eq_getElem?_getD,List.getElem?_eq_getElem hk];rfl
      rw[hd,List.map_cons,tgtB_cons] at j2;by_cases hz:C.length≤(sucN xop xm i0).getD k 0
      ·rw[if_pos hz] at j2
       rw[←j2] at i3;subst i3
       repeat'(first|exact y0|refine y1 ?_|refine y2 ?_ ?_|(refine y8 ?_ ?_<;>intro h<;>try exact y6)|exact⟨.inl rfl,_,[],VLe.refl _,EndOK.by rfl ⟨rfl,trivial⟩ rfl rfl rfl rfl⟩|refine y3 ?_|refine y7 ?_ ?_|refine y4 ?_|(refine y9 ?_ ?_<;>intro h)|exact y5|fail)
       all_goals try first
        |omega
        |exact u64_id (by omega) (by omega)
      ·rw[if_neg hz] at j2
       have hzl:(sucN xop xm i0).getD k 0<A1.length:=by rw[j3.len];omega
       have hlz:=ld_int (bl:=itB A1) (sz:=(Tryz.prog.types[3]).size) (o:=plus 0 (times ((sucN xop xm i0).getD k 0) (Tryz.prog.types[3]).size)) rfl rfl (it_get A1 hzl) (by rw[hsz,plus_eq,times_eq]<;>omega);by_cases h1:A1.getD ((sucN xop xm i0).getD k 0) 0<0
       ·rw[if_pos h1] at j2
        have hla:(W1++[(sucN xop xm i0).getD k 0]).length=W1.length+1:=by rw[List.length_append];rfl
        have htk:=tgtB_ok (N:=C.length) (a:=A.getD i0 0-er+ep) (by omega) [(((sucN xop xm i0).getD k 0:Nat):Int)] A1 W1 (A1.set ((sucN xop xm i0).getD k 0) (A.getD i0 0-er+ep)) (W1++[(sucN xop xm i0).getD k 0]) (fun z hz'=>by rw[List.mem_singleton] at hz';subst hz';omega) j3 (by rw[tgtB_cons,if_neg hz,if_pos h1];rfl)
        repeat'(first|exact y0|refine y1 ?_|refine y2 ?_ ?_|(refine y8 ?_ ?_<;>intro h<;>try exact y6)|refine RegX.ldS [.val (.s (.int .i64 (A1.getD ((sucN xop xm i0).getD k 0) 0)))] rfl rfl hlz rfl ?_|refine RegX.sto [.cells (itC (A1.set ((sucN xop xm i0).getD k 0) (A.getD i0 0-er+ep)))] rfl rfl ⟨?_,?_⟩ rfl ?_|refine RegX.app [.app (W1++[(sucN xop xm i0).getD k 0]).length ((W1++[(sucN xop xm i0).getD k 0]).map fun (j:Nat)=>S.int .i64 (j:Int))] rfl rfl ?_ rfl rfl rfl ?_|refine y3 ?_|refine y7 ?_ ?_|refine y4 ?_|(refine y9 ?_ ?_<;>intro h)|exact y5|fail)
        all_goals try first
         |omega
         |exact u64_id (by omega) (by omega)
         |exact i64_in (by omega) (by omega)
         |(rw[hsz];show W1.length*1≤(W1.map fun (j:Nat)=>S.int .i64 (j:Int)).length;rw[List.length_map];omega)
         |(rw[hsz];exact Nat.le_refl _)
         |(rw[hsz,List.map_append,Nat.mul_one];show _=List.take W1.length (W1.map fun (j:Nat)=>S.int .i64 (j:Int))++_;rw[List.take_of_length_le (by rw[List.length_map];exact Nat.le_refl _)];rfl)
         |(rw[hby,hla];omega)
         |(show plus 0 (times ((sucN xop xm i0).getD k 0) (Tryz.prog.types[3]).size)+1≤(itC A1).length;rw[hsz,plus_eq,times_eq,List.length_map];omega)
         |(show _=(itC A1).set (plus 0 (times ((sucN xop xm i0).getD k 0) (Tryz.prog.types[3]).size)) _;rw[hsz,plus_eq,times_eq,Nat.zero_add,Nat.mul_one];exact List.map_set)
        refine LoopR.move (k+1,A1.set ((sucN xop xm i0).getD k 0) (A.getD i0 0-er+ep),W1++[((sucN xop xm i0).getD k 0)]) ⟨by simp only;omega,j2,htk.1,by have:=htk.2;simp only;omega,fun y hy=>?_⟩ (by simp only;omega) [0,1,2,6,7] rfl ?_ ?_ rfl
        ·rcases List.mem_or_eq_of_mem_set hy with q|q
         ·exact j5 y q
         ·rw[q];omega
        ·repeat' (first|exact VLe.refl _|exact VLe.any _|exact True.intro|refine⟨?_,?_⟩)
        ·exact⟨rfl,rfl,(by show some ({cells:=_,ty:=_,more:=true,sym:=true,flat:=_,gh:=some (_,_)}:Bl)=_;rw[hsz];rfl),trivial⟩
       ·rw[if_neg h1] at j2
        by_cases h2:A1.getD ((sucN xop xm i0).getD k 0) 0=A.getD i0 0-er+ep
        ·rw[if_pos h2] at j2
         repeat'(first|exact y0|refine y1 ?_|refine y2 ?_ ?_|(refine y8 ?_ ?_<;>intro h<;>try exact y6)|refine RegX.ldS [.val (.s (.int .i64 (A1.getD ((sucN xop xm i0).getD k 0) 0)))] rfl rfl hlz rfl ?_|refine y3 ?_|refine y7 ?_ ?_|refine y4 ?_|(refine y9 ?_ ?_<;>intro h)|exact y5|fail)
         all_goals try first
          |omega
          |exact u64_id (by omega) (by omega)
          |exact i64_in (by omega) (by omega)
         exact LoopR.same (k+1,A1,W1) ⟨by simp only;omega,j2,j3,j4,j5⟩ (by simp only;omega) rfl ⟨VLe.refl _,VLe.refl _,trivial⟩ ⟨rfl,rfl,rfl,trivial⟩ rfl rfl (by decide)
        ·rw[if_neg h2] at j2
         rw[←j2] at i3;subst i3
         repeat'(first|exact y0|refine y1 ?_|refine y2 ?_ ?_|(refine y8 ?_ ?_<;>intro h<;>try exact y6)|refine RegX.ldS [.val (.s (.int .i64 (A1.getD ((sucN xop xm i0).getD k 0) 0)))] rfl rfl hlz rfl ?_|exact⟨.inl rfl,_,[],VLe.refl _,EndOK.by rfl ⟨rfl,trivial⟩ rfl rfl rfl rfl⟩|refine y3 ?_|refine y7 ?_ ?_|refine y4 ?_|(refine y9 ?_ ?_<;>intro h)|exact y5|fail)
         all_goals first
          |omega
          |exact u64_id (by omega) (by omega)
          |exact i64_in (by omega) (by omega)
     ·have hkk:k=(sucN xop xm i0).length:=by omega
      subst hkk;rw[List.drop_length] at j2;have j2':some (A1,W1)=tgtB C.length (A.getD i0 0-er+ep) ((sucN xop xm i0).map fun (j:Nat)=>(j:Int)) A W0:=j2;rw[←j2'] at i3;have i3:d=depB C f A1 W1 (max (max m (A.getD i0 0)) (A.getD i0 0-er+ep)):=i3
      repeat'(first|exact y0|refine y1 ?_|refine y2 ?_ ?_|(refine y8 ?_ ?_<;>intro h<;>try exact y6)|refine y3 ?_|refine y7 ?_ ?_|refine y4 ?_|(refine y9 ?_ ?_<;>intro h)|exact y5|fail)
      exact LoopR.same (f,A1,W1,max (max m (A.getD i0 0)) (A.getD i0 0-er+ep)) ⟨j3,by simp only;omega,i3,j5,by simp only;omega⟩ (by simp only[hl];omega) rfl ⟨VLe.refl _,VLe.refl _,trivial⟩ ⟨rfl,rfl,rfl,trivial⟩ rfl rfl (by decide)
end Go.Proofs.YtbokilgdefkmiaaGreatDoor
