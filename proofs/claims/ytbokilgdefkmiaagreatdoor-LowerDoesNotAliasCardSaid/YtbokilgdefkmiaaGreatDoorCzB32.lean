import Derived.Test.YtbokilgdefkmiaaGreatDoorCzB31
set_option linter.unusedSimpArgs false
set_option linter.unusedVariables false
namespace Go.Proofs.YtbokilgdefkmiaaGreatDoor
open Go Ab
set_option maxRecDepth 100000
set_option maxHeartbeats 2000000
theorem while_c (p:List Nd) (hp:p.length≤2048) (hO:NOK p) (E:List Nat) (hE:EOK p E) (N:Nat) (ih:BL p E N) (x:Nd) (k:Fo) (i:Nat) (c:Int) (Λ:Lp) (lp:Int) (C:Cd) (B:List Nat) (hN:k.size≤N) (ha:(Fo.cons x k .nil).At p i) (hv:(Fo.cons x k .nil).V [(false,c)]) (ho32:x.op=32) (hmt:Λ.mt lp B) (ho:Λ.ok C (k.size+1)) (hC:C.length+3*k.size+3≤900000000):
 FC Tryz.prog 100 [.s (.ptr (some (0,0))),nI i] 9 (slL p E C Λ) .any 15 (slL' p E (stE x k (stmC 1 k) (stmC 3 k) lp C B).1 Λ (Λ.af (whE x (whB 1 k) (whB 3 k)) (stE x k (stmC 1 k) (stmC 3 k) lp C B).2)):=by
 have h3:elemSz Tryz.prog 40=some 3:=by kernel_rfl
 have h1:elemSz Tryz.prog 29=some 1:=by kernel_rfl
 have hsz2:(Tryz.prog.types[147]).size=2:=by kernel_rfl
 have hby2:(Tryz.prog.types[147]).bytes=32:=by kernel_rfl
 have hsz1:(Tryz.prog.types[3]).size=1:=by kernel_rfl
 have hi:=At.lt ha;have hcx:=At.get ha;have hel:=hE.len;have hsz:=At.size_le (Nat.le_of_lt hi) ha;obtain⟨e,ke,b1,l1,rfl,a1,v1,w1⟩:=wh_kids hv ho32;have ha1:=ha.2.2.1
 have hae:(Fo.cons e ke .nil).At p (i+1):=⟨ha1.1,ha1.2.1,ha1.2.2.1,trivial⟩
 have ha2:=ha1.2.2.2
 obtain⟨j1,hj1⟩:∃ j:Nat,j=i+1+1+ke.size:=⟨_,rfl⟩
 have hee:E.getD (i+1) 0=j1:=by rw[hE.get hae,hj1]
 rw[←hj1] at ha2;simp only[Fo.size,Nat.add_zero] at hN hC hsz ho
 have hexp:∀ xv,isCell xv=true→FC Tryz.prog 97 [.s (.ptr (some (0,0))),nI (i+1:Nat)] 5 (cdL p E C (.cst xv)) .any 7 (cdL' p E (eE e ke C) (.cst xv)):=fun xv hx=>exp_all p hp hO E hE (ke.size+1) e ke (i+1) 101 C xv (Nat.lt_succ_self _) hae v1 a1 hx (by omega)
 have hle:(eE e ke C).length≤C.length+(3*ke.size+1):=exp_le e ke C;have hge:=eE_ge e ke C;have e4:cod 4 (.cons e ke (.cons b1 l1 .nil)) C=eE e ke C:=rfl;have f1e:stmC 1 (.cons e ke (.cons b1 l1 .nil))=stmC 0 l1:=rfl;rw[whE_32 ho32,stE_32 ho32,f1e,e4];generalize hC1:eE e ke C=C1 at*
 have hem1:∀ xv,isCell xv=true→FC Tryz.prog 38 [.s (.ptr (some (0,0))),nI 25,nU 0,sV []] 5 (cdL p E C1 (.cst xv)) (nI C1.length) 7 (cdL' p E (em C1 25 0 []) (.cst xv)):=fun xv hx=>emit_c p E C1 (by omega) xv 25 0 []
 have hh0:=here_c p E C.length (by omega);have hl2:=em_ln C1 25 0 []
 have hbl:∀ (K:List S) (mm:Nat),ZOK K→K.length=2*mm→mm+l1.size≤100000→FC Tryz.prog 37 [.s (.ptr (some (0,0))),nI j1] 9 (slL p E (em C1 25 0 []) (.top K mm C.length [C1.length])) .any 15 (slL' p E (stmC 0 l1 C.length (em C1 25 0 []) [C1.length]).1 (.top K mm C.length [C1.length]) (.top K mm C.length (stmC 0 l1 C.length (em C1 25 0 []) [C1.length]).2)):=fun K mm z1 z2 z3=>
  ih b1 l1 j1 (.top K mm C.length [C1.length]) C.length (em C1 25 0 []) [C1.length] (by omega) ⟨ha2.1,ha2.2.1,ha2.2.2.1,trivial⟩ w1 ⟨rfl,rfl⟩ ⟨z1,z2,by simp,by rw[hl2];simp,fun j hj=>by rw[List.mem_singleton] at hj;subst hj;rw[hl2];omega,z3⟩ (fun w hw=>by cases hw) (by rw[hl2];omega)
 have g1:GR (3*l1.size) (em C1 25 0 []) [C1.length] (stmC 0 l1 C.length (em C1 25 0 []) [C1.length]):=stm_gr l1 0 _ _ _;have hlR:=g1.le;have hgR:=g1.ge
 have hbR:=g1.br fun j hj=>by rw[List.mem_singleton] at hj;subst hj;rw[hl2];omega
 have hnR:=g1.bl;have hnb:=g1.bn (by rw[hl2];simp);simp only[List.length_cons,List.length_nil] at hnR
 have hem2:∀ xv,isCell xv=true→FC Tryz.prog 38 [.s (.ptr (some (0,0))),nI 24,nU C.length,sV []] 5 (cdL p E (stmC 0 l1 C.length (em C1 25 0 []) [C1.length]).1 (.cst xv)) (nI (stmC 0 l1 C.length (em C1 25 0 []) [C1.length]).1.length) 7 (cdL' p E (em (stmC 0 l1 C.length (em C1 25 0 []) [C1.length]).1 24 C.length []) (.cst xv)):=fun xv hx=>emit_c p E _ (by omega) xv 24 C.length []
 have hZ:=Lp.ok_Z ho;generalize stmC 0 l1 C.length (em C1 25 0 []) [C1.length]=R at*;have hlD:=em_ln R.1 24 C.length [];have hh1:=here_c p E (em R.1 24 C.length []).length (by omega)
 have hpl:∀ n:Nat,((R.2.take n).foldl (fun D j=>pat D j (R.1.length+1:Nat)) (em R.1 24 C.length [])).length=R.1.length+1:=fun n=>by rw[pats_ln,hlD]
 have hps:∀ n,n<R.2.length→(R.2.take (n+1)).foldl (fun D j=>pat D j (R.1.length+1:Nat)) (em R.1 24 C.length [])=pat ((R.2.take n).foldl (fun D j=>pat D j (R.1.length+1:Nat)) (em R.1 24 C.length [])) (R.2.getD n 0) (R.1.length+1:Nat):=fun n hn=>by
  rw[List.take_succ_eq_append_getElem hn,List.foldl_append,List.getD_eq_getElem?_getD,List.getElem?_eq_getElem hn];rfl
 have hbD:∀ n,n<R.2.length→R.2.getD n 0<R.1.length:=fun n hn=>by
  rw[List.getD_eq_getElem?_getD,List.getElem?_eq_getElem hn];exact hbR _ (List.getElem_mem hn)
 refine FC.walk (by kernel_rfl) Tryz.func100 rfl rfl ?_
 rcases hΛ:Λ with (_|_)|⟨K,mm,st,B0⟩
 ·have hx1:=FC.sw hexp (.slc none 0 (some 0)) rfl
  have hx2:=FC.sw hem1 (.slc none 0 (some 0)) rfl;have hx3:=FC.sw hem2 (.sla 3 4 (0+1)) rfl;have hbc:=hbl [] 0 (fun s hs=>by cases hs) rfl (by have:=At.lt ha2;omega)
  repeat'(first|refine Ex.capC 15 1 13 1 rfl rfl rfl rfl (by decide) rfl (Nat.le_refl _) rfl (Ex.subF (L':=(0,some (cdB p E 11 (em C1 25 0 []).length (.sla 15 16 (0+1))))::(11,ccB 11 (em C1 25 0 []))::(15,some (lpB 15 (topC [] C.length 13 17 1)))::(13,some (brB 17 [C1.length]))::[]) (SubQ.subF ⟨⟨_,rfl,rfl,fun _ _ _ h=>h⟩,SubQ.op rfl ⟨⟨_,(by show some ({cells:=_,ty:=_,more:=true,sym:=true,flat:=_,gh:=some (_,_)}:Bl)=_;rw[hsz2];rfl),rfl,fun _ _ _ h=>h⟩,⟨_,rfl,rfl,fun _ _ _ h=>BlAt.more (BlAt.flat rfl h)⟩,trivial⟩⟩) ?_)|exact y0|refine y1 ?_|refine y2 ?_ ?_|(refine y8 ?_ ?_<;>intro h<;>try exact y6)|(refine wC ?_;first|(refine wF 162 ?_;refine CallG.mv [0,1,2] 0 hh0 rfl rfl ⟨VLe.refl _,trivial⟩ rfl rfl (fun φ w b=>BlAt.view 3 rfl) rfl ⟨⟨rfl,_,rfl,rfl,fun h=>h⟩,trivial⟩ rfl rfl rfl rfl ?_)|(refine wF 97 ?_;refine CallG.cd 1 hx1 rfl rfl rfl rfl rfl rfl rfl rfl rfl ⟨VLe.refl _,VLe.refl _,trivial⟩ rfl rfl ?_)|(refine wF 38 ?_;refine CallG.cd 9 hx2 rfl rfl rfl rfl rfl rfl rfl rfl rfl ⟨VLe.refl _,VLe.refl _,VLe.refl _,VLe.refl _,trivial⟩ rfl rfl ?_)|(refine wF 37 ?_;refine CallG.su 11 15 13 17 5 6 [] hbc ⟨true,_,rfl⟩ ⟨rfl,rfl⟩ rfl rfl ⟨rfl,rfl⟩ rfl rfl rfl rfl ⟨VLe.refl _,VLe.of_eq (congrArg nI (by rw[hee])),trivial⟩ rfl rfl ?_)|(refine wF 38 ?_;refine CallG.cl 18 20 (.sla 20 21 (0+1)) hx3 rfl (rfl) rfl rfl rfl rfl rfl rfl rfl rfl ⟨VLe.refl _,VLe.refl _,VLe.refl _,VLe.refl _,trivial⟩ rfl rfl ?_))|refine RegX.app [.app (0+1) ([]++[.int .u64 C.length,.slc (some (13,0)) 1 (some 1)])] rfl rfl ?_ rfl rfl rfl ?_|refine y3 ?_|refine y7 ?_ ?_|refine y4 ?_|(refine y9 ?_ ?_<;>intro h)|exact y5|fail)
  all_goals try omega
  all_goals try first
   |(rw[hsz2];exact Nat.le_refl _)
   |(rw[hby2];omega)
  repeat'(first|exact y0|refine y1 ?_|refine y2 ?_ ?_|(refine y8 ?_ ?_<;>intro h<;>try exact y6)|refine RegX.ldS [.val (.s (.sla 22 23 R.2.length))] rfl rfl ?_ rfl ?_|refine y3 ?_|refine y7 ?_ ?_|refine y4 ?_|(refine y9 ?_ ?_<;>intro h)|exact y5|fail)
  refine Ex.inv (σ:=Nat) (fun j=>[(56,nI j)]) (fun j=>(0,some (cdB p E 24 (em R.1 24 C.length []).length (.sla 20 21 (0+1))))::(24,ccB 24 ((R.2.take j).foldl (fun D j=>pat D j (R.1.length+1:Nat)) (em R.1 24 C.length [])))::(20,some (lpB 20 (topC [] C.length 22 23 R.2.length)))::(22,some (brB 23 R.2))::[]) (fun j=>j≤R.2.length) (fun j=>R.2.length-j) 0 rfl (fun _=>rfl) (Nat.zero_le _) ⟨VLe.refl _,trivial⟩ ⟨rfl,SubP.op rfl ⟨rfl,rfl,trivial⟩⟩ ?_;intro j hj;by_cases hlt:j<R.2.length
  ·have hb:=hbD j hlt
   repeat'(first|exact y0|refine y1 ?_|refine y2 ?_ ?_|(refine y8 ?_ ?_<;>intro h<;>try exact y6)|(refine wC ?_;first|(refine wF 162 ?_;refine CallG.mv [0,24,25] 0 hh1 rfl rfl ⟨VLe.refl _,trivial⟩ rfl rfl (fun φ w b=>BlAt.view 3 rfl) rfl ⟨⟨rfl,_,rfl,rfl,fun h=>h⟩,trivial⟩ rfl rfl rfl rfl ?_))|refine RegX.ldS [.val (nI (R.2.getD j 0:Nat))] rfl rfl ?_ rfl ?_|refine RegX.ixr (sz:=3) (R.2.getD j 0) rfl rfl rfl (by rw[hlD];omega) rfl h3 rfl (RegX.chunkN 1 rfl rfl ⟨trivial,trivial⟩ (RegX.pat (R.2.getD j 0) (R.1.length+1:Nat) rfl (by rw[plus_eq];rfl) rfl (congrArg Int.ofNat hlD) rfl (by rw[hpl];omega) h1 rfl ?_))|refine y3 ?_|refine y7 ?_ ?_|refine y4 ?_|(refine y9 ?_ ?_<;>intro h)|exact y5|fail)
   all_goals try first
    |omega
    |(show (match (R.2.map fun (j:Nat)=>S.int .i64 (j:Int))[plus 0 (times j (Tryz.prog.types[3]).size)]? with|some x=>some (V.s x)|none=>none)=_;rw[hsz1,plus_eq,times_eq,Nat.zero_add,Nat.mul_one,br_get _ hlt])
   exact LoopR.same (j+1) hlt (by omega) rfl ⟨VLe.refl _,trivial⟩ ⟨rfl,SubP.op (by rw[hps j hlt];rfl) ⟨rfl,rfl,trivial⟩⟩ rfl (okH_cd rfl rfl rfl rfl (okH_op rfl rfl (okH_cons rfl (okB_lp rfl rfl rfl rfl) rfl))) (by decide)
  ·have hj':j=R.2.length:=by omega
   subst hj';rw[List.take_length]
   repeat'(first|exact y0|refine y1 ?_|refine y2 ?_ ?_|(refine y8 ?_ ?_<;>intro h<;>try exact y6)|refine RegX.chunkN 11 rfl rfl ?_ (RegX.opA [.win 0 0 []] rfl rfl ?_ ?_)|refine y3 ?_|refine y7 ?_ ?_|refine y4 ?_|(refine y9 ?_ ?_<;>intro h)|exact y5|fail)
   exact Fin.stP 24 26 5 6 (.out true) (.inr rfl) rfl (pats_ln _ _ _).symm rfl (by show some ({cells:=_,ty:=_,more:=true,sym:=true,flat:=_,gh:=some (_,_)}:Bl)=_;rw[hsz2];rfl) rfl rfl (fun s hs=>by cases hs) rfl rfl
 ·have hx1:=FC.sw hexp (.sla 3 4 0) rfl
  have hx2:=FC.sw hem1 (.sla 3 4 0) rfl;have hx3:=FC.sw hem2 (.sla 3 4 (0+1)) rfl;have hbc:=hbl [] 0 (fun s hs=>by cases hs) rfl (by have:=At.lt ha2;omega)
  repeat'(first|refine Ex.capC 15 1 13 1 rfl rfl rfl rfl (by decide) rfl (Nat.le_refl _) rfl (Ex.subF (L':=(0,some (cdB p E 11 (em C1 25 0 []).length (.sla 15 16 (0+1))))::(11,ccB 11 (em C1 25 0 []))::(15,some (lpB 15 (topC [] C.length 13 17 1)))::(13,some (brB 17 [C1.length]))::[]) (SubQ.subF ⟨⟨_,rfl,rfl,fun _ _ _ h=>h⟩,SubQ.op rfl ⟨⟨_,(by show some ({cells:=_,ty:=_,more:=true,sym:=true,flat:=_,gh:=some (_,_)}:Bl)=_;rw[hsz2];rfl),rfl,fun _ _ _ h=>h⟩,⟨_,rfl,rfl,fun _ _ _ h=>BlAt.more (BlAt.flat rfl h)⟩,trivial⟩⟩) ?_)|exact y0|refine y1 ?_|refine y2 ?_ ?_|(refine y8 ?_ ?_<;>intro h<;>try exact y6)|(refine wC ?_;first|(refine wF 162 ?_;refine CallG.mv [0,1,2] 0 hh0 rfl rfl ⟨VLe.refl _,trivial⟩ rfl rfl (fun φ w b=>BlAt.view 3 rfl) rfl ⟨⟨rfl,_,rfl,rfl,fun h=>h⟩,trivial⟩ rfl rfl rfl rfl ?_)|(refine wF 97 ?_;refine CallG.cd 1 hx1 rfl rfl rfl rfl rfl rfl rfl rfl rfl ⟨VLe.refl _,VLe.refl _,trivial⟩ rfl rfl ?_)|(refine wF 38 ?_;refine CallG.cd 9 hx2 rfl rfl rfl rfl rfl rfl rfl rfl rfl ⟨VLe.refl _,VLe.refl _,VLe.refl _,VLe.refl _,trivial⟩ rfl rfl ?_)|(refine wF 37 ?_;refine CallG.su 11 15 13 17 5 6 [] hbc ⟨true,_,rfl⟩ ⟨rfl,rfl⟩ rfl rfl ⟨rfl,rfl⟩ rfl rfl rfl rfl ⟨VLe.refl _,VLe.of_eq (congrArg nI (by rw[hee])),trivial⟩ rfl rfl ?_)|(refine wF 38 ?_;refine CallG.cl 18 20 (.sla 20 21 (0+1)) hx3 rfl (rfl) rfl rfl rfl rfl rfl rfl rfl rfl ⟨VLe.refl _,VLe.refl _,VLe.refl _,VLe.refl _,trivial⟩ rfl rfl ?_))|refine RegX.app [.app (0+1) ([]++[.int .u64 C.length,.slc (some (13,0)) 1 (some 1)])] rfl rfl ?_ rfl rfl rfl ?_|refine y3 ?_|refine y7 ?_ ?_|refine y4 ?_|(refine y9 ?_ ?_<;>intro h)|exact y5|fail)
  all_goals try omega
  all_goals try first
   |(rw[hsz2];exact Nat.le_refl _)
   |(rw[hby2];omega)
  repeat'(first|exact y0|refine y1 ?_|refine y2 ?_ ?_|(refine y8 ?_ ?_<;>intro h<;>try exact y6)|refine RegX.ldS [.val (.s (.sla 22 23 R.2.length))] rfl rfl ?_ rfl ?_|refine y3 ?_|refine y7 ?_ ?_|refine y4 ?_|(refine y9 ?_ ?_<;>intro h)|exact y5|fail)
  refine Ex.inv (σ:=Nat) (fun j=>[(56,nI j)]) (fun j=>(0,some (cdB p E 24 (em R.1 24 C.length []).length (.sla 20 21 (0+1))))::(24,ccB 24 ((R.2.take j).foldl (fun D j=>pat D j (R.1.length+1:Nat)) (em R.1 24 C.length [])))::(20,some (lpB 20 (topC [] C.length 22 23 R.2.length)))::(22,some (brB 23 R.2))::[]) (fun j=>j≤R.2.length) (fun j=>R.2.length-j) 0 rfl (fun _=>rfl) (Nat.zero_le _) ⟨VLe.refl _,trivial⟩ ⟨rfl,SubP.op rfl ⟨rfl,rfl,trivial⟩⟩ ?_;intro j hj;by_cases hlt:j<R.2.length
  ·have hb:=hbD j hlt
   repeat'(first|exact y0|refine y1 ?_|refine y2 ?_ ?_|(refine y8 ?_ ?_<;>intro h<;>try exact y6)|(refine wC ?_;first|(refine wF 162 ?_;refine CallG.mv [0,24,25] 0 hh1 rfl rfl ⟨VLe.refl _,trivial⟩ rfl rfl (fun φ w b=>BlAt.view 3 rfl) rfl ⟨⟨rfl,_,rfl,rfl,fun h=>h⟩,trivial⟩ rfl rfl rfl rfl ?_))|refine RegX.ldS [.val (nI (R.2.getD j 0:Nat))] rfl rfl ?_ rfl ?_|refine RegX.ixr (sz:=3) (R.2.getD j 0) rfl rfl rfl (by rw[hlD];omega) rfl h3 rfl (RegX.chunkN 1 rfl rfl ⟨trivial,trivial⟩ (RegX.pat (R.2.getD j 0) (R.1.length+1:Nat) rfl (by rw[plus_eq];rfl) rfl (congrArg Int.ofNat hlD) rfl (by rw[hpl];omega) h1 rfl ?_))|refine y3 ?_|refine y7 ?_ ?_|refine y4 ?_|(refine y9 ?_ ?_<;>intro h)|exact y5|fail)
   all_goals try first
    |omega
    |(show (match (R.2.map fun (j:Nat)=>S.int .i64 (j:Int))[plus 0 (times j (Tryz.prog.types[3]).size)]? with|some x=>some (V.s x)|none=>none)=_;rw[hsz1,plus_eq,times_eq,Nat.zero_add,Nat.mul_one,br_get _ hlt])
   exact LoopR.same (j+1) hlt (by omega) rfl ⟨VLe.refl _,trivial⟩ ⟨rfl,SubP.op (by rw[hps j hlt];rfl) ⟨rfl,rfl,trivial⟩⟩ rfl (okH_cd rfl rfl rfl rfl (okH_op rfl rfl (okH_cons rfl (okB_lp rfl rfl rfl rfl) rfl))) (by decide)
  ·have hj':j=R.2.length:=by omega
   subst hj';rw[List.take_length]
   repeat'(first|exact y0|refine y1 ?_|refine y2 ?_ ?_|(refine y8 ?_ ?_<;>intro h<;>try exact y6)|refine RegX.chunkN 11 rfl rfl ?_ (RegX.opA [.win 0 0 []] rfl rfl ?_ ?_)|refine y3 ?_|refine y7 ?_ ?_|refine y4 ?_|(refine y9 ?_ ?_<;>intro h)|exact y5|fail)
   exact Fin.stP 24 26 5 6 (.out true) (.inr rfl) rfl (pats_ln _ _ _).symm rfl (by show some ({cells:=_,ty:=_,more:=true,sym:=true,flat:=_,gh:=some (_,_)}:Bl)=_;rw[hsz2];rfl) rfl rfl (fun s hs=>by cases hs) rfl rfl
 ·have hx1:=FC.sw hexp (.sla 3 4 (mm+1)) rfl
  have hx2:=FC.sw hem1 (.sla 3 4 (mm+1)) rfl;have hx3:=FC.sw hem2 (.sla 3 4 ((mm+1)+1)) rfl;rw[hΛ] at ho hZ;have hbc:=FC.swK (K:=K) (st:=st) (fun xv hx=>hbl (K++[.int .u64 st,.cst xv]) (mm+1) (ZOK.cst (K:=K) hZ st xv) (by rw[List.length_append];have:=ho.2.1;simp only[List.length_cons,List.length_nil];omega) (by have:=ho.2.2.2.2.2;omega)) (.sla 7 8 B0.length) rfl;have hKl:K.length=2*mm:=ho.2.1
  have hTl:(topC K st 5 6 B0.length).length=2*(mm+1):=by rw[List.length_append,hKl];simp only[List.length_cons,List.length_nil];omega
  have hmm:mm≤100000:=by have:=ho.2.2.2.2.2;omega
  repeat'(first|refine Ex.capC 15 ((topC K st 5 6 B0.length).length+1) 13 1 rfl (get_end _ _ _) rfl rfl (by decide) rfl (Nat.le_refl _) rfl (Ex.subF (L':=(0,some (cdB p E 11 (em C1 25 0 []).length (.sla 15 16 ((mm+1)+1))))::(11,ccB 11 (em C1 25 0 []))::(15,some (lpB 15 (topC (topC K st 5 6 B0.length) C.length 13 17 1)))::(13,some (brB 17 [C1.length]))::[(5,some (brB 6 B0))]) (SubQ.subF ⟨⟨_,rfl,rfl,fun _ _ _ h=>h⟩,SubQ.op rfl ⟨⟨_,(by show some ({cells:=List.set _ _ _,ty:=_,more:=true,sym:=true,flat:=_,gh:=some (_,_)}:Bl)=_;rw[set_end,hsz2];rfl),rfl,fun _ _ _ h=>h⟩,⟨_,rfl,rfl,fun _ _ _ h=>BlAt.more (BlAt.flat rfl h)⟩,⟨⟨_,rfl,rfl,fun _ _ _ h=>h⟩,trivial⟩⟩⟩) ?_)|exact y0|refine y1 ?_|refine y2 ?_ ?_|(refine y8 ?_ ?_<;>intro h<;>try exact y6)|(refine wC ?_;first|(refine wF 162 ?_;refine CallG.mv [0,1,2] 0 hh0 rfl rfl ⟨VLe.refl _,trivial⟩ rfl rfl (fun φ w b=>BlAt.view 3 rfl) rfl ⟨⟨rfl,_,rfl,rfl,fun h=>h⟩,trivial⟩ rfl rfl rfl rfl ?_)|(refine wF 97 ?_;refine CallG.cd 1 hx1 rfl rfl rfl rfl rfl rfl rfl rfl rfl ⟨VLe.refl _,VLe.refl _,trivial⟩ rfl rfl ?_)|(refine wF 38 ?_;refine CallG.cd 9 hx2 rfl rfl rfl rfl rfl rfl rfl rfl rfl ⟨VLe.refl _,VLe.refl _,VLe.refl _,VLe.refl _,trivial⟩ rfl rfl ?_)|(refine wF 37 ?_;refine CallG.su 11 15 13 17 5 6 (topC K st 5 6 B0.length) hbc ⟨true,_,rfl⟩ ⟨topC_all (ZOK.all (K:=K) hZ 9) rfl rfl,topC_map (ZOK.map (K:=K) hZ _)⟩ rfl rfl ⟨rfl,rfl⟩ rfl rfl rfl rfl ⟨VLe.refl _,VLe.of_eq (congrArg nI (by rw[hee])),trivial⟩ rfl rfl ?_)|(refine wF 38 ?_;refine CallG.cl 18 20 (.sla 20 21 ((mm+1)+1)) hx3 rfl (rfl) rfl rfl rfl rfl rfl rfl rfl rfl ⟨VLe.refl _,VLe.refl _,VLe.refl _,VLe.refl _,trivial⟩ rfl rfl ?_))|refine RegX.app [.app ((mm+1)+1) ((topC K st 5 6 B0.length)++[.int .u64 C.length,.slc (some (13,0)) 1 (some 1)])] rfl rfl ?_ rfl rfl rfl ?_|refine y3 ?_|refine y7 ?_ ?_|refine y4 ?_|(refine y9 ?_ ?_<;>intro h)|exact y5|fail)
  all_goals try omega
  all_goals try first
   |(rw[hsz2];exact Nat.le_refl _)
   |(rw[hby2];omega)
   |(rw[hsz2];show (mm+1)*2≤(topC K st 5 6 B0.length).length;omega)
   |(rw[hsz2,List.take_of_length_le (show (topC K st 5 6 B0.length).length≤(mm+1)*2 by omega)];rfl)
  refine RegX.chunkN 10 rfl rfl ?_ (RegX.eqv 51 (v:=nI (mm+1:Nat)) (congrArg nI (by push_cast;omega)) rfl ?_)
  ·repeat' (first|exact trivial|exact i64_in (by omega) (by omega)|refine⟨?_,?_⟩)
  repeat'(first|exact y0|refine y1 ?_|refine y2 ?_ ?_|(refine y8 ?_ ?_<;>intro h<;>try exact y6)|refine RegX.ldS [.val (.s (.sla 22 23 R.2.length))] rfl rfl ?_ rfl ?_|refine y3 ?_|refine y7 ?_ ?_|refine y4 ?_|(refine y9 ?_ ?_<;>intro h)|exact y5|fail)
  ·show (match (topC (topC K st 5 6 B0.length) C.length 22 23 R.2.length)[plus (plus 0 (times (mm+1) (Tryz.prog.types[147]).size)) 1]? with|some x=>some (V.s x)|none=>none)=_
   rw[show plus (plus 0 (times (mm+1) (Tryz.prog.types[147]).size)) 1=(topC K st 5 6 B0.length).length+1 by rw[hsz2,plus_eq,plus_eq,times_eq,hTl];omega,get_end]
  refine Ex.inv (σ:=Nat) (fun j=>[(56,nI j)]) (fun j=>(0,some (cdB p E 24 (em R.1 24 C.length []).length (.sla 20 21 ((mm+1)+1))))::(24,ccB 24 ((R.2.take j).foldl (fun D j=>pat D j (R.1.length+1:Nat)) (em R.1 24 C.length [])))::(20,some (lpB 20 (topC (topC K st 5 6 B0.length) C.length 22 23 R.2.length)))::(22,some (brB 23 R.2))::[(5,some (brB 6 B0))]) (fun j=>j≤R.2.length) (fun j=>R.2.length-j) 0 rfl (fun _=>rfl) (Nat.zero_le _) ⟨VLe.refl _,trivial⟩ ⟨rfl,SubP.op rfl ⟨rfl,rfl,⟨rfl,trivial⟩⟩⟩ ?_;intro j hj;by_cases hlt:j<R.2.length
  ·have hb:=hbD j hlt
   repeat'(first|exact y0|refine y1 ?_|refine y2 ?_ ?_|(refine y8 ?_ ?_<;>intro h<;>try exact y6)|(refine wC ?_;first|(refine wF 162 ?_;refine CallG.mv [0,24,25] 0 hh1 rfl rfl ⟨VLe.refl _,trivial⟩ rfl rfl (fun φ w b=>BlAt.view 3 rfl) rfl ⟨⟨rfl,_,rfl,rfl,fun h=>h⟩,trivial⟩ rfl rfl rfl rfl ?_))|refine RegX.ldS [.val (nI (R.2.getD j 0:Nat))] rfl rfl ?_ rfl ?_|refine RegX.ixr (sz:=3) (R.2.getD j 0) rfl rfl rfl (by rw[hlD];omega) rfl h3 rfl (RegX.chunkN 1 rfl rfl ⟨trivial,trivial⟩ (RegX.pat (R.2.getD j 0) (R.1.length+1:Nat) rfl (by rw[plus_eq];rfl) rfl (congrArg Int.ofNat hlD) rfl (by rw[hpl];omega) h1 rfl ?_))|refine y3 ?_|refine y7 ?_ ?_|refine y4 ?_|(refine y9 ?_ ?_<;>intro h)|exact y5|fail)
   all_goals try first
    |omega
    |(show (match (R.2.map fun (j:Nat)=>S.int .i64 (j:Int))[plus 0 (times j (Tryz.prog.types[3]).size)]? with|some x=>some (V.s x)|none=>none)=_;rw[hsz1,plus_eq,times_eq,Nat.zero_add,Nat.mul_one,br_get _ hlt])
   exact LoopR.same (j+1) hlt (by omega) rfl ⟨VLe.refl _,trivial⟩ ⟨rfl,SubP.op (by rw[hps j hlt];rfl) ⟨rfl,rfl,⟨rfl,trivial⟩⟩⟩ rfl (okH_cd rfl rfl rfl rfl (okH_op rfl rfl (okH_cons rfl (okB_lp (topC_all (ZOK.all (K:=K) hZ 26) rfl rfl) rfl rfl rfl) rfl))) (by decide)
  ·have hj':j=R.2.length:=by omega
   subst hj';rw[List.take_length]
   repeat'(first|exact y0|refine y1 ?_|refine y2 ?_ ?_|(refine y8 ?_ ?_<;>intro h<;>try exact y6)|refine RegX.chunkN 11 rfl rfl ?_ (RegX.opA [.win 0 (mm+1) (topC K st 5 6 B0.length)] rfl rfl ?_ ?_)|refine y3 ?_|refine y7 ?_ ?_|refine y4 ?_|(refine y9 ?_ ?_<;>intro h)|exact y5|fail)
   ·rw[hsz2];show (mm+1)*2≤(topC (topC K st 5 6 B0.length) C.length 22 23 R.2.length).length;rw[List.length_append,hTl];omega
   ·rw[hsz2,Nat.zero_mul,List.drop_zero,Nat.sub_zero];exact (List.take_left' (by rw[hTl];omega)).symm
   ·rw[hΛ] at hmt
    obtain⟨_,rfl⟩:=hmt;exact Fin.stP 24 26 5 6 (.top K mm st _) (.inr rfl) rfl (pats_ln _ _ _).symm rfl ⟨(by show some ({cells:=_,ty:=_,more:=true,sym:=true,flat:=_,gh:=some (_,_)}:Bl)=_;rw[hsz2];rfl),rfl⟩ rfl rfl hZ rfl rfl
set_option maxRecDepth 100000
set_option maxHeartbeats 2000000
theorem Lp.s_j (Λ:Lp) (l:Nat):isJ (Λ.s l)=false:=by
 rcases Λ with (_|_)|⟨K,mm,st,B0⟩<;>rfl
theorem st_store (p:List Nd) (hp:p.length≤2048) (hO:NOK p) (E:List Nat) (hE:EOK p E) (x:Nd) (k:Fo) (i:Nat) (Λ:Lp) (lp:Int) (C:Cd) (B:List Nat) (ha:(Fo.cons x k .nil).At p i) (hv:(Fo.cons x k .nil).V [(false,83)]) (hmt:Λ.mt lp B) (ho:Λ.ok C (k.size+1)) (hC:C.length+3*k.size+3≤900000000) (hop:x.op=30):
 FC Tryz.prog 64 [.s (.ptr (some (0,0))),nI i] 9 (slL p E C Λ) .any 15 (slL' p E (stE x k (stmC 1 k) (stmC 3 k) lp C B).1 Λ (Λ.af (whE x (whB 1 k) (whB 3 k)) (stE x k (stmC 1 k) (stmC 3 k) lp C B).2)):=by
 have hi:=At.lt ha;have hcx:=At.get ha;have hel:=hE.len;have hZ:=Lp.ok_Z ho;have ha1:=ha.2.2.1;have hsz:=At.size_le (Nat.le_of_lt hi) ha;have hk:k.V (slots (kindsB x.op x.kids).1):=hv.2.1
 have e1:stE x k (stmC 1 k) (stmC 3 k) lp C B=(sto k.tl (cod 4 k C),B):=by
  unfold stE;repeat (first|rw[if_pos (by omega)]|rw[if_neg (by omega)])
 have e2:whE x (whB 1 k) (whB 3 k)=false:=by
  unfold whE;rw[decide_eq_false (by omega),decide_eq_false (by omega)];rfl
 rw[e1,e2];show FC _ _ _ _ _ _ _ (slL' p E (sto k.tl (cod 4 k C)) Λ (Λ.af false B));rw[Lp.af_0 hmt];rw[hop] at hk;change k.V [(false,101),(false,116)] at hk;obtain⟨e,ke,n,rfl,a1,v1,q1⟩:=V_e hk;obtain⟨y,ky,n2,rfl,a2,v2,q2⟩:=V_e q1;have:=V_nil q2;subst this;have ha2:=ha1.2.2.2
 obtain⟨j1,hj1⟩:∃ j:Nat,j=i+1+1+ke.size:=⟨_,rfl⟩
 have hae:(Fo.cons e ke .nil).At p (i+1):=⟨ha1.1,ha1.2.1,ha1.2.2.1,trivial⟩
 have hee:E.getD (i+1) 0=j1:=by rw[hE.get hae,hj1]
 rw[←hj1] at ha2;simp only[Fo.size,Nat.add_zero] at hC hsz;have hle:(eE e ke C).length≤C.length+(3*ke.size+1):=exp_le e ke C
 have hexp:∀ xv,isCell xv=true→FC Tryz.prog 97 [.s (.ptr (some (0,0))),nI (i+1:Nat)] 5 (cdL p E C (.cst xv)) .any 7 (cdL' p E (eE e ke C) (.cst xv)):=fun xv hx=>exp_all p hp hO E hE _ _ _ (i+1) 101 C xv (Nat.lt_succ_self _) hae v1 a1 hx (by omega)
 have hsto:∀ xv,isCell xv=true→FC Tryz.prog 98 [.s (.ptr (some (0,0))),nI j1] 5 (cdL p E (eE e ke C) (.cst xv)) .any 7 (cdL' p E (sto (.cons y ky .nil) (eE e ke C)) (.cst xv)):=fun xv hx=>store_c p hp hO E hE y ky j1 (eE e ke C) xv hx ha2 v2 (by omega)
 have e4:sto (Fo.cons e ke (.cons y ky .nil)).tl (cod 4 (.cons e ke (.cons y ky .nil)) C)=sto (.cons y ky .nil) (eE e ke C):=rfl;rw[e4];have hx1:=FC.sw hexp (Λ.s 3) (Lp.s_j Λ 3);have hx2:=FC.sw hsto (Λ.s 3) (Lp.s_j Λ 3);subst hcx;refine FC.walk (by kernel_rfl) Tryz.func64 rfl rfl ?_
 rcases Λ with (_|_)|⟨K,mm,st,B0⟩
 all_goals
  repeat'(first|exact y0|refine y1 ?_|refine y2 ?_ ?_|(refine y8 ?_ ?_<;>intro h<;>try exact y6)|(refine wC ?_;first|(refine wF 97 ?_;refine CallG.cd 1 hx1 rfl rfl rfl rfl rfl rfl rfl rfl rfl ⟨VLe.refl _,VLe.refl _,trivial⟩ rfl rfl ?_)|(refine wF 98 ?_;refine CallG.cd 10 hx2 rfl rfl rfl rfl rfl rfl rfl rfl rfl ⟨VLe.refl _,VLe.of_eq (congrArg nI (by rw[hee])),trivial⟩ rfl rfl ?_))|refine Fin.st 12 3 5 6 _ (.inr rfl) rfl rfl (by first|exact trivial|exact rfl|exact⟨rfl,rfl⟩) rfl rfl hZ ?_ rfl|refine y3 ?_|refine y7 ?_ ?_|refine y4 ?_|(refine y9 ?_ ?_<;>intro h)|exact y5|fail)
  all_goals first
   |rfl
   |omega
   |(rw[hee];exact At.lt ha2)
theorem st_return (p:List Nd) (hp:p.length≤2048) (hO:NOK p) (E:List Nat) (hE:EOK p E) (x:Nd) (k:Fo) (i:Nat) (Λ:Lp) (lp:Int) (C:Cd) (B:List Nat) (ha:(Fo.cons x k .nil).At p i) (hv:(Fo.cons x k .nil).V [(false,83)]) (hmt:Λ.mt lp B) (ho:Λ.ok C (k.size+1)) (hC:C.length+3*k.size+3≤900000000) (hop:x.op=33):
 FC Tryz.prog 64 [.s (.ptr (some (0,0))),nI i] 9 (slL p E C Λ) .any 15 (slL' p E (stE x k (stmC 1 k) (stmC 3 k) lp C B).1 Λ (Λ.af (whE x (whB 1 k) (whB 3 k)) (stE x k (stmC 1 k) (stmC 3 k) lp C B).2)):=by
 have hi:=At.lt ha;have hcx:=At.get ha;have hel:=hE.len;have hZ:=Lp.ok_Z ho;have ha1:=ha.2.2.1;have hsz:=At.size_le (Nat.le_of_lt hi) ha;have hk:k.V (slots (kindsB x.op x.kids).1):=hv.2.1
 have e1:stE x k (stmC 1 k) (stmC 3 k) lp C B=(em (cod 0 k C) 28 x.kids [],B):=by
  unfold stE;repeat (first|rw[if_pos (by omega)]|rw[if_neg (by omega)])
 have e2:whE x (whB 1 k) (whB 3 k)=false:=by
  unfold whE;rw[decide_eq_false (by omega),decide_eq_false (by omega)];rfl
 rw[e1,e2];show FC _ _ _ _ _ _ _ (slL' p E (em (cod 0 k C) 28 x.kids []) Λ (Λ.af false B));rw[Lp.af_0 hmt];have hkk:=V_args hv (.inr (.inl hop));have hkd:x.kids=(k.cnt:Nat):=ha.2.1
 have hk1:k.cnt≤1:=by
  rw[hop] at hk;have hq:=Fo.V_cnt hk;rw[slots,List.length_map] at hq;unfold kindsB at hq;rw[if_neg (by decide),if_pos rfl] at hq;split at hq
  ·simp only[List.length_nil] at hq;omega
  ·rename_i hn
   rw[List.length_take] at hq;omega
 have hle:(cod 0 k C).length≤C.length+3*k.size:=cod_le k 0 C
 have hkp:(p.getD i dN).kids=(k.cnt:Nat):=by rw[hcx];exact hkd
 cases k with
 |nil=>
  have hem:∀ xv,isCell xv=true→FC Tryz.prog 38 [.s (.ptr (some (0,0))),nI 28,nU ((p.getD i dN).kids),sV ([])] 5 (cdL p E (C) (.cst xv)) (nI (C).length) 7 (cdL' p E (em (C) 28 ((p.getD i dN).kids) ([])) (.cst xv)):=fun xv hx=>emit_c p E (C) (by omega) xv 28 ((p.getD i dN).kids) ([])
  have hx1:=FC.sw hem (Λ.s 3) (Lp.s_j Λ 3);have hkn:(p.getD i dN).kids=0:=hkp;show FC _ _ _ _ _ _ _ (slL' p E (em C 28 x.kids []) Λ Λ);subst hcx;refine FC.walk (by kernel_rfl) Tryz.func64 rfl rfl ?_
  rcases Λ with (_|_)|⟨K,mm,st,B0⟩
  all_goals
   repeat'(first|exact y0|refine y1 ?_|refine y2 ?_ ?_|(refine y8 ?_ ?_<;>intro h<;>try exact y6)|(refine wC ?_;first|(refine wF 38 ?_;refine CallG.cd 1 hx1 rfl rfl rfl rfl rfl rfl rfl rfl rfl ⟨VLe.refl _,VLe.refl _,VLe.refl _,VLe.refl _,trivial⟩ rfl rfl ?_))|refine Fin.st 10 3 5 6 _ (.inr rfl) rfl rfl (by first|exact trivial|exact rfl|exact⟨rfl,rfl⟩) rfl rfl hZ ?_ rfl|refine y3 ?_|refine y7 ?_ ?_|refine y4 ?_|(refine y9 ?_ ?_<;>intro h)|exact y5|fail)
   all_goals first
    |rfl
    |omega
    |(rw[hkn];rfl)
    |exact u64_id (by omega) (by omega)
 |cons y ky n=>
  have hn:n=.nil:=by
   cases n with
   |nil=>rfl
   |cons a b c=>simp only[Fo.cnt] at hk1;omega
  subst hn;rw[Fo.cnt,List.replicate_succ] at hkk;simp only[Fo.size,Nat.add_zero] at hC hsz;have hle:(eE y ky C).length≤C.length+(3*ky.size+1):=exp_le y ky C;have hkn:(p.getD i dN).kids=1:=hkp
  have hexp:∀ xv,isCell xv=true→FC Tryz.prog 97 [.s (.ptr (some (0,0))),nI (i+1:Nat)] 5 (cdL p E C (.cst xv)) .any 7 (cdL' p E (eE y ky C) (.cst xv)):=fun xv hx=>exp_all p hp hO E hE _ _ _ (i+1) 101 C xv (Nat.lt_succ_self _) ⟨ha1.1,ha1.2.1,ha1.2.2.1,trivial⟩ ⟨hkk.1,hkk.2.1,trivial⟩ hkk.1.1 hx (by omega)
  have hem:∀ xv,isCell xv=true→FC Tryz.prog 38 [.s (.ptr (some (0,0))),nI 28,nU ((p.getD i dN).kids),sV ([])] 5 (cdL p E (eE y ky C) (.cst xv)) (nI (eE y ky C).length) 7 (cdL' p E (em (eE y ky C) 28 ((p.getD i dN).kids) ([])) (.cst xv)):=fun xv hx=>emit_c p E (eE y ky C) (by omega) xv 28 ((p.getD i dN).kids) ([])
  have hx1:=FC.sw hexp (Λ.s 3) (Lp.s_j Λ 3);have hx2:=FC.sw hem (Λ.s 3) (Lp.s_j Λ 3);show FC _ _ _ _ _ _ _ (slL' p E (em (eE y ky C) 28 x.kids []) Λ Λ);subst hcx;refine FC.walk (by kernel_rfl) Tryz.func64 rfl rfl ?_
  rcases Λ with (_|_)|⟨K,mm,st,B0⟩
  all_goals
   repeat'(first|exact y0|refine y1 ?_|refine y2 ?_ ?_|(refine y8 ?_ ?_<;>intro h<;>try exact y6)|(refine wC ?_;first|(refine wF 97 ?_;refine CallG.cd 1 hx1 rfl rfl rfl rfl rfl rfl rfl rfl rfl ⟨VLe.refl _,VLe.refl _,trivial⟩ rfl rfl ?_)|(refine wF 38 ?_;refine CallG.cd 10 hx2 rfl rfl rfl rfl rfl rfl rfl rfl rfl ⟨VLe.refl _,VLe.refl _,VLe.refl _,VLe.refl _,trivial⟩ rfl rfl ?_))|refine Fin.st 12 3 5 6 _ (.inr rfl) rfl rfl (by first|exact trivial|exact rfl|exact⟨rfl,rfl⟩) rfl rfl hZ ?_ rfl|refine y3 ?_|refine y7 ?_ ?_|refine y4 ?_|(refine y9 ?_ ?_<;>intro h)|exact y5|fail)
   all_goals first
    |rfl
    |omega
    |(rw[hkn];rfl)
    |exact u64_id (by omega) (by omega)
theorem st_sync (p:List Nd) (hp:p.length≤2048) (hO:NOK p) (E:List Nat) (hE:EOK p E) (x:Nd) (k:Fo) (i:Nat) (Λ:Lp) (lp:Int) (C:Cd) (B:List Nat) (ha:(Fo.cons x k .nil).At p i) (hv:(Fo.cons x k .nil).V [(false,83)]) (hmt:Λ.mt lp B) (ho:Λ.ok C (k.size+1)) (hC:C.length+3*k.size+3≤900000000) (hop:x.op=36∨x.op=37∨x.op=38):
 FC Tryz.prog 64 [.s (.ptr (some (0,0))),nI i] 9 (slL p E C Λ) .any 15 (slL' p E (stE x k (stmC 1 k) (stmC 3 k) lp C B).1 Λ (Λ.af (whE x (whB 1 k) (whB 3 k)) (stE x k (stmC 1 k) (stmC 3 k) lp C B).2)):=by
 have hi:=At.lt ha;have hcx:=At.get ha;have hel:=hE.len;have hZ:=Lp.ok_Z ho;have ha1:=ha.2.2.1;have hsz:=At.size_le (Nat.le_of_lt hi) ha;have hk:k.V (slots (kindsB x.op x.kids).1):=hv.2.1
 have e1:stE x k (stmC 1 k) (stmC 3 k) lp C B=(em C (if x.op=36 then 30 else if x.op=37 then 32 else 33) 0 k.hd.str,B):=by
  unfold stE;rcases hop with h|h|h<;>rw[h]<;>repeat (first|rw[if_pos (by omega)]|rw[if_neg (by omega)])
 have e2:whE x (whB 1 k) (whB 3 k)=false:=by
  unfold whE;rw[decide_eq_false (by omega),decide_eq_false (by omega)];rfl
 rw[e1,e2];show FC _ _ _ _ _ _ _ (slL' p E (em C (if x.op=36 then 30 else if x.op=37 then 32 else 33) 0 k.hd.str) Λ (Λ.af false B));rw[Lp.af_0 hmt]
 have hk2:k.V [(false,110)]:=by
  rcases hop with h|h|h<;>(rw[h] at hk;exact hk)
 obtain⟨y,n,rfl,q1,_⟩:=V_leaf (by decide) hk2;have hy:=At.get ha1;simp only[Fo.size,Nat.add_zero] at hC hsz
 have hem:∀ (z:Int),∀ xv,isCell xv=true→FC Tryz.prog 38 [.s (.ptr (some (0,0))),nI z,nU 0,sV (p.getD (i+1) dN).str] 5 (cdL p E C (.cst xv)) (nI C.length) 7 (cdL' p E (em C z 0 (p.getD (i+1) dN).str) (.cst xv)):=fun z xv hx=>emit_c p E C (by omega) xv z 0 _
 have e5:(Fo.cons y Fo.nil n).hd.str=(p.getD (i+1) dN).str:=by rw[hy];rfl
 rw[e5]
 have hx1:=fun z=>FC.sw (hem z) (Λ.s 3) (Lp.s_j Λ 3)
 subst hcx;refine FC.walk (by kernel_rfl) Tryz.func64 rfl rfl ?_
 rcases Λ with (_|_)|⟨K,mm,st,B0⟩
 all_goals
  repeat'(first|exact y0|refine y1 ?_|refine y2 ?_ ?_|(refine y8 ?_ ?_<;>intro h<;>try exact y6)|(refine wC ?_;first|(refine wF 38 ?_;refine CallG.cd 1 (hx1 _) rfl rfl rfl rfl rfl rfl rfl rfl rfl ⟨VLe.refl _,VLe.refl _,VLe.refl _,VLe.refl _,trivial⟩ rfl rfl ?_))|refine Fin.st 10 3 5 6 _ (.inr rfl) rfl rfl (by first|exact trivial|exact rfl|exact⟨rfl,rfl⟩) rfl rfl hZ ?_ rfl|refine y3 ?_|refine y7 ?_ ?_|refine y4 ?_|(refine y9 ?_ ?_<;>intro h)|exact y5|fail)
  all_goals first
   |rfl
   |omega
   |(rw[if_pos (by omega)])
   |(rw[if_neg (by omega),if_pos (by omega)])
   |(rw[if_neg (by omega),if_neg (by omega)])
theorem st_sleep (p:List Nd) (hp:p.length≤2048) (hO:NOK p) (E:List Nat) (hE:EOK p E) (x:Nd) (k:Fo) (i:Nat) (Λ:Lp) (lp:Int) (C:Cd) (B:List Nat) (ha:(Fo.cons x k .nil).At p i) (hv:(Fo.cons x k .nil).V [(false,83)]) (hmt:Λ.mt lp B) (ho:Λ.ok C (k.size+1)) (hC:C.length+3*k.size+3≤900000000) (hop:x.op=39):
 FC Tryz.prog 64 [.s (.ptr (some (0,0))),nI i] 9 (slL p E C Λ) .any 15 (slL' p E (stE x k (stmC 1 k) (stmC 3 k) lp C B).1 Λ (Λ.af (whE x (whB 1 k) (whB 3 k)) (stE x k (stmC 1 k) (stmC 3 k) lp C B).2)):=by
 have hi:=At.lt ha;have hcx:=At.get ha;have hel:=hE.len;have hZ:=Lp.ok_Z ho;have ha1:=ha.2.2.1;have hsz:=At.size_le (Nat.le_of_lt hi) ha;have hk:k.V (slots (kindsB x.op x.kids).1):=hv.2.1
 have e1:stE x k (stmC 1 k) (stmC 3 k) lp C B=(em (cod 4 k C) 34 0 [],B):=by
  unfold stE;repeat (first|rw[if_pos (by omega)]|rw[if_neg (by omega)])
 have e2:whE x (whB 1 k) (whB 3 k)=false:=by
  unfold whE;rw[decide_eq_false (by omega),decide_eq_false (by omega)];rfl
 rw[e1,e2];show FC _ _ _ _ _ _ _ (slL' p E (em (cod 4 k C) 34 0 []) Λ (Λ.af false B));rw[Lp.af_0 hmt];rw[hop] at hk;change k.V [(false,101)] at hk;obtain⟨e,ke,n,rfl,a1,v1,q1⟩:=V_e hk;have:=V_nil q1;subst this;simp only[Fo.size,Nat.add_zero] at hC hsz;have hle:(eE e ke C).length≤C.length+(3*ke.size+1):=exp_le e ke C
 have hexp:∀ xv,isCell xv=true→FC Tryz.prog 97 [.s (.ptr (some (0,0))),nI (i+1:Nat)] 5 (cdL p E C (.cst xv)) .any 7 (cdL' p E (eE e ke C) (.cst xv)):=fun xv hx=>exp_all p hp hO E hE _ _ _ (i+1) 101 C xv (Nat.lt_succ_self _) ⟨ha1.1,ha1.2.1,ha1.2.2.1,trivial⟩ v1 a1 hx (by omega)
 have hem:∀ xv,isCell xv=true→FC Tryz.prog 38 [.s (.ptr (some (0,0))),nI 34,nU (0),sV ([])] 5 (cdL p E (eE e ke C) (.cst xv)) (nI (eE e ke C).length) 7 (cdL' p E (em (eE e ke C) 34 (0) ([])) (.cst xv)):=fun xv hx=>emit_c p E (eE e ke C) (by omega) xv 34 (0) ([])
 have hx1:=FC.sw hexp (Λ.s 3) (Lp.s_j Λ 3);have hx2:=FC.sw hem (Λ.s 3) (Lp.s_j Λ 3);show FC _ _ _ _ _ _ _ (slL' p E (em (eE e ke C) 34 0 []) Λ Λ);subst hcx;refine FC.walk (by kernel_rfl) Tryz.func64 rfl rfl ?_
 rcases Λ with (_|_)|⟨K,mm,st,B0⟩
 all_goals
  repeat'(first|exact y0|refine y1 ?_|refine y2 ?_ ?_|(refine y8 ?_ ?_<;>intro h<;>try exact y6)|(refine wC ?_;first|(refine wF 97 ?_;refine CallG.cd 1 hx1 rfl rfl rfl rfl rfl rfl rfl rfl rfl ⟨VLe.refl _,VLe.refl _,trivial⟩ rfl rfl ?_)|(refine wF 38 ?_;refine CallG.cd 10 hx2 rfl rfl rfl rfl rfl rfl rfl rfl rfl ⟨VLe.refl _,VLe.refl _,VLe.refl _,VLe.refl _,trivial⟩ rfl rfl ?_))|refine Fin.st 12 3 5 6 _ (.inr rfl) rfl rfl (by first|exact trivial|exact rfl|exact⟨rfl,rfl⟩) rfl rfl hZ ?_ rfl|refine y3 ?_|refine y7 ?_ ?_|refine y4 ?_|(refine y9 ?_ ?_<;>intro h)|exact y5|fail)
  all_goals first
   |rfl
   |omega
theorem st_notify (p:List Nd) (hp:p.length≤2048) (hO:NOK p) (E:List Nat) (hE:EOK p E) (x:Nd) (k:Fo) (i:Nat) (Λ:Lp) (lp:Int) (C:Cd) (B:List Nat) (ha:(Fo.cons x k .nil).At p i) (hv:(Fo.cons x k .nil).V [(false,83)]) (hmt:Λ.mt lp B) (ho:Λ.ok C (k.size+1)) (hC:C.length+3*k.size+3≤900000000) (hop:x.op=40):
 FC Tryz.prog 64 [.s (.ptr (some (0,0))),nI i] 9 (slL p E C Λ) .any 15 (slL' p E (stE x k (stmC 1 k) (stmC 3 k) lp C B).1 Λ (Λ.af (whE x (whB 1 k) (whB 3 k)) (stE x k (stmC 1 k) (stmC 3 k) lp C B).2)):=by
 have hi:=At.lt ha;have hcx:=At.get ha;have hel:=hE.len;have hZ:=Lp.ok_Z ho;have ha1:=ha.2.2.1;have hsz:=At.size_le (Nat.le_of_lt hi) ha;have hk:k.V (slots (kindsB x.op x.kids).1):=hv.2.1
 have e1:stE x k (stmC 1 k) (stmC 3 k) lp C B=(em (cod 5 k C) 35 0 k.hd.str,B):=by
  unfold stE;repeat (first|rw[if_pos (by omega)]|rw[if_neg (by omega)])
 have e2:whE x (whB 1 k) (whB 3 k)=false:=by
  unfold whE;rw[decide_eq_false (by omega),decide_eq_false (by omega)];rfl
 rw[e1,e2];show FC _ _ _ _ _ _ _ (slL' p E (em (cod 5 k C) 35 0 k.hd.str) Λ (Λ.af false B));rw[Lp.af_0 hmt];rw[hop] at hk;change k.V [(false,110),(false,101)] at hk;obtain⟨y,n,rfl,q0,_⟩:=V_leaf (by decide) hk;obtain⟨e,ke,n2,rfl,a1,v1,q1⟩:=V_e q0;have:=V_nil q1;subst this;have hy:=At.get ha1;have ha2:=ha1.2.2.2;simp only[Fo.size,Nat.add_zero] at ha2 hC hsz;have hle:(eE e ke C).length≤C.length+(3*ke.size+1):=exp_le e ke C
 have hexp:∀ xv,isCell xv=true→FC Tryz.prog 97 [.s (.ptr (some (0,0))),nI (i+2:Nat)] 5 (cdL p E C (.cst xv)) .any 7 (cdL' p E (eE e ke C) (.cst xv)):=fun xv hx=>exp_all p hp hO E hE _ _ _ (i+2) 101 C xv (Nat.lt_succ_self _) ha2 v1 a1 hx (by omega)
 have hem:∀ xv,isCell xv=true→FC Tryz.prog 38 [.s (.ptr (some (0,0))),nI 35,nU (0),sV ((p.getD (i+1) dN).str)] 5 (cdL p E (eE e ke C) (.cst xv)) (nI (eE e ke C).length) 7 (cdL' p E (em (eE e ke C) 35 (0) ((p.getD (i+1) dN).str)) (.cst xv)):=fun xv hx=>emit_c p E (eE e ke C) (by omega) xv 35 (0) ((p.getD (i+1) dN).str)
 have hx1:=FC.sw hexp (Λ.s 3) (Lp.s_j Λ 3);have hx2:=FC.sw hem (Λ.s 3) (Lp.s_j Λ 3)
 have e5:em (cod 5 (.cons y .nil (.cons e ke .nil)) C) 35 0 (Fo.cons y Fo.nil (.cons e ke .nil)).hd.str=em (eE e ke C) 35 0 (p.getD (i+1) dN).str:=by rw[hy];rfl
 rw[e5];subst hcx;refine FC.walk (by kernel_rfl) Tryz.func64 rfl rfl ?_
 rcases Λ with (_|_)|⟨K,mm,st,B0⟩
 all_goals
  repeat'(first|exact y0|refine y1 ?_|refine y2 ?_ ?_|(refine y8 ?_ ?_<;>intro h<;>try exact y6)|(refine wC ?_;first|(refine wF 97 ?_;refine CallG.cd 1 hx1 rfl rfl rfl rfl rfl rfl rfl rfl rfl ⟨VLe.refl _,VLe.refl _,trivial⟩ rfl rfl ?_)|(refine wF 38 ?_;refine CallG.cd 10 hx2 rfl rfl rfl rfl rfl rfl rfl rfl rfl ⟨VLe.refl _,VLe.refl _,VLe.refl _,VLe.refl _,trivial⟩ rfl rfl ?_))|refine Fin.st 12 3 5 6 _ (.inr rfl) rfl rfl (by first|exact trivial|exact rfl|exact⟨rfl,rfl⟩) rfl rfl hZ ?_ rfl|refine y3 ?_|refine y7 ?_ ?_|refine y4 ?_|(refine y9 ?_ ?_<;>intro h)|exact y5|fail)
  all_goals first
   |rfl
   |omega
theorem st_expr (p:List Nd) (hp:p.length≤2048) (hO:NOK p) (E:List Nat) (hE:EOK p E) (x:Nd) (k:Fo) (i:Nat) (Λ:Lp) (lp:Int) (C:Cd) (B:List Nat) (ha:(Fo.cons x k .nil).At p i) (hv:(Fo.cons x k .nil).V [(false,83)]) (hmt:Λ.mt lp B) (ho:Λ.ok C (k.size+1)) (hC:C.length+3*k.size+3≤900000000) (hop:x.op=5∨x.op=41∨x.op=42):
 FC Tryz.prog 64 [.s (.ptr (some (0,0))),nI i] 9 (slL p E C Λ) .any 15 (slL' p E (stE x k (stmC 1 k) (stmC 3 k) lp C B).1 Λ (Λ.af (whE x (whB 1 k) (whB 3 k)) (stE x k (stmC 1 k) (stmC 3 k) lp C B).2)):=by
 have hi:=At.lt ha;have hcx:=At.get ha;have hel:=hE.len;have hZ:=Lp.ok_Z ho;have ha1:=ha.2.2.1;have hsz:=At.size_le (Nat.le_of_lt hi) ha;have hk:k.V (slots (kindsB x.op x.kids).1):=hv.2.1
 have e1:stE x k (stmC 1 k) (stmC 3 k) lp C B=(em (eE x k C) 26 0 [],B):=by
  unfold stE;repeat (first|rw[if_pos (by omega)]|rw[if_neg (by omega)])
 have e2:whE x (whB 1 k) (whB 3 k)=false:=by
  unfold whE;rw[decide_eq_false (by omega),decide_eq_false (by omega)];rfl
 rw[e1,e2];show FC _ _ _ _ _ _ _ (slL' p E (em (eE x k C) 26 0 []) Λ (Λ.af false B));rw[Lp.af_0 hmt];have hle:(eE x k C).length≤C.length+(3*k.size+1):=exp_le x k C
 have hexp:∀ xv,isCell xv=true→FC Tryz.prog 97 [.s (.ptr (some (0,0))),nI (i:Nat)] 5 (cdL p E C (.cst xv)) .any 7 (cdL' p E (eE x k C) (.cst xv)):=fun xv hx=>exp_all p hp hO E hE _ _ _ (i) 83 C xv (Nat.lt_succ_self _) ha hv (by rcases hop with h|h|h<;>rw[h]<;>rfl) hx (by omega)
 have hem:∀ xv,isCell xv=true→FC Tryz.prog 38 [.s (.ptr (some (0,0))),nI 26,nU (0),sV ([])] 5 (cdL p E (eE x k C) (.cst xv)) (nI (eE x k C).length) 7 (cdL' p E (em (eE x k C) 26 (0) ([])) (.cst xv)):=fun xv hx=>emit_c p E (eE x k C) (by omega) xv 26 (0) ([])
 have hx1:=FC.sw hexp (Λ.s 3) (Lp.s_j Λ 3);have hx2:=FC.sw hem (Λ.s 3) (Lp.s_j Λ 3);subst hcx;refine FC.walk (by kernel_rfl) Tryz.func64 rfl rfl ?_
 rcases Λ with (_|_)|⟨K,mm,st,B0⟩
 all_goals
  repeat'(first|exact y0|refine y1 ?_|refine y2 ?_ ?_|(refine y8 ?_ ?_<;>intro h<;>try exact y6)|(refine wC ?_;first|(refine wF 97 ?_;refine CallG.cd 1 hx1 rfl rfl rfl rfl rfl rfl rfl rfl rfl ⟨VLe.refl _,VLe.refl _,trivial⟩ rfl rfl ?_)|(refine wF 38 ?_;refine CallG.cd 10 hx2 rfl rfl rfl rfl rfl rfl rfl rfl rfl ⟨VLe.refl _,VLe.refl _,VLe.refl _,VLe.refl _,trivial⟩ rfl rfl ?_))|refine Fin.st 12 3 5 6 _ (.inr rfl) rfl rfl (by first|exact trivial|exact rfl|exact⟨rfl,rfl⟩) rfl rfl hZ ?_ rfl|refine y3 ?_|refine y7 ?_ ?_|refine y4 ?_|(refine y9 ?_ ?_<;>intro h)|exact y5|fail)
  all_goals first
   |rfl
   |omega
end Go.Proofs.YtbokilgdefkmiaaGreatDoor
