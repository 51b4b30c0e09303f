import Derived.Test.YtphdhedhhlfepaaGreatDoorCzC42
set_option linter.unusedSimpArgs false
set_option linter.unusedVariables false
namespace Go.Proofs.YtphdhedhhlfepaaGreatDoor
open Go Ab
set_option maxRecDepth 100000
set_option maxHeartbeats 2000000
theorem names_c (l:List Int) (hl:l.length≤20000000000000) (a o:Int):FC Tryz.prog 5 [.s (chF l),nI a,nI o] 0 [] (bV true) 0 []:=by
 obtain⟨sy,hsy,hsys⟩:=system_e l hl;have haw:=awake_c;have hsl:=hsy.len;have hw:=hsy.wfS;have hI:=hsy.wfI;obtain⟨k0,hk0,hop⟩:=hsy.nm
 have hsz:(Tryz.prog.types[30]).size=4:=by kernel_rfl
 have hby:(Tryz.prog.types[30]).bytes=40:=by kernel_rfl
 have hszi:(Tryz.prog.types[3]).size=1:=by kernel_rfl
 have hbyi:(Tryz.prog.types[3]).bytes=8:=by kernel_rfl
 refine FC.walk (by kernel_rfl) Tryz.func5 rfl rfl ?_
 repeat'(first|exact y0|refine y1 ?_|refine y2 ?_ ?_|(refine y8 ?_ ?_<;>intro h<;>try exact y6)|(refine wC ?_;first|refine wF 12 (pu hsys ?_))|refine RegX.app [.app sy.length (sy.flatMap ndC)] rfl rfl ?_ rfl rfl rfl ?_|refine y3 ?_|refine y7 ?_ ?_|refine y4 ?_|(refine y9 ?_ ?_<;>intro h)|exact y5|fail)
 all_goals try first
  |(rw[nd_flat];exact (List.nil_append _).symm)
  |(rw[nd_flat];exact nd_fit _ _)
  |(rw[hby];omega)
 refine Ex.canon [0,1] 58 [(0,.s (chF l)),(1,nI a),(2,nI o),(7,.s (.sla 0 1 sy.length)),(8,.s (.slc none 0 (some 0))),(9,nI 0)] [(0,some (nsB sy))] rfl rfl ⟨VLe.refl _,VLe.refl _,VLe.refl _,VLe.refl _,VLe.refl _,VLe.refl _,trivial⟩ ⟨rfl,trivial⟩ rfl ?_;refine Ex.set 8 (.s (.row 2 3 0)) (VLe.s SLe.nilrow) rfl (Ex.upN (n':=4) (by decide) ?_);refine Ex.inv (σ:=Nat) (fun i=>[(8,.s (.row 2 3 (opsN sy 3 i).length)),(9,nI i)]) (fun i=>[(0,some (nsB sy)),(2,ixB (opsN sy 3 i))]) (fun i=>i≤sy.length) (fun i=>sy.length-i) 0 rfl (fun _=>rfl) (Nat.zero_le _) ⟨VLe.refl _,VLe.refl _,trivial⟩ ⟨rfl,trivial⟩ ?_;intro i hi
 rcases Nat.lt_or_ge i sy.length with hlt|hge
 ·have hol:=opsN_len sy 3 i
  have hld:=ld_op hlt;rw[Nat.add_zero] at hld;by_cases ho:(sy.getD i dN).op=3
  ·have hs:=opsN_yes ho
   repeat'(first|exact y0|refine y1 ?_|refine y2 ?_ ?_|(refine y8 ?_ ?_<;>intro h<;>try exact y6)|refine RegX.ldS [.val (nI (sy.getD i dN).op)] rfl rfl ?_ rfl ?_|refine RegX.apr (i:=2) (g:=3) (m:=(opsN sy 3 i).length) (w:=1) (cs:=intC (opsN sy 3 i)) (foot:=[4]) (k:=1) (add:=[S.int .i64 (i:Int)]) rfl rfl (by simp) rfl rfl rfl rfl rfl rfl rfl hszi (by decide) rfl ⟨Nat.le_refl _,rfl⟩ (by decide) (by simp) rfl (by rw[hbyi];omega) (by omega) rfl ?_|refine y3 ?_|refine y7 ?_ ?_|refine y4 ?_|(refine y9 ?_ ?_<;>intro h)|exact y5|fail)
   all_goals try first
    |omega
    |(rw[hszi,hsz,plus_eq,plus_eq,times_eq,Nat.zero_add];exact hld)
   refine LoopR.move (i+1) (by omega) (by omega) [0,1,5,6] rfl ?_ ?_ ?_
   ·rw[hs]
    repeat' (first|exact VLe.refl _|exact VLe.any _|exact True.intro|exact VLe.of_eq (congrArg nI (by push_cast;omega))|(refine VLe.of_eq (congrArg V.s (?_:S.row 5 6 _=S.row 5 6 _));simp;done)|refine⟨?_,?_⟩)
   ·refine⟨rfl,MemP.op ?_ trivial⟩
    rw[hs];unfold intC;rw[List.map_append];rfl
   ·unfold ixB;generalize intC (opsN sy 3 (i+1))=cg;cases cg<;>rfl
  ·have hs:=opsN_no ho
   repeat'(first|exact y0|refine y1 ?_|refine y2 ?_ ?_|(refine y8 ?_ ?_<;>intro h<;>try exact y6)|refine RegX.ldS [.val (nI (sy.getD i dN).op)] rfl rfl ?_ rfl ?_|refine y3 ?_|refine y7 ?_ ?_|refine y4 ?_|(refine y9 ?_ ?_<;>intro h)|exact y5|fail)
   all_goals try first
    |omega
    |(rw[hszi,hsz,plus_eq,plus_eq,times_eq,Nat.zero_add];exact hld)
   refine LoopR.same (i+1) (by omega) (by omega) rfl ⟨VLe.of_eq (by rw[hs];rfl),VLe.of_eq (congrArg nI (by push_cast;omega)),trivial⟩ ⟨rfl,SubP.op (by rw[hs];rfl) trivial⟩ rfl ?_ (by decide)
   unfold ixB;generalize intC (opsN sy 3 (i+1))=cg;cases cg<;>rfl
 ·obtain rfl:i=sy.length:=by omega
  have hol:=opsN_len sy 3 sy.length
  have hog:=fun j=> @opsN_get sy 3 sy.length j
  have hmem:k0∈opsN sy 3 sy.length:=by
   unfold opsN;exact List.mem_filter.2 ⟨List.mem_range.2 hk0,decide_eq_true hop⟩
  generalize hIe:opsN sy 3 sy.length=I at*
  cases I with
  |nil=>cases hmem
  |cons x I=>
   clear hmem;refine Ex.set 8 (.s (.sla 2 3 (I.length+1))) (VLe.s (SLe.rowsla (Nat.succ_pos _))) rfl ?_;have hm0:=mod_c a (I.length+1) (Nat.succ_pos _) (by simp only[List.length_cons] at hol;omega);obtain⟨j,hj,he⟩:=mod_nat (a%18446744073709551616) (I.length+1) (Nat.succ_pos _);rw[he] at hm0;have hk:=hog j hj;generalize hke:(x::I).getD j 0=k at*;have hm5:=mod_c o 5 (by decide) (by decide);obtain⟨m,hm6,he5⟩:=mod_nat (o%18446744073709551616) 5 (by decide);rw[he5] at hm5;obtain⟨s,hs,hseg⟩:=seg_z o
   have hset:∀ (q:List Nd) (z:By),q.length=sy.length→z.length≤5→wfS q→wfI q→∃ r:List Nd,r.length=sy.length∧setL (q.flatMap ndC) (k*4+2) [.str z]=r.flatMap ndC∧wfS r∧wfI r:=fun q z hq hz h1 h2=>
    ⟨_,List.length_set.trans hq,str_set (by rw[hq];exact hk),wfS_set h1 fun x hx=>by rw[List.mem_singleton.1 hx];show z.length≤_;omega,wfI_set h2 (wfI_get h2 k)⟩
   obtain⟨q,hql,hqs,hq1,hq2⟩:=hset sy s rfl (by omega) hw hI;by_cases h4:m=4
   ·subst h4
    obtain⟨r,hrl,hrs,hr1,hr2⟩:=hset q (94::s) hql (by simp only[List.length_cons];omega) hq1 hq2;have hagr:=agr_c r hr1 hr2
    repeat'(first|exact y0|refine y1 ?_|refine y2 ?_ ?_|(refine y8 ?_ ?_<;>intro h<;>try exact y6)|(refine wC ?_;first|refine wF 13 (pu hm0 ?_)|refine wF 13 (pu hm5 ?_)|refine wF 14 (pu hseg ?_)|refine wF 9 (pu haw ?_)|(refine wF 10 ?_;refine CallG.pz 55 (fun k=>ndC (r.getD k dN)) 4 hagr rfl rfl rfl rfl (fun _ _=>rfl) (fun kk jj zz h1 h2=>nd_cell (Nat.lt_of_lt_of_eq h1 hrl.symm) h2) rfl ⟨VLe.of_eq (congrArg (fun m=>V.s (.frz (fun k=>ndC (r.getD k dN)) 4 m)) hrl.symm),trivial⟩ rfl rfl rfl ?_))|refine RegX.ldS [.val (nI (k:Int))] rfl rfl ?_ rfl ?_|refine RegX.sto [.cells (q.flatMap ndC)] rfl rfl ⟨by (rw[hsz,plus_eq,plus_eq,times_eq,Nat.zero_add];show k*4+2+1≤(sy.flatMap ndC).length;rw[nd_len];omega),by (rw[hsz,plus_eq,plus_eq,times_eq,Nat.zero_add];exact hqs.symm)⟩ rfl ?_|refine RegX.sto [.cells (r.flatMap ndC)] rfl rfl ⟨by (rw[hsz,plus_eq,plus_eq,times_eq,Nat.zero_add];show k*4+2+1≤(q.flatMap ndC).length;rw[nd_len];omega),by (rw[hsz,plus_eq,plus_eq,times_eq,Nat.zero_add];exact hrs.symm)⟩ rfl ?_|refine Fin.bool (.inl rfl) rfl ?_|refine y3 ?_|refine y7 ?_ ?_|refine y4 ?_|(refine y9 ?_ ?_<;>intro h)|exact y5|fail)
    all_goals try first
     |rfl
     |(rw[hszi,plus_eq,times_eq,←hke];exact ld_ix (I:=x::I) (show 0+j*1=j by omega) rfl hj)
     |(show (((1+s.length:Nat)):Int)≤_;omega)
    trace_state
   ·have hagr:=agr_c q hq1 hq2
    repeat'(first|exact y0|refine y1 ?_|refine y2 ?_ ?_|(refine y8 ?_ ?_<;>intro h<;>try exact y6)|(refine wC ?_;first|refine wF 13 (pu hm0 ?_)|refine wF 13 (pu hm5 ?_)|refine wF 14 (pu hseg ?_)|refine wF 9 (pu haw ?_)|(refine wF 10 ?_;refine CallG.pz 55 (fun k=>ndC (q.getD k dN)) 4 hagr rfl rfl rfl rfl (fun _ _=>rfl) (fun kk jj zz h1 h2=>nd_cell (Nat.lt_of_lt_of_eq h1 hql.symm) h2) rfl ⟨VLe.of_eq (congrArg (fun m=>V.s (.frz (fun k=>ndC (q.getD k dN)) 4 m)) hql.symm),trivial⟩ rfl rfl rfl ?_))|refine RegX.ldS [.val (nI (k:Int))] rfl rfl ?_ rfl ?_|refine RegX.sto [.cells (q.flatMap ndC)] rfl rfl ⟨?_,?_⟩ rfl ?_|refine Fin.bool (.inl rfl) rfl ?_|refine y3 ?_|refine y7 ?_ ?_|refine y4 ?_|(refine y9 ?_ ?_<;>intro h)|exact y5|fail)
    all_goals try first
     |rfl
     |(rw[hszi,plus_eq,times_eq,←hke];exact ld_ix (I:=x::I) (show 0+j*1=j by omega) rfl hj)
     |(rw[hsz,plus_eq,plus_eq,times_eq,Nat.zero_add];exact hqs.symm)
     |(rw[hsz,plus_eq,plus_eq,times_eq,Nat.zero_add];show k*4+2+1≤(sy.flatMap ndC).length;rw[nd_len];omega)
    trace_state
end Go.Proofs.YtphdhedhhlfepaaGreatDoor
