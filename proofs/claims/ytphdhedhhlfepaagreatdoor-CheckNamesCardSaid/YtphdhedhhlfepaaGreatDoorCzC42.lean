import Derived.Test.YtphdhedhhlfepaaGreatDoorCzC34
import Derived.Test.YtphdhedhhlfepaaGreatDoorCzC41
import Derived.Test.YtphdhedhhlfepaaGreatDoorCzC35
set_option linter.unusedSimpArgs false
set_option linter.unusedVariables false
namespace Go.Proofs.YtphdhedhhlfepaaGreatDoor
open Go Ab
open Go.ChangeShapes Go.WideShapes Go.ChangeAt Go.RowKit
set_option maxRecDepth 100000
section
variable {H:Type} {enc:TypeId×Value→H} {w:World} {base:Nat} {spare:Nat→Bool} {held:Bool}
theorem open_i64 {r:Reach} {b0:Nat} {v:Value} {d:DataW H} {p:List MemPlace} (hv:Value.okWide Tryz.prog w r b0 3 v) (h:DataW.Trod enc Tryz.prog w base spare held 3 v d p):∃ n:Int,v=.int .i64 n∧ -9223372036854775808≤n∧n≤9223372036854775807:=by
 obtain⟨n,rfl,_,_,hw⟩:=open_int Tryz.underlying3 hv h;exact⟨n,rfl,wf_i64 hw⟩
theorem open_u64 {r:Reach} {b0:Nat} {v:Value} {d:DataW H} {p:List MemPlace} (hv:Value.okWide Tryz.prog w r b0 28 v) (h:DataW.Trod enc Tryz.prog w base spare held 28 v d p):∃ n:Int,v=.int .u64 n∧0≤n∧n≤18446744073709551615:=by
 obtain⟨n,rfl,_,_,hw⟩:=open_int Tryz.underlying28 hv h;exact⟨n,rfl,wf_u64 hw⟩
end
end Go.Proofs.YtphdhedhhlfepaaGreatDoor
namespace Go.Proofs.YtphdhedhhlfepaaGreatDoor
open Go Ab
set_option maxRecDepth 100000
set_option maxHeartbeats 2000000
def opsN (p:List Nd) (op:Int) (n:Nat):List Nat:=(List.range n).filter fun i=>decide ((p.getD i dN).op=op)
theorem opsN_yes {p:List Nd} {op:Int} {n:Nat} (h:(p.getD n dN).op=op):opsN p op (n+1)=opsN p op n++[n]:=by
 unfold opsN;rw[List.range_succ,List.filter_append,List.filter_cons,decide_eq_true h];rfl
theorem opsN_no {p:List Nd} {op:Int} {n:Nat} (h: ¬(p.getD n dN).op=op):opsN p op (n+1)=opsN p op n:=by
 unfold opsN;rw[List.range_succ,List.filter_append,List.filter_cons,decide_eq_false h];exact List.append_nil _
theorem opsN_len (p:List Nd) (op:Int) (n:Nat):(opsN p op n).length≤n:=by
 have:=List.length_filter_le (fun i=>decide ((p.getD i dN).op=op)) (List.range n);rw[List.length_range] at this;exact this
theorem opsN_lt {p:List Nd} {op:Int} {n k:Nat} (h:k∈opsN p op n):k<n∧(p.getD k dN).op=op:=by
 simpa [opsN] using h
theorem opsN_get {p:List Nd} {op:Int} {n j:Nat} (h:j<(opsN p op n).length):(opsN p op n).getD j 0<n:=by
 rw[List.getD_eq_getElem?_getD,List.getElem?_eq_getElem h];exact (opsN_lt (List.getElem_mem h)).1
theorem int_set {p:List Nd} {k:Nat} {z:Int} (hk:k<p.length):setL (p.flatMap ndC) (k*4+1) [.int .u64 z]=(p.set k {p.getD k dN with int:=z}).flatMap ndC:=setL_sub (g:=ndC) (d:=dN) (fun _=>rfl) (by simp) hk rfl
theorem str_set {p:List Nd} {k:Nat} {s:By} (hk:k<p.length):setL (p.flatMap ndC) (k*4+2) [.str s]=(p.set k {p.getD k dN with str:=s}).flatMap ndC:=setL_sub (g:=ndC) (d:=dN) (fun _=>rfl) (by simp) hk rfl
theorem wfS_set {p:List Nd} (h:wfS p) {k:Nat} {y:Nd} (hy:wfS [y]):wfS (p.set k y):=fun x hx=>by
 rcases List.mem_or_eq_of_mem_set hx with h'|rfl
 ·exact h x h'
 ·exact hy _ (List.mem_singleton.2 rfl)
theorem wfI_set {p:List Nd} (h:wfI p) {k:Nat} {y:Nd} (hy:0≤y.int):wfI (p.set k y):=fun x hx=>by
 rcases List.mem_or_eq_of_mem_set hx with h'|rfl
 ·exact h x h'
 ·exact hy
theorem ld_op {p:List Nd} {k:Nat} (hk:k<p.length):ldAt false 1 {cells:=p.flatMap ndC,ty:=30,more:=true,sym:=true,flat:=true,gh:=some (1,4)} (k*4+0)=some (nI (p.getD k dN).op):=by
 show (match (p.flatMap ndC)[k*4+0]? with|some x=>some (V.s x)|none=>none)=_;rw[flat_get ndC 4 dN (fun _=>rfl) hk (show (ndC (p.getD k dN))[0]? =some (.int .i64 (p.getD k dN).op) from rfl)]
theorem ld_ix {I:List Nat} {j:Nat} {c:Nat} {cs:List S} (hc:c=j) (hcs:cs=intC I) (hj:j<I.length):ldAt false 1 {cells:=cs,ty:=3,more:=true,sym:=true,flat:=true,gh:=some (3,1)} c=some (nI ((I.getD j 0:Nat):Int)):=by
 subst hc;subst hcs;show (match (intC I)[c]? with|some x=>some (V.s x)|none=>none)=_;rw[List.getElem?_map,List.getElem?_eq_getElem hj,List.getD_eq_getElem?_getD,List.getElem?_eq_getElem hj];rfl
theorem mod_nat (z:Int) (n:Nat) (h:0<n):∃ j:Nat,j<n∧z%(n:Int)=j:=by
 have h0:=Int.emod_nonneg z (show (n:Int)≠0 by omega);have h1:=Int.emod_lt_of_pos z (show 0<(n:Int) by omega);obtain⟨j,hj⟩:=Int.eq_ofNat_of_zero_le h0;exact⟨j,by omega,hj⟩
theorem seg_z (z:Int):∃ s:By,s.length≤4∧FC Tryz.prog 14 [nI z] 0 [] (sV s) 0 []:=by
 have hm0:=mod_c z 10 (by decide) (by decide)
 obtain⟨n,hn,he⟩:∃ n:Nat,n<10∧z%18446744073709551616%(10:Nat)=n:=⟨(z%18446744073709551616%(10:Nat)).toNat,by omega,by omega⟩
 rw[he] at hm0;clear he
 have key:∀ n:Nat,n<10→FC Tryz.prog 13 [nI z,nI (10:Nat)] 0 [] (nI n) 0 []→FC Tryz.prog 14 [nI z] 0 [] (sV (segsL.getD n [])) 0 []:=by
  intro n hn hm0
  rcases (by omega:n=0∨n=1∨n=2∨n=3∨n=4∨n=5∨n=6∨n=7∨n=8∨n=9) with rfl|rfl|rfl|rfl|rfl|rfl|rfl|rfl|rfl|rfl
  all_goals
   refine FC.walk (by kernel_rfl) Tryz.func14 rfl rfl ?_
   repeat'(first|exact y0|refine y1 ?_|refine y2 ?_ ?_|(refine y8 ?_ ?_<;>intro h<;>try exact y6)|(refine wC ?_;first|refine wF 13 (pu hm0 ?_))|refine Fin.str (.inl rfl) rfl rfl|refine y3 ?_|refine y7 ?_ ?_|refine y4 ?_|(refine y9 ?_ ?_<;>intro h)|exact y5|fail)
 refine⟨segsL.getD n [],?_,key n hn hm0⟩
 match n,hn with
 |0,_=>decide
 |1,_=>decide
 |2,_=>decide
 |3,_=>decide
 |4,_=>decide
 |5,_=>decide
 |6,_=>decide
 |7,_=>decide
 |8,_=>decide
 |9,_=>decide
set_option maxRecDepth 100000
set_option maxHeartbeats 2000000
abbrev nsB (p:List Nd):Bl:={cells:=p.flatMap ndC,ty:=30,more:=true,sym:=true,flat:=true,gh:=some (1,4)}
abbrev ixB (I:List Nat):Option Bl:=opB 3 3 1 (intC I)
theorem numbers_c (l:List Int) (hl:l.length≤20000000000000) (a n:Int) (hn:0≤n) (hn2:n<18446744073709551616) (small:Bool):FC Tryz.prog 4 [.s (chF l),nI a,nU n,bV small] 0 [] (bV true) 0 []:=by
 obtain⟨sy,hsy,hsys⟩:=system_e l hl;have haw:=awake_c;have hsl:=hsy.len;have hw:=hsy.wfS;have hI:=hsy.wfI;obtain⟨k0,hk0,_⟩:=hsy.nm
 have hsz:(Tryz.prog.types[30]).size=4:=by kernel_rfl
 have hby:(Tryz.prog.types[30]).bytes=40:=by kernel_rfl
 have hszi:(Tryz.prog.types[3]).size=1:=by kernel_rfl
 have hbyi:(Tryz.prog.types[3]).bytes=8:=by kernel_rfl
 refine FC.walk (by kernel_rfl) Tryz.func4 rfl rfl ?_
 repeat'(first|exact y0|refine y1 ?_|refine y2 ?_ ?_|(refine y8 ?_ ?_<;>intro h<;>try exact y6)|(refine wC ?_;first|refine wF 12 (pu hsys ?_))|refine RegX.app [.app sy.length (sy.flatMap ndC)] rfl rfl ?_ rfl rfl rfl ?_|refine y3 ?_|refine y7 ?_ ?_|refine y4 ?_|(refine y9 ?_ ?_<;>intro h)|exact y5|fail)
 all_goals try first
  |(rw[nd_flat];exact (List.nil_append _).symm)
  |(rw[nd_flat];exact nd_fit _ _)
  |(rw[hby];omega)
 refine Ex.canon [0,1] 53 [(0,.s (chF l)),(1,nI a),(2,nU n),(3,bV small),(9,.s (.sla 0 1 sy.length)),(10,.s (.slc none 0 (some 0))),(11,nI 0)] [(0,some (nsB sy))] rfl rfl ⟨VLe.refl _,VLe.refl _,VLe.refl _,VLe.refl _,VLe.refl _,VLe.refl _,VLe.refl _,trivial⟩ ⟨rfl,trivial⟩ rfl ?_;refine Ex.set 10 (.s (.row 2 3 0)) (VLe.s SLe.nilrow) rfl (Ex.upN (n':=4) (by decide) ?_);refine Ex.inv (σ:=Nat) (fun i=>[(10,.s (.row 2 3 (opsN sy 1 i).length)),(11,nI i)]) (fun i=>[(0,some (nsB sy)),(2,ixB (opsN sy 1 i))]) (fun i=>i≤sy.length) (fun i=>sy.length-i) 0 rfl (fun _=>rfl) (Nat.zero_le _) ⟨VLe.refl _,VLe.refl _,trivial⟩ ⟨rfl,trivial⟩ ?_;intro i hi
 rcases Nat.lt_or_ge i sy.length with hlt|hge
 ·have hol:=opsN_len sy 1 i
  have hld:=ld_op hlt;rw[Nat.add_zero] at hld;by_cases ho:(sy.getD i dN).op=1
  ·have hs:=opsN_yes ho
   repeat'(first|exact y0|refine y1 ?_|refine y2 ?_ ?_|(refine y8 ?_ ?_<;>intro h<;>try exact y6)|refine RegX.ldS [.val (nI (sy.getD i dN).op)] rfl rfl ?_ rfl ?_|refine RegX.apr (i:=2) (g:=3) (m:=(opsN sy 1 i).length) (w:=1) (cs:=intC (opsN sy 1 i)) (foot:=[4]) (k:=1) (add:=[S.int .i64 (i:Int)]) rfl rfl (by simp) rfl rfl rfl rfl rfl rfl rfl hszi (by decide) rfl ⟨Nat.le_refl _,rfl⟩ (by decide) (by simp) rfl (by rw[hbyi];omega) (by omega) rfl ?_|refine y3 ?_|refine y7 ?_ ?_|refine y4 ?_|(refine y9 ?_ ?_<;>intro h)|exact y5|fail)
   all_goals try first
    |omega
    |(rw[hszi,hsz,plus_eq,plus_eq,times_eq,Nat.zero_add];exact hld)
   refine LoopR.move (i+1) (by omega) (by omega) [0,1,5,6] rfl ?_ ?_ ?_
   ·rw[hs]
    repeat' (first|exact VLe.refl _|exact VLe.any _|exact True.intro|exact VLe.of_eq (congrArg nI (by push_cast;omega))|(refine VLe.of_eq (congrArg V.s (?_:S.row 5 6 _=S.row 5 6 _));simp;done)|refine⟨?_,?_⟩)
   ·refine⟨rfl,MemP.op ?_ trivial⟩
    rw[hs];unfold intC;rw[List.map_append];rfl
   ·unfold ixB;generalize intC (opsN sy 1 (i+1))=cg;cases cg<;>rfl
  ·have hs:=opsN_no ho
   repeat'(first|exact y0|refine y1 ?_|refine y2 ?_ ?_|(refine y8 ?_ ?_<;>intro h<;>try exact y6)|refine RegX.ldS [.val (nI (sy.getD i dN).op)] rfl rfl ?_ rfl ?_|refine y3 ?_|refine y7 ?_ ?_|refine y4 ?_|(refine y9 ?_ ?_<;>intro h)|exact y5|fail)
   all_goals try first
    |omega
    |(rw[hszi,hsz,plus_eq,plus_eq,times_eq,Nat.zero_add];exact hld)
   refine LoopR.same (i+1) (by omega) (by omega) rfl ⟨VLe.of_eq (by rw[hs];rfl),VLe.of_eq (congrArg nI (by push_cast;omega)),trivial⟩ ⟨rfl,SubP.op (by rw[hs];rfl) trivial⟩ rfl ?_ (by decide)
   unfold ixB;generalize intC (opsN sy 1 (i+1))=cg;cases cg<;>rfl
 ·obtain rfl:i=sy.length:=by omega
  have hol:=opsN_len sy 1 sy.length
  have hog:=fun j=> @opsN_get sy 1 sy.length j
  generalize hIe:opsN sy 1 sy.length=I at*
  cases I with
  |nil=>
   have hagr:=agr_c sy hw hI;cases small
   all_goals
    refine Ex.fz 9 (fun k=>ndC (sy.getD k dN)) 4 rfl rfl rfl rfl (fun _ _=>rfl) (fun k j s hk hs=>nd_cell hk hs) rfl rfl ?_
    repeat'(first|exact y0|refine y1 ?_|refine y2 ?_ ?_|(refine y8 ?_ ?_<;>intro h<;>try exact y6)|(refine wC ?_;first|refine wF 9 (pu haw ?_)|refine wF 10 (pu hagr ?_))|refine Fin.bool (.inl rfl) rfl ?_|refine y3 ?_|refine y7 ?_ ?_|refine y4 ?_|(refine y9 ?_ ?_<;>intro h)|exact y5|fail)
   trace_state
   all_goals rfl
  |cons x I=>
   refine Ex.set 10 (.s (.sla 2 3 (I.length+1))) (VLe.s (SLe.rowsla (Nat.succ_pos _))) rfl ?_;have hm0:=mod_c a (I.length+1) (Nat.succ_pos _) (by simp only[List.length_cons] at hol;omega);obtain⟨j,hj,he⟩:=mod_nat (a%18446744073709551616) (I.length+1) (Nat.succ_pos _);rw[he] at hm0;have hk:=hog j hj;generalize hke:(x::I).getD j 0=k at*
   have hfin:∀ z:Int,0≤z→∃ q:List Nd,q.length=sy.length∧setL (sy.flatMap ndC) (k*4+1) [.int .u64 z]=q.flatMap ndC∧FC Tryz.prog 10 [nodes q] 0 [] (bV true) 0 []:=fun z hz=>
    ⟨_,List.length_set,int_set hk,agr_c _ (wfS_set hw fun x hx=>by rw[List.mem_singleton.1 hx];exact wfS_get hw k) (wfI_set hI hz)⟩
   cases small
   ·obtain⟨q,hql,hqs,hagr⟩:=hfin n hn
    repeat'(first|exact y0|refine y1 ?_|refine y2 ?_ ?_|(refine y8 ?_ ?_<;>intro h<;>try exact y6)|(refine wC ?_;first|refine wF 13 (pu hm0 ?_)|refine wF 9 (pu haw ?_)|(refine wF 10 ?_;refine CallG.pz 50 (fun k=>ndC (q.getD k dN)) 4 hagr rfl rfl rfl rfl (fun _ _=>rfl) (fun kk jj zz h1 h2=>nd_cell (Nat.lt_of_lt_of_eq h1 hql.symm) h2) rfl ⟨VLe.of_eq (congrArg (fun m=>V.s (.frz (fun k=>ndC (q.getD k dN)) 4 m)) hql.symm),trivial⟩ rfl rfl rfl ?_))|refine RegX.ldS [.val (nI (k:Int))] rfl rfl ?_ rfl ?_|refine RegX.sto [.cells (q.flatMap ndC)] rfl rfl ⟨?_,?_⟩ rfl ?_|refine Fin.bool (.inl rfl) rfl ?_|refine y3 ?_|refine y7 ?_ ?_|refine y4 ?_|(refine y9 ?_ ?_<;>intro h)|exact y5|fail)
    all_goals try first
     |rfl
     |(rw[hszi,plus_eq,times_eq,←hke];exact ld_ix (I:=x::I) (show 0+j*1=j by omega) rfl hj)
     |(rw[hsz,plus_eq,plus_eq,times_eq,Nat.zero_add];exact hqs.symm)
     |(rw[hsz,plus_eq,plus_eq,times_eq,Nat.zero_add];show k*4+1+1≤(sy.flatMap ndC).length;rw[nd_len];omega)
    trace_state
   ·obtain⟨q,hql,hqs,hagr⟩:=hfin (n.tmod 300) (Int.tmod_nonneg _ hn)
    repeat'(first|exact y0|refine y1 ?_|refine y2 ?_ ?_|(refine y8 ?_ ?_<;>intro h<;>try exact y6)|(refine wC ?_;first|refine wF 13 (pu hm0 ?_)|refine wF 9 (pu haw ?_)|(refine wF 10 ?_;refine CallG.pz 50 (fun k=>ndC (q.getD k dN)) 4 hagr rfl rfl rfl rfl (fun _ _=>rfl) (fun kk jj zz h1 h2=>nd_cell (Nat.lt_of_lt_of_eq h1 hql.symm) h2) rfl ⟨VLe.of_eq (congrArg (fun m=>V.s (.frz (fun k=>ndC (q.getD k dN)) 4 m)) hql.symm),trivial⟩ rfl rfl rfl ?_))|refine RegX.ldS [.val (nI (k:Int))] rfl rfl ?_ rfl ?_|refine RegX.sto [.cells (q.flatMap ndC)] rfl rfl ⟨?_,?_⟩ rfl ?_|refine Fin.bool (.inl rfl) rfl ?_|refine y3 ?_|refine y7 ?_ ?_|refine y4 ?_|(refine y9 ?_ ?_<;>intro h)|exact y5|fail)
    all_goals try first
     |rfl
     |(rw[hszi,plus_eq,times_eq,←hke];exact ld_ix (I:=x::I) (show 0+j*1=j by omega) rfl hj)
     |(rw[hsz,plus_eq,plus_eq,times_eq,Nat.zero_add];exact hqs.symm)
     |(rw[hsz,plus_eq,plus_eq,times_eq,Nat.zero_add];show k*4+1+1≤(sy.flatMap ndC).length;rw[nd_len];omega)
    trace_state
end Go.Proofs.YtphdhedhhlfepaaGreatDoor
