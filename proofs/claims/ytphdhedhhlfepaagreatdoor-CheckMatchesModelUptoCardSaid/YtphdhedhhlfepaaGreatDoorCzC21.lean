import Derived.Test.YtphdhedhhlfepaaGreatDoorCzC20
import Derived.Test.YtphdhedhhlfepaaGreatDoorCzC17
import Derived.Test.YtphdhedhhlfepaaGreatDoorCzC12
import Derived.Test.YtphdhedhhlfepaaGreatDoorCzC16
set_option linter.unusedSimpArgs false
set_option linter.unusedVariables false
namespace Go.Proofs.YtphdhedhhlfepaaGreatDoor
open Go Ab
set_option maxRecDepth 100000
set_option maxHeartbeats 4000000
def rowG1 (op:Int):List Rw→Rw×Bool
 |[]=>(dR,false)
 |r::t=>if r.1=op then (r,true) else rowG1 op t
def rowF (op:Int):Rw×Bool:=rowG1 op rowsL
theorem rowOf_c (op:Int):FC Tryz.prog 80 [nI op] 0 [] (.tup [.agg (rwC (rowF op).1),.s (.bool (rowF op).2)]) 0 []:=by
 refine FC.walk (by kernel_rfl) Tryz.func80 rfl rfl ?_;have hl:rowsL.length=56:=rfl;unfold rowF;generalize hR:rowG1 op rowsL=R
 repeat'(first|exact y0|refine y1 ?_|refine y2 ?_ ?_|(refine y8 ?_ ?_<;>intro h<;>try exact y6)|(refine wC ?_;first|refine wF 128 (pu rows_c ?_))|refine y3 ?_|refine y7 ?_ ?_|refine y4 ?_|(refine y9 ?_ ?_<;>intro h)|exact y5|fail)
 generalize rowsL=rl at*;refine Ex.inv (σ:=Nat) (fun j=>[(5,nI j)]) (fun _=>[(0,some {cells:=[.int .i64 0,.str [],.str []],ty:=122})]) (fun j=>j≤56∧rowG1 op (rl.drop j)=R) (fun j=>56-j) 0 rfl (fun _=>rfl) ⟨Nat.zero_le _,hR⟩ ⟨VLe.refl _,trivial⟩ ⟨rfl,trivial⟩ ?_;rintro j ⟨hj,hI⟩;by_cases h:j<56
 ·have hd:rl.drop j=rl.getD j dR::rl.drop (j+1):=by
   rw[List.drop_eq_getElem_cons (by omega),List.getD_eq_getElem?_getD,List.getElem?_eq_getElem (by omega)];rfl
  rw[hd] at hI;simp only[rowG1] at hI;by_cases ho:(rl.getD j dR).1=op
  ·rw[if_pos ho] at hI
   subst hI
   repeat'(first|exact y0|refine y1 ?_|refine y2 ?_ ?_|(refine y8 ?_ ?_<;>intro h<;>try(exact y6))|refine Fin.plain (.inl rfl) rfl ?_ rfl|refine y3 ?_|refine y7 ?_ ?_|refine y4 ?_|(refine y9 ?_ ?_<;>intro h)|exact y5|fail)
   all_goals rfl
  ·rw[if_neg ho] at hI
   repeat'(first|exact y0|refine y1 ?_|refine y2 ?_ ?_|(refine y8 ?_ ?_<;>intro h<;>try(exact y6))|refine y3 ?_|refine y7 ?_ ?_|refine y4 ?_|(refine y9 ?_ ?_<;>intro h)|exact y5|fail)
   refine LoopR.same (j+1) ⟨by omega,hI⟩ (by omega) rfl ⟨VLe.refl _,trivial⟩ ⟨rfl,trivial⟩ rfl rfl (by decide)
 ·rw[List.drop_eq_nil_of_le (by omega)] at hI
  subst hI
  repeat'(first|exact y0|refine y1 ?_|refine y2 ?_ ?_|(refine y8 ?_ ?_<;>intro h<;>try exact y6)|refine Fin.plain (.inl rfl) rfl ?_ rfl|refine y3 ?_|refine y7 ?_ ?_|refine y4 ?_|(refine y9 ?_ ?_<;>intro h)|exact y5|fail)
  all_goals rfl
def kindsR (op kids:Int):By×Bool:=
 if op=1∨op=2∨op=3∨op=6∨op=7 then ([],decide (kids=0))
 else if op=5 then (if kids<0∨7<kids then ([],false) else (e7.take kids.toNat,true))
 else if op=31∧kids=3 then ([101,83,83],true)
 else if op=33∧kids=1 then ([101],true)
 else ((rowF op).1.2.2,(rowF op).2&&decide (((rowF op).1.2.2.length:Int)=kids))
theorem kindsR_p (op:Int) (k:Nat):FC Tryz.prog 68 [nI op,nI (k:Int)] 0 [] (.tup [.s (.str (kindsR op k).1),.s (.bool (kindsR op k).2)]) 0 []:=by
 refine FC.walk (by kernel_rfl) Tryz.func68 rfl rfl ?_;have hr:=rowOf_c op;unfold kindsR;generalize rowF op=R at*;obtain⟨⟨o,wd,kd⟩,ok⟩:=R;cases ok
 all_goals
  repeat'(first|exact y0|refine y1 ?_|refine y2 ?_ ?_|(refine y8 ?_ ?_<;>intro h<;>try exact y6)|(refine wC ?_;first|refine wF 80 (pu hr ?_))|refine Fin.plain (.inl rfl) rfl ?_ rfl|refine y3 ?_|refine y7 ?_ ?_|refine y4 ?_|(refine y9 ?_ ?_<;>intro h)|exact y5|fail)
  all_goals first
   |(show k≤7;omega)
   |exact tupk (by unfold e7;simp_all<;>omega)
   |exact tupk (by unfold e7;simp_all;done)
theorem kindsR_n (op:Int) (k:Int) (hk:k<0):FC Tryz.prog 68 [nI op,nI k] 0 [] (.tup [.s (.str (kindsR op k).1),.s (.bool (kindsR op k).2)]) 0 []:=by
 refine FC.walk (by kernel_rfl) Tryz.func68 rfl rfl ?_;have hr:=rowOf_c op;unfold kindsR;generalize rowF op=R at*;obtain⟨⟨o,wd,kd⟩,ok⟩:=R;cases ok
 all_goals
  repeat'(first|exact y0|refine y1 ?_|refine y2 ?_ ?_|(refine y8 ?_ ?_<;>intro h<;>try exact y6)|(refine wC ?_;first|refine wF 80 (pu hr ?_))|refine Fin.plain (.inl rfl) rfl ?_ rfl|refine y3 ?_|refine y7 ?_ ?_|refine y4 ?_|(refine y9 ?_ ?_<;>intro h)|exact y5|fail)
  all_goals first
   |exact tupk (by unfold e7;simp_all<;>omega)
   |exact tupk (by unfold e7;simp_all;done)
theorem kindsR_c (op k:Int):FC Tryz.prog 68 [nI op,nI k] 0 [] (.tup [.s (.str (kindsR op k).1),.s (.bool (kindsR op k).2)]) 0 []:=by
 by_cases h:k<0
 ·exact kindsR_n op k h
 ·obtain⟨n,rfl⟩:=Int.eq_ofNat_of_zero_le (by omega:0≤k)
  exact kindsR_p op n
theorem fieldsR_u (op int:Int) (str:By) (kids k:Int) (hl:str.length≤4398046511104):FC Tryz.prog 69 [.agg [.int .i64 op,.int .u64 int,.str str,.int .i64 kids],n8 k] 0 [] (bV (fieldsB ⟨op,int,str,kids⟩ k)) 0 []:=by
 have hpp:=parseR_c str hl;have hsg:=single_c str (by omega)
 have hkey:∀ p,parseP str=(p,true)→fmtP p=str∧sglP p=isSeg str∧validP p=true:=fun p h=>⟨fmt_parse h,sgl_seg h,parse_valid h⟩
 generalize hp:parseP str=pp at*;obtain⟨pt,ok⟩:=pp;refine FC.walk (by kernel_rfl) Tryz.func69 rfl rfl ?_;cases ok
 ·
  obtain⟨root,up,segs⟩:=pt
  repeat'(first|exact y0|refine y1 ?_|refine y2 ?_ ?_|(refine y8 ?_ ?_<;>intro h<;>try exact y6)|(refine wC ?_;first|refine wF 83 (pu hpp ?_))|refine Fin.bool (.inl rfl) rfl ?_|refine y3 ?_|refine y7 ?_ ?_|refine y4 ?_|(refine y9 ?_ ?_<;>intro h)|exact y5|fail)
  all_goals first
   |(unfold fieldsB;simp_all;done)
   |(unfold fieldsB;simp_all;omega)
 ·
  obtain⟨k1,k2,k3⟩:=hkey pt rfl
  have hso:segOK pt.segs:=fun i hi=>by
   have:=seg_at_le (valid_facts k3).2.2.2.2.1 hi;omega
  have hfm:=fmtR_c pt hso;rw[k1] at hfm;obtain⟨root,up,segs⟩:=pt
  cases hsb:isSeg str<;>rw[hsb] at hsg
  all_goals
   repeat'(first|exact y0|refine y1 ?_|refine y2 ?_ ?_|(refine y8 ?_ ?_<;>intro h<;>try exact y6)|(refine wC ?_;first|refine wF 83 (pu hpp ?_)|refine wF 85 (pu hfm ?_)|refine wF 73 (bo hsg ?_))|refine Fin.bool (.inl rfl) rfl ?_|refine y3 ?_|refine y7 ?_ ?_|refine y4 ?_|(refine y9 ?_ ?_<;>intro h)|exact y5|fail)
   all_goals first
    |(unfold fieldsB;simp_all;done)
    |(unfold fieldsB;simp_all;omega)
theorem fieldsR_c (x:Nd) (k:Int) (hl:x.str.length≤4398046511104):FC Tryz.prog 69 [ndV x,n8 k] 0 [] (bV (fieldsB x k)) 0 []:=fieldsR_u x.op x.int x.str x.kids k hl
set_option maxRecDepth 100000
set_option maxHeartbeats 2000000
def rowW1 (s:By):List Rw→Rw×Bool
 |[]=>(dR,false)
 |r::t=>if r.2.1=s then (r,true) else rowW1 s t
theorem wordOf_c (s:By):FC Tryz.prog 125 [sV s] 0 [] (.tup [.agg (rwC (rowW1 s rowsL).1),.s (.bool (rowW1 s rowsL).2)]) 0 []:=by
 refine FC.walk (by kernel_rfl) Tryz.func125 rfl rfl ?_;have hl:rowsL.length=56:=rfl;generalize hR:rowW1 s rowsL=R
 repeat'(first|exact y0|refine y1 ?_|refine y2 ?_ ?_|(refine y8 ?_ ?_<;>intro h<;>try exact y6)|(refine wC ?_;first|refine wF 128 (pu rows_c ?_))|refine y3 ?_|refine y7 ?_ ?_|refine y4 ?_|(refine y9 ?_ ?_<;>intro h)|exact y5|fail)
 generalize rowsL=rl at*;refine Ex.inv (σ:=Nat) (fun j=>[(5,nI j)]) (fun _=>[(0,some {cells:=[.int .i64 0,.str [],.str []],ty:=122})]) (fun j=>j≤56∧rowW1 s (rl.drop j)=R) (fun j=>56-j) 0 rfl (fun _=>rfl) ⟨Nat.zero_le _,hR⟩ ⟨VLe.refl _,trivial⟩ ⟨rfl,trivial⟩ ?_;rintro j ⟨hj,hI⟩;by_cases h:j<56
 ·have hd:rl.drop j=rl.getD j dR::rl.drop (j+1):=by
   rw[List.drop_eq_getElem_cons (by omega),List.getD_eq_getElem?_getD,List.getElem?_eq_getElem (by omega)];rfl
  rw[hd] at hI;simp only[rowW1] at hI;by_cases ho:(rl.getD j dR).2.1=s
  ·rw[if_pos ho] at hI
   subst hI
   repeat'(first|exact y0|refine y1 ?_|refine y2 ?_ ?_|(refine y8 ?_ ?_<;>intro h<;>try(exact y6))|refine Fin.plain (.inl rfl) rfl ?_ rfl|refine y3 ?_|refine y7 ?_ ?_|refine y4 ?_|(refine y9 ?_ ?_<;>intro h)|exact y5|fail)
   all_goals rfl
  ·rw[if_neg ho] at hI
   repeat'(first|exact y0|refine y1 ?_|refine y2 ?_ ?_|(refine y8 ?_ ?_<;>intro h<;>try(exact y6))|refine y3 ?_|refine y7 ?_ ?_|refine y4 ?_|(refine y9 ?_ ?_<;>intro h)|exact y5|fail)
   refine LoopR.same (j+1) ⟨by omega,hI⟩ (by omega) rfl ⟨VLe.refl _,trivial⟩ ⟨rfl,trivial⟩ rfl rfl (by decide)
 ·rw[List.drop_eq_nil_of_le (by omega)] at hI
  subst hI
  repeat'(first|exact y0|refine y1 ?_|refine y2 ?_ ?_|(refine y8 ?_ ?_<;>intro h<;>try exact y6)|refine Fin.plain (.inl rfl) rfl ?_ rfl|refine y3 ?_|refine y7 ?_ ?_|refine y4 ?_|(refine y9 ?_ ?_<;>intro h)|exact y5|fail)
  all_goals rfl
def gRow:List V→Option V
 |[.s (.int .i64 z)]=>some (.tup [.agg (rwC (rowF z).1),.s (.bool (rowF z).2)])
 |_=>none
def gWord:List V→Option V
 |[.s (.str s)]=>some (.tup [.agg (rwC (rowW1 s rowsL).1),.s (.bool (rowW1 s rowsL).2)])
 |_=>none
def tabOv:FuncId→List V→Nat→T Bl→Option KC:=ovOr (ovG 80 gRow) (ovG 125 gWord)
theorem tabOv_ok:OvOK Tryz.prog tabOv:=by
 refine ovOr_ok (ovG_ok fun args v h=>?_) (ovG_ok fun args v h=>?_)
 ·unfold gRow at h
  split at h
  ·cases h;exact⟨rowOf_c _,rfl,rfl⟩
  ·cases h
 ·unfold gWord at h
  split at h
  ·cases h;exact⟨wordOf_c _,rfl,rfl⟩
  ·cases h
end Go.Proofs.YtphdhedhhlfepaaGreatDoor
