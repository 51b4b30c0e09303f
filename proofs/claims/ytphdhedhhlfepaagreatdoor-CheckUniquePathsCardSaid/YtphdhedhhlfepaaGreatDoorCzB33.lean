import Derived.Test.YtphdhedhhlfepaaGreatDoorCzB32
import Derived.Test.YtphdhedhhlfepaaGreatDoorCzB28
import Derived.Test.YtphdhedhhlfepaaGreatDoorCzB29
import Derived.WalkKit
import Derived.ProofKit
import Derived.OpenShut
import Derived.ShutString
import Derived.ChangeOld
import Derived.Below
import Derived.Lib.SmallJoins
import Derived.Handed
import Derived.Lay
import Derived.LaidOnce
import Derived.Stop.Joined
import Derived.Deep.Slices
import Derived.Test.YtphdhedhhlfepaaGreatDoorTie
set_option linter.unusedSimpArgs false
set_option linter.unusedVariables false
namespace Go.Proofs.YtphdhedhhlfepaaGreatDoor
open Go Ab
set_option maxRecDepth 100000
set_option maxHeartbeats 4000000
abbrev ndB (g:Nat) (D:List Nd):Option Bl:=opB 30 (g+1) 4 (D.flatMap ndC)
theorem nd_np (r:List Nd):(r.flatMap ndC).all noPtr=true:=by
 induction r with
 |nil=>rfl
 |cons x r ih=>rw[List.flatMap_cons,List.all_append,ih];rfl
theorem nd_ne {r:List Nd} (h:r≠[]):r.flatMap ndC≠[]:=by
 cases r with
 |nil=>exact absurd rfl h
 |cons x r=>simp[ndC]
structure PgOK (p:List Nd):Prop where
 v:validN p=true
 wf:∀ x∈p,x.str.length≤1000∧0≤x.int
theorem valid_nil:validN []=true:=by decide
theorem flat_ok {B:Nat} {K:List (List Nd)} (h:∀ r∈K,OKr B r):∀ x∈K.flatten,x.str.length≤1000∧0≤x.int:=fun x hx=>by
 obtain⟨r,hr,hx⟩:=List.mem_flatten.1 hx;exact (h r hr).wf x hx
theorem program_b (l:List Int) (hl:l.length≤20000000000000) (B:Nat) (hBB:B≤200000000000) (hDE:DeclE l 2 B):∃ p,PgOK p∧FC Tryz.prog 11 [.s (chF l)] 0 [] (nodes p) 0 []:=by
 obtain⟨m,i2,hm2,hi2,c2⟩:=next_c l hl 5 (by decide) (by decide) 0 (Nat.zero_le _);obtain⟨K,i3,hB,hi3,hK⟩:=dc_t l hl 2 B hDE (m+1) i2 hi2;have hKl:=dcT_len hB;have hKf:=flat_ok hK;have hKn:=flat_len_le hK;have hKm:K.length*B≤5*B:=Nat.mul_le_mul_right _ (by omega)
 have hflen:K.flatten.length≤1000000000000:=by omega
 clear hKm hKn hBB
 have hw:wfS K.flatten:=fun x hx=>by have:=(hKf x hx).1;omega
 have hv:=validR_all K.flatten hw;have hv0:=validR_all [] (fun x hx=>by cases hx);rw[valid_nil] at hv0;have hnew:=new_c l
 have hsz:(Tryz.prog.types[30]).size=4:=by kernel_rfl
 have hby:(Tryz.prog.types[30]).bytes=40:=by kernel_rfl
 refine⟨if validN K.flatten then K.flatten else [],?_,?_⟩
 ·split
  ·exact⟨by assumption,hKf⟩
  ·exact⟨valid_nil,fun x hx=>by cases hx⟩
 refine FC.walk (by kernel_rfl) Tryz.func11 rfl rfl ?_
 repeat'(first|exact y0|refine y1 ?_|refine y2 ?_ ?_|(refine y8 ?_ ?_<;>intro h<;>try exact y6)|(refine wC ?_;first|(refine wF 26 ?_;refine CallG.me [] hnew rfl rfl ⟨VLe.refl _,trivial⟩ trivial rfl rfl rfl ?_)|refine wF 27 (cm c2 ?_))|refine y3 ?_|refine y7 ?_ ?_|refine y4 ?_|(refine y9 ?_ ?_<;>intro h)|exact y5|fail)
 all_goals try first
  |exact i64_in (by omega) (by omega)
 refine Ex.set 4 (.s (.row 1 2 0)) (VLe.s SLe.nilrow) rfl (Ex.upN (n':=3) (by omega) ?_)
 refine Ex.inv (σ:=Nat×Nat×List Nd) (fun s=>[(4,.s (.row 1 2 s.2.2.length)),(5,nI s.1)]) (fun s=>[(0,some {cells:=[chF l,.int .i64 (s.2.1:Int)],ty:=96}),(1,ndB 1 s.2.2)])
  (fun s=>s.1≤5∧∃ R,DcT l 2 s.1 s.2.1 R i3∧s.2.2++R.flatten=K.flatten∧(∀ r∈R,OKr B r)) (fun s=>s.1) (m+1,i2,[]) rfl (fun _=>rfl) ⟨by simp only;omega,K,hB,rfl,hK⟩ ⟨VLe.refl _,VLe.of_eq (congrArg nI (by push_cast;omega)),trivial⟩ ⟨rfl,trivial⟩ ?_
 rintro⟨n,j,D⟩ ⟨hn5,R,hR,hD,hRK⟩;simp only at hn5 hR hD hRK ⊢
 cases hR with
 |nil=>
  rw[List.flatten_nil,List.append_nil] at hD;rw[←hD] at hv ⊢;clear hD hw hKf
  cases D with
  |nil=>
   rw[show (if validN []=true then ([]:List Nd) else [])=[] by split<;>rfl];refine Ex.set 4 (nodes []) (VLe.s SLe.row0) rfl ?_
   repeat'(first|exact y0|refine y1 ?_|refine y2 ?_ ?_|(refine y8 ?_ ?_<;>intro h<;>try(exact y6))|(refine wC ?_;first|refine wF 20 (bo hv0 ?_))|exact u64_in (by omega) (by omega)|exact i64_in (by omega) (by omega)|refine Fin.le (.inl rfl) rfl (VLe.refl _) rfl|refine y3 ?_|refine y7 ?_ ?_|refine y4 ?_|(refine y9 ?_ ?_<;>intro h)|exact y5|fail)
  |cons d D=>
   cases hV:validN (d::D)<;>rw[hV] at hv
   all_goals simp only[Bool.false_eq_true,if_false,if_true]
   ·
    refine Ex.fz 4 (fun k=>ndC ((d::D).getD k dN)) 4 rfl rfl rfl rfl (fun _ _=>rfl) (fun k j s hk hs=>nd_cell hk hs) rfl rfl ?_
    repeat'(first|exact y0|refine y1 ?_|refine y2 ?_ ?_|(refine y8 ?_ ?_<;>intro h<;>try(exact y6))|(refine wC ?_;first|refine wF 20 (bo hv ?_))|exact u64_in (by omega) (by omega)|exact i64_in (by omega) (by omega)|refine Fin.le (.inl rfl) rfl (VLe.s SLe.nil) rfl|refine y3 ?_|refine y7 ?_ ?_|refine y4 ?_|(refine y9 ?_ ?_<;>intro h)|exact y5|fail)
   ·
    refine Ex.fz 4 (fun k=>ndC ((d::D).getD k dN)) 4 rfl rfl rfl rfl (fun _ _=>rfl) (fun k j s hk hs=>nd_cell hk hs) rfl rfl ?_
    repeat'(first|exact y0|refine y1 ?_|refine y2 ?_ ?_|(refine y8 ?_ ?_<;>intro h<;>try(exact y6))|(refine wC ?_;first|refine wF 20 (bo hv ?_))|exact u64_in (by omega) (by omega)|exact i64_in (by omega) (by omega)|refine Fin.le (.inl rfl) rfl (VLe.refl _) rfl|refine y3 ?_|refine y7 ?_ ?_|refine y4 ?_|(refine y9 ?_ ?_<;>intro h)|exact y5|fail)
 |stop c=>
  rw[List.flatten_nil,List.append_nil] at hD;rw[←hD] at hv ⊢;clear hD hw hKf
  cases D with
  |nil=>
   rw[show (if validN []=true then ([]:List Nd) else [])=[] by split<;>rfl];refine Ex.set 4 (nodes []) (VLe.s SLe.row0) rfl ?_
   repeat'(first|exact y0|refine y1 ?_|refine y2 ?_ ?_|(refine y8 ?_ ?_<;>intro h<;>try(exact y6))|(refine wC ?_;first|refine wF 28 (cm c ?_)|refine wF 20 (bo hv0 ?_))|exact u64_in (by omega) (by omega)|exact i64_in (by omega) (by omega)|refine Fin.le (.inl rfl) rfl (VLe.refl _) rfl|refine y3 ?_|refine y7 ?_ ?_|refine y4 ?_|(refine y9 ?_ ?_<;>intro h)|exact y5|fail)
  |cons d D=>
   cases hV:validN (d::D)<;>rw[hV] at hv
   all_goals simp only[Bool.false_eq_true,if_false,if_true]
   ·
    refine Ex.fz 4 (fun k=>ndC ((d::D).getD k dN)) 4 rfl rfl rfl rfl (fun _ _=>rfl) (fun k j s hk hs=>nd_cell hk hs) rfl rfl ?_
    repeat'(first|exact y0|refine y1 ?_|refine y2 ?_ ?_|(refine y8 ?_ ?_<;>intro h<;>try(exact y6))|(refine wC ?_;first|refine wF 28 (cm c ?_)|refine wF 20 (bo hv ?_))|exact u64_in (by omega) (by omega)|exact i64_in (by omega) (by omega)|refine Fin.le (.inl rfl) rfl (VLe.s SLe.nil) rfl|refine y3 ?_|refine y7 ?_ ?_|refine y4 ?_|(refine y9 ?_ ?_<;>intro h)|exact y5|fail)
   ·
    refine Ex.fz 4 (fun k=>ndC ((d::D).getD k dN)) 4 rfl rfl rfl rfl (fun _ _=>rfl) (fun k j s hk hs=>nd_cell hk hs) rfl rfl ?_
    repeat'(first|exact y0|refine y1 ?_|refine y2 ?_ ?_|(refine y8 ?_ ?_<;>intro h<;>try(exact y6))|(refine wC ?_;first|refine wF 28 (cm c ?_)|refine wF 20 (bo hv ?_))|exact u64_in (by omega) (by omega)|exact i64_in (by omega) (by omega)|refine Fin.le (.inl rfl) rfl (VLe.refl _) rfl|refine y3 ?_|refine y7 ?_ ?_|refine y4 ?_|(refine y9 ?_ ?_<;>intro h)|exact y5|fail)
 | @cons n _ j1 _ r' R' c cc2 hr t=>
   have ho:=hRK r' (List.mem_cons_self ..);have hrl:1≤r'.length:=List.length_pos_iff.2 hr;have hol:=ho.len
   have hDl:D.length+r'.length≤1000000000000:=by
    have:=congrArg List.length hD;rw[List.flatten_cons,List.length_append,List.length_append] at this;omega
   repeat'(first|exact y0|refine y1 ?_|refine y2 ?_ ?_|(refine y8 ?_ ?_<;>intro h<;>try(exact y6))|(refine wC ?_;first|refine wF 28 (cm c ?_)|refine wF 29 (cm cc2 ?_))|exact u64_in (by omega) (by omega)|exact i64_in (by omega) (by omega)|refine y3 ?_|refine y7 ?_ ?_|refine y4 ?_|(refine y9 ?_ ?_<;>intro h)|exact y5|fail)
   refine RegX.apr (i:=1) (g:=2) (m:=D.length) (w:=4) (cs:=D.flatMap ndC) (foot:=[]) (k:=r'.length) (add:=flatG (fun k=>ndC (r'.getD k dN)) r'.length) rfl rfl (by rw[nd_len]) rfl rfl rfl rfl rfl rfl rfl hsz (by decide) rfl ?_ hrl (by rw[nd_flat];exact nd_ne hr) (by rw[nd_flat];exact nd_np _) (by rw[hby];omega) (by omega) rfl ?_
   ·trivial
   repeat'(first|exact y0|refine y1 ?_|refine y2 ?_ ?_|(refine y8 ?_ ?_<;>intro h<;>try(exact y6))|exact u64_in (by omega) (by omega)|exact i64_in (by omega) (by omega)|refine y3 ?_|refine y7 ?_ ?_|refine y4 ?_|(refine y9 ?_ ?_<;>intro h)|exact y5|fail)
   all_goals try first
    |exact i64_in (by push_cast;omega) (by push_cast;omega)
    |omega
   refine LoopR.move (n,j1,D++r') ⟨by simp only;omega,R',t,by simpa using hD,fun q hq=>hRK q (List.mem_cons_of_mem _ hq)⟩ (by simp only;omega) [0,3,4] rfl ?_ ?_ ?_
   ·repeat' (first|exact VLe.refl _|exact VLe.any _|exact True.intro|exact VLe.of_eq (congrArg nI (by push_cast;omega))|(refine VLe.of_eq (congrArg V.s (?_:S.row 3 4 _=S.row 3 4 _));simp;done)|refine⟨?_,?_⟩)
   ·refine⟨rfl,MemP.op ?_ trivial⟩
    rw[List.flatMap_append,←nd_flat r'];rfl
   ·unfold ndB;generalize List.flatMap _ _=cg;cases cg<;>rfl
theorem program_e (l:List Int) (hl:l.length≤20000000000000):∃ p,PgOK p∧FC Tryz.prog 11 [.s (chF l)] 0 [] (nodes p) 0 []:=program_b l hl 200000000000 (Nat.le_refl _) (decl_2 l hl)
set_option maxRecDepth 100000
set_option maxHeartbeats 2000000
theorem allG_len {p:List Nd} {t:Fo} (hp:p.length≤2048) (ha:t.At p 0) (hv:t.V (List.replicate t.cnt (false,68))) (hs:t.size=p.length):(srtD (allG p t)).length≤1000000000:=by
 rw[srtD_len];have hnd:=allG_nodup ha hv hs
 have key:∀ (l:List Nat),l.length≤2048→(∀ i∈l,i<p.length)→(l.flatMap (nodeE p (anS p t).F (anS p t).S t)).length≤l.length*6145:=by
  intro l
  induction l with
  |nil=>intro _ _;simp
  |cons i l ih=>
   intro h1 h2;rw[List.flatMap_cons,List.length_append,List.length_cons];have:=ih (by simp only[List.length_cons] at h1;omega) (fun j hj=>h2 j (List.mem_cons_of_mem _ hj));have hi:=h2 i (List.mem_cons_self ..);obtain⟨sl,g1,g2⟩:=kid_at ha hv (Nat.zero_le i) (by omega:i<0+t.size);have hn:=nodeG_len hp (F:=(anS p t).F) (sc:=(anS p t).S.getD i z0) (G:=[]) g1 g2
   have he:(nodeE p (anS p t).F (anS p t).S t i).length≤6145:=by
    unfold nodeE;rw[List.length_append]
    have:(if oorB p i then [(i,4)] else []:Dgs).length≤1:=by split<;>simp
    simp only[List.length_nil] at hn;omega
   rw[Nat.add_mul];omega
 unfold allG;rw[rowG_app,List.length_append];have h1:=(declS_len false t 0 ⟨true,0,[]⟩ (st0 p)).2.2;rw[show (st0 p).G.length=0 from rfl] at h1;have h2:=key (List.range' 0 p.length) (by simp;omega) (fun i hi=>by have:=List.mem_range'_1.1 hi;omega);simp only[List.length_range'] at h2;have h3:p.length*6145≤2048*6145:=Nat.mul_le_mul_right _ hp;have h4:(anS p t).G.length≤0+t.size:=h1;omega
theorem check_any (p:List Nd) (hw:wfN p) (hI:wfI p):∃ G:Dgs,G.Pairwise dlt∧G.length≤1000000000∧FC Tryz.prog 16 [nodes p] 0 [] (dgsV G) 0 []:=by
 cases h:validN p with
 |false=>exact⟨[(0,1)],by simp,by simp,check_no p hw h⟩
 |true=>
  obtain⟨hp,t,ha,hv,hd,hs⟩:=valid_forest h;refine⟨srtD (allG p t),srtD_pw _ (allG_nodup ha hv hs),allG_len hp ha hv hs,check_yes p hw hI h hp t ha hv hs⟩
theorem pw_at {G:Dgs} (h:G.Pairwise dlt) {i:Nat} (hi:i+1<G.length):dlt (G.getD i (0,0)) (G.getD (i+1) (0,0)):=by
 rw[List.getD_eq_getElem?_getD,List.getD_eq_getElem?_getD,List.getElem?_eq_getElem (by omega),List.getElem?_eq_getElem hi];exact List.pairwise_iff_getElem.1 h i (i+1) (by omega) hi (by omega)
theorem PgOK.wfN {p:List Nd} (h:PgOK p):wfN p:=fun x hx=>by have:=(h.wf x hx).1;omega
theorem PgOK.wfI {p:List Nd} (h:PgOK p):wfI p:=fun x hx=>(h.wf x hx).2
theorem order_c (l:List Int) (hl:l.length≤20000000000000) (p:List Nd) (hw:wfN p) (hI:wfI p):FC Tryz.prog 8 [.s (chF l),nodes p] 0 [] (bV true) 0 []:=by
 obtain⟨pg,hpg,hprog⟩:=program_e l hl;have haw:=awake_c;refine FC.walk (by kernel_rfl) Tryz.func8 rfl rfl ?_
 repeat'(first|exact y0|refine y1 ?_|refine y2 ?_ ?_|(refine y8 ?_ ?_<;>intro h<;>try exact y6)|refine y3 ?_|refine y7 ?_ ?_|refine y4 ?_|(refine y9 ?_ ?_<;>intro h)|exact y5|fail)
 refine Ex.inv (σ:=Nat×List Nd) (fun x=>[(5,nI x.1),(1,nodes x.2)]) (fun _=>[]) (fun x=>x.1≤2∧wfN x.2∧wfI x.2) (fun x=>2-x.1) (0,p) rfl (fun _=>rfl) ⟨Nat.zero_le _,hw,hI⟩ ⟨VLe.refl _,VLe.refl _,trivial⟩ trivial ?_;clear hw hI;rintro⟨k,q⟩ ⟨hk,hw,hI⟩;simp only at hk hw hI ⊢;by_cases hlt:k<2
 ·obtain⟨G,hG,hGl,hck⟩:=check_any q hw hI
  repeat'(first|exact y0|refine y1 ?_|refine y2 ?_ ?_|(refine y8 ?_ ?_<;>intro h<;>try exact y6)|(refine wC ?_;first|refine wF 16 (pu hck ?_))|refine y3 ?_|refine y7 ?_ ?_|refine y4 ?_|(refine y9 ?_ ?_<;>intro h)|exact y5|fail)
  refine Ex.inv (σ:=Nat) (fun i=>[(7,nI (i+1:Nat))]) (fun _=>[]) (fun i=>i≤G.length) (fun i=>G.length-i) 0 rfl (fun _=>rfl) (Nat.zero_le _) ⟨VLe.refl _,trivial⟩ trivial ?_;intro i hi
  have hsub:((i+1:Nat):Int)-1=(i:Int):=by omega
  by_cases hil:i+1<G.length
  ·have hp:=pw_at hG hil
   unfold dlt at hp
   repeat'(first|exact y0|refine y1 ?_|refine y2 ?_ ?_|(refine y8 ?_ ?_<;>intro h<;>try exact y6)|refine y3 ?_|refine y7 ?_ ?_|refine y4 ?_|(refine y9 ?_ ?_<;>intro h)|exact y5|fail)
   refine RegX.chunkN 8 rfl rfl ?_ (RegX.eqv 27 (congrArg nI hsub) rfl ?_)
   ·
    repeat'(first|exact y0|refine y1 ?_|refine y2 ?_ ?_|(refine y8 ?_ ?_<;>intro h<;>try exact y6)|refine y3 ?_|refine y7 ?_ ?_|refine y4 ?_|(refine y9 ?_ ?_<;>intro h)|exact y5|fail)
   repeat'(first|exact y0|refine y1 ?_|refine y2 ?_ ?_|(refine y8 ?_ ?_<;>intro h<;>try exact y6)|refine y3 ?_|refine y7 ?_ ?_|refine y4 ?_|(refine y9 ?_ ?_<;>intro h)|exact y5|fail)
   refine RegX.chunkN 9 rfl rfl ?_ (RegX.eqv 40 (congrArg nI hsub) rfl ?_)
   ·
    repeat'(first|exact y0|refine y1 ?_|refine y2 ?_ ?_|(refine y8 ?_ ?_<;>intro h<;>try exact y6)|refine y3 ?_|refine y7 ?_ ?_|refine y4 ?_|(refine y9 ?_ ?_<;>intro h)|exact y5|fail)
   repeat'(first|exact y0|refine y1 ?_|refine y2 ?_ ?_|(refine y8 ?_ ?_<;>intro h<;>try exact y6)|refine y3 ?_|refine y7 ?_ ?_|refine y4 ?_|(refine y9 ?_ ?_<;>intro h)|exact y5|fail)
   ·refine RegX.chunkN 9 rfl rfl ?_ (RegX.eqv 53 (congrArg nI hsub) rfl ?_)
    ·
     repeat'(first|exact y0|refine y1 ?_|refine y2 ?_ ?_|(refine y8 ?_ ?_<;>intro h<;>try exact y6)|refine y3 ?_|refine y7 ?_ ?_|refine y4 ?_|(refine y9 ?_ ?_<;>intro h)|exact y5|fail)
    repeat'(first|exact y0|refine y1 ?_|refine y2 ?_ ?_|(refine y8 ?_ ?_<;>intro h<;>try exact y6)|refine y3 ?_|refine y7 ?_ ?_|refine y4 ?_|(refine y9 ?_ ?_<;>intro h)|exact y5|fail)
    refine LoopR.same (i+1) (by omega) (by omega) rfl ⟨VLe.of_eq (congrArg nI (by push_cast;omega)),trivial⟩ trivial rfl rfl (by decide)
   refine LoopR.same (i+1) (by omega) (by omega) rfl ⟨VLe.of_eq (congrArg nI (by push_cast;omega)),trivial⟩ trivial rfl rfl (by decide)
  ·
   repeat'(first|exact y0|refine y1 ?_|refine y2 ?_ ?_|(refine y8 ?_ ?_<;>intro h<;>try exact y6)|(refine wC ?_;first|refine wF 11 (pu hprog ?_))|refine y3 ?_|refine y7 ?_ ?_|refine y4 ?_|(refine y9 ?_ ?_<;>intro h)|exact y5|fail)
   refine LoopR.same (k+1,pg) ⟨by simp only;omega,hpg.wfN,hpg.wfI⟩ (by simp only;omega) rfl ⟨VLe.of_eq (congrArg nI (by push_cast;omega)),VLe.refl _,trivial⟩ trivial rfl rfl (by decide)
 ·
  repeat'(first|exact y0|refine y1 ?_|refine y2 ?_ ?_|(refine y8 ?_ ?_<;>intro h<;>try exact y6)|(refine wC ?_;first|refine wF 9 (pu haw ?_))|refine Fin.bool (.inl rfl) rfl ?_|refine y3 ?_|refine y7 ?_ ?_|refine y4 ?_|(refine y9 ?_ ?_<;>intro h)|exact y5|fail)
  all_goals rfl
end Go.Proofs.YtphdhedhhlfepaaGreatDoor
namespace Go.Proofs.YtphdhedhhlfepaaGreatDoor
open Go Ab
open Go.ChangeShapes Go.WideShapes Go.ChangeAt Go.RowKit
set_option maxRecDepth 100000
theorem own:ownKnob Tryz.prog.godebug=none:=by kernel_rfl
theorem laidOut:laidOutB Tryz.prog=true:=by kernel_rfl
theorem handed_shaped {H:Type} {enc:TypeId×Value→H} {a:Assume} {C:Checked} {os:Os} {f:FuncId} {fn:Func} {s:ChangeSpec} {conds:List PathCond} {apart fresh handsOn again:Bool} {X:World→Array Value→Prop}
 (hX:∀ (w w':World) (args:Array Value),w.heap=w'.heap→X w args→X w' args)
 (own:ownKnob C.prog.godebug=none) (started:os.Started) (noInit:C.prog.inits.idxOf? f=none) (hfn:C.prog.funcs[f]? =some fn)
 (witness:∃ (w:World) (tape:Tape) (i:Input),w.os=os∧(w.forCall tape i).Shaped C.prog∧i.vars=[]∧Input.okWide C.prog (w.forCall tape i) .any w.heap.size f i∧
   ((s.pre enc C.prog fn conds apart (w.forCall tape i).memory i.args∧X (w.forCall tape i).memory i.args)∧sizedMet enc C.prog fn (OpenSpec.ofChange s) apart (w.forCall tape i).memory i.args)∧a.holds C.prog (lone (Frame.enter C.prog f i.args .normal) [] (w.forCall tape i)))
 (contract:∀ (W:World) (base:Nat) (args:Array Value) (ds gs:List (DataW H)) (before:List MemPlace),W.ShapedOpen C.prog→
   (∀ (j:Nat) t v,fn.params[j]? =some t→args[j]? =some v→Value.okWide C.prog W .any base t v)→
   DataW.Whole enc C.prog fn.params.toList s.vars apart W args.toList ds gs before→
   conds.all (PathCond.test C.prog ⟨fn.params.toList,ds,s.plain.varTypes C.prog,gs⟩)=true→
   (DataW.weightsEach C.prog (fn.params.toList++s.plain.varTypes C.prog) (ds++gs)).all (·≤reachBytes)=true→X W args→
   a.holds C.prog (lone (Frame.enter C.prog f args .normal) [] W)→
   Calls C.prog f args W fun e W'=>∃ v,e=.returned v∧s.post enc C.prog fn apart fresh handsOn again W args v W'):
 ReturnsInHanded a C os f .any (fun w args=>(s.pre enc C.prog fn conds apart w args∧X w args)∧sizedMet enc C.prog fn (OpenSpec.ofChange s) apart w args) (s.post enc C.prog fn apart fresh handsOn again):=by
 refine returnsInHanded_of_calls own started noInit witness ?_;intro w tape i _ hsh _ hok hpre hholds;obtain⟨_,_,_,fn',hfn',_,_,_,_,hval⟩:=hok;have e:fn'=fn:=Option.some.inj (hfn'.symm.trans hfn);subst e;obtain⟨⟨⟨ds,gs,before,hw,hc⟩,hx⟩,hz⟩:=hpre;have hw':=DataW.Whole.of_heap (w':=w.forCall tape i) (by rfl) hw
 refine (contract (w.forCall tape i) w.heap.size i.args ds gs before hsh hval hw' hc (hz.weights hw) (hX _ _ _ (by rfl) hx) hholds).mono fun e W' ⟨v,he,hp⟩=>?_
 subst he;exact ChangeSpec.post_blind hp
theorem SC.law {P:Program} {f:FuncId} {args:List V} {n:Nat} {L:Hp} {n':Nat} {L':Hp} (h:SC P f args n L (.s (.bool true)) n' L') (hro:∀ i bl,lk L i=some bl→bl.ro=true) {φ:Ph} {xs:List Value} {w:World}
 (h1:All2 (Vr φ) args xs) (h2:Ab.Good φ L w) (h3:∀ i,n≤i→φ i=none):Calls P f xs.toArray w fun e w'=>e=.returned (.bool true)∧Below w.heap.size w w':=by
 refine Calls.mono (h φ xs w h1 h2 h3) ?_;rintro e w' ⟨φ',x,rfl,hv,_,_,st,_⟩;have hx:x=.bool true:=hv;refine⟨by rw[hx],st.os,st.tape,st.output,st.size,fun k hk=>st.keep k hk ?_⟩;rintro⟨i,bl,c,hl,_,_,hr⟩;rw[hro i bl hl] at hr;cases hr
theorem str_val (s:ByteArray):Value.string s=.string ⟨s.data.toList.toArray⟩:=by cases s;simp
def unDs {H:Type}:List (DataW H)→List S
 |[]=>[]
 | .agg [.lit (.string a),.lit (.string b)]::t=> .str a::.str b::unDs t
 |_::t=>unDs t
theorem cellsForm:Tryz.prog.cellsOf 164=2:=by kernel_rfl
theorem cells9:Tryz.prog.cellsOf 9=1:=by kernel_rfl
theorem pair_open {H:Type} {enc:TypeId×Value→H} {w:World} {base:Nat} {spare:Nat→Bool} {held:Bool} {fuel:Nat} {cs:List Value} {x:DataW H×List MemPlace} (h:DataW.trod enc Tryz.prog w base spare held fuel 164 cs=some x):
 ∃ a b:List UInt8,cs=[.string ⟨a.toArray⟩,.string ⟨b.toArray⟩]∧x.1=.agg [.lit (.string a),.lit (.string b)]:=by
 obtain⟨xs,m,rfl,rfl,hlen,hn,hf⟩:=DataW.trod_struct Tryz.underlying164 h;rw[cellsForm] at hlen
 match cs,hlen with
 |[c0,c1],_=>
  have f0:=hf 0 _ rfl;have f1:=hf 1 _ rfl;change DataW.trod enc Tryz.prog w base spare held m 9 (([c0,c1].drop 0).take (Tryz.prog.cellsOf 9))=_ at f0;change DataW.trod enc Tryz.prog w base spare held m 9 (([c0,c1].drop 1).take (Tryz.prog.cellsOf 9))=_ at f1;rw[cells9] at f0 f1;have hn:xs.length=2:=hn
  match xs,hn with
  |[x0,x1],_=>
   obtain⟨s0,e0,e0',_⟩:=DataW.trod_string Tryz.underlying9 f0;obtain⟨s1,e1,e1',_⟩:=DataW.trod_string Tryz.underlying9 f1;simp at e0 e1;subst e0;subst e1;refine⟨s0.data.toList,s1.data.toList,by rw[←str_val,←str_val],?_⟩;simp[e0',e1']
theorem pairs_open {H:Type} {enc:TypeId×Value→H} {w:World} {base:Nat} {spare:Nat→Bool} {held:Bool} {m:Nat} {φ:Ph}:∀ (xs:List (DataW H×List MemPlace)) (cs:List Value),cs.length=xs.length*2→(∀ i,i<xs.length→DataW.trod enc Tryz.prog w base spare held m 164 ((cs.drop (i*2)).take 2)=xs[i]?)→
 All2 (Sr φ) (unDs (xs.map (·.1))) cs
 |[],[],_,_=>trivial
 |[],_::_,h,_=>by simp at h
 |x::xs,[],h,_=>by simp at h
 |x::xs,[_],h,_=>by simp at h;omega
 |x::xs,c0::c1::cs,h,hf=>by
  have h0:=hf 0 (by simp);simp at h0;obtain⟨a,b,e,ex⟩:=pair_open h0;simp only[List.cons.injEq,and_true] at e;obtain⟨rfl,rfl⟩:=e
  have ih:=pairs_open (φ:=φ) xs cs (by simp at h;omega) (fun i hi=>by
   have:=hf (i+1) (by simp;omega);rw[show (i+1)*2=(i*2)+1+1 by omega] at this
   simpa using this)
  simp only[List.map_cons,ex,unDs];exact⟨rfl,rfl,ih⟩
theorem table_open {H:Type} {enc:TypeId×Value→H} {w:World} {base:Nat} {spare:Nat→Bool} {held:Bool} {fuel:Nat} {t N:Nat} {cs:List Value} {d:DataW H} {p:List MemPlace} (ht:Tryz.prog.underlying t=some (.array N 164)) (hc:Tryz.prog.cellsOf t=N*2) (h:DataW.trod enc Tryz.prog w base spare held fuel t cs=some (d,p)) (φ:Ph):
 ∃ ds,d=.agg ds∧All2 (Sr φ) (unDs ds) cs:=by
 obtain⟨xs,m,rfl,hx,hlen,hn,hf⟩:=DataW.trod_array ht h;simp only[Prod.mk.injEq] at hx;refine⟨_,hx.1,pairs_open (enc:=enc) (w:=w) (base:=base) (spare:=spare) (held:=held) (m:=m) xs cs (by rw[hlen,hc,hn]) (fun i hi=>?_)⟩;have:=hf i (by omega)
 rwa [cellsForm] at this
def zW (W:World):Nat→Option (List Value):=fun b=>match W.heap[b]? with|some (.cells a _ _)=>some a.toList|_=>none
def phW (W:World):Ph:=⟨fun _=>none,zW W⟩
theorem phW_good {W:World} (h:GzOK (zW W)):Ab.Good (phW W) [] W:=by
 refine⟨fun i bl hi=>(by cases hi),fun i j bl bl' b b' hi=>(by cases hi),fun b l hb=>⟨?_,fun hw=>?_⟩,h⟩
 ·have hb:zW W b=some l:=hb
  unfold zW at hb;split at hb
  ·rename_i a ty fr he;cases hb;exact⟨ty,fr,by simpa using he⟩
  ·cases hb
 ·obtain⟨i,bl,c,hi,_⟩:=hw;cases hi
theorem no_ro:∀ i bl,lk ([]:Hp) i=some bl→bl.ro=true:=fun i bl h=>by cases h
theorem cell_z {W:World} {b o:Nat} {v:Value} (h:W.cell? ⟨b,o,none⟩=some v):∃ vs,zW W b=some vs∧vs[o]? =some v:=by
 unfold World.cell? at h;split at h
 ·rename_i arr ty fr hb
  refine⟨arr.toList,by unfold zW;rw[hb],?_⟩
  simpa using h
 ·cases h
theorem wf_u64 {n:Int} (h:(Lit.int .u64 n).wf=true):0≤n∧n≤18446744073709551615:=by
 simp only[Lit.wf,Bool.and_eq_true,decide_eq_true_eq] at h;exact h
instance:Inhabited Nd:=⟨dN⟩
theorem addr_at (b off k:Nat):(⟨b,off,none⟩:Addr).add k=⟨b,off+k,none⟩:=by
 unfold Addr.add;split
 ·rename_i h;subst h;rfl
 ·rfl
theorem weightsAll_mem {H:Type} {P:Program} {e:TypeId} {q:Nat→Bool}:∀ {l:List (DataW H)} {x:DataW H},(DataW.weightsAll P e l).all q=true→x∈l→(x.weights P e).all q=true
 |[],_,_,h=>by cases h
 |d::r,x,h,hx=>by
  unfold DataW.weightsAll at h;rw[List.all_append,Bool.and_eq_true] at h
  rcases List.mem_cons.1 hx with rfl|hx
  ·exact h.1
  ·exact weightsAll_mem h.2 hx
theorem cellsI:Tryz.prog.cellsOf 3=1:=by kernel_rfl
theorem cellsU:Tryz.prog.cellsOf 28=1:=by kernel_rfl
theorem cellsNd:Tryz.prog.cellsOf 30=4:=by kernel_rfl
theorem bytesI:Tryz.prog.bytesOf 3=8:=by kernel_rfl
section
variable {H:Type} {enc:TypeId×Value→H} {W:World} {base:Nat} {held:Bool}
theorem open_ints {r:Reach} {b0:Nat} {v:Value} {d:DataW H} {p:List MemPlace} (hv:Value.okWide Tryz.prog W r b0 23 v) (h:DataW.Trod enc Tryz.prog W base (fun _=>true) held 23 v d p) (hw:(d.weights Tryz.prog 23).all (·≤reachBytes)=true):
 ∃ l:List Int,Vr (phW W) (.s (chF l)) v∧l.length≤20000000000000:=by
 obtain⟨a0,len0,cap0,rfl⟩:=okWide_slice Tryz.underlying23 hv;obtain⟨fuel,hf⟩:=h
 rcases Go.Deep.open_slice1 Tryz.underlying23 cellsI hf with ⟨hcs,_⟩|⟨a,len,cap,m,n,V,D,Pl,hcs,_,hl,_,hm,hd,hx⟩
 ·simp[Value.cells] at hcs
  obtain⟨rfl,rfl,rfl⟩:=hcs;exact⟨[],.nil _ _ _ _ (fun _=>rfl),by simp⟩
 ·simp[Value.cells] at hcs
  obtain⟨rfl,rfl,rfl⟩:=hcs;simp only[if_true] at hm;subst hm
  have hcap:m≤20000000000000:=by
   have e:d=.slice ((List.range len0).map D) ((List.range (m-len0)).map fun j=>D (len0+j)):=congrArg Prod.fst hd;rw[e] at hw;unfold DataW.weights at hw;rw[Tryz.underlying23] at hw;simp only[List.all_cons,Bool.and_eq_true,decide_eq_true_eq,List.length_map,List.length_range,bytesI] at hw;have:=hw.1;unfold reachBytes at this;omega
  have each:∀ i,i<m→∃ z:Int,W.cell? (a.add i)=some (.int .i64 z):=by
   intro i hi;obtain⟨h1,h2⟩:=hx i hi;obtain⟨z,e1,_,w1⟩:=DataW.trod_int Tryz.underlying3 h2;simp only[List.cons.injEq,and_true] at e1;exact⟨z,by rw[h1,e1]⟩
  obtain⟨f,hfq⟩:=Go.Deep.choose_lt each;refine⟨(List.range len0).map f,?_,by simp;omega⟩;unfold chF;rw[show ((List.range len0).map f).length=len0 by simp];by_cases h0:len0=0
  ·subst h0
   exact .nil _ _ _ _ (fun e=>by cases e)
  obtain⟨b,off,spot⟩:=a
  have hspot:spot=none:=by simpa [Addr.add] using World.cell?_spot (hfq 0 (by omega))
  subst hspot
  have hc:∀ i,i<m→W.cell? ⟨b,off+i,none⟩=some (.int .i64 (f i)):=fun i hi=>by
   have:=hfq i hi
   rwa [addr_at] at this
  obtain⟨vs,hz,_⟩:=cell_z (hc 0 (by omega));refine .frz _ 1 len0 b off m vs hz hl (fun i _=> .int .i64 (f i)) (fun _ _=>rfl) (fun i j x hi hj=>?_) (fun i j x hi hj=>?_)
  ·cases j with
   |succ j=>simp at hj
   |zero=>
    obtain⟨vs',hz',h3⟩:=cell_z (hc i (by omega));rw[hz] at hz';cases hz';rw[Nat.mul_one,Nat.add_zero];exact h3
  ·cases j with
   |succ j=>simp at hj
   |zero=>
    simp only[List.getElem?_cons_zero,Option.some.injEq] at hj;subst hj;rw[show ((List.range len0).map f).getD i 0=f i by rw[List.getD_eq_getElem?_getD,List.getElem?_map,List.getElem?_range hi];rfl];exact .int _ _
theorem open_nodes {r:Reach} {b0:Nat} {v:Value} {d:DataW H} {p:List MemPlace} (hv:Value.okWide Tryz.prog W r b0 22 v) (h:DataW.Trod enc Tryz.prog W base (fun _=>true) held 22 v d p) (hw:(d.weights Tryz.prog 22).all (·≤reachBytes)=true):
 ∃ l:List Nd,Vr (phW W) (nodes l) v∧wfN l∧wfI l:=by
 obtain⟨a0,len0,cap0,rfl⟩:=okWide_slice Tryz.underlying22 hv;obtain⟨fuel,hf⟩:=h
 rcases Go.Deep.open_slice Tryz.underlying22 hf with ⟨hcs,_⟩|⟨a,len,cap,m,n,D,Pl,hcs,_,hl,_,hm,hd,hx⟩
 ·simp[Value.cells] at hcs
  obtain⟨rfl,rfl,rfl⟩:=hcs;exact⟨[],.nil _ _ _ _ (fun _=>rfl),fun x hx=>(by cases hx),fun x hx=>(by cases hx)⟩
 ·simp[Value.cells] at hcs
  obtain⟨rfl,rfl,rfl⟩:=hcs;simp only[if_true] at hm;subst hm;rw[cellsNd] at hx
  have hwt:∀ i,i<len0→((D i).weights Tryz.prog 30).all (·≤reachBytes)=true:=fun i hi=>by
   have e:d=.slice ((List.range len0).map D) ((List.range (m-len0)).map fun j=>D (len0+j)):=congrArg Prod.fst hd;rw[e] at hw;unfold DataW.weights at hw;rw[Tryz.underlying22] at hw;simp only[List.all_cons,List.all_append,Bool.and_eq_true] at hw;exact weightsAll_mem hw.2.1 (List.mem_map.2 ⟨i,List.mem_range.2 hi,rfl⟩)
  have each:∀ i,i<m→∃ q:Nd,((i<len0→q.str.length≤reachBytes)∧0≤q.int)∧∀ j,j<4→W.cell? (a.add (i*4+j))=[Value.int .i64 q.op,.int .u64 q.int,.string ⟨q.str.toArray⟩,.int .i64 q.kids][j]? :=by
   intro i hi;obtain⟨cs',h1,h2⟩:=hx i hi;obtain⟨_,hlen,hcell⟩:=World.cells?_some h1;obtain⟨xs,k,hk,hxy,_,hxl,hfld⟩:=DataW.trod_struct Tryz.underlying30 h2
   match xs,hxl,cs',hlen with
   |[y0,y1,y2,y3],_,[v0,v1,v2,v3],_=>
    have g0:=hfld 0 _ rfl;have g1:=hfld 1 _ rfl;have g2:=hfld 2 _ rfl;have g3:=hfld 3 _ rfl;simp[cellsI,cellsU,cells9] at g0 g1 g2 g3;obtain⟨n0,e0,_,w0⟩:=DataW.trod_int Tryz.underlying3 g0;obtain⟨n1,e1,_,w1⟩:=DataW.trod_int Tryz.underlying28 g1;obtain⟨s2,e2,e2',m2⟩:=DataW.trod_string Tryz.underlying9 g2;obtain⟨n3,e3,_,w3⟩:=DataW.trod_int Tryz.underlying3 g3;simp only[List.cons.injEq,and_true] at e0 e1 e2 e3;subst e0;subst e1;subst e2;subst e3
    have hsl:i<len0→s2.data.toList.length≤reachBytes:=fun hi0=>by
     have hwi:=hwt i hi0;have hDi:D i=.agg [y0.1,y1.1,y2.1,y3.1]:=congrArg Prod.fst hxy;rw[hDi,e2'] at hwi;unfold DataW.weights at hwi;rw[Tryz.underlying30] at hwi;simp only[DataW.weightsEach,DataW.weights,List.map_cons,List.map_nil,List.all_append,List.all_cons,List.all_nil,Bool.and_eq_true,decide_eq_true_eq] at hwi;exact hwi.2.2.1.1
    refine⟨⟨n0,n1,s2.data.toList,n3⟩,⟨hsl,(wf_u64 w1).1⟩,fun j hj=>?_⟩;have hc:=hcell j (by simpa using hj);rw[Go.Deep.add_add] at hc;rw[hc]
    try rw[←str_val s2]
  obtain⟨f,hfq⟩:=Go.Deep.choose_lt each
  have hget:∀ i,i<len0→((List.range len0).map f).getD i dN=f i:=fun i hi=>by
   rw[List.getD_eq_getElem?_getD,List.getElem?_map,List.getElem?_range hi];rfl
  have hmem:∀ x∈(List.range len0).map f,∃ i,i<len0∧x=f i:=fun x hx=>by
   obtain⟨i,hi,rfl⟩:=List.mem_map.1 hx;exact⟨i,List.mem_range.1 hi,rfl⟩
  refine⟨(List.range len0).map f,?_,fun x hx=>?_,fun x hx=>?_⟩
  ·show Pr (zW W) (.frz _ 4 ((List.range len0).map f).length) _
   rw[show ((List.range len0).map f).length=len0 by simp];by_cases h0:len0=0
   ·subst h0
    exact .nil _ _ _ _ (fun e=>by cases e)
   obtain⟨b,off,spot⟩:=a
   have hspot:spot=none:=by simpa [Addr.add] using World.cell?_spot ((hfq 0 (by omega)).2 0 (by omega))
   subst hspot
   have hc:∀ i j,i<m→j<4→W.cell? ⟨b,off+(i*4+j),none⟩=[Value.int .i64 (f i).op,.int .u64 (f i).int,.string ⟨(f i).str.toArray⟩,.int .i64 (f i).kids][j]? :=fun i j hi hj=>by
    have:=(hfq i hi).2 j hj
    rwa [addr_at] at this
   obtain⟨vs,hz,_⟩:=cell_z (hc 0 0 (by omega) (by omega));refine .frz _ 4 len0 b off m vs hz hl (fun i j=>[Value.int .i64 (f i).op,.int .u64 (f i).int,.string ⟨(f i).str.toArray⟩,.int .i64 (f i).kids].getD j (.bool false)) (fun _ _=>rfl) (fun i j x hi hj=>?_) (fun i j x hi hj=>?_)
   ·rw[hget i hi] at hj
    have hj4:j<4:=by
     rcases Nat.lt_or_ge j 4 with h|h
     ·exact h
     ·rw[List.getElem?_eq_none (by simpa [ndC] using h)] at hj;cases hj
    have h4:=hc i j (by omega) hj4;rw[List.getElem?_eq_getElem (by simpa using hj4)] at h4;obtain⟨vs',hz',h3⟩:=cell_z h4;rw[hz] at hz';cases hz';rw[h3,List.getD_eq_getElem?_getD,List.getElem?_eq_getElem (by simpa using hj4)];rfl
   ·rw[hget i hi] at hj
    rcases j with _|_|_|_|j
    ·cases hj;exact .int _ _
    ·cases hj;exact .int _ _
    ·cases hj;exact .str _
    ·cases hj;exact .int _ _
    ·simp[ndC] at hj
  ·obtain⟨i,hi,rfl⟩:=hmem x hx
   exact Nat.lt_of_le_of_lt ((hfq i (by omega)).1.1 hi) (by decide)
  ·obtain⟨i,hi,rfl⟩:=hmem x hx
   exact (hfq i (by omega)).1.2
end
set_option maxRecDepth 100000
theorem row0:(((begin Tryz.prog (fun _ _=>0) default).world.heap[0]?).bind Obj.row?).map (·.2)=some 181:=by kernel_rfl
theorem gty0:(Tryz.prog.globals[0]?).map (·.type)=some 181:=by kernel_rfl
theorem gcl0:Tryz.prog.cellsOf 181=12*2:=by kernel_rfl
theorem row1:(((begin Tryz.prog (fun _ _=>0) default).world.heap[1]?).bind Obj.row?).map (·.2)=some 182:=by kernel_rfl
theorem gty1:(Tryz.prog.globals[1]?).map (·.type)=some 182:=by kernel_rfl
theorem gcl1:Tryz.prog.cellsOf 182=13*2:=by kernel_rfl
theorem row2:(((begin Tryz.prog (fun _ _=>0) default).world.heap[2]?).bind Obj.row?).map (·.2)=some 183:=by kernel_rfl
theorem gty2:(Tryz.prog.globals[2]?).map (·.type)=some 183:=by kernel_rfl
theorem gcl2:Tryz.prog.cellsOf 183=29*2:=by kernel_rfl
theorem glob_heap {W:World} (hS:W.ShapedOpen Tryz.prog) {g t:Nat} (hg:g<6) (hr:(((begin Tryz.prog (fun _ _=>0) default).world.heap[g]?).bind Obj.row?).map (·.2)=some t):∃ cs,W.heap[g]? =some (.cells cs t (0,0)):=by
 cases hq:((begin Tryz.prog (fun _ _=>0) default).world.heap[g]?).bind Obj.row? with
 |none=>rw[hq] at hr;cases hr
 |some x=>
  obtain⟨z,t'⟩:=x;rw[hq] at hr;simp only[Option.map_some,Option.some.injEq] at hr;subst hr;obtain⟨cs,h1,_⟩:=hS.1 g z t' (Nat.lt_of_lt_of_le hg (by decide+kernel)) hq;exact⟨cs,h1⟩
theorem all_pr {φ:Ph}:∀ {l:List S} {xs:List Value},All2 (Sr φ) l xs→l.all pureS=true→All2 (Pr φ.z) l xs
 |[],[],_,_=>trivial
 |[],_::_,h,_=>h.elim
 |_::_,[],h,_=>h.elim
 |a::l,x::xs,h,hp=>by
  rw[List.all_cons,Bool.and_eq_true] at hp;exact⟨h.1.pr hp.1,all_pr h.2 hp.2⟩
theorem glob_at {W:World} (hS:W.ShapedOpen Tryz.prog) {name:String} {i ty N:Nat} {d:DataW Unit} {ds:List (DataW Unit)} {l:List (String×DataW Unit)} {ps:List MemPlace} {cs0:List S} (hv:DataW.LaidVars Tryz.prog W ((name,d)::l) ps) (hi:i<6)
 (hr:(((begin Tryz.prog (fun _ _=>0) default).world.heap[i]?).bind Obj.row?).map (·.2)=some ty) (hn:Tryz.prog.globalNamed name=some i) (ht:(Tryz.prog.globals[i]?).map (·.type)=some ty) (hu:Tryz.prog.underlying ty=some (.array N 164)) (hc:Tryz.prog.cellsOf ty=N*2)
 (hd:d=.agg ds) (h0:unDs ds=cs0) (hp:cs0.all pureS=true):∃ vs,zW W i=some vs∧All2 (Pr (zW W)) cs0 vs:=by
 obtain⟨g,t,cs,fuel,p,q,h1,h2,h3,h4,_⟩:=hv;rw[hn] at h1;cases h1;rw[ht] at h2;cases h2;obtain⟨cs',h5⟩:=glob_heap hS hi hr
 have:cs=cs':=by
  simp only[World.var?,hn,Option.bind_some,h5,Option.some.injEq] at h3;exact h3.symm
 subst this;obtain⟨ds',e,hall⟩:=table_open hu hc h4 (phW W);rw[hd] at e;cases e;refine⟨cs.toList,by unfold zW;rw[h5],?_⟩;rw[h0] at hall;exact all_pr (φ:=phW W) hall hp
theorem globals_gz {W:World} (hS:W.ShapedOpen Tryz.prog) (hL:laidMet Tryz.prog Rows.checkOrderRow.laid W):GzOK (zW W):=by
 obtain⟨ps,hv,_⟩:=hL;obtain⟨_,_,_,_,_,q0,_,_,_,_,hv1,_⟩:=hv;have b0:=glob_at hS (ty:=181) (N:=12) (cs0:=(GS 0).getD []) hv1 (by decide) row0 (by kernel_rfl) gty0 Tryz.underlying181 gcl0 rfl (by kernel_rfl) (by kernel_rfl);obtain⟨_,_,_,_,_,q1,_,_,_,_,hv2,_⟩:=hv1;have b1:=glob_at hS (ty:=182) (N:=13) (cs0:=(GS 1).getD []) hv2 (by decide) row1 (by kernel_rfl) gty1 Tryz.underlying182 gcl1 rfl (by kernel_rfl) (by kernel_rfl);obtain⟨_,_,_,_,_,q2,_,_,_,_,hv3,_⟩:=hv2;have b2:=glob_at hS (ty:=183) (N:=29) (cs0:=(GS 2).getD []) hv3 (by decide) row2 (by kernel_rfl) gty2 Tryz.underlying183 gcl2 rfl (by kernel_rfl) (by kernel_rfl);intro g cs hg
 match g,hg with
 |0,hg=>rw[hg] at b0;exact b0
 |1,hg=>rw[hg] at b1;exact b1
 |2,hg=>rw[hg] at b2;exact b2
 |g+3,hg=>cases hg
end Go.Proofs.YtphdhedhhlfepaaGreatDoor
