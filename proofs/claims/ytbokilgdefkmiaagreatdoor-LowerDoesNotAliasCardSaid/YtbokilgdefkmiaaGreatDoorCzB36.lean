import Derived.Test.YtbokilgdefkmiaaGreatDoorCzB34
import Derived.Test.YtbokilgdefkmiaaGreatDoorCzB35
import Derived.Test.YtbokilgdefkmiaaGreatDoorCzB30
import Derived.Test.YtbokilgdefkmiaaGreatDoorCzB23
import Derived.Test.YtbokilgdefkmiaaGreatDoorCzB22
import Derived.Test.YtbokilgdefkmiaaGreatDoorCzB18
set_option linter.unusedSimpArgs false
set_option linter.unusedVariables false
namespace Go.Proofs.YtbokilgdefkmiaaGreatDoor
open Go Ab
set_option maxRecDepth 100000
set_option maxHeartbeats 2000000
theorem met_parts {p:List Nd} {t:Fo} {cs:List (Bool×Int)} (ha:t.At p 0) (hv:t.V cs) {i:Nat} (hi:i<0+t.size) (h14:(p.getD i dN).op=14):∃ b,(Fo.cons b (lastBl (t.kid 0 i)) .nil).At p (i+5)∧(lastBl (t.kid 0 i)).V (List.replicate (lastBl (t.kid 0 i)).cnt (false,83)):=by
 obtain⟨⟨b,c⟩,h1,h2⟩:=kid_at ha hv (Nat.zero_le _) hi
 have hk:(t.kid 0 i).V (slots (kindsB (p.getD i dN).op (p.getD i dN).kids).1):=by
  cases b
  ·exact h2.2.1
  ·exact absurd (h14.symm.trans h2.1.1) (by decide)
 rw[h14] at hk;obtain⟨b,g1,g2⟩:=args_last [115,105,105,105] (t.kid 0 i) rfl hk;obtain⟨g3,g4⟩:=g2 p (i+1) h1.2.2.1;exact⟨b,g3,g4.2.1⟩
theorem rowG_len {p:List Nd} {t:Fo} (hp:p.length≤2048) (ha:t.At p 0) (hv:t.V (List.replicate t.cnt (false,68))) (hs:t.size=p.length):(srtD (rowG p (anS p t).F (anS p t).S t p.length 0 (anS p t).G)).length≤1000000000:=by
 rw[srtD_len]
 have key:∀ (l:List Nat),l.length≤2048→(∀ i∈l,i<p.length)→(l.flatMap (nodeE p (anS p t).F (anS p t).S t)).length≤l.length*6145:=by
  intro l
  induction l with
  |nil=>intro _ _;simp
  |cons i l ih=>
   intro h1 h2;rw[List.flatMap_cons,List.length_append,List.length_cons];have:=ih (by simp only[List.length_cons] at h1;omega) (fun j hj=>h2 j (List.mem_cons_of_mem _ hj));have hi:=h2 i (List.mem_cons_self ..);obtain⟨sl,g1,g2⟩:=kid_at ha hv (Nat.zero_le i) (by omega:i<0+t.size);have hn:=nodeG_len hp (F:=(anS p t).F) (sc:=(anS p t).S.getD i z0) (G:=[]) g1 g2
   have he:(nodeE p (anS p t).F (anS p t).S t i).length≤6145:=by
    unfold nodeE;rw[List.length_append]
    have:(if oorB p i then [(i,4)] else []:Dgs).length≤1:=by split<;>simp
    simp only[List.length_nil] at hn;omega
   rw[Nat.add_mul];omega
 rw[rowG_app,List.length_append];have h1:=(declS_len false t 0 ⟨true,0,[]⟩ (st0 p)).2.2;rw[show (st0 p).G.length=0 from rfl] at h1;have h2:=key (List.range' 0 p.length) (by simp;omega) (fun i hi=>by have:=List.mem_range'_1.1 hi;omega);simp only[List.length_range'] at h2;have h3:p.length*6145≤2048*6145:=Nat.mul_le_mul_right _ hp;have h4:(anS p t).G.length≤0+t.size:=h1;omega
theorem c6_srt {G:Dgs} (h:C6 (srtD G)):C6 G:=fun d hd=>h d (by unfold srtD;exact (List.mergeSort_perm ..).mem_iff.2 hd)
inductive LowOK (R:Cd) (e:Int):Prop where
 |no (h:e≠0):LowOK R e
 |yes (bl:Fo) (d:Int×Bool) (h1:R=metC bl) (h2:R.length≤900000000) (h3:FC Tryz.prog 13 [.s (.sla 0 1 R.length)] 2 [(0,some (dpB R))] (.tup [.s (.int .i64 d.1),.s (.bool d.2)]) 2 [(0,some (dpB R))]) (h4:d.2=true) (h5:d.1≤64) (he:e=0):LowOK R e
theorem met_len (bl:Fo):(metC bl).length≤3*bl.size+1∧0<(metC bl).length:=by
 have:=(stm_gr bl 0 0 [] []).le;rw[show szM 0 bl=bl.size from rfl] at this;unfold metC;rw[em_length];simp only[List.length_nil] at this;omega
theorem met_depth {p:List Nd} (hI:wfI p) {t:Fo} {cs:List (Bool×Int)} (bl:Fo) (hz:bl.size≤2048) (hnn:NN (metC bl)):∃ d:Int×Bool,d=depB (metC bl) (2*(metC bl).length+2) (A0 (metC bl).length) [0] 0∧FC Tryz.prog 13 [.s (.sla 0 1 (metC bl).length)] 2 [(0,some (dpB (metC bl)))] (.tup [.s (.int .i64 d.1),.s (.bool d.2)]) 2 [(0,some (dpB (metC bl)))]:=by
 have hl:=met_len bl;exact⟨_,rfl,depth_c _ (by omega) hl.2 hnn _ rfl⟩
theorem lower_any (p:List Nd) (hw:wfN p) (hI:wfI p) (i:Nat) (hi:i<p.length) (h14:(p.getD i dN).op=14):∃ (R:Cd) (e:Int),LowOK R e∧FC Tryz.prog 12 [nodes p,nI i] 0 [] (.tup [.s (.row 0 1 R.length),.s (.int .i64 e)]) 2 [(0,ccB 0 R)]:=by
 cases h:validN p with
 |false=>exact⟨[],1,.no (by decide),lower_no p [(0,1)] (by decide) (check_no p hw h) i fun e=>by have:=e (0,1) (List.mem_singleton.2 rfl);cases this⟩
 |true=>
  obtain⟨hp,t,ha,hv,hd,hs⟩:=valid_forest h;have hck:=check_yes p hw hI h hp t ha hv hs;have hG:=rowG_len hp ha hv hs;by_cases h6:C6 (srtD (rowG p (anS p t).F (anS p t).S t p.length 0 (anS p t).G))
  ·obtain⟨hO,hm6⟩:=c6_nok hI (c6_srt h6)
   obtain⟨b,g1,g2⟩:=met_parts ha hv (by omega) h14;have hlk:=met_lp g2 (hm6 i hi h14);have hbn:=At.size_le (Nat.le_of_lt (At.lt g1)) g1;simp only[Fo.size] at hbn;have hnn:NN (metC (lastBl (t.kid 0 i))):=met_nn (fo_nn (wfI_get hI) _ _ _ g1.2.2.1 g2);have hl:=met_len (lastBl (t.kid 0 i));obtain⟨d,hd0,hdp⟩:=met_depth hI (t:=t) (cs:=[]) (lastBl (t.kid 0 i)) (by omega) hnn;have hy:=lower_yes p hp (by omega) _ hG hck h6 hO t ha hv hs (endsL_ok ha hv hs) i hi h14 b _ g1 g2 hlk hnn d hdp;refine⟨_,_,?_,hy⟩;unfold lowV;split
   ·rename_i hk
    exact .yes _ d rfl (by simp only;omega) hdp hk.1 hk.2 rfl
   ·exact .no (by decide)
  ·exact⟨[],1,.no (by decide),lower_no p _ hG hck i h6⟩
set_option maxRecDepth 100000
set_option maxHeartbeats 2000000
theorem Ex.fzAt {P:Program} {b n:Nat} {env:List V} {L:Hp} {R:Post} (id:Nat) {ops:Array Oper} {d:Bool} (t:Nat) (get:Nat→List S) (sz:Nat) {i N:Nat} {bl:Bl} (ht:sliceOf (env.getD t .undef)=some (i,N)) (hl:lk L i=some bl) (hro:bl.ro=false) (hk:bl.kind=none)
 (hg:∀ k,k<N→(get k).length=sz) (hc:∀ k j x,k<N→(get k)[j]? =some x→bl.cells[k*sz+j]? =some x∧pureS x=true)
 {env':List V} (he:env.set t (.s (.frz get sz N))=env') {L':Hp} (hL:put L i none=L') (k:Ex P b (.region id ops d) env' n L' R):Ex P b (.region id ops d) env n L R:=Ex.fz t get sz ht hl hro hk hg hc he hL k
theorem ins_cell {R:Cd} {k j:Nat} {x:S} (hk:k<R.length) (hx:(insC (R.getD k dI))[j]? =some x):(R.flatMap insC)[k*3+j]? =some x∧pureS x=true:=by
 refine⟨flat_get insC 3 dI (fun _=>rfl) hk hx,?_⟩
 rcases j with _|_|_|j
 ·cases hx;rfl
 ·cases hx;rfl
 ·cases hx;rfl
 ·simp[insC] at hx
theorem SyD.wfN {B:Nat} {p:List Nd} (h:SyD B p):wfN p:=fun x hx=>by have:=(h.wf x hx).1;omega
theorem SyD.wfI {B:Nat} {p:List Nd} (h:SyD B p):wfI p:=fun x hx=>(h.wf x hx).2
theorem met_end (bl:Fo):(metC bl).getD ((metC bl).length-1) dI=⟨28,0,[]⟩:=by
 have:=met_last bl;rw[List.getLast?_eq_getElem?] at this;rw[List.getD_eq_getElem?_getD,this];rfl
theorem met_at {R:Cd} {k:Nat} (hk:k<R.length):R.getD k dI∈R:=by
 rw[List.getD_eq_getElem?_getD,List.getElem?_eq_getElem hk];exact List.getElem_mem hk
theorem cons_c (l:List Int) (hl:l.length≤20000000000000) (haw:FC Tryz.prog 7 [] 0 [] (bV true) 0 []):FC Tryz.prog 4 [.s (chF l)] 0 [] (bV true) 0 []:=by
 obtain⟨p,hp,hsys⟩:=system_e l hl;have hpl:=hp.len;have hw:=hp.wfN;have hI:=hp.wfI;refine FC.walk (by kernel_rfl) Tryz.func4 rfl rfl ?_
 repeat'(first|exact y0|refine y1 ?_|refine y2 ?_ ?_|(refine y8 ?_ ?_<;>intro h<;>try exact y6)|(refine wC ?_;first|refine wF 10 (pu hsys ?_))|refine y3 ?_|refine y7 ?_ ?_|refine y4 ?_|(refine y9 ?_ ?_<;>intro h)|exact y5|fail)
 refine Ex.inv (σ:=Nat) (fun i=>[(4,nI i)]) (fun _=>[]) (fun i=>i≤p.length) (fun i=>p.length-i) 0 rfl (fun _=>rfl) (Nat.zero_le _) ⟨VLe.refl _,trivial⟩ trivial ?_;intro i hi;by_cases hlt:i<p.length
 ·by_cases h14:(p.getD i dN).op=14
  ·obtain⟨R,e,hk,hlow⟩:=lower_any p hw hI i hlt h14
   rcases hk with h|⟨bl,d,hR,hRl,hdp,hd1,hd2,rfl⟩
   ·
    repeat'(first|exact y0|refine y1 ?_|refine y2 ?_ ?_|(refine y8 ?_ ?_<;>intro h<;>try exact y6)|(refine wC ?_;first|(refine wF 12 ?_;refine CallG.mo [] hlow rfl rfl (by rfl) rfl rfl ⟨VLe.refl _,VLe.refl _,trivial⟩ trivial rfl rfl (wr:=[(0,ccB 0 R)]) (by show [_]=_;rw[renO_op];rfl) ?_))|refine y3 ?_|refine y7 ?_ ?_|refine y4 ?_|(refine y9 ?_ ?_<;>intro h)|exact y5|fail)
    all_goals try omega
    refine LoopR.move (i+1) hlt (by omega) [] rfl ?_ trivial rfl
    repeat' (first|exact VLe.refl _|exact VLe.any _|exact True.intro|exact VLe.of_eq (congrArg nI (by push_cast;omega))|refine⟨?_,?_⟩)
   ·have hjm:∀ k,k<R.length→jmp (R.getD k dI)→(R.getD k dI).int<R.length:=fun k hk hj=>by subst hR;exact met_jmp bl _ (met_at hk) hj
    have hnd:R.getD (R.length-1) dI=⟨28,0,[]⟩:=by subst hR;exact met_end bl
    have hpos:0<R.length:=by subst hR;exact (met_len bl).2
    clear hR;obtain⟨dm,db⟩:=d;simp only at hd1 hd2 hdp;subst hd1
    have hcc:ccB 0 R=some {cells:=R.flatMap insC,ty:=40,more:=true,sym:=true,flat:=true,gh:=some (1,3)}:=by
     refine opB_some ?_;intro h;have:=congrArg List.length h;rw[ins_len] at this;simp only[List.length_nil] at this;omega
    rw[hcc] at hlow
    repeat'(first|refine Ex.fzAt 9 5 (fun k=>insC (R.getD k dI)) 3 rfl rfl rfl rfl (fun _ _=>rfl) (fun k j x hk hx=>ins_cell hk hx) rfl rfl ?_|exact y0|refine y1 ?_|refine y2 ?_ ?_|(refine y8 ?_ ?_<;>intro h<;>try exact y6)|(refine wC ?_;first|(refine wF 12 ?_;refine CallG.mo [] hlow rfl rfl (by rfl) rfl rfl ⟨VLe.refl _,VLe.refl _,trivial⟩ trivial rfl rfl (wr:=[(0,some {cells:=R.flatMap insC,ty:=40,more:=true,sym:=true,flat:=true,gh:=some (1,3)})]) (by rfl) ?_)|(refine wF 13 ?_;refine CallG.mv [0,1] 0 (bl1:=dpB R) hdp rfl rfl ⟨VLe.s (SLe.rowsla (by omega)),trivial⟩ rfl rfl (fun φ w b h=>BlAt.weaken h true (fun _=>rfl)) rfl ⟨⟨rfl,_,rfl,rfl,fun h=>h⟩,trivial⟩ rfl rfl rfl rfl ?_))|refine RegX.chunkN 6 rfl rfl ?_ (RegX.eqv 52 (v:=nI (R.length-1:Nat)) (congrArg nI (by omega)) rfl ?_)|refine y3 ?_|refine y7 ?_ ?_|refine y4 ?_|(refine y9 ?_ ?_<;>intro h)|exact y5|fail)
    all_goals try first
     |omega
     |exact i64_in (by omega) (by omega)
    refine RegX.atCmp (CmpG.go rfl rfl ⟨⟨by kernel_rfl,by kernel_rfl⟩,trivial⟩ (BrG.any (fun h=>?_) (fun h=>?_)))
    ·exfalso
     rw[hnd] at h
     revert h
     simp
    repeat'(first|exact y0|refine y1 ?_|refine y2 ?_ ?_|(refine y8 ?_ ?_<;>intro h<;>try exact y6)|refine y3 ?_|refine y7 ?_ ?_|refine y4 ?_|(refine y9 ?_ ?_<;>intro h)|exact y5|fail)
    refine Ex.inv (σ:=Nat) (fun j=>[(9,nI j)]) (fun _=>[]) (fun j=>j≤R.length) (fun j=>R.length-j) 0 rfl (fun _=>rfl) (Nat.zero_le _) ⟨VLe.refl _,trivial⟩ trivial ?_;intro j hj;by_cases hjl:j<R.length
    ·have hjj:=hjm j hjl
     unfold jmp at hjj;by_cases hop:(R.getD j dI).op=24∨(R.getD j dI).op=25
     ·have hjt:=hjj hop
      rcases hop with hop|hop
      all_goals
       repeat'(first|exact y0|refine y1 ?_|refine y2 ?_ ?_|(refine y8 ?_ ?_<;>intro h<;>try exact y6)|exact u64_in (by omega) (by omega)|refine y3 ?_|refine y7 ?_ ?_|refine y4 ?_|(refine y9 ?_ ?_<;>intro h)|exact y5|fail)
      all_goals try first
       |omega
       |exact u64_in (by omega) (by omega)
      all_goals
       refine LoopR.same (j+1) hjl (by omega) rfl ⟨VLe.of_eq (congrArg nI (by push_cast;omega)),trivial⟩ trivial rfl rfl (by decide)
     ·
      repeat'(first|exact y0|refine y1 ?_|refine y2 ?_ ?_|(refine y8 ?_ ?_<;>intro h<;>try exact y6)|refine y3 ?_|refine y7 ?_ ?_|refine y4 ?_|(refine y9 ?_ ?_<;>intro h)|exact y5|fail)
      all_goals try omega
      refine LoopR.same (j+1) hjl (by omega) rfl ⟨VLe.of_eq (congrArg nI (by push_cast;omega)),trivial⟩ trivial rfl rfl (by decide)
    ·
     repeat'(first|exact y0|refine y1 ?_|refine y2 ?_ ?_|(refine y8 ?_ ?_<;>intro h<;>try exact y6)|refine y3 ?_|refine y7 ?_ ?_|refine y4 ?_|(refine y9 ?_ ?_<;>intro h)|exact y5|fail)
     refine LoopR.move (i+1) hlt (by omega) [] rfl ?_ trivial rfl
     repeat' (first|exact VLe.refl _|exact VLe.any _|exact True.intro|exact VLe.of_eq (congrArg nI (by push_cast;omega))|refine⟨?_,?_⟩)
  ·
   repeat'(first|exact y0|refine y1 ?_|refine y2 ?_ ?_|(refine y8 ?_ ?_<;>intro h<;>try exact y6)|refine y3 ?_|refine y7 ?_ ?_|refine y4 ?_|(refine y9 ?_ ?_<;>intro h)|exact y5|fail)
   refine LoopR.move (i+1) hlt (by omega) [] rfl ?_ trivial rfl
   repeat' (first|exact VLe.refl _|exact VLe.any _|exact True.intro|exact VLe.of_eq (congrArg nI (by push_cast;omega))|refine⟨?_,?_⟩)
 ·
  repeat'(first|exact y0|refine y1 ?_|refine y2 ?_ ?_|(refine y8 ?_ ?_<;>intro h<;>try exact y6)|(refine wC ?_;first|refine wF 7 (pu haw ?_))|refine Fin.bool (.inl rfl) rfl ?_|refine y3 ?_|refine y7 ?_ ?_|refine y4 ?_|(refine y9 ?_ ?_<;>intro h)|exact y5|fail)
  all_goals rfl
end Go.Proofs.YtbokilgdefkmiaaGreatDoor
namespace Go.Proofs.YtbokilgdefkmiaaGreatDoor
namespace Ab
open Go
theorem okV_0 {n:Nat} {v:V} (h:okV 0 v=true):okV n v=true:=okV_mono (Nat.zero_le n) h
theorem SC.up {P:Program} {f:FuncId} {args:List V} {v:V} (h:SC P f args 0 [] v 0 []) (ok:args.all (okV 0)=true) (n:Nat):SC P f args n [] v n []:=by
 intro φ xs w hx hg hf
 have hg0:Good (cutPh 0 φ) [] w:=⟨fun i bl hi=>(by cases hi),fun i j b b' _ _ hi=>(by cases hi),fun b l hb=>⟨(hg.fz b l hb).1,fun hw=>by obtain⟨i,b',c,hi,_⟩:=hw;cases hi⟩,hg.gz⟩
 refine (h (cutPh 0 φ) xs w (all2_cutV hx ok) hg0 (fun i _=>rfl)).mono ?_;rintro e w' ⟨φ',x,rfl,hv,hg',hn,st,_,_⟩;refine⟨⟨φ.f,φ'.z⟩,x,rfl,Vr.mono (show φ'.le ⟨φ.f,φ'.z⟩ from ⟨fun i b hi=>(by rw[hn i (Nat.zero_le _)] at hi;cases hi),fun _ _ q=>q⟩) hv,⟨fun i bl hi=>(by cases hi),fun i j b b' _ _ hi=>(by cases hi),fun b l hb=>⟨(hg'.fz b l hb).1,fun hw=>by obtain⟨i,b',c,hi,_⟩:=hw;cases hi⟩,hg'.gz⟩,hf,⟨st.os,st.tape,st.output,st.size,fun b hb _=>st.keep b hb (fun hw=>by obtain⟨i,b',c,hi,_⟩:=hw;cases hi),fun j b _ hj=>(by cases hj),st.zle,fun b l hb=>?_⟩,Nat.le_refl _,fun _ _=>rfl⟩
 rcases st.zfr b l hb with q|q|⟨i,b',c,hi,_⟩
 ·exact .inl q
 ·exact .inr (.inl q)
 ·cases hi
def ovG (f0:FuncId) (g:List V→Option V) (f:FuncId) (args:List V) (n:Nat) (h:T Bl):Option KC:=
 match Nat.beq f f0 with
 |false=>none
 |true=>match g args with|some v=>some (.ok v n h)|none=>none
theorem ovG_ok {P:Program} {f0:FuncId} {g:List V→Option V} (H:∀ args v,g args=some v→FC P f0 args 0 [] v 0 []∧args.all (okV 0)=true∧okV 0 v=true):OvOK P (ovG f0 g):=by
 intro f args n hh r hr v n' h' e L hv oh oe;unfold ovG at hr;split at hr
 ·cases hr
 ·rename_i hf
  split at hr
  ·rename_i v0 hc
   have hf:=Nat.eq_of_beq_eq_true hf;subst hf;obtain⟨h,h1,h2⟩:=H args v0 hc;cases hr;cases e;obtain⟨hfn,hsc⟩:=h;unfold fnOK at hfn;split at hfn
   ·rename_i fn hfn2
    simp only[Bool.and_eq_true,Bool.not_eq_true'] at hfn;refine⟨L,hv,oh,okV_0 h2,Nat.le_refl _,CallOK.frame (SC.callOK (hsc.up h1 n) hfn2 hfn.1 hfn.2) (fun i bl hi=>(by cases hi)) (fun i bl hi=> .inr ⟨rfl,hi⟩)⟩
   ·cases hfn
  ·cases hr
end Ab
end Go.Proofs.YtbokilgdefkmiaaGreatDoor
namespace Go.Proofs.YtbokilgdefkmiaaGreatDoor
open Go Ab
set_option maxRecDepth 100000
set_option maxHeartbeats 2000000
def rowW1 (s:By):List Rw→Rw×Bool
 |[]=>(dR,false)
 |r::t=>if r.2.1=s then (r,true) else rowW1 s t
theorem wordOf_c (s:By):FC Tryz.prog 111 [sV s] 0 [] (.tup [.agg (rwC (rowW1 s rowsL).1),.s (.bool (rowW1 s rowsL).2)]) 0 []:=by
 refine FC.walk (by kernel_rfl) Tryz.func111 rfl rfl ?_;have hl:rowsL.length=56:=rfl;generalize hR:rowW1 s rowsL=R
 repeat'(first|exact y0|refine y1 ?_|refine y2 ?_ ?_|(refine y8 ?_ ?_<;>intro h<;>try exact y6)|(refine wC ?_;first|refine wF 114 (pu rows_c ?_))|refine y3 ?_|refine y7 ?_ ?_|refine y4 ?_|(refine y9 ?_ ?_<;>intro h)|exact y5|fail)
 generalize rowsL=rl at*;refine Ex.inv (σ:=Nat) (fun j=>[(5,nI j)]) (fun _=>[(0,some {cells:=[.int .i64 0,.str [],.str []],ty:=121})]) (fun j=>j≤56∧rowW1 s (rl.drop j)=R) (fun j=>56-j) 0 rfl (fun _=>rfl) ⟨Nat.zero_le _,hR⟩ ⟨VLe.refl _,trivial⟩ ⟨rfl,trivial⟩ ?_;rintro j ⟨hj,hI⟩;by_cases h:j<56
 ·have hd:rl.drop j=rl.getD j dR::rl.drop (j+1):=by
   rw[List.drop_eq_getElem_cons (by omega),List.getD_eq_getElem?_getD,List.getElem?_eq_getElem (by omega)];rfl
  rw[hd] at hI;simp only[rowW1] at hI;by_cases ho:(rl.getD j dR).2.1=s
  ·rw[if_pos ho] at hI
   subst hI
   repeat'(first|exact y0|refine y1 ?_|refine y2 ?_ ?_|(refine y8 ?_ ?_<;>intro h<;>try(exact y6))|refine Fin.plain (.inl rfl) rfl ?_ rfl|refine y3 ?_|refine y7 ?_ ?_|refine y4 ?_|(refine y9 ?_ ?_<;>intro h)|exact y5|fail)
   all_goals rfl
  ·rw[if_neg ho] at hI
   repeat'(first|exact y0|refine y1 ?_|refine y2 ?_ ?_|(refine y8 ?_ ?_<;>intro h<;>try(exact y6))|refine y3 ?_|refine y7 ?_ ?_|refine y4 ?_|(refine y9 ?_ ?_<;>intro h)|exact y5|fail)
   refine LoopR.same (j+1) ⟨by omega,hI⟩ (by omega) rfl ⟨VLe.refl _,trivial⟩ ⟨rfl,trivial⟩ rfl rfl (by decide)
 ·rw[List.drop_eq_nil_of_le (by omega)] at hI
  subst hI
  repeat'(first|exact y0|refine y1 ?_|refine y2 ?_ ?_|(refine y8 ?_ ?_<;>intro h<;>try exact y6)|refine Fin.plain (.inl rfl) rfl ?_ rfl|refine y3 ?_|refine y7 ?_ ?_|refine y4 ?_|(refine y9 ?_ ?_<;>intro h)|exact y5|fail)
  all_goals rfl
def gRow:List V→Option V
 |[.s (.int .i64 z)]=>some (.tup [.agg (rwC (rowF z).1),.s (.bool (rowF z).2)])
 |_=>none
def gWord:List V→Option V
 |[.s (.str s)]=>some (.tup [.agg (rwC (rowW1 s rowsL).1),.s (.bool (rowW1 s rowsL).2)])
 |_=>none
def tabOv:FuncId→List V→Nat→T Bl→Option KC:=ovOr (ovG 75 gRow) (ovG 111 gWord)
theorem tabOv_ok:OvOK Tryz.prog tabOv:=by
 refine ovOr_ok (ovG_ok fun args v h=>?_) (ovG_ok fun args v h=>?_)
 ·unfold gRow at h
  split at h
  ·cases h;exact⟨rowOf_c _,rfl,rfl⟩
  ·cases h
 ·unfold gWord at h
  split at h
  ·cases h;exact⟨wordOf_c _,rfl,rfl⟩
  ·cases h
end Go.Proofs.YtbokilgdefkmiaaGreatDoor
