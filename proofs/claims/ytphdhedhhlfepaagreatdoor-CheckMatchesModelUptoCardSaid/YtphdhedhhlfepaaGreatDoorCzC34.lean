import Derived.Test.YtphdhedhhlfepaaGreatDoorCzC33
import Derived.Test.YtphdhedhhlfepaaGreatDoorCzC29
import Derived.Test.YtphdhedhhlfepaaGreatDoorCzC30
import Derived.WalkKit
import Derived.ProofKit
import Derived.OpenShut
import Derived.ShutString
import Derived.ChangeOld
import Derived.Below
import Derived.Lib.SmallJoins
import Derived.Handed
import Derived.Lay
import Derived.LaidOnce
import Derived.Stop.Joined
import Derived.Deep.Slices
import Derived.Test.YtphdhedhhlfepaaGreatDoorTie
import Derived.Test.YtphdhedhhlfepaaGreatDoorCzC12
import Derived.Test.YtphdhedhhlfepaaGreatDoorCzC19
set_option linter.unusedSimpArgs false
set_option linter.unusedVariables false
namespace Go.Proofs.YtphdhedhhlfepaaGreatDoor
open Go Ab
set_option maxRecDepth 100000
set_option maxHeartbeats 4000000
abbrev ndB (g:Nat) (D:List Nd):Option Bl:=opB 30 (g+1) 4 (D.flatMap ndC)
theorem nd_np (r:List Nd):(r.flatMap ndC).all noPtr=true:=by
 induction r with
 |nil=>rfl
 |cons x r ih=>rw[List.flatMap_cons,List.all_append,ih];rfl
theorem nd_ne {r:List Nd} (h:r≠[]):r.flatMap ndC≠[]:=by
 cases r with
 |nil=>exact absurd rfl h
 |cons x r=>simp[ndC]
structure PgOK (p:List Nd):Prop where
 v:validN p=true
 wf:∀ x∈p,x.str.length≤1000∧0≤x.int
theorem valid_nil:validN []=true:=by decide
theorem flat_ok {B:Nat} {K:List (List Nd)} (h:∀ r∈K,OKr B r):∀ x∈K.flatten,x.str.length≤1000∧0≤x.int:=fun x hx=>by
 obtain⟨r,hr,hx⟩:=List.mem_flatten.1 hx;exact (h r hr).wf x hx
theorem program_b (l:List Int) (hl:l.length≤20000000000000) (B:Nat) (hBB:B≤200000000000) (hDE:DeclE l 2 B):∃ p,PgOK p∧FC Tryz.prog 11 [.s (chF l)] 0 [] (nodes p) 0 []:=by
 obtain⟨m,i2,hm2,hi2,c2⟩:=next_c l hl 5 (by decide) (by decide) 0 (Nat.zero_le _);obtain⟨K,i3,hB,hi3,hK⟩:=dc_t l hl 2 B hDE (m+1) i2 hi2;have hKl:=dcT_len hB;have hKf:=flat_ok hK;have hKn:=flat_len_le hK;have hKm:K.length*B≤5*B:=Nat.mul_le_mul_right _ (by omega)
 have hflen:K.flatten.length≤1000000000000:=by omega
 clear hKm hKn hBB
 have hw:wfS K.flatten:=fun x hx=>by have:=(hKf x hx).1;omega
 have hv:=validR_all K.flatten hw;have hv0:=validR_all [] (fun x hx=>by cases hx);rw[valid_nil] at hv0;have hnew:=new_c l
 have hsz:(Tryz.prog.types[30]).size=4:=by kernel_rfl
 have hby:(Tryz.prog.types[30]).bytes=40:=by kernel_rfl
 refine⟨if validN K.flatten then K.flatten else [],?_,?_⟩
 ·split
  ·exact⟨by assumption,hKf⟩
  ·exact⟨valid_nil,fun x hx=>by cases hx⟩
 refine FC.walk (by kernel_rfl) Tryz.func11 rfl rfl ?_
 repeat'(first|exact y0|refine y1 ?_|refine y2 ?_ ?_|(refine y8 ?_ ?_<;>intro h<;>try exact y6)|(refine wC ?_;first|(refine wF 26 ?_;refine CallG.me [] hnew rfl rfl ⟨VLe.refl _,trivial⟩ trivial rfl rfl rfl ?_)|refine wF 27 (cm c2 ?_))|refine y3 ?_|refine y7 ?_ ?_|refine y4 ?_|(refine y9 ?_ ?_<;>intro h)|exact y5|fail)
 all_goals try first
  |exact i64_in (by omega) (by omega)
 refine Ex.set 4 (.s (.row 1 2 0)) (VLe.s SLe.nilrow) rfl (Ex.upN (n':=3) (by omega) ?_)
 refine Ex.inv (σ:=Nat×Nat×List Nd) (fun s=>[(4,.s (.row 1 2 s.2.2.length)),(5,nI s.1)]) (fun s=>[(0,some {cells:=[chF l,.int .i64 (s.2.1:Int)],ty:=96}),(1,ndB 1 s.2.2)])
  (fun s=>s.1≤5∧∃ R,DcT l 2 s.1 s.2.1 R i3∧s.2.2++R.flatten=K.flatten∧(∀ r∈R,OKr B r)) (fun s=>s.1) (m+1,i2,[]) rfl (fun _=>rfl) ⟨by simp only;omega,K,hB,rfl,hK⟩ ⟨VLe.refl _,VLe.of_eq (congrArg nI (by push_cast;omega)),trivial⟩ ⟨rfl,trivial⟩ ?_
 rintro⟨n,j,D⟩ ⟨hn5,R,hR,hD,hRK⟩;simp only at hn5 hR hD hRK ⊢
 cases hR with
 |nil=>
  rw[List.flatten_nil,List.append_nil] at hD;rw[←hD] at hv ⊢;clear hD hw hKf
  cases D with
  |nil=>
   rw[show (if validN []=true then ([]:List Nd) else [])=[] by split<;>rfl];refine Ex.set 4 (nodes []) (VLe.s SLe.row0) rfl ?_
   repeat'(first|exact y0|refine y1 ?_|refine y2 ?_ ?_|(refine y8 ?_ ?_<;>intro h<;>try(exact y6))|(refine wC ?_;first|refine wF 20 (bo hv0 ?_))|exact u64_in (by omega) (by omega)|exact i64_in (by omega) (by omega)|refine Fin.le (.inl rfl) rfl (VLe.refl _) rfl|refine y3 ?_|refine y7 ?_ ?_|refine y4 ?_|(refine y9 ?_ ?_<;>intro h)|exact y5|fail)
  |cons d D=>
   cases hV:validN (d::D)<;>rw[hV] at hv
   all_goals simp only[Bool.false_eq_true,if_false,if_true]
   ·
    refine Ex.fz 4 (fun k=>ndC ((d::D).getD k dN)) 4 rfl rfl rfl rfl (fun _ _=>rfl) (fun k j s hk hs=>nd_cell hk hs) rfl rfl ?_
    repeat'(first|exact y0|refine y1 ?_|refine y2 ?_ ?_|(refine y8 ?_ ?_<;>intro h<;>try(exact y6))|(refine wC ?_;first|refine wF 20 (bo hv ?_))|exact u64_in (by omega) (by omega)|exact i64_in (by omega) (by omega)|refine Fin.le (.inl rfl) rfl (VLe.s SLe.nil) rfl|refine y3 ?_|refine y7 ?_ ?_|refine y4 ?_|(refine y9 ?_ ?_<;>intro h)|exact y5|fail)
   ·
    refine Ex.fz 4 (fun k=>ndC ((d::D).getD k dN)) 4 rfl rfl rfl rfl (fun _ _=>rfl) (fun k j s hk hs=>nd_cell hk hs) rfl rfl ?_
    repeat'(first|exact y0|refine y1 ?_|refine y2 ?_ ?_|(refine y8 ?_ ?_<;>intro h<;>try(exact y6))|(refine wC ?_;first|refine wF 20 (bo hv ?_))|exact u64_in (by omega) (by omega)|exact i64_in (by omega) (by omega)|refine Fin.le (.inl rfl) rfl (VLe.refl _) rfl|refine y3 ?_|refine y7 ?_ ?_|refine y4 ?_|(refine y9 ?_ ?_<;>intro h)|exact y5|fail)
 |stop c=>
  rw[List.flatten_nil,List.append_nil] at hD;rw[←hD] at hv ⊢;clear hD hw hKf
  cases D with
  |nil=>
   rw[show (if validN []=true then ([]:List Nd) else [])=[] by split<;>rfl];refine Ex.set 4 (nodes []) (VLe.s SLe.row0) rfl ?_
   repeat'(first|exact y0|refine y1 ?_|refine y2 ?_ ?_|(refine y8 ?_ ?_<;>intro h<;>try(exact y6))|(refine wC ?_;first|refine wF 28 (cm c ?_)|refine wF 20 (bo hv0 ?_))|exact u64_in (by omega) (by omega)|exact i64_in (by omega) (by omega)|refine Fin.le (.inl rfl) rfl (VLe.refl _) rfl|refine y3 ?_|refine y7 ?_ ?_|refine y4 ?_|(refine y9 ?_ ?_<;>intro h)|exact y5|fail)
  |cons d D=>
   cases hV:validN (d::D)<;>rw[hV] at hv
   all_goals simp only[Bool.false_eq_true,if_false,if_true]
   ·
    refine Ex.fz 4 (fun k=>ndC ((d::D).getD k dN)) 4 rfl rfl rfl rfl (fun _ _=>rfl) (fun k j s hk hs=>nd_cell hk hs) rfl rfl ?_
    repeat'(first|exact y0|refine y1 ?_|refine y2 ?_ ?_|(refine y8 ?_ ?_<;>intro h<;>try(exact y6))|(refine wC ?_;first|refine wF 28 (cm c ?_)|refine wF 20 (bo hv ?_))|exact u64_in (by omega) (by omega)|exact i64_in (by omega) (by omega)|refine Fin.le (.inl rfl) rfl (VLe.s SLe.nil) rfl|refine y3 ?_|refine y7 ?_ ?_|refine y4 ?_|(refine y9 ?_ ?_<;>intro h)|exact y5|fail)
   ·
    refine Ex.fz 4 (fun k=>ndC ((d::D).getD k dN)) 4 rfl rfl rfl rfl (fun _ _=>rfl) (fun k j s hk hs=>nd_cell hk hs) rfl rfl ?_
    repeat'(first|exact y0|refine y1 ?_|refine y2 ?_ ?_|(refine y8 ?_ ?_<;>intro h<;>try(exact y6))|(refine wC ?_;first|refine wF 28 (cm c ?_)|refine wF 20 (bo hv ?_))|exact u64_in (by omega) (by omega)|exact i64_in (by omega) (by omega)|refine Fin.le (.inl rfl) rfl (VLe.refl _) rfl|refine y3 ?_|refine y7 ?_ ?_|refine y4 ?_|(refine y9 ?_ ?_<;>intro h)|exact y5|fail)
 | @cons n _ j1 _ r' R' c cc2 hr t=>
   have ho:=hRK r' (List.mem_cons_self ..);have hrl:1≤r'.length:=List.length_pos_iff.2 hr;have hol:=ho.len
   have hDl:D.length+r'.length≤1000000000000:=by
    have:=congrArg List.length hD;rw[List.flatten_cons,List.length_append,List.length_append] at this;omega
   repeat'(first|exact y0|refine y1 ?_|refine y2 ?_ ?_|(refine y8 ?_ ?_<;>intro h<;>try(exact y6))|(refine wC ?_;first|refine wF 28 (cm c ?_)|refine wF 29 (cm cc2 ?_))|exact u64_in (by omega) (by omega)|exact i64_in (by omega) (by omega)|refine y3 ?_|refine y7 ?_ ?_|refine y4 ?_|(refine y9 ?_ ?_<;>intro h)|exact y5|fail)
   refine RegX.apr (i:=1) (g:=2) (m:=D.length) (w:=4) (cs:=D.flatMap ndC) (foot:=[]) (k:=r'.length) (add:=flatG (fun k=>ndC (r'.getD k dN)) r'.length) rfl rfl (by rw[nd_len]) rfl rfl rfl rfl rfl rfl rfl hsz (by decide) rfl ?_ hrl (by rw[nd_flat];exact nd_ne hr) (by rw[nd_flat];exact nd_np _) (by rw[hby];omega) (by omega) rfl ?_
   ·trivial
   repeat'(first|exact y0|refine y1 ?_|refine y2 ?_ ?_|(refine y8 ?_ ?_<;>intro h<;>try(exact y6))|exact u64_in (by omega) (by omega)|exact i64_in (by omega) (by omega)|refine y3 ?_|refine y7 ?_ ?_|refine y4 ?_|(refine y9 ?_ ?_<;>intro h)|exact y5|fail)
   all_goals try first
    |exact i64_in (by push_cast;omega) (by push_cast;omega)
    |omega
   refine LoopR.move (n,j1,D++r') ⟨by simp only;omega,R',t,by simpa using hD,fun q hq=>hRK q (List.mem_cons_of_mem _ hq)⟩ (by simp only;omega) [0,3,4] rfl ?_ ?_ ?_
   ·repeat' (first|exact VLe.refl _|exact VLe.any _|exact True.intro|exact VLe.of_eq (congrArg nI (by push_cast;omega))|(refine VLe.of_eq (congrArg V.s (?_:S.row 3 4 _=S.row 3 4 _));simp;done)|refine⟨?_,?_⟩)
   ·refine⟨rfl,MemP.op ?_ trivial⟩
    rw[List.flatMap_append,←nd_flat r'];rfl
   ·unfold ndB;generalize List.flatMap _ _=cg;cases cg<;>rfl
theorem program_e (l:List Int) (hl:l.length≤20000000000000):∃ p,PgOK p∧FC Tryz.prog 11 [.s (chF l)] 0 [] (nodes p) 0 []:=program_b l hl 200000000000 (Nat.le_refl _) (decl_2 l hl)
set_option maxRecDepth 100000
set_option maxHeartbeats 2000000
theorem allG_len {p:List Nd} {t:Fo} (hp:p.length≤2048) (ha:t.At p 0) (hv:t.V (List.replicate t.cnt (false,68))) (hs:t.size=p.length):(srtD (allG p t)).length≤1000000000:=by
 rw[srtD_len];have hnd:=allG_nodup ha hv hs
 have key:∀ (l:List Nat),l.length≤2048→(∀ i∈l,i<p.length)→(l.flatMap (nodeE p (anS p t).F (anS p t).S t)).length≤l.length*6145:=by
  intro l
  induction l with
  |nil=>intro _ _;simp
  |cons i l ih=>
   intro h1 h2;rw[List.flatMap_cons,List.length_append,List.length_cons];have:=ih (by simp only[List.length_cons] at h1;omega) (fun j hj=>h2 j (List.mem_cons_of_mem _ hj));have hi:=h2 i (List.mem_cons_self ..);obtain⟨sl,g1,g2⟩:=kid_at ha hv (Nat.zero_le i) (by omega:i<0+t.size);have hn:=nodeG_len hp (F:=(anS p t).F) (sc:=(anS p t).S.getD i z0) (G:=[]) g1 g2
   have he:(nodeE p (anS p t).F (anS p t).S t i).length≤6145:=by
    unfold nodeE;rw[List.length_append]
    have:(if oorB p i then [(i,4)] else []:Dgs).length≤1:=by split<;>simp
    simp only[List.length_nil] at hn;omega
   rw[Nat.add_mul];omega
 unfold allG;rw[rowG_app,List.length_append];have h1:=(declS_len false t 0 ⟨true,0,[]⟩ (st0 p)).2.2;rw[show (st0 p).G.length=0 from rfl] at h1;have h2:=key (List.range' 0 p.length) (by simp;omega) (fun i hi=>by have:=List.mem_range'_1.1 hi;omega);simp only[List.length_range'] at h2;have h3:p.length*6145≤2048*6145:=Nat.mul_le_mul_right _ hp;have h4:(anS p t).G.length≤0+t.size:=h1;omega
theorem PgOK.wfN {p:List Nd} (h:PgOK p):wfN p:=fun x hx=>by have:=(h.wf x hx).1;omega
theorem PgOK.wfI {p:List Nd} (h:PgOK p):wfI p:=fun x hx=>(h.wf x hx).2
end Go.Proofs.YtphdhedhhlfepaaGreatDoor
namespace Go.Proofs.YtphdhedhhlfepaaGreatDoor
open Go Ab
open Go.ChangeShapes Go.WideShapes Go.ChangeAt Go.RowKit
set_option maxRecDepth 100000
theorem own:ownKnob Tryz.prog.godebug=none:=by kernel_rfl
theorem laidOut:laidOutB Tryz.prog=true:=by kernel_rfl
theorem handed_shaped {H:Type} {enc:TypeId×Value→H} {a:Assume} {C:Checked} {os:Os} {f:FuncId} {fn:Func} {s:ChangeSpec} {conds:List PathCond} {apart fresh handsOn again:Bool} {X:World→Array Value→Prop}
 (hX:∀ (w w':World) (args:Array Value),w.heap=w'.heap→X w args→X w' args)
 (own:ownKnob C.prog.godebug=none) (started:os.Started) (noInit:C.prog.inits.idxOf? f=none) (hfn:C.prog.funcs[f]? =some fn)
 (witness:∃ (w:World) (tape:Tape) (i:Input),w.os=os∧(w.forCall tape i).Shaped C.prog∧i.vars=[]∧Input.okWide C.prog (w.forCall tape i) .any w.heap.size f i∧
   ((s.pre enc C.prog fn conds apart (w.forCall tape i).memory i.args∧X (w.forCall tape i).memory i.args)∧sizedMet enc C.prog fn (OpenSpec.ofChange s) apart (w.forCall tape i).memory i.args)∧a.holds C.prog (lone (Frame.enter C.prog f i.args .normal) [] (w.forCall tape i)))
 (contract:∀ (W:World) (base:Nat) (args:Array Value) (ds gs:List (DataW H)) (before:List MemPlace),W.ShapedOpen C.prog→
   (∀ (j:Nat) t v,fn.params[j]? =some t→args[j]? =some v→Value.okWide C.prog W .any base t v)→
   DataW.Whole enc C.prog fn.params.toList s.vars apart W args.toList ds gs before→
   conds.all (PathCond.test C.prog ⟨fn.params.toList,ds,s.plain.varTypes C.prog,gs⟩)=true→
   (DataW.weightsEach C.prog (fn.params.toList++s.plain.varTypes C.prog) (ds++gs)).all (·≤reachBytes)=true→X W args→
   a.holds C.prog (lone (Frame.enter C.prog f args .normal) [] W)→
   Calls C.prog f args W fun e W'=>∃ v,e=.returned v∧s.post enc C.prog fn apart fresh handsOn again W args v W'):
 ReturnsInHanded a C os f .any (fun w args=>(s.pre enc C.prog fn conds apart w args∧X w args)∧sizedMet enc C.prog fn (OpenSpec.ofChange s) apart w args) (s.post enc C.prog fn apart fresh handsOn again):=by
 refine returnsInHanded_of_calls own started noInit witness ?_;intro w tape i _ hsh _ hok hpre hholds;obtain⟨_,_,_,fn',hfn',_,_,_,_,hval⟩:=hok;have e:fn'=fn:=Option.some.inj (hfn'.symm.trans hfn);subst e;obtain⟨⟨⟨ds,gs,before,hw,hc⟩,hx⟩,hz⟩:=hpre;have hw':=DataW.Whole.of_heap (w':=w.forCall tape i) (by rfl) hw
 refine (contract (w.forCall tape i) w.heap.size i.args ds gs before hsh hval hw' hc (hz.weights hw) (hX _ _ _ (by rfl) hx) hholds).mono fun e W' ⟨v,he,hp⟩=>?_
 subst he;exact ChangeSpec.post_blind hp
theorem SC.law {P:Program} {f:FuncId} {args:List V} {n:Nat} {L:Hp} {n':Nat} {L':Hp} (h:SC P f args n L (.s (.bool true)) n' L') (hro:∀ i bl,lk L i=some bl→bl.ro=true) {φ:Ph} {xs:List Value} {w:World}
 (h1:All2 (Vr φ) args xs) (h2:Ab.Good φ L w) (h3:∀ i,n≤i→φ i=none):Calls P f xs.toArray w fun e w'=>e=.returned (.bool true)∧Below w.heap.size w w':=by
 refine Calls.mono (h φ xs w h1 h2 h3) ?_;rintro e w' ⟨φ',x,rfl,hv,_,_,st,_⟩;have hx:x=.bool true:=hv;refine⟨by rw[hx],st.os,st.tape,st.output,st.size,fun k hk=>st.keep k hk ?_⟩;rintro⟨i,bl,c,hl,_,_,hr⟩;rw[hro i bl hl] at hr;cases hr
theorem str_val (s:ByteArray):Value.string s=.string ⟨s.data.toList.toArray⟩:=by cases s;simp
def unDs {H:Type}:List (DataW H)→List S
 |[]=>[]
 | .agg [.lit (.string a),.lit (.string b)]::t=> .str a::.str b::unDs t
 |_::t=>unDs t
theorem cellsForm:Tryz.prog.cellsOf 164=2:=by kernel_rfl
theorem cells9:Tryz.prog.cellsOf 9=1:=by kernel_rfl
theorem pair_open {H:Type} {enc:TypeId×Value→H} {w:World} {base:Nat} {spare:Nat→Bool} {held:Bool} {fuel:Nat} {cs:List Value} {x:DataW H×List MemPlace} (h:DataW.trod enc Tryz.prog w base spare held fuel 164 cs=some x):
 ∃ a b:List UInt8,cs=[.string ⟨a.toArray⟩,.string ⟨b.toArray⟩]∧x.1=.agg [.lit (.string a),.lit (.string b)]:=by
 obtain⟨xs,m,rfl,rfl,hlen,hn,hf⟩:=DataW.trod_struct Tryz.underlying164 h;rw[cellsForm] at hlen
 match cs,hlen with
 |[c0,c1],_=>
  have f0:=hf 0 _ rfl;have f1:=hf 1 _ rfl;change DataW.trod enc Tryz.prog w base spare held m 9 (([c0,c1].drop 0).take (Tryz.prog.cellsOf 9))=_ at f0;change DataW.trod enc Tryz.prog w base spare held m 9 (([c0,c1].drop 1).take (Tryz.prog.cellsOf 9))=_ at f1;rw[cells9] at f0 f1;have hn:xs.length=2:=hn
  match xs,hn with
  |[x0,x1],_=>
   obtain⟨s0,e0,e0',_⟩:=DataW.trod_string Tryz.underlying9 f0;obtain⟨s1,e1,e1',_⟩:=DataW.trod_string Tryz.underlying9 f1;simp at e0 e1;subst e0;subst e1;refine⟨s0.data.toList,s1.data.toList,by rw[←str_val,←str_val],?_⟩;simp[e0',e1']
theorem pairs_open {H:Type} {enc:TypeId×Value→H} {w:World} {base:Nat} {spare:Nat→Bool} {held:Bool} {m:Nat} {φ:Ph}:∀ (xs:List (DataW H×List MemPlace)) (cs:List Value),cs.length=xs.length*2→(∀ i,i<xs.length→DataW.trod enc Tryz.prog w base spare held m 164 ((cs.drop (i*2)).take 2)=xs[i]?)→
 All2 (Sr φ) (unDs (xs.map (·.1))) cs
 |[],[],_,_=>trivial
 |[],_::_,h,_=>by simp at h
 |x::xs,[],h,_=>by simp at h
 |x::xs,[_],h,_=>by simp at h;omega
 |x::xs,c0::c1::cs,h,hf=>by
  have h0:=hf 0 (by simp);simp at h0;obtain⟨a,b,e,ex⟩:=pair_open h0;simp only[List.cons.injEq,and_true] at e;obtain⟨rfl,rfl⟩:=e
  have ih:=pairs_open (φ:=φ) xs cs (by simp at h;omega) (fun i hi=>by
   have:=hf (i+1) (by simp;omega);rw[show (i+1)*2=(i*2)+1+1 by omega] at this
   simpa using this)
  simp only[List.map_cons,ex,unDs];exact⟨rfl,rfl,ih⟩
theorem table_open {H:Type} {enc:TypeId×Value→H} {w:World} {base:Nat} {spare:Nat→Bool} {held:Bool} {fuel:Nat} {t N:Nat} {cs:List Value} {d:DataW H} {p:List MemPlace} (ht:Tryz.prog.underlying t=some (.array N 164)) (hc:Tryz.prog.cellsOf t=N*2) (h:DataW.trod enc Tryz.prog w base spare held fuel t cs=some (d,p)) (φ:Ph):
 ∃ ds,d=.agg ds∧All2 (Sr φ) (unDs ds) cs:=by
 obtain⟨xs,m,rfl,hx,hlen,hn,hf⟩:=DataW.trod_array ht h;simp only[Prod.mk.injEq] at hx;refine⟨_,hx.1,pairs_open (enc:=enc) (w:=w) (base:=base) (spare:=spare) (held:=held) (m:=m) xs cs (by rw[hlen,hc,hn]) (fun i hi=>?_)⟩;have:=hf i (by omega)
 rwa [cellsForm] at this
def zW (W:World):Nat→Option (List Value):=fun b=>match W.heap[b]? with|some (.cells a _ _)=>some a.toList|_=>none
def phW (W:World):Ph:=⟨fun _=>none,zW W⟩
theorem phW_good {W:World} (h:GzOK (zW W)):Ab.Good (phW W) [] W:=by
 refine⟨fun i bl hi=>(by cases hi),fun i j bl bl' b b' hi=>(by cases hi),fun b l hb=>⟨?_,fun hw=>?_⟩,h⟩
 ·have hb:zW W b=some l:=hb
  unfold zW at hb;split at hb
  ·rename_i a ty fr he;cases hb;exact⟨ty,fr,by simpa using he⟩
  ·cases hb
 ·obtain⟨i,bl,c,hi,_⟩:=hw;cases hi
theorem no_ro:∀ i bl,lk ([]:Hp) i=some bl→bl.ro=true:=fun i bl h=>by cases h
theorem cell_z {W:World} {b o:Nat} {v:Value} (h:W.cell? ⟨b,o,none⟩=some v):∃ vs,zW W b=some vs∧vs[o]? =some v:=by
 unfold World.cell? at h;split at h
 ·rename_i arr ty fr hb
  refine⟨arr.toList,by unfold zW;rw[hb],?_⟩
  simpa using h
 ·cases h
theorem wf_i64 {n:Int} (h:(Lit.int .i64 n).wf=true): -9223372036854775808≤n∧n≤9223372036854775807:=by
 simp only[Lit.wf,Bool.and_eq_true,decide_eq_true_eq] at h;exact h
theorem wf_u64 {n:Int} (h:(Lit.int .u64 n).wf=true):0≤n∧n≤18446744073709551615:=by
 simp only[Lit.wf,Bool.and_eq_true,decide_eq_true_eq] at h;exact h
instance:Inhabited Nd:=⟨dN⟩
theorem addr_at (b off k:Nat):(⟨b,off,none⟩:Addr).add k=⟨b,off+k,none⟩:=by
 unfold Addr.add;split
 ·rename_i h;subst h;rfl
 ·rfl
theorem weightsAll_mem {H:Type} {P:Program} {e:TypeId} {q:Nat→Bool}:∀ {l:List (DataW H)} {x:DataW H},(DataW.weightsAll P e l).all q=true→x∈l→(x.weights P e).all q=true
 |[],_,_,h=>by cases h
 |d::r,x,h,hx=>by
  unfold DataW.weightsAll at h;rw[List.all_append,Bool.and_eq_true] at h
  rcases List.mem_cons.1 hx with rfl|hx
  ·exact h.1
  ·exact weightsAll_mem h.2 hx
theorem cellsI:Tryz.prog.cellsOf 3=1:=by kernel_rfl
theorem cellsU:Tryz.prog.cellsOf 28=1:=by kernel_rfl
theorem cellsNd:Tryz.prog.cellsOf 30=4:=by kernel_rfl
theorem bytesI:Tryz.prog.bytesOf 3=8:=by kernel_rfl
section
variable {H:Type} {enc:TypeId×Value→H} {W:World} {base:Nat} {held:Bool}
theorem open_ints {r:Reach} {b0:Nat} {v:Value} {d:DataW H} {p:List MemPlace} (hv:Value.okWide Tryz.prog W r b0 23 v) (h:DataW.Trod enc Tryz.prog W base (fun _=>true) held 23 v d p) (hw:(d.weights Tryz.prog 23).all (·≤reachBytes)=true):
 ∃ l:List Int,Vr (phW W) (.s (chF l)) v∧l.length≤20000000000000:=by
 obtain⟨a0,len0,cap0,rfl⟩:=okWide_slice Tryz.underlying23 hv;obtain⟨fuel,hf⟩:=h
 rcases Go.Deep.open_slice1 Tryz.underlying23 cellsI hf with ⟨hcs,_⟩|⟨a,len,cap,m,n,V,D,Pl,hcs,_,hl,_,hm,hd,hx⟩
 ·simp[Value.cells] at hcs
  obtain⟨rfl,rfl,rfl⟩:=hcs;exact⟨[],.nil _ _ _ _ (fun _=>rfl),by simp⟩
 ·simp[Value.cells] at hcs
  obtain⟨rfl,rfl,rfl⟩:=hcs;simp only[if_true] at hm;subst hm
  have hcap:m≤20000000000000:=by
   have e:d=.slice ((List.range len0).map D) ((List.range (m-len0)).map fun j=>D (len0+j)):=congrArg Prod.fst hd;rw[e] at hw;unfold DataW.weights at hw;rw[Tryz.underlying23] at hw;simp only[List.all_cons,Bool.and_eq_true,decide_eq_true_eq,List.length_map,List.length_range,bytesI] at hw;have:=hw.1;unfold reachBytes at this;omega
  have each:∀ i,i<m→∃ z:Int,W.cell? (a.add i)=some (.int .i64 z):=by
   intro i hi;obtain⟨h1,h2⟩:=hx i hi;obtain⟨z,e1,_,w1⟩:=DataW.trod_int Tryz.underlying3 h2;simp only[List.cons.injEq,and_true] at e1;exact⟨z,by rw[h1,e1]⟩
  obtain⟨f,hfq⟩:=Go.Deep.choose_lt each;refine⟨(List.range len0).map f,?_,by simp;omega⟩;unfold chF;rw[show ((List.range len0).map f).length=len0 by simp];by_cases h0:len0=0
  ·subst h0
   exact .nil _ _ _ _ (fun e=>by cases e)
  obtain⟨b,off,spot⟩:=a
  have hspot:spot=none:=by simpa [Addr.add] using World.cell?_spot (hfq 0 (by omega))
  subst hspot
  have hc:∀ i,i<m→W.cell? ⟨b,off+i,none⟩=some (.int .i64 (f i)):=fun i hi=>by
   have:=hfq i hi
   rwa [addr_at] at this
  obtain⟨vs,hz,_⟩:=cell_z (hc 0 (by omega));refine .frz _ 1 len0 b off m vs hz hl (fun i _=> .int .i64 (f i)) (fun _ _=>rfl) (fun i j x hi hj=>?_) (fun i j x hi hj=>?_)
  ·cases j with
   |succ j=>simp at hj
   |zero=>
    obtain⟨vs',hz',h3⟩:=cell_z (hc i (by omega));rw[hz] at hz';cases hz';rw[Nat.mul_one,Nat.add_zero];exact h3
  ·cases j with
   |succ j=>simp at hj
   |zero=>
    simp only[List.getElem?_cons_zero,Option.some.injEq] at hj;subst hj;rw[show ((List.range len0).map f).getD i 0=f i by rw[List.getD_eq_getElem?_getD,List.getElem?_map,List.getElem?_range hi];rfl];exact .int _ _
end
set_option maxRecDepth 100000
theorem row0:(((begin Tryz.prog (fun _ _=>0) default).world.heap[0]?).bind Obj.row?).map (·.2)=some 181:=by kernel_rfl
theorem gty0:(Tryz.prog.globals[0]?).map (·.type)=some 181:=by kernel_rfl
theorem gcl0:Tryz.prog.cellsOf 181=12*2:=by kernel_rfl
theorem row1:(((begin Tryz.prog (fun _ _=>0) default).world.heap[1]?).bind Obj.row?).map (·.2)=some 182:=by kernel_rfl
theorem gty1:(Tryz.prog.globals[1]?).map (·.type)=some 182:=by kernel_rfl
theorem gcl1:Tryz.prog.cellsOf 182=13*2:=by kernel_rfl
theorem row2:(((begin Tryz.prog (fun _ _=>0) default).world.heap[2]?).bind Obj.row?).map (·.2)=some 183:=by kernel_rfl
theorem gty2:(Tryz.prog.globals[2]?).map (·.type)=some 183:=by kernel_rfl
theorem gcl2:Tryz.prog.cellsOf 183=29*2:=by kernel_rfl
theorem glob_heap {W:World} (hS:W.ShapedOpen Tryz.prog) {g t:Nat} (hg:g<6) (hr:(((begin Tryz.prog (fun _ _=>0) default).world.heap[g]?).bind Obj.row?).map (·.2)=some t):∃ cs,W.heap[g]? =some (.cells cs t (0,0)):=by
 cases hq:((begin Tryz.prog (fun _ _=>0) default).world.heap[g]?).bind Obj.row? with
 |none=>rw[hq] at hr;cases hr
 |some x=>
  obtain⟨z,t'⟩:=x;rw[hq] at hr;simp only[Option.map_some,Option.some.injEq] at hr;subst hr;obtain⟨cs,h1,_⟩:=hS.1 g z t' (Nat.lt_of_lt_of_le hg (by decide+kernel)) hq;exact⟨cs,h1⟩
theorem all_pr {φ:Ph}:∀ {l:List S} {xs:List Value},All2 (Sr φ) l xs→l.all pureS=true→All2 (Pr φ.z) l xs
 |[],[],_,_=>trivial
 |[],_::_,h,_=>h.elim
 |_::_,[],h,_=>h.elim
 |a::l,x::xs,h,hp=>by
  rw[List.all_cons,Bool.and_eq_true] at hp;exact⟨h.1.pr hp.1,all_pr h.2 hp.2⟩
theorem glob_at {W:World} (hS:W.ShapedOpen Tryz.prog) {name:String} {i ty N:Nat} {d:DataW Unit} {ds:List (DataW Unit)} {l:List (String×DataW Unit)} {ps:List MemPlace} {cs0:List S} (hv:DataW.LaidVars Tryz.prog W ((name,d)::l) ps) (hi:i<6)
 (hr:(((begin Tryz.prog (fun _ _=>0) default).world.heap[i]?).bind Obj.row?).map (·.2)=some ty) (hn:Tryz.prog.globalNamed name=some i) (ht:(Tryz.prog.globals[i]?).map (·.type)=some ty) (hu:Tryz.prog.underlying ty=some (.array N 164)) (hc:Tryz.prog.cellsOf ty=N*2)
 (hd:d=.agg ds) (h0:unDs ds=cs0) (hp:cs0.all pureS=true):∃ vs,zW W i=some vs∧All2 (Pr (zW W)) cs0 vs:=by
 obtain⟨g,t,cs,fuel,p,q,h1,h2,h3,h4,_⟩:=hv;rw[hn] at h1;cases h1;rw[ht] at h2;cases h2;obtain⟨cs',h5⟩:=glob_heap hS hi hr
 have:cs=cs':=by
  simp only[World.var?,hn,Option.bind_some,h5,Option.some.injEq] at h3;exact h3.symm
 subst this;obtain⟨ds',e,hall⟩:=table_open hu hc h4 (phW W);rw[hd] at e;cases e;refine⟨cs.toList,by unfold zW;rw[h5],?_⟩;rw[h0] at hall;exact all_pr (φ:=phW W) hall hp
theorem globals_gz {W:World} (hS:W.ShapedOpen Tryz.prog) (hL:laidMet Tryz.prog Rows.checkOrderRow.laid W):GzOK (zW W):=by
 obtain⟨ps,hv,_⟩:=hL;obtain⟨_,_,_,_,_,q0,_,_,_,_,hv1,_⟩:=hv;have b0:=glob_at hS (ty:=181) (N:=12) (cs0:=(GS 0).getD []) hv1 (by decide) row0 (by kernel_rfl) gty0 Tryz.underlying181 gcl0 rfl (by kernel_rfl) (by kernel_rfl);obtain⟨_,_,_,_,_,q1,_,_,_,_,hv2,_⟩:=hv1;have b1:=glob_at hS (ty:=182) (N:=13) (cs0:=(GS 1).getD []) hv2 (by decide) row1 (by kernel_rfl) gty1 Tryz.underlying182 gcl1 rfl (by kernel_rfl) (by kernel_rfl);obtain⟨_,_,_,_,_,q2,_,_,_,_,hv3,_⟩:=hv2;have b2:=glob_at hS (ty:=183) (N:=29) (cs0:=(GS 2).getD []) hv3 (by decide) row2 (by kernel_rfl) gty2 Tryz.underlying183 gcl2 rfl (by kernel_rfl) (by kernel_rfl);intro g cs hg
 match g,hg with
 |0,hg=>rw[hg] at b0;exact b0
 |1,hg=>rw[hg] at b1;exact b1
 |2,hg=>rw[hg] at b2;exact b2
 |g+3,hg=>cases hg
end Go.Proofs.YtphdhedhhlfepaaGreatDoor
namespace Go.Proofs.YtphdhedhhlfepaaGreatDoor
open Go Ab
set_option maxRecDepth 100000
theorem ctx_pa:∀ {t:Fo} {j i:Nat} {a:Inf},j≤i→i<j+t.size→i∈t.starts j∨∃ m:Nat,j≤m∧m<i∧(ctxF t j i a).pa=(m:Int)∧i∈(t.kid j m).starts (m+1)
 | .nil,j,i,a,h1,h2=>by simp only[Fo.size] at h2;omega
 | .cons x k n,j,i,a,h1,h2=>by
   simp only[Fo.size] at h2;simp only[Fo.starts,List.mem_cons];by_cases e:i=j
   ·exact .inl (.inl e)
   ·rcases Nat.lt_or_ge i (j+1+k.size) with h|h
    ·refine .inr ?_
     have e2:ctxF (.cons x k n) j i a=ctxF k (j+1) i (innI x (nameF k) j a):=by simp only[ctxF,if_neg e,if_pos h]
     rcases ctx_pa (t:=k) (j:=j+1) (i:=i) (a:=innI x (nameF k) j a) (by omega) (by omega) with hs|⟨m,m1,m2,m3,m4⟩
     ·refine⟨j,Nat.le_refl _,by omega,?_,?_⟩
      ·rw[e2,ctx_start hs];rfl
      ·simp only[Fo.kid,if_true];exact hs
     ·refine⟨m,by omega,m2,by rw[e2];exact m3,?_⟩
      simp only[Fo.kid,if_neg (show ¬m=j by omega),if_pos (show m<j+1+k.size by omega)];exact m4
    ·have h': ¬i<j+1+k.size:=by omega
     have e2:ctxF (.cons x k n) j i a=ctxF n (j+1+k.size) i a:=by simp only[ctxF,if_neg e,if_neg h']
     rcases ctx_pa (t:=n) (j:=j+1+k.size) (i:=i) (a:=a) (by omega) (by omega) with hs|⟨m,m1,m2,m3,m4⟩
     ·exact .inl (.inr hs)
     ·refine .inr ⟨m,by omega,m2,by rw[e2];exact m3,?_⟩
      simp only[Fo.kid,if_neg (show ¬m=j by omega),if_neg (show ¬m<j+1+k.size by omega)];exact m4
section
variable {p:List Nd} {t:Fo}
theorem ctx_kid (ha:t.At p 0) {i j:Nat} (hi:i<t.size) (h:j∈(t.kid 0 i).starts (i+1)):i<j∧j<t.size∧ctxT t j=innI (p.getD i dN) (nameF (t.kid 0 i)) i (ctxT t i):=by
 have hr:=starts_ge h;have hs:=kid_size (t:=t) (j:=0) (i:=i) (Nat.zero_le _) (by omega);refine⟨by omega,by omega,?_⟩;show ctxF t 0 j ini=_;rw[(kid_kid ha (Nat.zero_le i) (by omega) (by omega) (by omega) ini).2,ctx_start h]
theorem ctx_cases (ha:t.At p 0) {j:Nat} (hj:j<t.size):(j∈t.starts 0∧ctxT t j=ini)∨∃ m,m<j∧(ctxT t j).pa=(m:Int)∧j∈(t.kid 0 m).starts (m+1):=by
 rcases ctx_pa (t:=t) (j:=0) (i:=j) (a:=ini) (Nat.zero_le _) (by omega) with h|⟨m,_,h2,h3,h4⟩
 ·exact .inl ⟨h,ctx_start h⟩
 ·exact .inr ⟨m,h2,h3,h4⟩
theorem ctx_pa_iff (ha:t.At p 0) {i j:Nat} (hi:i<t.size) (hj:j<t.size):(ctxT t j).pa=(i:Int)↔j∈(t.kid 0 i).starts (i+1):=by
 refine⟨fun h=>?_,fun h=>?_⟩
 ·rcases ctx_cases ha hj with ⟨_,h2⟩|⟨m,_,h3,h4⟩
  ·rw[h2] at h;exact absurd h (by show ¬(-1:Int)=_;omega)
  ·rw[h3] at h
   have:m=i:=by omega
   subst this;exact h4
 ·rw[(ctx_kid ha hi h).2.2];rfl
theorem ctx_pa_lt (ha:t.At p 0) {j:Nat} (hj:j<t.size):(ctxT t j).pa<(j:Int):=by
 rcases ctx_cases ha hj with ⟨_,h2⟩|⟨m,h2,h3,_⟩
 ·rw[h2];show (-1:Int)<_;omega
 ·omega
theorem ctx_path (ha:t.At p 0) {j:Nat} (hj:j<t.size):(ctxT t j).path=[]:=by
 rcases ctx_cases ha hj with ⟨_,h2⟩|⟨m,h2,h3,h4⟩
 ·rw[h2];rfl
 ·rw[(ctx_kid ha (by omega) h4).2.2];rfl
def ownT (p:List Nd) (t:Fo) (i:Nat):Inf:=ownI (p.getD i dN) (nameF (t.kid 0 i)) (ctxT t i)
def infAt (p:List Nd) (t:Fo) (i j:Nat):Inf:=if j<i then ownT p t j else if (ctxT t j).pa<(i:Int) then ctxT t j else ini
def infT (p:List Nd) (t:Fo) (i:Nat):List Inf:=(List.range t.size).map (infAt p t i)
def infL (p:List Nd) (t:Fo):List Inf:=(List.range t.size).map (ownT p t)
def setK (T:List Inf) (ks:List Nat) (x:Inf):List Inf:=ks.foldl (fun T k=>T.set k x) T
theorem setK_len (x:Inf):∀ (ks:List Nat) (T:List Inf),(setK T ks x).length=T.length
 |[],_=>rfl
 |k::ks,T=>by show (setK (T.set k x) ks x).length=_;rw[setK_len x ks];simp
theorem setK_get (x:Inf):∀ (ks:List Nat) (T:List Inf) (j:Nat),(setK T ks x)[j]? =if j∈ks∧j<T.length then some x else T[j]?
 |[],T,j=>by simp[setK]
 |k::ks,T,j=>by
  show (setK (T.set k x) ks x)[j]? =_;rw[setK_get x ks,List.length_set,List.getElem?_set];by_cases h1:j∈ks∧j<T.length
  ·rw[if_pos h1,if_pos ⟨List.mem_cons_of_mem _ h1.1,h1.2⟩]
  ·rw[if_neg h1]
   by_cases h2:k=j
   ·subst h2
    by_cases h3:k<T.length
    ·rw[if_pos rfl,if_pos h3,if_pos ⟨List.mem_cons_self ..,h3⟩]
    ·rw[if_pos rfl,if_neg h3,if_neg (fun h=>h3 h.2),List.getElem?_eq_none (by omega)]
   ·rw[if_neg h2,if_neg]
    rintro⟨h3,h4⟩
    rcases List.mem_cons.1 h3 with h3|h3
    ·exact h2 h3.symm
    ·exact h1 ⟨h3,h4⟩
theorem infT_len (i:Nat):(infT p t i).length=t.size:=by simp[infT]
theorem infT_get {i j:Nat} (hj:j<t.size):(infT p t i)[j]? =some (infAt p t i j):=by
 unfold infT;rw[List.getElem?_map,List.getElem?_range hj];rfl
theorem infT_zero (ha:t.At p 0):infT p t 0=List.replicate t.size ini:=by
 refine List.ext_getElem? fun j=>?_
 rcases Nat.lt_or_ge j t.size with h|h
 ·rw[infT_get h,List.getElem?_replicate,if_pos h]
  unfold infAt;rw[if_neg (Nat.not_lt_zero _)]
  rcases ctx_cases ha h with ⟨_,h2⟩|⟨m,_,h3,_⟩
  ·rw[h2];split<;>rfl
  ·rw[h3,if_neg (by omega)]
 ·rw[List.getElem?_eq_none (by rw[infT_len];exact h),List.getElem?_eq_none (by simpa using h)]
theorem infT_end:infT p t t.size=infL p t:=by
 refine List.ext_getElem? fun j=>?_
 rcases Nat.lt_or_ge j t.size with h|h
 ·rw[infT_get h]
  unfold infL;rw[List.getElem?_map,List.getElem?_range h];unfold infAt;rw[if_pos h];rfl
 ·rw[List.getElem?_eq_none (by rw[infT_len];exact h),List.getElem?_eq_none (by simpa [infL] using h)]
theorem infT_at (ha:t.At p 0) {i:Nat} (hi:i<t.size):(infT p t i)[i]? =some (ctxT t i):=by
 rw[infT_get hi];unfold infAt;rw[if_neg (Nat.lt_irrefl _),if_pos (ctx_pa_lt ha hi)]
theorem infT_step (ha:t.At p 0) {i:Nat} (hi:i<t.size):setK ((infT p t i).set i (ownT p t i)) ((t.kid 0 i).starts (i+1)) (innI (p.getD i dN) (nameF (t.kid 0 i)) i (ctxT t i))=infT p t (i+1):=by
 refine List.ext_getElem? fun j=>?_
 rw[setK_get,List.length_set,infT_len,List.getElem?_set,infT_len]
 rcases Nat.lt_or_ge j t.size with h|h
 ·rw[infT_get h,infT_get h]
  by_cases hk:j∈(t.kid 0 i).starts (i+1)
  ·obtain⟨k1,_,k2⟩:=ctx_kid ha hi hk
   rw[if_pos ⟨hk,h⟩];have hp:=(ctx_pa_iff ha hi h).2 hk;unfold infAt;rw[if_neg (by omega),if_pos (by omega),k2]
  ·rw[if_neg (fun q=>hk q.1)]
   by_cases e:i=j
   ·subst e
    rw[if_pos rfl,if_pos h];unfold infAt;rw[if_pos (Nat.lt_succ_self _)]
   ·rw[if_neg e]
    have hne: ¬(ctxT t j).pa=(i:Int):=fun q=>hk ((ctx_pa_iff ha hi h).1 q)
    unfold infAt;by_cases h1:j<i
    ·rw[if_pos h1,if_pos (by omega)]
    ·rw[if_neg h1,if_neg (show ¬j<i+1 by omega)]
     by_cases h2:(ctxT t j).pa<(i:Int)
     ·rw[if_pos h2,if_pos (show (ctxT t j).pa<((i+1:Nat):Int) by omega)]
     ·rw[if_neg h2,if_neg (show ¬(ctxT t j).pa<((i+1:Nat):Int) by omega)]
 ·rw[if_neg (fun q=>by omega),if_neg (by omega),List.getElem?_eq_none (by rw[infT_len];exact h),List.getElem?_eq_none (by rw[infT_len];exact h)]
theorem infL_get {i:Nat} (hi:i<t.size):(infL p t)[i]? =some (ownT p t i):=by
 unfold infL;rw[List.getElem?_map,List.getElem?_range hi];rfl
end
set_option maxRecDepth 100000
set_option maxHeartbeats 1000000
theorem endR_c (p:List Nd) (hp:p.length≤2048) (i e:Nat) (h:Ends p e 1 i):FC Tryz.prog 45 [nodes p,nI i] 0 [] (nI e) 0 []:=by
 refine FC.walk (by kernel_rfl) Tryz.func45 rfl rfl ?_
 repeat'(first|exact y0|refine y1 ?_|refine y2 ?_ ?_|(refine y8 ?_ ?_<;>intro h<;>try exact y6)|refine y3 ?_|refine y7 ?_ ?_|refine y4 ?_|(refine y9 ?_ ?_<;>intro h)|exact y5|fail)
 refine Ex.inv (σ:=Nat×Nat) (fun x=>[(1,nI x.2),(5,nI x.1)]) (fun x=>[]) (fun x=>Ends p e x.1 x.2) (fun x=>p.length-x.2+(if x.1=0 then 0 else 1)) (1,i) rfl (fun _=>rfl) h ⟨VLe.refl _,VLe.refl _,trivial⟩ trivial ?_;rintro⟨n,j⟩ hE;simp only at hE ⊢
 cases hE with
 |done=>
  repeat'(first|exact y0|refine y1 ?_|refine y2 ?_ ?_|(refine y8 ?_ ?_<;>intro h<;>try exact y6)|refine Fin.int (.inl rfl) rfl ?_|refine y3 ?_|refine y7 ?_ ?_|refine y4 ?_|(refine y9 ?_ ?_<;>intro h)|exact y5|fail)
  all_goals rfl
 | @step n1 _ hlt k hk r=>
   obtain⟨l1,l2⟩:=r.le;have l3:=l2 (by omega)
   repeat'(first|exact y0|refine y1 ?_|refine y2 ?_ ?_|(refine y8 ?_ ?_<;>intro h<;>try exact y6)|refine y3 ?_|refine y7 ?_ ?_|refine y4 ?_|(refine y9 ?_ ?_<;>intro h)|exact y5|fail)
   all_goals try first
    |exact i64_in (by omega) (by omega)
   refine LoopR.same (n1+k,j+1) r ?_ rfl ⟨VLe.of_eq (congrArg nI ?_),VLe.of_eq (congrArg nI ?_),trivial⟩ trivial rfl rfl (by decide)
   ·simp only
    rw[if_neg (Nat.succ_ne_zero n1)]
    split<;>omega
   ·push_cast;rfl
   ·push_cast;omega
theorem int_pure {a j:Nat} {x:S} (h:[S.int .i64 ((a:Nat):Int)][j]? =some x):pureS x=true:=by
 cases j with
 |zero=>cases h;rfl
 |succ j=>simp at h
abbrev inB (i:Nat) (D:List Nat):Option Bl:=opB 3 (i+1) 1 (D.flatMap fun j=>[S.int .i64 ((j:Nat):Int)])
theorem in_len (D:List Nat):(D.flatMap fun j=>[S.int .i64 ((j:Nat):Int)]).length=D.length:=by induction D with
 |nil=>rfl
 |cons a D ih=>rw[List.flatMap_cons,List.length_append,ih];simp;omega
theorem kidsR_c (p:List Nd) (hp:p.length≤2048) (i f:Nat) (hi:i<p.length) (cs:List Nat) (hk:(p.getD i dN).kids=(cs.length:Nat)) (hc:Chain p f (i+1) cs) (hl:cs.length≤2048):
 FC Tryz.prog 81 [nodes p,nI i] 0 [] (.s (intsF cs)) 0 []:=by
 have hsz:(Tryz.prog.types[3]).size=1:=by kernel_rfl
 have hby:(Tryz.prog.types[3]).bytes=8:=by kernel_rfl
 refine FC.walk (by kernel_rfl) Tryz.func81 rfl rfl ?_
 repeat'(first|exact y0|refine y1 ?_|refine y2 ?_ ?_|(refine y8 ?_ ?_<;>intro h<;>try exact y6)|refine y3 ?_|refine y7 ?_ ?_|refine y4 ?_|(refine y9 ?_ ?_<;>intro h)|exact y5|fail)
 refine Ex.set 5 (.s (.row 0 1 0)) (VLe.s SLe.nilrow) rfl (Ex.upN (n':=2) (by omega) ?_);refine Ex.inv (σ:=List Nat×Nat×List Nat) (fun x=>[(5,.s (.row 0 1 x.1.length)),(6,nI x.2.1),(7,nI x.1.length)]) (fun x=>[(0,inB 0 x.1)]) (fun x=>x.1++x.2.2=cs∧Chain p f x.2.1 x.2.2) (fun x=>x.2.2.length) ([],i+1,cs) rfl (fun _=>rfl) ⟨rfl,hc⟩ ⟨VLe.refl _,VLe.of_eq (congrArg nI (by push_cast;rfl)),VLe.refl _,trivial⟩ trivial ?_;rintro⟨D,j,rest⟩ ⟨h1,h2⟩;simp only at h1 h2 ⊢
 cases h2 with
 |nil=>
  rw[List.append_nil] at h1;subst h1
  repeat'(first|exact y0|refine y1 ?_|refine y2 ?_ ?_|(refine y8 ?_ ?_<;>intro h<;>try exact y6)|refine Ex.fzR 4 (fun j=>[S.int .i64 ((j:Nat):Int)]) 1 0 D rfl rfl (fun _=>rfl) (fun a j x h=>int_pure h) (by decide) rfl rfl ?_|refine Fin.le (.inl rfl) rfl (VLe.refl _) rfl|refine y3 ?_|refine y7 ?_ ?_|refine y4 ?_|(refine y9 ?_ ?_<;>intro h)|exact y5|fail)
 | @cons _ e rest he r=>
   have hlen:D.length+(rest.length+1)=cs.length:=by rw[←h1];simp
   have hend:=endR_c p hp j e he
   repeat'(first|exact y0|refine y1 ?_|refine y2 ?_ ?_|(refine y8 ?_ ?_<;>intro h<;>try exact y6)|(refine wC ?_;first|refine wF 45 (pu hend ?_))|refine RegX.apr (i:=0) (g:=1) (m:=D.length) (w:=1) (cs:=D.flatMap fun j=>[S.int .i64 ((j:Nat):Int)]) (foot:=[2]) (k:=1) (add:=[S.int .i64 (j:Int)]) rfl rfl (by rw[in_len];omega) rfl rfl rfl rfl rfl rfl rfl hsz (by decide) rfl ⟨Nat.le_refl _,rfl⟩ (by decide) (by simp) rfl (by rw[hby];omega) (by omega) rfl ?_|refine y3 ?_|refine y7 ?_ ?_|refine y4 ?_|(refine y9 ?_ ?_<;>intro h)|exact y5|fail)
   all_goals try first
    |exact i64_in (by push_cast;omega) (by push_cast;omega)
    |omega
   refine LoopR.move (D++[j],e,rest) ⟨by simpa using h1,r⟩ (by simp only[List.length_cons];omega) [3,4] rfl ?_ ?_ ?_
   ·repeat' (first|exact VLe.refl _|exact VLe.any _|exact True.intro|exact VLe.of_eq (congrArg nI (by simp))|(refine VLe.of_eq (congrArg V.s (?_:S.row 3 4 _=S.row 3 4 _));simp;done)|refine⟨?_,?_⟩)
   ·refine MemP.op ?_ trivial
    rw[List.flatMap_append];rfl
   ·unfold inB;generalize List.flatMap _ _=cg;cases cg<;>rfl
end Go.Proofs.YtphdhedhhlfepaaGreatDoor
namespace Go.Proofs.YtphdhedhhlfepaaGreatDoor
namespace Ab
open Go
structure Hold (p:Prop):Prop where
 k:p
end Ab
end Go.Proofs.YtphdhedhhlfepaaGreatDoor
