import Derived.Test.YtbokilgdefkmiaaGreatDoorCzB36
import Derived.Test.YtbokilgdefkmiaaGreatDoorCzB37
import Derived.Test.YtbokilgdefkmiaaGreatDoorCzB30
import Derived.WalkKit
import Derived.ProofKit
import Derived.OpenShut
import Derived.ShutString
import Derived.ChangeOld
import Derived.Below
import Derived.Lib.SmallJoins
import Derived.Handed
import Derived.Lay
import Derived.LaidOnce
import Derived.Stop.Joined
import Derived.Deep.Slices
import Derived.Test.YtbokilgdefkmiaaGreatDoorTie
set_option linter.unusedSimpArgs false
set_option linter.unusedVariables false
namespace Go.Proofs.YtbokilgdefkmiaaGreatDoor
open Go Ab
set_option maxRecDepth 100000
set_option maxHeartbeats 2000000
def inF (R:Cd):V:=.s (.frz (fun k=>insC (R.getD k dI)) 3 R.length)
theorem in_ext {x y:Ins} (h:x.op=y.op∧x.int=y.int∧x.str=y.str):x=y:=by
 obtain⟨a,b,c⟩:=x;obtain⟨a',b',c'⟩:=y;simp only at h;obtain⟨rfl,rfl,rfl⟩:=h;rfl
theorem ext_all2 {α:Type} {a b:List α} {d:α} {j:Nat} (h:∀ i,i<j→a.getD i d=b.getD i d) (he:a.getD j d=b.getD j d):∀ i,i<j+1→a.getD i d=b.getD i d:=fun i hi=>by
 rcases Nat.lt_or_ge i j with h1|h1
 ·exact h i h1
 ·rw[show i=j by omega];exact he
theorem eqI_c (a b:Cd) {D:Decidable (a=b)} (hb:a.length≤1000000000000):FC Tryz.prog 18 [inF a,inF b] 0 [] (bV (decide (a=b))) 0 []:=by
 unfold inF;refine FC.walk (by kernel_rfl) Tryz.func18 rfl rfl ?_;by_cases hl:a.length=b.length
 ·
  repeat'(first|exact y0|refine y1 ?_|refine y2 ?_ ?_|(refine y8 ?_ ?_<;>intro h<;>try exact y6)|refine Fin.bool (.inl rfl) rfl ?_|refine y3 ?_|refine y7 ?_ ?_|refine y4 ?_|(refine y9 ?_ ?_<;>intro h)|exact y5|fail)
  refine Ex.inv (σ:=Nat) (fun j=>[(5,nI j)]) (fun _=>[]) (fun j=>j≤a.length∧∀ i,i<j→a.getD i dI=b.getD i dI) (fun j=>a.length-j) 0 rfl (fun _=>rfl) ⟨Nat.zero_le _,fun i hi=>by omega⟩ ⟨VLe.refl _,trivial⟩ trivial ?_;rintro j ⟨hj,hI⟩;by_cases hlt:j<a.length
  ·by_cases he:a.getD j dI=b.getD j dI
   ·
    repeat'(first|exact y0|refine y1 ?_|refine y2 ?_ ?_|(refine y8 ?_ ?_<;>intro h<;>try exact y6)|refine y3 ?_|refine y7 ?_ ?_|refine y4 ?_|(refine y9 ?_ ?_<;>intro h)|exact y5|fail)
    refine RegX.atCmp (CmpG.go rfl rfl ⟨⟨by kernel_rfl,by kernel_rfl⟩,trivial⟩ (BrG.any (fun h=>?_) (fun h=>?_)))
    ·exfalso;rw[he] at h;simp at h
    repeat'(first|exact y0|refine y1 ?_|refine y2 ?_ ?_|(refine y8 ?_ ?_<;>intro h<;>try exact y6)|refine y3 ?_|refine y7 ?_ ?_|refine y4 ?_|(refine y9 ?_ ?_<;>intro h)|exact y5|fail)
    all_goals try first
     |exact i64_in (by omega) (by omega)
    refine LoopR.same (j+1) ⟨by omega,ext_all2 hI he⟩ (by omega) rfl ⟨VLe.refl _,trivial⟩ trivial rfl rfl (by decide)
   ·
    repeat'(first|exact y0|refine y1 ?_|refine y2 ?_ ?_|(refine y8 ?_ ?_<;>intro h<;>try exact y6)|refine y3 ?_|refine y7 ?_ ?_|refine y4 ?_|(refine y9 ?_ ?_<;>intro h)|exact y5|fail)
    refine RegX.atCmp (CmpG.go rfl rfl ⟨⟨by kernel_rfl,by kernel_rfl⟩,trivial⟩ (BrG.any (fun h=>?_) (fun h=>?_)))
    ·
     repeat'(first|exact y0|refine y1 ?_|refine y2 ?_ ?_|(refine y8 ?_ ?_<;>intro h<;>try exact y6)|refine Fin.bool (.inl rfl) rfl ?_|refine y3 ?_|refine y7 ?_ ?_|refine y4 ?_|(refine y9 ?_ ?_<;>intro h)|exact y5|fail)
     symm;exact decide_eq_false fun e=>he (by rw[e])
    ·exfalso
     simp only[Bool.not_eq_false',Bool.and_eq_true,beq_iff_eq,decide_eq_true_eq,Bool.and_true] at h;exact he (in_ext (by simpa using h))
  ·
   repeat'(first|exact y0|refine y1 ?_|refine y2 ?_ ?_|(refine y8 ?_ ?_<;>intro h<;>try exact y6)|refine Fin.bool (.inl rfl) rfl ?_|refine y3 ?_|refine y7 ?_ ?_|refine y4 ?_|(refine y9 ?_ ?_<;>intro h)|exact y5|fail)
   symm;exact decide_eq_true (list_ext hl fun i hi=>hI i (by omega))
 ·
  repeat'(first|exact y0|refine y1 ?_|refine y2 ?_ ?_|(refine y8 ?_ ?_<;>intro h<;>try exact y6)|refine Fin.bool (.inl rfl) rfl ?_|refine y3 ?_|refine y7 ?_ ?_|refine y4 ?_|(refine y9 ?_ ?_<;>intro h)|exact y5|fail)
  all_goals (symm;exact decide_eq_false fun e=>hl (by rw[e]))
set_option maxRecDepth 100000
set_option maxHeartbeats 2000000
theorem At_eq1 {p:List Nd}:∀ {t t':Fo} {i:Nat},t.At p i→t'.At p i→t.cnt=t'.cnt→t=t'
 | .nil,.nil,_,_,_,_=>rfl
 | .nil,.cons _ _ _,_,_,_,h=>by simp[Fo.cnt] at h
 | .cons _ _ _,.nil,_,_,_,h=>by simp[Fo.cnt] at h
 | .cons x k n,.cons x' k' n',i,h1,h2,h=>by
   obtain⟨a1,a2,a3,a4⟩:=h1;obtain⟨b1,b2,b3,b4⟩:=h2;rw[a1] at b1;cases b1;have hk:=At_eq1 a3 b3 (by omega);subst hk;have hn:=At_eq1 a4 b4 (by simp only[Fo.cnt] at h;omega);subst hn;rfl
theorem At_eq {p:List Nd}:∀ {t t':Fo} {i:Nat},t.At p i→t'.At p i→t.size=t'.size→t=t'
 | .nil,.nil,_,_,_,_=>rfl
 | .nil,.cons _ _ _,_,_,_,h=>by simp only[Fo.size] at h;omega
 | .cons _ _ _,.nil,_,_,_,h=>by simp only[Fo.size] at h;omega
 | .cons x k n,.cons x' k' n',i,h1,h2,h=>by
   obtain⟨a1,a2,a3,a4⟩:=h1;obtain⟨b1,b2,b3,b4⟩:=h2;rw[a1] at b1;cases b1;have hk:=At_eq1 a3 b3 (by omega);subst hk;have hn:=At_eq a4 b4 (by simp only[Fo.size] at h;omega);subst hn;rfl
def awB:Fo:=.cons ⟨33,0,[],1⟩ (.cons ⟨60,0,[],2⟩ (.cons ⟨6,0,[],0⟩ .nil (.cons ⟨1,1,[],0⟩ .nil .nil)) .nil) .nil
def awT:Fo:=(.cons ⟨14,0,[],5⟩ (.cons ⟨3,0,[77],0⟩ .nil (.cons ⟨1,0,[],0⟩ .nil (.cons ⟨1,0,[],0⟩ .nil (.cons ⟨1,0,[],0⟩ .nil (.cons ⟨4,0,[],1⟩ awB .nil))))) .nil)
def awC:Cd:=[⟨7,0,[]⟩,⟨1,1,[]⟩,⟨19,60,[]⟩,⟨28,1,[]⟩,⟨28,0,[]⟩]
theorem aw_at:awT.At awP 0:=by
 unfold awT awB
 repeat' (first|exact trivial|exact rfl|refine⟨?_,?_⟩)
theorem aw_valid:validN awP=true:=by decide+kernel
theorem aw_G:rowG awP (anS awP awT).F (anS awP awT).S awT awP.length 0 (anS awP awT).G=[]:=by decide+kernel
theorem aw_C:metC awB=awC:=by kernel_rfl
theorem aw_D:depB awC (2*awC.length+2) (A0 awC.length) [0] 0=(2,true):=by decide+kernel
theorem aw_srt:srtD []=[]:=by simp[srtD]
theorem awake_c:FC Tryz.prog 7 [] 0 [] (bV true) 0 []:=by
 have hw:wfN awP:=by
  intro x hx
  have:∀ x∈awP,x.str.length≤10:=by decide
  have:=this x hx;omega
 have hI:wfI awP:=by
  have:∀ x∈awP,0≤x.int:=by decide
  exact this
 obtain⟨h1,t,ha,hv,hd,hs⟩:=valid_forest aw_valid;have ht:t=awT:=At_eq ha aw_at (by rw[hs];rfl);subst ht;have hck:=check_yes awP hw hI aw_valid h1 awT ha hv hs
 have h6:=(c6_nok (t:=awT) hI (F:=(anS awP awT).F) (T:=(anS awP awT).S) (G:=(anS awP awT).G) (by rw[aw_G];intro d hd;cases hd))
 have hO:=h6.1;rw[aw_G,aw_srt] at hck;obtain⟨b,g1,g2⟩:=met_parts ha hv (i:=0) (by decide) rfl;rw[show lastBl (awT.kid 0 0)=awB from rfl] at g1 g2;have hlk:lpK 0 awB:=met_lp g2 (h6.2 0 (by decide) rfl);have hnn:NN (metC awB):=met_nn (fo_nn (wfI_get hI) _ _ _ g1.2.2.1 g2);obtain⟨d,hd0,hdp⟩:=met_depth hI (t:=awT) (cs:=[]) awB (by decide) hnn;have hlow:=lower_yes awP h1 (by decide) [] (by decide) hck (fun d hd=>by cases hd) hO awT ha hv hs (endsL_ok ha hv hs) 0 (by decide) rfl b awB g1 g2 hlk hnn d hdp;rw[aw_C] at hlow hdp hd0;rw[aw_D] at hd0;subst hd0;rw[show lowV awC (2,true)=(awC,0) from rfl] at hlow;have heq:=eqI_c awC awC (D:=.isTrue rfl) (by decide);have heq:FC Tryz.prog 18 [inF awC,inF awC] 0 [] (bV true) 0 []:=heq;have hpa:=parse_c;have hcc:ccB 0 awC=some {cells:=awC.flatMap insC,ty:=40,more:=true,sym:=true,flat:=true,gh:=some (1,3)}:=rfl;simp only at hlow;rw[hcc] at hlow;refine FC.walk (by kernel_rfl) Tryz.func7 rfl rfl ?_
 repeat'(first|refine Ex.fzAt 4 4 (fun k=>insC (awC.getD k dI)) 3 rfl rfl rfl rfl (fun _ _=>rfl) (fun k j x hk hx=>ins_cell hk hx) rfl rfl ?_|exact y0|refine y1 ?_|refine y2 ?_ ?_|(refine y8 ?_ ?_<;>intro h<;>try exact y6)|(refine wC ?_;first|refine wF 20 (pu hpa ?_)|(refine wF 12 ?_;refine CallG.mo [] hlow rfl rfl (by rfl) rfl rfl ⟨VLe.refl _,VLe.refl _,trivial⟩ trivial rfl rfl (wr:=[(0,some {cells:=awC.flatMap insC,ty:=40,more:=true,sym:=true,flat:=true,gh:=some (1,3)})]) (by rfl) ?_)|(refine wF 13 ?_;refine CallG.mv [0,1] 0 (bl1:=dpB awC) hdp rfl rfl ⟨VLe.s (SLe.rowsla (by decide)),trivial⟩ rfl rfl (fun φ w b h=>BlAt.weaken h true (fun _=>rfl)) rfl ⟨⟨rfl,_,rfl,rfl,fun h=>h⟩,trivial⟩ rfl rfl rfl rfl ?_)|(refine wF 18 ?_;refine CallG.pz 31 (fun k=>insC (awC.getD k dI)) 3 heq rfl rfl rfl rfl (fun _ _=>rfl) (fun k j x hk hx=>ins_cell hk hx) rfl ⟨VLe.refl _,VLe.refl _,trivial⟩ rfl rfl rfl ?_))|refine y3 ?_|refine y7 ?_ ?_|refine y4 ?_|(refine y9 ?_ ?_<;>intro h)|exact y5|fail)
 exact Fin.bool (.inl rfl) rfl rfl
end Go.Proofs.YtbokilgdefkmiaaGreatDoor
namespace Go.Proofs.YtbokilgdefkmiaaGreatDoor
open Go Ab
open Go.ChangeShapes Go.WideShapes Go.ChangeAt Go.RowKit
set_option maxRecDepth 100000
theorem own:ownKnob Tryz.prog.godebug=none:=by kernel_rfl
theorem laidOut:laidOutB Tryz.prog=true:=by kernel_rfl
theorem handed_shaped {H:Type} {enc:TypeId×Value→H} {a:Assume} {C:Checked} {os:Os} {f:FuncId} {fn:Func} {s:ChangeSpec} {conds:List PathCond} {apart fresh handsOn again:Bool} {X:World→Array Value→Prop}
 (hX:∀ (w w':World) (args:Array Value),w.heap=w'.heap→X w args→X w' args)
 (own:ownKnob C.prog.godebug=none) (started:os.Started) (noInit:C.prog.inits.idxOf? f=none) (hfn:C.prog.funcs[f]? =some fn)
 (witness:∃ (w:World) (tape:Tape) (i:Input),w.os=os∧(w.forCall tape i).Shaped C.prog∧i.vars=[]∧Input.okWide C.prog (w.forCall tape i) .any w.heap.size f i∧
   ((s.pre enc C.prog fn conds apart (w.forCall tape i).memory i.args∧X (w.forCall tape i).memory i.args)∧sizedMet enc C.prog fn (OpenSpec.ofChange s) apart (w.forCall tape i).memory i.args)∧a.holds C.prog (lone (Frame.enter C.prog f i.args .normal) [] (w.forCall tape i)))
 (contract:∀ (W:World) (base:Nat) (args:Array Value) (ds gs:List (DataW H)) (before:List MemPlace),W.ShapedOpen C.prog→
   (∀ (j:Nat) t v,fn.params[j]? =some t→args[j]? =some v→Value.okWide C.prog W .any base t v)→
   DataW.Whole enc C.prog fn.params.toList s.vars apart W args.toList ds gs before→
   conds.all (PathCond.test C.prog ⟨fn.params.toList,ds,s.plain.varTypes C.prog,gs⟩)=true→
   (DataW.weightsEach C.prog (fn.params.toList++s.plain.varTypes C.prog) (ds++gs)).all (·≤reachBytes)=true→X W args→
   a.holds C.prog (lone (Frame.enter C.prog f args .normal) [] W)→
   Calls C.prog f args W fun e W'=>∃ v,e=.returned v∧s.post enc C.prog fn apart fresh handsOn again W args v W'):
 ReturnsInHanded a C os f .any (fun w args=>(s.pre enc C.prog fn conds apart w args∧X w args)∧sizedMet enc C.prog fn (OpenSpec.ofChange s) apart w args) (s.post enc C.prog fn apart fresh handsOn again):=by
 refine returnsInHanded_of_calls own started noInit witness ?_;intro w tape i _ hsh _ hok hpre hholds;obtain⟨_,_,_,fn',hfn',_,_,_,_,hval⟩:=hok;have e:fn'=fn:=Option.some.inj (hfn'.symm.trans hfn);subst e;obtain⟨⟨⟨ds,gs,before,hw,hc⟩,hx⟩,hz⟩:=hpre;have hw':=DataW.Whole.of_heap (w':=w.forCall tape i) (by rfl) hw
 refine (contract (w.forCall tape i) w.heap.size i.args ds gs before hsh hval hw' hc (hz.weights hw) (hX _ _ _ (by rfl) hx) hholds).mono fun e W' ⟨v,he,hp⟩=>?_
 subst he;exact ChangeSpec.post_blind hp
theorem SC.law {P:Program} {f:FuncId} {args:List V} {n:Nat} {L:Hp} {n':Nat} {L':Hp} (h:SC P f args n L (.s (.bool true)) n' L') (hro:∀ i bl,lk L i=some bl→bl.ro=true) {φ:Ph} {xs:List Value} {w:World}
 (h1:All2 (Vr φ) args xs) (h2:Ab.Good φ L w) (h3:∀ i,n≤i→φ i=none):Calls P f xs.toArray w fun e w'=>e=.returned (.bool true)∧Below w.heap.size w w':=by
 refine Calls.mono (h φ xs w h1 h2 h3) ?_;rintro e w' ⟨φ',x,rfl,hv,_,_,st,_⟩;have hx:x=.bool true:=hv;refine⟨by rw[hx],st.os,st.tape,st.output,st.size,fun k hk=>st.keep k hk ?_⟩;rintro⟨i,bl,c,hl,_,_,hr⟩;rw[hro i bl hl] at hr;cases hr
theorem str_val (s:ByteArray):Value.string s=.string ⟨s.data.toList.toArray⟩:=by cases s;simp
def unDs {H:Type}:List (DataW H)→List S
 |[]=>[]
 | .agg [.lit (.string a),.lit (.string b)]::t=> .str a::.str b::unDs t
 |_::t=>unDs t
theorem cellsForm:Tryz.prog.cellsOf 190=2:=by kernel_rfl
theorem cells9:Tryz.prog.cellsOf 9=1:=by kernel_rfl
theorem pair_open {H:Type} {enc:TypeId×Value→H} {w:World} {base:Nat} {spare:Nat→Bool} {held:Bool} {fuel:Nat} {cs:List Value} {x:DataW H×List MemPlace} (h:DataW.trod enc Tryz.prog w base spare held fuel 190 cs=some x):
 ∃ a b:List UInt8,cs=[.string ⟨a.toArray⟩,.string ⟨b.toArray⟩]∧x.1=.agg [.lit (.string a),.lit (.string b)]:=by
 obtain⟨xs,m,rfl,rfl,hlen,hn,hf⟩:=DataW.trod_struct Tryz.underlying190 h;rw[cellsForm] at hlen
 match cs,hlen with
 |[c0,c1],_=>
  have f0:=hf 0 _ rfl;have f1:=hf 1 _ rfl;change DataW.trod enc Tryz.prog w base spare held m 9 (([c0,c1].drop 0).take (Tryz.prog.cellsOf 9))=_ at f0;change DataW.trod enc Tryz.prog w base spare held m 9 (([c0,c1].drop 1).take (Tryz.prog.cellsOf 9))=_ at f1;rw[cells9] at f0 f1;have hn:xs.length=2:=hn
  match xs,hn with
  |[x0,x1],_=>
   obtain⟨s0,e0,e0',_⟩:=DataW.trod_string Tryz.underlying9 f0;obtain⟨s1,e1,e1',_⟩:=DataW.trod_string Tryz.underlying9 f1;simp at e0 e1;subst e0;subst e1;refine⟨s0.data.toList,s1.data.toList,by rw[←str_val,←str_val],?_⟩;simp[e0',e1']
theorem pairs_open {H:Type} {enc:TypeId×Value→H} {w:World} {base:Nat} {spare:Nat→Bool} {held:Bool} {m:Nat} {φ:Ph}:∀ (xs:List (DataW H×List MemPlace)) (cs:List Value),cs.length=xs.length*2→(∀ i,i<xs.length→DataW.trod enc Tryz.prog w base spare held m 190 ((cs.drop (i*2)).take 2)=xs[i]?)→
 All2 (Sr φ) (unDs (xs.map (·.1))) cs
 |[],[],_,_=>trivial
 |[],_::_,h,_=>by simp at h
 |x::xs,[],h,_=>by simp at h
 |x::xs,[_],h,_=>by simp at h;omega
 |x::xs,c0::c1::cs,h,hf=>by
  have h0:=hf 0 (by simp);simp at h0;obtain⟨a,b,e,ex⟩:=pair_open h0;simp only[List.cons.injEq,and_true] at e;obtain⟨rfl,rfl⟩:=e
  have ih:=pairs_open (φ:=φ) xs cs (by simp at h;omega) (fun i hi=>by
   have:=hf (i+1) (by simp;omega);rw[show (i+1)*2=(i*2)+1+1 by omega] at this
   simpa using this)
  simp only[List.map_cons,ex,unDs];exact⟨rfl,rfl,ih⟩
theorem table_open {H:Type} {enc:TypeId×Value→H} {w:World} {base:Nat} {spare:Nat→Bool} {held:Bool} {fuel:Nat} {t N:Nat} {cs:List Value} {d:DataW H} {p:List MemPlace} (ht:Tryz.prog.underlying t=some (.array N 190)) (hc:Tryz.prog.cellsOf t=N*2) (h:DataW.trod enc Tryz.prog w base spare held fuel t cs=some (d,p)) (φ:Ph):
 ∃ ds,d=.agg ds∧All2 (Sr φ) (unDs ds) cs:=by
 obtain⟨xs,m,rfl,hx,hlen,hn,hf⟩:=DataW.trod_array ht h;simp only[Prod.mk.injEq] at hx;refine⟨_,hx.1,pairs_open (enc:=enc) (w:=w) (base:=base) (spare:=spare) (held:=held) (m:=m) xs cs (by rw[hlen,hc,hn]) (fun i hi=>?_)⟩;have:=hf i (by omega)
 rwa [cellsForm] at this
def zW (W:World):Nat→Option (List Value):=fun b=>match W.heap[b]? with|some (.cells a _ _)=>some a.toList|_=>none
def phW (W:World):Ph:=⟨fun _=>none,zW W⟩
theorem phW_good {W:World} (h:GzOK (zW W)):Ab.Good (phW W) [] W:=by
 refine⟨fun i bl hi=>(by cases hi),fun i j bl bl' b b' hi=>(by cases hi),fun b l hb=>⟨?_,fun hw=>?_⟩,h⟩
 ·have hb:zW W b=some l:=hb
  unfold zW at hb;split at hb
  ·rename_i a ty fr he;cases hb;exact⟨ty,fr,by simpa using he⟩
  ·cases hb
 ·obtain⟨i,bl,c,hi,_⟩:=hw;cases hi
theorem no_ro:∀ i bl,lk ([]:Hp) i=some bl→bl.ro=true:=fun i bl h=>by cases h
theorem cell_z {W:World} {b o:Nat} {v:Value} (h:W.cell? ⟨b,o,none⟩=some v):∃ vs,zW W b=some vs∧vs[o]? =some v:=by
 unfold World.cell? at h;split at h
 ·rename_i arr ty fr hb
  refine⟨arr.toList,by unfold zW;rw[hb],?_⟩
  simpa using h
 ·cases h
instance:Inhabited Nd:=⟨dN⟩
theorem addr_at (b off k:Nat):(⟨b,off,none⟩:Addr).add k=⟨b,off+k,none⟩:=by
 unfold Addr.add;split
 ·rename_i h;subst h;rfl
 ·rfl
theorem cellsI:Tryz.prog.cellsOf 3=1:=by kernel_rfl
theorem bytesI:Tryz.prog.bytesOf 3=8:=by kernel_rfl
section
variable {H:Type} {enc:TypeId×Value→H} {W:World} {base:Nat} {held:Bool}
theorem open_ints {r:Reach} {b0:Nat} {v:Value} {d:DataW H} {p:List MemPlace} (hv:Value.okWide Tryz.prog W r b0 22 v) (h:DataW.Trod enc Tryz.prog W base (fun _=>true) held 22 v d p) (hw:(d.weights Tryz.prog 22).all (·≤reachBytes)=true):
 ∃ l:List Int,Vr (phW W) (.s (chF l)) v∧l.length≤20000000000000:=by
 obtain⟨a0,len0,cap0,rfl⟩:=okWide_slice Tryz.underlying22 hv;obtain⟨fuel,hf⟩:=h
 rcases Go.Deep.open_slice1 Tryz.underlying22 cellsI hf with ⟨hcs,_⟩|⟨a,len,cap,m,n,V,D,Pl,hcs,_,hl,_,hm,hd,hx⟩
 ·simp[Value.cells] at hcs
  obtain⟨rfl,rfl,rfl⟩:=hcs;exact⟨[],.nil _ _ _ _ (fun _=>rfl),by simp⟩
 ·simp[Value.cells] at hcs
  obtain⟨rfl,rfl,rfl⟩:=hcs;simp only[if_true] at hm;subst hm
  have hcap:m≤20000000000000:=by
   have e:d=.slice ((List.range len0).map D) ((List.range (m-len0)).map fun j=>D (len0+j)):=congrArg Prod.fst hd;rw[e] at hw;unfold DataW.weights at hw;rw[Tryz.underlying22] at hw;simp only[List.all_cons,Bool.and_eq_true,decide_eq_true_eq,List.length_map,List.length_range,bytesI] at hw;have:=hw.1;unfold reachBytes at this;omega
  have each:∀ i,i<m→∃ z:Int,W.cell? (a.add i)=some (.int .i64 z):=by
   intro i hi;obtain⟨h1,h2⟩:=hx i hi;obtain⟨z,e1,_,w1⟩:=DataW.trod_int Tryz.underlying3 h2;simp only[List.cons.injEq,and_true] at e1;exact⟨z,by rw[h1,e1]⟩
  obtain⟨f,hfq⟩:=Go.Deep.choose_lt each;refine⟨(List.range len0).map f,?_,by simp;omega⟩;unfold chF;rw[show ((List.range len0).map f).length=len0 by simp];by_cases h0:len0=0
  ·subst h0
   exact .nil _ _ _ _ (fun e=>by cases e)
  obtain⟨b,off,spot⟩:=a
  have hspot:spot=none:=by simpa [Addr.add] using World.cell?_spot (hfq 0 (by omega))
  subst hspot
  have hc:∀ i,i<m→W.cell? ⟨b,off+i,none⟩=some (.int .i64 (f i)):=fun i hi=>by
   have:=hfq i hi
   rwa [addr_at] at this
  obtain⟨vs,hz,_⟩:=cell_z (hc 0 (by omega));refine .frz _ 1 len0 b off m vs hz hl (fun i _=> .int .i64 (f i)) (fun _ _=>rfl) (fun i j x hi hj=>?_) (fun i j x hi hj=>?_)
  ·cases j with
   |succ j=>simp at hj
   |zero=>
    obtain⟨vs',hz',h3⟩:=cell_z (hc i (by omega));rw[hz] at hz';cases hz';rw[Nat.mul_one,Nat.add_zero];exact h3
  ·cases j with
   |succ j=>simp at hj
   |zero=>
    simp only[List.getElem?_cons_zero,Option.some.injEq] at hj;subst hj;rw[show ((List.range len0).map f).getD i 0=f i by rw[List.getD_eq_getElem?_getD,List.getElem?_map,List.getElem?_range hi];rfl];exact .int _ _
end
set_option maxRecDepth 100000
theorem row0:(((begin Tryz.prog (fun _ _=>0) default).world.heap[0]?).bind Obj.row?).map (·.2)=some 208:=by kernel_rfl
theorem gty0:(Tryz.prog.globals[0]?).map (·.type)=some 208:=by kernel_rfl
theorem gcl0:Tryz.prog.cellsOf 208=12*2:=by kernel_rfl
theorem row1:(((begin Tryz.prog (fun _ _=>0) default).world.heap[1]?).bind Obj.row?).map (·.2)=some 209:=by kernel_rfl
theorem gty1:(Tryz.prog.globals[1]?).map (·.type)=some 209:=by kernel_rfl
theorem gcl1:Tryz.prog.cellsOf 209=13*2:=by kernel_rfl
theorem row2:(((begin Tryz.prog (fun _ _=>0) default).world.heap[2]?).bind Obj.row?).map (·.2)=some 210:=by kernel_rfl
theorem gty2:(Tryz.prog.globals[2]?).map (·.type)=some 210:=by kernel_rfl
theorem gcl2:Tryz.prog.cellsOf 210=29*2:=by kernel_rfl
theorem glob_heap {W:World} (hS:W.ShapedOpen Tryz.prog) {g t:Nat} (hg:g<6) (hr:(((begin Tryz.prog (fun _ _=>0) default).world.heap[g]?).bind Obj.row?).map (·.2)=some t):∃ cs,W.heap[g]? =some (.cells cs t (0,0)):=by
 cases hq:((begin Tryz.prog (fun _ _=>0) default).world.heap[g]?).bind Obj.row? with
 |none=>rw[hq] at hr;cases hr
 |some x=>
  obtain⟨z,t'⟩:=x;rw[hq] at hr;simp only[Option.map_some,Option.some.injEq] at hr;subst hr;obtain⟨cs,h1,_⟩:=hS.1 g z t' (Nat.lt_of_lt_of_le hg (by decide+kernel)) hq;exact⟨cs,h1⟩
theorem all_pr {φ:Ph}:∀ {l:List S} {xs:List Value},All2 (Sr φ) l xs→l.all pureS=true→All2 (Pr φ.z) l xs
 |[],[],_,_=>trivial
 |[],_::_,h,_=>h.elim
 |_::_,[],h,_=>h.elim
 |a::l,x::xs,h,hp=>by
  rw[List.all_cons,Bool.and_eq_true] at hp;exact⟨h.1.pr hp.1,all_pr h.2 hp.2⟩
theorem glob_at {W:World} (hS:W.ShapedOpen Tryz.prog) {name:String} {i ty N:Nat} {d:DataW Unit} {ds:List (DataW Unit)} {l:List (String×DataW Unit)} {ps:List MemPlace} {cs0:List S} (hv:DataW.LaidVars Tryz.prog W ((name,d)::l) ps) (hi:i<6)
 (hr:(((begin Tryz.prog (fun _ _=>0) default).world.heap[i]?).bind Obj.row?).map (·.2)=some ty) (hn:Tryz.prog.globalNamed name=some i) (ht:(Tryz.prog.globals[i]?).map (·.type)=some ty) (hu:Tryz.prog.underlying ty=some (.array N 190)) (hc:Tryz.prog.cellsOf ty=N*2)
 (hd:d=.agg ds) (h0:unDs ds=cs0) (hp:cs0.all pureS=true):∃ vs,zW W i=some vs∧All2 (Pr (zW W)) cs0 vs:=by
 obtain⟨g,t,cs,fuel,p,q,h1,h2,h3,h4,_⟩:=hv;rw[hn] at h1;cases h1;rw[ht] at h2;cases h2;obtain⟨cs',h5⟩:=glob_heap hS hi hr
 have:cs=cs':=by
  simp only[World.var?,hn,Option.bind_some,h5,Option.some.injEq] at h3;exact h3.symm
 subst this;obtain⟨ds',e,hall⟩:=table_open hu hc h4 (phW W);rw[hd] at e;cases e;refine⟨cs.toList,by unfold zW;rw[h5],?_⟩;rw[h0] at hall;exact all_pr (φ:=phW W) hall hp
theorem globals_gz {W:World} (hS:W.ShapedOpen Tryz.prog) (hL:laidMet Tryz.prog Rows.lowerCodeIsConsistentRow.laid W):GzOK (zW W):=by
 obtain⟨ps,hv,_⟩:=hL;obtain⟨_,_,_,_,_,q0,_,_,_,_,hv1,_⟩:=hv;have b0:=glob_at hS (ty:=208) (N:=12) (cs0:=(GS 0).getD []) hv1 (by decide) row0 (by kernel_rfl) gty0 Tryz.underlying208 gcl0 rfl (by kernel_rfl) (by kernel_rfl);obtain⟨_,_,_,_,_,q1,_,_,_,_,hv2,_⟩:=hv1;have b1:=glob_at hS (ty:=209) (N:=13) (cs0:=(GS 1).getD []) hv2 (by decide) row1 (by kernel_rfl) gty1 Tryz.underlying209 gcl1 rfl (by kernel_rfl) (by kernel_rfl);obtain⟨_,_,_,_,_,q2,_,_,_,_,hv3,_⟩:=hv2;have b2:=glob_at hS (ty:=210) (N:=29) (cs0:=(GS 2).getD []) hv3 (by decide) row2 (by kernel_rfl) gty2 Tryz.underlying210 gcl2 rfl (by kernel_rfl) (by kernel_rfl);intro g cs hg
 match g,hg with
 |0,hg=>rw[hg] at b0;exact b0
 |1,hg=>rw[hg] at b1;exact b1
 |2,hg=>rw[hg] at b2;exact b2
 |g+3,hg=>cases hg
end Go.Proofs.YtbokilgdefkmiaaGreatDoor
