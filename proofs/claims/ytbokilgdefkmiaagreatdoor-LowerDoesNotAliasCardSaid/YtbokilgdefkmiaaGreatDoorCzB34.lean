import Derived.Test.YtbokilgdefkmiaaGreatDoorCzB30
import Derived.Test.YtbokilgdefkmiaaGreatDoorCzB33
set_option linter.unusedSimpArgs false
set_option linter.unusedVariables false
namespace Go.Proofs.YtbokilgdefkmiaaGreatDoor
open Go Ab
def NN (C:Cd):Prop:=∀ x∈C,0≤x.int
theorem NN.ite {a b:Cd} {p:Prop} [Decidable p] (h1:NN a) (h2:NN b):NN (if p then a else b):=by
 by_cases h:p
 ·rw[if_pos h];exact h1
 ·rw[if_neg h];exact h2
theorem NN.em {D:Cd} (h:NN D) {op n:Int} {s:By} (hn:0≤n):NN (em D op n s):=by
 intro x hx
 rcases List.mem_append.1 hx with hx|hx
 ·exact h x hx
 ·rw[List.mem_singleton] at hx;subst hx;exact hn
theorem NN.pat {D:Cd} (h:NN D) {j:Nat} {z:Int} (hz:0≤z):NN (pat D j z):=by
 intro x hx
 rcases List.mem_or_eq_of_mem_set hx with hx|rfl
 ·exact h x hx
 ·exact hz
def Fo.nn:Fo→Prop
 | .nil=>True
 | .cons x k n=>(0≤x.op∧0≤x.int∧0≤x.kids)∧k.nn∧n.nn
theorem opr_nn {D:Cd} (h:NN D) {op:Int} (ho:0≤op):NN (opr op D):=by
 unfold opr
 repeat' with_reducible refine NN.ite ?_ ?_
 all_goals first
  |exact h.em (by decide)
  |exact h.em ho
theorem hd_nn {k:Fo} (h:k.nn):0≤k.hd.int∧0≤k.hd.kids:=by
 cases k with
 |nil=>exact⟨by decide,by decide⟩
 |cons x k n=>exact⟨h.1.2.1,h.1.2.2⟩
theorem tl_nn {k:Fo} (h:k.nn):k.tl.nn:=by
 cases k with
 |nil=>trivial
 |cons x k n=>exact h.2.2
theorem expE_nn {x:Nd} {k:Fo} {C c0 c1 c2 c5 c6:Cd} (hx:0≤x.op∧0≤x.int∧0≤x.kids) (hk:k.nn) (h:NN C) (h0:NN c0) (h1:NN c1) (h2:NN c2) (h5:NN c5) (h6:NN c6):NN (expE x k C c0 c1 c2 c5 c6):=by
 have g1:=hd_nn hk;have g2:=hd_nn (tl_nn hk);unfold expE
 repeat' with_reducible refine NN.ite ?_ ?_
 all_goals first
  |exact h.em (by decide)
  |exact h.em hx.2.1
  |exact h0.em hx.2.2
  |exact h.em g2.1
  |exact h5.em (by decide)
  |exact h6.em (by omega)
  |exact h1
  |exact h2
  |exact opr_nn h0 hx.1
theorem refE_nn {x:Nd} {C c0 c4:Cd} (hx:0≤x.int) (h:NN C) (h0:NN c0) (h4:NN c4):NN (refE x C c0 c4):=by
 unfold refE
 repeat' with_reducible refine NN.ite ?_ ?_
 all_goals first
  |exact h.em (by decide)
  |exact h.em hx
  |exact h4
  |exact opr_nn h0 (by decide)
theorem typE_nn {x:Nd} {C c0 c4:Cd} (hx:0≤x.int) (h:NN C) (h0:NN c0) (h4:NN c4):NN (typE x C c0 c4):=by
 have hq:NN (if x.op=84 then c4 else opr 76 c0):=NN.ite h4 (opr_nn h0 (by decide));unfold typE;generalize (if x.op=84 then c4 else opr 76 c0)=q at*
 repeat' with_reducible refine NN.ite ?_ ?_
 ·exact h.em (by decide)
 ·exact (h.em hx).em (by decide)
 ·exact (h.em hx).em (by decide)
 ·exact (hq.em (by decide)).em (by decide)
theorem cod_nn:∀ (t:Fo) (m:Nat) (C:Cd),t.nn→NN C→NN (cod m t C):=by
 intro t
 induction t with
 |nil=>intro m C _ h;cases m<;>exact h
 |cons x k n ik im=>
  intro m C ht h;obtain⟨hx,hk,hn⟩:=ht;have hE:=expE_nn (x:=x) (k:=k) hx hk h (ik 0 C hk h) (ik 1 C hk h) (ik 2 C hk h) (ik 5 C hk h) (ik 6 C hk h);rw[cod_cons]
  repeat' with_reducible refine NN.ite ?_ ?_
  all_goals first
   |exact refE_nn hx.2.1 h (ik 0 C hk h) (ik 4 C hk h)
   |exact typE_nn hx.2.1 h (ik 0 C hk h) (ik 4 C hk h)
   |exact im _ _ hn h
   |exact ik 3 C hk h
   |exact im 3 _ hn (NN.ite (h.em (by decide)) hE)
   |exact hE
   |exact im 0 _ hn hE
theorem sto_nn {t:Fo} {C:Cd} (ht:t.nn) (h:NN C):NN (sto t C):=by
 have g:=hd_nn ht;have h1:=cod_nn t 1 C ht h;unfold sto
 repeat' with_reducible refine NN.ite ?_ ?_
 all_goals first
  |exact h.em (by decide)
  |exact h.em g.1
  |exact h1.em (by decide)
theorem pats_nn {z:Int} (hz:0≤z):∀ (B:List Nat) (D:Cd),NN D→NN (B.foldl (fun D j=>pat D j z) D)
 |[],D,h=>h
 |j::B,D,h=>pats_nn hz B _ (h.pat hz)
def NNf (f:Stm):Prop:=∀ lp C B,0≤lp→NN C→NN (f lp C B).1
theorem NN.ite1 {a b:Cd×List Nat} {p:Prop} [Decidable p] (h1:NN a.1) (h2:NN b.1):NN (if p then a else b).1:=by
 by_cases h:p
 ·rw[if_pos h];exact h1
 ·rw[if_neg h];exact h2
theorem stE_nn {x:Nd} {k:Fo} {f1 f3:Stm} (hx:0≤x.op∧0≤x.int∧0≤x.kids) (hk:k.nn) (h1:NNf f1) (h3:NNf f3):NNf (stE x k f1 f3):=by
 intro lp C B hl h;have c4:=cod_nn k 4 C hk h;have c0:=cod_nn k 0 C hk h;have c5:=cod_nn k 5 C hk h;have e1:NN (em (cod 4 k C) 25 0 []):=c4.em (by decide);have hE:=expE_nn (x:=x) (k:=k) hx hk h (cod_nn k 0 C hk h) (cod_nn k 1 C hk h) (cod_nn k 2 C hk h) (cod_nn k 5 C hk h) (cod_nn k 6 C hk h);unfold stE;refine NN.ite1 ?_ (NN.ite1 (NN.ite1 ?_ ?_) (NN.ite1 ?_ ?_))
 ·exact sto_nn (tl_nn hk) c4
 ·exact (h1 lp _ B hl e1).pat (by omega)
 ·exact (h3 lp _ _ hl (((h1 lp _ B hl e1).em (by decide)).pat (by omega))).pat (by omega)
 ·exact pats_nn (by omega) _ _ ((h1 C.length _ _ (by omega) e1).em (by omega))
 ·repeat' with_reducible refine NN.ite1 ?_ ?_
  all_goals first
   |exact h.em (by decide)
   |exact h.em hl
   |exact c0.em hx.2.2
   |exact c4.em (by decide)
   |exact c5.em (by decide)
   |exact hE.em (by decide)
theorem stm_nn:∀ (t:Fo) (m:Nat),t.nn→NNf (stmC m t):=by
 intro t
 induction t with
 |nil=>intro m _ lp C B _ h;cases m<;>exact h
 |cons x k n ik im=>
  intro m ht lp C B hl h;obtain⟨hx,hk,hn⟩:=ht;rw[stmC_cons];refine NN.ite1 (im 2 hn lp C B hl h) (NN.ite1 (ik 0 hk lp C B hl h) (NN.ite1 (im 1 hn lp C B hl h) ?_));exact im 0 hn lp _ _ hl (stE_nn hx hk (ik 1 hk) (ik 3 hk) lp C B hl h)
theorem acc_nn {c op:Int} (h:accB c op=true):0≤op:=by
 unfold accB at h;unfold isExprB isDataB isElemB at h
 repeat' split at h
 all_goals (simp only[Bool.or_eq_true,Bool.and_eq_true,decide_eq_true_eq,Bool.false_eq_true] at h;try omega)
theorem fo_nn {p:List Nd} (hI:∀ i,0≤(p.getD i dN).int):∀ (t:Fo) (i:Nat) (cs:List (Bool×Int)),t.At p i→t.V cs→t.nn
 | .nil,_,_,_,_=>trivial
 | .cons x k n,i,[],_,hv=>by simp[Fo.V] at hv
 | .cons x k n,i,(true,c)::cs,ha,hv=>by
   refine⟨⟨by rw[hv.1.1];decide,by have:=hI i;rw[At.get ha] at this;exact this,by rw[ha.2.1];omega⟩,fo_nn hI k _ _ ha.2.2.1 hv.2.1,fo_nn hI n _ _ ha.2.2.2 hv.2.2⟩
 | .cons x k n,i,(false,c)::cs,ha,hv=>by
   refine⟨⟨acc_nn hv.1.1,by have:=hI i;rw[At.get ha] at this;exact this,by rw[ha.2.1];omega⟩,fo_nn hI k _ _ ha.2.2.1 hv.2.1,fo_nn hI n _ _ ha.2.2.2 hv.2.2⟩
theorem met_nn {t:Fo} (h:t.nn):NN (em (stmC 0 t 0 [] []).1 28 0 []):=(stm_nn t 0 h 0 [] [] (by decide) (fun x hx=>by cases hx)).em (by decide)
set_option maxRecDepth 100000
set_option maxHeartbeats 2000000
def lowV (R:Cd) (d:Int×Bool):Cd×Int:=if d.2=true∧d.1≤64 then (R,0) else ([],11)
theorem Ex.w10 {P:Program} {b:Nat} {env:List V} {R:Post} {ops:Array Oper} {d:Bool} {L:Hp} (p:List Nd) (E:List Nat) (k:Ex P b (.region 10 ops d) env 9 (slL p E [] (.out false)) R)
 (hL:lk L 0=some {cells:=[.frz (fun k=>ndC (p.getD k dN)) 4 p.length,.frz (fun k=>[.int .i64 ((E.getD k 0:Nat):Int)]) 1 E.length,.slc none 0 (some 0),.slc none 0 (some 0)],ty:=72}):Ex P b (.region 10 ops d) env 1 L R:=
 Ex.upN (by decide) (Ex.subF (SubQ.subF (show SubQ L [(0,some (cdB p E 1 0 (.slc none 0 (some 0)))),(1,none)] from ⟨⟨_,hL,rfl,fun _ _ _ h=>BlAt.cells (cs:=[_,_,.row 1 2 0,_]) (show All2 SLe [_,_,_,_] [_,_,_,_] from ⟨fun _ _ h=>h,fun _ _ h=>h,SLe.nilrow,fun _ _ h=>h,trivial⟩) h⟩,trivial⟩)) k)
theorem Fin.rowC {P:Program} {fn:Func} {env:List V} {z:Int} {e:Exit} {M:Hp} {m:Nat} {R:Cd} (c:Nat) (hx:e=.ret∨e=.normal) (hr:resV P fn env M=some (.tup [.s (.row c (c+1) R.length),.s (.int .i64 z)])) (hM:lk M c=ccB c R):
 Fin P fn 0 (.tup [.s (.row 0 1 R.length),.s (.int .i64 z)]) 2 [(0,ccB 0 R)] e env m M:=by
 refine⟨hx,_,[c,c+1],VLe.refl _,EndOK.by hr (MemP.op hM trivial) rfl (okH_op rfl rfl rfl) rfl ?_⟩;show nodupB [c,c+1]=true;simp[nodupB]
theorem lower_yes (p:List Nd) (hp:p.length≤2048) (h0:0<p.length) (G:Dgs) (hG:G.length≤1000000000) (hck:FC Tryz.prog 35 [nodes p] 0 [] (dgsV G) 0 []) (h6:C6 G) (hO:NOK p) (t:Fo) {cs:List (Bool×Int)} (ha:t.At p 0) (hv:t.V cs) (hs:t.size=p.length)
 (hE:EOK p (endsL t)) (i:Nat) (hi:i<p.length) (hop:(p.getD i dN).op=14) (b:Nd) (bl:Fo) (hb:(Fo.cons b bl .nil).At p (i+5)) (hbv:bl.V (List.replicate bl.cnt (false,83))) (hlk:lpK 0 bl) (hnn:NN (metC bl)) (d:Int×Bool) (hdp:FC Tryz.prog 13 [.s (.sla 0 1 (metC bl).length)] 2 [(0,some (dpB (metC bl)))] (.tup [.s (.int .i64 d.1),.s (.bool d.2)]) 2 [(0,some (dpB (metC bl)))]):
 FC Tryz.prog 12 [nodes p,nI i] 0 [] (.tup [.s (.row 0 1 (lowV (metC bl) d).1.length),.s (.int .i64 (lowV (metC bl) d).2)]) 2 [(0,ccB 0 (lowV (metC bl) d).1)]:=by
 have hen:=ends_c p hp h0 t ha hv hs;have hbsz:=At.size_le (Nat.le_of_lt (At.lt hb)) hb;simp only[Fo.size] at hbsz;unfold metC at hdp hnn ⊢;have hblk:=bl_all p hp hO (endsL t) hE bl.size b bl (i+5) (.out false) 0 [] [] (Nat.lt_succ_self _) hb hbv trivial trivial (fun _ _=>hlk) (by simp only[List.length_nil];omega);refine FC.walk (by kernel_rfl) Tryz.func12 rfl rfl ?_
 repeat'(first|exact y0|refine y1 ?_|refine y2 ?_ ?_|(refine y8 ?_ ?_<;>intro h<;>try exact y6)|(refine wC ?_;first|refine wF 35 (pu hck ?_))|refine y3 ?_|refine y7 ?_ ?_|refine y4 ?_|(refine y9 ?_ ?_<;>intro h)|exact y5|fail)
 refine Ex.inv (σ:=Nat) (fun i=>[(14,nI (i:Nat))]) (fun _=>[]) (fun i=>i≤G.length) (fun i=>G.length-i) 0 rfl (fun _=>rfl) (Nat.zero_le _) ⟨VLe.refl _,trivial⟩ trivial ?_;intro j hj;by_cases hlt:j<G.length
 ·have hc:(G.getD j (0,0)).2=6:=h6 _ (c6_at hlt)
  repeat'(first|exact y0|refine y1 ?_|refine y2 ?_ ?_|(refine y8 ?_ ?_<;>intro h<;>try exact y6)|refine y3 ?_|refine y7 ?_ ?_|refine y4 ?_|(refine y9 ?_ ?_<;>intro h)|exact y5|fail)
  refine LoopR.move (j+1) hlt (by omega) [] rfl ?_ trivial rfl
  repeat' (first|exact VLe.refl _|exact VLe.any _|exact True.intro|exact VLe.of_eq (congrArg nI (by push_cast;omega))|refine⟨?_,?_⟩)
 generalize hRb:stmC 0 bl 0 [] []=Rb at*
 have hRl:Rb.1.length≤900000000:=by
  have:=(stm_gr bl 0 0 [] []).le;rw[hRb] at this;rw[show szM 0 bl=bl.size from rfl] at this;simp only[List.length_nil] at this;omega
 have hem:∀ xv,isCell xv=true→FC Tryz.prog 38 [.s (.ptr (some (0,0))),nI 28,nU 0,sV []] 5 (cdL p (endsL t) Rb.1 (.cst xv)) (nI Rb.1.length) 7 (cdL' p (endsL t) (em Rb.1 28 0 []) (.cst xv)):=fun xv hx=>emit_c p (endsL t) Rb.1 (by omega) xv 28 0 []
 generalize hR:em Rb.1 28 0 []=R at*
 have hRn:R.length=Rb.1.length+1:=by rw[←hR,em_length]
 have hcc:ccB 15 R=some {cells:=R.flatMap insC,ty:=40,more:=true,sym:=true,flat:=true,gh:=some (16,3)}:=by
  refine opB_some ?_;intro h;have:=congrArg List.length h;rw[ins_len] at this;simp only[List.length_nil] at this;omega
 obtain⟨dm,db⟩:=d;simp only at hdp ⊢;generalize whB 0 bl=w at*;by_cases hok:db=true∧dm≤64
 ·rw[show lowV R (dm,db)=(R,0) from if_pos hok]
  obtain⟨rfl,hdm⟩:=hok
  rcases w with _|_
  ·have hx1:=FC.sw hem ((Lp.out false).s 3) (Lp.s_j (.out false) 3)
   repeat'(first|refine Ex.w10 p (endsL t) ?_ rfl|exact y0|refine y1 ?_|refine y2 ?_ ?_|(refine y8 ?_ ?_<;>intro h<;>try exact y6)|(refine wC ?_;first|refine wF 36 (pu hen ?_)|(refine wF 37 ?_;refine CallG.su 1 3 5 6 7 8 [] hblk ⟨_,_,rfl⟩ trivial rfl rfl trivial rfl rfl rfl rfl ⟨VLe.refl _,VLe.of_eq (congrArg nI (by push_cast;omega)),trivial⟩ rfl rfl ?_)|(refine wF 38 ?_;refine CallG.cl 9 11 ((Lp.out false).s 11) hx1 rfl rfl rfl rfl rfl rfl rfl rfl rfl rfl ⟨VLe.refl _,VLe.refl _,VLe.refl _,VLe.refl _,trivial⟩ rfl rfl ?_)|(refine wF 13 ?_;refine CallG.mv [15,16] 15 (bl1:={cells:=R.flatMap insC,ty:=40,more:=true,sym:=true,flat:=true,ro:=true,gh:=some (16,3)}) hdp rfl rfl ⟨VLe.s (SLe.rowsla (by omega)),trivial⟩ hcc rfl (fun φ w b h=>BlAt.weaken h true (fun _=>rfl)) rfl ⟨⟨rfl,_,rfl,rfl,fun h=>h⟩,trivial⟩ rfl rfl rfl rfl ?_))|refine y3 ?_|refine y7 ?_ ?_|refine y4 ?_|(refine y9 ?_ ?_<;>intro h)|exact y5|fail)
   all_goals try omega
   exact Fin.rowC 15 (.inl rfl) rfl rfl
  ·have hx1:=FC.sw hem ((Lp.out true).s 3) (Lp.s_j (.out true) 3)
   repeat'(first|refine Ex.w10 p (endsL t) ?_ rfl|exact y0|refine y1 ?_|refine y2 ?_ ?_|(refine y8 ?_ ?_<;>intro h<;>try exact y6)|(refine wC ?_;first|refine wF 36 (pu hen ?_)|(refine wF 37 ?_;refine CallG.su 1 3 5 6 7 8 [] hblk ⟨_,_,rfl⟩ trivial rfl rfl trivial rfl rfl rfl rfl ⟨VLe.refl _,VLe.of_eq (congrArg nI (by push_cast;omega)),trivial⟩ rfl rfl ?_)|(refine wF 38 ?_;refine CallG.cl 9 11 ((Lp.out true).s 11) hx1 rfl rfl rfl rfl rfl rfl rfl rfl rfl rfl ⟨VLe.refl _,VLe.refl _,VLe.refl _,VLe.refl _,trivial⟩ rfl rfl ?_)|(refine wF 13 ?_;refine CallG.mv [15,16] 15 (bl1:={cells:=R.flatMap insC,ty:=40,more:=true,sym:=true,flat:=true,ro:=true,gh:=some (16,3)}) hdp rfl rfl ⟨VLe.s (SLe.rowsla (by omega)),trivial⟩ hcc rfl (fun φ w b h=>BlAt.weaken h true (fun _=>rfl)) rfl ⟨⟨rfl,_,rfl,rfl,fun h=>h⟩,trivial⟩ rfl rfl rfl rfl ?_))|refine y3 ?_|refine y7 ?_ ?_|refine y4 ?_|(refine y9 ?_ ?_<;>intro h)|exact y5|fail)
   all_goals try omega
   exact Fin.rowC 15 (.inl rfl) rfl rfl
 ·rw[show lowV R (dm,db)=([],11) from if_neg hok]
  rcases db with _|_
  ·rcases w with _|_
   ·have hx1:=FC.sw hem ((Lp.out false).s 3) (Lp.s_j (.out false) 3)
    repeat'(first|refine Ex.w10 p (endsL t) ?_ rfl|exact y0|refine y1 ?_|refine y2 ?_ ?_|(refine y8 ?_ ?_<;>intro h<;>try exact y6)|(refine wC ?_;first|refine wF 36 (pu hen ?_)|(refine wF 37 ?_;refine CallG.su 1 3 5 6 7 8 [] hblk ⟨_,_,rfl⟩ trivial rfl rfl trivial rfl rfl rfl rfl ⟨VLe.refl _,VLe.of_eq (congrArg nI (by push_cast;omega)),trivial⟩ rfl rfl ?_)|(refine wF 38 ?_;refine CallG.cl 9 11 ((Lp.out false).s 11) hx1 rfl rfl rfl rfl rfl rfl rfl rfl rfl rfl ⟨VLe.refl _,VLe.refl _,VLe.refl _,VLe.refl _,trivial⟩ rfl rfl ?_)|(refine wF 13 ?_;refine CallG.mv [15,16] 15 (bl1:={cells:=R.flatMap insC,ty:=40,more:=true,sym:=true,flat:=true,ro:=true,gh:=some (16,3)}) hdp rfl rfl ⟨VLe.s (SLe.rowsla (by omega)),trivial⟩ hcc rfl (fun φ w b h=>BlAt.weaken h true (fun _=>rfl)) rfl ⟨⟨rfl,_,rfl,rfl,fun h=>h⟩,trivial⟩ rfl rfl rfl rfl ?_))|refine y3 ?_|refine y7 ?_ ?_|refine y4 ?_|(refine y9 ?_ ?_<;>intro h)|exact y5|fail)
    all_goals try omega
    exact Fin.nilC (.inl rfl) rfl
   ·have hx1:=FC.sw hem ((Lp.out true).s 3) (Lp.s_j (.out true) 3)
    repeat'(first|refine Ex.w10 p (endsL t) ?_ rfl|exact y0|refine y1 ?_|refine y2 ?_ ?_|(refine y8 ?_ ?_<;>intro h<;>try exact y6)|(refine wC ?_;first|refine wF 36 (pu hen ?_)|(refine wF 37 ?_;refine CallG.su 1 3 5 6 7 8 [] hblk ⟨_,_,rfl⟩ trivial rfl rfl trivial rfl rfl rfl rfl ⟨VLe.refl _,VLe.of_eq (congrArg nI (by push_cast;omega)),trivial⟩ rfl rfl ?_)|(refine wF 38 ?_;refine CallG.cl 9 11 ((Lp.out true).s 11) hx1 rfl rfl rfl rfl rfl rfl rfl rfl rfl rfl ⟨VLe.refl _,VLe.refl _,VLe.refl _,VLe.refl _,trivial⟩ rfl rfl ?_)|(refine wF 13 ?_;refine CallG.mv [15,16] 15 (bl1:={cells:=R.flatMap insC,ty:=40,more:=true,sym:=true,flat:=true,ro:=true,gh:=some (16,3)}) hdp rfl rfl ⟨VLe.s (SLe.rowsla (by omega)),trivial⟩ hcc rfl (fun φ w b h=>BlAt.weaken h true (fun _=>rfl)) rfl ⟨⟨rfl,_,rfl,rfl,fun h=>h⟩,trivial⟩ rfl rfl rfl rfl ?_))|refine y3 ?_|refine y7 ?_ ?_|refine y4 ?_|(refine y9 ?_ ?_<;>intro h)|exact y5|fail)
    all_goals try omega
    exact Fin.nilC (.inl rfl) rfl
  ·have hdm: ¬dm≤64:=fun h=>hok ⟨rfl,h⟩
   rcases w with _|_
   ·have hx1:=FC.sw hem ((Lp.out false).s 3) (Lp.s_j (.out false) 3)
    repeat'(first|refine Ex.w10 p (endsL t) ?_ rfl|exact y0|refine y1 ?_|refine y2 ?_ ?_|(refine y8 ?_ ?_<;>intro h<;>try exact y6)|(refine wC ?_;first|refine wF 36 (pu hen ?_)|(refine wF 37 ?_;refine CallG.su 1 3 5 6 7 8 [] hblk ⟨_,_,rfl⟩ trivial rfl rfl trivial rfl rfl rfl rfl ⟨VLe.refl _,VLe.of_eq (congrArg nI (by push_cast;omega)),trivial⟩ rfl rfl ?_)|(refine wF 38 ?_;refine CallG.cl 9 11 ((Lp.out false).s 11) hx1 rfl rfl rfl rfl rfl rfl rfl rfl rfl rfl ⟨VLe.refl _,VLe.refl _,VLe.refl _,VLe.refl _,trivial⟩ rfl rfl ?_)|(refine wF 13 ?_;refine CallG.mv [15,16] 15 (bl1:={cells:=R.flatMap insC,ty:=40,more:=true,sym:=true,flat:=true,ro:=true,gh:=some (16,3)}) hdp rfl rfl ⟨VLe.s (SLe.rowsla (by omega)),trivial⟩ hcc rfl (fun φ w b h=>BlAt.weaken h true (fun _=>rfl)) rfl ⟨⟨rfl,_,rfl,rfl,fun h=>h⟩,trivial⟩ rfl rfl rfl rfl ?_))|refine y3 ?_|refine y7 ?_ ?_|refine y4 ?_|(refine y9 ?_ ?_<;>intro h)|exact y5|fail)
    all_goals try omega
    exact Fin.nilC (.inl rfl) rfl
   ·have hx1:=FC.sw hem ((Lp.out true).s 3) (Lp.s_j (.out true) 3)
    repeat'(first|refine Ex.w10 p (endsL t) ?_ rfl|exact y0|refine y1 ?_|refine y2 ?_ ?_|(refine y8 ?_ ?_<;>intro h<;>try exact y6)|(refine wC ?_;first|refine wF 36 (pu hen ?_)|(refine wF 37 ?_;refine CallG.su 1 3 5 6 7 8 [] hblk ⟨_,_,rfl⟩ trivial rfl rfl trivial rfl rfl rfl rfl ⟨VLe.refl _,VLe.of_eq (congrArg nI (by push_cast;omega)),trivial⟩ rfl rfl ?_)|(refine wF 38 ?_;refine CallG.cl 9 11 ((Lp.out true).s 11) hx1 rfl rfl rfl rfl rfl rfl rfl rfl rfl rfl ⟨VLe.refl _,VLe.refl _,VLe.refl _,VLe.refl _,trivial⟩ rfl rfl ?_)|(refine wF 13 ?_;refine CallG.mv [15,16] 15 (bl1:={cells:=R.flatMap insC,ty:=40,more:=true,sym:=true,flat:=true,ro:=true,gh:=some (16,3)}) hdp rfl rfl ⟨VLe.s (SLe.rowsla (by omega)),trivial⟩ hcc rfl (fun φ w b h=>BlAt.weaken h true (fun _=>rfl)) rfl ⟨⟨rfl,_,rfl,rfl,fun h=>h⟩,trivial⟩ rfl rfl rfl rfl ?_))|refine y3 ?_|refine y7 ?_ ?_|refine y4 ?_|(refine y9 ?_ ?_<;>intro h)|exact y5|fail)
    all_goals try omega
    exact Fin.nilC (.inl rfl) rfl
end Go.Proofs.YtbokilgdefkmiaaGreatDoor
