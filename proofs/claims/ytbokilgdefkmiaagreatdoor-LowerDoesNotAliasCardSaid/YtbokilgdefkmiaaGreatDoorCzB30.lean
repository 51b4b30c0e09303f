import Derived.Test.YtbokilgdefkmiaaGreatDoorCzB29
import Derived.Test.YtbokilgdefkmiaaGreatDoorCzB26
import Derived.Test.YtbokilgdefkmiaaGreatDoorCzB22
import Derived.Test.YtbokilgdefkmiaaGreatDoorCzB28
import Derived.Test.YtbokilgdefkmiaaGreatDoorCzB18
set_option linter.unusedSimpArgs false
set_option linter.unusedVariables false
namespace Go.Proofs.YtbokilgdefkmiaaGreatDoor
open Go Ab
def GE (C D:Cd):Prop:=C.length≤D.length
theorem GE.ite {C a b:Cd} {p:Prop} [Decidable p] (h1:GE C a) (h2:GE C b):GE C (if p then a else b):=by
 by_cases h:p
 ·rw[if_pos h];exact h1
 ·rw[if_neg h];exact h2
theorem GE.em {C D:Cd} (h:GE C D) (op n:Int) (s:By):GE C (em D op n s):=by
 unfold GE at*;simp only[Go.Proofs.YtbokilgdefkmiaaGreatDoor.em,List.length_append,List.length_cons,List.length_nil];omega
theorem GE.me (C:Cd):GE C C:=Nat.le_refl _
theorem opr_ge {C D:Cd} (h:GE C D) (op:Int):GE C (opr op D):=by
 unfold opr
 repeat' with_reducible refine GE.ite ?_ ?_
 all_goals exact h.em _ _ _
theorem expE_ge {x:Nd} {k:Fo} {C c0 c1 c2 c5 c6:Cd} (h0:GE C c0) (h1:GE C c1) (h2:GE C c2) (h5:GE C c5) (h6:GE C c6):GE C (expE x k C c0 c1 c2 c5 c6):=by
 unfold expE
 repeat' with_reducible refine GE.ite ?_ ?_
 all_goals first
  |exact (GE.me C).em _ _ _
  |exact h0.em _ _ _
  |exact h5.em _ _ _
  |exact h6.em _ _ _
  |exact h1
  |exact h2
  |exact opr_ge h0 _
theorem refE_ge {x:Nd} {C c0 c4:Cd} (h0:GE C c0) (h4:GE C c4):GE C (refE x C c0 c4):=by
 unfold refE
 repeat' with_reducible refine GE.ite ?_ ?_
 all_goals first
  |exact (GE.me C).em _ _ _
  |exact h4
  |exact opr_ge h0 _
theorem typE_ge {x:Nd} {C c0 c4:Cd} (h0:GE C c0) (h4:GE C c4):GE C (typE x C c0 c4):=by
 have hq:GE C (if x.op=84 then c4 else opr 76 c0):=GE.ite h4 (opr_ge h0 76);unfold typE;generalize (if x.op=84 then c4 else opr 76 c0)=q at*
 repeat' with_reducible refine GE.ite ?_ ?_
 ·exact (GE.me C).em _ _ _
 ·exact ((GE.me C).em _ _ _).em _ _ _
 ·exact ((GE.me C).em _ _ _).em _ _ _
 ·exact (hq.em _ _ _).em _ _ _
theorem cod_ge:∀ (t:Fo) (m:Nat) (C:Cd),GE C (cod m t C):=by
 intro t
 induction t with
 |nil=>intro m C;cases m<;>exact GE.me C
 |cons x k n ik im=>
  intro m C;have hE:=expE_ge (x:=x) (k:=k) (ik 0 C) (ik 1 C) (ik 2 C) (ik 5 C) (ik 6 C)
  have hn:∀ m D,GE C D→GE C (cod m n D):=fun m D hD=>Nat.le_trans hD (im m D)
  rw[cod_cons]
  repeat' with_reducible refine GE.ite ?_ ?_
  all_goals first
   |exact refE_ge (ik 0 C) (ik 4 C)
   |exact typE_ge (ik 0 C) (ik 4 C)
   |exact hn _ _ (GE.me C)
   |exact ik 3 C
   |exact hn 3 _ (GE.ite ((GE.me C).em _ _ _) hE)
   |exact hE
   |exact hn 0 _ hE
theorem eE_ge (x:Nd) (k:Fo) (C:Cd):C.length≤(eE x k C).length:=expE_ge (cod_ge k 0 C) (cod_ge k 1 C) (cod_ge k 2 C) (cod_ge k 5 C) (cod_ge k 6 C)
theorem sto_ge (t:Fo) (C:Cd):GE C (sto t C):=by
 have h1:=cod_ge t 1 C;unfold sto
 repeat' with_reducible refine GE.ite ?_ ?_
 all_goals first
  |exact (GE.me C).em _ _ _
  |exact h1.em _ _ _
theorem sto_le (t:Fo) (C:Cd):LE C (3*t.size+1) (sto t C):=by
 have h1:=cod_le t 1 C;unfold sto
 repeat' with_reducible refine LE.ite ?_ ?_
 all_goals first
  |exact (LE.me C _).em _ _ _
  |exact h1.em _ _ _
theorem em_ln (C:Cd) (op n:Int) (s:By):(em C op n s).length=C.length+1:=by simp[em]
theorem pat_ln (C:Cd) (j:Nat) (z:Int):(pat C j z).length=C.length:=by simp[pat]
theorem pats_ln (z:Int):∀ (B:List Nat) (D:Cd),(B.foldl (fun D j=>pat D j z) D).length=D.length
 |[],D=>rfl
 |j::B,D=>by
  have:=pats_ln z B (pat D j z);rw[pat_ln] at this;exact this
structure GR (m:Nat) (C:Cd) (B:List Nat) (R:Cd×List Nat):Prop where
 ge:C.length≤R.1.length
 le:R.1.length≤C.length+m
 bl:B.length≤R.2.length
 br:(∀ j∈B,j<C.length)→∀ j∈R.2,j<R.1.length
 bn:B.length≤C.length→R.2.length≤R.1.length
theorem GR.ite {m:Nat} {C:Cd} {B:List Nat} {a b:Cd×List Nat} {p:Prop} [Decidable p] (h1:GR m C B a) (h2:GR m C B b):GR m C B (if p then a else b):=by
 by_cases h:p
 ·rw[if_pos h];exact h1
 ·rw[if_neg h];exact h2
theorem GR.cd {m:Nat} {C D:Cd} {B:List Nat} (h1:C.length≤D.length) (h2:D.length≤C.length+m):GR m C B (D,B):=
 ⟨h1,h2,Nat.le_refl _,fun h j hj=>Nat.lt_of_lt_of_le (h j hj) h1,fun h=>Nat.le_trans h h1⟩
theorem GR.trans {m n:Nat} {C:Cd} {B:List Nat} {R Q:Cd×List Nat} (h:GR m C B R) (k:GR n R.1 R.2 Q):GR (m+n) C B Q:=
 ⟨Nat.le_trans h.ge k.ge,by have:=h.le;have:=k.le;omega,Nat.le_trans h.bl k.bl,fun hb=>k.br (h.br hb),fun hb=>k.bn (h.bn hb)⟩
theorem GR.up {m n:Nat} {C:Cd} {B:List Nat} {R:Cd×List Nat} (h:GR m C B R) (hn:m≤n):GR n C B R:=⟨h.ge,by have:=h.le;omega,h.bl,h.br,h.bn⟩
theorem GR.pat {m:Nat} {C:Cd} {B:List Nat} {R:Cd×List Nat} (h:GR m C B R) (j:Nat) (z:Int):GR m C B (Go.Proofs.YtbokilgdefkmiaaGreatDoor.pat R.1 j z,R.2):=
 ⟨by simp only[pat_ln];exact h.ge,by simp only[pat_ln];exact h.le,h.bl,fun hb=>by simp only[pat_ln];exact h.br hb,fun hb=>by simp only[pat_ln];exact h.bn hb⟩
theorem GR.em {m:Nat} {C:Cd} {B:List Nat} {R:Cd×List Nat} (h:GR m C B R) (op n:Int) (s:By):GR (m+1) C B (Go.Proofs.YtbokilgdefkmiaaGreatDoor.em R.1 op n s,R.2):=
 ⟨by simp only[em_ln];have:=h.ge;omega,by simp only[em_ln];have:=h.le;omega,h.bl,fun hb j hj=>by simp only[em_ln];have:=h.br hb j hj;omega,fun hb=>by simp only[em_ln];have:=h.bn hb;omega⟩
def szM (m:Nat) (t:Fo):Nat:=if m=1 then t.tl.sub.size else if m=2 then t.sub.size else if m=3 then t.tl.tl.sub.size else t.size
def GRf (m:Nat) (f:Stm):Prop:=∀ lp C B,GR m C B (f lp C B)
theorem sub_tl (t:Fo):t.sub.size+t.tl.size≤t.size:=by cases t<;>simp only[Fo.sub,Fo.tl,Fo.size]<;>omega
theorem cod4_le (k:Fo) (C:Cd):(cod 4 k C).length≤C.length+(3*k.sub.size+1):=by
 cases k with
 |nil=>show C.length≤_;omega
 |cons e ke n=>exact exp_le e ke C
theorem stE_gr {x:Nd} {k:Fo} {f1 f3:Stm} (h1:GRf (3*szM 1 k) f1) (h3:GRf (3*szM 3 k) f3):GRf (3*k.size+3) (stE x k f1 f3):=by
 intro lp C B;have s1:=sub_tl k;have s2:=sub_tl k.tl;have s3:=sub_tl k.tl.tl;have z1:szM 1 k=k.tl.sub.size:=rfl;have z3:szM 3 k=k.tl.tl.sub.size:=rfl;have c4:GR (3*k.sub.size+2) C B (em (cod 4 k C) 25 0 [],B):=GR.cd (by rw[em_ln];have:=cod_ge k 4 C;unfold GE at this;omega) (by rw[em_ln];have:=cod4_le k C;omega);unfold stE;refine GR.ite ?_ (GR.ite (GR.ite ?_ ?_) (GR.ite ?_ ?_))
 ·have g1:=cod4_le k C
  have g2:C.length≤(cod 4 k C).length:=cod_ge k 4 C;have g3:(sto k.tl (cod 4 k C)).length≤(cod 4 k C).length+(3*k.tl.size+1):=sto_le k.tl (cod 4 k C);have g4:(cod 4 k C).length≤(sto k.tl (cod 4 k C)).length:=sto_ge k.tl (cod 4 k C);exact GR.cd (by omega) (by omega)
 ·exact (((c4.trans (h1 lp _ B)).pat _ _).up (by omega))
 ·have r1:=(c4.trans (h1 lp _ B)).em 24 0 []
  have r2:=r1.pat (cod 4 k C).length ((f1 lp (em (cod 4 k C) 25 0 []) B).1.length+1:Nat);have r3:=(r2.trans (h3 lp _ _)).pat (f1 lp (em (cod 4 k C) 25 0 []) B).1.length (f3 lp (pat (em (f1 lp (em (cod 4 k C) 25 0 []) B).1 24 0 []) (cod 4 k C).length ((f1 lp (em (cod 4 k C) 25 0 []) B).1.length+1:Nat)) (f1 lp (em (cod 4 k C) 25 0 []) B).2).1.length;exact r3.up (by omega)
 ·have r1:=(h1 C.length (em (cod 4 k C) 25 0 []) [(cod 4 k C).length])
  have q1:=r1.ge;have q2:=r1.le;have q3:=c4.ge;have q4:=c4.le;exact GR.cd (by rw[pats_ln,em_ln];simp only at q1 q3 ⊢;omega) (by rw[pats_ln,em_ln];simp only at q2 q4 ⊢;omega)
 ·have g0:C.length≤(cod 0 k C).length:=cod_ge k 0 C
  have l0:(cod 0 k C).length≤C.length+3*k.size:=cod_le k 0 C;have g5:C.length≤(cod 5 k C).length:=cod_ge k 5 C;have l5:(cod 5 k C).length≤C.length+3*k.size:=cod_le k 5 C;have g4:C.length≤(cod 4 k C).length:=cod_ge k 4 C;have l4:(cod 4 k C).length≤C.length+3*k.size:=cod_le k 4 C;have gE:C.length≤(expE x k C (cod 0 k C) (cod 1 k C) (cod 2 k C) (cod 5 k C) (cod 6 k C)).length:=eE_ge x k C;have lE:(expE x k C (cod 0 k C) (cod 1 k C) (cod 2 k C) (cod 5 k C) (cod 6 k C)).length≤C.length+(3*k.size+1):=exp_le x k C;refine GR.ite ?_ (GR.ite ?_ ?_)
  ·exact GR.cd (by rw[em_ln];omega) (by rw[em_ln];omega)
  ·refine⟨by simp only[em_ln];omega,by simp only[em_ln];omega,by simp,fun hb j hj=>?_,fun hb=>by simp only[em_ln,List.length_append,List.length_cons,List.length_nil];omega⟩
   simp only[em_ln]
   rcases List.mem_append.1 hj with h|h
   ·have:=hb j h;omega
   ·rw[List.mem_singleton] at h;omega
  ·repeat' with_reducible refine GR.ite ?_ ?_
   all_goals exact GR.cd (by rw[em_ln];omega) (by rw[em_ln];omega)
theorem stm_gr:∀ (t:Fo) (m:Nat),GRf (3*szM m t) (stmC m t):=by
 intro t
 induction t with
 |nil=>intro m lp C B;cases m<;>exact GR.cd (Nat.le_refl _) (Nat.le_add_right _ _)
 |cons x k n ik im=>
  intro m lp C B;rw[stmC_cons];by_cases h1:m=1
  ·subst h1;rw[if_pos rfl];exact im 2 lp C B
  ·rw[if_neg h1]
   by_cases h2:m=2
   ·subst h2;rw[if_pos rfl];exact ik 0 lp C B
   ·rw[if_neg h2]
    by_cases h3:m=3
    ·subst h3;rw[if_pos rfl];exact im 1 lp C B
    ·rw[if_neg h3]
     have g1:=stE_gr (x:=x) (k:=k) (ik 1) (ik 3) lp C B;have g2:=g1.trans (im 0 lp _ _);refine g2.up ?_
     have e1:szM m (.cons x k n)=(Fo.cons x k n).size:=by unfold szM;rw[if_neg h1,if_neg h2,if_neg h3]
     have e2:szM 0 n=n.size:=rfl;rw[e1,e2];simp only[Fo.size];omega
theorem stE_g (x:Nd) (k:Fo):GRf (3*k.size+3) (stE x k (stmC 1 k) (stmC 3 k)):=stE_gr (stm_gr k 1) (stm_gr k 3)
def whE (x:Nd) (w1 w3:Bool):Bool:=decide (x.op=32)||(decide (x.op=31)&&(w1||(!decide (x.kids<3)&&w3)))
def whB:Nat→Fo→Bool
 |_,.nil=>false
 |m,.cons x k n=>if m=1 then whB 2 n else if m=2 then whB 0 k else if m=3 then whB 1 n else whE x (whB 1 k) (whB 3 k)||whB 0 n
def lpK:Nat→Fo→Prop
 |_,.nil=>True
 |m,.cons x k n=>if m=1 then lpK 2 n else if m=2 then lpK 0 k else if m=3 then lpK 1 n else (x.op≠34∧x.op≠35)∧(x.op=31→lpK 1 k∧lpK 3 k)∧lpK 0 n
set_option maxRecDepth 100000
set_option maxHeartbeats 1000000
inductive Lp where
 |out (w:Bool)
 |top (K:List S) (mm:Nat) (st:Int) (B:List Nat)
abbrev lpB (l:Nat) (cs:List S):Bl:={cells:=cs,ty:=147,more:=true,sym:=true,gh:=some (l+1,2)}
abbrev brB (b':Nat) (B:List Nat):Bl:={cells:=B.map fun (j:Nat)=>S.int .i64 (j:Int),ty:=3,more:=true,sym:=true,flat:=true,gh:=some (b',1)}
abbrev topC (K:List S) (st:Int) (b b' k:Nat):List S:=K++[.int .u64 st,.sla b b' k]
def Lp.s (l:Nat):Lp→S
 | .out false=> .slc none 0 (some 0)
 | .out true=> .sla l (l+1) 0
 | .top _ mm _ _=> .sla l (l+1) (mm+1)
def Lp.h (l b b':Nat):Lp→Hp
 | .out false=>[]
 | .out true=>[(l,some (lpB l []))]
 | .top K _ st B=>[(l,some (lpB l (topC K st b b' B.length))),(b,some (brB b' B))]
def Lp.hK (K1:List S) (l b b':Nat):Lp→Hp
 | .out false=>[]
 | .out true=>[(l,some (lpB l []))]
 | .top _ _ st B=>[(l,some (lpB l (topC K1 st b b' B.length))),(b,some (brB b' B))]
def Lp.off (l b:Nat):Lp→Hp
 | .out false=>[]
 | .out true=>[(l,none)]
 | .top _ _ _ _=>[(l,none),(b,none)]
def Lp.af:Lp→Bool→List Nat→Lp
 | .out w,w',_=> .out (w||w')
 | .top K mm st _,_,B'=> .top K mm st B'
def Lp.mt:Lp→Int→List Nat→Prop
 | .out _,_,_=>True
 | .top _ _ st B,lp,B'=>lp=st∧B'=B
def ZOK (K:List S):Prop:=∀ s∈K,okS 0 s=true∧(∀ r,renS r s=s)∧∀ n,okS n s=true
def Lp.ok:Lp→Cd→Nat→Prop
 | .out _,_,_=>True
 | .top K mm _ B,C,n=>ZOK K∧K.length=2*mm∧0<B.length∧B.length≤C.length∧(∀ j∈B,j<C.length)∧mm+n≤100000
theorem ZOK.map {K:List S} (h:ZOK K) (r:Nat→Nat):K.map (renS r)=K:=by
 rw[List.map_congr_left (fun s hs=>(h s hs).2.1 r)];exact List.map_id' K
theorem ZOK.all {K:List S} (h:ZOK K) (n:Nat):K.all (okS n)=true:=List.all_eq_true.2 fun s hs=>(h s hs).2.2 n
abbrev slL (p:List Nd) (E:List Nat) (C:Cd) (Λ:Lp):Hp:=(0,some (cdB p E 1 C.length (Λ.s 3)))::(1,ccB 1 C)::Λ.h 3 5 6
abbrev slL' (p:List Nd) (E:List Nat) (C':Cd) (Λ Λ':Lp):Hp:=(0,some (cdB p E 9 C'.length (Λ'.s 11)))::(1,none)::(Λ.off 3 5++(9,ccB 9 C')::Λ'.h 11 13 14)
theorem okB_lp {n l:Nat} {K:List S} {st:Int} {b b' k:Nat} (hK:K.all (okS n)=true) (h1:Nat.blt (l+1) n=true) (h2:Nat.blt b n=true) (h3:Nat.blt b' n=true):okB n (lpB l (topC K st b b' k))=true:=by
 show (Nat.blt (l+1) n&&(topC K st b b' k).all (okS n))=true;rw[h1,List.all_append,hK];show (true&&(true&&(true&&((Nat.blt b n&&Nat.blt b' n)&&true))))=true;rw[h2,h3];rfl
theorem renB_lp {r:Nat→Nat} {l:Nat} {K K1:List S} {st:Int} {b b' k:Nat} (hK:K.map (renS r)=K1) (hl:r (l+1)=r l+1):renB r (lpB l (topC K st b b' k))=lpB (r l) (topC K1 st (r b) (r b') k):=by
 show ({cells:=(topC K st b b' k).map (renS r),ty:=147,more:=true,sym:=true,gh:=some (r (l+1),2)}:Bl)=_;rw[List.map_append,hK,hl];rfl
theorem okH_cons {n i:Nat} {bl:Bl} {t:Hp} (h1:Nat.blt i n=true) (h2:okB n bl=true) (h3:okH n t=true):okH n ((i,some bl)::t)=true:=by
 show (Nat.blt i n&&okB n bl&&okH n t)=true;rw[h1,h2,h3];rfl
def LpAt (M:Hp) (l b b':Nat) (K1:List S):Lp→Prop
 | .out false=>True
 | .out true=>lk M l=some (lpB l [])
 | .top _ _ st B=>lk M l=some (lpB l (topC K1 st b b' B.length))∧lk M b=some (brB b' B)
def KOK (r:Nat→Nat) (n:Nat) (K1:List S):Lp→Prop
 | .out _=>True
 | .top K _ _ _=>K.all (okS n)=true∧K.map (renS r)=K1
def Lp.K:Lp→List S
 | .out _=>[]
 | .top K _ _ _=>K
section
variable {P:Program} {ops:Array Oper} {d:Bool} {acc:List Row} {os:List Oper} {o:Oper} {env:List V} {n:Nat} {L:Hp} {R:Post} {f:FuncId} {xs:Array Operand}
abbrev stU (c l b b' u v:Nat):List Nat:=[0,c,c+1,l,l+1,b,b',u,v]
abbrev stT (c l b b':Nat):List Nat:=stU c l b b' 7 8
abbrev stW (p:List Nd) (E:List Nat) (n c l b:Nat) (C':Cd) (Λ Λ':Lp) (K1:List S):Hp:=(0,some (cdB p E n C'.length (Λ'.s (n+2))))::(c,none)::(Λ.off l b++(n,ccB n C')::Λ'.hK K1 (n+2) (n+4) (n+5))
theorem okH_st {p:List Nd} {E:List Nat} {C:Cd} {Λ:Lp} (hK:match Λ with| .out _=>True| .top K _ _ _=>K.all (okS 9)=true):okH 9 (slL p E C Λ)=true:=by
 rcases Λ with w|⟨K,mm,st,B⟩
 ·cases w
  ·exact okH_cd rfl rfl rfl rfl (okH_op rfl rfl rfl)
  ·exact okH_cd rfl rfl rfl rfl (okH_op rfl rfl rfl)
 ·exact okH_cd rfl rfl rfl rfl (okH_op rfl rfl (okH_cons rfl (okB_lp hK rfl rfl rfl) rfl))
theorem lk_in {tbl:List Nat} {i:Nat} {bl:Option Bl} (h:tbl.elem i=true) (hl:lk L i=bl):lk (res tbl L) i=bl:=by
 rw[lk_res,if_pos (by simpa using h)];exact hl
theorem CallG.su {p:List Nd} {E:List Nat} {C C':Cd} {Λ Λ':Lp} (c l b b' u v1:Nat) (K1:List S) {args0:List V} {v0:V} (sc:FC P f args0 9 (slL p E C Λ) v0 15 (slL' p E C' Λ Λ')) {args1:List V} {v:V}
 (haf:∃ w B',Λ'=Λ.af w B') (hK:KOK (rn (stU c l b b' u v1) n) 9 K1 Λ)
 (hl0:lk L 0=some (cdB p E c C.length (Λ.s l))) (hl1:lk L c=ccB c C) (hΛ:LpAt L l b b' K1 Λ) (hold:oldB (stU c l b b' u v1) n 15=true) (hal:aliB (stU c l b b' u v1) (slL p E C Λ)=true)
 (k1:args0.all (okV 9)=true) (ha:xs.toList.map (ev env)=args1) (hle:All2 VLe args1 (args0.map (renV (rn (stU c l b b' u v1) n)))) (hw:want ops env o=some true) (hv:frcV (renV (rn (stU c l b b' u v1) n) v0) some=some v)
 (k:RegX P ops d (pushR d o (stU c l b b' u v1) (stW p E n c l b C' Λ Λ' K1) acc) os (setD env o.dst v) (n+6) (puts L (stW p E n c l b C' Λ Λ' K1)) R):CallG P ops d acc o f xs os env n L R:=by
 obtain⟨w',B',rfl⟩:=haf
 have e0:(stU c l b b' u v1).elem 0=true:=by simp
 have e1:(stU c l b b' u v1).elem c=true:=by simp
 have e2:(stU c l b b' u v1).elem l=true:=by simp
 have e3:(stU c l b b' u v1).elem b=true:=by simp
 have h1:=lk_in (L:=L) e1 hl1
 rcases Λ with w|⟨K,mm,st,B⟩
 ·cases w
  ·refine CallG.mo (stU c l b b' u v1) sc k1 (okH_st trivial) ?_ hal ha hle ?_ hw hv ?_ k
   ·cases w'<;>(show (true&&true&&true&&oldB (stU c l b b' u v1) n 15)=true;rw[hold];rfl)
   ·exact⟨⟨rfl,cdB p E c C.length _,lk_in e0 hl0,rfl,fun h=>h⟩,FitP.op rfl h1 trivial⟩
   ·cases w'
    ·show (0,some (cdB p E n C'.length _))::(c,none)::[(n,renO (rn (stU c l b b' u v1) n) (ccB 9 C'))]=_
     rw[renO_op];rfl
    ·show (0,some (cdB p E n C'.length _))::(c,none)::(n,renO (rn (stU c l b b' u v1) n) (ccB 9 C'))::_=_
     rw[renO_op];rfl
  ·refine CallG.mo (stU c l b b' u v1) sc k1 (okH_st trivial) ?_ hal ha hle ?_ hw hv ?_ k
   ·show (true&&true&&true&&oldB (stU c l b b' u v1) n 15)=true;rw[hold];rfl
   ·exact⟨⟨rfl,cdB p E c C.length _,lk_in e0 hl0,rfl,fun h=>h⟩,FitP.op rfl h1 ⟨⟨rfl,_,lk_in e2 hΛ,rfl,fun h=>h⟩,trivial⟩⟩
   ·show (0,some (cdB p E n C'.length _))::(c,none)::(l,none)::(n,renO (rn (stU c l b b' u v1) n) (ccB 9 C'))::_=_
    rw[renO_op];rfl
 ·obtain⟨hK1,hK2⟩:=hK
  obtain⟨hΛ1,hΛ2⟩:=hΛ;refine CallG.mo (stU c l b b' u v1) sc k1 (okH_st hK1) ?_ hal ha hle ?_ hw hv ?_ k
  ·show (true&&true&&true&&oldB (stU c l b b' u v1) n 15)=true;rw[hold];rfl
  ·refine⟨⟨rfl,cdB p E c C.length _,lk_in e0 hl0,rfl,fun h=>h⟩,FitP.op rfl h1 ⟨⟨rfl,_,lk_in e2 hΛ1,?_,fun h=>h⟩,⟨rfl,_,lk_in e3 hΛ2,rfl,fun h=>h⟩,trivial⟩⟩
   show ({renB (rn (stU c l b b' u v1) n) (lpB 3 (topC K st 5 6 B.length)) with ro:=false}:Bl)=_;rw[renB_lp hK2 rfl];rfl
  ·show (0,some (cdB p E n C'.length _))::(c,none)::(l,none)::(b,none)::(n,renO (rn (stU c l b b' u v1) n) (ccB 9 C'))::(n+2,some (renB (rn (stU c l b b' u v1) n) (lpB 11 (topC K st 13 14 B'.length))))::_=_
   rw[renO_op,renB_lp hK2 rfl];rfl
theorem CallG.st {p:List Nd} {E:List Nat} {C C':Cd} {Λ Λ':Lp} (c l b b':Nat) (K1:List S) {args0:List V} {v0:V} (sc:FC P f args0 9 (slL p E C Λ) v0 15 (slL' p E C' Λ Λ')) {args1:List V} {v:V}
 (haf:∃ w B',Λ'=Λ.af w B') (hK:KOK (rn (stT c l b b') n) 9 K1 Λ)
 (hl0:lk L 0=some (cdB p E c C.length (Λ.s l))) (hl1:lk L c=ccB c C) (hΛ:LpAt L l b b' K1 Λ) (hold:oldB (stT c l b b') n 15=true) (hal:aliB (stT c l b b') (slL p E C Λ)=true)
 (k1:args0.all (okV 9)=true) (ha:xs.toList.map (ev env)=args1) (hle:All2 VLe args1 (args0.map (renV (rn (stT c l b b') n)))) (hw:want ops env o=some true) (hv:frcV (renV (rn (stT c l b b') n) v0) some=some v)
 (k:RegX P ops d (pushR d o (stT c l b b') (stW p E n c l b C' Λ Λ' K1) acc) os (setD env o.dst v) (n+6) (puts L (stW p E n c l b C' Λ Λ' K1)) R):CallG P ops d acc o f xs os env n L R:=
 CallG.su c l b b' 7 8 K1 sc haf hK hl0 hl1 hΛ hold hal k1 ha hle hw hv k
end
set_option maxRecDepth 100000
set_option maxHeartbeats 1000000
theorem cc_ro {c:Nat} {C:Cd} {bl:Bl} (h:ccB c C=some bl):bl.ro=false:=by
 unfold ccB at h;generalize C.flatMap insC=cs at h
 cases cs with
 |nil=>cases h
 |cons x t=>cases h;rfl
theorem Lp.h_key {l b b':Nat} {Λ:Lp} {x:Nat×Option Bl} (h:x∈Λ.h l b b'):(x.1=l∨x.1=b)∧∀ bl,x.2=some bl→bl.ro=false:=by
 rcases Λ with w|⟨K,mm,st,B⟩
 ·cases w
  ·cases h
  ·rcases List.mem_singleton.1 h with rfl
   exact⟨.inl rfl,fun bl e=>by cases e;rfl⟩
 ·rcases List.mem_cons.1 h with rfl|h
  ·exact⟨.inl rfl,fun bl e=>by cases e;rfl⟩
  ·rcases List.mem_singleton.1 h with rfl
   exact⟨.inr rfl,fun bl e=>by cases e;rfl⟩
theorem Lp.off_none {l b:Nat} {Λ:Lp} {x:Nat×Option Bl} (h:x∈Λ.off l b):x.2=none:=by
 rcases Λ with w|⟨K,mm,st,B⟩
 ·cases w
  ·cases h
  ·rcases List.mem_singleton.1 h with rfl;rfl
 ·rcases List.mem_cons.1 h with rfl|h
  ·rfl
  ·rcases List.mem_singleton.1 h with rfl;rfl
theorem st_key {p:List Nd} {E:List Nat} {D:Cd} {m:Nat} {s:S} {Λ:Lp} {x:Nat×Option Bl} (h:x∈(0,some (cdB p E 9 m s))::(9,ccB 9 D)::Λ.h 11 13 14):(x.1=0∨x.1=9∨x.1=11∨x.1=13)∧∀ bl,x.2=some bl→bl.ro=false:=by
 rcases List.mem_cons.1 h with rfl|h
 ·exact⟨.inl rfl,fun bl e=>by cases e;rfl⟩
 ·rcases List.mem_cons.1 h with rfl|h
  ·exact⟨.inr (.inl rfl),fun bl e=>cc_ro e⟩
  ·have:=Lp.h_key h
   exact⟨.inr (.inr this.1),this.2⟩
theorem injB_of {r:Nat→Nat} {L':Hp} (h:∀ x∈L',∀ y∈L',x.2=none∨y.2=none∨x.1=y.1∨r x.1≠r y.1):injB r L'=true:=by
 refine List.all_eq_true.2 fun x hx=>List.all_eq_true.2 fun y hy=>?_
 have:=h x hx y hy;split
 ·rename_i e1 e2
  rcases this with h|h|h|h
  ·rw[e1] at h;cases h
  ·rw[e2] at h;cases h
  ·rw[h,Nat.beq_refl];rfl
  ·rw[beq_no h];cases Nat.beq x.1 y.1<;>rfl
 ·rfl
theorem mvB_of {n:Nat} {r:Nat→Nat} {L':Hp} (h:∀ x∈L',∀ bl,x.2=some bl→bl.ro=false):mvB n r L'=true:=by
 refine List.all_eq_true.2 fun x hx=>?_
 split
 ·rename_i bl e
  rw[h x hx bl e];simp
 ·rfl
theorem memP_st {r:Nat→Nat} {M:Hp} {p:List Nd} {E:List Nat} {D:Cd} {Λ:Lp} (c l b b':Nat) (r0:r 0=0) (r1:r 9=c) (r2:r 10=c+1) (r3:r 11=l) (r4:r 12=l+1) (r5:r 13=b) (r6:r 14=b') (hZ:ZOK Λ.K)
 (h0:lk M 0=some (cdB p E c D.length (Λ.s l))) (h1:lk M c=ccB c D) (hΛ:LpAt M l b b' Λ.K Λ):MemP r M ((0,some (cdB p E 9 D.length (Λ.s 11)))::(9,ccB 9 D)::Λ.h 11 13 14):=by
 have hs:renS r (Λ.s 11)=Λ.s l:=by
  rcases Λ with w|⟨K,mm,st,B⟩
  ·cases w
   ·rfl
   ·show S.sla (r 11) (r 12) 0=_;rw[r3,r4];rfl
  ·show S.sla (r 11) (r 12) (mm+1)=_;rw[r3,r4];rfl
 have e0:renB r (cdB p E 9 D.length (Λ.s 11))=cdB p E c D.length (Λ.s l):=by
  show ({cells:=[_,_,.row (r 9) (r 10) D.length,renS r (Λ.s 11)],ty:=72}:Bl)=_;rw[hs,r1,r2];rfl
 refine⟨by rw[r0,e0];exact h0,MemP.op (by rw[r1,r2];exact h1) ?_⟩
 rcases Λ with w|⟨K,mm,st,B⟩
 ·cases w
  ·trivial
  ·refine⟨?_,trivial⟩
   show lk M (r 11)=some ({cells:=[],ty:=147,more:=true,sym:=true,gh:=some (r 12,2)}:Bl);rw[r3,r4];exact hΛ
 ·refine⟨?_,?_,trivial⟩
  ·have hz:K.map (renS r)=K:=ZOK.map (K:=K) hZ r
   rw[renB_lp hz (show r (11+1)=r 11+1 by rw[r3];exact r4),r3,r5,r6];exact hΛ.1
  ·show lk M (r 13)=some ({cells:=_,ty:=3,more:=true,sym:=true,flat:=true,gh:=some (r 14,1)}:Bl)
   rw[r5,r6];exact hΛ.2
theorem okS_s {Λ:Lp} {l n:Nat} (h1:Nat.blt l n=true) (h2:Nat.blt (l+1) n=true):okS n (Λ.s l)=true:=by
 rcases Λ with w|⟨K,mm,st,B⟩
 ·cases w
  ·rfl
  ·show (Nat.blt l n&&Nat.blt (l+1) n)=true;rw[h1,h2];rfl
 ·show (Nat.blt l n&&Nat.blt (l+1) n)=true;rw[h1,h2];rfl
theorem okH_15 {p:List Nd} {E:List Nat} {D:Cd} {m:Nat} {Λ:Lp} (hZ:ZOK Λ.K):okH 15 ((0,some (cdB p E 9 m (Λ.s 11)))::(9,ccB 9 D)::Λ.h 11 13 14)=true:=by
 refine okH_cd (okS_s rfl rfl) rfl rfl rfl (okH_op rfl rfl ?_)
 rcases Λ with w|⟨K,mm,st,B⟩
 ·cases w<;>rfl
 ·exact okH_cons rfl (okB_lp (hZ.all 15) rfl rfl rfl) rfl
theorem nodup4 {c l b:Nat} (h:nodupB [0,c,l,b]=true):c≠0∧l≠0∧b≠0∧c≠l∧c≠b∧l≠b:=by
 simp[nodupB] at h;omega
theorem r_inj {r:Nat→Nat} {c l b:Nat} (r0:r 0=0) (r1:r 9=c) (r3:r 11=l) (r5:r 13=b) (hn:nodupB [0,c,l,b]=true) {i j:Nat} (hi:i=0∨i=9∨i=11∨i=13) (hj:j=0∨j=9∨j=11∨j=13):i=j∨r i≠r j:=by
 have:=nodup4 hn
 rcases hi with rfl|rfl|rfl|rfl<;>rcases hj with rfl|rfl|rfl|rfl<;>first|exact .inl rfl|(refine .inr ?_;omega)
theorem okSt_st {tbl:List Nat} {e:List V} {p:List Nd} {E:List Nat} {D:Cd} {m:Nat} {Λ:Lp} {c l b:Nat} (ht:tbl.length=15) (he:e.all (okV 15)=true) (hid:((List.range 9).all fun i=>Nat.beq (tbl.getD i 0) i)=true) (r0:rn tbl 0 0=0) (r1:rn tbl 0 9=c) (r3:rn tbl 0 11=l) (r5:rn tbl 0 13=b) (hn:nodupB [0,c,l,b]=true) (hZ:ZOK Λ.K):
 okSt 9 tbl e ((0,some (cdB p E 9 m (Λ.s 11)))::(9,ccB 9 D)::Λ.h 11 13 14)=true:=by
 have hi:idB 9 tbl ((0,some (cdB p E 9 m (Λ.s 11)))::(9,ccB 9 D)::Λ.h 11 13 14)=true:=by
  unfold idB;rw[hid,Bool.true_and]
  refine List.all_eq_true.2 fun x hx=>?_
  split
  ·rename_i bl e2
   rw[(st_key hx).2 bl e2];simp
  ·rfl
 unfold okSt;rw[ht,he,okH_15 hZ,injB_of fun x hx y hy=> .inr (.inr (r_inj r0 r1 r3 r5 hn (st_key hx).1 (st_key hy).1)),hi];rfl
section
variable {P:Program} {env:List V}
theorem Fin.st {fn:Func} {p:List Nd} {E:List Nat} {C':Cd} {Λ Λ':Lp} {e:Exit} {M:Hp} {m:Nat} (c l b b':Nat) (Λ1:Lp) {D:Cd} (hx:e=.ret∨e=.normal) (h0:lk M 0=some (cdB p E c D.length (Λ1.s l))) (h1:lk M c=ccB c D) (hΛ:LpAt M l b b' Λ1.K Λ1)
 (hr:resV P fn env M=some (.tup [])) (hn:nodupB [0,c,l,b]=true) (hZ:ZOK Λ1.K) (hD:D=C') (hL:Λ1=Λ'):Fin P fn 9 .any 15 (slL' p E C' Λ Λ') e env m M:=by
 subst hD;subst hL;refine⟨hx,.tup [],[c,c+1,l,l+1,b,b'],VLe.any _,EndOK.move hr ?_ rfl ?_ rfl ?_ ?_⟩
 ·have:=memP_st (r:=rn (List.range 9++[c,c+1,l,l+1,b,b']) 0) c l b b' rfl rfl rfl rfl rfl rfl rfl hZ h0 h1 hΛ
  rcases Λ with w|⟨K,mm,st,B⟩
  ·cases w<;>exact this
  ·exact this
 ·have:=okH_15 (p:=p) (E:=E) (D:=D) (m:=D.length) hZ
  rcases Λ with w|⟨K,mm,st,B⟩
  ·cases w<;>exact this
  ·exact this
 ·refine injB_of fun x hx y hy=>?_
  have key:∀ z∈slL' p E D Λ Λ1,z.2=none∨(z.1=0∨z.1=9∨z.1=11∨z.1=13):=by
   intro z hz
   rcases List.mem_cons.1 hz with rfl|hz
   ·exact .inr (.inl rfl)
   ·rcases List.mem_cons.1 hz with rfl|hz
    ·exact .inl rfl
    ·rcases List.mem_append.1 hz with hz|hz
     ·exact .inl (Lp.off_none hz)
     ·exact .inr (st_key (p:=p) (E:=E) (D:=D) (m:=0) (s:=.unk) (.tail _ hz)).1
  rcases key x hx with h|h
  ·exact .inl h
  ·rcases key y hy with g|g
   ·exact .inr (.inl g)
   ·exact .inr (.inr (r_inj rfl rfl rfl rfl hn h g))
 ·refine mvB_of fun z hz bl hb=>?_
  rcases List.mem_cons.1 hz with rfl|hz
  ·cases hb;rfl
  ·rcases List.mem_cons.1 hz with rfl|hz
   ·cases hb
   ·rcases List.mem_append.1 hz with hz|hz
    ·rw[Lp.off_none hz] at hb;cases hb
    ·exact (st_key (p:=p) (E:=E) (D:=D) (m:=0) (s:=.unk) (.tail _ hz)).2 bl hb
theorem Fin.stP {fn:Func} {p:List Nd} {E:List Nat} {C':Cd} {Λ Λ':Lp} {e:Exit} {M:Hp} {m:Nat} (c l b b':Nat) (Λ1:Lp) {D:Cd} {q:Nat} (hx:e=.ret∨e=.normal) (h0:lk M 0=some (cdB p E c q (Λ1.s l))) (hq:q=D.length) (h1:lk M c=ccB c D) (hΛ:LpAt M l b b' Λ1.K Λ1)
 (hr:resV P fn env M=some (.tup [])) (hn:nodupB [0,c,l,b]=true) (hZ:ZOK Λ1.K) (hD:D=C') (hL:Λ1=Λ'):Fin P fn 9 .any 15 (slL' p E C' Λ Λ') e env m M:=by
 subst hq;exact Fin.st c l b b' Λ1 hx h0 h1 hΛ hr hn hZ hD hL
end
section
variable {P:Program} {ops:Array Oper} {d:Bool} {acc:List Row} {os:List Oper} {o:Oper} {env:List V} {n:Nat} {L:Hp} {R:Post} {f:FuncId} {xs:Array Operand}
theorem CallG.cl {p:List Nd} {E:List Nat} {C C':Cd} {s:S} (c l:Nat) (s1:S) {args0:List V} {v0:V} {q:Nat} (sc:FC P f args0 5 (cdL p E C s) v0 7 (cdL' p E C' s)) {args1:List V} {v:V}
 (hl0:lk L 0=some (cdB p E c q s1)) (hq:q=C.length) (hl1:lk L c=ccB c C) (hs:okS 5 s=true) (hr:renS (rn [0,c,c+1,l,l+1] n) s=s1) (h0:Nat.beq 0 c=false) (hold:oldB [0,c,c+1,l,l+1] n 7=true) (hal:aliB [0,c,c+1,l,l+1] (cdL p E C s)=true)
 (k1:args0.all (okV 5)=true) (ha:xs.toList.map (ev env)=args1) (hle:All2 VLe args1 (args0.map (renV (rn [0,c,c+1,l,l+1] n)))) (hw:want ops env o=some true) (hv:frcV (renV (rn [0,c,c+1,l,l+1] n) v0) some=some v)
 (k:RegX P ops d (pushR d o [0,c,c+1,l,l+1] [(0,some (cdB p E n C'.length s1)),(c,none),(n,ccB n C')] acc) os (setD env o.dst v) (n+2) (puts L [(0,some (cdB p E n C'.length s1)),(c,none),(n,ccB n C')]) R):CallG P ops d acc o f xs os env n L R:=by
 subst hq
 have hne:c≠0:=fun e=>by subst e;cases h0
 refine CallG.mo [0,c,c+1,l,l+1] sc k1 (okH_cd hs rfl rfl rfl (okH_op rfl rfl rfl)) ?_ hal ha hle ?_ hw hv ?_ k
 ·show (true&&true&&true&&oldB [0,c,c+1,l,l+1] n 7)=true
  rw[hold];rfl
 ·refine⟨⟨rfl,cdB p E c C.length s1,?_,?_,fun h=>h⟩,FitP.op rfl ?_ trivial⟩
  ·show lk (res _ L) 0=_
   rw[lk_res,if_pos (by simp)];exact hl0
  ·show ({cells:=[_,_,.row c (c+1) C.length,renS (rn [0,c,c+1,l,l+1] n) s],ty:=72}:Bl)=_
   rw[hr];rfl
  ·show lk (res _ L) c=_
   rw[lk_res,if_pos (by simp)];exact hl1
 ·show [(0,some ({cells:=[_,_,.row n (n+1) C'.length,renS (rn [0,c,c+1,l,l+1] n) s],ty:=72}:Bl)),(c,none),(n,renO (rn [0,c,c+1,l,l+1] n) (ccB 5 C'))]=_
  rw[hr,renO_op];rfl
theorem CallG.stP {p:List Nd} {E:List Nat} {C C':Cd} {Λ Λ':Lp} (c l b b':Nat) (K1:List S) {args0:List V} {v0:V} {q:Nat} (sc:FC P f args0 9 (slL p E C Λ) v0 15 (slL' p E C' Λ Λ')) {args1:List V} {v:V}
 (haf:∃ w B',Λ'=Λ.af w B') (hK:KOK (rn (stT c l b b') n) 9 K1 Λ)
 (hl0:lk L 0=some (cdB p E c q (Λ.s l))) (hq:q=C.length) (hl1:lk L c=ccB c C) (hΛ:LpAt L l b b' K1 Λ) (hold:oldB (stT c l b b') n 15=true) (hal:aliB (stT c l b b') (slL p E C Λ)=true)
 (k1:args0.all (okV 9)=true) (ha:xs.toList.map (ev env)=args1) (hle:All2 VLe args1 (args0.map (renV (rn (stT c l b b') n)))) (hw:want ops env o=some true) (hv:frcV (renV (rn (stT c l b b') n) v0) some=some v)
 (k:RegX P ops d (pushR d o (stT c l b b') (stW p E n c l b C' Λ Λ' K1) acc) os (setD env o.dst v) (n+6) (puts L (stW p E n c l b C' Λ Λ' K1)) R):CallG P ops d acc o f xs os env n L R:=by
 subst hq;exact CallG.st c l b b' K1 sc haf hK hl0 hl1 hΛ hold hal k1 ha hle hw hv k
end
theorem Lp.af_af (Λ:Lp) (w w':Bool) (B B':List Nat):(Λ.af w B).af w' B'=Λ.af (w||w') B':=by
 rcases Λ with w0|⟨K,mm,st,B0⟩
 ·show Lp.out ((w0||w)||w')=Lp.out (w0||(w||w'));rw[Bool.or_assoc]
 ·rfl
theorem Lp.af_mt {Λ:Lp} {lp:Int} {B:List Nat} (h:Λ.mt lp B) (w:Bool) (B':List Nat):(Λ.af w B').mt lp B':=by
 rcases Λ with w0|⟨K,mm,st,B0⟩
 ·trivial
 ·exact⟨h.1,rfl⟩
theorem Lp.af_ok {Λ:Lp} {lp:Int} {B:List Nat} {C:Cd} {n n' m:Nat} {R:Cd×List Nat} (hm:Λ.mt lp B) (h:Λ.ok C n) (g:GR m C B R) (hn:n'≤n) (w:Bool):(Λ.af w R.2).ok R.1 n':=by
 rcases Λ with w0|⟨K,mm,st,B0⟩
 ·trivial
 ·obtain⟨h1,h2,h3,h4,h5,h6⟩:=h
  obtain⟨_,rfl⟩:=hm;exact⟨h1,h2,Nat.lt_of_lt_of_le h3 g.bl,g.bn h4,g.br h5,by omega⟩
theorem Lp.ok_Z {Λ:Lp} {C:Cd} {n:Nat} (h:Λ.ok C n):ZOK Λ.K:=by
 rcases Λ with w0|⟨K,mm,st,B0⟩
 ·intro s hs;cases hs
 ·exact h.1
theorem Lp.af_0 {Λ:Lp} {lp:Int} {B:List Nat} (h:Λ.mt lp B):Λ.af false B=Λ:=by
 rcases Λ with w0|⟨K,mm,st,B0⟩
 ·show Lp.out (w0||false)=_;rw[Bool.or_false]
 ·rw[Lp.af,h.2]
set_option maxRecDepth 100000
def Fo.all (P:Nd→Prop):Fo→Prop
 | .nil=>True
 | .cons x k n=>P x∧k.all P∧n.all P
set_option maxRecDepth 100000
set_option maxHeartbeats 2000000
abbrev Dgs:=List (Nat×Nat)
theorem list_ext {α:Type} {a b:List α} {d:α} (hl:a.length=b.length) (h:∀ i,i<a.length→a.getD i d=b.getD i d):a=b:=by
 refine List.ext_getElem hl fun i h1 h2=>?_
 have:=h i h1
 rwa [List.getD_eq_getElem?_getD,List.getD_eq_getElem?_getD,List.getElem?_eq_getElem h1,List.getElem?_eq_getElem h2] at this
set_option maxRecDepth 100000
theorem stmS_app:∀ (m:Bool) (t:Fo) (i:Nat) (lp r:Bool) (G:Dgs),stmS m t i lp r G=G++stmS m t i lp r []
 |true,.nil,_,_,_,G=>by simp[stmS]
 |false,.nil,_,_,_,G=>by simp[stmS]
 |true,.cons x k n,i,lp,r,G=>by
  simp only[stmS];rw[stmS_app true n (i+1+k.size) lp r (if x.op=4 then stmS false k (i+1) lp true G else G),stmS_app true n (i+1+k.size) lp r (if x.op=4 then stmS false k (i+1) lp true [] else [])];split
  ·rw[stmS_app false k (i+1) lp true G];simp only[List.append_assoc]
  ·simp
 |false,.cons x k n,i,lp,r,G=>by
  simp only[stmS]
  have h2:stG2 x.op i lp (stG1 i r G)=G++stG2 x.op i lp (stG1 i r []):=by
   unfold stG2 stG1
   split<;>split<;>simp
  rw[h2];generalize stG2 x.op i lp (stG1 i r [])=E;rw[stmS_app false n (i+1+k.size) lp _ (if x.op=31 then stmS true k (i+1) lp true (G++E) else if x.op=32 then stmS true k (i+1) true true (G++E) else G++E),stmS_app false n (i+1+k.size) lp _ (if x.op=31 then stmS true k (i+1) lp true E else if x.op=32 then stmS true k (i+1) true true E else E)];split
  ·rw[stmS_app true k (i+1) lp true (G++E),stmS_app true k (i+1) lp true E];simp only[List.append_assoc]
  ·split
   ·rw[stmS_app true k (i+1) true true (G++E),stmS_app true k (i+1) true true E];simp only[List.append_assoc]
   ·simp only[List.append_assoc]
theorem argG_app (p:List Nd) (lim:Int):∀ (c j:Nat) (G:Dgs),argG p lim c j G=G++argG p lim c j []
 |0,_,G=>by simp[argG]
 |c+1,j,G=>by
  simp only[argG];rw[argG_app p lim c (j+1) (if (p.getD j dN).op=7∧lim≤numN p j then G++[(j,9)] else G),argG_app p lim c (j+1) (if (p.getD j dN).op=7∧lim≤numN p j then []++[(j,9)] else [])]
  split<;>simp
theorem metG_app (p:List Nd) (bl:Fo) (i:Nat) (G:Dgs):metG p bl i G=G++metG p bl i []:=by
 unfold metG;rw[stmS_app _ _ _ _ _ (argG p _ _ _ G),stmS_app _ _ _ _ _ (argG p _ _ _ []),argG_app p _ _ _ G,List.append_assoc]
theorem unitsG_app (p:List Nd) (len w:Int):∀ (t:Fo) (i:Nat) (bit:Int) (G:Dgs),unitsG p len w t i bit G=G++unitsG p len w t i bit []
 | .nil,_,_,G=>by simp[unitsG]
 | .cons x k n,i,bit,G=>by
   simp only[unitsG];split
   ·simp
   ·split
    ·exact unitsG_app p len w n _ _ G
    ·rw[unitsG_app p len w n _ _ (if len<((bit+numN p (i+2)-1).tdiv (8*w)+1)*w then G++[(i,7)] else G),unitsG_app p len w n _ _ (if len<((bit+numN p (i+2)-1).tdiv (8*w)+1)*w then []++[(i,7)] else [])]
     split<;>simp
theorem fieldG_app (p:List Nd) (F:List (By×Nat)) (sc:Pth) (bl:Fo) (i:Nat) (G:Dgs):fieldG p F sc bl i G=G++fieldG p F sc bl i []:=by
 unfold fieldG;split
 ·simp
 ·split
  ·simp
  ·exact unitsG_app _ _ _ _ _ _ _
theorem nodeG_app (p:List Nd) (F:List (By×Nat)) (sc:Pth) (k:Fo) (i:Nat) (G:Dgs):nodeG p F sc k i G=G++nodeG p F sc k i []:=by
 unfold nodeG;split
 ·split<;>simp
 ·split
  ·exact fieldG_app _ _ _ _ _ _
  ·split
   ·split<;>simp
   ·split
    ·exact metG_app _ _ _ _
    ·simp
def nodeE (p:List Nd) (F:List (By×Nat)) (T:List Pth) (t:Fo) (i:Nat):Dgs:=(if oorB p i then [(i,4)] else [])++nodeG p F (T.getD i z0) (t.kid 0 i) i []
theorem rowG_app (p:List Nd) (F:List (By×Nat)) (T:List Pth) (t:Fo):∀ (c i:Nat) (G:Dgs),rowG p F T t c i G=G++(List.range' i c).flatMap (nodeE p F T t)
 |0,i,G=>by simp[rowG]
 |c+1,i,G=>by
  simp only[rowG];rw[rowG_app p F T t c (i+1),nodeG_app,List.range'_succ,List.flatMap_cons];unfold nodeE
  split<;>simp
def Inn (lo hi:Nat) (E:Dgs):Prop:=E.Nodup∧∀ d∈E,lo≤d.1∧d.1<hi
theorem Inn.one (i c:Nat):Inn i (i+1) [(i,c)]:=⟨by simp,fun d hd=>by simp at hd;subst hd;simp only;omega⟩
set_option maxRecDepth 100000
def C6 (E:Dgs):Prop:=∀ d∈E,d.2=6
theorem C6.left {A B:Dgs} (h:C6 (A++B)):C6 A:=fun d hd=>h d (List.mem_append_left _ hd)
theorem C6.right {A B:Dgs} (h:C6 (A++B)):C6 B:=fun d hd=>h d (List.mem_append_right _ hd)
theorem stm_lp:∀ (N:Nat) (t:Fo) (i n:Nat) (r:Bool) (G:Dgs),t.size<N→t.V (List.replicate n (false,83))→C6 (stmS false t i false r G)→lpK 0 t
 |0,t,i,n,r,G,h,_,_=>absurd h (Nat.not_lt_zero _)
 |N+1,.nil,i,n,r,G,_,_,_=>trivial
 |N+1,.cons x k m,i,n,r,G,hN,hv,hc=>by
  simp only[Fo.size] at hN
  cases n with
  |zero=>exact absurd hv (by simp[Fo.V])
  |succ n=>
   rw[List.replicate_succ] at hv;simp only[stmS] at hc;rw[stmS_app] at hc;have hX:=hc.left;have hm:=stm_lp N m _ n _ _ (by omega) hv.2.2 hc.right
   have h34:x.op≠34∧x.op≠35:=by
    refine⟨fun e=>?_,fun e=>?_⟩
    ·rw[if_neg (by omega),if_neg (by omega)] at hX
     unfold stG2 at hX;rw[if_pos ⟨by omega,rfl⟩] at hX;have:=hX.right (i,8) (List.mem_singleton.2 rfl);cases this
    ·rw[if_neg (by omega),if_neg (by omega)] at hX
     unfold stG2 at hX;rw[if_pos ⟨by omega,rfl⟩] at hX;have:=hX.right (i,8) (List.mem_singleton.2 rfl);cases this
   refine⟨h34,fun h31=>?_,hm⟩;rw[if_pos h31] at hX;obtain⟨e,ke,rest,rfl,he,hrV,hr1,_⟩:=stm_kids hv (.inl h31);simp only[stmS,if_neg he] at hX
   cases rest with
   |nil=>simp only[Fo.cnt] at hr1;omega
   |cons b1 l1 r2=>
    simp only[Fo.size] at hN;rw[Fo.cnt,List.replicate_succ] at hrV;have hb1:b1.op=4:=hrV.1.1;simp only[stmS,if_pos hb1] at hX;rw[stmS_app] at hX;have q1:=stm_lp N l1 _ _ _ _ (by omega) hrV.2.1 hX.left;have hX2:=hX.right;refine⟨q1,?_⟩
    cases r2 with
    |nil=>trivial
    |cons b2 l2 r3=>
     simp only[Fo.size] at hN;have hv2:=hrV.2.2;rw[Fo.cnt,List.replicate_succ] at hv2;have hb2:b2.op=4:=hv2.1.1;simp only[stmS,if_pos hb2] at hX2;rw[stmS_app] at hX2;exact stm_lp N l2 _ _ _ _ (by omega) hv2.2.1 hX2.left
theorem big_no {p:List Nd}:∀ {K i:Nat},bigB p i K=false→∀ j,j<K→numN p (i+j)≤255
 |0,_,_,j,h=>absurd h (Nat.not_lt_zero _)
 |K+1,i,h,j,hj=>by
  simp only[bigB,Bool.or_eq_false_iff,decide_eq_false_iff_not] at h
  cases j with
  |zero=>rw[Nat.add_zero];omega
  |succ j=>
   have:=big_no h.2 j (by omega)
   rwa [show i+(j+1)=i+1+j by omega]
theorem c6_nok {p:List Nd} (hI:wfI p) {F:List (By×Nat)} {T:List Pth} {t:Fo} {G:Dgs} (h:C6 (rowG p F T t p.length 0 G)):NOK p∧∀ j,j<p.length→(p.getD j dN).op=14→C6 (metG p (lastBl (t.kid 0 j)) j []):=by
 rw[rowG_app] at h
 have hn:∀ j,j<p.length→C6 (nodeE p F T t j):=fun j hj d hd=>h d (List.mem_append_right _ (List.mem_flatMap.2 ⟨j,by simp[hj],hd⟩))
 have ho:∀ j,j<p.length→oorB p j=false:=fun j hj=>by
  have:=(hn j hj).left
  cases e:oorB p j with
  |false=>rfl
  |true=>
   rw[e,if_pos rfl] at this;have:=this (j,4) (List.mem_singleton.2 rfl);cases this
 refine⟨⟨wfI_get hI,fun i hi h50=>?_,fun i hi h51=>?_⟩,fun j hj h14=>?_⟩
 ·have h1:=ho i hi
  rw[oor50 h50] at h1;simp only[Bool.or_eq_false_iff,decide_eq_false_iff_not] at h1;have h2:=(hn i hi).right;unfold nodeG at h2;rw[if_pos (.inl h50)] at h2
  have h3: ¬numN p (i+1)<(p.getD (i+2) dN).kids:=fun e=>by
   rw[if_pos e] at h2;have:=h2 (i,5) (List.mem_append_right _ (List.mem_singleton.2 rfl));cases this
  unfold numN at h1 h3;refine⟨by omega,by omega,fun j hj=>?_⟩;exact big_no h1.2 j (by omega)
 ·have h1:=ho i hi
  unfold oorB at h1
  repeat (first|rw[if_pos (by omega)] at h1|rw[if_neg (by omega)] at h1)
  simp only[decide_eq_false_iff_not] at h1;unfold numN at h1;omega
 ·have h2:=(hn j hj).right
  unfold nodeG at h2;rw[if_neg (by omega),if_neg (by omega),if_neg (by omega),if_pos h14] at h2;exact h2
theorem met_lp {p:List Nd} {bl:Fo} {i:Nat} (hv:bl.V (List.replicate bl.cnt (false,83))) (h:C6 (metG p bl i [])):lpK 0 bl:=stm_lp _ bl _ _ _ _ (Nat.lt_succ_self _) hv h
set_option maxRecDepth 100000
set_option maxHeartbeats 2000000
theorem VLe.pair {a b:S} {c:S} (h:SLe a b):VLe (.tup [.s a,.s c]) (.tup [.s b,.s c]):=VLe.tup ⟨fun φ x k=>h φ x k,fun φ x k=>k,trivial⟩
theorem Fin.nilC {P:Program} {fn:Func} {env:List V} {z:Int} {e:Exit} {M:Hp} {m:Nat} (hx:e=.ret∨e=.normal) (hr:resV P fn env M=some (.tup [.s (.slc none 0 (some 0)),.s (.int .i64 z)])):
 Fin P fn 0 (.tup [.s (.row 0 1 0),.s (.int .i64 z)]) 2 [(0,ccB 0 [])] e env m M:=
 ⟨hx,_,[0,1],VLe.pair SLe.nilrow,EndOK.by hr trivial rfl (okH_op rfl rfl rfl) rfl rfl⟩
theorem c6_at {G:Dgs} {k:Nat} (hk:k<G.length):G.getD k (0,0)∈G:=by
 rw[List.getD_eq_getElem?_getD,List.getElem?_eq_getElem hk];exact List.getElem_mem hk
theorem lower_no (p:List Nd) (G:Dgs) (hG:G.length≤1000000000) (hck:FC Tryz.prog 35 [nodes p] 0 [] (dgsV G) 0 []) (z:Int) (h6: ¬C6 G):
 FC Tryz.prog 12 [nodes p,nI z] 0 [] (.tup [.s (.row 0 1 0),.s (.int .i64 1)]) 2 [(0,ccB 0 [])]:=by
 refine FC.walk (by kernel_rfl) Tryz.func12 rfl rfl ?_
 repeat'(first|exact y0|refine y1 ?_|refine y2 ?_ ?_|(refine y8 ?_ ?_<;>intro h<;>try exact y6)|(refine wC ?_;first|refine wF 35 (pu hck ?_))|refine y3 ?_|refine y7 ?_ ?_|refine y4 ?_|(refine y9 ?_ ?_<;>intro h)|exact y5|fail)
 refine Ex.inv (σ:=Nat) (fun i=>[(14,nI (i:Nat))]) (fun _=>[]) (fun i=>i≤G.length∧∀ k,k<i→(G.getD k (0,0)).2=6) (fun i=>G.length-i) 0 rfl (fun _=>rfl) ⟨Nat.zero_le _,fun k hk=>absurd hk (Nat.not_lt_zero _)⟩ ⟨VLe.refl _,trivial⟩ trivial ?_;rintro i ⟨hi,hb⟩;by_cases hlt:i<G.length
 ·by_cases hc:(G.getD i (0,0)).2=6
  ·
   have hb':∀ k,k<i+1→(G.getD k (0,0)).2=6:=by
    intro k hk
    rcases Nat.lt_or_ge k i with h|h
    ·exact hb k h
    ·rw[show k=i by omega];exact hc
   repeat'(first|exact y0|refine y1 ?_|refine y2 ?_ ?_|(refine y8 ?_ ?_<;>intro h<;>try exact y6)|refine y3 ?_|refine y7 ?_ ?_|refine y4 ?_|(refine y9 ?_ ?_<;>intro h)|exact y5|fail)
   refine LoopR.move (i+1) ⟨hlt,hb'⟩ (by omega) [] rfl ?_ trivial rfl
   repeat' (first|exact VLe.refl _|exact VLe.any _|exact True.intro|exact VLe.of_eq (congrArg nI (by push_cast;omega))|refine⟨?_,?_⟩)
  ·
   repeat'(first|exact y0|refine y1 ?_|refine y2 ?_ ?_|(refine y8 ?_ ?_<;>intro h<;>try exact y6)|refine y3 ?_|refine y7 ?_ ?_|refine y4 ?_|(refine y9 ?_ ?_<;>intro h)|exact y5|fail)
   exact Fin.nilC (.inl rfl) rfl
 ·exfalso
  refine h6 fun d hd=>?_
  obtain⟨k,hk,rfl⟩:=List.mem_iff_getElem.1 hd;have:=hb k (by omega)
  rwa [List.getD_eq_getElem?_getD,List.getElem?_eq_getElem hk] at this
end Go.Proofs.YtbokilgdefkmiaaGreatDoor
