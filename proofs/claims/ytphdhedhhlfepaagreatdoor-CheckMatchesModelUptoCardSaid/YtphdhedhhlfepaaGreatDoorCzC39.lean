import Derived.Test.YtphdhedhhlfepaaGreatDoorCzC38
set_option linter.unusedSimpArgs false
set_option linter.unusedVariables false
namespace Go.Proofs.YtphdhedhhlfepaaGreatDoor
open Go Ab
set_option maxRecDepth 100000
section
variable {p:List Nd} {t:Fo}
theorem ovr_iff (q w len:Int):len<(q+1)*w↔8*len<(q+1)*(8*w):=by
 have:(q+1)*(8*w)=8*((q+1)*w):=by rw[←Int.mul_assoc,Int.mul_comm (q+1) 8,Int.mul_assoc]
 rw[this];omega
theorem unitsG_rg {len w:Int} {u:Fo} {j i c:Nat} {bit:Int} (h:(i,c)∈unitsG p len w u j bit []):i∈u.starts j:=by
 induction u generalizing j bit with
 |nil=>simp[unitsG] at h
 |cons x k n _ ih=>
  simp only[unitsG] at h;simp only[Fo.starts,List.mem_cons];split at h
  ·cases h
  ·split at h
   ·exact .inr (ih h)
   ·rw[unitsG_app] at h
    rcases List.mem_append.1 h with h|h
    ·split at h
     ·simp at h;exact .inl h.1
     ·cases h
    ·exact .inr (ih h)
theorem unitsG_mem (len w:Int):∀ (u:Fo) (j:Nat) (bit:Int),u.At p j→∀ i,i∈u.starts j→((i,7)∈unitsG p len w u j bit []↔(p.getD i dN).op≠19∧oorB p i=false∧ovrB p i len w (bitsR p (u.starts j) i bit)=true)
 | .nil,j,bit,_,i,h=>by simp[Fo.starts] at h
 | .cons x k n,j,bit,ha,i,h=>by
   have hx:=At.get ha;simp only[Fo.starts,List.mem_cons] at h;simp only[unitsG,Fo.starts,bitsR]
   have hbe:∀ w',(i,7)∈unitsG p len w n (j+1+k.size) w' []→j+1+k.size≤i:=fun w' q=>(starts_ge (unitsG_rg q)).1
   by_cases hi:i=j
   ·subst hi
    rw[if_pos rfl,hx];split
    ·rename_i ho;rw[ho];simp
    ·rename_i ho
     have ho:oorB p i=false:=by cases q:oorB p i<;>simp_all
     split
     ·rename_i h19
      constructor
      ·intro q;have:=hbe _ q;omega
      ·rintro⟨q,_⟩;exact absurd h19 q
     ·rename_i h19
      rw[unitsG_app,List.mem_append];unfold ovrB;simp only;rw[decide_eq_true_eq,←ovr_iff];constructor
      ·rintro (q|q)
       ·split at q
        ·exact⟨h19,ho,‹_›⟩
        ·cases q
       ·have:=hbe _ q;omega
      ·rintro⟨_,_,q⟩
       left;rw[if_pos q];simp
   ·have h:=h.resolve_left hi
    rw[if_neg (show ¬j=i from fun e=>hi e.symm),hx];split
    ·simp[ovrB]
    ·split
     ·exact unitsG_mem len w n _ _ ha.2.2.2 i h
     ·rw[unitsG_app,List.mem_append,unitsG_mem len w n _ _ ha.2.2.2 i h]
      refine⟨fun q=>q.resolve_left fun q=>?_,.inr⟩;split at q
      ·simp at q;exact hi q
      ·cases q
theorem fld_blk (ha:t.At p 0) (hv:t.V (List.replicate t.cnt (false,68))) {f:Nat} (hf:f<t.size) (h16:(p.getD f dN).op=16):
 f+4<t.size∧t.kid 0 (f+4)=lastBl (t.kid 0 f)∧(ctxT t (f+4)).pa=(f:Int)∧(lastBl (t.kid 0 f)).At p (f+5)∧(∀ b,b∈(t.kid 0 f).starts (f+1)→(p.getD b dN).op=4→b=f+4)∧∀ e∈(lastBl (t.kid 0 f)).starts (f+5),e<t.size∧(ctxT t e).pa=((f+4:Nat):Int)∧((p.getD e dN).op=18∨(p.getD e dN).op=19):=by
 obtain⟨u1,u2,u3,u4⟩:=unit_pa ha hv hf h16;obtain⟨_,q1,q2,_,_⟩:=node_kids ha hv hf (by omega);rw[h16,kinds_16] at q2;have hfs:=kid_size (t:=t) (Nat.zero_le f) (by omega);obtain⟨_,k5,_⟩:=kid_at ha hv (Nat.zero_le (f+4)) (by omega:f+4<0+t.size);have k5A:=k5.2.2.1;rw[u2] at k5A;obtain⟨b,_,hb2⟩:=args_last (c':=70) [110,105,105] (t.kid 0 f) (by decide) q2;have hbV:=(hb2 p (f+1) q1).2.2.1;refine⟨by omega,u2,u3,k5A,fun b hb h4=>?_,fun e he=>⟨?_,u4 e he,?_⟩⟩
 ·have:=blk_only (c':=70) [110,105,105] (t.kid 0 f) (f+1) b (by decide) q2 q1 hb h4
  simpa using this
 ·have:=starts_ge he;omega
 ·obtain⟨sl,hs,g⟩:=slot_start k5A hbV he
  have:=(List.mem_replicate.1 hs).2;subst this;exact acc_70 g.1.1
theorem mem7 (ha:t.At p 0) (hv:t.V (List.replicate t.cnt (false,68))) (hs:t.size=p.length) {i:Nat} (hi:i<t.size):(i,7)∈allG p t↔outB p t i=true:=by
 rw[mem_all ha hv hs];constructor
 ·rintro (⟨j,hj,h⟩|⟨j,hj,h⟩)
  ·rw[dclG_mem ha hj] at h
   rcases h with ⟨h,_⟩|⟨h,_⟩<;>cases h
  ·rw[mem_node ha hv hs hj] at h
   rcases h with ⟨h,_⟩|⟨h,_⟩|⟨h,_⟩|⟨h16,h1,h2,h3,h⟩|⟨_,h⟩
   ·cases h
   ·cases h
   ·cases h
   ·obtain⟨b1,b2,b3,b4,b5,b6⟩:=fld_blk ha hv hj h16
    have hst:=unitsG_rg h;obtain⟨c1,c2,c3⟩:=b6 i hst;rw[unitsG_mem _ _ _ _ _ b4 i hst] at h
    have hf:fldN t i=j:=by unfold fldN;rw[c2,Int.toNat_natCast,b3,Int.toNat_natCast]
    unfold outB;rw[hf,c2,Int.toNat_natCast,b2,if_pos ⟨c3.resolve_right h.1,h16,h1,h3,h.2.1,h2⟩];exact h.2.2
   ·rw[metG_mem] at h
    rcases h with h|h
    ·rw[argG_mem] at h;exact absurd h.1 (by simp only;omega)
    ·rcases stmS_code _ _ _ _ _ _ h with h|h<;>cases h
 ·intro h
  unfold outB at h;split at h
  ·rename_i hc
   obtain⟨h18,h16,h1,h3,h2,h5⟩:=hc;obtain⟨f,b,f1,f2,f3,f4,f5,f6,f7,f8,f9⟩:=unit_up ha hv hi h18
   have hf:fldN t i=f:=by unfold fldN;rw[f3,Int.toNat_natCast,f4,Int.toNat_natCast]
   rw[hf] at h h16 h1 h3 h5;obtain⟨b1,b2,b3,b4,b5,b6⟩:=fld_blk ha hv (show f<t.size by omega) h16;have hb:=b5 b f8 f5;rw[f3,Int.toNat_natCast,hb,b2] at h;rw[hb,b2] at f7;refine .inr ⟨f,by omega,(mem_node ha hv hs (by omega) _).2 (.inr (.inr (.inr (.inl ⟨h16,h1,h5,h3,?_⟩))))⟩;rw[unitsG_mem _ _ _ _ _ b4 i f7];exact⟨by omega,h2,h⟩
  ·cases h
theorem mem_met (ha:t.At p 0) (hv:t.V (List.replicate t.cnt (false,68))) (hs:t.size=p.length) {d:Nat×Nat} (hd:8≤d.2):d∈allG p t↔∃ M,M<t.size∧(p.getD M dN).op=14∧d∈metG p (lastBl (t.kid 0 M)) M []:=by
 rw[mem_all ha hv hs];constructor
 ·rintro (⟨j,hj,h⟩|⟨j,hj,h⟩)
  ·rw[dclG_mem ha hj] at h
   rcases h with ⟨h,_⟩|⟨h,_⟩<;>(rw[h] at hd;simp only at hd;omega)
  ·rw[mem_node ha hv hs hj] at h
   rcases h with ⟨h,_⟩|⟨h,_⟩|⟨h,_⟩|⟨_,_,_,_,h⟩|⟨h1,h⟩
   ·rw[h] at hd;simp only at hd;omega
   ·rw[h] at hd;simp only at hd;omega
   ·rw[h] at hd;simp only at hd;omega
   ·have:=unitsG_code7 _ _ _ _ _ _ h;omega
   ·exact⟨j,hj,h1,h⟩
 ·rintro⟨M,hM,h1,h2⟩
  exact .inr ⟨M,hM,(mem_node ha hv hs hM _).2 (.inr (.inr (.inr (.inr ⟨h1,h2⟩))))⟩
theorem mem8 (ha:t.At p 0) (hv:t.V (List.replicate t.cnt (false,68))) (hs:t.size=p.length) {i:Nat} (hi:i<t.size):(i,8)∈allG p t↔looB p t i=true:=by
 rw[mem_met ha hv hs (Nat.le_refl _)];unfold looB;rw[Bool.and_eq_true,decide_eq_true_eq,decide_eq_true_eq]
 have hAt:∀ M,M<t.size→(p.getD M dN).op=14→(lastBl (t.kid 0 M)).At p (M+6):=fun M hM h14=>by
  obtain⟨_,q1,q2,_,_⟩:=node_kids ha hv hM (by omega);rw[h14,kinds_14] at q2;obtain⟨b,_,hb2⟩:=args_last (c':=83) [115,105,105,105] (t.kid 0 M) (by decide) q2;have:=(hb2 p (M+1) q1).1.2.2.1
  simpa [Nat.add_assoc] using this
 constructor
 ·rintro⟨M,hM,h14,h⟩
  rw[metG_mem] at h
  rcases h with h|h
  ·rw[argG_mem] at h;exact absurd h.1 (by simp only;omega)
  ·obtain⟨q,hq,hsay⟩:=(stmS_visit false _ _ false true (hAt M hM h14) i 8).1 h
   have:=(visit_in ha hv hM h14 hq).2;subst this;unfold sayD at hsay
   rcases hsay with ⟨h,_⟩|⟨_,h1,h2⟩
   ·cases h
   ·exact⟨h1,by have:=of_decide_eq_false h2;omega⟩
 ·rintro⟨h1,h2⟩
  obtain⟨b,b1,b2,b3,b4⟩:=stm_blk ha hv hi (by omega);obtain⟨M,m1,m2,m3,m4⟩:=visit_at ha hv i hi b b1 b2 b3 b4;refine⟨M,by omega,m3,?_⟩;rw[metG_mem];exact .inr ((stmS_visit false _ _ false true (hAt M (by omega) m3) i 8).2 ⟨_,m4,.inr ⟨rfl,h1,decide_eq_false (by omega)⟩⟩)
theorem mem10 (ha:t.At p 0) (hv:t.V (List.replicate t.cnt (false,68))) (hs:t.size=p.length) {i:Nat} (hi:i<t.size):(i,10)∈allG p t↔unrB p t i=true:=by
 rw[mem_met ha hv hs (by simp only;omega)]
 have hAt:∀ M,M<t.size→(p.getD M dN).op=14→(lastBl (t.kid 0 M)).At p (M+6):=fun M hM h14=>by
  obtain⟨_,q1,q2,_,_⟩:=node_kids ha hv hM (by omega);rw[h14,kinds_14] at q2;obtain⟨b,_,hb2⟩:=args_last (c':=83) [115,105,105,105] (t.kid 0 M) (by decide) q2;have:=(hb2 p (M+1) q1).1.2.2.1
  simpa [Nat.add_assoc] using this
 constructor
 ·rintro⟨M,hM,h14,h⟩
  rw[metG_mem] at h
  rcases h with h|h
  ·rw[argG_mem] at h;exact absurd h.1 (by simp only;omega)
  ·obtain⟨q,hq,hsay⟩:=(stmS_visit false _ _ false true (hAt M hM h14) i 10).1 h
   have:=(visit_in ha hv hM h14 hq).2;subst this;unfold sayD at hsay
   rcases hsay with ⟨_,h⟩|⟨h,_⟩
   ·simpa using h
   ·cases h
 ·intro hu
  obtain⟨b,b1,b2,b3,b4⟩:∃ b,b<i∧(p.getD b dN).op=4∧i∈(t.kid 0 b).starts (b+1)∧accB 83 (p.getD i dN).op=true:=by
   have hu0:=hu;unfold unrB at hu
   rcases ctx_cases ha hi with ⟨_,h2⟩|⟨b,b1,b2,b3⟩
   ·rw[h2] at hu;simp[ini] at hu
   ·rw[b2,if_neg (by omega),Int.toNat_natCast] at hu
    split at hu
    ·rename_i h4
     obtain⟨c,n1,n2,_⟩:=blk_up ha hv (by omega) h4
     have hex:∀ l:List Nat,unrG p i l=true→∃ k∈l,(p.getD k dN).op=33∨(p.getD k dN).op=34∨(p.getD k dN).op=35:=by
      intro l
      induction l with
      |nil=>intro h;cases h
      |cons k l ih=>
       intro h;simp only[unrG] at h;split at h
       ·cases h
       ·split at h
        ·exact⟨k,List.mem_cons_self ..,‹_›⟩
        ·obtain⟨m,h1,h2⟩:=ih h
         exact⟨m,List.mem_cons_of_mem _ h1,h2⟩
     obtain⟨k,hk,ho⟩:=hex _ hu;have hc:=acc_stm (blk_kid ha hv (by omega) n1 hk) (.inr (.inr ho));subst hc;exact⟨b,b1,h4,b3,blk_kid ha hv (by omega) n1 b3⟩
    ·cases hu
  obtain⟨M,m1,m2,m3,m4⟩:=visit_at ha hv i hi b b1 b2 b3 b4;refine⟨M,by omega,m3,?_⟩;rw[metG_mem];exact .inr ((stmS_visit false _ _ false true (hAt M (by omega) m3) i 10).2 ⟨_,m4,.inl ⟨rfl,by rw[hu];rfl⟩⟩)
theorem mem9 (ha:t.At p 0) (hv:t.V (List.replicate t.cnt (false,68))) (hs:t.size=p.length) {i:Nat} (hi:i<t.size):(i,9)∈allG p t↔argB p t i=true:=by
 rw[mem_met ha hv hs (by simp only;omega)];unfold argB;rw[Bool.and_eq_true,decide_eq_true_eq,decide_eq_true_eq];constructor
 ·rintro⟨M,hM,h14,h⟩
  rw[metG_mem] at h
  rcases h with h|h
  ·rw[argG_mem] at h
   obtain⟨_,h1,h2,h3,h4⟩:=h;obtain⟨s1,s2⟩:=met_me ha hv hM h14;rw[s2 i (by simp only at h1;omega) (by simp only at h2;omega),Int.toNat_natCast];exact⟨h3,h4⟩
  ·rcases stmS_code _ _ _ _ _ _ h with h|h<;>cases h
 ·rintro⟨h7,h⟩
  obtain⟨M,m1,m2,m3,m4⟩:=body_me ha hv i hi (by rw[h7];decide);rw[m2,Int.toNat_natCast] at h;refine⟨M,by omega,m3,?_⟩;rw[metG_mem,argG_mem]
  have hM:M<t.size:=by omega
  obtain⟨s1,s2⟩:=met_me ha hv hM m3;refine .inl ⟨rfl,?_,by simp only;omega,h7,h⟩;show M+5≤i;obtain⟨_,q1,q2,_,_⟩:=node_kids ha hv hM (by omega);rw[m3,kinds_14] at q2
  rcases Nat.lt_or_ge i (M+5) with hlt|hge
  ·exfalso
   obtain⟨k,hk,rfl⟩:∃ k,k<4∧i=M+1+k:=⟨i-(M+1),by omega,by omega⟩
   obtain⟨l1,l2,l3⟩:=lead_at ha hv hM (k:=k) (by rw[m3];show k<5;omega)
   have hmem:M+1+k∈(t.kid 0 M).starts (M+1):=by
    rw[←l1,List.getD_eq_getElem?_getD,List.getElem?_eq_getElem l2];exact List.getElem_mem _
   obtain⟨⟨sb,sc⟩,g1,g2⟩:=slot_start q1 q2 hmem;cases sb
   ·have hacc:=g2.1.1
    rw[h7] at hacc;simp[slots,isBlkB] at g1
    rcases g1 with g1|g1|g1
    all_goals
     first
      |(rw[g1] at hacc;revert hacc;decide)
      |(revert hacc;decide)
   ·have:=g2.1.1
    omega
  ·exact hge
theorem mem_low (ha:t.At p 0) (hv:t.V (List.replicate t.cnt (false,68))) (hs:t.size=p.length) {i c:Nat} (hi:i<t.size) (hc:c≤6):
 (i,c)∈allG p t↔(c=2∧badN p t i=true)∨(c=3∧dupN p t i=true)∨(c=4∧oorB p i=true)∨(c=5∧tooB p i=true)∨(c=6∧noRB p t i=true):=by
 rw[mem_all ha hv hs];constructor
 ·rintro (⟨j,hj,h⟩|⟨j,hj,h⟩)
  ·rw[dclG_mem ha hj] at h
   rcases h with ⟨h,h2⟩|⟨h,h2⟩<;>cases h
   ·exact .inl ⟨rfl,h2⟩
   ·exact .inr (.inl ⟨rfl,h2⟩)
  ·rw[mem_node ha hv hs hj] at h
   rcases h with ⟨h,h2⟩|⟨h,h2⟩|⟨h,h2⟩|⟨_,_,_,_,h⟩|⟨h1,h⟩
   ·cases h;exact .inr (.inr (.inl ⟨rfl,h2⟩))
   ·cases h;exact .inr (.inr (.inr (.inl ⟨rfl,h2⟩)))
   ·cases h;exact .inr (.inr (.inr (.inr ⟨rfl,h2⟩)))
   ·have:=unitsG_code7 _ _ _ _ _ _ h;simp only at this;omega
   ·rw[metG_mem] at h
    rcases h with h|h
    ·rw[argG_mem] at h;have:=h.1;simp only at this;omega
    ·rcases stmS_code _ _ _ _ _ _ h with h|h<;>(simp only at h;omega)
 ·rintro (⟨rfl,h⟩|⟨rfl,h⟩|⟨rfl,h⟩|⟨rfl,h⟩|⟨rfl,h⟩)
  ·exact .inl ⟨i,hi,(dclG_mem ha hi _).2 (.inl ⟨rfl,h⟩)⟩
  ·exact .inl ⟨i,hi,(dclG_mem ha hi _).2 (.inr ⟨rfl,h⟩)⟩
  ·exact .inr ⟨i,hi,(mem_node ha hv hs hi _).2 (.inl ⟨rfl,h⟩)⟩
  ·exact .inr ⟨i,hi,(mem_node ha hv hs hi _).2 (.inr (.inl ⟨rfl,h⟩))⟩
  ·exact .inr ⟨i,hi,(mem_node ha hv hs hi _).2 (.inr (.inr (.inl ⟨rfl,h⟩)))⟩
theorem mem_code (ha:t.At p 0) (hv:t.V (List.replicate t.cnt (false,68))) (hs:t.size=p.length) {i c:Nat} (hi:i<t.size):(i,c)∈allG p t↔c∈codesL p t i:=by
 unfold codesL;rw[List.mem_filter,List.mem_range'_1];unfold addB
 rcases Nat.lt_or_ge c 7 with h|h
 ·rw[mem_low ha hv hs hi (by omega)]
  have:c=0∨c=1∨c=2∨c=3∨c=4∨c=5∨c=6:=by omega
  rcases this with rfl|rfl|rfl|rfl|rfl|rfl|rfl<;>simp
 ·rcases Nat.lt_or_ge c 11 with h2|h2
  ·have:c=7∨c=8∨c=9∨c=10:=by omega
   rcases this with rfl|rfl|rfl|rfl
   ·rw[mem7 ha hv hs hi];simp
   ·rw[mem8 ha hv hs hi];simp
   ·rw[mem9 ha hv hs hi];simp
   ·rw[mem10 ha hv hs hi];simp
  ·refine⟨fun q=>?_,fun q=>by omega⟩
   obtain⟨M,_,_,q⟩:=(mem_met ha hv hs (d:=(i,c)) (by simp only;omega)).1 q;rw[metG_mem] at q
   rcases q with q|q
   ·rw[argG_mem] at q;have:=q.1;simp only at this;omega
   ·rcases stmS_code _ _ _ _ _ _ q with q|q<;>(simp only at q;omega)
theorem node_lt (ha:t.At p 0) (hv:t.V (List.replicate t.cnt (false,68))) (hs:t.size=p.length) {d:Nat×Nat} (h:d∈allG p t):d.1<t.size:=by
 rcases Nat.lt_or_ge d.2 8 with hc|hc
 ·rw[mem_all ha hv hs] at h
  rcases h with ⟨j,hj,h⟩|⟨j,hj,h⟩
  ·rw[dclG_mem ha hj] at h
   rcases h with ⟨h,_⟩|⟨h,_⟩<;>(rw[h];exact hj)
  ·rw[mem_node ha hv hs hj] at h
   rcases h with ⟨h,_⟩|⟨h,_⟩|⟨h,_⟩|⟨h16,_,_,_,h⟩|⟨_,h⟩
   ·rw[h];exact hj
   ·rw[h];exact hj
   ·rw[h];exact hj
   ·exact ((fld_blk ha hv hj h16).2.2.2.2.2 d.1 (unitsG_rg (c:=d.2) h)).1
   ·rw[metG_mem] at h
    rcases h with h|h
    ·rw[argG_mem] at h;omega
    ·rcases stmS_code _ _ _ _ _ _ h with h|h<;>omega
 ·obtain⟨M,hM,h14,h⟩:=(mem_met ha hv hs hc).1 h
  obtain⟨s1,_⟩:=met_me ha hv hM h14;have hMs:=kid_size (t:=t) (Nat.zero_le M) (by omega);rw[metG_mem] at h
  rcases h with h|h
  ·rw[argG_mem] at h;omega
  ·have:=stmS_rg (i:=d.1) (c:=d.2) h;omega
theorem refG_pw:(refG p t).Pairwise dlt:=by
 have key:∀ l:List Nat,l.Pairwise (·<·)→(l.flatMap fun i=>(codesL p t i).map fun c=>(i,c)).Pairwise dlt:=by
  intro l
  induction l with
  |nil=>intro _;exact List.Pairwise.nil
  |cons i l ih=>
   intro h;rw[List.pairwise_cons] at h;rw[List.flatMap_cons,List.pairwise_append];refine⟨?_,ih h.2,fun a ha b hb=>?_⟩
   ·rw[List.pairwise_map]
    refine List.Pairwise.imp (fun hab=> .inr ⟨rfl,hab⟩) (List.Pairwise.filter _ (List.pairwise_lt_range'))
   ·obtain⟨c,_,rfl⟩:=List.mem_map.1 ha
    obtain⟨j,hj,hb⟩:=List.mem_flatMap.1 hb;obtain⟨c',_,rfl⟩:=List.mem_map.1 hb;exact .inl (h.1 j hj)
 exact key _ List.pairwise_lt_range
theorem dlt_irr (x:Nat×Nat): ¬dlt x x:=by unfold dlt;omega
theorem pw_ext:∀ {a b:Dgs},a.Pairwise dlt→b.Pairwise dlt→(∀ d,d∈a↔d∈b)→a=b
 |[],[],_,_,_=>rfl
 |[],y::b,_,_,h=>by have:=(h y).2 (List.mem_cons_self ..);cases this
 |x::a,[],_,_,h=>by have:=(h x).1 (List.mem_cons_self ..);cases this
 |x::a,y::b,h1,h2,h=>by
  rw[List.pairwise_cons] at h1 h2
  have hxy:x=y:=by
   have hx:=(h x).1 (List.mem_cons_self ..);have hy:=(h y).2 (List.mem_cons_self ..)
   rcases List.mem_cons.1 hx with e|hx
   ·exact e
   ·rcases List.mem_cons.1 hy with e|hy
    ·exact e.symm
    ·have q1:=h2.1 x hx
     have q2:=h1.1 y hy;unfold dlt at q1 q2;omega
  subst hxy;congr 1
  refine pw_ext h1.2 h2.2 fun d=>⟨fun hd=>?_,fun hd=>?_⟩
  ·rcases List.mem_cons.1 ((h d).1 (List.mem_cons_of_mem _ hd)) with e|q
   ·subst e;exact absurd (h1.1 d hd) (dlt_irr d)
   ·exact q
  ·rcases List.mem_cons.1 ((h d).2 (List.mem_cons_of_mem _ hd)) with e|q
   ·subst e;exact absurd (h2.1 d hd) (dlt_irr d)
   ·exact q
theorem check_same (ha:t.At p 0) (hv:t.V (List.replicate t.cnt (false,68))) (hs:t.size=p.length):srtD (allG p t)=refG p t:=by
 refine pw_ext (srtD_pw _ (allG_nodup ha hv hs)) refG_pw fun d=>?_
 rw[(srtD_perm (allG p t)).mem_iff];unfold refG;rw[List.mem_flatMap];constructor
 ·intro h
  have hd:=node_lt ha hv hs h;exact⟨d.1,List.mem_range.2 hd,List.mem_map.2 ⟨d.2,(mem_code ha hv hs hd).1 h,rfl⟩⟩
 ·rintro⟨i,hi,h⟩
  obtain⟨c,hc,rfl⟩:=List.mem_map.1 h;exact (mem_code ha hv hs (List.mem_range.1 hi)).2 hc
end
end Go.Proofs.YtphdhedhhlfepaaGreatDoor
