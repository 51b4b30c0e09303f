import Derived.Test.YtphdhedhhlfepaaGreatDoorCzC34
import Derived.Test.YtphdhedhhlfepaaGreatDoorCzC36
import Derived.Test.YtphdhedhhlfepaaGreatDoorCzC35
import Derived.Test.YtphdhedhhlfepaaGreatDoorCzC30
set_option linter.unusedSimpArgs false
set_option linter.unusedVariables false
namespace Go.Proofs.YtphdhedhhlfepaaGreatDoor
open Go Ab
set_option maxRecDepth 100000
theorem kinds_gen {Q:Int→UInt8→Bool} (h1:∀ op∈opsL,(formB op).2.all (Q op)=true) (h5:Q 5 101=true) (h33:Q 33 101=true) (h31:(Q 31 101&&Q 31 83)=true) {c op kids:Int} (h:accB c op=true):∀ b∈(kindsB op kids).1,Q op b=true:=by
 have he7:∀ n:Nat,∀ b∈e7.take n,b=101:=fun n b hb=>by
  have:=List.mem_of_mem_take hb;unfold e7 at this
  simpa using this
 unfold kindsB;split
 ·rename_i e;subst e
  split
  ·intro b hb;simp at hb
  ·intro b hb;rw[he7 _ b hb];exact h5
 ·split
  ·rename_i e;subst e
   split
   ·intro b hb;simp at hb
   ·intro b hb;rw[he7 _ b hb];exact h33
  ·split
   ·rename_i e
    obtain⟨e,_⟩:=e;subst e;simp only[Bool.and_eq_true] at h31
    intro b hb;simp at hb;rcases hb with rfl|rfl
    ·exact h31.1
    ·exact h31.2
   ·rename_i n5 n33 n31
    rcases acc_ops h with h|h
    ·exact fun b hb=>List.all_eq_true.1 (h1 op h) b hb
    ·rcases h with rfl|rfl|rfl|rfl|rfl|rfl
     all_goals
      first
       |exact absurd rfl n5
       |(rw[show (formB _).2=[] by decide+kernel];intro b hb;simp at hb)
def qUnit (op:Int) (b:UInt8):Bool:=decide (b≠70)||decide (op=16∨op=17)
def qBody (op:Int) (b:UInt8):Bool:=(decide (b≠83)||decide (op=14∨op=31∨op=32))&&(decide (b≠101∧b≠116)||decide (op=5∨30≤op∧op≤42∨60≤op∧op≤88))
theorem kinds_unit {c op kids:Int} (h:accB c op=true):∀ b∈(kindsB op kids).1,qUnit op b=true:=kinds_gen (by decide+kernel) (by decide) (by decide) (by decide) h
theorem kinds_body {c op kids:Int} (h:accB c op=true):∀ b∈(kindsB op kids).1,qBody op b=true:=kinds_gen (by decide+kernel) (by decide) (by decide) (by decide) h
theorem slots_mem {ks:By} {sl:Bool×Int} (h:sl∈slots ks):∃ b∈ks,sl=(isBlkB (b.toNat:Int),(b.toNat:Int)):=by
 obtain⟨b,hb,e⟩:=List.mem_map.1 h;exact⟨b,hb,e.symm⟩
abbrev NodeV (p:List Nd) (t:Fo) (j:Nat) (sl:Bool×Int):Prop:=(Fo.cons (p.getD j dN) (t.kid 0 j) .nil).V [sl]
theorem slot_start {p:List Nd}:∀ {t:Fo} {j i:Nat} {cs:List (Bool×Int)},t.At p j→t.V cs→i∈t.starts j→∃ sl∈cs,(Fo.cons (p.getD i dN) (t.kid j i) .nil).V [sl]
 | .nil,_,_,_,_,_,h=>by simp[Fo.starts] at h
 | .cons x k n,j,i,cs,ha,hv,h=>by
   simp only[Fo.starts,List.mem_cons] at h;have hx:=At.get ha
   obtain⟨sl,cs',rfl,hv1,hv2⟩:∃ sl cs',cs=sl::cs'∧(Fo.cons x k .nil).V [sl]∧n.V cs':=by
    match cs,hv with
    |(true,c)::cs',⟨h1,h2,h3⟩=>exact⟨_,_,rfl,⟨h1,h2,trivial⟩,h3⟩
    |(false,c)::cs',⟨h1,h2,h3⟩=>exact⟨_,_,rfl,⟨h1,h2,trivial⟩,h3⟩
   unfold Fo.kid;by_cases e:i=j
   ·subst e
    rw[if_pos rfl,hx];exact⟨sl,List.mem_cons_self ..,hv1⟩
   ·have h:=h.resolve_left e
    have:=starts_ge h;rw[if_neg e,if_neg (by omega)];obtain⟨s,hs,g⟩:=slot_start ha.2.2.2 hv2 h;exact⟨s,List.mem_cons_of_mem _ hs,g⟩
section
variable {p:List Nd} {t:Fo}
theorem slot_kid (ha:t.At p 0) {i:Nat} (hi:i<t.size) {sl:Bool×Int} (hv:NodeV p t i sl) {cs:List (Bool×Int)} (hvt:t.V cs) {j:Nat} (hj:j∈(t.kid 0 i).starts (i+1)):
 ∃ sl',NodeV p t j sl'∧((sl.1=true∧sl'=(false,sl.2)∧(p.getD i dN).op=4)∨(sl.1=false∧accB sl.2 (p.getD i dN).op=true∧sl'∈slots (kindsB (p.getD i dN).op (p.getD i dN).kids).1)):=by
 obtain⟨_,h1,_⟩:=kid_at ha hvt (Nat.zero_le i) (by omega:i<0+t.size);have hk:=h1.2.2.1;have hr:=starts_ge hj;have e:=(kid_kid ha (Nat.zero_le i) (by omega) (by omega:i<j) (by omega) ini).1;obtain⟨b,c⟩:=sl;unfold NodeV;rw[e];cases b
 ·obtain⟨s,hs,g⟩:=slot_start hk hv.2.1 hj
  exact⟨s,g,.inr ⟨rfl,hv.1.1,hs⟩⟩
 ·obtain⟨s,hs,g⟩:=slot_start hk hv.2.1 hj
  have:=(List.mem_replicate.1 hs).2;subst this;exact⟨_,g,.inl ⟨rfl,rfl,hv.1.1⟩⟩
theorem acc4 {c:Int}:accB c 4=false:=by
 unfold accB
 repeat' (first|rfl|split)
theorem blk_slot {i:Nat} {sl:Bool×Int} (hv:NodeV p t i sl):sl.1=true↔(p.getD i dN).op=4:=by
 obtain⟨b,c⟩:=sl;cases b
 ·refine⟨fun h=>(by cases h),fun h=>?_⟩
  have:=hv.1.1;rw[h,acc4] at this;cases this
 ·exact⟨fun _=>hv.1.1,fun _=>rfl⟩
theorem par_slot (ha:t.At p 0) (hv:t.V (List.replicate t.cnt (false,68))) {j:Nat} (hj:j<t.size):
 ∃ sl,NodeV p t j sl∧((ctxT t j=ini∧sl=(false,68))∨∃ m slm,m<j∧ctxT t j=innI (p.getD m dN) (nameF (t.kid 0 m)) m (ctxT t m)∧j∈(t.kid 0 m).starts (m+1)∧NodeV p t m slm∧
   ((slm.1=true∧sl=(false,slm.2)∧(p.getD m dN).op=4)∨(slm.1=false∧accB slm.2 (p.getD m dN).op=true∧sl∈slots (kindsB (p.getD m dN).op (p.getD m dN).kids).1))):=by
 rcases ctx_cases ha hj with ⟨h1,h2⟩|⟨m,h2,h3,h4⟩
 ·obtain⟨sl,hs,g⟩:=slot_start ha hv h1
  exact⟨sl,g,.inl ⟨h2,(List.mem_replicate.1 hs).2⟩⟩
 ·obtain⟨slm,_,hm⟩:=kid_at ha hv (Nat.zero_le m) (by omega:m<0+t.size)
  obtain⟨sl,g1,g2⟩:=slot_kid ha (by omega) hm hv h4;exact⟨sl,g1,.inr ⟨m,slm,h2,(ctx_kid ha (by omega) h4).2.2,h4,hm,g2⟩⟩
theorem acc_unit {c:Int} (h:accB c 18=true):c=70:=by
 unfold accB at h
 repeat' (first|(split at h)|(first|exact absurd h (by decide)|assumption))
theorem acc_70 {op:Int} (h:accB 70 op=true):op=18∨op=19:=by
 unfold accB at h;simp[isElemB] at h;omega
theorem starts_sub (ha:t.At p 0) {m i:Nat} (hm:m<t.size) (hi:m<i) (hi2:i<m+1+(t.kid 0 m).size):i+1+(t.kid 0 i).size≤m+1+(t.kid 0 m).size:=by
 rw[(kid_kid ha (Nat.zero_le m) (by omega) hi hi2 ini).1];exact kid_size (by omega) (by omega)
theorem unit_up (ha:t.At p 0) (hv:t.V (List.replicate t.cnt (false,68))) {i:Nat} (hi:i<t.size) (hop:(p.getD i dN).op=18):
 ∃ f b:Nat,f<b∧b<i∧(ctxT t i).pa=(b:Int)∧(ctxT t b).pa=(f:Int)∧(p.getD b dN).op=4∧((p.getD f dN).op=16∨(p.getD f dN).op=17)∧i∈(t.kid 0 b).starts (b+1)∧b∈(t.kid 0 f).starts (f+1)∧
   ∀ k∈(t.kid 0 b).starts (b+1),(p.getD k dN).op=18∨(p.getD k dN).op=19:=by
 obtain⟨sl,h1,h2⟩:=par_slot ha hv hi
 have hs:sl=(false,70):=by
  obtain⟨b,c⟩:=sl
  have hb:b=false:=by
   cases b
   ·rfl
   ·exact absurd ((blk_slot h1).1 rfl) (by rw[hop];decide)
  subst hb;have:=acc_unit (by have:=h1.1.1;rwa [hop] at this);rw[this]
 subst hs
 rcases h2 with ⟨_,h⟩|⟨b,slm,hbi,hcb,hib,hnb,h⟩
 ·cases h
 have hb4:(p.getD b dN).op=4:=by
  rcases h with ⟨_,_,h⟩|⟨_,_,h⟩
  ·exact h
  ·obtain⟨x,_,e⟩:=slots_mem h
   simp only[Prod.mk.injEq] at e;rw[←e.2] at e;exact absurd e.1 (by decide)
 obtain⟨sb,g1,g2⟩:=par_slot ha hv (show b<t.size by omega);have hsb:=(blk_slot g1).2 hb4
 have hacc:∀ k∈(t.kid 0 b).starts (b+1),accB sb.2 (p.getD k dN).op=true:=fun k hk=>by
  obtain⟨s',q1,q2⟩:=slot_kid ha (by omega) g1 hv hk
  rcases q2 with ⟨_,q,_⟩|⟨q,_⟩
  ·subst q;exact q1.1.1
  ·rw[hsb] at q;cases q
 have h70:sb.2=70:=acc_unit (by have:=hacc i hib;rwa [hop] at this)
 rcases g2 with ⟨_,g⟩|⟨f,slf,hfb,hcf,hbf,hnf,g⟩
 ·rw[g] at hsb;cases hsb
 rcases g with ⟨_,g,_⟩|⟨_,g3,g4⟩
 ·rw[g] at hsb;cases hsb
 ·obtain⟨x,hx,e⟩:=slots_mem g4
  have hx70:x=70:=by
   rw[e] at h70;have h70:(x.toNat:Int)=70:=h70;have:=UInt8.toNat_inj (a:=x) (b:=70);exact this.1 (by simp;omega)
  have hq:=kinds_unit (kids:=(p.getD f dN).kids) g3 x hx;subst hx70;unfold qUnit at hq;simp at hq;refine⟨f,b,hfb,hbi,by rw[hcb];rfl,by rw[hcf];rfl,hb4,hq,hib,hbf,fun k hk=>acc_70 (by have:=hacc k hk;rwa [h70] at this)⟩
def bodyK (c:Int):Bool:=decide (c=83∨c=101∨c=116)
def bodyO (op:Int):Bool:=decide (op=5∨op=6∨op=7∨30≤op∧op≤42∨60≤op∧op≤88)
theorem acc_body {c op:Int} (h:accB c op=true) (hop:bodyO op=true):bodyK c=true:=by
 unfold bodyO at hop;rw[decide_eq_true_eq] at hop;unfold bodyK;rw[decide_eq_true_eq];unfold accB at h;split at h
 ·simp at h;omega
 split at h
 ·simp at h;omega
 split at h
 ·omega
 split at h
 ·omega
 split at h
 ·simp[isDataB] at h;omega
 split at h
 ·simp[isDataB] at h;omega
 split at h
 ·simp[isElemB] at h;omega
 split at h
 ·simp[isElemB] at h;omega
 split at h
 ·omega
 ·cases h
theorem qBody83 {op:Int} (h:qBody op 83=true):op=14∨op=31∨op=32:=by
 unfold qBody at h;simp at h;exact h
theorem body_me (ha:t.At p 0) (hv:t.V (List.replicate t.cnt (false,68))):∀ (i:Nat),i<t.size→bodyO (p.getD i dN).op=true→∃ M:Nat,M<i∧(ctxT t i).me=(M:Int)∧(p.getD M dN).op=14∧i<M+1+(t.kid 0 M).size:=by
 intro i
 induction i using Nat.strongRecOn with
 |ind i ih=>
  intro hi hb
  have h4: ¬(p.getD i dN).op=4:=by intro e;rw[e] at hb;revert hb;decide
  obtain⟨sl,h1,h2⟩:=par_slot ha hv hi
  have hs1:sl.1=false:=by
   cases e:sl.1
   ·rfl
   ·exact absurd ((blk_slot h1).1 e) h4
  obtain⟨sb,sc⟩:=sl;simp only at hs1;subst hs1;have hbk:bodyK sc=true:=acc_body h1.1.1 hb;have hbk':=hbk;unfold bodyK at hbk';rw[decide_eq_true_eq] at hbk'
  rcases h2 with ⟨_,hsl⟩|⟨m,slm,hmi,hc,him,hnm,h⟩
  ·simp only[Prod.mk.injEq,true_and] at hsl;omega
  have hri:=starts_ge him
  have hme:(p.getD m dN).op≠14→(ctxT t i).me=(ctxT t m).me:=fun hne=>by rw[hc];unfold innI;simp only;rw[if_neg hne]
  rcases h with ⟨_,hsl,hm4⟩|⟨_,hacc,hsl⟩
  ·obtain⟨slm',g1,g2⟩:=par_slot ha hv (show m<t.size by omega)
   have hsm:=(blk_slot g1).2 hm4
   have hbm:bodyK slm'.2=true:=by
    obtain⟨s',q1,q2⟩:=slot_kid ha (by omega) g1 hv him
    rcases q2 with ⟨_,q,_⟩|⟨q,_⟩
    ·subst q;exact acc_body q1.1.1 hb
    ·rw[hsm] at q;cases q
   rcases g2 with ⟨_,g⟩|⟨f,slf,hfm,hcf,hmf,hnf,g⟩
   ·rw[g] at hsm;cases hsm
   have hrm:=starts_ge hmf
   rcases g with ⟨_,g,_⟩|⟨_,g3,g4⟩
   ·rw[g] at hsm;cases hsm
   obtain⟨x,hx,e⟩:=slots_mem g4
   have hx83:x=83:=by
    rw[e] at hbm hsm;unfold bodyK at hbm;simp only[decide_eq_true_eq] at hbm;unfold isBlkB at hsm;simp only[decide_eq_true_eq] at hsm;have:=UInt8.toNat_inj (a:=x) (b:=83);exact this.1 (by simp;omega)
   have hq:=kinds_body (kids:=(p.getD f dN).kids) g3 x hx;subst hx83;have hq:=qBody83 hq;have hmm:=hme (by rw[hm4];decide);have hsub:=starts_sub ha (show f<t.size by omega) hfm (by omega);by_cases hf14:(p.getD f dN).op=14
   ·refine⟨f,by omega,?_,hf14,by omega⟩
    rw[hmm,hcf];unfold innI;simp only;rw[if_pos hf14]
   ·obtain⟨M,k1,k2,k3,k4⟩:=ih f (by omega) (by omega) (by unfold bodyO;rw[decide_eq_true_eq];omega)
    have hsub2:=starts_sub ha (show M<t.size by omega) k1 k4;refine⟨M,by omega,?_,k3,by omega⟩;rw[hmm,hcf,←k2];unfold innI;simp only;rw[if_neg hf14]
  ·obtain⟨x,hx,e⟩:=slots_mem hsl
   simp only[Prod.mk.injEq] at e;have hq:=kinds_body (kids:=(p.getD m dN).kids) hacc x hx
   have hne: ¬sc=83:=by
    intro e83;rw[←e.2,e83] at e;exact absurd e.1 (by decide)
   have hxx:x=101∨x=116:=by
    rcases hbk' with h|h|h
    ·exact absurd h hne
    ·left;exact (UInt8.toNat_inj (a:=x) (b:=101)).1 (by simp;omega)
    ·right;exact (UInt8.toNat_inj (a:=x) (b:=116)).1 (by simp;omega)
   have hop:(p.getD m dN).op=5∨30≤(p.getD m dN).op∧(p.getD m dN).op≤42∨60≤(p.getD m dN).op∧(p.getD m dN).op≤88:=by
    unfold qBody at hq
    rcases hxx with rfl|rfl<;>simpa using hq
   obtain⟨M,k1,k2,k3,k4⟩:=ih m (by omega) (by omega) (by unfold bodyO;rw[decide_eq_true_eq];omega);have hsub2:=starts_sub ha (show M<t.size by omega) k1 k4;refine⟨M,by omega,?_,k3,by omega⟩;rw[hme (by omega),k2]
end
set_option maxRecDepth 100000
set_option maxHeartbeats 1000000
section
variable {p:List Nd} {t:Fo} {cs:List (Bool×Int)}
def resT (p:List Nd) (t:Fo) (i k:Nat):Int:=resR (infL p t) (candP (ctxT t i).sc (parseP (p.getD (i+1+k) dN).str).1)
def noRB (p:List Nd) (t:Fo) (i:Nat):Bool:=
 if (p.getD i dN).op=16 then decide (resT p t i 0<0)||decide ((p.getD (resT p t i 0).toNat dN).op≠15)
 else if (p.getD i dN).op=17 then decide (resT p t i 0<0)||decide ((p.getD (resT p t i 0).toNat dN).op≠18)||decide (resT p t i 1<0)||decide ((p.getD (resT p t i 1).toNat dN).op≠18)
 else false
theorem infL_len (p:List Nd) (t:Fo):(infL p t).length=t.size:=by simp[infL]
theorem infL_at {i:Nat} (hi:i<t.size):(infL p t).getD i ini=ownT p t i:=by rw[List.getD_eq_getElem?_getD,infL_get hi];rfl
theorem own_sc (i:Nat):(ownT p t i).sc=(ctxT t i).sc:=by unfold ownT ownI;split<;>rfl
theorem own_me (i:Nat):(ownT p t i).me=(ctxT t i).me∧(ownT p t i).lo=(ctxT t i).lo∧(ownT p t i).pa=(ctxT t i).pa:=by unfold ownT ownI;split<;>exact⟨rfl,rfl,rfl⟩
theorem resT_bd (p:List Nd) (t:Fo) (i k:Nat):resT p t i k= -1∨∃ q:Nat,resT p t i k=(q:Int)∧q<t.size:=by
 have:=resR_bd (infL p t) (candP (ctxT t i).sc (parseP (p.getD (i+1+k) dN).str).1);rw[infL_len] at this;exact this
theorem resT_c (hp:p.length≤2048) (hw:wfS p) (hs:t.size=p.length) {i:Nat} (hi:i<t.size) (k:Nat) {q:Nat} (hq:q=i+1+k):
 FC Tryz.prog 131 [infV (infL p t),ptV ((infL p t).getD i ini).sc,sV (p.getD q dN).str] 0 [] (nI (resT p t i k)) 0 []:=by
 subst hq;rw[infL_at hi,own_sc];exact resR_c (infL p t) (by rw[infL_len];omega) _ (segOK_abs (ctxT_abs t i)) _ (wfS_get hw _)
theorem noR_c (hp:p.length≤2048) (hw:wfS p) (ha:t.At p 0) (hv:t.V cs) (hs:t.size=p.length) {i:Nat} (hi:i<t.size):FC Tryz.prog 89 [nodes p,infV (infL p t),nI i] 0 [] (bV (noRB p t i)) 0 []:=by
 have hk1:=kids_c hp ha hv hs hi;unfold noRB
 have hip:i<p.length:=by omega
 have hiL:i<(infL p t).length:=by rw[infL_len];exact hi
 have hlead:=fun k=>lead_at ha hv hi (k:=k)
 have hR:=fun k q=>resT_c (k:=k) (q:=q) hp hw hs hi
 have hB:=resT_bd p t i;by_cases h16:(p.getD i dN).op=16
 ·rw[if_pos h16]
  obtain⟨l1,l2,l3⟩:=hlead 0 (by rw[h16];decide);have r0:=hR 0 _ l1;have b0:=hB 0
  have hkp:((t.kid 0 i).starts (i+1)).getD 0 0<p.length:=by omega
  generalize (t.kid 0 i).starts (i+1)=ks at*;generalize resT p t i 0=ra at*;generalize infL p t=L at*;clear hlead hR hB;refine FC.walk (by kernel_rfl) Tryz.func89 rfl rfl ?_
  rcases b0 with rfl|⟨q,rfl,hq⟩
  ·rw[decide_eq_true (by decide),Bool.true_or]
   repeat'(first|exact y0|refine y1 ?_|refine y2 ?_ ?_|(refine y8 ?_ ?_<;>intro h<;>try exact y6)|(refine wC ?_;first|refine wF 81 (pu hk1 ?_)|refine wF 131 (pu r0 ?_))|refine Fin.bool (.inl rfl) rfl ?_|refine y3 ?_|refine y7 ?_ ?_|refine y4 ?_|(refine y9 ?_ ?_<;>intro h)|exact y5|fail)
   all_goals try first|exact l2|exact hkp|exact hiL|rfl
  ·have hqp:q<p.length:=by omega
   rw[Int.toNat_natCast,decide_eq_false (by omega),Bool.false_or]
   repeat'(first|exact y0|refine y1 ?_|refine y2 ?_ ?_|(refine y8 ?_ ?_<;>intro h<;>try exact y6)|(refine wC ?_;first|refine wF 81 (pu hk1 ?_)|refine wF 131 (pu r0 ?_))|refine Fin.bool (.inl rfl) rfl ?_|refine y3 ?_|refine y7 ?_ ?_|refine y4 ?_|(refine y9 ?_ ?_<;>intro h)|exact y5|fail)
   all_goals try first|exact l2|exact hkp|exact hiL|exact hqp|exact (decide_eq_true (by assumption)).symm|exact (decide_eq_false (fun h=>h (by assumption))).symm
 ·rw[if_neg h16]
  by_cases h17:(p.getD i dN).op=17
  ·rw[if_pos h17]
   obtain⟨l1,l2,l3⟩:=hlead 0 (by rw[h17];decide);obtain⟨m1,m2,m3⟩:=hlead 1 (by rw[h17];decide);have r0:=hR 0 _ l1;have b0:=hB 0;have r1:=hR 1 _ m1;have b1:=hB 1
   have hkp:((t.kid 0 i).starts (i+1)).getD 0 0<p.length:=by omega
   have hkp1:((t.kid 0 i).starts (i+1)).getD 1 0<p.length:=by omega
   generalize (t.kid 0 i).starts (i+1)=ks at*;generalize resT p t i 0=ra at*;generalize resT p t i 1=rb at*;generalize infL p t=L at*;clear hlead hR hB;refine FC.walk (by kernel_rfl) Tryz.func89 rfl rfl ?_
   rcases b0 with rfl|⟨q,rfl,hq⟩
   ·rw[decide_eq_true (by decide),Bool.true_or,Bool.true_or,Bool.true_or]
    repeat'(first|exact y0|refine y1 ?_|refine y2 ?_ ?_|(refine y8 ?_ ?_<;>intro h<;>try exact y6)|(refine wC ?_;first|refine wF 81 (pu hk1 ?_)|refine wF 131 (pu r0 ?_)|refine wF 131 (pu r1 ?_))|refine Fin.bool (.inl rfl) rfl ?_|refine y3 ?_|refine y7 ?_ ?_|refine y4 ?_|(refine y9 ?_ ?_<;>intro h)|exact y5|fail)
    all_goals try first|exact l2|exact m2|exact hkp|exact hkp1|exact hiL|rfl
   ·have hqp:q<p.length:=by omega
    rw[Int.toNat_natCast,decide_eq_false (by omega),Bool.false_or]
    rcases b1 with rfl|⟨q1,rfl,hq1⟩
    ·rw[decide_eq_true (show (-1:Int)<0 by decide),Bool.or_true,Bool.true_or]
     repeat'(first|exact y0|refine y1 ?_|refine y2 ?_ ?_|(refine y8 ?_ ?_<;>intro h<;>try exact y6)|(refine wC ?_;first|refine wF 81 (pu hk1 ?_)|refine wF 131 (pu r0 ?_)|refine wF 131 (pu r1 ?_))|refine Fin.bool (.inl rfl) rfl ?_|refine y3 ?_|refine y7 ?_ ?_|refine y4 ?_|(refine y9 ?_ ?_<;>intro h)|exact y5|fail)
     all_goals try first|exact l2|exact m2|exact hkp|exact hkp1|exact hiL|exact hqp|rfl
    ·have hqp1:q1<p.length:=by omega
     rw[Int.toNat_natCast,decide_eq_false (show ¬(q1:Int)<0 by omega),Bool.or_false]
     repeat'(first|exact y0|refine y1 ?_|refine y2 ?_ ?_|(refine y8 ?_ ?_<;>intro h<;>try exact y6)|(refine wC ?_;first|refine wF 81 (pu hk1 ?_)|refine wF 131 (pu r0 ?_)|refine wF 131 (pu r1 ?_))|refine Fin.bool (.inl rfl) rfl ?_|refine y3 ?_|refine y7 ?_ ?_|refine y4 ?_|(refine y9 ?_ ?_<;>intro h)|exact y5|fail)
     all_goals try first|exact l2|exact m2|exact hkp|exact hkp1|exact hiL|exact hqp|exact hqp1|(rw[decide_eq_true (p:=(p.getD q dN).op≠18) (by assumption)];rfl)|(rw[decide_eq_false (p:=(p.getD q dN).op≠18) (by omega),Bool.false_or];first|exact (decide_eq_true (by assumption)).symm|exact (decide_eq_false (by omega)).symm)
  ·rw[if_neg h17]
   refine FC.walk (by kernel_rfl) Tryz.func89 rfl rfl ?_
   repeat'(first|exact y0|refine y1 ?_|refine y2 ?_ ?_|(refine y8 ?_ ?_<;>intro h<;>try exact y6)|(refine wC ?_;first|refine wF 81 (pu hk1 ?_))|refine Fin.bool (.inl rfl) rfl ?_|refine y3 ?_|refine y7 ?_ ?_|refine y4 ?_|(refine y9 ?_ ?_<;>intro h)|exact y5|fail)
   all_goals rfl
def unrG (p:List Nd) (i:Nat):List Nat→Bool
 |[]=>false
 |k::l=>if k=i then false else if (p.getD k dN).op=33∨(p.getD k dN).op=34∨(p.getD k dN).op=35 then true else unrG p i l
def unrB (p:List Nd) (t:Fo) (i:Nat):Bool:=if (ctxT t i).pa<0 then false else if (p.getD (ctxT t i).pa.toNat dN).op=4 then unrG p i ((t.kid 0 (ctxT t i).pa.toNat).starts ((ctxT t i).pa.toNat+1)) else false
theorem unr_c (hp:p.length≤2048) (ha:t.At p 0) (hv:t.V cs) (hs:t.size=p.length) {i:Nat} (hi:i<t.size):FC Tryz.prog 92 [nodes p,infV (infL p t),nI i] 0 [] (bV (unrB p t i)) 0 []:=by
 have hip:i<p.length:=by omega
 have hiL:i<(infL p t).length:=by rw[infL_len];exact hi
 have hpa:((infL p t).getD i ini).pa=(ctxT t i).pa:=by rw[infL_at hi];exact (own_me i).2.2
 unfold unrB
 rcases ctx_cases ha hi with ⟨_,h2⟩|⟨m,h2,h3,h4⟩
 ·rw[h2] at hpa ⊢
  rw[if_pos (by decide)];have hpa:((infL p t).getD i ini).pa= -1:=hpa;generalize infL p t=L at*;refine FC.walk (by kernel_rfl) Tryz.func92 rfl rfl ?_
  repeat'(first|exact y0|refine y1 ?_|refine y2 ?_ ?_|(refine y8 ?_ ?_<;>intro h<;>try exact y6)|refine Fin.bool (.inl rfl) rfl ?_|refine y3 ?_|refine y7 ?_ ?_|refine y4 ?_|(refine y9 ?_ ?_<;>intro h)|exact y5|fail)
  all_goals try first|exact hiL|rfl|omega
 ·rw[h3] at hpa ⊢
  rw[if_neg (by omega),Int.toNat_natCast]
  have hmp:m<p.length:=by omega
  have hk1:=kids_c hp ha hv hs (show m<t.size by omega)
  have hkb:∀ j∈(t.kid 0 m).starts (m+1),j<p.length:=fun j hj=>by have:=(ctx_kid ha (show m<t.size by omega) hj).2.1;omega
  have hkn:((t.kid 0 m).starts (m+1)).length≤2048:=by
   have g1:=Fo.cnt_le (t.kid 0 m);have g2:=kid_size (t:=t) (Nat.zero_le m) (by omega);rw[starts_len];omega
  generalize (t.kid 0 m).starts (m+1)=ks at*;generalize infL p t=L at*;by_cases hop:(p.getD m dN).op=4
  ·rw[if_pos hop]
   generalize hR:unrG p i ks=R;refine FC.walk (by kernel_rfl) Tryz.func92 rfl rfl ?_
   repeat'(first|refine RegX.eqv 14 (congrArg nI hpa) rfl ?_|exact y0|refine y1 ?_|refine y2 ?_ ?_|(refine y8 ?_ ?_<;>intro h<;>try exact y6)|refine y3 ?_|refine y7 ?_ ?_|refine y4 ?_|(refine y9 ?_ ?_<;>intro h)|exact y5|fail)
   all_goals try exact hiL
   refine RegX.chunkN 7 rfl rfl ?_ (RegX.eqv 22 (congrArg nI hpa) rfl ?_)
   ·(repeat' (first|exact True.intro|exact hiL|refine And.intro ?_ ?_))
   repeat'(first|refine RegX.eqv 33 (congrArg nI hpa) rfl ?_|exact y0|refine y1 ?_|refine y2 ?_ ?_|(refine y8 ?_ ?_<;>intro h<;>try exact y6)|(refine wC ?_;first|refine wF 81 (pu hk1 ?_))|refine y3 ?_|refine y7 ?_ ?_|refine y4 ?_|(refine y9 ?_ ?_<;>intro h)|exact y5|fail)
   all_goals try first|exact hmp|exact hiL
   refine Ex.inv (σ:=Nat) (fun k=>[(8,nI k)]) (fun _=>[]) (fun k=>k≤ks.length∧i∈ks.drop k∧unrG p i (ks.drop k)=R) (fun k=>ks.length-k) 0 rfl (fun _=>rfl) ⟨Nat.zero_le _,h4,hR⟩ ⟨VLe.refl _,trivial⟩ trivial ?_;rintro k ⟨hk,hik,hI⟩
   have hkl:k<ks.length:=by
    rcases Nat.lt_or_ge k ks.length with h|h
    ·exact h
    ·rw[List.drop_eq_nil_of_le h] at hik;cases hik
   have hd:ks.drop k=ks.getD k 0::ks.drop (k+1):=by
    rw[List.drop_eq_getElem_cons hkl,List.getD_eq_getElem?_getD,List.getElem?_eq_getElem hkl];rfl
   have hgp:ks.getD k 0<p.length:=hkb _ (by rw[List.getD_eq_getElem?_getD,List.getElem?_eq_getElem hkl];exact List.getElem_mem _);rw[hd] at hik hI;simp only[unrG] at hI;by_cases he:ks.getD k 0=i
   ·rw[if_pos he] at hI
    repeat'(first|exact y0|refine y1 ?_|refine y2 ?_ ?_|(refine y8 ?_ ?_<;>intro h<;>try exact y6)|refine Fin.bool (.inl rfl) rfl ?_|refine y3 ?_|refine y7 ?_ ?_|refine y4 ?_|(refine y9 ?_ ?_<;>intro h)|exact y5|fail)
    all_goals try first|exact hkl|exact hI
   ·rw[if_neg he] at hI
    have hik:=(List.mem_cons.1 hik).resolve_left (fun h=>he h.symm);by_cases hs3:(p.getD (ks.getD k 0) dN).op=33∨(p.getD (ks.getD k 0) dN).op=34∨(p.getD (ks.getD k 0) dN).op=35
    ·rw[if_pos hs3] at hI
     repeat'(first|exact y0|refine y1 ?_|refine y2 ?_ ?_|(refine y8 ?_ ?_<;>intro h<;>try exact y6)|refine Fin.bool (.inl rfl) rfl ?_|refine y3 ?_|refine y7 ?_ ?_|refine y4 ?_|(refine y9 ?_ ?_<;>intro h)|exact y5|fail)
     all_goals try first|exact hkl|exact hgp|exact hI
    ·rw[if_neg hs3] at hI
     repeat'(first|exact y0|refine y1 ?_|refine y2 ?_ ?_|(refine y8 ?_ ?_<;>intro h<;>try exact y6)|refine y3 ?_|refine y7 ?_ ?_|refine y4 ?_|(refine y9 ?_ ?_<;>intro h)|exact y5|fail)
     all_goals try first|exact hkl|exact hgp
     refine LoopR.same (k+1) ⟨by omega,hik,hI⟩ (by omega) rfl ⟨VLe.of_eq (congrArg nI (by push_cast;rfl)),trivial⟩ trivial rfl rfl (by decide)
  ·rw[if_neg hop]
   refine FC.walk (by kernel_rfl) Tryz.func92 rfl rfl ?_
   repeat'(first|refine RegX.eqv 14 (congrArg nI hpa) rfl ?_|exact y0|refine y1 ?_|refine y2 ?_ ?_|(refine y8 ?_ ?_<;>intro h<;>try exact y6)|refine y3 ?_|refine y7 ?_ ?_|refine y4 ?_|(refine y9 ?_ ?_<;>intro h)|exact y5|fail)
   all_goals try exact hiL
   refine RegX.chunkN 7 rfl rfl ?_ (RegX.eqv 22 (congrArg nI hpa) rfl ?_)
   ·(repeat' (first|exact True.intro|exact hiL|refine And.intro ?_ ?_))
   repeat'(first|exact y0|refine y1 ?_|refine y2 ?_ ?_|(refine y8 ?_ ?_<;>intro h<;>try exact y6)|refine Fin.bool (.inl rfl) rfl ?_|refine y3 ?_|refine y7 ?_ ?_|refine y4 ?_|(refine y9 ?_ ?_<;>intro h)|exact y5|fail)
   all_goals try first|exact hmp|exact hiL|rfl
end
set_option maxRecDepth 100000
def isDcl (op:Int):Bool:=decide (10≤op∧op≤21)
def stepT (p:List Nd) (t:Fo) (j:Nat) (a:Inf) (s:St) (i:Nat):St:=
 if isDcl (p.getD i dN).op then (headS (p.getD i dN) (nameF (t.kid j i)) i (ctxF t j i a).sc s).2 else s
theorem foldl_same {α β:Type} {f g:β→α→β}:∀ {l:List α} {s:β},(∀ i∈l,∀ s,f s i=g s i)→l.foldl f s=l.foldl g s
 |[],_,_=>rfl
 |i::l,s,h=>by
  simp only[List.foldl_cons];rw[h i (List.mem_cons_self ..),foldl_same fun j hj=>h j (List.mem_cons_of_mem _ hj)]
theorem fold_id {α β:Type} {f:β→α→β}:∀ {l:List α} {s:β},(∀ i∈l,∀ s,f s i=s)→l.foldl f s=s
 |[],_,_=>rfl
 |i::l,s,h=>by
  simp only[List.foldl_cons];rw[h i (List.mem_cons_self ..),fold_id fun j hj=>h j (List.mem_cons_of_mem _ hj)]
section
variable {p:List Nd}
theorem fold_cons {x:Nd} {k n:Fo} {j:Nat} (ha:(Fo.cons x k n).At p j) (a:Inf) (s:St):
 (List.range' j (Fo.cons x k n).size).foldl (stepT p (.cons x k n) j a) s=
   (List.range' (j+1+k.size) n.size).foldl (stepT p n (j+1+k.size) a) ((List.range' (j+1) k.size).foldl (stepT p k (j+1) (innI x (nameF k) j a)) (stepT p (.cons x k n) j a s j)):=by
 have e:List.range' j (Fo.cons x k n).size=j::(List.range' (j+1) k.size++List.range' (j+1+k.size) n.size):=by
  simp only[Fo.size];rw[show 1+k.size+n.size=(k.size+n.size)+1 by omega,List.range'_succ,List.range'_append_1]
 rw[e,List.foldl_cons,List.foldl_append];rw[foldl_same (f:=stepT p (.cons x k n) j a) (g:=stepT p k (j+1) (innI x (nameF k) j a)) (l:=List.range' (j+1) k.size)]
 ·refine foldl_same fun i hi s=>?_
  have:=List.mem_range'_1.1 hi;unfold stepT
  have h1: ¬i=j:=by omega
  have h2: ¬i<j+1+k.size:=by omega
  simp only[Fo.kid,ctxF,if_neg h1,if_neg h2]
 ·intro i hi s
  have:=List.mem_range'_1.1 hi;unfold stepT
  have h1: ¬i=j:=by omega
  have h2:i<j+1+k.size:=by omega
  simp only[Fo.kid,ctxF,if_neg h1,if_pos h2]
theorem fold_quiet {t:Fo} {j:Nat} (ha:t.At p j) (hq:t.all quiet) (a:Inf) (s:St):(List.range' j t.size).foldl (stepT p t j a) s=s:=by
 refine fold_id fun i hi s=>?_
 have:=List.mem_range'_1.1 hi;have hx:=Fo.all_at ha hq (by omega:j≤i) (by omega);unfold stepT isDcl;rw[if_neg];unfold quiet at hx;simp only[decide_eq_true_eq];omega
theorem head_sc {x:Nd} {nm:Pth} {i:Nat} {a:Inf} {s:St}:(headS x nm i a.sc s).1=(innI x nm i a).sc:=by
 unfold headS innI;simp only;by_cases h10:x.op=10
 ·rw[if_pos h10]
  cases h:(joinP a.sc nm).2<;>simp[h10]
 ·rw[if_neg h10]
  by_cases h2:x.op=11∨x.op=12
  ·rw[if_neg (show ¬(x.op=16∨x.op=17∨x.op=19) by omega)]
   cases h:(joinP a.sc nm).2<;>simp[h10,h2]
  ·rw[if_neg (show ¬((x.op=10∨x.op=11∨x.op=12)∧(joinP a.sc nm).2=true) from fun q=>by omega)]
   split
   ·rfl
   ·split
    ·simp[h2]
    ·rfl
theorem dcl_quiet {op kids c:Int} (h:accB c op=true) (hc:c=68∨c=70) (hb:hasBl op=false):∀ b∈(kindsB op kids).1,qK (b.toNat:Int)=true:=by
 unfold hasBl at hb;simp only[decide_eq_false_iff_not] at hb
 have:op=13∨op=14∨op=15∨op=18∨op=19∨op=20∨op=21:=by
  rcases decl_op hc h with e|e|e|e|e|e|e|e|e|e|e|e<;>omega
 rcases this with e|e|e|e|e|e|e<;>rw[e]
 ·exact fun b hb=>(by decide:∀ b∈(kindsB 13 0).1,qK (b.toNat:Int)=true) b hb
 ·exact fun b hb=>(by decide:∀ b∈(kindsB 14 0).1,qK (b.toNat:Int)=true) b hb
 ·exact fun b hb=>(by decide:∀ b∈(kindsB 15 0).1,qK (b.toNat:Int)=true) b hb
 ·exact fun b hb=>(by decide:∀ b∈(kindsB 18 0).1,qK (b.toNat:Int)=true) b hb
 ·exact fun b hb=>(by decide:∀ b∈(kindsB 19 0).1,qK (b.toNat:Int)=true) b hb
 ·exact fun b hb=>(by decide:∀ b∈(kindsB 20 0).1,qK (b.toNat:Int)=true) b hb
 ·exact fun b hb=>(by decide:∀ b∈(kindsB 21 0).1,qK (b.toNat:Int)=true) b hb
theorem fold_args {c':Int}:∀ (ls:List Int) (t:Fo) (j:Nat) (a:Inf) (s:St),ls.all leafK=true→t.At p j→t.V (ls.map (fun c=>(false,c))++[(true,c')])→
 (∀ (bl:Fo) (i:Nat) (s:St) (b:Inf),bl.At p i→bl.V (List.replicate bl.cnt (false,c'))→b.sc=a.sc→bl.size<t.size→declS false bl i a.sc s=(List.range' i bl.size).foldl (stepT p bl i b) s)→
 declS true t j a.sc s=(List.range' j t.size).foldl (stepT p t j a) s
 |[],t,j,a,s,_,ha,hv,ih=>by
  obtain⟨y,bl,n,rfl,h1,h2,h3⟩:=V_blk hv;have:=V_nil h1;subst this;rw[fold_cons ha]
  have hst:stepT p (.cons y bl .nil) j a s j=s:=by
   unfold stepT isDcl;rw[At.get ha,h2,if_neg (by decide)]
  rw[hst]
  have hsc:(innI y (nameF bl) j a).sc=a.sc:=by
   unfold innI;simp only;rw[if_neg (fun q=>by have:=q.1;omega)]
  have:=ih bl (j+1) s (innI y (nameF bl) j a) ha.2.2.1 h3 hsc (by simp only[Fo.size];omega);simp only[declS,h2,if_true,Fo.size,List.range'_zero,List.foldl_nil];exact this
 |c::ls,t,j,a,s,hl,ha,hv,ih=>by
  simp only[List.all_cons,Bool.and_eq_true] at hl;obtain⟨y,n,rfl,h1,hop⟩:=V_leaf hl.1 hv;rw[fold_cons ha]
  have hst:stepT p (.cons y .nil n) j a s j=s:=by
   unfold stepT isDcl;rw[At.get ha,if_neg];simp only[decide_eq_true_eq];omega
  rw[hst]
  have: ¬y.op=4:=by omega
  simp only[declS,if_neg this,Fo.size,Nat.add_zero,List.range'_zero,List.foldl_nil]
  have hn:n.At p (j+1):=by have:=ha.2.2.2;simpa [Fo.size] using this
  exact fold_args ls n (j+1) a s hl.2 hn h1 (fun bl i s b g1 g2 g3 g4=>ih bl i s b g1 g2 g3 (by simp only[Fo.size];omega))
theorem declS_fold:∀ (N:Nat) (t:Fo) (c:Int) (j:Nat) (a:Inf) (s:St),t.size<N→(c=68∨c=70)→t.At p j→t.V (List.replicate t.cnt (false,c))→declS false t j a.sc s=(List.range' j t.size).foldl (stepT p t j a) s
 |0,_,_,_,_,_,h,_,_,_=>absurd h (Nat.not_lt_zero _)
 |N+1,.nil,_,_,_,_,_,_,_,_=>rfl
 |N+1,.cons x k n,c,j,a,s,hN,hc,ha,hv=>by
  simp only[Fo.size] at hN;have hv':=hv;simp only[Fo.cnt,List.replicate_succ] at hv';obtain⟨⟨h1,h2,h3⟩,h4,h5⟩:=hv';rw[fold_cons ha];simp only[declS];have hd:=decl_op hc h1
  have hst:stepT p (.cons x k n) j a s j=(headS x (nameF k) j a.sc s).2:=by
   unfold stepT isDcl;rw[At.get ha,if_pos (by simp only[decide_eq_true_eq];omega)];simp only[Fo.kid,ctxF,if_true]
  rw[hst]
  have hk:(if hasBl x.op then declS true k (j+1) (headS x (nameF k) j a.sc s).1 (headS x (nameF k) j a.sc s).2 else (headS x (nameF k) j a.sc s).2)=(List.range' (j+1) k.size).foldl (stepT p k (j+1) (innI x (nameF k) j a)) (headS x (nameF k) j a.sc s).2:=by
   cases hb:hasBl x.op
   ·simp only[Bool.false_eq_true,if_false]
    rw[fold_quiet ha.2.2.1]
    refine V_quiet h4 fun sl hsl=>?_
    obtain⟨b,hb',rfl⟩:=List.mem_map.1 hsl;exact dcl_quiet h1 hc hb b hb'
   ·simp only[if_true]
    rw[head_sc]
    have ih:∀ (c':Int),(c'=68∨c'=70)→∀ (bl:Fo) (i:Nat) (s:St) (b:Inf),bl.At p i→bl.V (List.replicate bl.cnt (false,c'))→b.sc=(innI x (nameF k) j a).sc→bl.size<k.size→declS false bl i (innI x (nameF k) j a).sc s=(List.range' i bl.size).foldl (stepT p bl i b) s:=fun c' hc' bl i s b g1 g2 g3 g4=>by
     rw[←g3];exact declS_fold N bl c' i b s (by omega) hc' g1 g2
    unfold hasBl at hb;simp only[decide_eq_true_eq] at hb
    rcases hb with e|e|e|e|e<;>rw[e] at h4
    ·exact fold_args (c':=68) [110] k (j+1) _ _ rfl ha.2.2.1 h4 (ih 68 (.inl rfl))
    ·exact fold_args (c':=68) [115] k (j+1) _ _ rfl ha.2.2.1 h4 (ih 68 (.inl rfl))
    ·exact fold_args (c':=68) [115,105,105] k (j+1) _ _ rfl ha.2.2.1 h4 (ih 68 (.inl rfl))
    ·exact fold_args (c':=70) [110,105,105] k (j+1) _ _ rfl ha.2.2.1 h4 (ih 70 (.inr rfl))
    ·exact fold_args (c':=70) [110,110,105,105] k (j+1) _ _ rfl ha.2.2.1 h4 (ih 70 (.inr rfl))
  rw[hk];exact declS_fold N n c (j+1+k.size) a _ (by omega) hc ha.2.2.2 h5
end
section
variable {p:List Nd} {t:Fo}
def stepG (p:List Nd) (t:Fo) (s:St) (i:Nat):St:=if isDcl (p.getD i dN).op then (headS (p.getD i dN) (nameF (t.kid 0 i)) i (ctxT t i).sc s).2 else s
theorem anS_fold (ha:t.At p 0) (hv:t.V (List.replicate t.cnt (false,68))):anS p t=(List.range t.size).foldl (stepG p t) (st0 p):=by
 have:=declS_fold (p:=p) (t.size+1) t 68 0 ini (st0 p) (Nat.lt_succ_self _) (.inl rfl) ha hv;rw[List.range_eq_range'];exact this
def okJ (p:List Nd) (t:Fo) (i:Nat):Bool:=(joinP (ctxT t i).sc (nameF (t.kid 0 i))).2
def pathT (p:List Nd) (t:Fo) (i:Nat):By:=(ownT p t i).path
theorem fmt_ne {q:Pth} (h:absP q=true):fmtP q≠[]:=by
 unfold absP at h;simp only[Bool.and_eq_true] at h;unfold fmtP;rw[if_pos h.2,if_pos h.1];simp
theorem pathT_eq (ha:t.At p 0) {i:Nat} (hi:i<t.size):pathT p t i=if declB (p.getD i dN).op=true∧okJ p t i=true then fmtP (joinP (ctxT t i).sc (nameF (t.kid 0 i))).1 else []:=by
 unfold pathT ownT ownI okJ;split
 ·rfl
 ·exact ctx_path ha hi
theorem pathT_ne (ha:t.At p 0) {i:Nat} (hi:i<t.size):pathT p t i≠[]↔declB (p.getD i dN).op=true∧okJ p t i=true:=by
 rw[pathT_eq ha hi];split
 ·rename_i h
  exact⟨fun _=>h,fun _=>fmt_ne (absJ h.2)⟩
 ·rename_i h
  exact⟨fun q=>absurd rfl q,fun q=>absurd q h⟩
def dclE (p:List Nd) (t:Fo) (i:Nat):List Dc:=if pathT p t i=[] then [] else [⟨pathT p t i,(p.getD i dN).op,i⟩]
def badN (p:List Nd) (t:Fo) (i:Nat):Bool:=(declB (p.getD i dN).op||decide ((p.getD i dN).op=10))&& !okJ p t i
theorem step_eq (ha:t.At p 0) {i:Nat} (hi:i<t.size) (s:St):(stepG p t s i).D=s.D++dclE p t i∧(stepG p t s i).F=(if pathT p t i=[] then s.F else decF s.F (pathT p t i) i)∧
 (stepG p t s i).G=(if badN p t i then s.G++[(i,2)] else if pathT p t i=[] then s.G else decG s.F s.G (pathT p t i) i)∧(stepG p t s i).S=if isDcl (p.getD i dN).op then s.S.set i (ctxT t i).sc else s.S:=by
 have hne:=pathT_ne ha hi;have heq:=pathT_eq ha hi;unfold dclE badN;generalize hP:pathT p t i=P at*;unfold stepG okJ at*;unfold isDcl declB at*;generalize (p.getD i dN)=x at*;generalize nameF (t.kid 0 i)=nm at*;generalize (ctxT t i).sc=sc at*;by_cases hd:10≤x.op∧x.op≤21
 ·rw[decide_eq_true hd]
  simp only[if_true];unfold headS;by_cases h10:x.op=10
  ·rw[if_pos h10]
   rw[if_neg (fun h=>by have:=h.1;simp only[decide_eq_true_eq] at this;omega)] at heq;subst heq
   cases hj:(joinP sc nm).2<;>simp[h10,St.sc,St.rep]
  ·rw[if_neg h10]
   by_cases h16:x.op=16∨x.op=17∨x.op=19
   ·rw[if_pos h16]
    rw[if_neg (fun h=>by have:=h.1;simp only[decide_eq_true_eq] at this;omega)] at heq;subst heq;have hdf:decide (11≤x.op∧x.op≤15∨x.op=18∨x.op=20∨x.op=21)=false:=decide_eq_false (by omega);simp[h10,hdf,St.sc]
   ·rw[if_neg h16]
    have hdt:decide (11≤x.op∧x.op≤15∨x.op=18∨x.op=20∨x.op=21)=true:=decide_eq_true (by omega);rw[hdt] at heq hne ⊢;cases hj:(joinP sc nm).2
    ·rw[if_neg (by rw[hj];simp)] at heq
     subst heq;simp[St.sc,St.rep]
    ·rw[if_pos ⟨rfl,hj⟩] at heq
     have hn:P≠[]:=hne.2 ⟨rfl,hj⟩;rw[if_neg hn,if_neg hn,if_neg hn];simp[St.sc,St.dec,heq]
 ·rw[decide_eq_false hd]
  have hdf:decide (11≤x.op∧x.op≤15∨x.op=18∨x.op=20∨x.op=21)=false:=decide_eq_false (by omega);rw[hdf] at heq hne ⊢;rw[if_neg (fun h=>by cases h.1)] at heq;subst heq
  have h10: ¬x.op=10:=by omega
  simp[h10]
def stAt (p:List Nd) (t:Fo) (m:Nat):St:=(List.range m).foldl (stepG p t) (st0 p)
theorem stAt_succ (m:Nat):stAt p t (m+1)=stepG p t (stAt p t m) m:=by
 unfold stAt;rw[List.range_succ,List.foldl_append];rfl
theorem stAt_D (ha:t.At p 0):∀ {m:Nat},m≤t.size→(stAt p t m).D=(List.range m).flatMap (dclE p t)
 |0,_=>rfl
 |m+1,h=>by
  rw[stAt_succ,(step_eq ha (by omega) _).1,stAt_D ha (by omega),List.range_succ,List.flatMap_append];simp
def firstN (p:List Nd) (t:Fo) (path:By):Nat→Option Nat
 |0=>none
 |m+1=>match firstN p t path m with|some i=>some i|none=>if pathT p t m=path then some m else none
theorem lkF_snoc (F:List (By×Nat)) (k path:By) (i:Nat):lkF (F++[(k,i)]) path=match lkF F path with|some v=>some v|none=>if k=path then some i else none:=by
 induction F with
 |nil=>simp only[List.nil_append,lkF]
 |cons a F ih=>
  obtain⟨q,v⟩:=a;simp only[List.cons_append,lkF];split
  ·rfl
  ·exact ih
theorem stAt_F (ha:t.At p 0) {path:By} (hp:path≠[]):∀ {m:Nat},m≤t.size→lkF (stAt p t m).F path=firstN p t path m
 |0,_=>rfl
 |m+1,h=>by
  have ih:=stAt_F ha hp (m:=m) (by omega);rw[stAt_succ,(step_eq ha (by omega) _).2.1];simp only[firstN]
  by_cases he:pathT p t m=[]
  ·rw[if_pos he,ih]
   cases firstN p t path m with
   |some v=>rfl
   |none=>simp only;rw[if_neg (fun q=>hp (by rw[←q,he]))]
  ·rw[if_neg he]
   unfold decF;split
   ·rename_i v hv
    rw[ih]
    cases hf:firstN p t path m with
    |some v=>rfl
    |none=>
     simp only;rw[if_neg];intro q;rw[q,ih,hf] at hv;cases hv
   ·rw[lkF_snoc,ih]
theorem firstN_some {path:By}:∀ {m i:Nat},firstN p t path m=some i→i<m∧pathT p t i=path∧∀ k,k<i→pathT p t k≠path
 |0,_,h=>by cases h
 |m+1,i,h=>by
  simp only[firstN] at h;split at h
  ·rename_i v hv
   cases h;have:=firstN_some hv;exact⟨by omega,this.2⟩
  ·rename_i hn
   split at h
   ·rename_i he
    cases h;refine⟨Nat.lt_succ_self _,he,fun k hk hc=>?_⟩
    have:∀ m,firstN p t path m=none→∀ k,k<m→pathT p t k≠path:=by
     intro m
     induction m with
     |zero=>intro _ k hk;omega
     |succ m ih=>
      intro h k hk;simp only[firstN] at h;split at h
      ·cases h
      ·rename_i h0
       split at h
       ·cases h
       ·rename_i h1
        rcases Nat.lt_or_ge k m with q|q
        ·exact ih h0 k q
        ·rw[show k=m by omega];exact h1
    exact this m hn k hk hc
   ·cases h
theorem firstN_none {path:By}:∀ {m:Nat},firstN p t path m=none→∀ k,k<m→pathT p t k≠path
 |0,_,k,hk=>by omega
 |m+1,h,k,hk=>by
  simp only[firstN] at h;split at h
  ·cases h
  ·rename_i h0
   split at h
   ·cases h
   ·rename_i h1
    rcases Nat.lt_or_ge k m with q|q
    ·exact firstN_none h0 k q
    ·rw[show k=m by omega];exact h1
def dupN (p:List Nd) (t:Fo) (i:Nat):Bool:=decide (pathT p t i≠[])&&(firstN p t (pathT p t i) i).isSome
def dclG (p:List Nd) (t:Fo) (i:Nat):List (Nat×Nat):=if badN p t i then [(i,2)] else if dupN p t i then [(i,3)] else []
theorem bad_path (ha:t.At p 0) {i:Nat} (hi:i<t.size) (h:badN p t i=true):pathT p t i=[]:=by
 rw[pathT_eq ha hi,if_neg];unfold badN at h;simp only[Bool.and_eq_true,Bool.not_eq_true'] at h;rintro⟨_,h2⟩;rw[h.2] at h2;cases h2
theorem stAt_G (ha:t.At p 0):∀ {m:Nat},m≤t.size→(stAt p t m).G=(List.range m).flatMap (dclG p t)
 |0,_=>rfl
 |m+1,h=>by
  have ih:=stAt_G ha (m:=m) (by omega);rw[stAt_succ,(step_eq ha (by omega) _).2.2.1,List.range_succ,List.flatMap_append,←ih];simp only[List.flatMap_cons,List.flatMap_nil,List.append_nil];unfold dclG;split
  ·rfl
  ·unfold dupN
   by_cases he:pathT p t m=[]
   ·rw[if_pos he];simp[he]
   ·rw[if_neg he]
    unfold decG;rw[stAt_F ha he (by omega)]
    cases hf:firstN p t (pathT p t m) m<;>simp[he]
theorem stAt_S (ha:t.At p 0):∀ {m:Nat},m≤t.size→(stAt p t m).S.length=p.length∧∀ i,i<m→i<p.length→isDcl (p.getD i dN).op=true→(stAt p t m).S.getD i z0=(ctxT t i).sc
 |0,_=>⟨by simp[stAt,st0],fun i hi=>by omega⟩
 |m+1,h=>by
  obtain⟨ih1,ih2⟩:=stAt_S ha (m:=m) (by omega);rw[stAt_succ,(step_eq ha (by omega) _).2.2.2];refine⟨by split<;>simp[ih1],fun i hi hip hd=>?_⟩;by_cases e:m=i
  ·subst e
   rw[if_pos hd,List.getD_eq_getElem?_getD,List.getElem?_set,if_pos rfl,if_pos (by omega)];rfl
  ·split
   ·rw[List.getD_eq_getElem?_getD,List.getElem?_set,if_neg e,←List.getD_eq_getElem?_getD]
    exact ih2 i (by omega) hip hd
   ·exact ih2 i (by omega) hip hd
end
set_option maxRecDepth 100000
section
variable {p:List Nd} {t:Fo}
theorem firstN_iff {path:By} {m:Nat}:(firstN p t path m).isSome=true↔∃ k,k<m∧pathT p t k=path:=by
 cases h:firstN p t path m with
 |none=>exact⟨fun q=>(by cases q),fun⟨k,h1,h2⟩=>absurd h2 (firstN_none h k h1)⟩
 |some i=>exact⟨fun _=>⟨i,(firstN_some h).1,(firstN_some h).2.1⟩,fun _=>rfl⟩
theorem firstG_iff (s:By):∀ (l:List Inf) (i:Nat),(firstG s l i= -1∧∀ k,k<l.length→(l.getD k ini).path≠s)∨∃ k,firstG s l i=((i+k:Nat):Int)∧k<l.length∧(l.getD k ini).path=s∧∀ m,m<k→(l.getD m ini).path≠s
 |[],i=> .inl ⟨rfl,fun k hk=>by simp at hk⟩
 |x::l,i=>by
  simp only[firstG];by_cases h:x.path=s
  ·rw[if_pos h]
   exact .inr ⟨0,by rw[Nat.add_zero],by simp,h,fun m hm=>by omega⟩
  ·rw[if_neg h]
   rcases firstG_iff s l (i+1) with ⟨h1,h2⟩|⟨k,h1,h2,h3,h4⟩
   ·refine .inl ⟨h1,fun k hk=>?_⟩
    cases k with
    |zero=>exact h
    |succ k=>exact h2 k (by simpa using hk)
   ·refine .inr ⟨k+1,by rw[h1,show i+1+k=i+(k+1) by omega],by simpa using h2,h3,fun m hm=>?_⟩
    cases m with
    |zero=>exact h
    |succ m=>exact h4 m (by omega)
theorem path_at {k:Nat} (hk:k<t.size):((infL p t).getD k ini).path=pathT p t k:=by rw[infL_at hk];rfl
theorem firstR_cases (s:By):(firstR (infL p t) s= -1∧∀ k,k<t.size→pathT p t k≠s)∨∃ k:Nat,firstR (infL p t) s=(k:Int)∧k<t.size∧pathT p t k=s∧∀ m,m<k→pathT p t m≠s:=by
 rcases firstG_iff s (infL p t) 0 with ⟨h1,h2⟩|⟨k,h1,h2,h3,h4⟩
 ·rw[infL_len] at h2
  exact .inl ⟨h1,fun k hk=>by rw[←path_at hk];exact h2 k hk⟩
 ·rw[infL_len] at h2
  refine .inr ⟨k,by unfold firstR;rw[h1,Nat.zero_add],h2,by rw[←path_at h2];exact h3,fun m hm=>by rw[←path_at (by omega)];exact h4 m hm⟩
def bitsR (p:List Nd):List Nat→Nat→Int→Option Int
 |[],_,_=>none
 |k::l,i,bit=>if k=i then some bit else if oorB p k then none else bitsR p l i (bit+if (p.getD k dN).op=19 then numN p (k+1) else numN p (k+2))
def fldN (t:Fo) (i:Nat):Nat:=(ctxT t (ctxT t i).pa.toNat).pa.toNat
def ovrB (p:List Nd) (i:Nat) (len w:Int) (b:Option Int):Bool:=match b with|none=>false|some bit=>decide (8*len<((bit+numN p (i+2)-1).tdiv (8*w)+1)*(8*w))
def outB (p:List Nd) (t:Fo) (i:Nat):Bool:=
 if (p.getD i dN).op=18∧(p.getD (fldN t i) dN).op=16∧noRB p t (fldN t i)=false∧oorB p (fldN t i)=false∧oorB p i=false∧oorB p (resT p t (fldN t i) 0).toNat=false then
  ovrB p i (numN p ((resT p t (fldN t i) 0).toNat+4)) (numN p (fldN t i+2)) (bitsR p ((t.kid 0 (ctxT t i).pa.toNat).starts ((ctxT t i).pa.toNat+1)) i 0)
 else false
def argB (p:List Nd) (t:Fo) (i:Nat):Bool:=decide ((p.getD i dN).op=7)&&decide (numN p ((ctxT t i).me.toNat+2)≤numN p i)
def looB (p:List Nd) (t:Fo) (i:Nat):Bool:=decide ((p.getD i dN).op=34∨(p.getD i dN).op=35)&&decide ((ctxT t i).lo<0)
def addB (p:List Nd) (t:Fo) (i:Nat):List Bool:=[false,false,badN p t i,dupN p t i,oorB p i,tooB p i,noRB p t i,outB p t i,looB p t i,argB p t i,unrB p t i]
def codesL (p:List Nd) (t:Fo) (i:Nat):List Nat:=(List.range' 1 10).filter fun k=>(addB p t i).getD k false
def refG (p:List Nd) (t:Fo):List (Nat×Nat):=(List.range t.size).flatMap fun i=>(codesL p t i).map fun c=>(i,c)
end
set_option maxRecDepth 100000
section
variable {p:List Nd} {t:Fo}
theorem anS_at (ha:t.At p 0) (hv:t.V (List.replicate t.cnt (false,68))):anS p t=stAt p t t.size:=anS_fold ha hv
def dclN (p:List Nd) (t:Fo) (i:Nat):Dc:=⟨pathT p t i,(p.getD i dN).op,i⟩
def dclI (p:List Nd) (t:Fo):List Nat:=(List.range t.size).filter fun i=>decide (pathT p t i≠[])
theorem flat_filter {α:Type} {q:Nat→Bool} {f:Nat→α}:∀ l:List Nat,l.flatMap (fun i=>if q i then [f i] else [])=(l.filter q).map f
 |[]=>rfl
 |a::l=>by
  rw[List.flatMap_cons,flat_filter l]
  cases h:q a<;>simp[List.filter,h]
theorem D_eq (ha:t.At p 0) (hv:t.V (List.replicate t.cnt (false,68))):(anS p t).D=(dclI p t).map (dclN p t):=by
 rw[anS_at ha hv,stAt_D ha (Nat.le_refl _),dclI,←flat_filter];congr 1
 funext i
 unfold dclE dclN
 by_cases h:pathT p t i=[]<;>simp[h]
theorem mem_dclI {i:Nat}:i∈dclI p t↔i<t.size∧pathT p t i≠[]:=by simp[dclI]
end
end Go.Proofs.YtphdhedhhlfepaaGreatDoor
