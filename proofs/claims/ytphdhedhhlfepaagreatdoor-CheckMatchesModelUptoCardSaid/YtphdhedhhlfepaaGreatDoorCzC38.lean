import Derived.Test.YtphdhedhhlfepaaGreatDoorCzC37
set_option linter.unusedSimpArgs false
set_option linter.unusedVariables false
namespace Go.Proofs.YtphdhedhhlfepaaGreatDoor
open Go Ab
set_option maxRecDepth 100000
theorem cand_abs {b r c:Pth} (h:c∈candP b r):absP c=true:=by
 unfold candP at h;split at h
 ·cases h
 ·rename_i h1
  have hb:absP b=true:=by cases hq:absP b<;>simp_all
  have hr:validP r=true:=by cases hq:validP r<;>simp_all
  split at h
  ·split at h
   ·rw[List.mem_singleton] at h
    subst h;rename_i h2;exact absJ h2
   ·cases h
  ·rename_i h3
   obtain⟨b1,b2,b3⟩:=abs_facts hb
   have hbs:∀ x∈b.segs,isSeg x=true:=by
    unfold absP at hb;simp only[Bool.and_eq_true] at hb
    exact fun x hx=>List.all_eq_true.1 (valid_facts hb.2).2.2.2.2.1 x hx
   have hrs:isSeg (r.segs.headD [])=true:=by
    have h5:=(valid_facts hr).2.2.2.2.1
    have hl:r.segs.length=1:=by omega
    match hq:r.segs,hl with
    |[a],_=>rw[hq] at h5;simpa using h5
   have key:∀ k,k≤b.segs.length→∀ c∈candL b.segs (r.segs.headD []) k,absP c=true:=by
    intro k
    induction k with
    |zero=>
     intro _ c hc;simp only[candL,List.mem_singleton] at hc;subst hc;clear h;generalize r.segs.headD []=s0 at*;simp[absP,validP,hrs]
    |succ k ih=>
     intro hk c hc;simp only[candL] at hc;split at hc
     ·exact ih (by omega) c hc
     ·rename_i h32
      rcases List.mem_cons.1 hc with rfl|hc
      ·have hall:(b.segs.take (k+1)++[r.segs.headD []]).all isSeg=true:=by
        rw[List.all_eq_true];intro x hx
        rcases List.mem_append.1 hx with h|h
        ·exact hbs x (List.mem_of_mem_take h)
        ·rw[List.mem_singleton] at h;rw[h];exact hrs
       have hlen:(b.segs.take (k+1)++[r.segs.headD []]).length=k+2:=by
        rw[List.length_append,List.length_take,Nat.min_eq_left hk];rfl
       unfold absP validP;simp only[hall,hlen,Bool.true_or,Bool.and_true,Bool.true_and];simp only[decide_eq_true (show (0:Int)≤0 by decide),decide_eq_false (show ¬(0:Int)≠0 by decide),decide_eq_true (show (0:Int)≤32 by decide),Bool.not_false,Bool.true_and,decide_eq_true_eq];omega
      ·exact ih (by omega) c hc
   exact key _ (Nat.le_refl _) c h
section
variable {p:List Nd} {t:Fo}
theorem firstR_N (s:By):firstR (infL p t) s=match firstN p t s t.size with|some i=>(i:Int)|none=> -1:=by
 cases h:firstN p t s t.size with
 |none=>
  have h0:=firstN_none h
  rcases firstR_cases (p:=p) (t:=t) s with ⟨h1,_⟩|⟨k,_,h2,h3,_⟩
  ·exact h1
  ·exact absurd h3 (h0 k h2)
 |some i=>
  obtain⟨i1,i2,i3⟩:=firstN_some h
  rcases firstR_cases (p:=p) (t:=t) s with ⟨_,h2⟩|⟨k,h1,h2,h3,h4⟩
  ·exact absurd i2 (h2 i i1)
  ·rw[h1]
   rcases Nat.lt_trichotomy i k with q|q|q
   ·exact absurd i2 (h4 i q)
   ·rw[q]
   ·exact absurd h3 (i3 k q)
theorem anS_F (ha:t.At p 0) (hv:t.V (List.replicate t.cnt (false,68))) {s:By} (hs:s≠[]):lkF (anS p t).F s=firstN p t s t.size:=by
 rw[anS_at ha hv];exact stAt_F ha hs (Nat.le_refl _)
theorem resF_R (ha:t.At p 0) (hv:t.V (List.replicate t.cnt (false,68))) (op:Int):∀ cs:List Pth,(∀ c∈cs,absP c=true)→
 resF p (anS p t).F op cs=if 0≤resR (infL p t) cs∧(p.getD (resR (infL p t) cs).toNat dN).op=op then resR (infL p t) cs else-1
 |[],_=>by
  show (-1:Int)=if 0≤(-1:Int)∧(p.getD (-1:Int).toNat dN).op=op then-1 else-1;rw[if_neg];rintro⟨h,_⟩;omega
 |c::cs,hc=>by
  have hne:=fmt_ne (hc c (List.mem_cons_self ..));have hF:=anS_F ha hv hne;have hR:=firstR_N (p:=p) (t:=t) (fmtP c);have hrr:resR (infL p t) (c::cs)=if 0≤firstR (infL p t) (fmtP c) then firstR (infL p t) (fmtP c) else resR (infL p t) cs:=rfl;generalize resR (infL p t) (c::cs)=rr at*
  cases hf:firstN p t (fmtP c) t.size with
  |some i=>
   rw[hf] at hF hR;simp only at hR;rw[hR,if_pos (Int.natCast_nonneg i)] at hrr;subst hrr;rw[resF_cons_some hF,Int.toNat_natCast];by_cases ho:(p.getD i dN).op=op
   ·rw[if_pos ho,if_pos ⟨Int.natCast_nonneg i,ho⟩]
   ·rw[if_neg ho,if_neg (fun h=>ho h.2)]
  |none=>
   rw[hf] at hF hR;simp only at hR;rw[hR,if_neg (by decide)] at hrr;subst hrr;rw[resF_cons_none hF];exact resF_R ha hv op cs (fun c h=>hc c (List.mem_cons_of_mem _ h))
theorem anS_S (ha:t.At p 0) (hv:t.V (List.replicate t.cnt (false,68))) (hs:t.size=p.length) {i:Nat} (hi:i<t.size) (hop:isDcl (p.getD i dN).op=true):(anS p t).S.getD i z0=(ctxT t i).sc:=by
 rw[anS_at ha hv];exact (stAt_S ha (Nat.le_refl _)).2 i hi (by omega) hop
theorem resF_T (ha:t.At p 0) (hv:t.V (List.replicate t.cnt (false,68))) (op:Int) (i k:Nat):
 resF p (anS p t).F op (candP (ctxT t i).sc (parseP (p.getD (i+1+k) dN).str).1)=if 0≤resT p t i k∧(p.getD (resT p t i k).toNat dN).op=op then resT p t i k else-1:=by
 exact resF_R ha hv op _ fun c hc=>cand_abs hc
theorem resF_neg (ha:t.At p 0) (hv:t.V (List.replicate t.cnt (false,68))) (op:Int) (i k:Nat):
 resF p (anS p t).F op (candP (ctxT t i).sc (parseP (p.getD (i+1+k) dN).str).1)<0↔resT p t i k<0∨(p.getD (resT p t i k).toNat dN).op≠op:=by
 rw[resF_T ha hv];split
 ·rename_i h
  constructor
  ·intro q;omega
  ·rintro (q|q)
   ·exact q
   ·exact absurd h.2 q
 ·rename_i h
  refine⟨fun _=>?_,fun _=>by decide⟩
  rcases Int.lt_or_le (resT p t i k) 0 with q|q
  ·exact .inl q
  ·exact .inr fun e=>h ⟨q,e⟩
theorem noR16 (ha:t.At p 0) (hv:t.V (List.replicate t.cnt (false,68))) {i:Nat} (hop:(p.getD i dN).op=16):resF p (anS p t).F 15 (candP (ctxT t i).sc (parseP (p.getD (i+1) dN).str).1)<0↔noRB p t i=true:=by
 rw[show i+1=i+1+0 from rfl,resF_neg ha hv];unfold noRB;rw[if_pos hop];simp only[Bool.or_eq_true,decide_eq_true_eq]
theorem noR17 (ha:t.At p 0) (hv:t.V (List.replicate t.cnt (false,68))) {i:Nat} (hop:(p.getD i dN).op=17):
 (resF p (anS p t).F 18 (candP (ctxT t i).sc (parseP (p.getD (i+1) dN).str).1)<0∨resF p (anS p t).F 18 (candP (ctxT t i).sc (parseP (p.getD (i+2) dN).str).1)<0)↔noRB p t i=true:=by
 rw[show i+2=i+1+1 from rfl,show i+1=i+1+0 from rfl,resF_neg ha hv,resF_neg ha hv];unfold noRB;rw[if_neg (by omega),if_pos hop];simp only[Bool.or_eq_true,decide_eq_true_eq,or_assoc]
theorem unitsG_code7 (len w:Int):∀ (u:Fo) (j:Nat) (bit:Int),∀ d∈unitsG p len w u j bit [],d.2=7
 | .nil,_,_,d,h=>by simp[unitsG] at h
 | .cons x k n,j,bit,d,h=>by
   simp only[unitsG] at h;split at h
   ·cases h
   ·split at h
    ·exact unitsG_code7 len w n _ _ d h
    ·rw[unitsG_app] at h
     rcases List.mem_append.1 h with h|h
     ·split at h
      ·simp at h;rw[h]
      ·cases h
     ·exact unitsG_code7 len w n _ _ d h
theorem argG_mem (lim:Int):∀ (c j:Nat) (d:Nat×Nat),d∈argG p lim c j []↔d.2=9∧j≤d.1∧d.1<j+c∧(p.getD d.1 dN).op=7∧lim≤numN p d.1
 |0,j,d=>by
  simp only[argG,List.not_mem_nil,false_iff];rintro⟨_,h1,h2,_⟩;omega
 |c+1,j,d=>by
  simp only[argG];rw[argG_app,List.mem_append,argG_mem lim c (j+1)];constructor
  ·rintro (h|⟨h1,h2,h3,h4⟩)
   ·split at h
    ·rename_i h0
     simp at h;subst h;exact⟨rfl,Nat.le_refl _,by simp only;omega,h0⟩
    ·cases h
   ·exact⟨h1,by omega,by omega,h4⟩
  ·rintro⟨h1,h2,h3,h4⟩
   rcases Nat.lt_or_ge j d.1 with h|h
   ·exact .inr ⟨h1,by omega,by omega,h4⟩
   ·left
    have e:d.1=j:=by omega
    rw[e] at h4;rw[if_pos h4];simp only[List.nil_append,List.mem_singleton];exact Prod.ext e h1
theorem metG_mem (bl:Fo) (i:Nat) (d:Nat×Nat):d∈metG p bl i []↔d∈argG p (numN p (i+2)) (bl.size+1) (i+5) []∨d∈stmS false bl (i+6) false true []:=by
 unfold metG;rw[stmS_app,List.mem_append]
theorem mem_node (ha:t.At p 0) (hv:t.V (List.replicate t.cnt (false,68))) (hs:t.size=p.length) {j:Nat} (hj:j<t.size) (d:Nat×Nat):
 d∈nodeE p (anS p t).F (anS p t).S t j↔d=(j,4)∧oorB p j=true∨d=(j,5)∧tooB p j=true∨d=(j,6)∧noRB p t j=true∨
  (p.getD j dN).op=16∧noRB p t j=false∧oorB p (resT p t j 0).toNat=false∧oorB p j=false∧d∈unitsG p (numN p ((resT p t j 0).toNat+4)) (numN p (j+2)) (lastBl (t.kid 0 j)) (j+5) 0 []∨
  (p.getD j dN).op=14∧d∈metG p (lastBl (t.kid 0 j)) j []:=by
 unfold nodeE;rw[List.mem_append]
 have h4:d∈(if oorB p j then [(j,4)] else []:Dgs)↔d=(j,4)∧oorB p j=true:=by
  split
  ·rename_i h;simp[h]
  ·rename_i h;simp[h]
 rw[h4];refine or_congr_right ?_;unfold nodeG;by_cases h50:(p.getD j dN).op=50∨(p.getD j dN).op=51
 ·rw[if_pos h50]
  have hno:noRB p t j=false:=by unfold noRB;rw[if_neg (by omega),if_neg (by omega)]
  have hto:tooB p j=decide (numN p (j+1)<(p.getD (j+2) dN).kids):=by unfold tooB;rw[decide_eq_true h50,Bool.true_and]
  rw[hno,hto];split
  ·rename_i h
   simp only[List.nil_append,List.mem_singleton,decide_eq_true h,and_true];constructor
   ·exact fun h=> .inl h
   ·rintro (h|⟨_,h⟩|⟨h,_⟩|⟨h,_⟩)
    ·exact h
    ·cases h
    ·omega
    ·omega
  ·rename_i h
   simp only[List.not_mem_nil,decide_eq_false h,false_iff];rintro (⟨_,h⟩|⟨_,h⟩|⟨h,_⟩|⟨h,_⟩)
   ·cases h
   ·cases h
   ·omega
   ·omega
 ·rw[if_neg h50]
  have hto:tooB p j=false:=by unfold tooB;rw[decide_eq_false h50,Bool.false_and]
  rw[hto];by_cases h16:(p.getD j dN).op=16
  ·rw[if_pos h16]
   have hS:=anS_S ha hv hs hj (by unfold isDcl;rw[decide_eq_true_eq];omega);rw[hS];have hn:=noR16 ha hv h16;have hT:=resF_T ha hv 15 j 0;unfold fieldG;rw[Nat.add_zero] at hT;by_cases hr:resF p (anS p t).F 15 (candP (ctxT t j).sc (parseP (p.getD (j+1) dN).str).1)<0
   ·rw[if_pos hr,hn.1 hr]
    simp only[List.nil_append,List.mem_singleton,and_true];constructor
    ·exact fun h=> .inr (.inl h)
    ·rintro (⟨_,h⟩|h|⟨_,h,_⟩|⟨h,_⟩)
     ·cases h
     ·exact h
     ·cases h
     ·omega
   ·rw[if_neg hr]
    have hnf:noRB p t j=false:=by
     cases hq:noRB p t j with
     |false=>rfl
     |true=>exact absurd (hn.2 hq) hr
    rw[hnf]
    have hT2:resF p (anS p t).F 15 (candP (ctxT t j).sc (parseP (p.getD (j+1) dN).str).1)=resT p t j 0:=by
     split at hT
     ·exact hT
     ·exact absurd (by rw[hT];decide) hr
    rw[hT2];split
    ·rename_i ho
     simp only[List.not_mem_nil,false_iff];simp only[Bool.or_eq_true] at ho;rintro (⟨_,h⟩|⟨_,h⟩|⟨_,_,h1,h2,_⟩|⟨h,_⟩)
     ·cases h
     ·cases h
     ·rw[h1,h2] at ho;rcases ho with ho|ho<;>cases ho
     ·omega
    ·rename_i ho
     simp only[Bool.or_eq_true,not_or,Bool.not_eq_true] at ho;constructor
     ·exact fun h=> .inr (.inr (.inl ⟨h16,rfl,ho.1,ho.2,h⟩))
     ·rintro (⟨_,h⟩|⟨_,h⟩|⟨_,_,_,_,h⟩|⟨h,_⟩)
      ·cases h
      ·cases h
      ·exact h
      ·omega
  ·rw[if_neg h16]
   by_cases h17:(p.getD j dN).op=17
   ·rw[if_pos h17]
    have hS:=anS_S ha hv hs hj (by unfold isDcl;rw[decide_eq_true_eq];omega);rw[hS];have hn:=noR17 ha hv h17;split
    ·rename_i h
     rw[hn.1 h];simp only[List.nil_append,List.mem_singleton,and_true];constructor
     ·exact fun h=> .inr (.inl h)
     ·rintro (⟨_,h⟩|h|⟨h,_⟩|⟨h,_⟩)
      ·cases h
      ·exact h
      ·omega
      ·omega
    ·rename_i h
     have hnf:noRB p t j=false:=by
      cases hq:noRB p t j with
      |false=>rfl
      |true=>exact absurd (hn.2 hq) h
     rw[hnf];simp only[List.not_mem_nil,false_iff];rintro (⟨_,h⟩|⟨_,h⟩|⟨h,_⟩|⟨h,_⟩)
     ·cases h
     ·cases h
     ·omega
     ·omega
   ·rw[if_neg h17]
    have hno:noRB p t j=false:=by unfold noRB;rw[if_neg h16,if_neg h17]
    rw[hno];split
    ·rename_i h14
     constructor
     ·exact fun h=> .inr (.inr (.inr ⟨h14,h⟩))
     ·rintro (⟨_,h⟩|⟨_,h⟩|⟨h,_⟩|⟨_,h⟩)
      ·cases h
      ·cases h
      ·omega
      ·exact h
    ·rename_i h14
     simp only[List.not_mem_nil,false_iff];rintro (⟨_,h⟩|⟨_,h⟩|⟨h,_⟩|⟨h,_⟩)
     ·cases h
     ·cases h
     ·omega
     ·exact h14 h
theorem mem_all (ha:t.At p 0) (hv:t.V (List.replicate t.cnt (false,68))) (hs:t.size=p.length) (d:Nat×Nat):
 d∈allG p t↔(∃ j,j<t.size∧d∈dclG p t j)∨∃ j,j<t.size∧d∈nodeE p (anS p t).F (anS p t).S t j:=by
 unfold allG;rw[rowG_app,List.mem_append,anS_at ha hv,stAt_G ha (Nat.le_refl _),List.mem_flatMap,List.mem_flatMap,←anS_at ha hv,hs];simp only[List.mem_range,List.mem_range'_1,Nat.zero_le,Nat.zero_add,true_and]
theorem dclG_mem (ha:t.At p 0) {j:Nat} (hj:j<t.size) (d:Nat×Nat):d∈dclG p t j↔d=(j,2)∧badN p t j=true∨d=(j,3)∧dupN p t j=true:=by
 unfold dclG;by_cases hb:badN p t j=true
 ·have hd:dupN p t j=false:=by unfold dupN;rw[bad_path ha hj hb];simp
  rw[if_pos hb,hd,hb];simp
 ·rw[if_neg hb]
  have hb':badN p t j=false:=by cases h:badN p t j<;>simp_all
  rw[hb'];split
  ·rename_i h;rw[h];simp
  ·rename_i h;simp[h]
end
set_option maxRecDepth 100000
def stpB (op:Int):Bool:=decide (op=33∨op=34∨op=35)
def visit:Bool→Fo→Nat→Nat→Bool→Bool→Option (Bool×Bool)
 |_,.nil,_,_,_,_=>none
 |true,.cons x k n,j,i,lp,r=>if i<j+1+k.size then (if x.op=4∧j<i then visit false k (j+1) i lp true else none) else visit true n (j+1+k.size) i lp r
 |false,.cons x k n,j,i,lp,r=>
  if i=j then some (lp,r)
  else if i<j+1+k.size then (if x.op=31 then visit true k (j+1) i lp true else if x.op=32 then visit true k (j+1) i true true else none)
  else visit false n (j+1+k.size) i lp (r&& !stpB x.op)
theorem visit_rg:∀ {m:Bool} {u:Fo} {j i:Nat} {lp r:Bool} {q:Bool×Bool},visit m u j i lp r=some q→j≤i∧i<j+u.size
 |true,.nil,_,_,_,_,_,h=>by simp[visit] at h
 |false,.nil,_,_,_,_,_,h=>by simp[visit] at h
 |true,.cons x k n,j,i,lp,r,q,h=>by
  simp only[visit] at h;simp only[Fo.size];split at h
  ·split at h
   ·have:=visit_rg h;omega
   ·cases h
  ·have:=visit_rg h;omega
 |false,.cons x k n,j,i,lp,r,q,h=>by
  simp only[visit] at h;simp only[Fo.size];split at h
  ·omega
  ·split at h
   ·split at h
    ·have:=visit_rg h;omega
    ·split at h
     ·have:=visit_rg h;omega
     ·cases h
   ·have:=visit_rg h;omega
section
variable {p:List Nd} {t:Fo}
def sayD (p:List Nd) (i c:Nat) (q:Bool×Bool):Prop:=c=10∧q.2=false∨c=8∧((p.getD i dN).op=34∨(p.getD i dN).op=35)∧q.1=false
theorem stmS_rg {m:Bool} {u:Fo} {j i c:Nat} {lp r:Bool} (h:(i,c)∈stmS m u j lp r []):j≤i∧i<j+u.size:=(stmS_inn m u j lp r).2 _ h
theorem stmS_visit:∀ (m:Bool) (u:Fo) (j:Nat) (lp r:Bool),u.At p j→∀ i c,(i,c)∈stmS m u j lp r []↔∃ q,visit m u j i lp r=some q∧sayD p i c q
 |true,.nil,_,_,_,_,i,c=>by simp[stmS,visit]
 |false,.nil,_,_,_,_,i,c=>by simp[stmS,visit]
 |true,.cons x k n,j,lp,r,ha,i,c=>by
  simp only[stmS,visit];rw[stmS_app,List.mem_append];by_cases h1:i<j+1+k.size
  ·rw[if_pos h1]
   have hn: ¬(i,c)∈stmS true n (j+1+k.size) lp r []:=fun h=>by have:=stmS_rg h;omega
   by_cases h4:x.op=4
   ·rw[if_pos h4]
    by_cases hj:j<i
    ·rw[if_pos ⟨h4,hj⟩,←stmS_visit false k (j+1) lp true ha.2.2.1 i c]
     exact⟨fun h=>h.resolve_right hn,.inl⟩
    ·rw[if_neg (fun h=>hj h.2)]
     constructor
     ·rintro (h|h)
      ·have:=stmS_rg h;omega
      ·exact absurd h hn
     ·rintro⟨q,h,_⟩;cases h
   ·rw[if_neg h4,if_neg (fun h=>h4 h.1)]
    constructor
    ·rintro (h|h)
     ·cases h
     ·exact absurd h hn
    ·rintro⟨q,h,_⟩;cases h
  ·rw[if_neg h1,←stmS_visit true n (j+1+k.size) lp r ha.2.2.2 i c]
   refine⟨fun h=>h.resolve_left fun h=>?_,.inr⟩;split at h
   ·have:=stmS_rg h;omega
   ·cases h
 |false,.cons x k n,j,lp,r,ha,i,c=>by
  simp only[stmS,visit];have hx:=At.get ha;rw[stmS_app,List.mem_append]
  have hE:∀ X:Dgs,X=stG2 x.op j lp (stG1 j r [])→((i,c)∈X↔i=j∧sayD p i c (lp,r)):=by
   intro X hX;subst hX;unfold stG2 stG1 sayD;constructor
   ·intro h
    by_cases hi:i=j
    ·subst hi
     refine⟨rfl,?_⟩;rw[hx]
     cases r<;>cases lp<;>simp at h ⊢
     ·split at h<;>simp at h
      ·rcases h with h|h
       ·exact .inl h
       ·exact .inr ⟨h,‹_›⟩
      ·exact .inl h
     ·exact h
     ·exact⟨h.2,h.1⟩
    ·exfalso
     split at h<;>split at h<;>simp at h<;>(first|exact hi h.1|(rcases h with h|h<;>exact hi h.1))
   ·rintro⟨rfl,h⟩
    rw[hx] at h;simp only at h
    rcases h with ⟨rfl,h⟩|⟨rfl,h1,h2⟩
    ·subst h
     split<;>simp
    ·subst h2
     rw[if_pos ⟨h1,rfl⟩];simp
  have hX:(i,c)∈(if x.op=31 then stmS true k (j+1) lp true (stG2 x.op j lp (stG1 j r [])) else if x.op=32 then stmS true k (j+1) true true (stG2 x.op j lp (stG1 j r [])) else stG2 x.op j lp (stG1 j r []))↔
   (i=j∧sayD p i c (lp,r))∨(i,c)∈(if x.op=31 then stmS true k (j+1) lp true [] else if x.op=32 then stmS true k (j+1) true true [] else []):=by
   split
   ·rw[stmS_app,List.mem_append,hE _ rfl]
   ·split
    ·rw[stmS_app,List.mem_append,hE _ rfl]
    ·rw[hE _ rfl];simp
  rw[hX];by_cases hi:i=j
  ·rw[if_pos hi]
   constructor
   ·rintro ((h|h)|h)
    ·exact⟨_,rfl,h.2⟩
    ·exfalso
     split at h
     ·have:=stmS_rg h;omega
     ·split at h
      ·have:=stmS_rg h;omega
      ·cases h
    ·have:=stmS_rg h;omega
   ·rintro⟨q,h1,h2⟩
    cases h1;exact .inl (.inl ⟨hi,h2⟩)
  ·rw[if_neg hi]
   by_cases h1:i<j+1+k.size
   ·rw[if_pos h1]
    have hn: ¬(i,c)∈stmS false n (j+1+k.size) lp (r&& !decide (x.op=33∨x.op=34∨x.op=35)) []:=fun h=>by have:=stmS_rg h;omega
    have e:(((i=j∧sayD p i c (lp,r))∨(i,c)∈(if x.op=31 then stmS true k (j+1) lp true [] else if x.op=32 then stmS true k (j+1) true true [] else []))∨(i,c)∈stmS false n (j+1+k.size) lp (r&& !decide (x.op=33∨x.op=34∨x.op=35)) [])↔(i,c)∈(if x.op=31 then stmS true k (j+1) lp true [] else if x.op=32 then stmS true k (j+1) true true [] else []):=
     ⟨fun h=>by
      rcases h with (h|h)|h
      ·exact absurd h.1 hi
      ·exact h
      ·exact absurd h hn,fun h=> .inl (.inr h)⟩
    rw[e];split
    ·exact stmS_visit true k (j+1) lp true ha.2.2.1 i c
    ·split
     ·exact stmS_visit true k (j+1) true true ha.2.2.1 i c
     ·simp
   ·rw[if_neg h1]
    have:=stmS_visit false n (j+1+k.size) lp (r&& !stpB x.op) ha.2.2.2 i c;rw[←this];constructor
    ·rintro ((h|h)|h)
     ·exact absurd h.1 hi
     ·exfalso
      split at h
      ·have:=stmS_rg h;omega
      ·split at h
       ·have:=stmS_rg h;omega
       ·cases h
     ·exact h
    ·exact .inr
theorem visit_start:∀ {u:Fo} {j i:Nat} {lp r:Bool},u.At p j→i∈u.starts j→visit false u j i lp r=some (lp,r&& !unrG p i (u.starts j))
 | .nil,_,_,_,_,_,h=>by simp[Fo.starts] at h
 | .cons x k n,j,i,lp,r,ha,h=>by
   simp only[Fo.starts,List.mem_cons] at h;have hx:=At.get ha;simp only[visit,Fo.starts,unrG];by_cases hi:i=j
   ·rw[if_pos hi,if_pos hi.symm];simp
   ·have h:=h.resolve_left hi
    have hg:=starts_ge h;rw[if_neg hi,if_neg (by omega),if_neg (fun e=>hi e.symm),visit_start ha.2.2.2 h,hx];unfold stpB;split
    ·rename_i hs;rw[decide_eq_true hs];simp
    ·rename_i hs;rw[decide_eq_false hs];simp
theorem visit_blk:∀ {u:Fo} {j b i:Nat} {lp r:Bool},u.At p j→b∈u.starts j→(p.getD b dN).op=4→b<i→i<b+1+(u.kid j b).size→visit true u j i lp r=visit false (u.kid j b) (b+1) i lp true
 | .nil,_,_,_,_,_,_,h,_,_,_=>by simp[Fo.starts] at h
 | .cons x k n,j,b,i,lp,r,ha,h,h4,h1,h2=>by
   simp only[Fo.starts,List.mem_cons] at h;have hx:=At.get ha;unfold Fo.kid at h2 ⊢;simp only[visit];by_cases hb:b=j
   ·subst hb
    rw[if_pos rfl] at h2 ⊢;rw[hx] at h4;rw[if_pos h2,if_pos ⟨h4,h1⟩]
   ·have h:=h.resolve_left hb
    have hg:=starts_ge h;rw[if_neg hb,if_neg (show ¬b<j+1+k.size by omega)] at h2 ⊢;rw[if_neg (by omega)];exact visit_blk ha.2.2.2 h h4 h1 h2
theorem visit_sub:∀ {m:Bool} {u:Fo} {j f i:Nat} {lp r:Bool} {q:Bool×Bool},u.At p j→visit m u j f lp r=some q→f<i→i<f+1+(u.kid j f).size→
 visit m u j i lp r=if (p.getD f dN).op=31 then visit true (u.kid j f) (f+1) i q.1 true else if (p.getD f dN).op=32 then visit true (u.kid j f) (f+1) i true true else none
 |true,.nil,_,_,_,_,_,_,_,h,_,_=>by simp[visit] at h
 |false,.nil,_,_,_,_,_,_,_,h,_,_=>by simp[visit] at h
 |true,.cons x k n,j,f,i,lp,r,q,ha,h,h1,h2=>by
  have hx:=At.get ha;have hk:=visit_rg h;simp only[Fo.size] at hk;have hks:=kid_size (t:=.cons x k n) hk.1 (by simpa [Fo.size] using hk.2);simp only[visit] at h;by_cases hfk:f<j+1+k.size
  ·rw[if_pos hfk] at h
   split at h
   ·rename_i h4
    have hkid:(Fo.cons x k n).kid j f=k.kid (j+1) f:=by simp only[Fo.kid];rw[if_neg (by omega),if_pos hfk]
    rw[hkid] at h2 hks ⊢;have hks':=kid_size (t:=k) (j:=j+1) (i:=f) (by omega) (by omega);simp only[visit];rw[if_pos (by omega),if_pos ⟨h4.1,by omega⟩];exact visit_sub ha.2.2.1 h h1 h2
   ·cases h
  ·rw[if_neg hfk] at h
   have hkid:(Fo.cons x k n).kid j f=n.kid (j+1+k.size) f:=by simp only[Fo.kid];rw[if_neg (by omega),if_neg hfk]
   rw[hkid] at h2 hks ⊢;simp only[visit];rw[if_neg (by omega)];exact visit_sub ha.2.2.2 h h1 h2
 |false,.cons x k n,j,f,i,lp,r,q,ha,h,h1,h2=>by
  have hx:=At.get ha;have hk:=visit_rg h;simp only[Fo.size] at hk;unfold Fo.kid at h2 ⊢;simp only[visit] at h ⊢;by_cases hf:f=j
  ·subst hf
   rw[if_pos rfl] at h h2 ⊢;cases h;rw[if_neg (by omega),if_pos h2,hx]
  ·rw[if_neg hf] at h
   rw[if_neg (show ¬i=j by omega)];by_cases hfk:f<j+1+k.size
   ·rw[if_pos hfk] at h
    have hks':=kid_size (t:=k) (j:=j+1) (i:=f) (by omega) (by omega);rw[if_neg hf,if_pos hfk] at h2 ⊢;rw[if_pos (by omega)];split at h
    ·rename_i h31
     rw[if_pos h31];exact visit_sub ha.2.2.1 h h1 h2
    ·rename_i h31
     rw[if_neg h31];split at h
     ·rename_i h32
      rw[if_pos h32];exact visit_sub ha.2.2.1 h h1 h2
     ·cases h
   ·rw[if_neg hfk] at h
    rw[if_neg hf,if_neg hfk] at h2 ⊢;rw[if_neg (by omega)];exact visit_sub ha.2.2.2 h h1 h2
def q3132 (op:Int) (b:UInt8):Bool:=decide (op≠31∧op≠32)||decide (b=83)|| !isBlkB (b.toNat:Int)
theorem kinds_3132 {c op kids:Int} (h:accB c op=true):∀ b∈(kindsB op kids).1,q3132 op b=true:=kinds_gen (by decide+kernel) (by decide) (by decide) (by decide) h
theorem visit_stm:∀ {m:Bool} {u:Fo} {j i:Nat} {lp r:Bool} {q:Bool×Bool} {cs:List (Bool×Int)},u.At p j→u.V cs→(m=false→∀ sl∈cs,sl=(false,83))→(m=true→∀ sl∈cs,sl.1=true→sl.2=83)→visit m u j i lp r=some q→
 accB 83 (p.getD i dN).op=true∧((m=false∧i∈u.starts j)∨∃ b,j≤b∧b<i∧(p.getD b dN).op=4∧i∈(u.kid j b).starts (b+1))
 |true,.nil,_,_,_,_,_,_,_,_,_,_,h=>by simp[visit] at h
 |false,.nil,_,_,_,_,_,_,_,_,_,_,h=>by simp[visit] at h
 |true,.cons x k n,j,i,lp,r,q,cs,ha,hv,_,hc,h=>by
  have hx:=At.get ha;simp only[visit] at h;split at h
  ·rename_i hk
   split at h
   ·rename_i h4
    obtain⟨c,hkv⟩:∃ c,c=(83:Int)∧k.V (List.replicate k.cnt (false,c)):=by
     match cs,hv with
     |(true,c)::cs',⟨h1,h2,h3⟩=>exact⟨c,hc rfl (true,c) (List.mem_cons_self ..) rfl,h2⟩
     |(false,c)::cs',⟨h1,h2,h3⟩=>rw[h4.1,acc4] at h1;exact absurd h1.1 (by decide)
    obtain⟨rfl,hkv⟩:=hkv;obtain⟨g1,g2⟩:=visit_stm ha.2.2.1 hkv (fun _ sl hsl=>(List.mem_replicate.1 hsl).2) (fun h=>by cases h) h;refine⟨g1,.inr ?_⟩
    rcases g2 with ⟨_,g⟩|⟨b,b1,b2,b3,b4⟩
    ·exact⟨j,Nat.le_refl _,h4.2,by rw[hx];exact h4.1,by unfold Fo.kid;rw[if_pos rfl];exact g⟩
    ·refine⟨b,by omega,b2,b3,?_⟩
     unfold Fo.kid;rw[if_neg (by omega),if_pos (by omega)];exact b4
   ·cases h
  ·rename_i hk
   obtain⟨sl,cs',rfl,hn⟩:∃ sl cs',cs=sl::cs'∧n.V cs':=by
    match cs,hv with
    |(true,c)::cs',⟨h1,h2,h3⟩=>exact⟨_,_,rfl,h3⟩
    |(false,c)::cs',⟨h1,h2,h3⟩=>exact⟨_,_,rfl,h3⟩
   obtain⟨g1,g2⟩:=visit_stm ha.2.2.2 hn (fun h=>by cases h) (fun e sl hsl=>hc e sl (List.mem_cons_of_mem _ hsl)) h;refine⟨g1,.inr ?_⟩
   rcases g2 with ⟨g,_⟩|⟨b,b1,b2,b3,b4⟩
   ·cases g
   ·refine⟨b,by omega,b2,b3,?_⟩
    unfold Fo.kid;rw[if_neg (by omega),if_neg (by omega)];exact b4
 |false,.cons x k n,j,i,lp,r,q,cs,ha,hv,hc,_,h=>by
  have hx:=At.get ha;simp only[visit] at h
  obtain⟨hx83,hkv,cs',hcs,hn⟩:accB 83 x.op=true∧k.V (slots (kindsB x.op x.kids).1)∧∃ cs',(∀ sl∈cs',sl=(false,83))∧n.V cs':=by
   match cs,hv with
   |(true,c)::cs',hv=>exact absurd (hc rfl (true,c) (List.mem_cons_self ..)) (by simp)
   |(false,c)::cs',⟨h1,h2,h3⟩=>
    have hc0:=hc rfl (false,c) (List.mem_cons_self ..);simp only[Prod.mk.injEq,true_and] at hc0;subst hc0;exact⟨h1.1,h2,cs',fun sl hsl=>hc rfl sl (List.mem_cons_of_mem _ hsl),h3⟩
  split at h
  ·rename_i hi
   subst hi;exact⟨by rw[hx];exact hx83,.inl ⟨rfl,by simp[Fo.starts]⟩⟩
  ·rename_i hi
   split at h
   ·rename_i hk
    have key:∀ lp',(x.op=31∨x.op=32)→visit true k (j+1) i lp' true=some q→accB 83 (p.getD i dN).op=true∧((false=false∧i∈(Fo.cons x k n).starts j)∨∃ b,j≤b∧b<i∧(p.getD b dN).op=4∧i∈((Fo.cons x k n).kid j b).starts (b+1)):=by
     intro lp' ho h
     obtain⟨g1,g2⟩:=visit_stm ha.2.2.1 hkv (fun h=>by cases h) (fun _ sl hsl h1=>by
      obtain⟨b,hb,rfl⟩:=slots_mem hsl;have hq:=kinds_3132 hx83 b hb;unfold q3132 at hq;simp only at h1;rw[h1] at hq
      have hb83:b=83:=by
       simp only[Bool.or_eq_true,decide_eq_true_eq,Bool.not_true,Bool.or_false] at hq
       rcases hq with hq|hq
       ·omega
       ·exact hq
      subst hb83;rfl) h
     refine⟨g1,.inr ?_⟩
     rcases g2 with ⟨g,_⟩|⟨b,b1,b2,b3,b4⟩
     ·cases g
     ·refine⟨b,by omega,b2,b3,?_⟩
      unfold Fo.kid;rw[if_neg (by omega),if_pos (by omega)];exact b4
    split at h
    ·exact key _ (.inl ‹_›) h
    ·split at h
     ·exact key _ (.inr ‹_›) h
     ·cases h
   ·obtain⟨g1,g2⟩:=visit_stm ha.2.2.2 hn (fun _=>hcs) (fun h=>by cases h) h
    refine⟨g1,?_⟩
    rcases g2 with ⟨_,g⟩|⟨b,b1,b2,b3,b4⟩
    ·exact .inl ⟨rfl,by simp only[Fo.starts,List.mem_cons];exact .inr g⟩
    ·refine .inr ⟨b,by omega,b2,b3,?_⟩
     unfold Fo.kid;rw[if_neg (by omega),if_neg (by omega)];exact b4
theorem acc_stm {c op:Int} (h:accB c op=true) (ho:op=31∨op=32∨op=33∨op=34∨op=35):c=83:=by
 unfold accB at h;split at h
 ·simp at h;omega
 split at h
 ·simp at h;omega
 split at h
 ·simp[isExprB,isDataB] at h;omega
 split at h
 ·simp at h;omega
 split at h
 ·simp[isDataB] at h;omega
 split at h
 ·simp[isDataB] at h;omega
 split at h
 ·simp at h;omega
 split at h
 ·simp[isElemB] at h;omega
 split at h
 ·assumption
 ·cases h
theorem acc_83 {c op:Int} (h:accB c op=true) (hb:isBlkB c=true) (h83:accB 83 op=true):c=83:=by
 have ho:30≤op∧op≤42∨op=5:=by unfold accB at h83;simp at h83;omega
 unfold isBlkB at hb;rw[decide_eq_true_eq] at hb;unfold accB at h;split at h
 ·omega
 split at h
 ·simp at h;omega
 split at h
 ·omega
 split at h
 ·omega
 split at h
 ·omega
 split at h
 ·simp[isDataB] at h;omega
 split at h
 ·simp at h;omega
 split at h
 ·simp[isElemB] at h;omega
 split at h
 ·assumption
 ·cases h
theorem blk_only {c':Int}:∀ (ls:List Int) (u:Fo) (i b:Nat),(ls.all leafK)=true→u.V (ls.map (fun c=>(false,c))++[(true,c')])→u.At p i→b∈u.starts i→(p.getD b dN).op=4→b=i+ls.length
 |[],u,i,b,_,h,ha,hb,h4=>by
  obtain⟨y,bl,n,rfl,h1,h2,h3⟩:=V_blk h;have:=V_nil h1;subst this
  simpa [Fo.starts] using hb
 |c::ls,u,i,b,hl,h,ha,hb,h4=>by
  simp only[List.all_cons,Bool.and_eq_true] at hl;obtain⟨y,n,rfl,h1,h2⟩:=V_leaf hl.1 h;have hx:=At.get ha;simp only[Fo.starts,List.mem_cons] at hb
  rcases hb with rfl|hb
  ·rw[hx] at h4;omega
  ·have:=blk_only ls n _ b hl.2 h1 ha.2.2.2 hb h4
   rw[this];simp only[Fo.size,List.length_cons];omega
theorem blk_up (ha:t.At p 0) (hv:t.V (List.replicate t.cnt (false,68))) {b:Nat} (hb:b<t.size) (h4:(p.getD b dN).op=4):
 ∃ c,NodeV p t b (true,c)∧isBlkB c=true∧∃ f,f<b∧ctxT t b=innI (p.getD f dN) (nameF (t.kid 0 f)) f (ctxT t f)∧b∈(t.kid 0 f).starts (f+1)∧(c=83→(p.getD f dN).op=14∨(p.getD f dN).op=31∨(p.getD f dN).op=32):=by
 obtain⟨sb,g1,g2⟩:=par_slot ha hv hb;have hsb:=(blk_slot g1).2 h4
 rcases g2 with ⟨_,g⟩|⟨f,slf,hfb,hcf,hbf,hnf,g⟩
 ·rw[g] at hsb;cases hsb
 rcases g with ⟨_,g,_⟩|⟨_,g3,g4⟩
 ·rw[g] at hsb;cases hsb
 ·obtain⟨x,hx,e⟩:=slots_mem g4
  rw[e] at g1 hsb;refine⟨(x.toNat:Int),by rw[←show isBlkB (x.toNat:Int)=true from hsb];exact g1,hsb,f,hfb,hcf,hbf,fun h83=>?_⟩
  have hx83:x=83:=by
   have:=UInt8.toNat_inj (a:=x) (b:=83);exact this.1 (by simp;omega)
  subst hx83;exact qBody83 (kinds_body (kids:=(p.getD f dN).kids) g3 _ hx)
theorem blk_kid (ha:t.At p 0) (hv:t.V (List.replicate t.cnt (false,68))) {b i:Nat} (hb:b<t.size) {c:Int} (hn:NodeV p t b (true,c)) (hi:i∈(t.kid 0 b).starts (b+1)):accB c (p.getD i dN).op=true:=by
 obtain⟨s',q1,q2⟩:=slot_kid ha hb hn hv hi
 rcases q2 with ⟨_,q,_⟩|⟨q,_⟩
 ·subst q;exact q1.1.1
 ·cases q
theorem stm_blk (ha:t.At p 0) (hv:t.V (List.replicate t.cnt (false,68))) {i:Nat} (hi:i<t.size) (ho:(p.getD i dN).op=31∨(p.getD i dN).op=32∨(p.getD i dN).op=33∨(p.getD i dN).op=34∨(p.getD i dN).op=35):
 ∃ b,b<i∧(p.getD b dN).op=4∧i∈(t.kid 0 b).starts (b+1)∧accB 83 (p.getD i dN).op=true:=by
 obtain⟨⟨sb,sc⟩,g1,g2⟩:=par_slot ha hv hi
 have hsb:sb=false:=by
  cases sb
  ·rfl
  ·have:=(blk_slot g1).1 rfl;omega
 subst hsb;have h83:=acc_stm g1.1.1 ho;subst h83
 rcases g2 with ⟨_,g⟩|⟨b,slb,hb,_,hib,_,g⟩
 ·cases g
 rcases g with ⟨_,_,g⟩|⟨_,_,g⟩
 ·exact⟨b,hb,g,hib,g1.1.1⟩
 ·obtain⟨x,_,e⟩:=slots_mem g
  simp only[Prod.mk.injEq] at e;rw[←e.2] at e;exact absurd e.1 (by decide)
theorem visit_at (ha:t.At p 0) (hv:t.V (List.replicate t.cnt (false,68))):∀ i,i<t.size→∀ b,b<i→(p.getD b dN).op=4→i∈(t.kid 0 b).starts (b+1)→accB 83 (p.getD i dN).op=true→
 ∃ M:Nat,M<i∧(ctxT t i).me=(M:Int)∧(p.getD M dN).op=14∧visit false (lastBl (t.kid 0 M)) (M+6) i false true=some (decide (0≤(ctxT t i).lo),!unrB p t i):=by
 intro i
 induction i using Nat.strongRecOn with
 |ind i ih=>
  intro hi b hbi h4 hib h83
  have hb:b<t.size:=by omega
  obtain⟨c,n1,n2,f,hfb,hcf,hbf,hop⟩:=blk_up ha hv hb h4;have hc83:c=83:=acc_83 (blk_kid ha hv hb n1 hib) n2 h83;have hop:=hop hc83;have hci:=(ctx_kid ha hb hib).2.2
  have hme:(ctxT t i).me=(ctxT t b).me:=by rw[hci];unfold innI;simp only;rw[if_neg (by omega)]
  have hlo:(ctxT t i).lo=(ctxT t b).lo:=by rw[hci];unfold innI;simp only;rw[if_neg (by omega),if_neg (by omega)]
  have hpa:(ctxT t i).pa=(b:Int):=by rw[hci];rfl
  have hun:unrB p t i=unrG p i ((t.kid 0 b).starts (b+1)):=by
   unfold unrB;rw[hpa,if_neg (by omega),Int.toNat_natCast,if_pos h4]
  obtain⟨_,kb,_⟩:=kid_at ha hv (Nat.zero_le b) (by omega:b<0+t.size);have kbA:=kb.2.2.1;have hrb:=starts_ge hbf;by_cases h14:(p.getD f dN).op=14
  ·refine⟨f,by omega,by rw[hme,hcf];unfold innI;simp only;rw[if_pos h14],h14,?_⟩
   obtain⟨_,f1,f2,_,_⟩:=node_kids ha hv (show f<t.size by omega) (by omega);rw[h14,kinds_14] at f2;have hbe:=blk_only (c':=83) [115,105,105,105] (t.kid 0 f) (f+1) b (by decide) f2 f1 hbf h4
   have hbe:b=f+5:=by simpa using hbe
   obtain⟨_,k2⟩:=(args_where (c':=83) [115,105,105,105] (t.kid 0 f) (by decide) f2).2 (f+1)
   have hk:t.kid 0 b=lastBl (t.kid 0 f):=by
    rw[(kid_kid ha (Nat.zero_le f) (by omega) hfb (by omega) ini).1,←k2,hbe];rfl
   rw[hk,hbe] at kbA hib hun;rw[visit_start kbA hib,hun,hlo,hcf];unfold innI;simp only;rw[if_pos h14];rfl
  ·have h31:=hop.resolve_left h14
   obtain⟨b',hb1,hb2,hb3,hb4⟩:=stm_blk ha hv (show f<t.size by omega) (by omega);obtain⟨M,m1,m2,m3,m4⟩:=ih f (by omega) (by omega) b' hb1 hb2 hb3 hb4;refine⟨M,by omega,by rw[hme,hcf,←m2];unfold innI;simp only;rw[if_neg h14],m3,?_⟩;obtain⟨_,q1,q2,_,_⟩:=node_kids ha hv (show M<t.size by omega) (by omega);rw[m3,kinds_14] at q2;obtain⟨s1,s2⟩:=args_where (c':=83) [115,105,105,105] (t.kid 0 M) (by decide) q2;obtain⟨s3,s4⟩:=s2 (M+1)
   have e5:M+1+([115,105,105,105]:List Int).length=M+5:=by simp
   rw[e5] at s3 s4
   have hszM:(t.kid 0 M).size=5+(lastBl (t.kid 0 M)).size:=by simp at s1;omega
   have hMs:=kid_size (t:=t) (Nat.zero_le M) (by omega)
   have hk5:t.kid 0 (M+5)=lastBl (t.kid 0 M):=by rw[(kid_kid ha (Nat.zero_le M) (by omega) (by omega:M<M+5) (by omega) ini).1,s4]
   obtain⟨_,k5,_⟩:=kid_at ha hv (Nat.zero_le (M+5)) (by omega:M+5<0+t.size);have k5A:=k5.2.2.1;rw[hk5] at k5A;have hrg:=visit_rg m4
   have hkf:(lastBl (t.kid 0 M)).kid (M+6) f=t.kid 0 f:=by
    rw[(kid_kid ha (Nat.zero_le (M+5)) (by omega) (by omega:M+5<f) (by rw[hk5];omega) ini).1,hk5]
   have hri:=starts_ge hib;have hsb:=starts_sub ha (show f<t.size by omega) hfb (by omega);rw[visit_sub k5A m4 (show f<i by omega) (by rw[hkf];omega),hkf];obtain⟨_,kf,_⟩:=kid_at ha hv (Nat.zero_le f) (by omega:f<0+t.size);have kfA:=kf.2.2.1
   have hkb:(t.kid 0 f).kid (f+1) b=t.kid 0 b:=by
    rw[(kid_kid ha (Nat.zero_le f) (by omega) hfb (by omega) ini).1]
   have hvb:∀ lp,visit true (t.kid 0 f) (f+1) i lp true=some (lp,!unrB p t i):=fun lp=>by
    rw[visit_blk kfA hbf h4 hbi (by rw[hkb];omega),hkb,visit_start kbA hib,hun];rfl
   rw[hvb,hvb,hlo,hcf];unfold innI;simp only;rw[if_neg h14]
   rcases h31 with h|h
   ·rw[if_pos h,if_neg (by omega)]
   ·rw[if_neg (by omega),if_pos h,if_pos h,decide_eq_true (Int.natCast_nonneg f)]
theorem visit_in (ha:t.At p 0) (hv:t.V (List.replicate t.cnt (false,68))) {M i:Nat} (hM:M<t.size) (h14:(p.getD M dN).op=14) {q:Bool×Bool} (h:visit false (lastBl (t.kid 0 M)) (M+6) i false true=some q):
 i<t.size∧q=(decide (0≤(ctxT t i).lo),!unrB p t i):=by
 obtain⟨_,q1,q2,_,_⟩:=node_kids ha hv hM (by omega);rw[h14,kinds_14] at q2;obtain⟨s1,s2⟩:=args_where (c':=83) [115,105,105,105] (t.kid 0 M) (by decide) q2;obtain⟨s3,s4⟩:=s2 (M+1)
 have e5:M+1+([115,105,105,105]:List Int).length=M+5:=by simp
 rw[e5] at s3 s4
 have hszM:(t.kid 0 M).size=5+(lastBl (t.kid 0 M)).size:=by simp at s1;omega
 have hMs:=kid_size (t:=t) (Nat.zero_le M) (by omega)
 have hk5:t.kid 0 (M+5)=lastBl (t.kid 0 M):=by rw[(kid_kid ha (Nat.zero_le M) (by omega) (by omega:M<M+5) (by omega) ini).1,s4]
 obtain⟨_,k5,_⟩:=kid_at ha hv (Nat.zero_le (M+5)) (by omega:M+5<0+t.size);have k5A:=k5.2.2.1;rw[hk5] at k5A;obtain⟨b,_,hb2⟩:=args_last (c':=83) [115,105,105,105] (t.kid 0 M) (by decide) q2;have hbV:=(hb2 p (M+1) q1).2.2.1
 have hop5:(p.getD (M+5) dN).op=4:=by
  have:=(hb2 p (M+1) q1).1;rw[show M+1+([115,105,105,105]:List Int).length=M+5 by simp] at this;rw[At.get this];exact (hb2 p (M+1) q1).2.1.1
 have hrg:=visit_rg h;obtain⟨g1,g2⟩:=visit_stm k5A hbV (fun _ sl hsl=>(List.mem_replicate.1 hsl).2) (fun h=>by cases h) h
 have hb:∃ b,b<i∧(p.getD b dN).op=4∧i∈(t.kid 0 b).starts (b+1):=by
  rcases g2 with ⟨_,g⟩|⟨b,b1,b2,b3,b4⟩
  ·exact⟨M+5,by omega,hop5,by rw[hk5];exact g⟩
  ·refine⟨b,b2,b3,?_⟩
   rw[(kid_kid ha (Nat.zero_le (M+5)) (by omega) (by omega:M+5<b) (by rw[hk5];omega) ini).1,hk5];exact b4
 obtain⟨b,b1,b2,b3⟩:=hb;obtain⟨M',m1,m2,m3,m4⟩:=visit_at ha hv i (by omega) b b1 b2 b3 g1;have hmi:=(met_me ha hv hM h14).2 i (by omega) (by omega)
 have hMM:M'=M:=by omega
 subst hMM;rw[h] at m4;exact⟨by omega,Option.some.inj m4⟩
end
end Go.Proofs.YtphdhedhhlfepaaGreatDoor
