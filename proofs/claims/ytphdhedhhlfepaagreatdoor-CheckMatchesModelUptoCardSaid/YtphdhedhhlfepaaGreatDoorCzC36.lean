import Derived.Test.YtphdhedhhlfepaaGreatDoorCzC35
import Derived.Test.YtphdhedhhlfepaaGreatDoorCzC20
set_option linter.unusedSimpArgs false
set_option linter.unusedVariables false
namespace Go.Proofs.YtphdhedhhlfepaaGreatDoor
open Go Ab
set_option maxRecDepth 100000
set_option maxHeartbeats 1000000
def firstG (s:By):List Inf→Nat→Int
 |[],_=> -1
 |x::l,i=>if x.path=s then (i:Int) else firstG s l (i+1)
def firstR (L:List Inf) (s:By):Int:=firstG s L 0
theorem firstR_c (L:List Inf) (hl:L.length≤2048) (s:By):FC Tryz.prog 86 [infV L,sV s] 0 [] (nI (firstR L s)) 0 []:=by
 unfold firstR;generalize hR:firstG s L 0=R;refine FC.walk (by kernel_rfl) Tryz.func86 rfl rfl ?_
 repeat'(first|exact y0|refine y1 ?_|refine y2 ?_ ?_|(refine y8 ?_ ?_<;>intro h<;>try exact y6)|refine y3 ?_|refine y7 ?_ ?_|refine y4 ?_|(refine y9 ?_ ?_<;>intro h)|exact y5|fail)
 refine Ex.inv (σ:=Nat) (fun j=>[(5,nI j)]) (fun _=>[]) (fun j=>j≤L.length∧firstG s (L.drop j) j=R) (fun j=>L.length-j) 0 rfl (fun _=>rfl) ⟨Nat.zero_le _,hR⟩ ⟨VLe.refl _,trivial⟩ trivial ?_;rintro j ⟨hj,hI⟩;by_cases h:j<L.length
 ·have hd:L.drop j=L.getD j ini::L.drop (j+1):=by
   rw[List.drop_eq_getElem_cons h,List.getD_eq_getElem?_getD,List.getElem?_eq_getElem h];rfl
  rw[hd] at hI;simp only[firstG] at hI;by_cases ho:(L.getD j ini).path=s
  ·rw[if_pos ho] at hI
   repeat'(first|exact y0|refine y1 ?_|refine y2 ?_ ?_|(refine y8 ?_ ?_<;>intro h<;>try(exact y6))|refine Fin.int (.inl rfl) rfl ?_|refine y3 ?_|refine y7 ?_ ?_|refine y4 ?_|(refine y9 ?_ ?_<;>intro h)|exact y5|fail)
   all_goals exact hI
  ·rw[if_neg ho] at hI
   repeat'(first|exact y0|refine y1 ?_|refine y2 ?_ ?_|(refine y8 ?_ ?_<;>intro h<;>try(exact y6))|refine y3 ?_|refine y7 ?_ ?_|refine y4 ?_|(refine y9 ?_ ?_<;>intro h)|exact y5|fail)
   refine LoopR.same (j+1) ⟨by omega,hI⟩ (by omega) rfl ⟨VLe.refl _,trivial⟩ trivial rfl rfl (by decide)
 ·rw[List.drop_eq_nil_of_le (by omega)] at hI
  simp only[firstG] at hI
  repeat'(first|exact y0|refine y1 ?_|refine y2 ?_ ?_|(refine y8 ?_ ?_<;>intro h<;>try exact y6)|refine Fin.int (.inl rfl) rfl ?_|refine y3 ?_|refine y7 ?_ ?_|refine y4 ?_|(refine y9 ?_ ?_<;>intro h)|exact y5|fail)
  all_goals exact hI
theorem numK_c {p:List Nd} {i:Nat} {cs:List Nat} (hkc:FC Tryz.prog 81 [nodes p,nI i] 0 [] (.s (intsF cs)) 0 []) (k:Nat) (hk:k<cs.length) (hb:cs.getD k 0<p.length):FC Tryz.prog 91 [nodes p,nI i,nI k] 0 [] (nU (numN p (cs.getD k 0))) 0 []:=by
 refine FC.walk (by kernel_rfl) Tryz.func91 rfl rfl ?_
 repeat'(first|exact y0|refine y1 ?_|refine y2 ?_ ?_|(refine y8 ?_ ?_<;>intro h<;>try exact y6)|(refine wC ?_;first|refine wF 81 (pu hkc ?_))|refine Fin.int (.inl rfl) rfl ?_|refine y3 ?_|refine y7 ?_ ?_|refine y4 ?_|(refine y9 ?_ ?_<;>intro h)|exact y5|fail)
 all_goals first|exact hk|exact hb|rfl
def widB (w:Int):Bool:=decide (w=1∨w=2∨w=4∨w=8)
theorem width_c (w:Int):FC Tryz.prog 130 [nU w] 0 [] (bV (widB w)) 0 []:=by
 refine FC.walk (by kernel_rfl) Tryz.func130 rfl rfl ?_
 repeat'(first|exact y0|refine y1 ?_|refine y2 ?_ ?_|(refine y8 ?_ ?_<;>intro h<;>try exact y6)|refine Fin.bool (.inl rfl) rfl ?_|refine y3 ?_|refine y7 ?_ ?_|refine y4 ?_|(refine y9 ?_ ?_<;>intro h)|exact y5|fail)
 all_goals (unfold widB;first|(rw[decide_eq_true (by omega)];done)|(rw[decide_eq_false (by omega)];done)|(simp;omega))
theorem starts_lead:∀ (ls:List Int) (r:List (Bool×Int)) (t:Fo) (j:Nat),ls.all leafK=true→t.V (ls.map (fun c=>(false,c))++r)→∀ k,k<ls.length∨(k=ls.length∧r≠[])→(t.starts j).getD k 0=j+k∧k<(t.starts j).length
 |[],r,t,j,_,hv,k,hk=>by
  obtain⟨rfl,hr⟩:k=0∧r≠[]:=by
   rcases hk with h|h
   ·simp at h
   ·exact h
  cases t with
  |nil=>
   cases r with
   |nil=>exact absurd rfl hr
   |cons a r=>exact hv.elim
  |cons x kk n=>exact⟨rfl,by simp[Fo.starts]⟩
 |c::ls,r,t,j,hl,hv,k,hk=>by
  simp only[List.all_cons,Bool.and_eq_true] at hl;obtain⟨y,n,rfl,h1,_⟩:=V_leaf hl.1 hv
  cases k with
  |zero=>exact⟨rfl,by simp[Fo.starts]⟩
  |succ k=>
   have ih:=starts_lead ls r n (j+1) hl.2 h1 k (by
    rcases hk with h|⟨h,h'⟩
    ·left;simpa using h
    ·right;exact⟨by simpa using h,h'⟩)
   simp only[Fo.starts,Fo.size,Nat.add_zero,List.getD_cons_succ,List.length_cons];rw[ih.1];exact⟨by omega,by omega⟩
def leadN (op:Int):Nat:=
 if op=10∨op=11∨op=13∨op=18∨op=20∨op=41∨op=50∨op=51 then 2 else if op=12∨op=15∨op=16 then 4 else if op=14∨op=17 then 5 else if op=19∨op=21 then 1 else 0
section
variable {p:List Nd} {t:Fo} {cs:List (Bool×Int)}
theorem lead_at (ha:t.At p 0) (hv:t.V cs) {i:Nat} (hi:i<t.size) {k:Nat} (hk:k<leadN (p.getD i dN).op):((t.kid 0 i).starts (i+1)).getD k 0=i+1+k∧k<((t.kid 0 i).starts (i+1)).length∧i+1+k<t.size:=by
 have h4:(p.getD i dN).op≠4:=by intro e;rw[e] at hk;simp[leadN] at hk
 obtain⟨_,_,h2,_⟩:=node_kids ha hv hi h4
 have key:((t.kid 0 i).starts (i+1)).getD k 0=i+1+k∧k<((t.kid 0 i).starts (i+1)).length:=by
  have hop:(p.getD i dN).op=10∨(p.getD i dN).op=11∨(p.getD i dN).op=13∨(p.getD i dN).op=18∨(p.getD i dN).op=20∨(p.getD i dN).op=41∨(p.getD i dN).op=50∨(p.getD i dN).op=51∨(p.getD i dN).op=12∨(p.getD i dN).op=15∨(p.getD i dN).op=16∨(p.getD i dN).op=14∨(p.getD i dN).op=17∨(p.getD i dN).op=19∨(p.getD i dN).op=21:=by
   unfold leadN at hk;split at hk
   ·omega
   split at hk
   ·omega
   split at hk
   ·omega
   split at hk
   ·omega
   ·omega
  rcases hop with e|e|e|e|e|e|e|e|e|e|e|e|e|e|e<;>rw[e] at h2 hk
  ·exact starts_lead [110] [(true,68)] _ _ rfl h2 k (by have:k<2:=hk;simp;omega)
  ·exact starts_lead [115] [(true,68)] _ _ rfl h2 k (by have:k<2:=hk;simp;omega)
  ·exact starts_lead [115] [(false,100)] _ _ rfl h2 k (by have:k<2:=hk;simp;omega)
  ·exact starts_lead [115,105] [] _ _ rfl h2 k (by have:k<2:=hk;simp;omega)
  ·exact starts_lead [115,105] [] _ _ rfl h2 k (by have:k<2:=hk;simp;omega)
  ·exact starts_lead [110,105] [] _ _ rfl h2 k (by have:k<2:=hk;simp;omega)
  ·exact starts_lead [105] [(true,73)] _ _ rfl h2 k (by have:k<2:=hk;simp;omega)
  ·exact starts_lead [105] [(true,80)] _ _ rfl h2 k (by have:k<2:=hk;simp;omega)
  ·exact starts_lead [115,105,105] [(true,68)] _ _ rfl h2 k (by have:k<4:=hk;simp;omega)
  ·exact starts_lead [115,105,105,105] [] _ _ rfl h2 k (by have:k<4:=hk;simp;omega)
  ·exact starts_lead [110,105,105] [(true,70)] _ _ rfl h2 k (by have:k<4:=hk;simp;omega)
  ·exact starts_lead [115,105,105,105] [(true,83)] _ _ rfl h2 k (by have:k<5:=hk;simp;omega)
  ·exact starts_lead [110,110,105,105] [(true,70)] _ _ rfl h2 k (by have:k<5:=hk;simp;omega)
  ·exact starts_lead [105] [] _ _ rfl h2 k (by have:k<1:=hk;simp;omega)
  ·exact starts_lead [115] [] _ _ rfl h2 k (by have:k<1:=hk;simp;omega)
 refine⟨key.1,key.2,?_⟩
 have hm:((t.kid 0 i).starts (i+1)).getD k 0∈(t.kid 0 i).starts (i+1):=by
  rw[List.getD_eq_getElem?_getD,List.getElem?_eq_getElem key.2];exact List.getElem_mem _
 have:=(ctx_kid ha hi hm).2.1;rw[key.1] at this;exact this
theorem num_c (hp:p.length≤2048) (ha:t.At p 0) (hv:t.V cs) (hs:t.size=p.length) {i:Nat} (hi:i<t.size) (k:Nat) (hk:k<leadN (p.getD i dN).op):FC Tryz.prog 91 [nodes p,nI i,nI k] 0 [] (nU (numN p (i+1+k))) 0 []:=by
 obtain⟨h1,h2,h3⟩:=lead_at ha hv hi hk;have:=numK_c (kids_c hp ha hv hs hi) k h2 (by rw[h1];omega)
 rwa [h1] at this
theorem leafs_starts:∀ (t:Fo) (j n:Nat),t.V (List.replicate n (false,73))→t.starts j=List.range' j n∧t.size=n∧t.cnt=n
 |t,j,0,h=>by
  have:=V_nil h;subst this;exact⟨rfl,rfl,rfl⟩
 |t,j,n+1,h=>by
  rw[List.replicate_succ] at h;obtain⟨y,m,rfl,h1,_⟩:=V_leaf (by decide) h;obtain⟨h2,h3,h4⟩:=leafs_starts m (j+1) n h1;refine⟨?_,by simp only[Fo.size];omega,by simp only[Fo.cnt];omega⟩;simp only[Fo.starts,Fo.size,Nat.add_zero,h2];rfl
theorem buf_kids (ha:t.At p 0) (hv:t.V cs) {i:Nat} (hi:i<t.size) (hop:(p.getD i dN).op=50):∃ K:Nat,(p.getD (i+2) dN).kids=(K:Int)∧(t.kid 0 (i+2)).starts (i+3)=List.range' (i+3) K∧i+3+K≤t.size:=by
 obtain⟨h0,h1,h2,_⟩:=node_kids ha hv hi (by omega);rw[hop] at h2;have h3:=kid_size (t:=t) (Nat.zero_le i) (by omega);have h4:=kid_kid ha (Nat.zero_le i) (by omega) (m:=i+2);generalize t.kid 0 i=k at*;obtain⟨y,n,rfl,g1,_⟩:=V_leaf (c:=105) (by decide) h2;obtain⟨b,bl,n2,rfl,g2,g3,g4⟩:=V_blk g1;have:=V_nil g2;subst this;obtain⟨f1,f2,f3⟩:=leafs_starts bl (i+3) bl.cnt g4;have e:=(h4 (by omega) (by simp only[Fo.size];omega) ini).1
 have e2:t.kid 0 (i+2)=bl:=by rw[e];simp[Fo.kid,Fo.size]
 have h5:(Fo.cons b bl .nil).At p (i+2):=by have:=h1.2.2.2;simpa [Fo.size] using this
 refine⟨bl.cnt,by rw[At.get h5];exact h5.2.1,by rw[e2,f1],?_⟩;simp only[Fo.size] at h3;omega
theorem inR_c (hp:p.length≤2048) (hI:wfI p) (ha:t.At p 0) (hv:t.V cs) (hs:t.size=p.length) {i:Nat} (hi:i<t.size):FC Tryz.prog 87 [nodes p,nI i] 0 [] (bV (!oorB p i)) 0 []:=by
 have hnum:=fun (k:Nat)=>num_c hp ha hv hs hi k
 have hin:i<p.length:=by omega
 have hge:∀ j,0≤numN p j:=fun j=>wfI_get hI j
 by_cases h12:(p.getD i dN).op=12
 ·have n1:=hnum 1 (by rw[h12];decide)
  have n2:=hnum 2 (by rw[h12];decide);have g1:=hge (i+1+1);have g2:=hge (i+1+2)
  have hoor:oorB p i=(decide (5<numN p (i+1+1))||decide (65535<numN p (i+1+2))):=by unfold oorB;(repeat (first|rw[if_pos h12]|rw[if_neg (by omega)]))
  clear hnum hge;refine FC.walk (by kernel_rfl) Tryz.func87 rfl rfl ?_
  repeat'(first|exact y0|refine y1 ?_|refine y2 ?_ ?_|(refine y8 ?_ ?_<;>intro h<;>try exact y6)|(refine wC ?_;first|refine wF 91 (pu n1 ?_)|refine wF 91 (pu n2 ?_))|exact u64_in (by omega) (by omega)|refine Fin.bool (.inl rfl) rfl ?_|refine y3 ?_|refine y7 ?_ ?_|refine y4 ?_|(refine y9 ?_ ?_<;>intro h)|exact y5|fail)
  all_goals (rw[hoor];first|(simp;omega)|(simp[*];done)|(simp[widB] at*;omega))
 by_cases h14:(p.getD i dN).op=14
 ·have n1:=hnum 1 (by rw[h14];decide)
  have n2:=hnum 2 (by rw[h14];decide);have n3:=hnum 3 (by rw[h14];decide);have g1:=hge (i+1+1);have g2:=hge (i+1+2);have g3:=hge (i+1+3)
  have hoor:oorB p i=(decide (7<numN p (i+1+1))||decide (1<numN p (i+1+2))||decide (15<numN p (i+1+3))):=by unfold oorB;(repeat (first|rw[if_pos h14]|rw[if_neg (by omega)]))
  clear hnum hge;refine FC.walk (by kernel_rfl) Tryz.func87 rfl rfl ?_
  repeat'(first|exact y0|refine y1 ?_|refine y2 ?_ ?_|(refine y8 ?_ ?_<;>intro h<;>try exact y6)|(refine wC ?_;first|refine wF 91 (pu n1 ?_)|refine wF 91 (pu n2 ?_)|refine wF 91 (pu n3 ?_))|exact u64_in (by omega) (by omega)|refine Fin.bool (.inl rfl) rfl ?_|refine y3 ?_|refine y7 ?_ ?_|refine y4 ?_|(refine y9 ?_ ?_<;>intro h)|exact y5|fail)
  all_goals (rw[hoor];first|(simp;omega)|(simp[*];done)|(simp[widB] at*;omega))
 by_cases h20:(p.getD i dN).op=20
 ·have n1:=hnum 1 (by rw[h20];decide)
  have g1:=hge (i+1+1)
  have hoor:oorB p i=(decide (15<numN p (i+1+1))):=by unfold oorB;(repeat (first|rw[if_pos h20]|rw[if_neg (by omega)]))
  clear hnum hge;refine FC.walk (by kernel_rfl) Tryz.func87 rfl rfl ?_
  repeat'(first|exact y0|refine y1 ?_|refine y2 ?_ ?_|(refine y8 ?_ ?_<;>intro h<;>try exact y6)|(refine wC ?_;first|refine wF 91 (pu n1 ?_))|exact u64_in (by omega) (by omega)|refine Fin.bool (.inl rfl) rfl ?_|refine y3 ?_|refine y7 ?_ ?_|refine y4 ?_|(refine y9 ?_ ?_<;>intro h)|exact y5|fail)
  all_goals (rw[hoor];first|(simp;omega)|(simp[*];done)|(simp[widB] at*;omega))
 by_cases h15:(p.getD i dN).op=15
 ·have n1:=hnum 1 (by rw[h15];decide)
  have n2:=hnum 2 (by rw[h15];decide);have n3:=hnum 3 (by rw[h15];decide);have g1:=hge (i+1+1);have g2:=hge (i+1+2);have g3:=hge (i+1+3)
  have hoor:oorB p i=(regB (numN p (i+1+1)) (numN p (i+1+2)) (numN p (i+1+3))):=by unfold oorB;(repeat (first|rw[if_pos h15]|rw[if_neg (by omega)]))
  unfold regB at hoor;clear hnum hge;refine FC.walk (by kernel_rfl) Tryz.func87 rfl rfl ?_
  repeat'(first|exact y0|refine y1 ?_|refine y2 ?_ ?_|(refine y8 ?_ ?_<;>intro h<;>try exact y6)|(refine wC ?_;first|refine wF 91 (pu n1 ?_)|refine wF 91 (pu n2 ?_)|refine wF 91 (pu n3 ?_))|exact u64_in (by omega) (by omega)|refine Fin.bool (.inl rfl) rfl ?_|refine y3 ?_|refine y7 ?_ ?_|refine y4 ?_|(refine y9 ?_ ?_<;>intro h)|exact y5|fail)
  all_goals (rw[hoor];first|(simp;omega)|(simp[*];done)|(simp[widB] at*;omega))
 by_cases h16:(p.getD i dN).op=16
 ·have n1:=hnum 1 (by rw[h16];decide)
  have n2:=hnum 2 (by rw[h16];decide);have g1:=hge (i+1+1);have g2:=hge (i+1+2)
  have hoor:oorB p i=(acsB (numN p (i+1+1)) (numN p (i+1+2))):=by unfold oorB;(repeat (first|rw[if_pos h16]|rw[if_neg (by omega)]))
  unfold acsB at hoor;have hw:=width_c (numN p (i+1+1));clear hnum hge;refine FC.walk (by kernel_rfl) Tryz.func87 rfl rfl ?_
  repeat'(first|exact y0|refine y1 ?_|refine y2 ?_ ?_|(refine y8 ?_ ?_<;>intro h<;>try exact y6)|(refine wC ?_;first|refine wF 91 (pu n1 ?_)|refine wF 91 (pu n2 ?_)|refine wF 130 (bo hw ?_))|exact u64_in (by omega) (by omega)|refine Fin.bool (.inl rfl) rfl ?_|refine y3 ?_|refine y7 ?_ ?_|refine y4 ?_|(refine y9 ?_ ?_<;>intro h)|exact y5|fail)
  all_goals (rw[hoor];first|(simp;omega)|(simp[*];done)|(simp[widB] at*;omega))
 by_cases h17:(p.getD i dN).op=17
 ·have n2:=hnum 2 (by rw[h17];decide)
  have n3:=hnum 3 (by rw[h17];decide);have g2:=hge (i+1+2);have g3:=hge (i+1+3)
  have hoor:oorB p i=(acsB (numN p (i+1+2)) (numN p (i+1+3))):=by unfold oorB;(repeat (first|rw[if_pos h17]|rw[if_neg (by omega)]))
  unfold acsB at hoor;have hw:=width_c (numN p (i+1+2));clear hnum hge;refine FC.walk (by kernel_rfl) Tryz.func87 rfl rfl ?_
  repeat'(first|exact y0|refine y1 ?_|refine y2 ?_ ?_|(refine y8 ?_ ?_<;>intro h<;>try exact y6)|(refine wC ?_;first|refine wF 91 (pu n2 ?_)|refine wF 91 (pu n3 ?_)|refine wF 130 (bo hw ?_))|exact u64_in (by omega) (by omega)|refine Fin.bool (.inl rfl) rfl ?_|refine y3 ?_|refine y7 ?_ ?_|refine y4 ?_|(refine y9 ?_ ?_<;>intro h)|exact y5|fail)
  all_goals (rw[hoor];first|(simp;omega)|(simp[*];done)|(simp[widB] at*;omega))
 by_cases h18:(p.getD i dN).op=18
 ·have n1:=hnum 1 (by rw[h18];decide)
  have g1:=hge (i+1+1)
  have hoor:oorB p i=(decide (numN p (i+1+1)=0)||decide (256<numN p (i+1+1))):=by unfold oorB;(repeat (first|rw[if_pos h18]|rw[if_neg (by omega)]))
  clear hnum hge;refine FC.walk (by kernel_rfl) Tryz.func87 rfl rfl ?_
  repeat'(first|exact y0|refine y1 ?_|refine y2 ?_ ?_|(refine y8 ?_ ?_<;>intro h<;>try exact y6)|(refine wC ?_;first|refine wF 91 (pu n1 ?_))|exact u64_in (by omega) (by omega)|refine Fin.bool (.inl rfl) rfl ?_|refine y3 ?_|refine y7 ?_ ?_|refine y4 ?_|(refine y9 ?_ ?_<;>intro h)|exact y5|fail)
  all_goals (rw[hoor];first|(simp;omega)|(simp[*];done)|(simp[widB] at*;omega))
 by_cases h19:(p.getD i dN).op=19
 ·have n0:=hnum 0 (by rw[h19];decide)
  have g0:=hge (i+1+0)
  have hoor:oorB p i=(decide (8388608<numN p (i+1+0))):=by unfold oorB;(repeat (first|rw[if_pos h19]|rw[if_neg (by omega)]))
  clear hnum hge;refine FC.walk (by kernel_rfl) Tryz.func87 rfl rfl ?_
  repeat'(first|exact y0|refine y1 ?_|refine y2 ?_ ?_|(refine y8 ?_ ?_<;>intro h<;>try exact y6)|(refine wC ?_;first|refine wF 91 (pu n0 ?_))|exact u64_in (by omega) (by omega)|refine Fin.bool (.inl rfl) rfl ?_|refine y3 ?_|refine y7 ?_ ?_|refine y4 ?_|(refine y9 ?_ ?_<;>intro h)|exact y5|fail)
  all_goals (rw[hoor];first|(simp;omega)|(simp[*];done)|(simp[widB] at*;omega))
 by_cases h51:(p.getD i dN).op=51
 ·have n0:=hnum 0 (by rw[h51];decide)
  have g0:=hge (i+1+0)
  have hoor:oorB p i=(decide (64<numN p (i+1+0))):=by unfold oorB;(repeat (first|rw[if_pos h51]|rw[if_neg (by omega)]))
  clear hnum hge;refine FC.walk (by kernel_rfl) Tryz.func87 rfl rfl ?_
  repeat'(first|exact y0|refine y1 ?_|refine y2 ?_ ?_|(refine y8 ?_ ?_<;>intro h<;>try exact y6)|(refine wC ?_;first|refine wF 91 (pu n0 ?_))|exact u64_in (by omega) (by omega)|refine Fin.bool (.inl rfl) rfl ?_|refine y3 ?_|refine y7 ?_ ?_|refine y4 ?_|(refine y9 ?_ ?_<;>intro h)|exact y5|fail)
  all_goals (rw[hoor];first|(simp;omega)|(simp[*];done)|(simp[widB] at*;omega))
 by_cases h41:(p.getD i dN).op=41
 ·have n1:=hnum 1 (by rw[h41];decide)
  have g1:=hge (i+1+1)
  have hoor:oorB p i=(decide (65535<numN p (i+1+1))):=by unfold oorB;(repeat (first|rw[if_pos h41]|rw[if_neg (by omega)]))
  clear hnum hge;refine FC.walk (by kernel_rfl) Tryz.func87 rfl rfl ?_
  repeat'(first|exact y0|refine y1 ?_|refine y2 ?_ ?_|(refine y8 ?_ ?_<;>intro h<;>try exact y6)|(refine wC ?_;first|refine wF 91 (pu n1 ?_))|exact u64_in (by omega) (by omega)|refine Fin.bool (.inl rfl) rfl ?_|refine y3 ?_|refine y7 ?_ ?_|refine y4 ?_|(refine y9 ?_ ?_<;>intro h)|exact y5|fail)
  all_goals (rw[hoor];first|(simp;omega)|(simp[*];done)|(simp[widB] at*;omega))
 by_cases h50:(p.getD i dN).op=50
 ·have n0:=hnum 0 (by rw[h50];decide)
  rw[Nat.add_zero] at n0;obtain⟨K,hK,hst,hle⟩:=buf_kids ha hv hi h50;have hk1:=kids_c hp ha hv hs hi;obtain⟨l1,l2,l3⟩:=lead_at ha hv hi (k:=1) (by rw[h50];decide);have hk2:FC Tryz.prog 81 [nodes p,nI (i+1+1:Nat)] 0 [] (.s (intsF (List.range' (i+3) K))) 0 []:=hst▸kids_c hp ha hv hs (i:=i+2) (by omega);rw[←l1] at hk2;have hoor:=oor50 h50;rw[hK,Int.toNat_natCast] at hoor;rw[hoor]
  have hbl:(List.range' (i+3) K).length=K:=by simp
  have hbg:∀ k,k<K→(List.range' (i+3) K).getD k 0=i+3+k:=fun k hk=>by
   rw[List.getD_eq_getElem?_getD,List.getElem?_range' hk];simp
  generalize List.range' (i+3) K=bs at*
  have hsz2:((t.kid 0 i).starts (i+1)).getD 1 0<p.length:=by omega
  generalize (t.kid 0 i).starts (i+1)=ks at*;clear hnum hoor hst;refine FC.walk (by kernel_rfl) Tryz.func87 rfl rfl ?_
  repeat'(first|exact y0|refine y1 ?_|refine y2 ?_ ?_|(refine y8 ?_ ?_<;>intro h<;>try exact y6)|(refine wC ?_;first|refine wF 81 (pu hk1 ?_)|refine wF 81 (pu hk2 ?_))|refine y3 ?_|refine y7 ?_ ?_|refine y4 ?_|(refine y9 ?_ ?_<;>intro h)|exact y5|fail)
  all_goals try first|exact l2|exact hsz2
  refine Ex.inv (σ:=Nat) (fun j=>[(9,nI j)]) (fun _=>[]) (fun j=>j≤K∧∀ x,x<j→ ¬255<numN p (i+3+x)) (fun j=>K-j) 0 rfl (fun _=>rfl) ⟨Nat.zero_le _,fun x hx=>by omega⟩ ⟨VLe.refl _,trivial⟩ trivial ?_;rintro j ⟨j1,j2⟩;by_cases hj:j<K
  ·have hg:=hbg j hj
   have hjb:j<bs.length:=by omega
   have hjp:bs.getD j 0<p.length:=by omega
   by_cases hbig:255<numN p (bs.getD j 0)
   ·
    repeat'(first|exact y0|refine y1 ?_|refine y2 ?_ ?_|(refine y8 ?_ ?_<;>intro h<;>try exact y6)|refine Fin.bool (.inl rfl) rfl ?_|refine y3 ?_|refine y7 ?_ ?_|refine y4 ?_|(refine y9 ?_ ?_<;>intro h)|exact y5|fail)
    all_goals try first
     |exact hjb
     |exact hjp
     |(rw[bigB_yes (j:=j) hj (by rw[←hg];exact hbig),Bool.or_true];rfl)
     |(exfalso;exact absurd hbig (by assumption))
   ·
    repeat'(first|exact y0|refine y1 ?_|refine y2 ?_ ?_|(refine y8 ?_ ?_<;>intro h<;>try exact y6)|refine Fin.bool (.inl rfl) rfl ?_|refine y3 ?_|refine y7 ?_ ?_|refine y4 ?_|(refine y9 ?_ ?_<;>intro h)|exact y5|fail)
    all_goals try first
     |exact hjb
     |exact hjp
     |(exfalso;exact hbig (by assumption))
    refine LoopR.same (j+1) ⟨by omega,fun x hx=>?_⟩ (by omega) rfl ⟨VLe.of_eq (congrArg nI (by push_cast;rfl)),trivial⟩ trivial rfl rfl (by decide)
    rcases Nat.lt_or_ge x j with h|h
    ·exact j2 x h
    ·rw[show i+3+x=bs.getD j 0 by omega];exact hbig
  ·rw[bigB_no (fun x hx=>j2 x (by omega)),Bool.or_false]
   repeat'(first|exact y0|refine y1 ?_|refine y2 ?_ ?_|(refine y8 ?_ ?_<;>intro h<;>try exact y6)|(refine wC ?_;first|refine wF 91 (pu n0 ?_))|refine Fin.bool (.inl rfl) rfl ?_|refine y3 ?_|refine y7 ?_ ?_|refine y4 ?_|(refine y9 ?_ ?_<;>intro h)|exact y5|fail)
   all_goals (simp;omega)
 have hoor:oorB p i=false:=by unfold oorB;(repeat (first|rw[if_neg (by omega)]))
 rw[hoor];clear hnum hge;refine FC.walk (by kernel_rfl) Tryz.func87 rfl rfl ?_
 repeat'(first|exact y0|refine y1 ?_|refine y2 ?_ ?_|(refine y8 ?_ ?_<;>intro h<;>try exact y6)|refine Fin.bool (.inl rfl) rfl ?_|refine y3 ?_|refine y7 ?_ ?_|refine y4 ?_|(refine y9 ?_ ?_<;>intro h)|exact y5|fail)
 all_goals rfl
end
set_option maxRecDepth 100000
set_option maxHeartbeats 2000000
abbrev psB (g:Nat) (D:List Pth):Option Bl:=opB 92 (g+1) 3 (D.flatMap ptC)
theorem opB_app (ty g w:Nat) (cs:List S) (c:S) (l:List S):opB ty g w (cs++c::l)=some {cells:=cs++c::l,ty:=ty,more:=true,sym:=true,flat:=true,gh:=some (g,w)}:=by cases cs<;>rfl
theorem pts_app {D:List Pth} {P:Pth} {k j:Nat} {x:S} (hk:k<D.length+1) (hx:(ptC ((D++[P]).getD k z0))[j]? =some x):(D.flatMap ptC++ptC P)[k*3+j]? =some x∧pureS x=true:=by
 have:=pts_get (l:=D++[P]) (by simpa using hk) hx;rw[List.flatMap_append] at this
 simpa using this
theorem segOK_take {l:List By} (h:segOK l) (k:Nat):segOK (l.take k):=fun i hi=>by
 rw[List.length_take] at hi;have:=h i (by omega);rw[List.getD_eq_getElem?_getD] at this ⊢;rw[List.getElem?_take,if_pos (by omega)];exact this
theorem candR_u (br:Bool) (bu:Int) (bs:List By) (rr:Bool) (ru:Int) (rs:List By) (h1s:segOK bs) (h2s:segOK rs):
 FC Tryz.prog 159 [.agg [.bool br,.int .i64 bu,strsF bs],.agg [.bool rr,.int .i64 ru,strsF rs]] 0 [] (.s (ptsF (candP ⟨br,bu,bs⟩ ⟨rr,ru,rs⟩))) 0 []:=by
 have ha:=validR_u br bu bs h1s;have hv:=validR_u rr ru rs h2s;have hj:=joinR_u br bu bs rr ru rs h1s h2s
 have hsz:(Tryz.prog.types[92]).size=3:=by kernel_rfl
 have hby:(Tryz.prog.types[92]).bytes=40:=by kernel_rfl
 refine FC.walk (by kernel_rfl) Tryz.func159 rfl rfl ?_
 cases h1:validP ⟨br,bu,bs⟩<;>rw[h1] at ha
 ·
  repeat'(first|exact y0|refine y1 ?_|refine y2 ?_ ?_|(refine y8 ?_ ?_<;>intro h<;>try exact y6)|(refine wC ?_;first|refine wF 129 (bo ha ?_))|refine Fin.le (.inl rfl) rfl ?_ rfl|refine y3 ?_|refine y7 ?_ ?_|refine y4 ?_|(refine y9 ?_ ?_<;>intro h)|exact y5|fail)
  simp only[candP,absP,h1,Bool.and_false,true_or,if_true];exact VLe.s SLe.nil
 cases br
 ·
  repeat'(first|exact y0|refine y1 ?_|refine y2 ?_ ?_|(refine y8 ?_ ?_<;>intro h<;>try exact y6)|(refine wC ?_;first|refine wF 129 (bo ha ?_))|refine Fin.le (.inl rfl) rfl ?_ rfl|refine y3 ?_|refine y7 ?_ ?_|refine y4 ?_|(refine y9 ?_ ?_<;>intro h)|exact y5|fail)
  simp only[candP,absP,Bool.false_and,true_or,if_true];exact VLe.s SLe.nil
 have ha1:absP ⟨true,bu,bs⟩=true:=by unfold absP;rw[h1];rfl
 cases h2:validP ⟨rr,ru,rs⟩<;>rw[h2] at hv
 ·
  repeat'(first|exact y0|refine y1 ?_|refine y2 ?_ ?_|(refine y8 ?_ ?_<;>intro h<;>try exact y6)|(refine wC ?_;first|refine wF 129 (bo ha ?_)|refine wF 129 (bo hv ?_))|refine Fin.le (.inl rfl) rfl ?_ rfl|refine y3 ?_|refine y7 ?_ ?_|refine y4 ?_|(refine y9 ?_ ?_<;>intro h)|exact y5|fail)
  simp only[candP,h2,or_true,if_true];exact VLe.s SLe.nil
 obtain⟨a1,a2,a3⟩:=abs_facts ha1;obtain⟨v1,v2,v3,v4,v5,v6⟩:=valid_facts h2;simp only at a1 a2 a3 v1 v2 v3 v4 v5 v6;by_cases hc:rr=true∨0<ru∨rs.length≠1
 ·have hcand:candP ⟨true,bu,bs⟩ ⟨rr,ru,rs⟩=if (joinP ⟨true,bu,bs⟩ ⟨rr,ru,rs⟩).2 then [(joinP ⟨true,bu,bs⟩ ⟨rr,ru,rs⟩).1] else []:=by
   unfold candP;rw[if_neg (by simp[ha1,h2]),if_pos hc]
  rw[hcand];generalize joinP ⟨true,bu,bs⟩ ⟨rr,ru,rs⟩=j at*;obtain⟨p,ok⟩:=j;cases rr
  all_goals
   first|(have hc':0<ru∨rs.length≠1:=by simpa using hc)|skip
   cases ok
   ·
    repeat'(first|exact y0|refine y1 ?_|refine y2 ?_ ?_|(refine y8 ?_ ?_<;>intro h<;>try exact y6)|(refine wC ?_;first|refine wF 129 (bo ha ?_)|refine wF 129 (bo hv ?_)|refine wF 84 (pu hj ?_))|refine Fin.le (.inl rfl) rfl ?_ rfl|refine y3 ?_|refine y7 ?_ ?_|refine y4 ?_|(refine y9 ?_ ?_<;>intro h)|exact y5|fail)
    all_goals exact VLe.s SLe.nil
   ·
    repeat'(first|exact y0|refine y1 ?_|refine y2 ?_ ?_|(refine y8 ?_ ?_<;>intro h<;>try exact y6)|(refine wC ?_;first|refine wF 129 (bo ha ?_)|refine wF 129 (bo hv ?_)|refine wF 84 (pu hj ?_))|refine RegX.app [.app 1 (ptC p)] rfl rfl ?_ rfl rfl rfl ?_|refine Ex.fz 4 (fun k=>ptC ([p].getD k z0)) 3 rfl rfl rfl rfl (fun k _=>rfl) (pts_one p) rfl rfl ?_|refine Fin.le (.inl rfl) rfl ?_ rfl|refine y3 ?_|refine y7 ?_ ?_|refine y4 ?_|(refine y9 ?_ ?_<;>intro h)|exact y5|fail)
    all_goals first
     |exact VLe.refl _
     |(rw[hsz];exact Nat.le_refl _)
     |(rw[hby];omega)
 ·have hr:rr=false:=by cases rr<;>simp_all
  have hu:ru=0:=by
   have: ¬0<ru:=fun h=>hc (.inr (.inl h))
   omega
  have hl:rs.length=1:=Classical.not_not.1 fun h=>hc (.inr (.inr h))
  obtain⟨s0,rfl⟩:∃ s0,rs=[s0]:=List.length_eq_one_iff.1 hl;subst hr hu a2
  have hcand:candP ⟨true,0,bs⟩ ⟨false,0,[s0]⟩=candL bs s0 bs.length:=by
   unfold candP;rw[if_neg (by simp[ha1,h2]),if_neg (by simp)];rfl
  rw[hcand]
  repeat'(first|exact y0|refine y1 ?_|refine y2 ?_ ?_|(refine y8 ?_ ?_<;>intro h<;>try exact y6)|(refine wC ?_;first|refine wF 129 (bo ha ?_)|refine wF 129 (bo hv ?_))|refine y3 ?_|refine y7 ?_ ?_|refine y4 ?_|(refine y9 ?_ ?_<;>intro h)|exact y5|fail)
  refine Ex.set 5 (.s (.row 2 3 0)) (VLe.s SLe.nilrow) rfl (Ex.upN (n':=4) (by omega) ?_)
  refine Ex.inv (σ:=Nat×List Pth) (fun x=>[(5,.s (.row 2 3 x.2.length))]) (fun x=>[(0,some {cells:=[.bool true,.int .i64 0,strsF (bs.take x.1)],ty:=92}),(1,some {cells:=[.bool false,.int .i64 0,strsF [s0]],ty:=92}),(2,psB 2 (x.2))])
   (fun x=>x.1≤bs.length∧x.2++candL bs s0 x.1=candL bs s0 bs.length) (fun x=>x.1) (bs.length,[]) rfl (fun _=>rfl) ⟨Nat.le_refl _,by simp⟩ ⟨VLe.refl _,trivial⟩ ⟨?_,rfl,trivial⟩ ?_
  ·simp only[List.take_length];rfl
  ·rintro⟨k,D⟩ ⟨i1,i2⟩
   simp only at i1 i2 ⊢;have hjk:=joinR_u true 0 (bs.take k) false 0 [s0] (segOK_take h1s k) h2s;have hpk:=parentR_u true 0 (bs.take k) (segOK_take h1s k);rw[join_take ha1 h2 i1] at hjk;rw[parent_take ha1 i1] at hpk
   have hlen:D.length≤33:=by
    have e1:=candL_len bs s0 bs.length;rw[←i2,List.length_append] at e1;omega
   cases k with
   |zero=>
    rw[if_neg (by omega)] at hjk;rw[if_pos rfl] at hpk;simp only[candL] at i2
    repeat'(first|exact y0|refine y1 ?_|refine y2 ?_ ?_|(refine y8 ?_ ?_<;>intro h<;>try exact y6)|(refine wC ?_;first|refine wF 84 (pu hjk ?_))|refine y3 ?_|refine y7 ?_ ?_|refine y4 ?_|(refine y9 ?_ ?_<;>intro h)|exact y5|fail)
    refine RegX.apr (i:=2) (g:=3) (m:=D.length) (w:=3) (cs:=D.flatMap ptC) (foot:=[5]) (k:=1) (add:=ptC (Pth.mk true 0 (bs.take 0++[s0]))) rfl rfl (by rw[flat_len]) rfl rfl rfl rfl rfl rfl rfl hsz (by decide) rfl ⟨Nat.le_of_eq hsz.symm,rfl⟩ (by decide) (by simp[ptC]) rfl (by rw[hby];omega) (by omega) rfl ?_
    repeat'(first|exact y0|refine y1 ?_|refine y2 ?_ ?_|(refine y8 ?_ ?_<;>intro h<;>try exact y6)|(refine wC ?_;first|refine wF 174 (pu hpk ?_))|refine Ex.fz 4 (fun k=>ptC ((D++[Pth.mk true 0 (bs.take 0++[s0])]).getD k z0)) 3 rfl (opB_app _ _ _ _ _ _) rfl rfl (fun k _=>rfl) (fun k j x hk hx=>pts_app hk hx) rfl rfl ?_|refine Fin.le (.inl rfl) rfl ?_ rfl|refine y3 ?_|refine y7 ?_ ?_|refine y4 ?_|(refine y9 ?_ ?_<;>intro h)|exact y5|fail)
    rw[←i2];unfold ptsF;rw[List.length_append];exact VLe.refl _
   |succ k=>
    rw[if_neg (by omega)] at hpk;simp only[candL] at i2;by_cases h32:32<k+2
    ·rw[if_pos h32] at i2
     rw[if_pos (by omega)] at hjk
     repeat'(first|exact y0|refine y1 ?_|refine y2 ?_ ?_|(refine y8 ?_ ?_<;>intro h<;>try exact y6)|(refine wC ?_;first|refine wF 84 (pu hjk ?_)|refine wF 174 (pu hpk ?_))|refine y3 ?_|refine y7 ?_ ?_|refine y4 ?_|(refine y9 ?_ ?_<;>intro h)|exact y5|fail)
     refine LoopR.move (k,D) ⟨by simp only;omega,i2⟩ (by simp only;omega) [0,1,2,3] rfl ?_ ?_ ?_
     ·repeat' (first|exact VLe.refl _|exact VLe.any _|exact True.intro|refine⟨?_,?_⟩)
     ·exact⟨rfl,rfl,MemP.op rfl trivial⟩
     ·unfold psB;generalize List.flatMap _ _=cg;cases cg<;>rfl
    ·rw[if_neg h32] at i2
     rw[if_neg (by omega)] at hjk
     repeat'(first|exact y0|refine y1 ?_|refine y2 ?_ ?_|(refine y8 ?_ ?_<;>intro h<;>try exact y6)|(refine wC ?_;first|refine wF 84 (pu hjk ?_))|refine y3 ?_|refine y7 ?_ ?_|refine y4 ?_|(refine y9 ?_ ?_<;>intro h)|exact y5|fail)
     refine RegX.apr (i:=2) (g:=3) (m:=D.length) (w:=3) (cs:=D.flatMap ptC) (foot:=[5]) (k:=1) (add:=ptC (Pth.mk true 0 (bs.take (k+1)++[s0]))) rfl rfl (by rw[flat_len]) rfl rfl rfl rfl rfl rfl rfl hsz (by decide) rfl ⟨Nat.le_of_eq hsz.symm,rfl⟩ (by decide) (by simp[ptC]) rfl (by rw[hby];omega) (by omega) rfl ?_
     repeat'(first|exact y0|refine y1 ?_|refine y2 ?_ ?_|(refine y8 ?_ ?_<;>intro h<;>try exact y6)|(refine wC ?_;first|refine wF 174 (pu hpk ?_))|refine y3 ?_|refine y7 ?_ ?_|refine y4 ?_|(refine y9 ?_ ?_<;>intro h)|exact y5|fail)
     refine LoopR.move (k,D++[Pth.mk true 0 (bs.take (k+1)++[s0])]) ⟨by simp only;omega,by simpa using i2⟩ (by simp only;omega) [0,1,6,7] rfl ?_ ?_ ?_
     ·repeat' (first|exact VLe.refl _|exact VLe.any _|exact True.intro|(refine VLe.of_eq (congrArg V.s (?_:S.row 6 7 _=S.row 6 7 _));simp;done)|refine⟨?_,?_⟩)
     ·refine⟨rfl,rfl,MemP.op ?_ trivial⟩
      rw[List.flatMap_append];rfl
     ·unfold psB;generalize List.flatMap _ _=cg;cases cg<;>rfl
theorem candR_c (b r:Pth) (h1:segOK b.segs) (h2:segOK r.segs):FC Tryz.prog 159 [ptV b,ptV r] 0 [] (.s (ptsF (candP b r))) 0 []:=candR_u b.root b.up b.segs r.root r.up r.segs h1 h2
set_option maxRecDepth 100000
set_option maxHeartbeats 1000000
section
variable {p:List Nd} {t:Fo} {cs:List (Bool×Int)}
def tooB (p:List Nd) (i:Nat):Bool:=decide ((p.getD i dN).op=50∨(p.getD i dN).op=51)&&decide (numN p (i+1)<(p.getD (i+2) dN).kids)
theorem kids_le (ha:t.At p 0) (hv:t.V cs) {i:Nat} (hi:i<t.size):0≤(p.getD i dN).kids∧(p.getD i dN).kids≤t.size:=by
 obtain⟨sl,h1,h2⟩:=kid_at ha hv (Nat.zero_le i) (by omega:i<0+t.size);have h3:=kid_size (t:=t) (Nat.zero_le i) (by omega);have h4:=Fo.cnt_le (t.kid 0 i);have:=h1.2.1;omega
theorem too_c (hp:p.length≤2048) (ha:t.At p 0) (hv:t.V cs) (hs:t.size=p.length) {i:Nat} (hi:i<t.size):FC Tryz.prog 88 [nodes p,nI i] 0 [] (bV (tooB p i)) 0 []:=by
 unfold tooB;by_cases hop:(p.getD i dN).op=50∨(p.getD i dN).op=51
 ·rw[decide_eq_true hop,Bool.true_and]
  have hl:∀ k,k<2→k<leadN (p.getD i dN).op:=fun k hk=>by rcases hop with e|e<;>rw[e]<;>exact hk
  have n0:=num_c hp ha hv hs hi 0 (hl 0 (by decide));rw[Nat.add_zero] at n0;have hk1:=kids_c hp ha hv hs hi;obtain⟨l1,l2,l3⟩:=lead_at ha hv hi (hl 1 (by decide));have hkb:=kids_le ha hv l3;rw[←l1] at hkb;rw[show i+2=i+1+1 from rfl,←l1]
  have hkp:((t.kid 0 i).starts (i+1)).getD 1 0<p.length:=by omega
  generalize (t.kid 0 i).starts (i+1)=ks at*;clear hl;refine FC.walk (by kernel_rfl) Tryz.func88 rfl rfl ?_
  repeat'(first|exact y0|refine y1 ?_|refine y2 ?_ ?_|(refine y8 ?_ ?_<;>intro h<;>try exact y6)|(refine wC ?_;first|refine wF 81 (pu hk1 ?_)|refine wF 91 (pu n0 ?_))|exact u64_in (by omega) (by omega)|refine Fin.bool (.inl rfl) rfl ?_|refine y3 ?_|refine y7 ?_ ?_|refine y4 ?_|(refine y9 ?_ ?_<;>intro h)|exact y5|fail)
  all_goals try first
   |exact l2
   |exact hkp
   |exact (decide_eq_true (by assumption)).symm
   |exact (decide_eq_false (by assumption)).symm
  all_goals exact u64_in hkb.1 (Int.lt_of_le_of_lt hkb.2 (by omega))
 ·rw[decide_eq_false hop,Bool.false_and]
  refine FC.walk (by kernel_rfl) Tryz.func88 rfl rfl ?_
  repeat'(first|exact y0|refine y1 ?_|refine y2 ?_ ?_|(refine y8 ?_ ?_<;>intro h<;>try exact y6)|refine Fin.bool (.inl rfl) rfl ?_|refine y3 ?_|refine y7 ?_ ?_|refine y4 ?_|(refine y9 ?_ ?_<;>intro h)|exact y5|fail)
  all_goals rfl
def resR (L:List Inf):List Pth→Int
 |[]=> -1
 |c::l=>if 0≤firstR L (fmtP c) then firstR L (fmtP c) else resR L l
theorem firstG_bd (s:By):∀ (l:List Inf) (i:Nat),firstG s l i= -1∨(i:Int)≤firstG s l i∧firstG s l i<(i:Int)+l.length
 |[],i=> .inl rfl
 |x::l,i=>by
  simp only[firstG];split
  ·right;simp only[List.length_cons];omega
  ·rcases firstG_bd s l (i+1) with h|h
   ·exact .inl h
   ·right;simp only[List.length_cons];omega
theorem resR_bd (L:List Inf):∀ l:List Pth,resR L l= -1∨∃ k:Nat,resR L l=(k:Int)∧k<L.length
 |[]=> .inl rfl
 |c::l=>by
  simp only[resR];split
  ·rename_i h
   rcases firstG_bd (fmtP c) L 0 with h1|h1
   ·unfold firstR at h;omega
   ·right
    refine⟨(firstR L (fmtP c)).toNat,by omega,?_⟩;unfold firstR at h ⊢;omega
  ·exact resR_bd L l
theorem candL_mem {bs:List By} {s0:By}:∀ {k:Nat} {c:Pth},k≤bs.length→c∈candL bs s0 k→c.root=true∧c.up=0∧(∀ x∈c.segs,x∈bs∨x=s0)
 |0,c,_,h=>by
  simp only[candL,List.mem_singleton] at h;subst h;exact⟨rfl,rfl,fun x hx=> .inr (by simpa using hx)⟩
 |k+1,c,hk,h=>by
  simp only[candL] at h;split at h
  ·exact candL_mem (by omega) h
  ·rcases List.mem_cons.1 h with rfl|h
   ·refine⟨rfl,rfl,fun x hx=>?_⟩
    rcases List.mem_append.1 hx with h|h
    ·exact .inl (List.mem_of_mem_take h)
    ·exact .inr (by simpa using h)
   ·exact candL_mem (by omega) h
theorem segOK_cand {b r:Pth} {c:Pth} (h:c∈candP b r):segOK c.segs:=by
 unfold candP at h;split at h
 ·cases h
 ·rename_i h1
  have hb:absP b=true:=by cases hq:absP b<;>simp_all
  have hr:validP r=true:=by cases hq:validP r<;>simp_all
  split at h
  ·split at h
   ·rw[List.mem_singleton] at h
    subst h;rename_i h2;exact segOK_abs (absJ h2)
   ·cases h
  ·rename_i h3
   obtain⟨_,_,hm⟩:=candL_mem (Nat.le_refl _) h
   have key:∀ x∈c.segs,x.length≤4:=fun x hx=>by
    rcases hm x hx with h|h
    ·unfold absP at hb
     simp only[Bool.and_eq_true] at hb;exact (isSeg_len (List.all_eq_true.1 (valid_facts hb.2).2.2.2.2.1 x h)).2
    ·have h5:=(valid_facts hr).2.2.2.2.1
     have hl:r.segs.length=1:=by omega
     match hq:r.segs,hl with
     |[a],_=>
      rw[hq] at h5;rw[hq] at h;simp at h;subst h;exact (isSeg_len (by simpa using h5)).2
   intro i hi;have:=key (c.segs.getD i []) (by rw[List.getD_eq_getElem?_getD,List.getElem?_eq_getElem hi];exact List.getElem_mem _);omega
theorem resR_c (L:List Inf) (hl:L.length≤2048) (sc:Pth) (h1:segOK sc.segs) (s:By) (hsl:s.length≤4398046511104):FC Tryz.prog 131 [infV L,ptV sc,sV s] 0 [] (nI (resR L (candP sc (parseP s).1))) 0 []:=by
 have hpr:=parseR_c s hsl;have hcd:=candR_c sc (parseP s).1 h1 (segOK_parse s)
 have hso:=fun c=> @segOK_cand sc (parseP s).1 c
 have hlen:(candP sc (parseP s).1).length≤2000000000:=by
  unfold candP;split
  ·simp
  ·rename_i h
   split
   ·split<;>simp
   ·have:=candL_len sc.segs ((parseP s).1.segs.headD []) sc.segs.length
    have hb:absP sc=true:=by cases hq:absP sc<;>simp_all
    have:=(abs_facts hb).2.2;omega
 generalize candP sc (parseP s).1=C at*;generalize parseP s=pp at*;obtain⟨⟨pr,pq,ps⟩,pok⟩:=pp;obtain⟨cr,cu,cg⟩:=sc;generalize hR:resR L C=R;refine FC.walk (by kernel_rfl) Tryz.func131 rfl rfl ?_
 repeat'(first|exact y0|refine y1 ?_|refine y2 ?_ ?_|(refine y8 ?_ ?_<;>intro h<;>try exact y6)|(refine wC ?_;first|refine wF 83 (pu hpr ?_)|refine wF 159 (pu hcd ?_))|refine y3 ?_|refine y7 ?_ ?_|refine y4 ?_|(refine y9 ?_ ?_<;>intro h)|exact y5|fail)
 refine Ex.inv (σ:=Nat) (fun j=>[(10,nI j)]) (fun _=>[]) (fun j=>j≤C.length∧resR L (C.drop j)=R) (fun j=>C.length-j) 0 rfl (fun _=>rfl) ⟨Nat.zero_le _,hR⟩ ⟨VLe.refl _,trivial⟩ trivial ?_;rintro j ⟨hj,hI⟩;by_cases h:j<C.length
 ·have hd:C.drop j=C.getD j z0::C.drop (j+1):=by
   rw[List.drop_eq_getElem_cons h,List.getD_eq_getElem?_getD,List.getElem?_eq_getElem h];rfl
  rw[hd] at hI
  have hmem:C.getD j z0∈C:=by rw[List.getD_eq_getElem?_getD,List.getElem?_eq_getElem h];exact List.getElem_mem _
  have hf:=fmtR_c (C.getD j z0) (hso _ hmem);have hfi:=firstR_c L hl (fmtP (C.getD j z0));simp only[resR] at hI;by_cases ho:0≤firstR L (fmtP (C.getD j z0))
  ·rw[if_pos ho] at hI
   repeat'(first|exact y0|refine y1 ?_|refine y2 ?_ ?_|(refine y8 ?_ ?_<;>intro h<;>try(exact y6))|(refine wC ?_;first|refine wF 85 (pu hf ?_)|refine wF 86 (pu hfi ?_))|refine Fin.int (.inl rfl) rfl ?_|refine y3 ?_|refine y7 ?_ ?_|refine y4 ?_|(refine y9 ?_ ?_<;>intro h)|exact y5|fail)
   all_goals exact hI
  ·rw[if_neg ho] at hI
   repeat'(first|exact y0|refine y1 ?_|refine y2 ?_ ?_|(refine y8 ?_ ?_<;>intro h<;>try(exact y6))|(refine wC ?_;first|refine wF 85 (pu hf ?_)|refine wF 86 (pu hfi ?_))|refine y3 ?_|refine y7 ?_ ?_|refine y4 ?_|(refine y9 ?_ ?_<;>intro h)|exact y5|fail)
   refine LoopR.same (j+1) ⟨by omega,hI⟩ (by omega) rfl ⟨VLe.of_eq (congrArg nI (by push_cast;rfl)),trivial⟩ trivial rfl rfl (by decide)
 ·rw[List.drop_eq_nil_of_le (by omega)] at hI
  simp only[resR] at hI
  repeat'(first|exact y0|refine y1 ?_|refine y2 ?_ ?_|(refine y8 ?_ ?_<;>intro h<;>try exact y6)|refine Fin.int (.inl rfl) rfl ?_|refine y3 ?_|refine y7 ?_ ?_|refine y4 ?_|(refine y9 ?_ ?_<;>intro h)|exact y5|fail)
  all_goals exact hI
end
end Go.Proofs.YtphdhedhhlfepaaGreatDoor
