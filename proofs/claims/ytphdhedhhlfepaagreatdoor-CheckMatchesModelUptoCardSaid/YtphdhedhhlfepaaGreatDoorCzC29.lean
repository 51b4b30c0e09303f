import Derived.Test.YtphdhedhhlfepaaGreatDoorCzC21
import Derived.Test.YtphdhedhhlfepaaGreatDoorCzC17
import Derived.Test.YtphdhedhhlfepaaGreatDoorCzC26
import Derived.Test.YtphdhedhhlfepaaGreatDoorCzC28
set_option linter.unusedSimpArgs false
set_option linter.unusedVariables false
namespace Go.Proofs.YtphdhedhhlfepaaGreatDoor
open Go Ab
set_option maxRecDepth 100000
set_option maxHeartbeats 4000000
abbrev resW (o:Option Nat):V:=.s (.int .i64 (match o with|some e=>(e:Int)|none=> -1))
def kOK (k:Int):Bool:=decide (k=110)||decide (k=115)||decide (k=105)||decide (k=101)||decide (k=116)||decide (k=100)||decide (k=68)||decide (k=83)||decide (k=70)||decide (k=73)||decide (k=80)
theorem kOK_blk {k:Int} (h:kOK k=true):blkR k=isBlkB k∧k≠120:=by
 unfold kOK at h;simp only[Bool.or_eq_true,decide_eq_true_eq] at h
 rcases h with (((((((((rfl|rfl)|rfl)|rfl)|rfl)|rfl)|rfl)|rfl)|rfl)|rfl)|rfl<;>exact⟨by decide,by decide⟩
def opsL:List Int:=[10,11,12,13,14,15,16,17,18,19,20,21,30,31,32,33,34,35,36,37,38,39,40,41,42,50,51,60,61,62,63,64,65,66,67,68,69,70,71,72,73,74,75,76,77,78,79,80,81,82,83,84,85,86,87,88]
theorem row_form:∀ op∈opsL,rowF op=((op,(formB op).1,(formB op).2),true):=by decide+kernel
theorem form_kOK:∀ op∈opsL,((formB op).2.all fun c=>kOK (c.toNat:Int))=true:=by decide+kernel
theorem acc_ops {c op:Int} (h:accB c op=true):op∈opsL∨op=1∨op=2∨op=3∨op=5∨op=6∨op=7:=by
 have h1:(10≤op∧op≤21)∨(30≤op∧op≤42)∨op=50∨op=51∨(60≤op∧op≤88)∨op=1∨op=2∨op=3∨op=5∨op=6∨op=7:=by
  unfold accB at h;split at h
  ·simp at h;omega
  split at h
  ·simp at h;omega
  split at h
  ·simp[isExprB,isDataB] at h;omega
  split at h
  ·simp at h;omega
  split at h
  ·simp[isDataB] at h;omega
  split at h
  ·simp[isDataB] at h;omega
  split at h
  ·simp at h;omega
  split at h
  ·simp[isElemB] at h;omega
  split at h
  ·simp at h;omega
  ·cases h
 by_cases h2:op=1∨op=2∨op=3∨op=5∨op=6∨op=7
 ·exact .inr h2
 ·left
  have key:∀ n:Nat,n≤88→((10≤n∧n≤21)∨(30≤n∧n≤42)∨n=50∨n=51∨(60≤n∧n≤88))→(n:Int)∈opsL:=by decide+kernel
  obtain⟨n,rfl⟩:=Int.eq_ofNat_of_zero_le (by omega:0≤op);exact key n (by omega) (by omega)
theorem kinds_same {c op kids:Int} (h:accB c op=true):(kindsR op kids).2=(kindsB op kids).2∧((kindsB op kids).2=true→(kindsR op kids).1=(kindsB op kids).1):=by
 rcases acc_ops h with h|h
 ·have h1:=row_form op h
  unfold kindsR kindsB;rw[h1]
  have hn: ¬(op=1∨op=2∨op=3∨op=6∨op=7)∧ ¬op=5:=by
   have key:∀ o∈opsL,¬(o=1∨o=2∨o=3∨o=6∨o=7)∧ ¬o=5:=by decide+kernel
   exact key op h
  rw[if_neg hn.1,if_neg hn.2,if_neg hn.2];by_cases h33:op=33
  ·subst h33
   rw[if_neg (by simp),if_pos rfl];by_cases h0:kids=1
   ·subst h0;exact⟨rfl,fun _=>rfl⟩
   ·rw[if_neg (fun h=>h0 h.2)]
    by_cases hz:kids=0
    ·subst hz;exact⟨by decide+kernel,fun _=>by decide+kernel⟩
    ·have:(kids<0∨1<kids):=by omega
     rw[if_pos this];refine⟨?_,fun h=>by cases h⟩;simp only[Bool.true_and];rw[show (formB 33).2=[] by decide+kernel];simp;omega
  ·by_cases h31:op=31∧kids=3
   ·rw[if_pos h31,if_neg h33,if_pos h31];exact⟨rfl,fun _=>rfl⟩
   ·rw[if_neg h31,if_neg (fun h=>h33 h.1),if_neg h33,if_neg h31];exact⟨by simp,fun _=>rfl⟩
 ·unfold kindsR kindsB
  rcases h with rfl|rfl|rfl|rfl|rfl|rfl
  all_goals
   first
    |(rw[if_neg (by decide),if_pos rfl,if_pos rfl];exact⟨rfl,fun _=>rfl⟩)
    |(rw[if_pos (by decide),if_neg (by decide),if_neg (by decide),if_neg (fun h=>absurd h.1 (by decide))]
      rw[show (formB _).2=[] by decide+kernel];refine⟨?_,fun _=>rfl⟩
      simp;omega)
theorem kinds_kOK {c op kids:Int} (h:accB c op=true) (hk:(kindsB op kids).2=true):∀ b∈(kindsB op kids).1,kOK (b.toNat:Int)=true:=by
 have he7:∀ n:Nat,∀ b∈e7.take n,kOK (b.toNat:Int)=true:=fun n b hb=>by
  have:=List.mem_of_mem_take hb
  revert this;revert b;intro b hb this
  unfold e7 at this;simp at this;subst this;rfl
 unfold kindsB;split
 ·split
  ·intro b hb;simp at hb
  ·exact he7 _
 ·split
  ·split
   ·intro b hb;simp at hb
   ·exact he7 _
  ·split
   ·intro b hb;simp at hb;rcases hb with rfl|rfl<;>rfl
   ·rename_i h5 h33 h31
    rcases acc_ops h with h|h
    ·exact fun b hb=>List.all_eq_true.1 (form_kOK op h) b hb
    ·rcases h with rfl|rfl|rfl|rfl|rfl|rfl
     all_goals
      first
       |exact absurd rfl h5
       |(rw[show (formB _).2=[] by decide+kernel];intro b hb;simp at hb)
theorem fields_x {x:Nd} {k:Int} (h:k≠115):fieldsB x 120=fieldsB x k:=by
 unfold fieldsB;simp[h]
def wfS (p:List Nd):Prop:=∀ x∈p,x.str.length≤4398046511104
theorem wfS_get {p:List Nd} (h:wfS p) (i:Nat):(p.getD i dN).str.length≤4398046511104:=by
 rw[List.getD_eq_getElem?_getD]
 cases e:p[i]? with
 |none=>simp[dN]
 |some x=>exact h x (List.mem_of_getElem? e)
def WalkX (p:List Nd) (f:Nat):Prop:=∀ (i:Nat) (k d:Int),d=33-(f:Int)→i<p.length→k≠115→k≠120→accB k (p.getD i dN).op=true→FC Tryz.prog 48 [nodes p,nI i,n8 120,nI d] 0 [] (resW (elemF p f i k)) 0 []
def WalkK (p:List Nd) (f:Nat):Prop:=∀ (i:Nat) (k d:Int),d=33-(f:Int)→i≤p.length→kOK k=true→FC Tryz.prog 48 [nodes p,nI i,n8 k,nI d] 0 [] (resW (childF p (decide (1≤f)) (elemF p f) (elemF p (f-1)) k i)) 0 []
theorem walk_0 (p:List Nd) (i:Nat) (k d:Int) (hd:32<d):FC Tryz.prog 48 [nodes p,nI i,n8 k,nI d] 0 [] (resW none) 0 []:=by
 refine FC.walk (by kernel_rfl) Tryz.func48 rfl rfl ?_
 repeat'(first|exact y0|refine y1 ?_|refine y2 ?_ ?_|(refine y8 ?_ ?_<;>intro h<;>try exact y6)|refine Fin.int (.inl rfl) rfl ?_|refine y3 ?_|refine y7 ?_ ?_|refine y4 ?_|(refine y9 ?_ ?_<;>intro h)|exact y5|fail)
theorem walk_end (p:List Nd) (i:Nat) (k d:Int) (hi:p.length≤i):FC Tryz.prog 48 [nodes p,nI i,n8 k,nI d] 0 [] (resW none) 0 []:=by
 refine FC.walk (by kernel_rfl) Tryz.func48 rfl rfl ?_
 repeat'(first|exact y0|refine y1 ?_|refine y2 ?_ ?_|(refine y8 ?_ ?_<;>intro h<;>try exact y6)|refine Fin.int (.inl rfl) rfl ?_|refine y3 ?_|refine y7 ?_ ?_|refine y4 ?_|(refine y9 ?_ ?_<;>intro h)|exact y5|fail)
theorem elem_w (p:List Nd) (hp:p.length≤2048) (hw:wfS p) (f:Nat) (hf:f≤32) (hc:WalkK p f) (i:Nat) (k c d:Int) (hd:d=33-((f:Int)+1)) (hi:i<p.length) (hk:(c=120∧k≠115∧accB k (p.getD i dN).op=true)∨(c=k∧k≠120∧blkR k=false)):
 FC Tryz.prog 48 [nodes p,nI i,n8 c,nI d] 0 [] (resW (elemF p (f+1) i k)) 0 []:=by
 rw[elemF_succ]
 have hget:p[i]? =some (p.getD i dN):=by simp[List.getD_eq_getElem?_getD,hi]
 unfold elemS;rw[hget];simp only
 have hblk:blkR c=false:=by
  rcases hk with ⟨rfl,_⟩|⟨rfl,_,h⟩
  ·rfl
  ·exact h
 have hb:=blkR_c c;rw[hblk] at hb;have hkc:=kindsR_c (p.getD i dN).op (p.getD i dN).kids;have hfc:=fieldsR_c (p.getD i dN) c (wfS_get hw i);have hpc:=perm_c c (p.getD i dN).op
 have hfk:fieldsB (p.getD i dN) c=fieldsB (p.getD i dN) k:=by
  rcases hk with ⟨rfl,h,_⟩|⟨rfl,_⟩
  ·exact fields_x h
  ·rfl
 rw[hfk] at hfc;have hks:=kinds_same (c:=k) (op:=(p.getD i dN).op) (kids:=(p.getD i dN).kids);have hko:=kinds_kOK (c:=k) (op:=(p.getD i dN).op) (kids:=(p.getD i dN).kids);generalize kindsR (p.getD i dN).op (p.getD i dN).kids=kb at*;obtain⟨ks,ok⟩:=kb;simp only at hkc hks;refine FC.walk (by kernel_rfl) Tryz.func48 rfl rfl ?_
 cases hA:accB k (p.getD i dN).op with
 |false=>
  rw[if_neg (by simp)]
  rcases hk with ⟨_,_,h⟩|⟨rfl,h120,_⟩
  ·rw[hA] at h;cases h
  ·rw[hA] at hpc
   cases ok
   all_goals
    repeat'(first|exact y0|refine y1 ?_|refine y2 ?_ ?_|(refine y8 ?_ ?_<;>intro h<;>try(exact y6))|(refine wC ?_;first|refine wF 67 (bo hb ?_)|refine wF 68 (pu hkc ?_)|refine wF 47 (bo hpc ?_)|refine wF 69 (bo hfc ?_))|refine Fin.int (.inl rfl) rfl ?_|refine y3 ?_|refine y7 ?_ ?_|refine y4 ?_|(refine y9 ?_ ?_<;>intro h)|exact y5|fail)
 |true=>
  obtain⟨e1,e2⟩:=hks hA
  have hpc2:c=k→FC Tryz.prog 47 [n8 c,nI (p.getD i dN).op] 0 [] (bV true) 0 []:=fun h=>by rw[h,hA] at hpc;rw[h];exact hpc
  clear hpc;cases ok
  ·rw[if_neg (fun h=>by rw[h.2.2] at e1;cases e1)]
   rcases hk with ⟨rfl,h1,_⟩|⟨rfl,h120,_⟩
   all_goals
    repeat'(first|exact y0|refine y1 ?_|refine y2 ?_ ?_|(refine y8 ?_ ?_<;>intro h<;>try(exact y6))|(refine wC ?_;first|refine wF 67 (bo hb ?_)|refine wF 68 (pu hkc ?_)|refine wF 47 (bo ((hpc2 rfl)) ?_)|refine wF 69 (bo hfc ?_))|refine Fin.int (.inl rfl) rfl ?_|refine y3 ?_|refine y7 ?_ ?_|refine y4 ?_|(refine y9 ?_ ?_<;>intro h)|exact y5|fail)
  ·have e3:=e2 e1.symm
   cases hF:fieldsB (p.getD i dN) k<;>rw[hF] at hfc
   ·rw[if_neg (by simp)]
    rcases hk with ⟨rfl,h1,_⟩|⟨rfl,h120,_⟩
    all_goals
     repeat'(first|exact y0|refine y1 ?_|refine y2 ?_ ?_|(refine y8 ?_ ?_<;>intro h<;>try(exact y6))|(refine wC ?_;first|refine wF 67 (bo hb ?_)|refine wF 68 (pu hkc ?_)|refine wF 47 (bo ((hpc2 rfl)) ?_)|refine wF 69 (bo hfc ?_))|refine Fin.int (.inl rfl) rfl ?_|refine y3 ?_|refine y7 ?_ ?_|refine y4 ?_|(refine y9 ?_ ?_<;>intro h)|exact y5|fail)
   ·rw[if_pos ⟨rfl,rfl,e1.symm⟩,←e3]
    have hkk:∀ b∈ks,kOK (b.toNat:Int)=true:=by rw[e3];exact hko hA e1.symm
    have hlt:i<p.length:=hi
    rcases hk with ⟨rfl,h1,_⟩|⟨rfl,h120,_⟩
    all_goals
     repeat'(first|exact y0|refine y1 ?_|refine y2 ?_ ?_|(refine y8 ?_ ?_<;>intro h<;>try(exact y6))|(refine wC ?_;first|refine wF 67 (bo hb ?_)|refine wF 68 (pu hkc ?_)|refine wF 47 (bo ((hpc2 rfl)) ?_)|refine wF 69 (bo hfc ?_))|refine y3 ?_|refine y7 ?_ ?_|refine y4 ?_|(refine y9 ?_ ?_<;>intro h)|exact y5|fail)
     refine Ex.inv (σ:=Nat×Nat) (fun x=>[(13,nI x.1),(1,nI x.2)]) (fun x=>[(0,some {cells:=ndC (p.getD i dN),ty:=30})]) (fun x=>(x.1≤ks.length∧i+1+x.1≤x.2)∧x.2≤p.length∧kidsF (childF p (decide (1≤f)) (elemF p f) (elemF p (f-1))) ks (i+1)=kidsF (childF p (decide (1≤f)) (elemF p f) (elemF p (f-1))) (ks.drop x.1) x.2) (fun x=>ks.length-x.1) (0,i+1) rfl (fun _=>rfl) ⟨⟨Nat.zero_le _,Nat.le_refl _⟩,hlt,rfl⟩ ⟨VLe.refl _,VLe.refl _,trivial⟩ ⟨rfl,trivial⟩ ?_;rintro⟨j,e⟩ ⟨⟨h1,h0⟩,h2,h3⟩;simp only at h1 h2 h3 h0 ⊢;by_cases hj:j<ks.length
     ·rw[List.drop_eq_getElem_cons hj] at h3
      have hkg:ks[j]=ks.getD j 0:=by simp[List.getD_eq_getElem?_getD,hj]
      rw[hkg] at h3;simp only[kidsF] at h3;have hch:=hc e ((ks.getD j 0).toNat:Int) (d+1) (by omega) h2 (hkk _ (by rw[←hkg];exact List.getElem_mem hj))
      have hle:=fun e' (h:childF p (decide (1≤f)) (elemF p f) (elemF p (f-1)) ((ks.getD j 0).toNat:Int) e=some e')=>childF_le (fun i k e h=>elemF_le h) (fun i k e h=>elemF_le h) h
      generalize childF p (decide (1≤f)) (elemF p f) (elemF p (f-1)) ((ks.getD j 0).toNat:Int) e=r at*
      cases r with
      |none=>
       simp only at h3;rw[h3]
       repeat'(first|exact y0|refine y1 ?_|refine y2 ?_ ?_|(refine y8 ?_ ?_<;>intro h<;>try(exact y6))|(refine wC ?_;first|refine wF 48 (pu hch ?_))|refine Fin.int (.inl rfl) rfl ?_|refine y3 ?_|refine y7 ?_ ?_|refine y4 ?_|(refine y9 ?_ ?_<;>intro h)|exact y5|fail)
      |some e'=>
       simp only at h3;have:=hle e' rfl
       repeat'(first|exact y0|refine y1 ?_|refine y2 ?_ ?_|(refine y8 ?_ ?_<;>intro h<;>try(exact y6))|(refine wC ?_;first|refine wF 48 (pu hch ?_))|refine LoopR.same (j+1,e') ⟨⟨?_,?_⟩,?_,h3⟩ ?_ rfl ⟨VLe.refl _,VLe.refl _,trivial⟩ ⟨rfl,trivial⟩ rfl rfl (by decide)|refine y3 ?_|refine y7 ?_ ?_|refine y4 ?_|(refine y9 ?_ ?_<;>intro h)|exact y5|fail)
     ·
      have:ks.drop j=[]:=by simp;omega
      rw[this] at h3;simp only[kidsF] at h3;rw[h3]
      repeat'(first|exact y0|refine y1 ?_|refine y2 ?_ ?_|(refine y8 ?_ ?_<;>intro h<;>try(exact y6))|refine Fin.int (.inl rfl) rfl ?_|refine y3 ?_|refine y7 ?_ ?_|refine y4 ?_|(refine y9 ?_ ?_<;>intro h)|exact y5|fail)
theorem elemF_none {p:List Nd} {f i:Nat} {k:Int} (h:i<p.length→accB k (p.getD i dN).op=false):elemF p f i k=none:=by
 have key:∀ ok E0 E1,elemS p ok E0 E1 i k=none:=by
  intro ok E0 E1;unfold elemS;split
  ·rfl
  ·rename_i x hx
   have hi:i<p.length:=by
    rcases Nat.lt_or_ge i p.length with h|h
    ·exact h
    ·simp[List.getElem?_eq_none h] at hx
   have hx2:p.getD i dN=x:=by rw[List.getD_eq_getElem?_getD,hx];rfl
   rw[if_neg];rw[←hx2,h hi];simp
 match f with
 |0=>rfl
 |1=>exact key _ _ _
 |f+2=>exact key _ _ _
theorem child_w (p:List Nd) (hp:p.length≤2048) (hw:wfS p) (f:Nat) (hf:f≤33) (h1:1≤f→WalkX p (f-1)) (h2:1≤f→WalkK p (f-1)):WalkK p f:=by
 intro i k d hd hi hk;obtain⟨hbk,h120⟩:=kOK_blk hk;unfold childF
 rcases Nat.eq_zero_or_pos f with rfl|hpos
 ·have:∀ o,o=none→FC Tryz.prog 48 [nodes p,nI i,n8 k,nI d] 0 [] (resW o) 0 []:=fun o h=>by rw[h];exact walk_0 p i k d (by omega)
  refine this _ ?_;split
  ·split
   ·rfl
   ·rw[if_neg (by simp)]
  ·rfl
 rcases Nat.lt_or_ge i p.length with hlt|hge
 ·have hget:p[i]? =some (p.getD i dN):=by simp[List.getD_eq_getElem?_getD,hlt]
  cases hB:isBlkB k with
  |false=>
   simp only[Bool.false_eq_true,if_false]
   obtain⟨f',rfl⟩:∃ f',f=f'+1:=⟨f-1,by omega⟩
   exact elem_w p hp hw f' (by omega) (h2 (by omega)) i k k d (by omega) hlt (.inr ⟨rfl,h120,by rw[hbk];exact hB⟩)
  |true=>
   rw[hB] at hbk;have hb:=blkR_c k;rw[hbk] at hb;simp only[if_true];rw[hget];simp only;have hpos:1≤f:=hpos;rw[decide_eq_true hpos];generalize hT:(if true=true∧(p.getD i dN).op=4∧(p.getD i dN).int=0∧(p.getD i dN).str=[]∧0≤(p.getD i dN).kids then blockF (fun e=>elemF p (f-1) e k) (p.getD i dN).kids.toNat (i+1) else none)=T
   have hnone:(¬((p.getD i dN).op=4∧(p.getD i dN).int=0∧(p.getD i dN).str=[]∧0≤(p.getD i dN).kids)∨(p.length:Int)<(p.getD i dN).kids)→T=none:=fun h=>by
    rw[←hT]
    rcases h with h|h
    ·rw[if_neg (fun h'=>h h'.2)]
    ·split
     ·rename_i hc
      cases hbf:blockF (fun e=>elemF p (f-1) e k) (p.getD i dN).kids.toNat (i+1) with
      |none=>rfl
      |some e=>
       have:=blockF_le (N:=p.length) (fun i e h=>elemF_le h) hlt hbf;omega
     ·rfl
   refine FC.walk (by kernel_rfl) Tryz.func48 rfl rfl ?_
   repeat'(first|exact y0|refine y1 ?_|refine y2 ?_ ?_|(refine y8 ?_ ?_<;>intro h<;>try(exact y6))|(refine wC ?_;first|refine wF 67 (bo hb ?_))|refine Fin.int (.inl rfl) rfl ?_|refine y3 ?_|refine y7 ?_ ?_|refine y4 ?_|(refine y9 ?_ ?_<;>intro h)|exact y5|fail)
   all_goals try (rw[hnone (by first|(left;intro h;simp_all;done)|(right;omega)|(left;intro h;omega))])
   have hk0:0≤(p.getD i dN).kids:=by omega
   have hx:(p.getD i dN).str=[]:=‹_›;rw[if_pos ⟨rfl,by assumption,by assumption,hx,hk0⟩] at hT;clear hnone;generalize hK:(p.getD i dN).kids.toNat=K at*
   have hKi:(p.getD i dN).kids=(K:Int):=by omega
   refine Ex.inv (σ:=Nat×Nat) (fun x=>[(10,nI x.1),(1,nI x.2)]) (fun x=>[(0,some {cells:=ndC (p.getD i dN),ty:=30})]) (fun x=>(x.1≤K∧i+1+x.1≤x.2)∧x.2≤p.length∧T=blockF (fun e=>elemF p (f-1) e k) (K-x.1) x.2) (fun x=>K-x.1) (0,i+1) rfl (fun _=>rfl) ⟨⟨Nat.zero_le _,Nat.le_refl _⟩,hlt,hT.symm⟩ ⟨VLe.refl _,VLe.refl _,trivial⟩ ⟨rfl,trivial⟩ ?_;rintro⟨j,e⟩ ⟨⟨g1,g0⟩,g2,g3⟩;simp only at g1 g2 g3 g0 ⊢;by_cases hj:j<K
   ·rw[show K-j=(K-(j+1))+1 by omega] at g3
    simp only[blockF] at g3;have hpc:=perm_c k (p.getD e dN).op;by_cases hel:e<p.length
    ·cases hA:accB k (p.getD e dN).op<;>rw[hA] at hpc
     ·rw[elemF_none (fun _=>hA)] at g3
      simp only at g3;rw[g3]
      repeat'(first|exact y0|refine y1 ?_|refine y2 ?_ ?_|(refine y8 ?_ ?_<;>intro h<;>try(exact y6))|(refine wC ?_;first|refine wF 47 (bo hpc ?_))|refine Fin.int (.inl rfl) rfl ?_|refine y3 ?_|refine y7 ?_ ?_|refine y4 ?_|(refine y9 ?_ ?_<;>intro h)|exact y5|fail)
     ·have h115:k≠115:=fun h=>by rw[h] at hB;revert hB;decide
      have hch:=h1 hpos e k (d+1) (by omega) hel h115 h120 hA
      have hle:=fun e' (h:elemF p (f-1) e k=some e')=>elemF_le h
      generalize elemF p (f-1) e k=r at*
      cases r with
      |none=>
       simp only at g3;rw[g3]
       repeat'(first|exact y0|refine y1 ?_|refine y2 ?_ ?_|(refine y8 ?_ ?_<;>intro h<;>try(exact y6))|(refine wC ?_;first|refine wF 47 (bo hpc ?_)|refine wF 48 (pu hch ?_))|refine Fin.int (.inl rfl) rfl ?_|refine y3 ?_|refine y7 ?_ ?_|refine y4 ?_|(refine y9 ?_ ?_<;>intro h)|exact y5|fail)
      |some e'=>
       simp only at g3;have:=hle e' rfl
       repeat'(first|exact y0|refine y1 ?_|refine y2 ?_ ?_|(refine y8 ?_ ?_<;>intro h<;>try(exact y6))|(refine wC ?_;first|refine wF 47 (bo hpc ?_)|refine wF 48 (pu hch ?_))|refine LoopR.same (j+1,e') ⟨⟨?_,?_⟩,?_,g3⟩ ?_ rfl ⟨VLe.refl _,VLe.refl _,trivial⟩ ⟨rfl,trivial⟩ rfl rfl (by decide)|refine y3 ?_|refine y7 ?_ ?_|refine y4 ?_|(refine y9 ?_ ?_<;>intro h)|exact y5|fail)
    ·rw[elemF_none (fun h=>absurd h hel)] at g3
     simp only at g3;rw[g3]
     repeat'(first|exact y0|refine y1 ?_|refine y2 ?_ ?_|(refine y8 ?_ ?_<;>intro h<;>try(exact y6))|(refine wC ?_;first|refine wF 47 (bo hpc ?_))|refine Fin.int (.inl rfl) rfl ?_|refine y3 ?_|refine y7 ?_ ?_|refine y4 ?_|(refine y9 ?_ ?_<;>intro h)|exact y5|fail)
   ·
    rw[show K-j=0 by omega] at g3;simp only[blockF] at g3;rw[g3]
    repeat'(first|exact y0|refine y1 ?_|refine y2 ?_ ?_|(refine y8 ?_ ?_<;>intro h<;>try(exact y6))|refine Fin.int (.inl rfl) rfl ?_|refine y3 ?_|refine y7 ?_ ?_|refine y4 ?_|(refine y9 ?_ ?_<;>intro h)|exact y5|fail)
 ·have:∀ o,o=none→FC Tryz.prog 48 [nodes p,nI i,n8 k,nI d] 0 [] (resW o) 0 []:=fun o h=>by rw[h];exact walk_end p i k d hge
  refine this _ ?_
  have hget:p[i]? =none:=by simp;omega
  rw[hget];split
  ·rfl
  ·exact elemF_none (fun h=>by omega)
theorem walk_all (p:List Nd) (hp:p.length≤2048) (hw:wfS p):∀ f,f≤33→WalkX p f∧WalkK p f
 |0,_=>⟨fun i k d hd hi _ _ _=>walk_0 p i 120 d (by omega),child_w p hp hw 0 (by omega) (fun h=>by omega) (fun h=>by omega)⟩
 |f+1,hf=>by
  have ih:=walk_all p hp hw f (by omega);exact⟨fun i k d hd hi h1 h2 h3=>elem_w p hp hw f (by omega) ih.2 i k 120 d (by omega) hi (.inl ⟨rfl,h1,h3⟩),child_w p hp hw (f+1) hf (fun _=>ih.1) (fun _=>ih.2)⟩
theorem validR_all (p:List Nd) (hw:wfS p):FC Tryz.prog 20 [nodes p] 0 [] (bV (validN p)) 0 []:=by
 unfold validN;refine FC.walk (by kernel_rfl) Tryz.func20 rfl rfl ?_;by_cases hp:p.length≤2048
 ·
  rw[decide_eq_true hp,Bool.true_and]
  repeat'(first|exact y0|refine y1 ?_|refine y2 ?_ ?_|(refine y8 ?_ ?_<;>intro h<;>try(exact y6))|refine Fin.bool (.inl rfl) rfl ?_|refine y3 ?_|refine y7 ?_ ?_|refine y4 ?_|(refine y9 ?_ ?_<;>intro h)|exact y5|fail)
  generalize hT:topF p (p.length+1) 0=T;refine Ex.inv (σ:=Nat×Nat) (fun x=>[(3,nI x.2)]) (fun x=>[]) (fun x=>x.1≤x.2∧x.2≤p.length∧T=topF p (p.length+1-x.1) x.2) (fun x=>p.length-x.2) (0,0) rfl (fun _=>rfl) ⟨Nat.le_refl _,Nat.zero_le _,hT.symm⟩ ⟨VLe.refl _,trivial⟩ trivial ?_;clear hT;rintro⟨j,i⟩ ⟨h1,h2,h3⟩;simp only at h1 h2 h3 ⊢;rw[show p.length+1-j=(p.length-j)+1 by omega] at h3;simp only[topF] at h3;by_cases hlt:i<p.length
  ·rw[if_pos hlt] at h3
   have hpc:=perm_c 68 (p.getD i dN).op
   cases hA:accB 68 (p.getD i dN).op<;>rw[hA] at hpc
   ·rw[elemF_none (fun _=>hA)] at h3
    simp only at h3
    repeat'(first|exact y0|refine y1 ?_|refine y2 ?_ ?_|(refine y8 ?_ ?_<;>intro h<;>try(exact y6))|(refine wC ?_;first|refine wF 47 (bo hpc ?_))|refine Fin.bool (.inl rfl) rfl ?_|refine y3 ?_|refine y7 ?_ ?_|refine y4 ?_|(refine y9 ?_ ?_<;>intro h)|exact y5|fail)
    all_goals exact h3.symm
   ·have hch:=(walk_all p hp hw 32 (by decide)).1 i 68 1 (by decide) hlt (by decide) (by decide) hA
    have hle:=fun e' (h:elemF p 32 i 68=some e')=>elemF_le h
    generalize elemF p 32 i 68=r at*
    cases r with
    |none=>
     simp only at h3
     repeat'(first|exact y0|refine y1 ?_|refine y2 ?_ ?_|(refine y8 ?_ ?_<;>intro h<;>try(exact y6))|(refine wC ?_;first|refine wF 47 (bo hpc ?_)|refine wF 48 (pu hch ?_))|refine Fin.bool (.inl rfl) rfl ?_|refine y3 ?_|refine y7 ?_ ?_|refine y4 ?_|(refine y9 ?_ ?_<;>intro h)|exact y5|fail)
     all_goals exact h3.symm
    |some e'=>
     simp only at h3;have:=hle e' rfl
     repeat'(first|exact y0|refine y1 ?_|refine y2 ?_ ?_|(refine y8 ?_ ?_<;>intro h<;>try(exact y6))|(refine wC ?_;first|refine wF 47 (bo hpc ?_)|refine wF 48 (pu hch ?_))|refine Fin.bool (.inl rfl) rfl ?_|refine LoopR.same (j+1,e') ⟨?_,?_,?_⟩ ?_ rfl ⟨VLe.refl _,trivial⟩ trivial rfl rfl (by decide)|refine y3 ?_|refine y7 ?_ ?_|refine y4 ?_|(refine y9 ?_ ?_<;>intro h)|exact y5|fail)
     all_goals (rw[h3];congr 1;omega)
  ·
   rw[if_neg hlt] at h3
   repeat'(first|exact y0|refine y1 ?_|refine y2 ?_ ?_|(refine y8 ?_ ?_<;>intro h<;>try(exact y6))|refine Fin.bool (.inl rfl) rfl ?_|refine y3 ?_|refine y7 ?_ ?_|refine y4 ?_|(refine y9 ?_ ?_<;>intro h)|exact y5|fail)
   all_goals exact h3.symm
 ·
  rw[decide_eq_false hp,Bool.false_and]
  repeat'(first|exact y0|refine y1 ?_|refine y2 ?_ ?_|(refine y8 ?_ ?_<;>intro h<;>try(exact y6))|refine Fin.bool (.inl rfl) rfl ?_|refine y3 ?_|refine y7 ?_ ?_|refine y4 ?_|(refine y9 ?_ ?_<;>intro h)|exact y5|fail)
  all_goals rfl
set_option maxRecDepth 100000
def Fo.all (P:Nd→Prop):Fo→Prop
 | .nil=>True
 | .cons x k n=>P x∧k.all P∧n.all P
theorem Fo.all_at {P:Nd→Prop} {p:List Nd}:∀ {t:Fo} {j i:Nat},t.At p j→t.all P→j≤i→i<j+t.size→P (p.getD i dN)
 | .nil,j,i,_,_,h1,h2=>by simp only[Fo.size] at h2;omega
 | .cons x k n,j,i,ha,⟨p1,p2,p3⟩,h1,h2=>by
   simp only[Fo.size] at h2;by_cases e:i=j
   ·subst e;rw[At.get ha];exact p1
   ·rcases Nat.lt_or_ge i (j+1+k.size) with h|h
    ·exact Fo.all_at ha.2.2.1 p2 (by omega) h
    ·exact Fo.all_at ha.2.2.2 p3 h (by omega)
def quiet (x:Nd):Prop:=x.op<10∨21<x.op
def qK (c:Int):Bool:=decide (c≠68)&&decide (c≠70)
theorem acc_quiet {c op:Int} (h:accB c op=true) (hc:qK c=true):op<10∨21<op:=by
 unfold qK at hc;simp only[Bool.and_eq_true,decide_eq_true_eq] at hc;unfold accB at h;split at h
 ·simp at h;omega
 split at h
 ·simp at h;omega
 split at h
 ·simp[isExprB,isDataB] at h;omega
 split at h
 ·simp at h;omega
 split at h
 ·simp[isDataB] at h;omega
 split at h
 ·simp[isDataB] at h;omega
 split at h
 ·rename_i h68;exact absurd h68 hc.1
 split at h
 ·rename_i h70;exact absurd h70 hc.2
 split at h
 ·simp at h;omega
 ·cases h
theorem form_quiet:∀ op∈opsL,21<op→((formB op).2.all fun c=>qK (c.toNat:Int))=true:=by decide+kernel
theorem kinds_quiet {c op kids:Int} (h:accB c op=true) (hq:op<10∨21<op):∀ b∈(kindsB op kids).1,qK (b.toNat:Int)=true:=by
 have he7:∀ n:Nat,∀ b∈e7.take n,qK (b.toNat:Int)=true:=fun n b hb=>by
  have:=List.mem_of_mem_take hb;unfold e7 at this;simp at this;subst this;rfl
 unfold kindsB;split
 ·split
  ·intro b hb;simp at hb
  ·exact he7 _
 ·split
  ·split
   ·intro b hb;simp at hb
   ·exact he7 _
  ·split
   ·intro b hb;simp at hb;rcases hb with rfl|rfl<;>rfl
   ·rename_i h5 h33 h31
    rcases acc_ops h with h'|h'
    ·have hgt:21<op:=by
      rcases hq with hq|hq
      ·have:∀ o∈opsL,10≤o:=by decide
       have:=this op h';omega
      ·exact hq
     exact fun b hb=>List.all_eq_true.1 (form_quiet op h' hgt) b hb
    ·rcases h' with rfl|rfl|rfl|rfl|rfl|rfl
     all_goals
      first
       |exact absurd rfl h5
       |(rw[show (formB _).2=[] by decide+kernel];intro b hb;simp at hb)
theorem V_quiet:∀ {t:Fo} {cs:List (Bool×Int)},t.V cs→(∀ sl∈cs,qK sl.2=true)→t.all quiet
 | .nil,_,_,_=>trivial
 | .cons x k n,[],h,_=>by simp[Fo.V] at h
 | .cons x k n,(true,c)::cs,⟨⟨h1,_⟩,h2,h3⟩,hq=>by
   refine⟨.inl (by rw[h1];decide),V_quiet h2 fun sl hsl=>?_,V_quiet h3 fun sl hsl=>hq sl (List.mem_cons_of_mem _ hsl)⟩;rw[(List.mem_replicate.1 hsl).2];exact hq (true,c) (List.mem_cons_self ..)
 | .cons x k n,(false,c)::cs,⟨⟨h1,_⟩,h2,h3⟩,hq=>by
   have hx:=acc_quiet h1 (hq _ (List.mem_cons_self ..));refine⟨hx,V_quiet h2 fun sl hsl=>?_,V_quiet h3 fun sl hsl=>hq sl (List.mem_cons_of_mem _ hsl)⟩;obtain⟨b,hb,rfl⟩:=List.mem_map.1 hsl;exact kinds_quiet h1 hx b hb
structure Inf where
 sc:Pth
 path:By
 me:Int
 lo:Int
 pa:Int
def ini:Inf:=⟨⟨true,0,[]⟩,[],-1,-1,-1⟩
def declB (op:Int):Bool:=decide (11≤op∧op≤15∨op=18∨op=20∨op=21)
def ownI (x:Nd) (nm:Pth) (a:Inf):Inf:=if declB x.op=true∧(joinP a.sc nm).2=true then {a with path:=fmtP (joinP a.sc nm).1} else a
def innI (x:Nd) (nm:Pth) (i:Nat) (a:Inf):Inf:=
 {sc:=if (x.op=10∨x.op=11∨x.op=12)∧(joinP a.sc nm).2=true then (joinP a.sc nm).1 else a.sc,path:=[],me:=if x.op=14 then (i:Int) else a.me,lo:=if x.op=14 then-1 else if x.op=32 then (i:Int) else a.lo,pa:=(i:Int)}
def ctxF:Fo→Nat→Nat→Inf→Inf
 | .nil,_,_,a=>a
 | .cons x k n,j,i,a=>if i=j then a else if i<j+1+k.size then ctxF k (j+1) i (innI x (nameF k) j a) else ctxF n (j+1+k.size) i a
theorem kid_size:∀ {t:Fo} {j i:Nat},j≤i→i<j+t.size→i+1+(t.kid j i).size≤j+t.size
 | .nil,j,i,h1,h2=>by simp only[Fo.size] at h2;omega
 | .cons x k n,j,i,h1,h2=>by
   simp only[Fo.size] at h2 ⊢;unfold Fo.kid;split
   ·omega
   ·split
    ·have:=kid_size (t:=k) (j:=j+1) (i:=i) (by omega) (by omega)
     omega
    ·have:=kid_size (t:=n) (j:=j+1+k.size) (i:=i) (by omega) (by omega)
     omega
theorem kid_kid {p:List Nd}:∀ {t:Fo} {j i m:Nat},t.At p j→j≤i→i<j+t.size→i<m→m<i+1+(t.kid j i).size→∀ a,
 t.kid j m=(t.kid j i).kid (i+1) m∧ctxF t j m a=ctxF (t.kid j i) (i+1) m (innI (p.getD i dN) (nameF (t.kid j i)) i (ctxF t j i a))
 | .nil,j,i,m,_,h1,h2,_,_=>by simp only[Fo.size] at h2;omega
 | .cons x k n,j,i,m,ha,h1,h2,h3,h4=>by
   intro a;simp only[Fo.size] at h2;have hx:=At.get ha;by_cases e:i=j
   ·subst e
    have e1:(Fo.cons x k n).kid i i=k:=by simp[Fo.kid]
    have e2:ctxF (.cons x k n) i i a=a:=by simp[ctxF]
    rw[e1] at h4 ⊢;rw[e2,hx]
    have hm: ¬m=i:=by omega
    have hm2:m<i+1+k.size:=by omega
    simp only[Fo.kid,ctxF,if_neg hm,if_pos hm2];exact⟨trivial,trivial⟩
   ·rcases Nat.lt_or_ge i (j+1+k.size) with h|h
    ·have e1:(Fo.cons x k n).kid j i=k.kid (j+1) i:=by simp only[Fo.kid,if_neg e,if_pos h]
     have e2:ctxF (.cons x k n) j i a=ctxF k (j+1) i (innI x (nameF k) j a):=by simp only[ctxF,if_neg e,if_pos h]
     rw[e1] at h4 ⊢;rw[e2];have hs:=kid_size (t:=k) (j:=j+1) (i:=i) (by omega) (by omega)
     have hm: ¬m=j:=by omega
     have hm2:m<j+1+k.size:=by omega
     have ih:=kid_kid (t:=k) ha.2.2.1 (by omega) (by omega) h3 h4 (innI x (nameF k) j a);simp only[Fo.kid,ctxF,if_neg hm,if_pos hm2];exact ih
    ·have h': ¬i<j+1+k.size:=by omega
     have e1:(Fo.cons x k n).kid j i=n.kid (j+1+k.size) i:=by simp only[Fo.kid,if_neg e,if_neg h']
     have e2:ctxF (.cons x k n) j i a=ctxF n (j+1+k.size) i a:=by simp only[ctxF,if_neg e,if_neg h']
     rw[e1] at h4 ⊢;rw[e2]
     have hm: ¬m=j:=by omega
     have hm2: ¬m<j+1+k.size:=by omega
     have ih:=kid_kid (t:=n) ha.2.2.2 h (by omega) h3 h4 a;simp only[Fo.kid,ctxF,if_neg hm,if_neg hm2];exact ih
theorem starts_ge:∀ {t:Fo} {j i:Nat},i∈t.starts j→j≤i∧i<j+t.size
 | .nil,j,i,h=>by simp[Fo.starts] at h
 | .cons x k n,j,i,h=>by
   simp only[Fo.starts,List.mem_cons] at h;simp only[Fo.size]
   rcases h with rfl|h
   ·omega
   ·have:=starts_ge h;omega
theorem ctx_start:∀ {t:Fo} {j i:Nat} {a:Inf},i∈t.starts j→ctxF t j i a=a
 | .nil,j,i,a,h=>by simp[Fo.starts] at h
 | .cons x k n,j,i,a,h=>by
   simp only[Fo.starts,List.mem_cons] at h;unfold ctxF;by_cases e:i=j
   ·rw[if_pos e]
   ·rw[if_neg e]
    have h:=h.resolve_left e;have:=starts_ge h;rw[if_neg (by omega)];exact ctx_start h
theorem ctx_me {p:List Nd}:∀ {t:Fo} {j i:Nat} {a:Inf},t.At p j→t.all quiet→j≤i→i<j+t.size→(ctxF t j i a).me=a.me
 | .nil,j,i,a,_,_,h1,h2=>by simp only[Fo.size] at h2;omega
 | .cons x k n,j,i,a,ha,⟨q1,q2,q3⟩,h1,h2=>by
   simp only[Fo.size] at h2;unfold ctxF;split
   ·rfl
   ·split
    ·rw[ctx_me ha.2.2.1 q2 (by omega) (by omega)]
     unfold innI;simp only;rw[if_neg];unfold quiet at q1;omega
    ·exact ctx_me ha.2.2.2 q3 (by omega) (by omega)
abbrev ctxT (t:Fo) (i:Nat):Inf:=ctxF t 0 i ini
theorem node_kids {p:List Nd} {t:Fo} {cs:List (Bool×Int)} (ha:t.At p 0) (hv:t.V cs) {i:Nat} (hi:i<t.size) (hop:(p.getD i dN).op≠4):
 (Fo.cons (p.getD i dN) (t.kid 0 i) .nil).At p i∧(t.kid 0 i).At p (i+1)∧(t.kid 0 i).V (slots (kindsB (p.getD i dN).op (p.getD i dN).kids).1)∧(kindsB (p.getD i dN).op (p.getD i dN).kids).2=true∧∃ c,accB c (p.getD i dN).op=true:=by
 obtain⟨⟨b,c⟩,h1,h2⟩:=kid_at ha hv (Nat.zero_le i) (by omega);cases b
 ·exact⟨h1,h1.2.2.1,h2.2.1,h2.1.2.2,c,h2.1.1⟩
 ·exact absurd h2.1.1 hop
theorem kinds_of {op:Int} {ks:By} (h:formB op=((formB op).1,ks)) (h5:op≠5) (h33:op≠33) (h31:op≠31) (kids:Int):(kindsB op kids).1=ks:=by
 unfold kindsB;rw[if_neg h5,if_neg h33,if_neg (fun e=>h31 e.1),h]
theorem kinds_14 (kids:Int):(kindsB 14 kids).1=[115,105,105,105,83]:=kinds_of (by decide+kernel) (by decide) (by decide) (by decide) kids
theorem kinds_16 (kids:Int):(kindsB 16 kids).1=[110,105,105,70]:=kinds_of (by decide+kernel) (by decide) (by decide) (by decide) kids
theorem args_where {c':Int}:∀ (ls:List Int) (t:Fo),(ls.all leafK)=true→t.V (ls.map (fun c=>(false,c))++[(true,c')])→t.size=ls.length+1+(lastBl t).size∧∀ (i:Nat),(i+ls.length)∈t.starts i∧t.kid i (i+ls.length)=lastBl t
 |[],t,_,h=>by
  obtain⟨y,bl,n,rfl,h1,h2,h3⟩:=V_blk h;have:=V_nil h1;subst this;refine⟨by simp only[Fo.size,List.length_nil,lastBl];omega,fun i=>⟨by simp[Fo.starts],by simp[Fo.kid,lastBl]⟩⟩
 |c::ls,t,hl,h=>by
  simp only[List.all_cons,Bool.and_eq_true] at hl;obtain⟨y,n,rfl,h1,h2⟩:=V_leaf hl.1 h;obtain⟨g3,g1⟩:=args_where ls n hl.2 h1
  have hn:lastBl (.cons y .nil n)=lastBl n:=by
   cases n with
   |nil=>simp only[Fo.size] at g3;omega
   |cons a b c=>rfl
  rw[hn];refine⟨by simp only[Fo.size,List.length_cons];omega,fun i=>?_⟩;obtain⟨k1,k2⟩:=g1 (i+1)
  have e:i+(c::ls).length=i+1+ls.length:=by simp only[List.length_cons];omega
  rw[e];refine⟨?_,?_⟩
  ·simp only[Fo.starts,Fo.size,List.mem_cons,Nat.add_zero]
   exact .inr k1
  ·unfold Fo.kid
   rw[if_neg (by omega),if_neg (by show ¬i+1+ls.length<i+1+0;omega)];exact k2
set_option maxRecDepth 100000
theorem stmS_app:∀ (m:Bool) (t:Fo) (i:Nat) (lp r:Bool) (G:Dgs),stmS m t i lp r G=G++stmS m t i lp r []
 |true,.nil,_,_,_,G=>by simp[stmS]
 |false,.nil,_,_,_,G=>by simp[stmS]
 |true,.cons x k n,i,lp,r,G=>by
  simp only[stmS];rw[stmS_app true n (i+1+k.size) lp r (if x.op=4 then stmS false k (i+1) lp true G else G),stmS_app true n (i+1+k.size) lp r (if x.op=4 then stmS false k (i+1) lp true [] else [])];split
  ·rw[stmS_app false k (i+1) lp true G];simp only[List.append_assoc]
  ·simp
 |false,.cons x k n,i,lp,r,G=>by
  simp only[stmS]
  have h2:stG2 x.op i lp (stG1 i r G)=G++stG2 x.op i lp (stG1 i r []):=by
   unfold stG2 stG1
   split<;>split<;>simp
  rw[h2];generalize stG2 x.op i lp (stG1 i r [])=E;rw[stmS_app false n (i+1+k.size) lp _ (if x.op=31 then stmS true k (i+1) lp true (G++E) else if x.op=32 then stmS true k (i+1) true true (G++E) else G++E),stmS_app false n (i+1+k.size) lp _ (if x.op=31 then stmS true k (i+1) lp true E else if x.op=32 then stmS true k (i+1) true true E else E)];split
  ·rw[stmS_app true k (i+1) lp true (G++E),stmS_app true k (i+1) lp true E];simp only[List.append_assoc]
  ·split
   ·rw[stmS_app true k (i+1) true true (G++E),stmS_app true k (i+1) true true E];simp only[List.append_assoc]
   ·simp only[List.append_assoc]
theorem argG_app (p:List Nd) (lim:Int):∀ (c j:Nat) (G:Dgs),argG p lim c j G=G++argG p lim c j []
 |0,_,G=>by simp[argG]
 |c+1,j,G=>by
  simp only[argG];rw[argG_app p lim c (j+1) (if (p.getD j dN).op=7∧lim≤numN p j then G++[(j,9)] else G),argG_app p lim c (j+1) (if (p.getD j dN).op=7∧lim≤numN p j then []++[(j,9)] else [])]
  split<;>simp
theorem metG_app (p:List Nd) (bl:Fo) (i:Nat) (G:Dgs):metG p bl i G=G++metG p bl i []:=by
 unfold metG;rw[stmS_app _ _ _ _ _ (argG p _ _ _ G),stmS_app _ _ _ _ _ (argG p _ _ _ []),argG_app p _ _ _ G,List.append_assoc]
theorem unitsG_app (p:List Nd) (len w:Int):∀ (t:Fo) (i:Nat) (bit:Int) (G:Dgs),unitsG p len w t i bit G=G++unitsG p len w t i bit []
 | .nil,_,_,G=>by simp[unitsG]
 | .cons x k n,i,bit,G=>by
   simp only[unitsG];split
   ·simp
   ·split
    ·exact unitsG_app p len w n _ _ G
    ·rw[unitsG_app p len w n _ _ (if len<((bit+numN p (i+2)-1).tdiv (8*w)+1)*w then G++[(i,7)] else G),unitsG_app p len w n _ _ (if len<((bit+numN p (i+2)-1).tdiv (8*w)+1)*w then []++[(i,7)] else [])]
     split<;>simp
theorem fieldG_app (p:List Nd) (F:List (By×Nat)) (sc:Pth) (bl:Fo) (i:Nat) (G:Dgs):fieldG p F sc bl i G=G++fieldG p F sc bl i []:=by
 unfold fieldG;split
 ·simp
 ·split
  ·simp
  ·exact unitsG_app _ _ _ _ _ _ _
theorem nodeG_app (p:List Nd) (F:List (By×Nat)) (sc:Pth) (k:Fo) (i:Nat) (G:Dgs):nodeG p F sc k i G=G++nodeG p F sc k i []:=by
 unfold nodeG;split
 ·split<;>simp
 ·split
  ·exact fieldG_app _ _ _ _ _ _
  ·split
   ·split<;>simp
   ·split
    ·exact metG_app _ _ _ _
    ·simp
def nodeE (p:List Nd) (F:List (By×Nat)) (T:List Pth) (t:Fo) (i:Nat):Dgs:=(if oorB p i then [(i,4)] else [])++nodeG p F (T.getD i z0) (t.kid 0 i) i []
theorem rowG_app (p:List Nd) (F:List (By×Nat)) (T:List Pth) (t:Fo):∀ (c i:Nat) (G:Dgs),rowG p F T t c i G=G++(List.range' i c).flatMap (nodeE p F T t)
 |0,i,G=>by simp[rowG]
 |c+1,i,G=>by
  simp only[rowG];rw[rowG_app p F T t c (i+1),nodeG_app,List.range'_succ,List.flatMap_cons];unfold nodeE
  split<;>simp
def Inn (lo hi:Nat) (E:Dgs):Prop:=E.Nodup∧∀ d∈E,lo≤d.1∧d.1<hi
theorem Inn.nil (lo hi:Nat):Inn lo hi []:=⟨List.nodup_nil,fun d h=>by cases h⟩
theorem Inn.app {lo mid hi:Nat} {A B:Dgs} (ha:Inn lo mid A) (hb:Inn mid hi B) (h1:lo≤mid) (h2:mid≤hi):Inn lo hi (A++B):=by
 refine⟨List.nodup_append.2 ⟨ha.1,hb.1,fun a hA b hB e=>?_⟩,fun d hd=>?_⟩
 ·have:=ha.2 a hA
  have:=hb.2 b hB;rw[e] at*;omega
 ·rcases List.mem_append.1 hd with h|h
  ·have:=ha.2 d h;omega
  ·have:=hb.2 d h;omega
theorem Inn.mono {lo hi lo' hi':Nat} {A:Dgs} (ha:Inn lo hi A) (h1:lo'≤lo) (h2:hi≤hi'):Inn lo' hi' A:=⟨ha.1,fun d hd=>by have:=ha.2 d hd;omega⟩
theorem Inn.one (i c:Nat):Inn i (i+1) [(i,c)]:=⟨by simp,fun d hd=>by simp at hd;subst hd;simp only;omega⟩
theorem stG_inn (op:Int) (i:Nat) (lp r:Bool):Inn i (i+1) (stG2 op i lp (stG1 i r [])):=by
 unfold stG2 stG1
 split<;>split
 ·exact Inn.one i 8
 ·refine⟨by simp,fun d hd=>?_⟩
  simp at hd
  rcases hd with rfl|rfl<;>exact⟨Nat.le_refl _,Nat.lt_succ_self _⟩
 ·exact Inn.nil _ _
 ·exact Inn.one i 10
theorem stmS_inn:∀ (m:Bool) (t:Fo) (i:Nat) (lp r:Bool),Inn i (i+t.size) (stmS m t i lp r [])
 |true,.nil,i,_,_=>Inn.nil _ _
 |false,.nil,i,_,_=>Inn.nil _ _
 |true,.cons x k n,i,lp,r=>by
  simp only[stmS,Fo.size];rw[stmS_app];refine Inn.app (mid:=i+1+k.size) ?_ ((stmS_inn true n (i+1+k.size) lp r).mono (Nat.le_refl _) (by omega)) (by omega) (by omega);split
  ·exact (stmS_inn false k (i+1) lp true).mono (by omega) (Nat.le_refl _)
  ·exact Inn.nil _ _
 |false,.cons x k n,i,lp,r=>by
  simp only[stmS,Fo.size];rw[stmS_app];refine Inn.app (mid:=i+1+k.size) ?_ ((stmS_inn false n (i+1+k.size) lp _).mono (Nat.le_refl _) (by omega)) (by omega) (by omega);have h0:=stG_inn x.op i lp r;generalize stG2 x.op i lp (stG1 i r [])=E at*;split
  ·rw[stmS_app]
   exact Inn.app h0 (stmS_inn true k (i+1) lp true) (by omega) (by omega)
  ·split
   ·rw[stmS_app]
    exact Inn.app h0 (stmS_inn true k (i+1) true true) (by omega) (by omega)
   ·exact h0.mono (Nat.le_refl _) (by omega)
theorem argG_inn (p:List Nd) (lim:Int):∀ (c j:Nat),Inn j (j+c) (argG p lim c j [])
 |0,_=>Inn.nil _ _
 |c+1,j=>by
  simp only[argG];rw[argG_app];refine Inn.app (mid:=j+1) ?_ ((argG_inn p lim c (j+1)).mono (Nat.le_refl _) (by omega)) (by omega) (by omega);split
  ·exact Inn.one j 9
  ·exact Inn.nil _ _
theorem unitsG_inn (p:List Nd) (len w:Int):∀ (t:Fo) (i:Nat) (bit:Int),Inn i (i+t.size) (unitsG p len w t i bit [])
 | .nil,_,_=>Inn.nil _ _
 | .cons x k n,i,bit=>by
   simp only[unitsG,Fo.size];split
   ·exact Inn.nil _ _
   ·split
    ·exact (unitsG_inn p len w n _ _).mono (by omega) (by omega)
    ·rw[unitsG_app]
     refine Inn.app (mid:=i+1) ?_ ((unitsG_inn p len w n _ _).mono (by omega) (by omega)) (by omega) (by omega);split
     ·exact Inn.one i 7
     ·exact Inn.nil _ _
theorem stmS_code:∀ (m:Bool) (t:Fo) (i:Nat) (lp r:Bool),∀ d∈stmS m t i lp r [],d.2=8∨d.2=10
 |true,.nil,i,_,_=>fun d h=>by cases h
 |false,.nil,i,_,_=>fun d h=>by cases h
 |true,.cons x k n,i,lp,r=>by
  intro d hd;simp only[stmS] at hd;rw[stmS_app] at hd
  rcases List.mem_append.1 hd with h|h
  ·split at h
   ·exact stmS_code false k (i+1) lp true d h
   ·cases h
  ·exact stmS_code true n _ lp r d h
 |false,.cons x k n,i,lp,r=>by
  intro d hd;simp only[stmS] at hd;rw[stmS_app] at hd
  have h0:∀ d∈stG2 x.op i lp (stG1 i r []),d.2=8∨d.2=10:=by
   unfold stG2 stG1
   split<;>split<;>intro d hd<;>simp at hd
   ·exact .inl (by rw[hd])
   ·rcases hd with rfl|rfl
    ·exact .inr rfl
    ·exact .inl rfl
   ·exact .inr (by rw[hd])
  generalize stG2 x.op i lp (stG1 i r [])=E at*
  rcases List.mem_append.1 hd with h|h
  ·split at h
   ·rw[stmS_app] at h
    rcases List.mem_append.1 h with h|h
    ·exact h0 d h
    ·exact stmS_code true k _ lp true d h
   ·split at h
    ·rw[stmS_app] at h
     rcases List.mem_append.1 h with h|h
     ·exact h0 d h
     ·exact stmS_code true k _ true true d h
    ·exact h0 d h
  ·exact stmS_code false n _ lp _ d h
theorem argG_code (p:List Nd) (lim:Int):∀ (c j:Nat),∀ d∈argG p lim c j [],d.2=9
 |0,_=>fun d h=>by cases h
 |c+1,j=>by
  intro d hd;simp only[argG] at hd;rw[argG_app] at hd
  rcases List.mem_append.1 hd with h|h
  ·split at h
   ·simp at h;rw[h]
   ·cases h
  ·exact argG_code p lim c _ d h
theorem unitsG_code (p:List Nd) (len w:Int):∀ (t:Fo) (i:Nat) (bit:Int),∀ d∈unitsG p len w t i bit [],d.2=7∧d.1∈t.starts i
 | .nil,_,_=>fun d h=>by cases h
 | .cons x k n,i,bit=>by
   intro d hd;simp only[unitsG] at hd;simp only[Fo.starts,List.mem_cons];split at hd
   ·cases hd
   ·split at hd
    ·have:=unitsG_code p len w n _ _ d hd
     exact⟨this.1,.inr this.2⟩
    ·rw[unitsG_app] at hd
     rcases List.mem_append.1 hd with h|h
     ·split at h
      ·simp at h;rw[h];exact⟨rfl,.inl rfl⟩
      ·cases h
     ·have:=unitsG_code p len w n _ _ d h
      exact⟨this.1,.inr this.2⟩
end Go.Proofs.YtphdhedhhlfepaaGreatDoor
