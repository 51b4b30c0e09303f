import Derived.Test.YtegjgpldfgjoiaaGreatDoorCnB30
import Derived.Test.YtegjgpldfgjoiaaGreatDoorCnB13
import Derived.Test.YtegjgpldfgjoiaaGreatDoorCnB36
set_option linter.unusedSimpArgs false
set_option linter.unusedVariables false
namespace Go.Proofs.YtegjgpldfgjoiaaGreatDoor
open Go Ab
set_option maxRecDepth 100000
set_option maxHeartbeats 4000000
abbrev sI (o:Option Nat):V:=.s (.int .i64 (match o with|some e=>(e:Int)|none=> -1))
def kOK (k:Int):Bool:=decide (k=110)||decide (k=115)||decide (k=105)||decide (k=101)||decide (k=116)||decide (k=100)||decide (k=68)||decide (k=83)||decide (k=70)||decide (k=73)||decide (k=80)
theorem CQ {k:Int} (h:kOK k=true):Bk k=fv k/\k≠120:=by
 unfold kOK at h;simp only[Bool.or_eq_true,decide_eq_true_eq] at h
 rcases h with (((((((((rfl|rfl)|rfl)|rfl)|rfl)|rfl)|rfl)|rfl)|rfl)|rfl)|rfl<;>exact⟨by decide,by decide⟩
def opsL:List Int:=[10,11,12,13,14,15,16,17,18,19,20,21,30,31,32,33,34,35,36,37,38,39,40,41,42,50,51,60,61,62,63,64,65,66,67,68,69,70,71,72,73,74,75,76,77,78,79,80,81,82,83,84,85,86,87,88]
theorem x5:∀ op∈opsL,ld op=((op,(cq op).1,(cq op).2),true):=by decide+kernel
theorem Ao:∀ op∈opsL,((cq op).2.all fun c=>kOK (c.toNat:Int))=true:=by decide+kernel
theorem vA {c op:Int} (h:dI c op=true):op∈opsL\/op=1\/op=2\/op=3\/op=5\/op=6\/op=7:=by
 have h1:(10<=op/\op<=21)\/(30<=op/\op<=42)\/op=50\/op=51\/(60<=op/\op<=88)\/op=1\/op=2\/op=3\/op=5\/op=6\/op=7:=by
  unfold dI at h;split at h
  ·simp at h;omega
  split at h
  ·simp at h;omega
  split at h
  ·simp[fu,cQ] at h;omega
  split at h
  ·simp at h;omega
  split at h
  ·simp[cQ] at h;omega
  split at h
  ·simp[cQ] at h;omega
  split at h
  ·simp at h;omega
  split at h
  ·simp[cO] at h;omega
  split at h
  ·simp at h;omega
  ·cases h
 by_cases h2:op=1\/op=2\/op=3\/op=5\/op=6\/op=7
 ·exact .inr h2
 ·left
  have key:∀ n:Nat,n<=88->((10<=n/\n<=21)\/(30<=n/\n<=42)\/n=50\/n=51\/(60<=n/\n<=88))->(n:Int)∈opsL:=by decide+kernel
  obtain⟨n,rfl⟩:=Int.eq_ofNat_of_zero_le (by omega:0<=op);exact key n (by omega) (by omega)
theorem sZ {c op kids:Int} (h:dI c op=true):(cX op kids).2=(aD op kids).2/\((aD op kids).2=true->(cX op kids).1=(aD op kids).1):=by
 rcases vA h with h|h
 ·have h1:=x5 op h
  unfold cX aD;rw[h1]
  have hn: ¬(op=1\/op=2\/op=3\/op=6\/op=7)/\ ¬op=5:=by
   have key:∀ o∈opsL,¬(o=1\/o=2\/o=3\/o=6\/o=7)/\ ¬o=5:=by decide+kernel
   exact key op h
  rw[if_neg hn.1,if_neg hn.2,if_neg hn.2];by_cases h33:op=33
  ·subst h33
   rw[if_neg (by simp),if_pos rfl];by_cases h0:kids=1
   ·subst h0;exact⟨rfl,fun _=>rfl⟩
   ·rw[if_neg (fun h=>h0 h.2)]
    by_cases hz:kids=0
    ·subst hz;exact⟨by decide+kernel,fun _=>by decide+kernel⟩
    ·have:(kids<0\/1<kids):=by omega
     rw[if_pos this];refine⟨?_,fun h=>by cases h⟩;simp only[Bool.true_and];rw[show (cq 33).2=[] by decide+kernel];simp;omega
  ·by_cases h31:op=31/\kids=3
   ·rw[if_pos h31,if_neg h33,if_pos h31];exact⟨rfl,fun _=>rfl⟩
   ·rw[if_neg h31,if_neg (fun h=>h33 h.1),if_neg h33,if_neg h31];exact⟨by simp,fun _=>rfl⟩
 ·unfold cX aD
  rcases h with rfl|rfl|rfl|rfl|rfl|rfl
  all_goals
   first
    |(rw[if_neg (by decide),if_pos rfl,if_pos rfl];exact⟨rfl,fun _=>rfl⟩)
    |(rw[if_pos (by decide),if_neg (by decide),if_neg (by decide),if_neg (fun h=>absurd h.1 (by decide))]
      rw[show (cq _).2=[] by decide+kernel];refine⟨?_,fun _=>rfl⟩
      simp;omega)
theorem wm {c op kids:Int} (h:dI c op=true) (hk:(aD op kids).2=true):∀ b∈(aD op kids).1,kOK (b.toNat:Int)=true:=by
 have he7:∀ n:Nat,∀ b∈e7.take n,kOK (b.toNat:Int)=true:=fun n b hb=>by
  have:=List.mem_of_mem_take hb
  revert this;revert b;intro b hb this
  unfold e7 at this;simp at this;subst this;rfl
 unfold aD;split
 ·split
  ·intro b hb;simp at hb
  ·exact he7 _
 ·split
  ·split
   ·intro b hb;simp at hb
   ·exact he7 _
  ·split
   ·intro b hb;simp at hb;rcases hb with rfl|rfl<;>rfl
   ·rename_i h5 h33 h31
    rcases vA h with h|h
    ·exact fun b hb=>List.all_eq_true.1 (Ao op h) b hb
    ·rcases h with rfl|rfl|rfl|rfl|rfl|rfl
     all_goals
      first
       |exact absurd rfl h5
       |(rw[show (cq _).2=[] by decide+kernel];intro b hb;simp at hb)
theorem Ar {x:Nd} {k:Int} (h:k≠115):bc x 120=bc x k:=by
 unfold bc;simp[h]
def wfS (p:List Nd):Prop:=∀ x∈p,x.str.length<=4398046511104
theorem BT {p:List Nd} (h:wfS p) (i:Nat):(p.getD i dN).str.length<=4398046511104:=by
 rw[List.getD_eq_getElem?_getD]
 cases e:p[i]? with
 |none=>simp[dN]
 |some x=>exact h x (List.mem_of_getElem? e)
def Ev (p:List Nd) (f:Nat):Prop:=∀ (i:Nat) (k d:Int),d=33-(f:Int)->i<p.length->k≠115->k≠120->dI k (p.getD i dN).op=true->FC Tryz.prog 88 [ae p,nI i,n8 120,nI d] 0 [] (sI (elemF p f i k)) 0 []
def vD (p:List Nd) (f:Nat):Prop:=∀ (i:Nat) (k d:Int),d=33-(f:Int)->i<=p.length->kOK k=true->FC Tryz.prog 88 [ae p,nI i,n8 k,nI d] 0 [] (sI (b_ p (decide (1<=f)) (elemF p f) (elemF p (f-1)) k i)) 0 []
theorem xy (p:List Nd) (i:Nat) (k d:Int) (hd:32<d):FC Tryz.prog 88 [ae p,nI i,n8 k,nI d] 0 [] (sI none) 0 []:=by
 refine FC.walk (by kernel_rfl) Tryz.func88 rfl rfl ?_
 repeat'(first|exact y0|refine y1 ?_|refine y2 ?_ ?_|(refine y8 ?_ ?_<;>intro h<;>try exact y6)|refine Fin.int (.inl rfl) rfl ?_|refine y3 ?_|refine y7 ?_ ?_|refine y4 ?_|(refine y9 ?_ ?_<;>intro h)|exact y5|fail)
theorem xx (p:List Nd) (i:Nat) (k d:Int) (hi:p.length<=i):FC Tryz.prog 88 [ae p,nI i,n8 k,nI d] 0 [] (sI none) 0 []:=by
 refine FC.walk (by kernel_rfl) Tryz.func88 rfl rfl ?_
 repeat'(first|exact y0|refine y1 ?_|refine y2 ?_ ?_|(refine y8 ?_ ?_<;>intro h<;>try exact y6)|refine Fin.int (.inl rfl) rfl ?_|refine y3 ?_|refine y7 ?_ ?_|refine y4 ?_|(refine y9 ?_ ?_<;>intro h)|exact y5|fail)
theorem AI (p:List Nd) (hp:p.length<=2048) (hw:wfS p) (f:Nat) (hf:f<=32) (hc:vD p f) (i:Nat) (k c d:Int) (hd:d=33-((f:Int)+1)) (hi:i<p.length) (hk:(c=120/\k≠115/\dI k (p.getD i dN).op=true)\/(c=k/\k≠120/\Bk k=false)):
 FC Tryz.prog 88 [ae p,nI i,n8 c,nI d] 0 [] (sI (elemF p (f+1) i k)) 0 []:=by
 rw[cZ]
 have hget:p[i]? =some (p.getD i dN):=by simp[List.getD_eq_getElem?_getD,hi]
 unfold elemS;rw[hget];simp only
 have hblk:Bk c=false:=by
  rcases hk with ⟨rfl,_⟩|⟨rfl,_,h⟩
  ·rfl
  ·exact h
 have hb:=Bj c;rw[hblk] at hb;have hkc:=zj (p.getD i dN).op (p.getD i dN).kids;have hfc:=wL (p.getD i dN) c (BT hw i);have hpc:=sN c (p.getD i dN).op
 have hfk:bc (p.getD i dN) c=bc (p.getD i dN) k:=by
  rcases hk with ⟨rfl,h,_⟩|⟨rfl,_⟩
  ·exact Ar h
  ·rfl
 rw[hfk] at hfc;have hks:=sZ (c:=k) (op:=(p.getD i dN).op) (kids:=(p.getD i dN).kids);have hko:=wm (c:=k) (op:=(p.getD i dN).op) (kids:=(p.getD i dN).kids);generalize cX (p.getD i dN).op (p.getD i dN).kids=kb at*;obtain⟨ks,ok⟩:=kb;simp only at hkc hks;refine FC.walk (by kernel_rfl) Tryz.func88 rfl rfl ?_
 cases hA:dI k (p.getD i dN).op with
 |false=>
  rw[if_neg (by simp)]
  rcases hk with ⟨_,_,h⟩|⟨rfl,h120,_⟩
  ·rw[hA] at h;cases h
  ·rw[hA] at hpc
   cases ok
   all_goals
    repeat'(first|exact y0|refine y1 ?_|refine y2 ?_ ?_|(refine y8 ?_ ?_<;>intro h<;>try(exact y6))|(refine wC ?_;first|refine wF 148 (bo hb ?_)|refine wF 149 (pu hkc ?_)|refine wF 87 (bo hpc ?_)|refine wF 150 (bo hfc ?_))|refine Fin.int (.inl rfl) rfl ?_|refine y3 ?_|refine y7 ?_ ?_|refine y4 ?_|(refine y9 ?_ ?_<;>intro h)|exact y5|fail)
 |true=>
  obtain⟨e1,e2⟩:=hks hA
  have hpc2:c=k->FC Tryz.prog 87 [n8 c,nI (p.getD i dN).op] 0 [] (bV true) 0 []:=fun h=>by rw[h,hA] at hpc;rw[h];exact hpc
  clear hpc;cases ok
  ·rw[if_neg (fun h=>by rw[h.2.2] at e1;cases e1)]
   rcases hk with ⟨rfl,h1,_⟩|⟨rfl,h120,_⟩
   all_goals
    repeat'(first|exact y0|refine y1 ?_|refine y2 ?_ ?_|(refine y8 ?_ ?_<;>intro h<;>try(exact y6))|(refine wC ?_;first|refine wF 148 (bo hb ?_)|refine wF 149 (pu hkc ?_)|refine wF 87 (bo ((hpc2 rfl)) ?_)|refine wF 150 (bo hfc ?_))|refine Fin.int (.inl rfl) rfl ?_|refine y3 ?_|refine y7 ?_ ?_|refine y4 ?_|(refine y9 ?_ ?_<;>intro h)|exact y5|fail)
  ·have e3:=e2 e1.symm
   cases hF:bc (p.getD i dN) k<;>rw[hF] at hfc
   ·rw[if_neg (by simp)]
    rcases hk with ⟨rfl,h1,_⟩|⟨rfl,h120,_⟩
    all_goals
     repeat'(first|exact y0|refine y1 ?_|refine y2 ?_ ?_|(refine y8 ?_ ?_<;>intro h<;>try(exact y6))|(refine wC ?_;first|refine wF 148 (bo hb ?_)|refine wF 149 (pu hkc ?_)|refine wF 87 (bo ((hpc2 rfl)) ?_)|refine wF 150 (bo hfc ?_))|refine Fin.int (.inl rfl) rfl ?_|refine y3 ?_|refine y7 ?_ ?_|refine y4 ?_|(refine y9 ?_ ?_<;>intro h)|exact y5|fail)
   ·rw[if_pos ⟨rfl,rfl,e1.symm⟩,<-e3]
    have hkk:∀ b∈ks,kOK (b.toNat:Int)=true:=by rw[e3];exact hko hA e1.symm
    have hlt:i<p.length:=hi
    rcases hk with ⟨rfl,h1,_⟩|⟨rfl,h120,_⟩
    all_goals
     repeat'(first|exact y0|refine y1 ?_|refine y2 ?_ ?_|(refine y8 ?_ ?_<;>intro h<;>try(exact y6))|(refine wC ?_;first|refine wF 148 (bo hb ?_)|refine wF 149 (pu hkc ?_)|refine wF 87 (bo ((hpc2 rfl)) ?_)|refine wF 150 (bo hfc ?_))|refine y3 ?_|refine y7 ?_ ?_|refine y4 ?_|(refine y9 ?_ ?_<;>intro h)|exact y5|fail)
     refine Ex.inv (σ:=Nat×Nat) (fun x=>[(13,nI x.1),(1,nI x.2)]) (fun x=>[(0,some {cells:=ndC (p.getD i dN),ty:=49})]) (fun x=>(x.1<=ks.length/\i+1+x.1<=x.2)/\x.2<=p.length/\cN (b_ p (decide (1<=f)) (elemF p f) (elemF p (f-1))) ks (i+1)=cN (b_ p (decide (1<=f)) (elemF p f) (elemF p (f-1))) (ks.drop x.1) x.2) (fun x=>ks.length-x.1) (0,i+1) rfl (fun _=>rfl) ⟨⟨Nat.zero_le _,Nat.le_refl _⟩,hlt,rfl⟩ ⟨VLe.refl _,VLe.refl _,trivial⟩ ⟨rfl,trivial⟩ ?_;rintro⟨j,e⟩ ⟨⟨h1,h0⟩,h2,h3⟩;simp only at h1 h2 h3 h0 |-;by_cases hj:j<ks.length
     ·rw[List.drop_eq_getElem_cons hj] at h3
      have hkg:ks[j]=ks.getD j 0:=by simp[List.getD_eq_getElem?_getD,hj]
      rw[hkg] at h3;simp only[cN] at h3;have hch:=hc e ((ks.getD j 0).toNat:Int) (d+1) (by omega) h2 (hkk _ (by rw[<-hkg];exact List.getElem_mem hj))
      have hle:=fun e' (h:b_ p (decide (1<=f)) (elemF p f) (elemF p (f-1)) ((ks.getD j 0).toNat:Int) e=some e')=>jM (fun i k e h=>bR h) (fun i k e h=>bR h) h
      generalize b_ p (decide (1<=f)) (elemF p f) (elemF p (f-1)) ((ks.getD j 0).toNat:Int) e=r at*
      cases r with
      |none=>
       simp only at h3;rw[h3]
       repeat'(first|exact y0|refine y1 ?_|refine y2 ?_ ?_|(refine y8 ?_ ?_<;>intro h<;>try(exact y6))|(refine wC ?_;first|refine wF 88 (pu hch ?_))|refine Fin.int (.inl rfl) rfl ?_|refine y3 ?_|refine y7 ?_ ?_|refine y4 ?_|(refine y9 ?_ ?_<;>intro h)|exact y5|fail)
      |some e'=>
       simp only at h3;have:=hle e' rfl
       repeat'(first|exact y0|refine y1 ?_|refine y2 ?_ ?_|(refine y8 ?_ ?_<;>intro h<;>try(exact y6))|(refine wC ?_;first|refine wF 88 (pu hch ?_))|refine LoopR.same (j+1,e') ⟨⟨?_,?_⟩,?_,h3⟩ ?_ rfl ⟨VLe.refl _,VLe.refl _,trivial⟩ ⟨rfl,trivial⟩ rfl rfl (by decide)|refine y3 ?_|refine y7 ?_ ?_|refine y4 ?_|(refine y9 ?_ ?_<;>intro h)|exact y5|fail)
     ·
      have:ks.drop j=[]:=by simp;omega
      rw[this] at h3;simp only[cN] at h3;rw[h3]
      repeat'(first|exact y0|refine y1 ?_|refine y2 ?_ ?_|(refine y8 ?_ ?_<;>intro h<;>try(exact y6))|refine Fin.int (.inl rfl) rfl ?_|refine y3 ?_|refine y7 ?_ ?_|refine y4 ?_|(refine y9 ?_ ?_<;>intro h)|exact y5|fail)
theorem fA {p:List Nd} {f i:Nat} {k:Int} (h:i<p.length->dI k (p.getD i dN).op=false):elemF p f i k=none:=by
 have key:∀ ok E0 E1,elemS p ok E0 E1 i k=none:=by
  intro ok E0 E1;unfold elemS;split
  ·rfl
  ·rename_i x hx
   have hi:i<p.length:=by
    rcases Nat.lt_or_ge i p.length with h|h
    ·exact h
    ·simp[List.getElem?_eq_none h] at hx
   have hx2:p.getD i dN=x:=by rw[List.getD_eq_getElem?_getD,hx];rfl
   rw[if_neg];rw[<-hx2,h hi];simp
 match f with
 |0=>rfl
 |1=>exact key _ _ _
 |f+2=>exact key _ _ _
theorem vo (p:List Nd) (hp:p.length<=2048) (hw:wfS p) (f:Nat) (hf:f<=33) (h1:1<=f->Ev p (f-1)) (h2:1<=f->vD p (f-1)):vD p f:=by
 intro i k d hd hi hk;obtain⟨hbk,h120⟩:=CQ hk;unfold b_
 rcases Nat.eq_zero_or_pos f with rfl|hpos
 ·have:∀ o,o=none->FC Tryz.prog 88 [ae p,nI i,n8 k,nI d] 0 [] (sI o) 0 []:=fun o h=>by rw[h];exact xy p i k d (by omega)
  refine this _ ?_;split
  ·split
   ·rfl
   ·rw[if_neg (by simp)]
  ·rfl
 rcases Nat.lt_or_ge i p.length with hlt|hge
 ·have hget:p[i]? =some (p.getD i dN):=by simp[List.getD_eq_getElem?_getD,hlt]
  cases hB:fv k with
  |false=>
   simp only[Bool.false_eq_true,if_false]
   obtain⟨f',rfl⟩:∃ f',f=f'+1:=⟨f-1,by omega⟩
   exact AI p hp hw f' (by omega) (h2 (by omega)) i k k d (by omega) hlt (.inr ⟨rfl,h120,by rw[hbk];exact hB⟩)
  |true=>
   rw[hB] at hbk;have hb:=Bj k;rw[hbk] at hb;simp only[if_true];rw[hget];simp only;have hpos:1<=f:=hpos;rw[decide_eq_true hpos];generalize hT:(if true=true/\(p.getD i dN).op=4/\(p.getD i dN).int=0/\(p.getD i dN).str=[]/\0<=(p.getD i dN).kids then bI (fun e=>elemF p (f-1) e k) (p.getD i dN).kids.toNat (i+1) else none)=T
   have hnone:(¬((p.getD i dN).op=4/\(p.getD i dN).int=0/\(p.getD i dN).str=[]/\0<=(p.getD i dN).kids)\/(p.length:Int)<(p.getD i dN).kids)->T=none:=fun h=>by
    rw[<-hT]
    rcases h with h|h
    ·rw[if_neg (fun h'=>h h'.2)]
    ·split
     ·rename_i hc
      cases hbf:bI (fun e=>elemF p (f-1) e k) (p.getD i dN).kids.toNat (i+1) with
      |none=>rfl
      |some e=>
       have:=jQ (N:=p.length) (fun i e h=>bR h) hlt hbf;omega
     ·rfl
   refine FC.walk (by kernel_rfl) Tryz.func88 rfl rfl ?_
   repeat'(first|exact y0|refine y1 ?_|refine y2 ?_ ?_|(refine y8 ?_ ?_<;>intro h<;>try(exact y6))|(refine wC ?_;first|refine wF 148 (bo hb ?_))|refine Fin.int (.inl rfl) rfl ?_|refine y3 ?_|refine y7 ?_ ?_|refine y4 ?_|(refine y9 ?_ ?_<;>intro h)|exact y5|fail)
   all_goals try (rw[hnone (by first|(left;intro h;simp_all;done)|(right;omega)|(left;intro h;omega))])
   have hk0:0<=(p.getD i dN).kids:=by omega
   have hx:(p.getD i dN).str=[]:=‹_›;rw[if_pos ⟨rfl,by assumption,by assumption,hx,hk0⟩] at hT;clear hnone;generalize hK:(p.getD i dN).kids.toNat=K at*
   have hKi:(p.getD i dN).kids=(K:Int):=by omega
   refine Ex.inv (σ:=Nat×Nat) (fun x=>[(10,nI x.1),(1,nI x.2)]) (fun x=>[(0,some {cells:=ndC (p.getD i dN),ty:=49})]) (fun x=>(x.1<=K/\i+1+x.1<=x.2)/\x.2<=p.length/\T=bI (fun e=>elemF p (f-1) e k) (K-x.1) x.2) (fun x=>K-x.1) (0,i+1) rfl (fun _=>rfl) ⟨⟨Nat.zero_le _,Nat.le_refl _⟩,hlt,hT.symm⟩ ⟨VLe.refl _,VLe.refl _,trivial⟩ ⟨rfl,trivial⟩ ?_;rintro⟨j,e⟩ ⟨⟨g1,g0⟩,g2,g3⟩;simp only at g1 g2 g3 g0 |-;by_cases hj:j<K
   ·rw[show K-j=(K-(j+1))+1 by omega] at g3
    simp only[bI] at g3;have hpc:=sN k (p.getD e dN).op;by_cases hel:e<p.length
    ·cases hA:dI k (p.getD e dN).op<;>rw[hA] at hpc
     ·rw[fA (fun _=>hA)] at g3
      simp only at g3;rw[g3]
      repeat'(first|exact y0|refine y1 ?_|refine y2 ?_ ?_|(refine y8 ?_ ?_<;>intro h<;>try(exact y6))|(refine wC ?_;first|refine wF 87 (bo hpc ?_))|refine Fin.int (.inl rfl) rfl ?_|refine y3 ?_|refine y7 ?_ ?_|refine y4 ?_|(refine y9 ?_ ?_<;>intro h)|exact y5|fail)
     ·have h115:k≠115:=fun h=>by rw[h] at hB;revert hB;decide
      have hch:=h1 hpos e k (d+1) (by omega) hel h115 h120 hA
      have hle:=fun e' (h:elemF p (f-1) e k=some e')=>bR h
      generalize elemF p (f-1) e k=r at*
      cases r with
      |none=>
       simp only at g3;rw[g3]
       repeat'(first|exact y0|refine y1 ?_|refine y2 ?_ ?_|(refine y8 ?_ ?_<;>intro h<;>try(exact y6))|(refine wC ?_;first|refine wF 87 (bo hpc ?_)|refine wF 88 (pu hch ?_))|refine Fin.int (.inl rfl) rfl ?_|refine y3 ?_|refine y7 ?_ ?_|refine y4 ?_|(refine y9 ?_ ?_<;>intro h)|exact y5|fail)
      |some e'=>
       simp only at g3;have:=hle e' rfl
       repeat'(first|exact y0|refine y1 ?_|refine y2 ?_ ?_|(refine y8 ?_ ?_<;>intro h<;>try(exact y6))|(refine wC ?_;first|refine wF 87 (bo hpc ?_)|refine wF 88 (pu hch ?_))|refine LoopR.same (j+1,e') ⟨⟨?_,?_⟩,?_,g3⟩ ?_ rfl ⟨VLe.refl _,VLe.refl _,trivial⟩ ⟨rfl,trivial⟩ rfl rfl (by decide)|refine y3 ?_|refine y7 ?_ ?_|refine y4 ?_|(refine y9 ?_ ?_<;>intro h)|exact y5|fail)
    ·rw[fA (fun h=>absurd h hel)] at g3
     simp only at g3;rw[g3]
     repeat'(first|exact y0|refine y1 ?_|refine y2 ?_ ?_|(refine y8 ?_ ?_<;>intro h<;>try(exact y6))|(refine wC ?_;first|refine wF 87 (bo hpc ?_))|refine Fin.int (.inl rfl) rfl ?_|refine y3 ?_|refine y7 ?_ ?_|refine y4 ?_|(refine y9 ?_ ?_<;>intro h)|exact y5|fail)
   ·
    rw[show K-j=0 by omega] at g3;simp only[bI] at g3;rw[g3]
    repeat'(first|exact y0|refine y1 ?_|refine y2 ?_ ?_|(refine y8 ?_ ?_<;>intro h<;>try(exact y6))|refine Fin.int (.inl rfl) rfl ?_|refine y3 ?_|refine y7 ?_ ?_|refine y4 ?_|(refine y9 ?_ ?_<;>intro h)|exact y5|fail)
 ·have:∀ o,o=none->FC Tryz.prog 88 [ae p,nI i,n8 k,nI d] 0 [] (sI o) 0 []:=fun o h=>by rw[h];exact xx p i k d hge
  refine this _ ?_
  have hget:p[i]? =none:=by simp;omega
  rw[hget];split
  ·rfl
  ·exact fA (fun h=>by omega)
theorem pJ (p:List Nd) (hp:p.length<=2048) (hw:wfS p):∀ f,f<=33->Ev p f/\vD p f
 |0,_=>⟨fun i k d hd hi _ _ _=>xy p i 120 d (by omega),vo p hp hw 0 (by omega) (fun h=>by omega) (fun h=>by omega)⟩
 |f+1,hf=>by
  have ih:=pJ p hp hw f (by omega);exact⟨fun i k d hd hi h1 h2 h3=>AI p hp hw f (by omega) ih.2 i k 120 d (by omega) hi (.inl ⟨rfl,h1,h3⟩),vo p hp hw (f+1) hf (fun _=>ih.1) (fun _=>ih.2)⟩
theorem kR (p:List Nd) (hw:wfS p):FC Tryz.prog 47 [ae p] 0 [] (bV (bz p)) 0 []:=by
 unfold bz;refine FC.walk (by kernel_rfl) Tryz.func47 rfl rfl ?_;by_cases hp:p.length<=2048
 ·
  rw[decide_eq_true hp,Bool.true_and]
  repeat'(first|exact y0|refine y1 ?_|refine y2 ?_ ?_|(refine y8 ?_ ?_<;>intro h<;>try(exact y6))|refine Fin.bool (.inl rfl) rfl ?_|refine y3 ?_|refine y7 ?_ ?_|refine y4 ?_|(refine y9 ?_ ?_<;>intro h)|exact y5|fail)
  generalize hT:mA p (p.length+1) 0=T;refine Ex.inv (σ:=Nat×Nat) (fun x=>[(3,nI x.2)]) (fun x=>[]) (fun x=>x.1<=x.2/\x.2<=p.length/\T=mA p (p.length+1-x.1) x.2) (fun x=>p.length-x.2) (0,0) rfl (fun _=>rfl) ⟨Nat.le_refl _,Nat.zero_le _,hT.symm⟩ ⟨VLe.refl _,trivial⟩ trivial ?_;clear hT;rintro⟨j,i⟩ ⟨h1,h2,h3⟩;simp only at h1 h2 h3 |-;rw[show p.length+1-j=(p.length-j)+1 by omega] at h3;simp only[mA] at h3;by_cases hlt:i<p.length
  ·rw[if_pos hlt] at h3
   have hpc:=sN 68 (p.getD i dN).op
   cases hA:dI 68 (p.getD i dN).op<;>rw[hA] at hpc
   ·rw[fA (fun _=>hA)] at h3
    simp only at h3
    repeat'(first|exact y0|refine y1 ?_|refine y2 ?_ ?_|(refine y8 ?_ ?_<;>intro h<;>try(exact y6))|(refine wC ?_;first|refine wF 87 (bo hpc ?_))|refine Fin.bool (.inl rfl) rfl ?_|refine y3 ?_|refine y7 ?_ ?_|refine y4 ?_|(refine y9 ?_ ?_<;>intro h)|exact y5|fail)
    all_goals exact h3.symm
   ·have hch:=(pJ p hp hw 32 (by decide)).1 i 68 1 (by decide) hlt (by decide) (by decide) hA
    have hle:=fun e' (h:elemF p 32 i 68=some e')=>bR h
    generalize elemF p 32 i 68=r at*
    cases r with
    |none=>
     simp only at h3
     repeat'(first|exact y0|refine y1 ?_|refine y2 ?_ ?_|(refine y8 ?_ ?_<;>intro h<;>try(exact y6))|(refine wC ?_;first|refine wF 87 (bo hpc ?_)|refine wF 88 (pu hch ?_))|refine Fin.bool (.inl rfl) rfl ?_|refine y3 ?_|refine y7 ?_ ?_|refine y4 ?_|(refine y9 ?_ ?_<;>intro h)|exact y5|fail)
     all_goals exact h3.symm
    |some e'=>
     simp only at h3;have:=hle e' rfl
     repeat'(first|exact y0|refine y1 ?_|refine y2 ?_ ?_|(refine y8 ?_ ?_<;>intro h<;>try(exact y6))|(refine wC ?_;first|refine wF 87 (bo hpc ?_)|refine wF 88 (pu hch ?_))|refine Fin.bool (.inl rfl) rfl ?_|refine LoopR.same (j+1,e') ⟨?_,?_,?_⟩ ?_ rfl ⟨VLe.refl _,trivial⟩ trivial rfl rfl (by decide)|refine y3 ?_|refine y7 ?_ ?_|refine y4 ?_|(refine y9 ?_ ?_<;>intro h)|exact y5|fail)
     all_goals (rw[h3];congr 1;omega)
  ·
   rw[if_neg hlt] at h3
   repeat'(first|exact y0|refine y1 ?_|refine y2 ?_ ?_|(refine y8 ?_ ?_<;>intro h<;>try(exact y6))|refine Fin.bool (.inl rfl) rfl ?_|refine y3 ?_|refine y7 ?_ ?_|refine y4 ?_|(refine y9 ?_ ?_<;>intro h)|exact y5|fail)
   all_goals exact h3.symm
 ·
  rw[decide_eq_false hp,Bool.false_and]
  repeat'(first|exact y0|refine y1 ?_|refine y2 ?_ ?_|(refine y8 ?_ ?_<;>intro h<;>try(exact y6))|refine Fin.bool (.inl rfl) rfl ?_|refine y3 ?_|refine y7 ?_ ?_|refine y4 ?_|(refine y9 ?_ ?_<;>intro h)|exact y5|fail)
  all_goals rfl
set_option maxRecDepth 100000
set_option maxHeartbeats 4000000
abbrev ndB (g:Nat) (D:List Nd):Option Bl:=opB 49 (g+1) 4 (D.flatMap ndC)
theorem ga (r:List Nd):(r.flatMap ndC).all bD=true:=by
 induction r with
 |nil=>rfl
 |cons x r ih=>rw[List.flatMap_cons,List.all_append,ih];rfl
theorem gb {r:List Nd} (h:r≠[]):r.flatMap ndC≠[]:=by
 cases r with
 |nil=>exact absurd rfl h
 |cons x r=>simp[ndC]
structure PgOK (p:List Nd):Prop where
 v:bz p=true
 wf:∀ x∈p,x.str.length<=1000/\0<=x.int
theorem mN:bz []=true:=by decide
theorem C9 {B:Nat} {K:List (List Nd)} (h:∀ r∈K,OKr B r):∀ x∈K.flatten,x.str.length<=1000/\0<=x.int:=fun x hx=>by
 obtain⟨r,hr,hx⟩:=List.mem_flatten.1 hx;exact (h r hr).wf x hx
theorem vQ (l:List Int) (hl:l.length<=20000000000000) (B:Nat) (hBB:B<=200000000000) (hDE:ka l 2 B):∃ p,PgOK p/\FC Tryz.prog 14 [.s (chF l)] 0 [] (ae p) 0 []:=by
 obtain⟨m,i2,hm2,hi2,c2⟩:=am l hl 5 (by decide) (by decide) 0 (Nat.zero_le _);obtain⟨K,i3,hB,hi3,hK⟩:=FT l hl 2 B hDE (m+1) i2 hi2;have hKl:=vj hB;have hKf:=C9 hK;have hKn:=eA hK;have hKm:K.length*B<=5*B:=Nat.mul_le_mul_right _ (by omega)
 have hflen:K.flatten.length<=1000000000000:=by omega
 clear hKm hKn hBB
 have hw:wfS K.flatten:=fun x hx=>by have:=(hKf x hx).1;omega
 have hv:=kR K.flatten hw;have hv0:=kR [] (fun x hx=>by cases hx);rw[mN] at hv0;have hnew:=Eb l
 have hsz:(Tryz.prog.types[49]).size=4:=by kernel_rfl
 have hby:(Tryz.prog.types[49]).bytes=40:=by kernel_rfl
 refine⟨if bz K.flatten then K.flatten else [],?_,?_⟩
 ·split
  ·exact⟨by assumption,hKf⟩
  ·exact⟨mN,fun x hx=>by cases hx⟩
 refine FC.walk (by kernel_rfl) Tryz.func14 rfl rfl ?_
 repeat'(first|exact y0|refine y1 ?_|refine y2 ?_ ?_|(refine y8 ?_ ?_<;>intro h<;>try exact y6)|(refine wC ?_;first|(refine wF 16 ?_;refine CallG.me [] hnew rfl rfl ⟨VLe.refl _,trivial⟩ trivial rfl rfl rfl ?_)|refine wF 18 (cm c2 ?_))|refine y3 ?_|refine y7 ?_ ?_|refine y4 ?_|(refine y9 ?_ ?_<;>intro h)|exact y5|fail)
 all_goals try first
  |exact aa (by omega) (by omega)
 refine Ex.set 4 (.s (.row 1 2 0)) (VLe.s SLe.nilrow) rfl (Ex.upN (n':=3) (by omega) ?_)
 refine Ex.inv (σ:=Nat×Nat×List Nd) (fun s=>[(4,.s (.row 1 2 s.2.2.length)),(5,nI s.1)]) (fun s=>[(0,some {cells:=[chF l,.int .i64 (s.2.1:Int)],ty:=97}),(1,ndB 1 s.2.2)])
  (fun s=>s.1<=5/\∃ R,DcT l 2 s.1 s.2.1 R i3/\s.2.2++R.flatten=K.flatten/\(∀ r∈R,OKr B r)) (fun s=>s.1) (m+1,i2,[]) rfl (fun _=>rfl) ⟨by simp only;omega,K,hB,rfl,hK⟩ ⟨VLe.refl _,VLe.of_eq (congrArg nI (by push_cast;omega)),trivial⟩ ⟨rfl,trivial⟩ ?_
 rintro⟨n,j,D⟩ ⟨hn5,R,hR,hD,hRK⟩;simp only at hn5 hR hD hRK |-
 cases hR with
 |nil=>
  rw[List.flatten_nil,List.append_nil] at hD;rw[<-hD] at hv |-;clear hD hw hKf
  cases D with
  |nil=>
   rw[show (if bz []=true then ([]:List Nd) else [])=[] by split<;>rfl];refine Ex.set 4 (ae []) (VLe.s SLe.row0) rfl ?_
   repeat'(first|exact y0|refine y1 ?_|refine y2 ?_ ?_|(refine y8 ?_ ?_<;>intro h<;>try(exact y6))|(refine wC ?_;first|refine wF 47 (bo hv0 ?_))|exact ac (by omega) (by omega)|exact aa (by omega) (by omega)|refine Fin.le (.inl rfl) rfl (VLe.refl _) rfl|refine y3 ?_|refine y7 ?_ ?_|refine y4 ?_|(refine y9 ?_ ?_<;>intro h)|exact y5|fail)
  |cons d D=>
   cases hV:bz (d::D)<;>rw[hV] at hv
   all_goals simp only[Bool.false_eq_true,if_false,if_true]
   ·
    refine Ex.fz 4 (fun k=>ndC ((d::D).getD k dN)) 4 rfl rfl rfl rfl (fun _ _=>rfl) (fun k j s hk hs=>gK hk hs) rfl rfl ?_
    repeat'(first|exact y0|refine y1 ?_|refine y2 ?_ ?_|(refine y8 ?_ ?_<;>intro h<;>try(exact y6))|(refine wC ?_;first|refine wF 47 (bo hv ?_))|exact ac (by omega) (by omega)|exact aa (by omega) (by omega)|refine Fin.le (.inl rfl) rfl (VLe.s SLe.nil) rfl|refine y3 ?_|refine y7 ?_ ?_|refine y4 ?_|(refine y9 ?_ ?_<;>intro h)|exact y5|fail)
   ·
    refine Ex.fz 4 (fun k=>ndC ((d::D).getD k dN)) 4 rfl rfl rfl rfl (fun _ _=>rfl) (fun k j s hk hs=>gK hk hs) rfl rfl ?_
    repeat'(first|exact y0|refine y1 ?_|refine y2 ?_ ?_|(refine y8 ?_ ?_<;>intro h<;>try(exact y6))|(refine wC ?_;first|refine wF 47 (bo hv ?_))|exact ac (by omega) (by omega)|exact aa (by omega) (by omega)|refine Fin.le (.inl rfl) rfl (VLe.refl _) rfl|refine y3 ?_|refine y7 ?_ ?_|refine y4 ?_|(refine y9 ?_ ?_<;>intro h)|exact y5|fail)
 |stop c=>
  rw[List.flatten_nil,List.append_nil] at hD;rw[<-hD] at hv |-;clear hD hw hKf
  cases D with
  |nil=>
   rw[show (if bz []=true then ([]:List Nd) else [])=[] by split<;>rfl];refine Ex.set 4 (ae []) (VLe.s SLe.row0) rfl ?_
   repeat'(first|exact y0|refine y1 ?_|refine y2 ?_ ?_|(refine y8 ?_ ?_<;>intro h<;>try(exact y6))|(refine wC ?_;first|refine wF 46 (cm c ?_)|refine wF 47 (bo hv0 ?_))|exact ac (by omega) (by omega)|exact aa (by omega) (by omega)|refine Fin.le (.inl rfl) rfl (VLe.refl _) rfl|refine y3 ?_|refine y7 ?_ ?_|refine y4 ?_|(refine y9 ?_ ?_<;>intro h)|exact y5|fail)
  |cons d D=>
   cases hV:bz (d::D)<;>rw[hV] at hv
   all_goals simp only[Bool.false_eq_true,if_false,if_true]
   ·
    refine Ex.fz 4 (fun k=>ndC ((d::D).getD k dN)) 4 rfl rfl rfl rfl (fun _ _=>rfl) (fun k j s hk hs=>gK hk hs) rfl rfl ?_
    repeat'(first|exact y0|refine y1 ?_|refine y2 ?_ ?_|(refine y8 ?_ ?_<;>intro h<;>try(exact y6))|(refine wC ?_;first|refine wF 46 (cm c ?_)|refine wF 47 (bo hv ?_))|exact ac (by omega) (by omega)|exact aa (by omega) (by omega)|refine Fin.le (.inl rfl) rfl (VLe.s SLe.nil) rfl|refine y3 ?_|refine y7 ?_ ?_|refine y4 ?_|(refine y9 ?_ ?_<;>intro h)|exact y5|fail)
   ·
    refine Ex.fz 4 (fun k=>ndC ((d::D).getD k dN)) 4 rfl rfl rfl rfl (fun _ _=>rfl) (fun k j s hk hs=>gK hk hs) rfl rfl ?_
    repeat'(first|exact y0|refine y1 ?_|refine y2 ?_ ?_|(refine y8 ?_ ?_<;>intro h<;>try(exact y6))|(refine wC ?_;first|refine wF 46 (cm c ?_)|refine wF 47 (bo hv ?_))|exact ac (by omega) (by omega)|exact aa (by omega) (by omega)|refine Fin.le (.inl rfl) rfl (VLe.refl _) rfl|refine y3 ?_|refine y7 ?_ ?_|refine y4 ?_|(refine y9 ?_ ?_<;>intro h)|exact y5|fail)
 | @cons n _ j1 _ r' R' c cc2 hr t=>
   have ho:=hRK r' (List.mem_cons_self ..);have hrl:1<=r'.length:=List.length_pos_iff.2 hr;have hol:=ho.len
   have hDl:D.length+r'.length<=1000000000000:=by
    have:=congrArg List.length hD;rw[List.flatten_cons,List.length_append,List.length_append] at this;omega
   repeat'(first|exact y0|refine y1 ?_|refine y2 ?_ ?_|(refine y8 ?_ ?_<;>intro h<;>try(exact y6))|(refine wC ?_;first|refine wF 46 (cm c ?_)|refine wF 22 (cm cc2 ?_))|exact ac (by omega) (by omega)|exact aa (by omega) (by omega)|refine y3 ?_|refine y7 ?_ ?_|refine y4 ?_|(refine y9 ?_ ?_<;>intro h)|exact y5|fail)
   refine RegX.apr (i:=1) (g:=2) (m:=D.length) (w:=4) (cs:=D.flatMap ndC) (foot:=[]) (k:=r'.length) (add:=bQ (fun k=>ndC (r'.getD k dN)) r'.length) rfl rfl (by rw[bf]) rfl rfl rfl rfl rfl rfl rfl hsz (by decide) rfl ?_ hrl (by rw[an];exact gb hr) (by rw[an];exact ga _) (by rw[hby];omega) (by omega) rfl ?_
   ·trivial
   repeat'(first|exact y0|refine y1 ?_|refine y2 ?_ ?_|(refine y8 ?_ ?_<;>intro h<;>try(exact y6))|exact ac (by omega) (by omega)|exact aa (by omega) (by omega)|refine y3 ?_|refine y7 ?_ ?_|refine y4 ?_|(refine y9 ?_ ?_<;>intro h)|exact y5|fail)
   all_goals try first
    |exact aa (by push_cast;omega) (by push_cast;omega)
    |omega
   refine LoopR.move (n,j1,D++r') ⟨by simp only;omega,R',t,by simpa using hD,fun q hq=>hRK q (List.mem_cons_of_mem _ hq)⟩ (by simp only;omega) [0,3,4] rfl ?_ ?_ ?_
   ·repeat' (first|exact VLe.refl _|exact VLe.any _|exact True.intro|exact VLe.of_eq (congrArg nI (by push_cast;omega))|(refine VLe.of_eq (congrArg V.s (?_:S.row 3 4 _=S.row 3 4 _));simp;done)|refine⟨?_,?_⟩)
   ·refine⟨rfl,MemP.op ?_ trivial⟩
    rw[List.flatMap_append,<-an r'];rfl
   ·unfold ndB;generalize List.flatMap _ _=cg;cases cg<;>rfl
theorem gI (l:List Int) (hl:l.length<=20000000000000):∃ p,PgOK p/\FC Tryz.prog 14 [.s (chF l)] 0 [] (ae p) 0 []:=vQ l hl 200000000000 (Nat.le_refl _) (FR l hl)
end Go.Proofs.YtegjgpldfgjoiaaGreatDoor
