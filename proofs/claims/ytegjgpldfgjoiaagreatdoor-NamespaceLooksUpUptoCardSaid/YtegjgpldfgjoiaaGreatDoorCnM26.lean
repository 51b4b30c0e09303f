import Derived.Test.YtegjgpldfgjoiaaGreatDoorCnM25
import Derived.Test.YtegjgpldfgjoiaaGreatDoorCnM16
set_option linter.all false
namespace Go.Proofs.YtegjgpldfgjoiaaGreatDoor
open Go Ab
set_option maxRecDepth 100000
set_option maxHeartbeats 40000000
section
variable {k c op:Int}
abbrev vN (o:Option Nat):V:=.s (.int .i64 (match o with|some e=>(e:Int)|none=> -1))
def HZ (k:Int):Bool:=decide (k=110)||decide (k=115)||decide (k=105)||decide (k=101)||decide (k=116)||decide (k=100)||decide (k=68)||decide (k=83)||decide (k=70)||decide (k=73)||decide (k=80)
theorem Fj (h:HZ k=true):sx k=dh k/\k≠120:=by
 unfold HZ at h;simp only[Z1h,decide_eq_true_eq] at h
 rcases h with (((((((((rfl|rfl)|rfl)|rfl)|rfl)|rfl)|rfl)|rfl)|rfl)|rfl)|rfl<;>exact⟨ac,ac⟩
def opsL:List Int:=[10,11,12,13,14,15,16,17,18,19,20,21,30,31,32,33,34,35,36,37,38,39,40,41,42,50,51,60,61,62,63,64,65,66,67,68,69,70,71,72,73,74,75,76,77,78,79,80,81,82,83,84,85,86,87,88]
theorem Bj:∀ op∈opsL,nR op=((op,(cE op).1,(cE op).2),true):=by decide+kernel
theorem CA:∀ op∈opsL,((cE op).2.all λc=>HZ (c.toNat:Int))=true:=by decide+kernel
theorem nv (h:bn c op=true):op∈opsL\/op=1\/op=2\/op=3\/op=5\/op=6\/op=7:=by
 have h1:(10<=op/\op<=21)\/(30<=op/\op<=42)\/op=50\/op=51\/(60<=op/\op<=88)\/op=1\/op=2\/op=3\/op=5\/op=6\/op=7:=by
  unfold bn at h;split at h
  ·simp at h;omega
  split at h
  ·simp at h;omega
  split at h
  ·simp[fh,bN] at h;omega
  split at h
  ·simp at h;omega
  split at h
  ·simp[bN] at h;omega
  split at h
  ·simp[bN] at h;omega
  split at h
  ·simp at h;omega
  split at h
  ·simp[cx] at h;omega
  split at h
  ·simp at h;omega
  ·cases h
 by_cases h2:op=1\/op=2\/op=3\/op=5\/op=6\/op=7
 ·exact .inr h2
 ·left
  have key:∀ n:Nat,n<=88->((10<=n/\n<=21)\/(30<=n/\n<=42)\/n=50\/n=51\/(60<=n/\n<=88))->(n:Int)∈opsL:=by decide+kernel
  obtain⟨n,rfl⟩:=Z2a (aa:0<=op);exact key n aa aa
theorem wt {kids:Int} (h:bn c op=true):(eg op kids).2=(av op kids).2/\((av op kids).2=true->(eg op kids).1=(av op kids).1):=by
 rcases nv h with h|h
 ·have h1:=Bj op h
  unfold eg av;rw[h1]
  have hn: ¬(op=1\/op=2\/op=3\/op=6\/op=7)/\ ¬op=5:=by
   have key:∀ o∈opsL,¬(o=1\/o=2\/o=3\/o=6\/o=7)/\ ¬o=5:=by decide+kernel
   exact key op h
  rw[if_neg hn.1,if_neg hn.2,if_neg hn.2];by_cases h33:op=33
  ·subst h33
   rw[if_neg an,if_pos rfl];by_cases h0:kids=1
   ·subst h0;exact⟨rfl,λ_=>rfl⟩
   ·rw[if_neg (λh=>h0 h.2)]
    by_cases hz:kids=0
    ·subst hz;exact⟨by decide+kernel,λ_=>by decide+kernel⟩
    ·have:(kids<0\/1<kids):=aa
     rw[if_pos this];refine⟨?_,λh=>by cases h⟩;simp only[Z1r];rw[show (cE 33).2=[] by decide+kernel];simp;omega
  ·by_cases h31:op=31/\kids=3
   ·rw[if_pos h31,if_neg h33,if_pos h31];exact⟨rfl,λ_=>rfl⟩
   ·rw[if_neg h31,if_neg (λh=>h33 h.1),if_neg h33,if_neg h31];exact⟨an,λ_=>rfl⟩
 ·unfold eg av
  rcases h with rfl|rfl|rfl|rfl|rfl|rfl
  all_goals
   first
    |(rw[if_neg ac,if_pos rfl,if_pos rfl];exact⟨rfl,λ_=>rfl⟩)
    |(rw[if_pos ac,if_neg ac,if_neg ac,if_neg (λh=>absurd h.1 ac)]
      rw[show (cE _).2=[] by decide+kernel];refine⟨?_,λ_=>rfl⟩
      simp;omega)
theorem zL {kids:Int} (h:bn c op=true) (hk:(av op kids).2=true):∀ b∈(av op kids).1,HZ (b.toNat:Int)=true:=by
 have he7:∀ n:Nat,∀ b∈e7.take n,HZ (b.toNat:Int)=true:=λn b hb=>by
  have:=Z2x hb
  revert this;revert b;intro b hb this
  unfold e7 at this;simp at this;subst this;rfl
 unfold av;split
 ·split
  ·intro b hb;simp at hb
  ·exact he7 _
 ·split
  ·split
   ·intro b hb;simp at hb
   ·exact he7 _
  ·split
   ·intro b hb;simp at hb;rcases hb with rfl|rfl<;>rfl
   ·rename_i h5 h33 h31
    rcases nv h with h|h
    ·exact λb hb=>Z0i.1 (CA op h) b hb
    ·rcases h with rfl|rfl|rfl|rfl|rfl|rfl
     all_goals
      first
       |exact absurd rfl h5
       |(rw[show (cE _).2=[] by decide+kernel];intro b hb;simp at hb)
theorem CG {x:Nd} (h:k≠115):bP x 120=bP x k:=by
 unfold bP;simp[h]
def pn (p:List Nd):Prop:=∀ x∈p,x.str.length<=4398046511104
theorem fZ {p:List Nd} (h:pn p) (i:Nat):(p.getD i dN).str.length<=4398046511104:=by
 rw[Z00]
 cases e:p[i]? with
 |none=>simp[dN]
 |some x=>exact h x (Z4i e)
def G_ (p:List Nd) (f:Nat):Prop:=∀ (i:Nat) (k d:Int),d=33-(f:Int)->i<p.length->k≠115->k≠120->bn k (p.getD i dN).op=true->FC Tryz.prog 88 [al p,nI i,n8 120,nI d] 0 [] (vN (elemF p f i k)) 0 []
def yV (p:List Nd) (f:Nat):Prop:=∀ (i:Nat) (k d:Int),d=33-(f:Int)->i<=p.length->HZ k=true->FC Tryz.prog 88 [al p,nI i,n8 k,nI d] 0 [] (vN (dm p (decide (1<=f)) (elemF p f) (elemF p (f-1)) k i)) 0 []
theorem AK (p:List Nd) (i:Nat) (k d:Int) (hd:32<d):FC Tryz.prog 88 [al p,nI i,n8 k,nI d] 0 [] (vN none) 0 []:=by
 refine wW Tryz.func88 ?_
 repeat'(first|exact y0|refine y1 ?_|refine y2 ?_ ?_|refine y4 λh=>?_|refine Fin.int (.inl rfl) rfl ?_|refine y3 ?_|exact y5|fail)
theorem AJ (p:List Nd) (i:Nat) (k d:Int) (hi:p.length<=i):FC Tryz.prog 88 [al p,nI i,n8 k,nI d] 0 [] (vN none) 0 []:=by
 refine wW Tryz.func88 ?_
 repeat'(first|exact y0|refine y1 ?_|refine y2 ?_ ?_|refine y4 λh=>?_|refine Fin.int (.inl rfl) rfl ?_|refine y3 ?_|exact y5|fail)
theorem C2 (p:List Nd) (hp:p.length<=2048) (hw:pn p) (f:Nat) (hf:f<=32) (hc:yV p f) (i:Nat) (k c d:Int) (hd:d=33-((f:Int)+1)) (hi:i<p.length) (hk:(c=120/\k≠115/\bn k (p.getD i dN).op=true)\/(c=k/\k≠120/\sx k=false)):
 FC Tryz.prog 88 [al p,nI i,n8 c,nI d] 0 [] (vN (elemF p (f+1) i k)) 0 []:=by
 rw[eq]
 have hget:p[i]? =some (p.getD i dN):=by simp[Z00,hi]
 unfold elemS;rw[hget];simp only
 have hblk:sx c=false:=by
  rcases hk with ⟨rfl,_⟩|⟨rfl,_,h⟩
  ·rfl
  ·exact h
 have hb:=sw c;rw[hblk] at hb;have hkc:=Cm (p.getD i dN).op (p.getD i dN).kids;have hfc:=zV (p.getD i dN) c (fZ hw i);have hpc:=nX c (p.getD i dN).op
 have hfk:bP (p.getD i dN) c=bP (p.getD i dN) k:=by
  rcases hk with ⟨rfl,h,_⟩|⟨rfl,_⟩
  ·exact CG h
  ·rfl
 rw[hfk] at hfc;have hks:=wt (c:=k) (op:=(p.getD i dN).op) (kids:=(p.getD i dN).kids);have hko:=zL (c:=k) (op:=(p.getD i dN).op) (kids:=(p.getD i dN).kids);generalize eg (p.getD i dN).op (p.getD i dN).kids=kb at*;obtain⟨ks,ok⟩:=kb;simp only at hkc hks;refine wW Tryz.func88 ?_
 cases hA:bn k (p.getD i dN).op with
 |false=>
  rw[if_neg an]
  rcases hk with ⟨_,_,h⟩|⟨rfl,h120,_⟩
  ·rw[hA] at h;cases h
  ·rw[hA] at hpc
   cases ok
   all_goals
    repeat'(first|exact y0|refine y1 ?_|refine y2 ?_ ?_|refine y4 λh=>?_|refine wX 148 (bo hb ?_)|refine wX 149 (pu hkc ?_)|refine wX 87 (bo hpc ?_)|refine wX 150 (bo hfc ?_)|refine Fin.int (.inl rfl) rfl ?_|refine y3 ?_|exact y5|fail)
 |true=>
  obtain⟨e1,e2⟩:=hks hA
  have hpc2:c=k->FC Tryz.prog 87 [n8 c,nI (p.getD i dN).op] 0 [] (bV true) 0 []:=λh=>by rw[h,hA] at hpc;rw[h];exact hpc
  clear hpc;cases ok
  ·rw[if_neg (λh=>by rw[h.2.2] at e1;cases e1)]
   rcases hk with ⟨rfl,h1,_⟩|⟨rfl,h120,_⟩
   all_goals
    repeat'(first|exact y0|refine y1 ?_|refine y2 ?_ ?_|refine y4 λh=>?_|refine wX 148 (bo hb ?_)|refine wX 149 (pu hkc ?_)|refine wX 87 (bo ((hpc2 rfl)) ?_)|refine wX 150 (bo hfc ?_)|refine Fin.int (.inl rfl) rfl ?_|refine y3 ?_|exact y5|fail)
  ·have e3:=e2 e1.symm
   cases hF:bP (p.getD i dN) k<;>rw[hF] at hfc
   ·rw[if_neg an]
    rcases hk with ⟨rfl,h1,_⟩|⟨rfl,h120,_⟩
    all_goals
     repeat'(first|exact y0|refine y1 ?_|refine y2 ?_ ?_|refine y4 λh=>?_|refine wX 148 (bo hb ?_)|refine wX 149 (pu hkc ?_)|refine wX 87 (bo ((hpc2 rfl)) ?_)|refine wX 150 (bo hfc ?_)|refine Fin.int (.inl rfl) rfl ?_|refine y3 ?_|exact y5|fail)
   ·rw[if_pos ⟨rfl,rfl,e1.symm⟩,<-e3]
    have hkk:∀ b∈ks,HZ (b.toNat:Int)=true:=by rw[e3];exact hko hA e1.symm
    have hlt:i<p.length:=hi
    rcases hk with ⟨rfl,h1,_⟩|⟨rfl,h120,_⟩
    all_goals
     repeat'(first|exact y0|refine y1 ?_|refine y2 ?_ ?_|refine y4 λh=>?_|refine wX 148 (bo hb ?_)|refine wX 149 (pu hkc ?_)|refine wX 87 (bo ((hpc2 rfl)) ?_)|refine wX 150 (bo hfc ?_)|refine y3 ?_|exact y5|fail)
     refine Ex.inv (σ:=Nat×Nat) (λx=>[(13,nI x.1),(1,nI x.2)]) (λx=>[(0,some {cells:=ndC (p.getD i dN),ty:=49})]) (λx=>(x.1<=ks.length/\i+1+x.1<=x.2)/\x.2<=p.length/\dX (dm p (decide (1<=f)) (elemF p f) (elemF p (f-1))) ks (i+1)=dX (dm p (decide (1<=f)) (elemF p f) (elemF p (f-1))) (ks.drop x.1) x.2) (λx=>ks.length-x.1) (0,i+1) rfl (λ_=>rfl) ⟨⟨Z08 _,Z02 _⟩,hlt,rfl⟩ aV ⟨rfl,trivial⟩ ?_;rintro⟨j,e⟩ ⟨⟨h1,h0⟩,h2,h3⟩;simp only at h1 h2 h3 h0 |-;by_cases hj:j<ks.length
     ·rw[Z0k hj] at h3
      have hkg:ks[j]=ks.getD j 0:=by simp[Z00,hj]
      rw[hkg] at h3;simp only[dX] at h3;have hch:=hc e ((ks.getD j 0).toNat:Int) (d+1) aa h2 (hkk _ (by rw[<-hkg];exact Z0s hj))
      have hle:=λe' (h:dm p (decide (1<=f)) (elemF p f) (elemF p (f-1)) ((ks.getD j 0).toNat:Int) e=some e')=>lZ (λi k e h=>cV h) (λi k e h=>cV h) h
      generalize dm p (decide (1<=f)) (elemF p f) (elemF p (f-1)) ((ks.getD j 0).toNat:Int) e=r at*
      cases r with
      |none=>
       simp only at h3;rw[h3]
       repeat'(first|exact y0|refine y1 ?_|refine y2 ?_ ?_|refine y4 λh=>?_|refine wX 88 (pu hch ?_)|refine Fin.int (.inl rfl) rfl ?_|refine y3 ?_|exact y5|fail)
      |some e'=>
       simp only at h3;have:=hle e' rfl
       repeat'(first|exact y0|refine y1 ?_|refine y2 ?_ ?_|refine y4 λh=>?_|refine wX 88 (pu hch ?_)|refine LoopR.same (j+1,e') ⟨⟨?_,?_⟩,?_,h3⟩ ?_ rfl aV ⟨rfl,trivial⟩ rfl rfl ac|refine y3 ?_|exact y5|fail)
     ·
      have:ks.drop j=[]:=by simp;omega
      rw[this] at h3;simp only[dX] at h3;rw[h3]
      repeat'(first|exact y0|refine y1 ?_|refine y2 ?_ ?_|refine y4 λh=>?_|refine Fin.int (.inl rfl) rfl ?_|refine y3 ?_|exact y5|fail)
theorem ib {p:List Nd} {f i:Nat} (h:i<p.length->bn k (p.getD i dN).op=false):elemF p f i k=none:=by
 have key:∀ ok E0 E1,elemS p ok E0 E1 i k=none:=by
  intro ok E0 E1;unfold elemS;split
  ·rfl
  ·rename_i x hx
   have hi:i<p.length:=by
    rcases Z0a i p.length with h|h
    ·exact h
    ·simp[Z0b h] at hx
   have hx2:p.getD i dN=x:=by rw[Z00,hx];rfl
   rw[if_neg];rw[<-hx2,h hi];simp
 match f with
 |0=>rfl
 |1=>exact key _ _ _
 |f+2=>exact key _ _ _
theorem yC (p:List Nd) (hp:p.length<=2048) (hw:pn p) (f:Nat) (hf:f<=33) (h1:1<=f->G_ p (f-1)) (h2:1<=f->yV p (f-1)):yV p f:=by
 intro i k d hd hi hk;obtain⟨hbk,h120⟩:=Fj hk;unfold dm
 rcases Z21 f with rfl|hpos
 ·have:∀ o,o=none->FC Tryz.prog 88 [al p,nI i,n8 k,nI d] 0 [] (vN o) 0 []:=λo h=>by rw[h];exact AK p i k d aa
  refine this _ ?_;split
  ·split
   ·rfl
   ·rw[if_neg an]
  ·rfl
 rcases Z0a i p.length with hlt|hge
 ·have hget:p[i]? =some (p.getD i dN):=by simp[Z00,hlt]
  cases hB:dh k with
  |false=>
   simp only[Z0l,if_false]
   obtain⟨f',rfl⟩:∃ f',f=f'+1:=⟨f-1,aa⟩
   exact C2 p hp hw f' aa (h2 aa) i k k d aa hlt (.inr ⟨rfl,h120,by rw[hbk];exact hB⟩)
  |true=>
   rw[hB] at hbk;have hb:=sw k;rw[hbk] at hb;simp only[if_true];rw[hget];simp only;have hpos:1<=f:=hpos;rw[decide_eq_true hpos];generalize hT:(if true=true/\(p.getD i dN).op=4/\(p.getD i dN).int=0/\(p.getD i dN).str=[]/\0<=(p.getD i dN).kids then cG (λe=>elemF p (f-1) e k) (p.getD i dN).kids.toNat (i+1) else none)=T
   have hnone:(¬((p.getD i dN).op=4/\(p.getD i dN).int=0/\(p.getD i dN).str=[]/\0<=(p.getD i dN).kids)\/(p.length:Int)<(p.getD i dN).kids)->T=none:=λh=>by
    rw[<-hT]
    rcases h with h|h
    ·rw[if_neg (λh'=>h h'.2)]
    ·split
     ·rename_i hc
      cases hbf:cG (λe=>elemF p (f-1) e k) (p.getD i dN).kids.toNat (i+1) with
      |none=>rfl
      |some e=>
       have:=l8 (N:=p.length) (λi e h=>cV h) hlt hbf;omega
     ·rfl
   refine wW Tryz.func88 ?_
   repeat'(first|exact y0|refine y1 ?_|refine y2 ?_ ?_|refine y4 λh=>?_|refine wX 148 (bo hb ?_)|refine Fin.int (.inl rfl) rfl ?_|refine y3 ?_|exact y5|fail)
   all_goals try (rw[hnone (by first|(left;intro h;simp_all;done)|(right;omega)|(left;intro h;omega))])
   have hk0:0<=(p.getD i dN).kids:=aa;have hx:(p.getD i dN).str=[]:=‹_›;rw[if_pos ⟨rfl,by assumption,by assumption,hx,hk0⟩] at hT;clear hnone;generalize hK:(p.getD i dN).kids.toNat=K at*;have hKi:(p.getD i dN).kids=(K:Int):=aa;refine Ex.inv (σ:=Nat×Nat) (λx=>[(10,nI x.1),(1,nI x.2)]) (λx=>[(0,some {cells:=ndC (p.getD i dN),ty:=49})]) (λx=>(x.1<=K/\i+1+x.1<=x.2)/\x.2<=p.length/\T=cG (λe=>elemF p (f-1) e k) (K-x.1) x.2) (λx=>K-x.1) (0,i+1) rfl (λ_=>rfl) ⟨⟨Z08 _,Z02 _⟩,hlt,hT.symm⟩ aV ⟨rfl,trivial⟩ ?_;rintro⟨j,e⟩ ⟨⟨g1,g0⟩,g2,g3⟩;simp only at g1 g2 g3 g0 |-;by_cases hj:j<K
   ·rw[show K-j=(K-(j+1))+1 by omega] at g3
    simp only[cG] at g3;have hpc:=nX k (p.getD e dN).op;by_cases hel:e<p.length
    ·cases hA:bn k (p.getD e dN).op<;>rw[hA] at hpc
     ·rw[ib (λ_=>hA)] at g3
      simp only at g3;rw[g3]
      repeat'(first|exact y0|refine y1 ?_|refine y2 ?_ ?_|refine y4 λh=>?_|refine wX 87 (bo hpc ?_)|refine Fin.int (.inl rfl) rfl ?_|refine y3 ?_|exact y5|fail)
     ·have h115:k≠115:=λh=>by rw[h] at hB;revert hB;decide
      have hch:=h1 hpos e k (d+1) aa hel h115 h120 hA
      have hle:=λe' (h:elemF p (f-1) e k=some e')=>cV h
      generalize elemF p (f-1) e k=r at*
      cases r with
      |none=>
       simp only at g3;rw[g3]
       repeat'(first|exact y0|refine y1 ?_|refine y2 ?_ ?_|refine y4 λh=>?_|refine wX 87 (bo hpc ?_)|refine wX 88 (pu hch ?_)|refine Fin.int (.inl rfl) rfl ?_|refine y3 ?_|exact y5|fail)
      |some e'=>
       simp only at g3;have:=hle e' rfl
       repeat'(first|exact y0|refine y1 ?_|refine y2 ?_ ?_|refine y4 λh=>?_|refine wX 87 (bo hpc ?_)|refine wX 88 (pu hch ?_)|refine LoopR.same (j+1,e') ⟨⟨?_,?_⟩,?_,g3⟩ ?_ rfl aV ⟨rfl,trivial⟩ rfl rfl ac|refine y3 ?_|exact y5|fail)
    ·rw[ib (λh=>absurd h hel)] at g3
     simp only at g3;rw[g3]
     repeat'(first|exact y0|refine y1 ?_|refine y2 ?_ ?_|refine y4 λh=>?_|refine wX 87 (bo hpc ?_)|refine Fin.int (.inl rfl) rfl ?_|refine y3 ?_|exact y5|fail)
   ·
    rw[show K-j=0 by omega] at g3;simp only[cG] at g3;rw[g3]
    repeat'(first|exact y0|refine y1 ?_|refine y2 ?_ ?_|refine y4 λh=>?_|refine Fin.int (.inl rfl) rfl ?_|refine y3 ?_|exact y5|fail)
 ·have:∀ o,o=none->FC Tryz.prog 88 [al p,nI i,n8 k,nI d] 0 [] (vN o) 0 []:=λo h=>by rw[h];exact AJ p i k d hge
  refine this _ ?_
  have hget:p[i]? =none:=by simp;omega
  rw[hget];split
  ·rfl
  ·exact ib (λh=>by omega)
theorem sY (p:List Nd) (hp:p.length<=2048) (hw:pn p):∀ f,f<=33->G_ p f/\yV p f
 |0,_=>⟨λi k d hd hi _ _ _=>AK p i 120 d aa,yC p hp hw 0 aa (λh=>by omega) (λh=>by omega)⟩
 |f+1,hf=>by
  have ih:=sY p hp hw f aa;exact⟨λi k d hd hi h1 h2 h3=>C2 p hp hw f aa ih.2 i k 120 d aa hi (.inl ⟨rfl,h1,h3⟩),yC p hp hw (f+1) hf (λ_=>ih.1) (λ_=>ih.2)⟩
theorem fB (p:List Nd) (hw:pn p):FC Tryz.prog 47 [al p] 0 [] (bV (cy p)) 0 []:=by
 unfold cy;refine wW Tryz.func47 ?_;by_cases hp:p.length<=2048
 ·
  rw[decide_eq_true hp,Z1r]
  repeat'(first|exact y0|refine y1 ?_|refine y2 ?_ ?_|refine y4 λh=>?_|refine Fin.bool (.inl rfl) rfl ?_|refine y3 ?_|exact y5|fail)
  generalize hT:pA p (p.length+1) 0=T;refine Ex.inv (σ:=Nat×Nat) (λx=>[(3,nI x.2)]) (λx=>[]) (λx=>x.1<=x.2/\x.2<=p.length/\T=pA p (p.length+1-x.1) x.2) (λx=>p.length-x.2) (0,0) rfl (λ_=>rfl) ⟨Z02 _,Z08 _,hT.symm⟩ aV trivial ?_;clear hT;rintro⟨j,i⟩ ⟨h1,h2,h3⟩;simp only at h1 h2 h3 |-;rw[show p.length+1-j=(p.length-j)+1 by omega] at h3;simp only[pA] at h3;by_cases hlt:i<p.length
  ·rw[if_pos hlt] at h3
   have hpc:=nX 68 (p.getD i dN).op
   cases hA:bn 68 (p.getD i dN).op<;>rw[hA] at hpc
   ·rw[ib (λ_=>hA)] at h3
    simp only at h3
    repeat'(first|exact y0|refine y1 ?_|refine y2 ?_ ?_|refine y4 λh=>?_|refine wX 87 (bo hpc ?_)|refine Fin.bool (.inl rfl) rfl ?_|refine y3 ?_|exact y5|fail)
    all_goals exact h3.symm
   ·have hch:=(sY p hp hw 32 ac).1 i 68 1 ac hlt ac ac hA
    have hle:=λe' (h:elemF p 32 i 68=some e')=>cV h
    generalize elemF p 32 i 68=r at*
    cases r with
    |none=>
     simp only at h3
     repeat'(first|exact y0|refine y1 ?_|refine y2 ?_ ?_|refine y4 λh=>?_|refine wX 87 (bo hpc ?_)|refine wX 88 (pu hch ?_)|refine Fin.bool (.inl rfl) rfl ?_|refine y3 ?_|exact y5|fail)
     all_goals exact h3.symm
    |some e'=>
     simp only at h3;have:=hle e' rfl
     repeat'(first|exact y0|refine y1 ?_|refine y2 ?_ ?_|refine y4 λh=>?_|refine wX 87 (bo hpc ?_)|refine wX 88 (pu hch ?_)|refine Fin.bool (.inl rfl) rfl ?_|refine LoopR.same (j+1,e') ⟨?_,?_,?_⟩ ?_ rfl aV trivial rfl rfl ac|refine y3 ?_|exact y5|fail)
     all_goals (rw[h3];congr 1;omega)
  ·
   rw[if_neg hlt] at h3
   repeat'(first|exact y0|refine y1 ?_|refine y2 ?_ ?_|refine y4 λh=>?_|refine Fin.bool (.inl rfl) rfl ?_|refine y3 ?_|exact y5|fail)
   all_goals exact h3.symm
 ·
  rw[decide_eq_false hp,Z2c]
  repeat'(first|exact y0|refine y1 ?_|refine y2 ?_ ?_|refine y4 λh=>?_|refine Fin.bool (.inl rfl) rfl ?_|refine y3 ?_|exact y5|fail)
  all_goals rfl
end
end Go.Proofs.YtegjgpldfgjoiaaGreatDoor
