import Derived.Test.YtegjgpldfgjoiaaGreatDoorCnD29
set_option linter.all false
set_option maxHeartbeats 40000000
set_option maxRecDepth 100000
namespace Go.Proofs.YtegjgpldfgjoiaaGreatDoor
open Go Ab
section
variable {k c op:Int}
abbrev ui (o:Option Nat):V:=.s (.int .i64 (match o with|some e=>(e:Int)|none=> -1))
def F6 (k:Int):Bool:=decide (k=110)||decide (k=115)||decide (k=105)||decide (k=101)||decide (k=116)||decide (k=100)||decide (k=68)||decide (k=83)||decide (k=70)||decide (k=73)||decide (k=80)
theorem Do (h:F6 k=true):qM k=dq k/\k≠120:=by
 unfold F6 at h;simp only[Z1h,decide_eq_true_eq] at h
 rcases h with (((((((((rfl|rfl)|rfl)|rfl)|rfl)|rfl)|rfl)|rfl)|rfl)|rfl)|rfl<;>exact⟨ac,ac⟩
def opsL:List Int:=[10,11,12,13,14,15,16,17,18,19,20,21,30,31,32,33,34,35,36,37,38,39,40,41,42,50,51,60,61,62,63,64,65,66,67,68,69,70,71,72,73,74,75,76,77,78,79,80,81,82,83,84,85,86,87,88]
theorem zm:∀ op∈opsL,mT op=((op,(ct op).1,(ct op).2),true):=by decide+kernel
theorem AQ:∀ op∈opsL,((ct op).2.all λc=>F6 (c.toNat:Int))=true:=by decide+kernel
theorem mA (h:bn c op=true):op∈opsL\/op=1\/op=2\/op=3\/op=5\/op=6\/op=7:=by
 have h1:(10<=op/\op<=21)\/(30<=op/\op<=42)\/op=50\/op=51\/(60<=op/\op<=88)\/op=1\/op=2\/op=3\/op=5\/op=6\/op=7:=by
  unfold bn at h;split at h
  ·grind
  split at h
  ·grind
  split at h
  ·grind [fy,cl]
  split at h
  all_goals grind [cl,cV]
 by_cases h2:op=1\/op=2\/op=3\/op=5\/op=6\/op=7
 ·exact .inr h2
 ·left
  have key:∀ n:Nat,n<=88->((10<=n/\n<=21)\/(30<=n/\n<=42)\/n=50\/n=51\/(60<=n/\n<=88))->(n:Int)∈opsL:=by decide+kernel
  obtain⟨n,rfl⟩:=Z2a (aa:0<=op)
  grind
theorem uF {kids:Int} (h:bn c op=true):(d7 op kids).2=(aq op kids).2/\((aq op kids).2=true->(d7 op kids).1=(aq op kids).1):=by
 rcases mA h with h|h
 ·have h1:=zm op h
  unfold d7 aq;rw[h1]
  have hn: ¬(op=1\/op=2\/op=3\/op=6\/op=7)/\ ¬op=5:=by
   have key:∀ o∈opsL,¬(o=1\/o=2\/o=3\/o=6\/o=7)/\ ¬o=5:=by decide+kernel
   grind
  rw[if_neg hn.1,if_neg hn.2,if_neg hn.2];by_cases h33:op=33
  ·subst h33
   rw[if_neg av,if_pos rfl];by_cases h0:kids=1
   ·subst h0;exact⟨rfl,λ_=>rfl⟩
   ·rw[if_neg (λh=>h0 h.2)]
    by_cases hz:kids=0
    ·subst hz;exact⟨by decide+kernel,λ_=>by decide+kernel⟩
    ·have:(kids<0\/1<kids):=aa
     rw[if_pos this];refine⟨?_,λh=>by cases h⟩;simp only[Z1r];rw[show (ct 33).2=[] by decide+kernel];simp;omega
  all_goals grind
 ·unfold d7 aq
  rcases h with rfl|rfl|rfl|rfl|rfl|rfl
  all_goals
   first
    |(rw[if_neg ac,if_pos rfl,if_pos rfl];exact⟨rfl,λ_=>rfl⟩)
    |(rw[if_pos ac,if_neg ac,if_neg ac,if_neg (λh=>absurd h.1 ac)]
      rw[show (ct _).2=[] by decide+kernel];refine⟨?_,λ_=>rfl⟩
      simp;omega)
theorem xL {kids:Int} (h:bn c op=true) (hk:(aq op kids).2=true):∀ b∈(aq op kids).1,F6 (b.toNat:Int)=true:=by
 have he7:∀ n:Nat,∀ b∈e7.take n,F6 (b.toNat:Int)=true:=λn b hb=>by
  have:=Z2x hb
  revert this;revert b;intro b hb this
  unfold e7 at this;simp at this;subst this;rfl
 unfold aq;split
 ·grind
 ·split
  ·grind
  ·split
   ·intro b hb;simp at hb;rcases hb with rfl|rfl<;>rfl
   ·rename_i h5 h33 h31
    rcases mA h with h|h
    ·exact λb hb=>Z0i.1 (AQ op h) b hb
    ·rcases h with rfl|rfl|rfl|rfl|rfl|rfl
     all_goals
      first
       |exact absurd rfl h5
       |(rw[show (ct _).2=[] by decide+kernel];intro b hb;simp at hb)
theorem AV {x:Nd} (h:k≠115):bM x 120=bM x k:=by
 unfold bM;simp[h]
def tX (p:List Nd):Prop:=∀ x∈p,x.str.length<=4398046511104
theorem l_ {p:List Nd} (h:tX p) (i:Nat):(p.getD i dN).str.length<=4398046511104:=by
 rw[Z00]
 cases e:p[i]? with
 |none=>simp[dN]
 |some x=>exact h x (Z4i e)
def Fc (p:List Nd) (f:Nat):Prop:=∀ (i:Nat) (k d:Int),d=33-(f:Int)->i<p.length->k≠115->k≠120->bn k (p.getD i dN).op=true->FQ 88 [ao p,nI i,n8 120,nI d] 0 [] (ui (elemF p f i k)) 0 []
def xa (p:List Nd) (f:Nat):Prop:=∀ (i:Nat) (k d:Int),d=33-(f:Int)->i<=p.length->F6 k=true->FQ 88 [ao p,nI i,n8 k,nI d] 0 [] (ui (de p (decide (1<=f)) (elemF p f) (elemF p (f-1)) k i)) 0 []
theorem yL (p:List Nd) (i:Nat) (k d:Int) (hd:32<d):FQ 88 [ao p,nI i,n8 k,nI d] 0 [] (ui none) 0 []:=by
 refine wW Tryz.func88 ?_
 repeat'(first|refine y1 ?_|refine y2 ?_ ?_|refine y4 λh=>?_|refine jE (.inl rfl) rfl ?_|refine y3 ?_|exact y5|fail)
theorem yK (p:List Nd) (i:Nat) (k d:Int) (hi:p.length<=i):FQ 88 [ao p,nI i,n8 k,nI d] 0 [] (ui none) 0 []:=by
 refine wW Tryz.func88 ?_
 repeat'(first|refine y1 ?_|refine y2 ?_ ?_|refine y4 λh=>?_|refine jE (.inl rfl) rfl ?_|refine y3 ?_|exact y5|fail)
theorem Bk (p:List Nd) (hp:p.length<=2048) (hw:tX p) (f:Nat) (hf:f<=32) (hc:xa p f) (i:Nat) (k c d:Int) (hd:d=33-((f:Int)+1)) (hi:i<p.length) (hk:(c=120/\k≠115/\bn k (p.getD i dN).op=true)\/(c=k/\k≠120/\qM k=false)):
 FQ 88 [ao p,nI i,n8 c,nI d] 0 [] (ui (elemF p (f+1) i k)) 0 []:=by
 rw[d9];have hget:p[i]? =some (p.getD i dN):=ae;unfold elemS;rw[hget];simp only
 have hblk:qM c=false:=by
  rcases hk with ⟨rfl,_⟩|⟨rfl,_,h⟩
  ·rfl
  ·exact h
 have hb:=qL c;rw[hblk] at hb;have hkc:=Ax (p.getD i dN).op (p.getD i dN).kids;have hfc:=xZ (p.getD i dN) c (l_ hw i);have hpc:=mX c (p.getD i dN).op
 have hfk:bM (p.getD i dN) c=bM (p.getD i dN) k:=by
  grind [AV]
 rw[hfk] at hfc;have hks:=uF (c:=k) (op:=(p.getD i dN).op) (kids:=(p.getD i dN).kids);have hko:=xL (c:=k) (op:=(p.getD i dN).op) (kids:=(p.getD i dN).kids);generalize d7 (p.getD i dN).op (p.getD i dN).kids=kb at*;obtain⟨ks,ok⟩:=kb;simp only at hkc hks;refine wW Tryz.func88 ?_
 cases hA:bn k (p.getD i dN).op with
 |false=>
  rw[if_neg av]
  rcases hk with ⟨_,_,h⟩|⟨rfl,h120,_⟩
  ·grind
  ·rw[hA] at hpc
   cases ok
   all_goals
    repeat'(first|refine y1 ?_|refine y2 ?_ ?_|refine y4 λh=>?_|refine bt hb ?_|refine an hkc ?_|refine bt hpc ?_|refine jE (.inl rfl) rfl ?_|refine y3 ?_|exact y5|fail)
 |true=>
  obtain⟨e1,e2⟩:=hks hA
  have hpc2:c=k->FQ 87 [n8 c,nI (p.getD i dN).op] 0 [] (bV true) 0 []:=λh=>by grind
  clear hpc;cases ok
  ·rw[if_neg (λh=>by grind)]
   rcases hk with ⟨rfl,h1,_⟩|⟨rfl,h120,_⟩
   all_goals
    repeat'(first|refine y1 ?_|refine y2 ?_ ?_|refine y4 λh=>?_|refine bt hb ?_|refine an hkc ?_|refine jE (.inl rfl) rfl ?_|refine y3 ?_|exact y5|fail)
  ·have e3:=e2 e1.symm
   cases hF:bM (p.getD i dN) k<;>rw[hF] at hfc
   ·rw[if_neg av]
    rcases hk with ⟨rfl,h1,_⟩|⟨rfl,h120,_⟩
    all_goals
     repeat'(first|refine y1 ?_|refine y2 ?_ ?_|refine y4 λh=>?_|refine bt hb ?_|refine an hkc ?_|refine bt ((hpc2 rfl)) ?_|refine bt hfc ?_|refine jE (.inl rfl) rfl ?_|refine y3 ?_|exact y5|fail)
   ·rw[if_pos ⟨rfl,rfl,e1.symm⟩,<-e3]
    have hkk:∀ b∈ks,F6 (b.toNat:Int)=true:=ae;have hlt:i<p.length:=hi
    rcases hk with ⟨rfl,h1,_⟩|⟨rfl,h120,_⟩
    all_goals
     repeat'(first|refine yA ?_|refine y2 ?_ ?_|refine y4 λh=>?_|refine bt hb ?_|refine an hkc ?_|refine bt ((hpc2 rfl)) ?_|refine bt hfc ?_|exact y5|fail)
     refine cD (σ:=Nat×Nat) (λx=>[(13,nI x.1),(1,nI x.2)]) (λx=>[(0,some {cells:=ndC (p.getD i dN),ty:=49})]) (λx=>(x.1<=ks.length/\i+1+x.1<=x.2)/\x.2<=p.length/\dO (de p (decide (1<=f)) (elemF p f) (elemF p (f-1))) ks (i+1)=dO (de p (decide (1<=f)) (elemF p f) (elemF p (f-1))) (ks.drop x.1) x.2) (λx=>ks.length-x.1) (0,i+1) rfl (λ_=>rfl) ⟨⟨Z08 _,Z02 _⟩,hlt,rfl⟩ bc ⟨rfl,trivial⟩ ?_;rintro⟨j,e⟩ ⟨⟨h1,h0⟩,h2,h3⟩;simp only at h1 h2 h3 h0 |-;by_cases hj:j<ks.length
     ·rw[Z0k hj] at h3
      have hkg:ks[j]=ks.getD j 0:=ae;rw[hkg] at h3;simp only[dO] at h3;have hch:=hc e ((ks.getD j 0).toNat:Int) (d+1) aa h2 (hkk _ ae)
      have hle:=λe' (h:de p (decide (1<=f)) (elemF p f) (elemF p (f-1)) ((ks.getD j 0).toNat:Int) e=some e')=>lC (λi k e h=>cN h) (λi k e h=>cN h) h
      generalize de p (decide (1<=f)) (elemF p f) (elemF p (f-1)) ((ks.getD j 0).toNat:Int) e=r at*
      cases r with
      |none=>
       simp only at h3;rw[h3]
       repeat'(first|refine y1 ?_|refine y2 ?_ ?_|refine y4 λh=>?_|refine an hch ?_|refine jE (.inl rfl) rfl ?_|refine y3 ?_|exact y5|fail)
      |some e'=>
       simp only at h3;have:=hle e' rfl
       repeat'(first|refine y1 ?_|refine y2 ?_ ?_|refine y4 λh=>?_|refine an hch ?_|refine dT (j+1,e') ⟨⟨?_,?_⟩,?_,h3⟩ ?_ rfl bc ⟨rfl,trivial⟩ rfl rfl ac|refine y3 ?_|exact y5|fail)
     ·
      have:ks.drop j=[]:=ae;rw[this] at h3;simp only[dO] at h3;rw[h3]
      repeat'(first|refine y1 ?_|refine y2 ?_ ?_|refine y4 λh=>?_|refine jE (.inl rfl) rfl ?_|refine y3 ?_|exact y5|fail)
theorem gK {p:List Nd} {f i:Nat} (h:i<p.length->bn k (p.getD i dN).op=false):elemF p f i k=none:=by
 have key:∀ ok E0 E1,elemS p ok E0 E1 i k=none:=by
  grind [elemS]
 match f with
 |0=>rfl
 |1=>exact key _ _ _
 |f+2=>exact key _ _ _
theorem wK (p:List Nd) (hp:p.length<=2048) (hw:tX p) (f:Nat) (hf:f<=33) (h1:1<=f->Fc p (f-1)) (h2:1<=f->xa p (f-1)):xa p f:=by
 intro i k d hd hi hk;obtain⟨hbk,h120⟩:=Do hk;unfold de
 rcases Z21 f with rfl|hpos
 ·have:∀ o,o=none->FQ 88 [ao p,nI i,n8 k,nI d] 0 [] (ui o) 0 []:=λo h=>by rw[h];exact yL p i k d aa
  refine this _ ?_;split
  ·grind
  ·rfl
 rcases Z0a i p.length with hlt|hge
 ·have hget:p[i]? =some (p.getD i dN):=ae
  cases hB:dq k with
  |false=>
   simp only[Z0l,if_false]
   obtain⟨f',rfl⟩:∃ f',f=f'+1:=⟨f-1,aa⟩
   grind [Bk]
  |true=>
   rw[hB] at hbk;have hb:=qL k;rw[hbk] at hb;simp only[if_true];rw[hget];simp only;have hpos:1<=f:=hpos;rw[decide_eq_true hpos];generalize hT:(if true=true/\(p.getD i dN).op=4/\(p.getD i dN).int=0/\(p.getD i dN).str=[]/\0<=(p.getD i dN).kids then cx (λe=>elemF p (f-1) e k) (p.getD i dN).kids.toNat (i+1) else none)=T
   have hnone:(¬((p.getD i dN).op=4/\(p.getD i dN).int=0/\(p.getD i dN).str=[]/\0<=(p.getD i dN).kids)\/(p.length:Int)<(p.getD i dN).kids)->T=none:=λh=>by
    rw[<-hT]
    rcases h with h|h
    ·grind
    ·split
     ·rename_i hc
      cases hbf:cx (λe=>elemF p (f-1) e k) (p.getD i dN).kids.toNat (i+1) with
      |none=>rfl
      |some e=>
       have:=lG (N:=p.length) (λi e h=>cN h) hlt hbf;omega
     ·rfl
   refine wW Tryz.func88 ?_
   repeat'(first|refine y1 ?_|refine y2 ?_ ?_|refine y4 λh=>?_|refine bt hb ?_|refine jE (.inl rfl) rfl ?_|refine y3 ?_|exact y5|fail)
   all_goals try (rw[hnone (by first|(left;intro h;simp_all;done)|(right;omega)|(left;intro h;omega))])
   have hk0:0<=(p.getD i dN).kids:=aa;have hx:(p.getD i dN).str=[]:=‹_›;rw[if_pos ⟨rfl,ae,ae,hx,hk0⟩] at hT;clear hnone;generalize hK:(p.getD i dN).kids.toNat=K at*;have hKi:(p.getD i dN).kids=(K:Int):=aa;refine cD (σ:=Nat×Nat) (λx=>[(10,nI x.1),(1,nI x.2)]) (λx=>[(0,some {cells:=ndC (p.getD i dN),ty:=49})]) (λx=>(x.1<=K/\i+1+x.1<=x.2)/\x.2<=p.length/\T=cx (λe=>elemF p (f-1) e k) (K-x.1) x.2) (λx=>K-x.1) (0,i+1) rfl (λ_=>rfl) ⟨⟨Z08 _,Z02 _⟩,hlt,hT.symm⟩ bc ⟨rfl,trivial⟩ ?_;rintro⟨j,e⟩ ⟨⟨g1,g0⟩,g2,g3⟩;simp only at g1 g2 g3 g0 |-;by_cases hj:j<K
   ·rw[show K-j=(K-(j+1))+1 by omega] at g3
    simp only[cx] at g3;have hpc:=mX k (p.getD e dN).op;by_cases hel:e<p.length
    ·cases hA:bn k (p.getD e dN).op<;>rw[hA] at hpc
     ·rw[gK (λ_=>hA)] at g3
      simp only at g3;rw[g3]
      repeat'(first|refine y1 ?_|refine y2 ?_ ?_|refine y4 λh=>?_|refine bt hpc ?_|refine jE (.inl rfl) rfl ?_|refine y3 ?_|exact y5|fail)
     ·have h115:k≠115:=λh=>by rw[h] at hB;revert hB;decide
      have hch:=h1 hpos e k (d+1) aa hel h115 h120 hA
      have hle:=λe' (h:elemF p (f-1) e k=some e')=>cN h
      generalize elemF p (f-1) e k=r at*
      cases r with
      |none=>
       simp only at g3;rw[g3]
       repeat'(first|refine y1 ?_|refine y2 ?_ ?_|refine y4 λh=>?_|refine bt hpc ?_|refine an hch ?_|refine jE (.inl rfl) rfl ?_|refine y3 ?_|exact y5|fail)
      |some e'=>
       simp only at g3;have:=hle e' rfl
       repeat'(first|refine y1 ?_|refine y2 ?_ ?_|refine y4 λh=>?_|refine bt hpc ?_|refine an hch ?_|refine dT (j+1,e') ⟨⟨?_,?_⟩,?_,g3⟩ ?_ rfl bc ⟨rfl,trivial⟩ rfl rfl ac|refine y3 ?_|exact y5|fail)
    ·rw[gK (λh=>absurd h hel)] at g3
     simp only at g3;rw[g3]
     repeat'(first|refine y1 ?_|refine y2 ?_ ?_|refine y4 λh=>?_|refine jE (.inl rfl) rfl ?_|refine y3 ?_|exact y5|fail)
   ·
    rw[show K-j=0 by omega] at g3;simp only[cx] at g3;rw[g3]
    repeat'(first|refine y1 ?_|refine y2 ?_ ?_|refine y4 λh=>?_|refine jE (.inl rfl) rfl ?_|refine y3 ?_|exact y5|fail)
 ·have:∀ o,o=none->FQ 88 [ao p,nI i,n8 k,nI d] 0 [] (ui o) 0 []:=λo h=>by rw[h];exact yK p i k d hge
  grind [gK]
theorem rf (p:List Nd) (hp:p.length<=2048) (hw:tX p):∀ f,f<=33->Fc p f/\xa p f
 |0,_=>⟨λi k d hd hi _ _ _=>yL p i 120 d aa,wK p hp hw 0 aa (λh=>by omega) (λh=>by omega)⟩
 |f+1,hf=>by
  have ih:=rf p hp hw f aa;exact⟨λi k d hd hi h1 h2 h3=>Bk p hp hw f aa ih.2 i k 120 d aa hi (.inl ⟨rfl,h1,h3⟩),wK p hp hw (f+1) hf (λ_=>ih.1) (λ_=>ih.2)⟩
theorem gt (p:List Nd) (hw:tX p):FQ 47 [ao p] 0 [] (bV (dX p)) 0 []:=by
 unfold dX;refine wW Tryz.func47 ?_;by_cases hp:p.length<=2048
 ·
  rw[decide_eq_true hp,Z1r]
  repeat'(first|refine y1 ?_|refine y2 ?_ ?_|refine y4 λh=>?_|refine y3 ?_|exact y5|fail)
  generalize hT:oD p (p.length+1) 0=T;refine cD (σ:=Nat×Nat) (λx=>[(3,nI x.2)]) (λx=>[]) (λx=>x.1<=x.2/\x.2<=p.length/\T=oD p (p.length+1-x.1) x.2) (λx=>p.length-x.2) (0,0) rfl (λ_=>rfl) ⟨Z02 _,Z08 _,hT.symm⟩ bc trivial ?_;clear hT;rintro⟨j,i⟩ ⟨h1,h2,h3⟩;simp only at h1 h2 h3 |-;rw[show p.length+1-j=(p.length-j)+1 by omega] at h3;simp only[oD] at h3;by_cases hlt:i<p.length
  ·rw[if_pos hlt] at h3
   have hpc:=mX 68 (p.getD i dN).op
   cases hA:bn 68 (p.getD i dN).op<;>rw[hA] at hpc
   ·rw[gK (λ_=>hA)] at h3
    simp only at h3
    repeat'(first|refine y1 ?_|refine y2 ?_ ?_|refine y4 λh=>?_|refine bt hpc ?_|refine cJ (.inl rfl) rfl ?_|refine y3 ?_|exact y5|fail)
    grind
   ·have hch:=(rf p hp hw 32 ac).1 i 68 1 ac hlt ac ac hA
    have hle:=λe' (h:elemF p 32 i 68=some e')=>cN h
    generalize elemF p 32 i 68=r at*
    cases r with
    |none=>
     simp only at h3
     repeat'(first|refine y1 ?_|refine y2 ?_ ?_|refine y4 λh=>?_|refine bt hpc ?_|refine an hch ?_|refine cJ (.inl rfl) rfl ?_|refine y3 ?_|exact y5|fail)
     grind
    |some e'=>
     simp only at h3;have:=hle e' rfl
     repeat'(first|refine y1 ?_|refine y2 ?_ ?_|refine y4 λh=>?_|refine bt hpc ?_|refine an hch ?_|refine dT (j+1,e') ⟨?_,?_,?_⟩ ?_ rfl bc trivial rfl rfl ac|refine y3 ?_|exact y5|fail)
     grind
  ·
   rw[if_neg hlt] at h3
   repeat'(first|refine y1 ?_|refine y2 ?_ ?_|refine y4 λh=>?_|refine cJ (.inl rfl) rfl ?_|refine y3 ?_|exact y5|fail)
   grind
 ·
  rw[decide_eq_false hp,Z2c]
  repeat'(first|refine y1 ?_|refine y2 ?_ ?_|refine y4 λh=>?_|refine cJ (.inl rfl) rfl ?_|refine y3 ?_|exact y5|fail)
end
