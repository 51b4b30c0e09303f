import Derived.Test.YtegjgpldfgjoiaaGreatDoorCnJ25
set_option linter.all false
set_option maxHeartbeats 40000000
set_option maxRecDepth 100000
namespace Go.Proofs.YtegjgpldfgjoiaaGreatDoor
open Go Ab
section
variable {k c op:Int}
abbrev xW (o:Option Nat):V:=.s (.int .i64 (match o with|some e=>(e:Int)|none=> -1))
def Km (k:Int):Bool:=decide (k=110)||decide (k=115)||decide (k=105)||decide (k=101)||decide (k=116)||decide (k=100)||decide (k=68)||decide (k=83)||decide (k=70)||decide (k=73)||decide (k=80)
theorem HG (h:Km k=true):uu k=dY k/\k≠120:=by
 unfold Km at h;simp only[Z1h,decide_eq_true_eq] at h
 rcases h with (((((((((rfl|rfl)|rfl)|rfl)|rfl)|rfl)|rfl)|rfl)|rfl)|rfl)|rfl<;>exact⟨ac,ac⟩
def opsL:List Int:=[10,11,12,13,14,15,16,17,18,19,20,21,30,31,32,33,34,35,36,37,38,39,40,41,42,50,51,60,61,62,63,64,65,66,67,68,69,70,71,72,73,74,75,76,77,78,79,80,81,82,83,84,85,86,87,88]
theorem Dk:∀ op∈opsL,pD op=((op,(cQ op).1,(cQ op).2),true):=by decide+kernel
theorem EK:∀ op∈opsL,((cQ op).2.all λc=>Km (c.toNat:Int))=true:=by decide+kernel
theorem pc (h:bH c op=true):op∈opsL\/op=1\/op=2\/op=3\/op=5\/op=6\/op=7:=by
 have h1:(10<=op/\op<=21)\/(30<=op/\op<=42)\/op=50\/op=51\/(60<=op/\op<=88)\/op=1\/op=2\/op=3\/op=5\/op=6\/op=7:=by
  unfold bH at h;split at h
  ·grind
  split at h
  ·grind
  split at h
  ·grind [gK,cJ]
  split at h
  all_goals grind [cJ,dy]
 by_cases h2:op=1\/op=2\/op=3\/op=5\/op=6\/op=7
 ·exact .inr h2
 ·left
  have key:∀ n:Nat,n<=88->((10<=n/\n<=21)\/(30<=n/\n<=42)\/n=50\/n=51\/(60<=n/\n<=88))->(n:Int)∈opsL:=by decide+kernel
  obtain⟨n,rfl⟩:=Z2a (aa:0<=op)
  grind
theorem yx {kids:Int} (h:bH c op=true):(eU op kids).2=(av op kids).2/\((av op kids).2=true->(eU op kids).1=(av op kids).1):=by
 rcases pc h with h|h
 ·have h1:=Dk op h
  unfold eU av;rw[h1]
  have hn: ¬(op=1\/op=2\/op=3\/op=6\/op=7)/\ ¬op=5:=by
   have key:∀ o∈opsL,¬(o=1\/o=2\/o=3\/o=6\/o=7)/\ ¬o=5:=by decide+kernel
   grind
  rw[if_neg hn.1,if_neg hn.2,if_neg hn.2];by_cases h33:op=33
  ·subst h33
   rw[if_neg aq,if_pos rfl];by_cases h0:kids=1
   ·subst h0;exact⟨rfl,λ_=>rfl⟩
   ·rw[if_neg (λh=>h0 h.2)]
    by_cases hz:kids=0
    ·subst hz;exact⟨by decide+kernel,λ_=>by decide+kernel⟩
    ·have:(kids<0\/1<kids):=aa
     rw[if_pos this];refine⟨?_,λh=>by cases h⟩;simp only[Z1r];rw[show (cQ 33).2=[] by decide+kernel];simp;omega
  all_goals grind
 ·unfold eU av
  rcases h with rfl|rfl|rfl|rfl|rfl|rfl
  all_goals
   first
    |(rw[if_neg ac,if_pos rfl,if_pos rfl];exact⟨rfl,λ_=>rfl⟩)
    |(rw[if_pos ac,if_neg ac,if_neg ac,if_neg (λh=>absurd h.1 ac)]
      rw[show (cQ _).2=[] by decide+kernel];refine⟨?_,λ_=>rfl⟩
      simp;omega)
theorem BX {kids:Int} (h:bH c op=true) (hk:(av op kids).2=true):∀ b∈(av op kids).1,Km (b.toNat:Int)=true:=by
 have he7:∀ n:Nat,∀ b∈e7.take n,Km (b.toNat:Int)=true:=λn b hb=>by
  have:=Z2x hb
  revert this;revert b;intro b hb this
  unfold e7 at this;simp at this;subst this;rfl
 unfold av;split
 ·grind
 ·split
  ·grind
  ·split
   ·intro b hb;simp at hb;rcases hb with rfl|rfl<;>rfl
   ·rename_i h5 h33 h31
    rcases pc h with h|h
    ·exact λb hb=>Z0i.1 (EK op h) b hb
    ·rcases h with rfl|rfl|rfl|rfl|rfl|rfl
     all_goals
      first
       |exact absurd rfl h5
       |(rw[show (cQ _).2=[] by decide+kernel];intro b hb;simp at hb)
theorem ER {x:Nd} (h:k≠115):b_ x 120=b_ x k:=by
 unfold b_;simp[h]
def kO (p:List Nd):Prop:=∀ x∈p,x.str.length<=4398046511104
theorem fb {p:List Nd} (h:kO p) (i:Nat):(p.getD i dN).str.length<=4398046511104:=by
 rw[Z00]
 cases e:p[i]? with
 |none=>simp[dN]
 |some x=>exact h x (Z4i e)
def Jo (p:List Nd) (f:Nat):Prop:=∀ (i:Nat) (k d:Int),d=33-(f:Int)->i<p.length->k≠115->k≠120->bH k (p.getD i dN).op=true->FQ 88 [al p,nI i,n8 120,nI d] 0 [] (xW (elemF p f i k)) 0 []
def Bo (p:List Nd) (f:Nat):Prop:=∀ (i:Nat) (k d:Int),d=33-(f:Int)->i<=p.length->Km k=true->FQ 88 [al p,nI i,n8 k,nI d] 0 [] (xW (dL p (decide (1<=f)) (elemF p f) (elemF p (f-1)) k i)) 0 []
theorem CQ (p:List Nd) (i:Nat) (k d:Int) (hd:32<d):FQ 88 [al p,nI i,n8 k,nI d] 0 [] (xW none) 0 []:=by
 refine wW Tryz.func88 ?_
 repeat'(first|refine y1 ?_|refine y2 ?_ ?_|refine y4 λh=>?_|refine lh (.inl rfl) rfl ?_|refine y3 ?_|exact y5|fail)
theorem CP (p:List Nd) (i:Nat) (k d:Int) (hi:p.length<=i):FQ 88 [al p,nI i,n8 k,nI d] 0 [] (xW none) 0 []:=by
 refine wW Tryz.func88 ?_
 repeat'(first|refine y1 ?_|refine y2 ?_ ?_|refine y4 λh=>?_|refine lh (.inl rfl) rfl ?_|refine y3 ?_|exact y5|fail)
theorem Ff (p:List Nd) (hp:p.length<=2048) (hw:kO p) (f:Nat) (hf:f<=32) (hc:Bo p f) (i:Nat) (k c d:Int) (hd:d=33-((f:Int)+1)) (hi:i<p.length) (hk:(c=120/\k≠115/\bH k (p.getD i dN).op=true)\/(c=k/\k≠120/\uu k=false)):
 FQ 88 [al p,nI i,n8 c,nI d] 0 [] (xW (elemF p (f+1) i k)) 0 []:=by
 rw[e9];have hget:p[i]? =some (p.getD i dN):=ae;unfold elemS;rw[hget];simp only
 have hblk:uu c=false:=by
  rcases hk with ⟨rfl,_⟩|⟨rfl,_,h⟩
  ·rfl
  ·exact h
 have hb:=ut c;rw[hblk] at hb;have hkc:=Ev (p.getD i dN).op (p.getD i dN).kids;have hfc:=B9 (p.getD i dN) c (fb hw i);have hpc:=pH c (p.getD i dN).op
 have hfk:b_ (p.getD i dN) c=b_ (p.getD i dN) k:=by
  grind [ER]
 rw[hfk] at hfc;have hks:=yx (c:=k) (op:=(p.getD i dN).op) (kids:=(p.getD i dN).kids);have hko:=BX (c:=k) (op:=(p.getD i dN).op) (kids:=(p.getD i dN).kids);generalize eU (p.getD i dN).op (p.getD i dN).kids=kb at*;obtain⟨ks,ok⟩:=kb;simp only at hkc hks;refine wW Tryz.func88 ?_
 cases hA:bH k (p.getD i dN).op with
 |false=>
  rw[if_neg aq]
  rcases hk with ⟨_,_,h⟩|⟨rfl,h120,_⟩
  ·grind
  ·rw[hA] at hpc
   cases ok
   all_goals
    repeat'(first|refine y1 ?_|refine y2 ?_ ?_|refine y4 λh=>?_|refine bG hb ?_|refine an hkc ?_|refine bG hpc ?_|refine lh (.inl rfl) rfl ?_|refine y3 ?_|exact y5|fail)
 |true=>
  obtain⟨e1,e2⟩:=hks hA
  have hpc2:c=k->FQ 87 [n8 c,nI (p.getD i dN).op] 0 [] (bV true) 0 []:=λh=>by grind
  clear hpc;cases ok
  ·rw[if_neg (λh=>by grind)]
   rcases hk with ⟨rfl,h1,_⟩|⟨rfl,h120,_⟩
   all_goals
    repeat'(first|refine y1 ?_|refine y2 ?_ ?_|refine y4 λh=>?_|refine bG hb ?_|refine an hkc ?_|refine lh (.inl rfl) rfl ?_|refine y3 ?_|exact y5|fail)
  ·have e3:=e2 e1.symm
   cases hF:b_ (p.getD i dN) k<;>rw[hF] at hfc
   ·rw[if_neg aq]
    rcases hk with ⟨rfl,h1,_⟩|⟨rfl,h120,_⟩
    all_goals
     repeat'(first|refine y1 ?_|refine y2 ?_ ?_|refine y4 λh=>?_|refine bG hb ?_|refine an hkc ?_|refine bG ((hpc2 rfl)) ?_|refine bG hfc ?_|refine lh (.inl rfl) rfl ?_|refine y3 ?_|exact y5|fail)
   ·rw[if_pos ⟨rfl,rfl,e1.symm⟩,<-e3]
    have hkk:∀ b∈ks,Km (b.toNat:Int)=true:=ae;have hlt:i<p.length:=hi
    rcases hk with ⟨rfl,h1,_⟩|⟨rfl,h120,_⟩
    all_goals
     repeat'(first|refine yA ?_|refine y2 ?_ ?_|refine y4 λh=>?_|refine bG hb ?_|refine an hkc ?_|refine bG ((hpc2 rfl)) ?_|refine bG hfc ?_|exact y5|fail)
     refine cy (σ:=Nat×Nat) (λx=>[(13,nI x.1),(1,nI x.2)]) (λx=>[(0,some {cells:=ndC (p.getD i dN),ty:=49})]) (λx=>(x.1<=ks.length/\i+1+x.1<=x.2)/\x.2<=p.length/\eJ (dL p (decide (1<=f)) (elemF p f) (elemF p (f-1))) ks (i+1)=eJ (dL p (decide (1<=f)) (elemF p f) (elemF p (f-1))) (ks.drop x.1) x.2) (λx=>ks.length-x.1) (0,i+1) rfl (λ_=>rfl) ⟨⟨Z08 _,Z02 _⟩,hlt,rfl⟩ aP ⟨rfl,trivial⟩ ?_;rintro⟨j,e⟩ ⟨⟨h1,h0⟩,h2,h3⟩;simp only at h1 h2 h3 h0 |-;by_cases hj:j<ks.length
     ·rw[Z0k hj] at h3
      have hkg:ks[j]=ks.getD j 0:=ae;rw[hkg] at h3;simp only[eJ] at h3;have hch:=hc e ((ks.getD j 0).toNat:Int) (d+1) aa h2 (hkk _ ae)
      have hle:=λe' (h:dL p (decide (1<=f)) (elemF p f) (elemF p (f-1)) ((ks.getD j 0).toNat:Int) e=some e')=>nu (λi k e h=>dm h) (λi k e h=>dm h) h
      generalize dL p (decide (1<=f)) (elemF p f) (elemF p (f-1)) ((ks.getD j 0).toNat:Int) e=r at*
      cases r with
      |none=>
       simp only at h3;rw[h3]
       repeat'(first|refine y1 ?_|refine y2 ?_ ?_|refine y4 λh=>?_|refine an hch ?_|refine lh (.inl rfl) rfl ?_|refine y3 ?_|exact y5|fail)
      |some e'=>
       simp only at h3;have:=hle e' rfl
       repeat'(first|refine y1 ?_|refine y2 ?_ ?_|refine y4 λh=>?_|refine an hch ?_|refine dz (j+1,e') ⟨⟨?_,?_⟩,?_,h3⟩ ?_ rfl aP ⟨rfl,trivial⟩ rfl rfl ac|refine y3 ?_|exact y5|fail)
     ·
      have:ks.drop j=[]:=ae;rw[this] at h3;simp only[eJ] at h3;rw[h3]
      repeat'(first|refine y1 ?_|refine y2 ?_ ?_|refine y4 λh=>?_|refine lh (.inl rfl) rfl ?_|refine y3 ?_|exact y5|fail)
theorem iW {p:List Nd} {f i:Nat} (h:i<p.length->bH k (p.getD i dN).op=false):elemF p f i k=none:=by
 have key:∀ ok E0 E1,elemS p ok E0 E1 i k=none:=by
  grind [elemS]
 match f with
 |0=>rfl
 |1=>exact key _ _ _
 |f+2=>exact key _ _ _
theorem AW (p:List Nd) (hp:p.length<=2048) (hw:kO p) (f:Nat) (hf:f<=33) (h1:1<=f->Jo p (f-1)) (h2:1<=f->Bo p (f-1)):Bo p f:=by
 intro i k d hd hi hk;obtain⟨hbk,h120⟩:=HG hk;unfold dL
 rcases Z21 f with rfl|hpos
 ·have:∀ o,o=none->FQ 88 [al p,nI i,n8 k,nI d] 0 [] (xW o) 0 []:=λo h=>by rw[h];exact CQ p i k d aa
  refine this _ ?_;split
  ·grind
  ·rfl
 rcases Z0a i p.length with hlt|hge
 ·have hget:p[i]? =some (p.getD i dN):=ae
  cases hB:dY k with
  |false=>
   simp only[Z0l,if_false]
   obtain⟨f',rfl⟩:∃ f',f=f'+1:=⟨f-1,aa⟩
   grind [Ff]
  |true=>
   rw[hB] at hbk;have hb:=ut k;rw[hbk] at hb;simp only[if_true];rw[hget];simp only;have hpos:1<=f:=hpos;rw[decide_eq_true hpos];generalize hT:(if true=true/\(p.getD i dN).op=4/\(p.getD i dN).int=0/\(p.getD i dN).str=[]/\0<=(p.getD i dN).kids then cR (λe=>elemF p (f-1) e k) (p.getD i dN).kids.toNat (i+1) else none)=T
   have hnone:(¬((p.getD i dN).op=4/\(p.getD i dN).int=0/\(p.getD i dN).str=[]/\0<=(p.getD i dN).kids)\/(p.length:Int)<(p.getD i dN).kids)->T=none:=λh=>by
    rw[<-hT]
    rcases h with h|h
    ·grind
    ·split
     ·rename_i hc
      cases hbf:cR (λe=>elemF p (f-1) e k) (p.getD i dN).kids.toNat (i+1) with
      |none=>rfl
      |some e=>
       have:=nA (N:=p.length) (λi e h=>dm h) hlt hbf;omega
     ·rfl
   refine wW Tryz.func88 ?_
   repeat'(first|refine y1 ?_|refine y2 ?_ ?_|refine y4 λh=>?_|refine bG hb ?_|refine lh (.inl rfl) rfl ?_|refine y3 ?_|exact y5|fail)
   all_goals try (rw[hnone (by first|(left;intro h;simp_all;done)|(right;omega)|(left;intro h;omega))])
   have hk0:0<=(p.getD i dN).kids:=aa;have hx:(p.getD i dN).str=[]:=‹_›;rw[if_pos ⟨rfl,ae,ae,hx,hk0⟩] at hT;clear hnone;generalize hK:(p.getD i dN).kids.toNat=K at*;have hKi:(p.getD i dN).kids=(K:Int):=aa;refine cy (σ:=Nat×Nat) (λx=>[(10,nI x.1),(1,nI x.2)]) (λx=>[(0,some {cells:=ndC (p.getD i dN),ty:=49})]) (λx=>(x.1<=K/\i+1+x.1<=x.2)/\x.2<=p.length/\T=cR (λe=>elemF p (f-1) e k) (K-x.1) x.2) (λx=>K-x.1) (0,i+1) rfl (λ_=>rfl) ⟨⟨Z08 _,Z02 _⟩,hlt,hT.symm⟩ aP ⟨rfl,trivial⟩ ?_;rintro⟨j,e⟩ ⟨⟨g1,g0⟩,g2,g3⟩;simp only at g1 g2 g3 g0 |-;by_cases hj:j<K
   ·rw[show K-j=(K-(j+1))+1 by omega] at g3
    simp only[cR] at g3;have hpc:=pH k (p.getD e dN).op;by_cases hel:e<p.length
    ·cases hA:bH k (p.getD e dN).op<;>rw[hA] at hpc
     ·rw[iW (λ_=>hA)] at g3
      simp only at g3;rw[g3]
      repeat'(first|refine y1 ?_|refine y2 ?_ ?_|refine y4 λh=>?_|refine bG hpc ?_|refine lh (.inl rfl) rfl ?_|refine y3 ?_|exact y5|fail)
     ·have h115:k≠115:=λh=>by rw[h] at hB;revert hB;decide
      have hch:=h1 hpos e k (d+1) aa hel h115 h120 hA
      have hle:=λe' (h:elemF p (f-1) e k=some e')=>dm h
      generalize elemF p (f-1) e k=r at*
      cases r with
      |none=>
       simp only at g3;rw[g3]
       repeat'(first|refine y1 ?_|refine y2 ?_ ?_|refine y4 λh=>?_|refine bG hpc ?_|refine an hch ?_|refine lh (.inl rfl) rfl ?_|refine y3 ?_|exact y5|fail)
      |some e'=>
       simp only at g3;have:=hle e' rfl
       repeat'(first|refine y1 ?_|refine y2 ?_ ?_|refine y4 λh=>?_|refine bG hpc ?_|refine an hch ?_|refine dz (j+1,e') ⟨⟨?_,?_⟩,?_,g3⟩ ?_ rfl aP ⟨rfl,trivial⟩ rfl rfl ac|refine y3 ?_|exact y5|fail)
    ·rw[iW (λh=>absurd h hel)] at g3
     simp only at g3;rw[g3]
     repeat'(first|refine y1 ?_|refine y2 ?_ ?_|refine y4 λh=>?_|refine lh (.inl rfl) rfl ?_|refine y3 ?_|exact y5|fail)
   ·
    rw[show K-j=0 by omega] at g3;simp only[cR] at g3;rw[g3]
    repeat'(first|refine y1 ?_|refine y2 ?_ ?_|refine y4 λh=>?_|refine lh (.inl rfl) rfl ?_|refine y3 ?_|exact y5|fail)
 ·have:∀ o,o=none->FQ 88 [al p,nI i,n8 k,nI d] 0 [] (xW o) 0 []:=λo h=>by rw[h];exact CP p i k d hge
  grind [iW]
theorem uR (p:List Nd) (hp:p.length<=2048) (hw:kO p):∀ f,f<=33->Jo p f/\Bo p f
 |0,_=>⟨λi k d hd hi _ _ _=>CQ p i 120 d aa,AW p hp hw 0 aa (λh=>by omega) (λh=>by omega)⟩
 |f+1,hf=>by
  have ih:=uR p hp hw f aa;exact⟨λi k d hd hi h1 h2 h3=>Ff p hp hw f aa ih.2 i k 120 d aa hi (.inl ⟨rfl,h1,h3⟩),AW p hp hw (f+1) hf (λ_=>ih.1) (λ_=>ih.2)⟩
theorem kP (p:List Nd) (hw:kO p):FQ 47 [al p] 0 [] (bV (eR p)) 0 []:=by
 unfold eR;refine wW Tryz.func47 ?_;by_cases hp:p.length<=2048
 ·
  rw[decide_eq_true hp,Z1r]
  repeat'(first|refine y1 ?_|refine y2 ?_ ?_|refine y4 λh=>?_|refine y3 ?_|exact y5|fail)
  generalize hT:qR p (p.length+1) 0=T;refine cy (σ:=Nat×Nat) (λx=>[(3,nI x.2)]) (λx=>[]) (λx=>x.1<=x.2/\x.2<=p.length/\T=qR p (p.length+1-x.1) x.2) (λx=>p.length-x.2) (0,0) rfl (λ_=>rfl) ⟨Z02 _,Z08 _,hT.symm⟩ aP trivial ?_;clear hT;rintro⟨j,i⟩ ⟨h1,h2,h3⟩;simp only at h1 h2 h3 |-;rw[show p.length+1-j=(p.length-j)+1 by omega] at h3;simp only[qR] at h3;by_cases hlt:i<p.length
  ·rw[if_pos hlt] at h3
   have hpc:=pH 68 (p.getD i dN).op
   cases hA:bH 68 (p.getD i dN).op<;>rw[hA] at hpc
   ·rw[iW (λ_=>hA)] at h3
    simp only at h3
    repeat'(first|refine y1 ?_|refine y2 ?_ ?_|refine y4 λh=>?_|refine bG hpc ?_|refine cL (.inl rfl) rfl ?_|refine y3 ?_|exact y5|fail)
    grind
   ·have hch:=(uR p hp hw 32 ac).1 i 68 1 ac hlt ac ac hA
    have hle:=λe' (h:elemF p 32 i 68=some e')=>dm h
    generalize elemF p 32 i 68=r at*
    cases r with
    |none=>
     simp only at h3
     repeat'(first|refine y1 ?_|refine y2 ?_ ?_|refine y4 λh=>?_|refine bG hpc ?_|refine an hch ?_|refine cL (.inl rfl) rfl ?_|refine y3 ?_|exact y5|fail)
     grind
    |some e'=>
     simp only at h3;have:=hle e' rfl
     repeat'(first|refine y1 ?_|refine y2 ?_ ?_|refine y4 λh=>?_|refine bG hpc ?_|refine an hch ?_|refine dz (j+1,e') ⟨?_,?_,?_⟩ ?_ rfl aP trivial rfl rfl ac|refine y3 ?_|exact y5|fail)
     grind
  ·
   rw[if_neg hlt] at h3
   repeat'(first|refine y1 ?_|refine y2 ?_ ?_|refine y4 λh=>?_|refine cL (.inl rfl) rfl ?_|refine y3 ?_|exact y5|fail)
   grind
 ·
  rw[decide_eq_false hp,Z2c]
  repeat'(first|refine y1 ?_|refine y2 ?_ ?_|refine y4 λh=>?_|refine cL (.inl rfl) rfl ?_|refine y3 ?_|exact y5|fail)
end
