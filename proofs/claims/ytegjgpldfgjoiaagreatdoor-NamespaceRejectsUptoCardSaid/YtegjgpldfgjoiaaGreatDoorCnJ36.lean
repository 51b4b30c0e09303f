import Derived.Test.YtegjgpldfgjoiaaGreatDoorCnJ32
set_option linter.all false
set_option maxHeartbeats 40000000
set_option maxRecDepth 100000
namespace Go.Proofs.YtegjgpldfgjoiaaGreatDoor
open Go Ab
section
variable {i:Nat}
def e8 (s:By):List Inf->Nat->Int
 |[],_=> -1
 |x::l,i=>if x.path=s then (i:Int) else e8 s l (i+1)
def dH (L:List Inf) (s:By):Int:=e8 s L 0
theorem wJ (L:List Inf) (hl:L.length<=2048) (s:By):FQ 107 [mV L,sV s] 0 [] (nI (dH L s)) 0 []:=by
 unfold dH;generalize hR:e8 s L 0=R;refine wW Tryz.func107 ?_
 repeat'(first|refine yA ?_|refine y2 ?_ ?_|exact y5|fail)
 refine cy (σ:=Nat) (λj=>[(5,nI j)]) (λ_=>[]) (λj=>j<=L.length/\e8 s (L.drop j) j=R) (λj=>L.length-j) 0 rfl (λ_=>rfl) ⟨Z08 _,hR⟩ aP trivial ?_;rintro j ⟨hj,hI⟩;by_cases h:j<L.length
 ·have hd:L.drop j=L.getD j ini::L.drop (j+1):=by
   rw[Z0k h,Z00,Z01 h];rfl
  rw[hd] at hI;simp only[e8] at hI;by_cases ho:(L.getD j ini).path=s
  ·rw[if_pos ho] at hI
   repeat'(first|refine y1 ?_|refine y2 ?_ ?_|refine y4 λh=>?_|refine lh (.inl rfl) rfl ?_|refine y3 ?_|exact y5|fail)
  ·rw[if_neg ho] at hI
   repeat'(first|refine yA ?_|refine y2 ?_ ?_|refine y4 λh=>?_|exact y5|fail)
   refine dz (j+1) ⟨aa,hI⟩ aa rfl aP trivial rfl rfl ac
 ·rw[Z10 aa] at hI
  simp only[e8] at hI
  repeat'(first|refine y1 ?_|refine y2 ?_ ?_|refine y4 λh=>?_|refine lh (.inl rfl) rfl ?_|refine y3 ?_|exact y5|fail)
theorem J5 {p:List Nd} {cs:List Nat} (hkc:FQ 105 [al p,nI i] 0 [] (.s (eQ cs)) 0 []) (k:Nat) (hk:k<cs.length) (hb:cs.getD k 0<p.length):FQ 112 [al p,nI i,nI k] 0 [] (nU (aj p (cs.getD k 0))) 0 []:=by
 refine wW Tryz.func112 ?_
 repeat'(first|refine y1 ?_|refine y2 ?_ ?_|refine an hkc ?_|refine lh (.inl rfl) rfl ?_|refine y3 ?_|exact y5|fail)
def og (w:Int):Bool:=decide (w=1\/w=2\/w=4\/w=8)
theorem zF (w:Int):FQ 170 [nU w] 0 [] (bV (og w)) 0 []:=by
 refine wW Tryz.func170 ?_
 repeat'(first|refine y1 ?_|refine y2 ?_ ?_|refine y4 λh=>?_|refine cL (.inl rfl) rfl ?_|refine y3 ?_|exact y5|fail)
 all_goals (unfold og;first|(rw[decide_eq_true aa];done)|(rw[decide_eq_false aa];done)|(simp;omega))
theorem be:∀ (ls:List Int) (r:List (Bool×Int)) (t:Fo) (j:Nat),ls.all eI=true->t.V (ls.map (λc=>(false,c))++r)->∀ k,k<ls.length\/(k=ls.length/\r≠[])->(t.starts j).getD k 0=j+k/\k<(t.starts j).length
 |[],r,t,j,_,hv,k,hk=>by
  obtain⟨rfl,hr⟩:k=0/\r≠[]:=by
   grind
  cases t with
  |nil=>
   cases r with
   |nil=>grind
   |cons a r=>exact hv.elim
  |cons x kk n=>exact⟨rfl,by simp[Fo.starts]⟩
 |c::ls,r,t,j,hl,hv,k,hk=>by
  simp only[Z1b,Z07] at hl;obtain⟨y,n,rfl,h1,_⟩:=eN hl.1 hv
  cases k with
  |zero=>exact⟨rfl,by simp[Fo.starts]⟩
  |succ k=>
   have ih:=be ls r n (j+1) hl.2 h1 k (by
    rcases hk with h|⟨h,h'⟩
    ·left;simpa using h
    ·right;exact⟨by simpa using h,h'⟩)
   grind [Fo.starts,Fo.size]
def rN (op:Int):Nat:=
 if op=10\/op=11\/op=13\/op=18\/op=20\/op=41\/op=50\/op=51 then 2 else if op=12\/op=15\/op=16 then 4 else if op=14\/op=17 then 5 else if op=19\/op=21 then 1 else 0
section
variable {p:List Nd} {t:Fo} {cs:List (Bool×Int)}
theorem ko (ha:t.At p 0) (hv:t.V cs) (hi:i<t.size) {k:Nat} (hk:k<rN (p.getD i dN).op):((t.kid 0 i).starts (i+1)).getD k 0=i+1+k/\k<((t.kid 0 i).starts (i+1)).length/\i+1+k<t.size:=by
 have h4:(p.getD i dN).op≠4:=by grind [rN]
 obtain⟨_,_,h2,_⟩:=bT ha hv hi h4
 have key:((t.kid 0 i).starts (i+1)).getD k 0=i+1+k/\k<((t.kid 0 i).starts (i+1)).length:=by
  have hop:(p.getD i dN).op=10\/(p.getD i dN).op=11\/(p.getD i dN).op=13\/(p.getD i dN).op=18\/(p.getD i dN).op=20\/(p.getD i dN).op=41\/(p.getD i dN).op=50\/(p.getD i dN).op=51\/(p.getD i dN).op=12\/(p.getD i dN).op=15\/(p.getD i dN).op=16\/(p.getD i dN).op=14\/(p.getD i dN).op=17\/(p.getD i dN).op=19\/(p.getD i dN).op=21:=by
   grind [rN]
  rcases hop with e|e|e|e|e|e|e|e|e|e|e|e|e|e|e<;>rw[e] at h2 hk
  ·exact be [110] [(true,68)] _ _ rfl h2 k (by have:k<2:=hk;simp;omega)
  ·exact be [115] [(true,68)] _ _ rfl h2 k (by have:k<2:=hk;simp;omega)
  ·exact be [115] [(false,100)] _ _ rfl h2 k (by have:k<2:=hk;simp;omega)
  ·exact be [115,105] [] _ _ rfl h2 k (by have:k<2:=hk;simp;omega)
  ·exact be [115,105] [] _ _ rfl h2 k (by have:k<2:=hk;simp;omega)
  ·exact be [110,105] [] _ _ rfl h2 k (by have:k<2:=hk;simp;omega)
  ·exact be [105] [(true,73)] _ _ rfl h2 k (by have:k<2:=hk;simp;omega)
  ·exact be [105] [(true,80)] _ _ rfl h2 k (by have:k<2:=hk;simp;omega)
  ·exact be [115,105,105] [(true,68)] _ _ rfl h2 k (by have:k<4:=hk;simp;omega)
  ·exact be [115,105,105,105] [] _ _ rfl h2 k (by have:k<4:=hk;simp;omega)
  ·exact be [110,105,105] [(true,70)] _ _ rfl h2 k (by have:k<4:=hk;simp;omega)
  ·exact be [115,105,105,105] [(true,83)] _ _ rfl h2 k (by have:k<5:=hk;simp;omega)
  ·exact be [110,110,105,105] [(true,70)] _ _ rfl h2 k (by have:k<5:=hk;simp;omega)
  ·exact be [105] [] _ _ rfl h2 k (by have:k<1:=hk;simp;omega)
  ·exact be [115] [] _ _ rfl h2 k (by have:k<1:=hk;simp;omega)
 refine⟨key.1,key.2,?_⟩
 have hm:((t.kid 0 i).starts (i+1)).getD k 0∈(t.kid 0 i).starts (i+1):=by
  grind
 have:=(fi ha hi hm).2.1
 grind
theorem pO (hp:p.length<=2048) (ha:t.At p 0) (hv:t.V cs) (hs:t.size=p.length) (hi:i<t.size) (k:Nat) (hk:k<rN (p.getD i dN).op):FQ 112 [al p,nI i,nI k] 0 [] (nU (aj p (i+1+k))) 0 []:=by
 obtain⟨h1,h2,h3⟩:=ko ha hv hi hk;have:=J5 (eV hp ha hv hs hi) k h2 ae
 grind
theorem lS:∀ (t:Fo) (j n:Nat),t.V (List.replicate n (false,73))->t.starts j=List.range' j n/\t.size=n/\t.cnt=n
 |t,j,0,h=>by
  have:=iE h;subst this;exact⟨rfl,rfl,rfl⟩
 |t,j,n+1,h=>by
  rw[Z16] at h;obtain⟨y,m,rfl,h1,_⟩:=eN ac h;obtain⟨h2,h3,h4⟩:=lS m (j+1) n h1;refine⟨?_,by simp only[Fo.size];omega,by simp only[Fo.cnt];omega⟩;simp only[Fo.starts,Fo.size,Z0p,h2];rfl
theorem FP (ha:t.At p 0) (hv:t.V cs) (hi:i<t.size) (hop:(p.getD i dN).op=50):∃ K:Nat,(p.getD (i+2) dN).kids=(K:Int)/\(t.kid 0 (i+2)).starts (i+3)=List.range' (i+3) K/\i+3+K<=t.size:=by
 obtain⟨h0,h1,h2,_⟩:=bT ha hv hi aa;rw[hop] at h2;have h3:=bv (t:=t) (Z08 i) aa;have h4:=ct ha (Z08 i) aa (m:=i+2);generalize t.kid 0 i=k at*;obtain⟨y,n,rfl,g1,_⟩:=eN (c:=105) ac h2;obtain⟨b,bl,n2,rfl,g2,g3,g4⟩:=jY g1;have:=iE g2;subst this;obtain⟨f1,f2,f3⟩:=lS bl (i+3) bl.cnt g4;have e:=(h4 aa (by simp only[Fo.size];omega) ini).1
 have e2:t.kid 0 (i+2)=bl:=by rw[e];simp[Fo.kid,Fo.size]
 have h5:(Fo.cons b bl .nil).At p (i+2):=by have:=h1.2.2.2;simpa [Fo.size] using this
 refine⟨bl.cnt,by rw[At.get h5];exact h5.2.1,ae,?_⟩;simp only[Fo.size] at h3;omega
theorem wD (hp:p.length<=2048) (hI:li p) (ha:t.At p 0) (hv:t.V cs) (hs:t.size=p.length) (hi:i<t.size):FQ 108 [al p,nI i] 0 [] (bV (!aN p i)) 0 []:=by
 have hnum:=λ(k:Nat)=>pO hp ha hv hs hi k
 have hin:i<p.length:=aa
 have hge:∀ j,0<=aj p j:=λj=>ce hI j
 by_cases h12:(p.getD i dN).op=12
 ·have n1:=hnum 1 (by rw[h12];decide)
  have n2:=hnum 2 (by rw[h12];decide);have g1:=hge (i+1+1);have g2:=hge (i+1+2)
  have hoor:aN p i=(decide (5<aj p (i+1+1))||decide (65535<aj p (i+1+2))):=by unfold aN;(repeat (first|rw[if_pos h12]|rw[if_neg aa]))
  clear hnum hge;refine wW Tryz.func108 ?_
  repeat'(first|refine y1 ?_|refine y2 ?_ ?_|refine y4 λh=>?_|refine an n1 ?_|refine an n2 ?_|refine cL (.inl rfl) rfl ?_|refine y3 ?_|exact y5|fail)
  all_goals (rw[hoor];first|(simp;omega)|(simp[*];done)|(simp[og] at*;omega))
 by_cases h14:(p.getD i dN).op=14
 ·have n1:=hnum 1 (by rw[h14];decide)
  have n2:=hnum 2 (by rw[h14];decide);have n3:=hnum 3 (by rw[h14];decide);have g1:=hge (i+1+1);have g2:=hge (i+1+2);have g3:=hge (i+1+3)
  have hoor:aN p i=(decide (7<aj p (i+1+1))||decide (1<aj p (i+1+2))||decide (15<aj p (i+1+3))):=by unfold aN;(repeat (first|rw[if_pos h14]|rw[if_neg aa]))
  clear hnum hge;refine wW Tryz.func108 ?_
  repeat'(first|refine y1 ?_|refine y2 ?_ ?_|refine y4 λh=>?_|refine an n1 ?_|refine an n2 ?_|refine an n3 ?_|refine cL (.inl rfl) rfl ?_|refine y3 ?_|exact y5|fail)
  all_goals (rw[hoor];first|(simp;omega)|(simp[*];done)|(simp[og] at*;omega))
 by_cases h20:(p.getD i dN).op=20
 ·have n1:=hnum 1 (by rw[h20];decide)
  have g1:=hge (i+1+1)
  have hoor:aN p i=(decide (15<aj p (i+1+1))):=by unfold aN;(repeat (first|rw[if_pos h20]|rw[if_neg aa]))
  clear hnum hge;refine wW Tryz.func108 ?_
  repeat'(first|refine y1 ?_|refine y2 ?_ ?_|refine y4 λh=>?_|refine an n1 ?_|refine cL (.inl rfl) rfl ?_|refine y3 ?_|exact y5|fail)
  all_goals (rw[hoor];first|(simp;omega)|(simp[*];done)|(simp[og] at*;omega))
 by_cases h15:(p.getD i dN).op=15
 ·have n1:=hnum 1 (by rw[h15];decide)
  have n2:=hnum 2 (by rw[h15];decide);have n3:=hnum 3 (by rw[h15];decide);have g1:=hge (i+1+1);have g2:=hge (i+1+2);have g3:=hge (i+1+3)
  have hoor:aN p i=(jf (aj p (i+1+1)) (aj p (i+1+2)) (aj p (i+1+3))):=by unfold aN;(repeat (first|rw[if_pos h15]|rw[if_neg aa]))
  unfold jf at hoor;clear hnum hge;refine wW Tryz.func108 ?_
  repeat'(first|refine y1 ?_|refine y2 ?_ ?_|refine y4 λh=>?_|refine an n1 ?_|refine an n2 ?_|refine an n3 ?_|refine cL (.inl rfl) rfl ?_|refine y3 ?_|exact y5|fail)
  all_goals (rw[hoor];first|(simp;omega)|(simp[*];done)|(simp[og] at*;omega))
 by_cases h16:(p.getD i dN).op=16
 ·have n1:=hnum 1 (by rw[h16];decide)
  have n2:=hnum 2 (by rw[h16];decide);have g1:=hge (i+1+1);have g2:=hge (i+1+2)
  have hoor:aN p i=(jW (aj p (i+1+1)) (aj p (i+1+2))):=by unfold aN;(repeat (first|rw[if_pos h16]|rw[if_neg aa]))
  unfold jW at hoor;have hw:=zF (aj p (i+1+1));clear hnum hge;refine wW Tryz.func108 ?_
  repeat'(first|refine y1 ?_|refine y2 ?_ ?_|refine y4 λh=>?_|refine an n1 ?_|refine an n2 ?_|refine bG hw ?_|refine cL (.inl rfl) rfl ?_|refine y3 ?_|exact y5|fail)
  all_goals (rw[hoor];first|(simp;omega)|(simp[*];done)|(simp[og] at*;omega))
 by_cases h17:(p.getD i dN).op=17
 ·have n2:=hnum 2 (by rw[h17];decide)
  have n3:=hnum 3 (by rw[h17];decide);have g2:=hge (i+1+2);have g3:=hge (i+1+3)
  have hoor:aN p i=(jW (aj p (i+1+2)) (aj p (i+1+3))):=by unfold aN;(repeat (first|rw[if_pos h17]|rw[if_neg aa]))
  unfold jW at hoor;have hw:=zF (aj p (i+1+2));clear hnum hge;refine wW Tryz.func108 ?_
  repeat'(first|refine y1 ?_|refine y2 ?_ ?_|refine y4 λh=>?_|refine an n2 ?_|refine an n3 ?_|refine bG hw ?_|refine cL (.inl rfl) rfl ?_|refine y3 ?_|exact y5|fail)
  all_goals (rw[hoor];first|(simp;omega)|(simp[*];done)|(simp[og] at*;omega))
 by_cases h18:(p.getD i dN).op=18
 ·have n1:=hnum 1 (by rw[h18];decide)
  have g1:=hge (i+1+1)
  have hoor:aN p i=(decide (aj p (i+1+1)=0)||decide (256<aj p (i+1+1))):=by unfold aN;(repeat (first|rw[if_pos h18]|rw[if_neg aa]))
  clear hnum hge;refine wW Tryz.func108 ?_
  repeat'(first|refine y1 ?_|refine y2 ?_ ?_|refine y4 λh=>?_|refine an n1 ?_|refine cL (.inl rfl) rfl ?_|refine y3 ?_|exact y5|fail)
  all_goals (rw[hoor];first|(simp;omega)|(simp[*];done)|(simp[og] at*;omega))
 by_cases h19:(p.getD i dN).op=19
 ·have n0:=hnum 0 (by rw[h19];decide)
  have g0:=hge (i+1+0)
  have hoor:aN p i=(decide (8388608<aj p (i+1+0))):=by unfold aN;(repeat (first|rw[if_pos h19]|rw[if_neg aa]))
  clear hnum hge;refine wW Tryz.func108 ?_
  repeat'(first|refine y1 ?_|refine y2 ?_ ?_|refine y4 λh=>?_|refine an n0 ?_|refine cL (.inl rfl) rfl ?_|refine y3 ?_|exact y5|fail)
  all_goals (rw[hoor];first|(simp;omega)|(simp[*];done)|(simp[og] at*;omega))
 by_cases h51:(p.getD i dN).op=51
 ·have n0:=hnum 0 (by rw[h51];decide)
  have g0:=hge (i+1+0)
  have hoor:aN p i=(decide (64<aj p (i+1+0))):=by unfold aN;(repeat (first|rw[if_pos h51]|rw[if_neg aa]))
  clear hnum hge;refine wW Tryz.func108 ?_
  repeat'(first|refine y1 ?_|refine y2 ?_ ?_|refine y4 λh=>?_|refine an n0 ?_|refine cL (.inl rfl) rfl ?_|refine y3 ?_|exact y5|fail)
  all_goals (rw[hoor];first|(simp;omega)|(simp[*];done)|(simp[og] at*;omega))
 by_cases h41:(p.getD i dN).op=41
 ·have n1:=hnum 1 (by rw[h41];decide)
  have g1:=hge (i+1+1)
  have hoor:aN p i=(decide (65535<aj p (i+1+1))):=by unfold aN;(repeat (first|rw[if_pos h41]|rw[if_neg aa]))
  clear hnum hge;refine wW Tryz.func108 ?_
  repeat'(first|refine y1 ?_|refine y2 ?_ ?_|refine y4 λh=>?_|refine an n1 ?_|refine cL (.inl rfl) rfl ?_|refine y3 ?_|exact y5|fail)
  all_goals (rw[hoor];first|(simp;omega)|(simp[*];done)|(simp[og] at*;omega))
 by_cases h50:(p.getD i dN).op=50
 ·have n0:=hnum 0 (by rw[h50];decide)
  rw[Z0p] at n0;obtain⟨K,hK,hst,hle⟩:=FP ha hv hi h50;have hk1:=eV hp ha hv hs hi;obtain⟨l1,l2,l3⟩:=ko ha hv hi (k:=1) (by rw[h50];decide);have hk2:FQ 105 [al p,nI (i+1+1:Nat)] 0 [] (.s (eQ (List.range' (i+3) K))) 0 []:=hst▸eV hp ha hv hs (i:=i+2) aa;rw[<-l1] at hk2;have hoor:=DJ h50;rw[hK,Z12] at hoor;rw[hoor];have hbl:(List.range' (i+3) K).length=K:=aq
  have hbg:∀ k,k<K->(List.range' (i+3) K).getD k 0=i+3+k:=λk hk=>by
   grind
  generalize List.range' (i+3) K=bs at*;have hsz2:((t.kid 0 i).starts (i+1)).getD 1 0<p.length:=aa;generalize (t.kid 0 i).starts (i+1)=ks at*;clear hnum hoor hst;refine wW Tryz.func108 ?_
  repeat'(first|refine yA ?_|refine y2 ?_ ?_|refine y4 λh=>?_|refine an hk1 ?_|refine an hk2 ?_|exact y5|fail)
  refine cy (σ:=Nat) (λj=>[(9,nI j)]) (λ_=>[]) (λj=>j<=K/\∀ x,x<j-> ¬255<aj p (i+3+x)) (λj=>K-j) 0 rfl (λ_=>rfl) ⟨Z08 _,λx hx=>by omega⟩ aP trivial ?_;rintro j ⟨j1,j2⟩;by_cases hj:j<K
  ·have hg:=hbg j hj
   have hjb:j<bs.length:=aa;have hjp:bs.getD j 0<p.length:=aa;by_cases hbig:255<aj p (bs.getD j 0)
   ·
    repeat'(first|refine y1 ?_|refine y2 ?_ ?_|refine y4 λh=>?_|refine cL (.inl rfl) rfl ?_|refine y3 ?_|exact y5|fail)
    all_goals try first
     |(rw[qE (j:=j) hj ae,Z4m];rfl)
     |(exfalso;exact absurd hbig (by assumption))
   ·
    repeat'(first|refine y1 ?_|refine y2 ?_ ?_|refine y4 λh=>?_|refine cL (.inl rfl) rfl ?_|refine y3 ?_|exact y5|fail)
    all_goals try (exfalso;exact hbig (by assumption))
    refine dz (j+1) ⟨aa,λx hx=>?_⟩ aa rfl ⟨bB (congrArg nI ae),trivial⟩ trivial rfl rfl ac
    grind
  ·rw[uw (λx hx=>j2 x aa),Z41]
   repeat'(first|refine y1 ?_|refine y2 ?_ ?_|refine y4 λh=>?_|refine an n0 ?_|refine cL (.inl rfl) rfl ?_|refine y3 ?_|exact y5|fail)
   all_goals (simp;omega)
 have hoor:aN p i=false:=by unfold aN;(repeat (first|rw[if_neg aa]))
 rw[hoor];clear hnum hge;refine wW Tryz.func108 ?_
 repeat'(first|refine y1 ?_|refine y2 ?_ ?_|refine y4 λh=>?_|refine cL (.inl rfl) rfl ?_|refine y3 ?_|exact y5|fail)
end
end
