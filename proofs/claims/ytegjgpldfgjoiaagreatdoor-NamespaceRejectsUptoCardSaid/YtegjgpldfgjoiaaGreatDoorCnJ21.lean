import Derived.Test.YtegjgpldfgjoiaaGreatDoorCnJ19
set_option linter.all false
set_option maxHeartbeats 40000000
set_option maxRecDepth 100000
namespace Go.Proofs.YtegjgpldfgjoiaaGreatDoor
open Go Ab
theorem CI (x:Int):IntKind.u64.wrap x=x%18446744073709551616:=by rfl
theorem Ar (x:Int) (n:Nat) (h0:0<n) (h1:n<4611686018427387904):FQ 36 [nI x,nI n] 0 [] (nI (x%18446744073709551616%n)) 0 []:=by
 have hr:0<=x%18446744073709551616:=Z5s _ ac;have hr2:0<=x%18446744073709551616%n:=Z5s _ aa;have hr3:x%18446744073709551616%n<n:=Int.emod_lt_of_pos _ aa;have ht:(x%18446744073709551616).tmod n=x%18446744073709551616%n:=Int.tmod_eq_emod_of_nonneg hr;refine wW Tryz.func36 ?_;refine Ex.seq (Ex.reg hm (RegX.chunkN 1 rfl rfl ⟨trivial,trivial⟩ (RegX.nilF (Then.normal (Ex.seq (Ex.reg hm (RegX.chunkN 1 rfl rfl ⟨trivial,trivial⟩ ?_)))))));refine mo [.num (x%18446744073709551616)] rfl rfl ⟨trivial,CI x⟩ ?_
 repeat'(first|refine y1 ?_|refine y2 ?_ ?_|refine lh (.inl rfl) rfl ht|refine y3 ?_|exact y5|fail)
def kM (l:List Int):S:=.frz (λk=>[.int .i64 (l.getD k 0)]) 1 l.length
abbrev cW (l:List Int) (i:Nat):Hp:=[(0,some {cells:=[kM l,.int .i64 (i:Int)],ty:=97})]
abbrev cP:V:=.s (.ptr (some (0,0)))
theorem aJ (l:List Int) (hl:l.length<=20000000000000) (n:Nat) (h0:0<n) (h1:n<4611686018427387904) (i:Nat) (hi:i<=l.length):
 ∃ r i':Nat,r<n/\i'<=l.length/\FQ 18 [cP,nI n] 1 (cW l i) (nI r) 1 (cW l i'):=by
 rcases Z0a i l.length with h|h
 ·have hm0:=Ar (l.getD i 0) n h0 h1
  have hr2:0<=l.getD i 0%18446744073709551616%n:=Z5s _ aa;have hr3:l.getD i 0%18446744073709551616%n<n:=Int.emod_lt_of_pos _ aa;obtain⟨r,hr⟩:=Z2a hr2;rw[hr] at hm0 hr3;refine⟨r,i+1,aa,h,?_⟩;unfold cW kM;refine wW Tryz.func18 ?_;have hk:(i:Int)+1-1=i:=aa
  repeat'(first|refine yA ?_|refine y2 ?_ ?_|refine y4 λh=>?_|exact y5|fail)
  refine RegX.chunkN 9 rfl rfl ?_ (RegX.eqv 30 (congrArg nI hk) rfl ?_)
  repeat'(first|refine yA ?_|refine y2 ?_ ?_|refine an hm0 ?_|exact y5|fail)
  exact bK
 ·refine⟨0,i,h0,hi,?_⟩
  unfold cW kM;refine wW Tryz.func18 ?_
  repeat'(first|refine yA ?_|refine y2 ?_ ?_|refine y4 λh=>?_|exact y5|fail)
  exact bK
theorem Kf (l:List Int) (hl:l.length<=20000000000000) (i:Nat) (hi:i<=l.length):
 ∃ b,(b=true↔i<l.length)/\FQ 46 [cP] 1 (cW l i) (bV b) 1 (cW l i):=by
 unfold cW kM
 rcases Z0a i l.length with h|h
 ·refine⟨true,by simp[h],?_⟩
  refine wW Tryz.func46 ?_
  repeat'(first|refine yA ?_|refine y2 ?_ ?_|refine y4 λh=>?_|exact y5|fail)
  all_goals exact bK
 ·refine⟨false,ae,?_⟩
  refine wW Tryz.func46 ?_
  repeat'(first|refine yA ?_|refine y2 ?_ ?_|refine y4 λh=>?_|exact y5|fail)
  all_goals exact bK
theorem L2 (l:List Int):FQ 16 [.s (kM l)] 0 [] cP 1 (cW l 0):=by
 unfold cW kM;refine wW Tryz.func16 ?_
 repeat'(first|refine yA ?_|refine y2 ?_ ?_|exact y5|fail)
 all_goals exact⟨.inl rfl,_,[0],ah _,fY rfl ⟨rfl,trivial⟩ rfl rfl rfl rfl⟩
def segsL:List By:=[[65],[66],[67],[68,69,86,48],[80,87,82,48],[95,83,84,65],[77,84,88],[69,86,84],[70,49],[77]]
theorem LF (n:Nat) (hn:n<10):∃ s:By,s.length<=4/\FQ 37 [nI n] 0 [] (sV s) 0 []:=by
 have hm0:=Ar n 10 ac ac;rw[show (n:Int)%18446744073709551616%(10:Nat)=(n:Nat) by omega] at hm0
 have key:∀ n:Nat,n<10->FQ 36 [nI n,nI (10:Nat)] 0 [] (nI n) 0 []->FQ 37 [nI n] 0 [] (sV (segsL.getD n [])) 0 []:=by
  intro n hn hm0
  rcases (aa:n=0\/n=1\/n=2\/n=3\/n=4\/n=5\/n=6\/n=7\/n=8\/n=9) with rfl|rfl|rfl|rfl|rfl|rfl|rfl|rfl|rfl|rfl
  all_goals
   refine wW Tryz.func37 ?_
   repeat'(first|refine y1 ?_|refine y2 ?_ ?_|refine an hm0 ?_|refine Fin.str (.inl rfl) rfl rfl|refine y3 ?_|exact y5|fail)
 refine⟨segsL.getD n [],?_,key n hn hm0⟩
 match n,hn with
 |0,_=>decide
 |1,_=>decide
 |2,_=>decide
 |3,_=>decide
 |4,_=>decide
 |5,_=>decide
 |6,_=>decide
 |7,_=>decide
 |8,_=>decide
 |9,_=>decide
theorem mQ (l:List Int) (hl:l.length<=20000000000000) (i:Nat) (hi:i<=l.length):
 ∃ (s:By) (i':Nat),s.length<=5/\i'<=l.length/\FQ 19 [cP] 1 (cW l i) (sV s) 1 (cW l i'):=by
 obtain⟨k,i1,hk,hi1,hc1⟩:=aJ l hl 6 ac ac i hi;obtain⟨m,i2,hm2,hi2,hc2⟩:=aJ l hl 10 ac ac i1 hi1;obtain⟨s,hs,hc3⟩:=LF m hm2;by_cases h4:k=4
 ·subst h4
  refine⟨92::s,i2,ae,hi2,?_⟩;refine wW Tryz.func19 ?_
  repeat'(first|refine yA ?_|refine y2 ?_ ?_|refine y4 λh=>?_|refine aQ hc1 ?_|refine aQ hc2 ?_|refine an hc3 ?_|exact y5|fail)
  all_goals first
   |exact bK
   |(show (1:Int)+(List.length s:Int)<=_;omega)
 ·by_cases h5:k=5
  ·subst h5
   refine⟨94::s,i2,ae,hi2,?_⟩;refine wW Tryz.func19 ?_
   repeat'(first|refine yA ?_|refine y2 ?_ ?_|refine y4 λh=>?_|refine aQ hc1 ?_|refine aQ hc2 ?_|refine an hc3 ?_|exact y5|fail)
   all_goals first
    |exact bK
    |(show (1:Int)+(List.length s:Int)<=_;omega)
  ·have h4': ¬(k:Int)=4:=aa
   have h5': ¬(k:Int)=5:=aa;refine⟨s,i2,aa,hi2,?_⟩;refine wW Tryz.func19 ?_
   repeat'(first|refine yA ?_|refine y2 ?_ ?_|refine y4 λh=>?_|refine aQ hc1 ?_|refine aQ hc2 ?_|refine an hc3 ?_|exact y5|fail)
   all_goals exact bK
theorem lM (l:List Int) (hl:l.length<=20000000000000) (i:Nat) (hi:i<=l.length):
 ∃ (x:Int) (i':Nat),0<=x/\i'<=l.length/\FQ 73 [cP] 1 (cW l i) (.s (.int .u64 x)) 1 (cW l i'):=by
 obtain⟨k,i1,hk,hi1,hc1⟩:=aJ l hl 8 ac ac i hi;obtain⟨m,i2,hm2,hi2,hc2⟩:=aJ l hl 1073741824 ac ac i1 hi1;obtain⟨m3,i3,hm3,hi3,hc3⟩:=aJ l hl 9 ac ac i1 hi1;by_cases h4:k=6
 ·subst h4
  refine⟨18446744073709551615,i1,ac,hi1,?_⟩;refine wW Tryz.func73 ?_
  repeat'(first|refine yA ?_|refine y2 ?_ ?_|refine y4 λh=>?_|refine aQ hc1 ?_|exact y5|fail)
  all_goals exact bK
 ·by_cases h5:k=7
  ·subst h5
   refine⟨(m:Int)*3,i2,aa,hi2,?_⟩;refine wW Tryz.func73 ?_
   repeat'(first|refine yA ?_|refine y2 ?_ ?_|refine y4 λh=>?_|refine aQ hc1 ?_|refine aQ hc2 ?_|exact y5|fail)
   all_goals exact bK
  ·have h4': ¬(k:Int)=6:=aa
   have h5': ¬(k:Int)=7:=aa;refine⟨(m3:Int),i3,aa,hi3,?_⟩;refine wW Tryz.func73 ?_
   repeat'(first|refine yA ?_|refine y2 ?_ ?_|refine y4 λh=>?_|refine aQ hc1 ?_|refine aQ hc3 ?_|exact y5|fail)
   all_goals exact bK
abbrev nS (p:List Nd):S:=.frz (λk=>ndC (p.getD k dN)) 4 p.length
def dw (K:List (List Nd)):S:=.frz (λk=>[nS (K.getD k [])]) 1 K.length
def ndS:List Nd->S
 |_::_::l=> .sla 0 1 (l.length+2)
 |_=> .slc (some (0,0)) 1 (some 1)
def ndQ:List Nd->Bl
 |x::y::l=>{cells:=(x::y::l).flatMap ndC,ty:=49,more:=true,sym:=true,flat:=true,gh:=some (1,4)}
 |x::[]=>{cells:=ndC x,ty:=49,flat:=true}
 |[]=>{cells:=[],ty:=49}
theorem dE:∀ G:List Nd,(G.flatMap ndC).length=G.length*4
 |[]=>rfl
 |x::G=>by rw[Z0g,Z03,dE G];simp only[Z04];simp[ndC];omega
theorem aD (G:List Nd):cX (λk=>ndC (G.getD k dN)) G.length=G.flatMap ndC:=by
 rw[k9]
theorem mP (bl:Bl) (r:List Nd):cf bl (r.flatMap ndC)=true:=by
 have h1:∀ r:List Nd,(r.flatMap ndC).all bZ=true:=by
  intro r
  induction r with
  |nil=>rfl
  |cons x r ih=>rw[Z0g,Z1g,ih];rfl
 have h2:∀ r:List Nd,(r.flatMap ndC).all nJ=true:=by
  intro r
  induction r with
  |nil=>rfl
  |cons x r ih=>rw[Z0g,Z1g,ih];rfl
 grind [cf]
theorem oM {G:List Nd} {k j:Nat} {x:S} (hk:k<G.length) (hx:(ndC (G.getD k dN))[j]? =some x):(G.flatMap ndC)[k*4+j]? =some x/\bL x=true:=by
 induction G generalizing k with
 |nil=>simp at hk
 |cons y G ih=>
  cases k with
  |zero=>
   rw[Z0g]
   match j,hx with
   |0,hx=>cases hx;exact⟨rfl,rfl⟩
   |1,hx=>cases hx;exact⟨rfl,rfl⟩
   |2,hx=>cases hx;exact⟨rfl,rfl⟩
   |3,hx=>cases hx;exact⟨rfl,rfl⟩
   |_+4,hx=>cases hx
  |succ k=>
   have:=ih (k:=k) ae ae;rw[Z0g,show (k+1)*4+j=(k*4+j)+4 by omega];exact this
theorem J_ {x:Nd} {k j:Nat} {s:S} (hk:k<1) (hx:(ndC ([x].getD k dN))[j]? =some s):(ndC x)[k*4+j]? =some s/\bL s=true:=by
 have:=oM (G:=[x]) (k:=k) (j:=j) (x:=s) hk hx
 grind
theorem J8 (op n:Int) (s:By) (K:List (List Nd)) (hK:∀ r∈K,r≠[]) (hn:(K.flatten).length<=1000000000000) (hk:K.length<=4096):
 FQ 103 [nI op,.s (.int .u64 n),sV s,.s (dw K)] 0 [] (al (⟨op,n,s,K.length⟩::K.flatten)) 0 []:=by
 have hsz:(Tryz.prog.types[49]).size=4:=aK;have hby:(Tryz.prog.types[49]).bytes=40:=aK;unfold dw;generalize hT:(⟨op,n,s,K.length⟩::K.flatten:List Nd)=T;refine wW Tryz.func103 ?_
 repeat'(first|refine yA ?_|refine y2 ?_ ?_|exact y5|fail)
 refine Ex.flat 0 rfl rfl rfl rfl (gH 17 .any (dd _) rfl (Ex.upN (n':=2) aa ?_));refine cy (σ:=Nat×List Nd) (λq=>[(10,nI q.1),(9,.s (ndS q.2))]) (λq=>[(0,some (ndQ q.2))]) (λq=>q.1<=K.length/\q.2++(K.drop q.1).flatten=T/\q.2≠[]) (λq=>K.length-q.1) (0,[⟨op,n,s,K.length⟩]) rfl (λ_=>rfl) ?_ ?_ ?_ ?_
 ·grind
 ·exact aP
 ·exact⟨rfl,trivial⟩
 ·rintro⟨j,Q⟩ ⟨h1,h2,h3⟩
  simp only at h1 h2 h3 |-;have hTl:T.length<=1000000000001:=ae
  rcases Z0a j K.length with hj|hj
  ·have hd:K.drop j=K.getD j []::K.drop (j+1):=by
    rw[Z0k hj,Z00,Z01 hj];rfl
   have hr:K.getD j []≠[]:=hK _ ae;rw[hd,Z4w,<-Z14] at h2;have hrl:0<(K.getD j []).length:=Z1s.2 hr
   have hlen:Q.length+(K.getD j []).length<=1000000000001:=by
    grind
   match Q,h3 with
   |[x],_=>
    repeat'(first|refine yA ?_|refine y2 ?_ ?_|refine y4 λh=>?_|exact y5|fail)
    generalize K.getD j []=r at*;obtain⟨z,r,rfl⟩:=Z4j hr;simp only[Z04,Z0e] at hlen;refine Bn [.app (1+(r.length+1)) (([x]++z::r).flatMap ndC)] rfl rfl ?_ rfl rfl rfl ?_
    ·refine⟨?_,trivial,rfl,rfl,?_,?_,(λh=>by simp),?_,?_⟩
     ·rw[hsz];rfl
     ·rw[hsz,aD];rfl
     ·rw[aD];exact mP _ _
     ·rw[hby];omega
     ·omega
    repeat'(first|refine yA ?_|refine y2 ?_ ?_|exact y5|fail)
    refine fX (j+1,[x]++z::r) ⟨hj,h2,aq⟩ ae [2,3] rfl ?_ ?_ rfl
    ·repeat'(first|exact ah _|exact dd _|exact Z0o|(refine bB (congrArg V.s (?_:S.sla 2 3 _=S.sla 2 3 _));simp;omega)|refine⟨?_,?_⟩)
    ·exact⟨rfl,trivial⟩
   |x::y::l,_=>
    repeat'(first|refine yA ?_|refine y2 ?_ ?_|refine y4 λh=>?_|exact y5|fail)
    generalize K.getD j []=r at*;obtain⟨z,r,rfl⟩:=Z4j hr;simp only[Z04,Z0e] at hlen;refine Bn [.app ((l.length+2)+(r.length+1)) (((x::y::l)++z::r).flatMap ndC)] rfl rfl ?_ rfl rfl rfl ?_
    ·refine⟨?_,trivial,rfl,rfl,?_,?_,(λh=>by simp),?_,?_⟩
     ·rw[hsz];show (l.length+2)*4<=((x::y::l).flatMap ndC).length;rw[dE];simp
     ·rw[hsz,aD];show _=List.take ((l.length+2)*4) ((x::y::l).flatMap ndC)++_;rw[Z1l (by rw[dE];simp),Z0r]
     ·rw[aD];exact mP _ _
     ·rw[hby];omega
     ·omega
    repeat'(first|refine yA ?_|refine y2 ?_ ?_|exact y5|fail)
    refine fX (j+1,(x::y::l)++z::r) ⟨hj,h2,aq⟩ ae [2,3] rfl ?_ ?_ rfl
    ·repeat'(first|exact ah _|exact dd _|exact Z0o|(refine bB (congrArg V.s (?_:S.sla 2 3 _=S.sla 2 3 _));simp;omega)|refine⟨?_,?_⟩)
    ·exact⟨rfl,trivial⟩
  ·have hd:K.drop j=[]:=Z10 hj
   rw[hd] at h2;simp only[Z51,Z0u] at h2;subst h2
   match Q,h3 with
   |[x],_=>
    repeat'(first|refine y1 ?_|refine y2 ?_ ?_|refine y4 λh=>?_|refine Ex.fz 8 (λk=>ndC ([x].getD k dN)) 4 rfl rfl rfl rfl (λ_ _=>rfl) (λk j s hk hs=>J_ hk hs) rfl rfl ?_|refine dv (.inl rfl) rfl (ah _) rfl|refine y3 ?_|exact y5|fail)
   |x::y::l,_=>
    repeat'(first|refine y1 ?_|refine y2 ?_ ?_|refine y4 λh=>?_|refine Ex.fz 8 (λk=>ndC ((x::y::l).getD k dN)) 4 rfl rfl rfl rfl (λ_ _=>rfl) (λk j s hk hs=>oM hk hs) rfl rfl ?_|refine dv (.inl rfl) rfl (ah _) rfl|refine y3 ?_|exact y5|fail)
section
variable {B:Nat}
def tree (op n:Int) (s:By) (K:List (List Nd)):List Nd:=⟨op,n,s,K.length⟩::K.flatten
structure OKr (B:Nat) (r:List Nd):Prop where
 ne:r≠[]
 len:r.length<=B
 wf:∀ x∈r,x.str.length<=1000/\0<=x.int
theorem OKr.le {C:Nat} {r:List Nd} (h:OKr B r) (hbc:B<=C):OKr C r:=⟨h.ne,Z1z h.len hbc,h.wf⟩
theorem jP {B:Nat}:∀ {K:List (List Nd)},(∀ r∈K,OKr B r)->K.flatten.length<=K.length*B
 |[],_=>by simp
 |r::K,h=>by
  have h1:=(h r (Z17 ..)).len
  have h2:=jP (K:=K) λq hq=>h q (Z0y _ hq)
  simp only[Z4w,Z03,Z04];rw[Z2q,Nat.one_mul];omega
theorem OKr.tree {C:Nat} {op n:Int} {s:By} {K:List (List Nd)} (hK:∀ r∈K,OKr B r) (hn:0<=n) (hs:s.length<=1000) (hC:1+K.length*B<=C):OKr C (tree op n s K):=by
 refine⟨by simp[Go.Proofs.YtegjgpldfgjoiaaGreatDoor.tree],?_,λx hx=>?_⟩
 ·have:=jP hK
  simp only[Go.Proofs.YtegjgpldfgjoiaaGreatDoor.tree,Z04];omega
 ·rcases Z0h.1 hx with rfl|hx
  ·exact⟨hs,hn⟩
  ·obtain⟨r,hr,hxr⟩:=List.mem_flatten.1 hx
   exact (hK r hr).wf x hxr
theorem yq (op n:Int) (s:By) (K:List (List Nd)) (hK:∀ r∈K,OKr B r) (hB:K.length*B<=1000000000000) (hk:K.length<=4096):
 FQ 103 [nI op,.s (.int .u64 n),sV s,.s (dw K)] 0 [] (al (tree op n s K)) 0 []:=
 J8 op n s K (λr hr=>(hK r hr).ne) (Z1z (jP hK) hB) hk
theorem yu (op n:Int) (s:By):FQ 103 [nI op,.s (.int .u64 n),sV s,.s (dw [])] 0 [] (al (tree op n s [])) 0 []:=
 yq op n s [] (B:=0) (λr hr=>by cases hr) aq aq
theorem OKr.leaf {op n:Int} {s:By} (hn:0<=n) (hs:s.length<=1000):OKr 1 (Go.Proofs.YtegjgpldfgjoiaaGreatDoor.tree op n s []):=
 OKr.tree (B:=0) (λr hr=>by cases hr) hn hs aq
theorem AB (n:Int):FQ 58 [.s (.int .u64 n)] 0 [] (al (tree 1 n [] [])) 0 []:=by
 have h:=yu 1 n [];refine wW Tryz.func58 ?_
 repeat'(first|refine y1 ?_|refine y2 ?_ ?_|(refine wX ?_;refine sC h rfl ⟨ah _,ah _,ah _,VLe.s SLe.nil,trivial⟩ rfl rfl rfl ?_)|refine dv (.inl rfl) rfl (ah _) rfl|refine y3 ?_|exact y5|fail)
theorem vQ (s:By):FQ 56 [sV s] 0 [] (al (tree 3 0 s [])) 0 []:=by
 have h:=yu 3 0 s;refine wW Tryz.func56 ?_
 repeat'(first|refine y1 ?_|refine y2 ?_ ?_|(refine wX ?_;refine sC h rfl ⟨ah _,ah _,ah _,VLe.s SLe.nil,trivial⟩ rfl rfl rfl ?_)|refine dv (.inl rfl) rfl (ah _) rfl|refine y3 ?_|exact y5|fail)
theorem DT (op:Int) (K:List (List Nd)) (hK:∀ r∈K,OKr B r) (hB:K.length*B<=1000000000000) (hk:K.length<=4096):
 FQ 55 [nI op,.s (dw K)] 0 [] (al (tree op 0 [] K)) 0 []:=by
 have h:=yq op 0 [] K hK hB hk;generalize tree op 0 [] K=T at*;unfold dw at*;refine wW Tryz.func55 ?_
 repeat'(first|refine y1 ?_|refine y2 ?_ ?_|refine an h ?_|refine dv (.inl rfl) rfl (ah _) rfl|refine y3 ?_|exact y5|fail)
end
theorem dj {K:List (List Nd)} {k j:Nat} {x:S} (hk:k<K.length) (hx:[nS (K.getD k [])][j]? =some x):(K.map λr=>nS r)[k*1+j]? =some x/\bL x=true:=by
 cases j with
 |succ j=>simp at hx
 |zero=>
  simp only[Z11,Z06] at hx;subst hx;rw[Z1p,Z0p,Z0t,Z01 hk,Z00,Z01 hk];exact⟨rfl,rfl⟩
theorem eg (n:Int) (h:0<=n):∃ r,OKr 1 r/\FQ 58 [.s (.int .u64 n)] 0 [] (al r) 0 []:=⟨_,OKr.leaf h aq,AB n⟩
theorem cC (s:By) (h:s.length<=1000):∃ r,OKr 1 r/\FQ 56 [sV s] 0 [] (al r) 0 []:=⟨_,OKr.leaf ac h,vQ s⟩
theorem aO (op:Int) (K:List (List Nd)) {B:Nat} (C:Nat) (hK:∀ r∈K,OKr B r) (hB:K.length*B<=1000000000000) (hk:K.length<=4096) (hC:1+K.length*B<=C):
 ∃ r,OKr C r/\FQ 55 [nI op,.s (dw K)] 0 [] (al r) 0 []:=⟨_,OKr.tree hK ac aq hC,DT op K hK hB hk⟩
abbrev ow (g:Nat) (K:List (List Nd)):Option Bl:=fq 32 (g+1) 1 (K.map λr=>nS r)
inductive BufT (l:List Int):Nat->Nat->List (List Nd)->Nat->Prop
 |nil (i:Nat):BufT l 0 i [] i
 |cons {n i k i1 i':Nat} {r:List Nd} {K:List (List Nd)} (hk:k<256) (hi1:i1<=l.length) (c:FQ 18 [cP,nI (256:Nat)] 1 (cW l i) (nI k) 1 (cW l i1))
  (o:OKr 1 r) (d:FQ 58 [.s (.int .u64 k)] 0 [] (al r) 0 []) (t:BufT l n i1 K i'):BufT l (n+1) i (r::K) i'
theorem If {l:List Int} {n i i':Nat} {K:List (List Nd)} (h:BufT l n i K i'):K.length=n:=by
 induction h with
 |nil i=>rfl
 |cons _ _ _ _ _ _ ih=>simp[ih]
theorem Jh (l:List Int) (hl:l.length<=20000000000000):∀ (n i:Nat),i<=l.length->∃ K i',BufT l n i K i'/\i'<=l.length/\K.length=n/\∀ r∈K,OKr 1 r
 |0,i,hi=>⟨[],i,.nil i,hi,rfl,λr hr=>by cases hr⟩
 |n+1,i,hi=>by
  obtain⟨k,i1,hk,hi1,c⟩:=aJ l hl 256 ac ac i hi;obtain⟨r,o,d⟩:=eg k aa;obtain⟨K,i',h1,h2,h3,h4⟩:=Jh l hl n i1 hi1;refine⟨r::K,i',.cons hk hi1 c o d h1,h2,by simp[h3],λq hq=>?_⟩
  rcases Z0h.1 hq with rfl|hq
  ·exact o
  ·exact h4 q hq
theorem Fv (l:List Int) (hl:l.length<=20000000000000) (dep:Int) (i i1:Nat) (hi1:i1<=l.length) (c1:FQ 18 [cP,nI (5:Nat)] 1 (cW l i) (nI (2:Nat)) 1 (cW l i1)):
 ∃ (r:List Nd) (i':Nat),OKr 10 r/\i'<=l.length/\FQ 62 [cP,nI dep] 1 (cW l i) (al r) 1 (cW l i'):=by
 obtain⟨m,i2,hm2,hi2,c2⟩:=aJ l hl 4 ac ac i1 hi1;obtain⟨K,i3,hB,hi3,hKl,hK⟩:=Jh l hl m i2 hi2;obtain⟨q,i4,hq,hi4,c4⟩:=aJ l hl 3 ac ac i3 hi3;obtain⟨r1,o1,d1⟩:=eg ((K.length:Int)+q) aa;obtain⟨r2,o2,d2⟩:=aO 4 K (B:=1) 4 hK aa aa aa;obtain⟨r,o,dn⟩:=aO 50 [r1,r2] (B:=4) 10 (by simp[o1.le,o2]) aq aq aq;unfold dw at dn d2;refine⟨r,i4,o,hi4,?_⟩;have hsz:(Tryz.prog.types[32]).size=1:=aK;have hby:(Tryz.prog.types[32]).bytes=24:=aK;refine wW Tryz.func62 ?_
 repeat'(first|refine yA ?_|refine y2 ?_ ?_|refine y4 λh=>?_|refine aQ c1 ?_|refine aQ c2 ?_|exact y5|fail)
 refine gH 5 (.s (.row 1 2 0)) (VLe.s SLe.nilrow) rfl (Ex.upN (n':=3) aa ?_)
 refine cy (σ:=Nat×Nat×List (List Nd)) (λs=>[(5,.s (.row 1 2 s.2.2.length)),(6,nI s.1)]) (λs=>[(0,some {cells:=[kM l,.int .i64 (s.2.1:Int)],ty:=97}),(1,ow 1 s.2.2)])
  (λs=>∃ R,BufT l s.1 s.2.1 R i3/\s.2.2++R=K) (λs=>s.1) (m,i2,[]) rfl (λ_=>rfl) ⟨K,hB,rfl⟩ aP ⟨rfl,trivial⟩ ?_
 rintro⟨n,j,D⟩ ⟨R,hR,hD⟩;simp only at hR hD |-
 cases hR with
 |nil=>
  rw[Z0u] at hD;subst hD
  cases D with
  |nil=>
   repeat'(first|refine yA ?_|refine y2 ?_ ?_|refine y4 λh=>?_|refine aQ c4 ?_|refine an d1 ?_|(refine wX ?_;refine sC d2 rfl ⟨ah _,VLe.s SLe.row0,trivial⟩ rfl rfl rfl ?_)|(refine wX ?_;refine CD 43 (λk=>[nS ([r1,r2].getD k [])]) 1 dn rfl rfl rfl rfl (λ_ _=>rfl) (λkk jj zz hk hx=>dj (K:=[r1,r2]) hk hx) rfl aP rfl rfl rfl ?_)|exact y5|fail)
   all_goals first
   |exact bK
   |omega
   |exact aU aa aa
   |exact aB aa aa
   |exact aU (by simp;omega) (by simp;omega)
   |exact aB (by simp;omega) (by simp;omega)
  |cons x D=>
   repeat'(first|refine yA ?_|refine y2 ?_ ?_|refine y4 λh=>?_|refine aQ c4 ?_|refine an d1 ?_|(refine wX ?_;refine CD 43 (λk=>[nS ([r1,r2].getD k [])]) 1 dn rfl rfl rfl rfl (λ_ _=>rfl) (λkk jj zz hk hx=>dj (K:=[r1,r2]) hk hx) rfl aP rfl rfl rfl ?_)|(refine wX ?_;refine CD 41 (λk=>[nS ((x::D).getD k [])]) 1 d2 rfl rfl rfl rfl (λ_ _=>rfl) (λkk jj zz hk hx=>dj (K:=(x::D)) hk hx) rfl aP rfl rfl rfl ?_)|exact y5|fail)
   all_goals first
   |exact bK
   |omega
   |exact aU aa aa
   |exact aB aa aa
 | @cons n _ k j1 _ r' R' hk hj1 c oo d t=>
   have hRl:=If t
   have hlen:D.length+n<=2:=by rw[<-hKl,<-hD] at hm2;simp at hm2;omega
   repeat'(first|refine y1 ?_|refine y2 ?_ ?_|refine y4 λh=>?_|refine aQ c ?_|refine an d ?_|refine gZ (i:=1) (g:=2) (m:=D.length) (w:=1) (cs:=D.map λr=>nS r) (foot:=[3]) (k:=1) (add:=[nS r']) rfl rfl aq rfl rfl rfl rfl rfl rfl rfl hsz ac rfl ⟨Z02 _,rfl⟩ ac aq rfl (by rw[hby];omega) aa rfl ?_|refine y3 ?_|exact y5|fail)
   refine fX (n,j1,D++[r']) ⟨R',t,by simpa using hD⟩ (by simp only;omega) [0,4,5] rfl ?_ ?_ ?_
   ·repeat'(first|exact ah _|exact dd _|exact Z0o|exact bB (congrArg nI (by push_cast;omega))|(refine bB (congrArg V.s (?_:S.row 4 5 _=S.row 4 5 _));simp;done)|refine⟨?_,?_⟩)
   ·refine⟨rfl,bh ?_ trivial⟩
    rw[Z0d];rfl
   ·exact (by unfold ow;generalize List.map _ _=cg;cases cg<;>rfl)
def Gl (l:List Int) (dep:Int) (B:Nat):Prop:=∀ i,i<=l.length->∃ (r:List Nd) (i':Nat),OKr B r/\i'<=l.length/\FQ 62 [cP,nI dep] 1 (cW l i) (al r) 1 (cW l i')
inductive PkT (l:List Int) (dep:Int) (B:Nat):Nat->Nat->List (List Nd)->Nat->Prop
 |nil (i:Nat):PkT l dep B 0 i [] i
 |name {n i i1 i2 i':Nat} {s:By} {r:List Nd} {K:List (List Nd)} (c:FQ 18 [cP,nI (3:Nat)] 1 (cW l i) (nI (2:Nat)) 1 (cW l i1))
  (c2:FQ 19 [cP] 1 (cW l i1) (sV s) 1 (cW l i2)) (d:FQ 56 [sV s] 0 [] (al r) 0 []) (t:PkT l dep B n i2 K i'):PkT l dep B (n+1) i (r::K) i'
 |data {n i k i1 i2 i':Nat} {r:List Nd} {K:List (List Nd)} (hk: ¬(k:Int)=2) (c:FQ 18 [cP,nI (3:Nat)] 1 (cW l i) (nI k) 1 (cW l i1))
  (c2:FQ 62 [cP,nI dep] 1 (cW l i1) (al r) 1 (cW l i2)) (t:PkT l dep B n i2 K i'):PkT l dep B (n+1) i (r::K) i'
theorem x9 {l:List Int} {dep:Int} {B n i i':Nat} {K:List (List Nd)} (h:PkT l dep B n i K i'):K.length=n:=by
 induction h with
 |nil i=>rfl
 |name _ _ _ _ ih=>simp[ih]
 |data _ _ _ _ ih=>simp[ih]
theorem JT (l:List Int) (hl:l.length<=20000000000000) (dep:Int) (B:Nat) (hB:1<=B) (hd:Gl l dep B):∀ (n i:Nat),i<=l.length->∃ K i',PkT l dep B n i K i'/\i'<=l.length/\∀ r∈K,OKr B r
 |0,i,hi=>⟨[],i,.nil i,hi,λr hr=>by cases hr⟩
 |n+1,i,hi=>by
  obtain⟨k,i1,hk,hi1,c⟩:=aJ l hl 3 ac ac i hi;by_cases h2:k=2
  ·subst h2
   obtain⟨s,i2,hs,hi2,c2⟩:=mQ l hl i1 hi1;obtain⟨r,o,d⟩:=cC s aa;obtain⟨K,i',h1,h2,h4⟩:=JT l hl dep B hB hd n i2 hi2;refine⟨r::K,i',.name c c2 d h1,h2,λq hq=>?_⟩
   rcases Z0h.1 hq with rfl|hq
   ·exact o.le hB
   ·exact h4 q hq
  ·obtain⟨r,i2,o,hi2,c2⟩:=hd i1 hi1
   obtain⟨K,i',h1,h2,h4⟩:=JT l hl dep B hB hd n i2 hi2;refine⟨r::K,i',.data aa c c2 h1,h2,λq hq=>?_⟩
   rcases Z0h.1 hq with rfl|hq
   ·exact o
   ·exact h4 q hq
theorem Fs (l:List Int) (hl:l.length<=20000000000000) (dp B:Nat) (hdp:dp<=1000) (hB1:1<=B) (hB2:B<=100000) (hd:Gl l dp B) (i i1:Nat) (hi1:i1<=l.length) (c1:FQ 18 [cP,nI (5:Nat)] 1 (cW l i) (nI (3:Nat)) 1 (cW l i1)):
 ∃ (r:List Nd) (i':Nat),OKr (10*B) r/\i'<=l.length/\FQ 62 [cP,nI (dp+1:Nat)] 1 (cW l i) (al r) 1 (cW l i'):=by
 obtain⟨m,i2,hm2,hi2,c2⟩:=aJ l hl 4 ac ac i1 hi1;obtain⟨K,i3,hB,hi3,hK⟩:=JT l hl dp B hB1 hd m i2 hi2;have hKl:=x9 hB;obtain⟨q,i4,hq,hi4,c4⟩:=aJ l hl 3 ac ac i3 hi3;obtain⟨r1,o1,d1⟩:=eg ((K.length:Int)+q) aa;have hKB:K.length*B<=3*B:=Z1w B aa;obtain⟨r2,o2,d2⟩:=aO 4 K (B:=B) (1+3*B) hK aa aa aa;obtain⟨r,o,dn⟩:=aO 51 [r1,r2] (B:=1+3*B) (10*B) (by simp[o1.le (show 1<=1+3*B by omega),o2]) (by simp;omega) aq (by simp;omega);unfold dw at dn d2;refine⟨r,i4,o,hi4,?_⟩;have hsz:(Tryz.prog.types[32]).size=1:=aK;have hby:(Tryz.prog.types[32]).bytes=24:=aK;have hdpos:((dp+1:Nat):Int)>0:=aa;refine wW Tryz.func62 ?_
 repeat'(first|refine yA ?_|refine y2 ?_ ?_|refine y4 λh=>?_|refine aQ c1 ?_|refine aQ c2 ?_|exact y5|fail)
 refine gH 7 (.s (.row 1 2 0)) (VLe.s SLe.nilrow) rfl (Ex.upN (n':=3) aa ?_)
 refine cy (σ:=Nat×Nat×List (List Nd)) (λs=>[(7,.s (.row 1 2 s.2.2.length)),(8,nI s.1)]) (λs=>[(0,some {cells:=[kM l,.int .i64 (s.2.1:Int)],ty:=97}),(1,ow 1 s.2.2)])
  (λs=>∃ R,PkT l dp B s.1 s.2.1 R i3/\s.2.2++R=K) (λs=>s.1) (m,i2,[]) rfl (λ_=>rfl) ⟨K,hB,rfl⟩ aP ⟨rfl,trivial⟩ ?_
 rintro⟨n,j,D⟩ ⟨R,hR,hD⟩;simp only at hR hD |-
 cases hR with
 |nil=>
  rw[Z0u] at hD;subst hD
  cases D with
  |nil=>
   repeat'(first|refine yA ?_|refine y2 ?_ ?_|refine y4 λh=>?_|refine aQ c4 ?_|refine an d1 ?_|(refine wX ?_;refine sC d2 rfl ⟨ah _,VLe.s SLe.row0,trivial⟩ rfl rfl rfl ?_)|(refine wX ?_;refine CD 80 (λk=>[nS ([r1,r2].getD k [])]) 1 dn rfl rfl rfl rfl (λ_ _=>rfl) (λkk jj zz hk hx=>dj (K:=[r1,r2]) hk hx) rfl aP rfl rfl rfl ?_)|exact y5|fail)
   all_goals first
   |exact bK
   |omega
   |exact aU aa aa
   |exact aB aa aa
   |exact aU (by simp;omega) (by simp;omega)
   |exact aB (by simp;omega) (by simp;omega)
  |cons x D=>
   repeat'(first|refine yA ?_|refine y2 ?_ ?_|refine y4 λh=>?_|refine aQ c4 ?_|refine an d1 ?_|(refine wX ?_;refine CD 80 (λk=>[nS ([r1,r2].getD k [])]) 1 dn rfl rfl rfl rfl (λ_ _=>rfl) (λkk jj zz hk hx=>dj (K:=[r1,r2]) hk hx) rfl aP rfl rfl rfl ?_)|(refine wX ?_;refine CD 78 (λk=>[nS ((x::D).getD k [])]) 1 d2 rfl rfl rfl rfl (λ_ _=>rfl) (λkk jj zz hk hx=>dj (K:=(x::D)) hk hx) rfl aP rfl rfl rfl ?_)|exact y5|fail)
   all_goals first
   |exact bK
   |omega
   |exact aU aa aa
   |exact aB aa aa
 | @name n _ i1' j1 _ s r' R' c c2 d t=>
   have hRl:=x9 t
   have hlen:D.length+n<=2:=by rw[<-hKl,<-hD] at hm2;simp at hm2;omega
   repeat'(first|refine y1 ?_|refine y2 ?_ ?_|refine y4 λh=>?_|refine aQ c ?_|refine aQ c2 ?_|refine an d ?_|refine gZ (i:=1) (g:=2) (m:=D.length) (w:=1) (cs:=D.map λr=>nS r) (foot:=[3]) (k:=1) (add:=[nS r']) rfl rfl aq rfl rfl rfl rfl rfl rfl rfl hsz ac rfl ⟨Z02 _,rfl⟩ ac aq rfl (by rw[hby];omega) aa rfl ?_|refine y3 ?_|exact y5|fail)
   refine fX (n,j1,D++[r']) ⟨R',t,by simpa using hD⟩ (by simp only;omega) [0,4,5] rfl ?_ ?_ ?_
   ·repeat'(first|exact ah _|exact dd _|exact Z0o|exact bB (congrArg nI (by push_cast;omega))|(refine bB (congrArg V.s (?_:S.row 4 5 _=S.row 4 5 _));simp;done)|refine⟨?_,?_⟩)
   ·refine⟨rfl,bh ?_ trivial⟩
    rw[Z0d];rfl
   ·exact (by unfold ow;generalize List.map _ _=cg;cases cg<;>rfl)
 | @data n _ k i1' j1 _ r' R' hk c c2 t=>
   have hRl:=x9 t
   have hlen:D.length+n<=2:=by rw[<-hKl,<-hD] at hm2;simp at hm2;omega
   repeat'(first|refine y1 ?_|refine y2 ?_ ?_|refine y4 λh=>?_|refine aQ c ?_|(refine wX ?_;refine bD [0] c2 ?_ (hle:=by exact⟨ah _,bB (congrArg nI (by push_cast;omega)),trivial⟩))|refine gZ (i:=1) (g:=2) (m:=D.length) (w:=1) (cs:=D.map λr=>nS r) (foot:=[3]) (k:=1) (add:=[nS r']) rfl rfl aq rfl rfl rfl rfl rfl rfl rfl hsz ac rfl ⟨Z02 _,rfl⟩ ac aq rfl (by rw[hby];omega) aa rfl ?_|refine y3 ?_|exact y5|fail)
   refine fX (n,j1,D++[r']) ⟨R',t,by simpa using hD⟩ (by simp only;omega) [0,4,5] rfl ?_ ?_ ?_
   ·repeat'(first|exact ah _|exact dd _|exact Z0o|exact bB (congrArg nI (by push_cast;omega))|(refine bB (congrArg V.s (?_:S.row 4 5 _=S.row 4 5 _));simp;done)|refine⟨?_,?_⟩)
   ·refine⟨rfl,bh ?_ trivial⟩
    rw[Z0d];rfl
   ·exact (by unfold ow;generalize List.map _ _=cg;cases cg<;>rfl)
theorem Fu (l:List Int) (hl:l.length<=20000000000000) (dep:Int) (i i1 k:Nat) (hi1:i1<=l.length) (h1: ¬(k:Int)=1) (h2: ¬(k:Int)=2) (h3:(k:Int)=3-> ¬dep>0) (c1:FQ 18 [cP,nI (5:Nat)] 1 (cW l i) (nI k) 1 (cW l i1)):
 ∃ (r:List Nd) (i':Nat),OKr 10 r/\i'<=l.length/\FQ 62 [cP,nI dep] 1 (cW l i) (al r) 1 (cW l i'):=by
 obtain⟨x,i2,hx,hi2,c2⟩:=lM l hl i1 hi1;obtain⟨r,o,d⟩:=eg x hx;refine⟨r,i2,o.le ac,hi2,?_⟩;by_cases hk:(k:Int)=3
 ·have hd:=h3 hk
  refine wW Tryz.func62 ?_
  repeat'(first|refine yA ?_|refine y2 ?_ ?_|(refine y4 λh=>?_;try(first|(first|exact absurd (by assumption) h1|exact absurd (by assumption) h2|exact absurd (by assumption) hd|exact absurd hk (by assumption))|exact y6))|refine aQ c1 ?_|refine aQ c2 ?_|refine an d ?_|exact y5|fail)
  all_goals exact bK
 ·refine wW Tryz.func62 ?_
  repeat'(first|refine yA ?_|refine y2 ?_ ?_|(refine y4 λh=>?_;try(first|(first|exact absurd (by assumption) h1|exact absurd (by assumption) h2|exact absurd (by assumption) hk)|exact y6))|refine aQ c1 ?_|refine aQ c2 ?_|refine an d ?_|exact y5|fail)
  all_goals exact bK
theorem pY (op n:Int) (s:By) (h:0<=n) (hs:s.length<=1000):∃ r,OKr 1 r/\FQ 103 [nI op,.s (.int .u64 n),sV s,.s (dw [])] 0 [] (al r) 0 []:=⟨_,OKr.leaf h hs,yu op n s⟩
theorem Fr (l:List Int) (hl:l.length<=20000000000000) (dep:Int) (i i1:Nat) (hi1:i1<=l.length) (c1:FQ 18 [cP,nI (5:Nat)] 1 (cW l i) (nI (1:Nat)) 1 (cW l i1)):
 ∃ (r:List Nd) (i':Nat),OKr 10 r/\i'<=l.length/\FQ 62 [cP,nI dep] 1 (cW l i) (al r) 1 (cW l i'):=by
 obtain⟨m,i2,hm2,hi2,c2⟩:=aJ l hl 5 ac ac i1 hi1
 obtain⟨s,hs0,hs⟩:∃ s:By,s.length<=1000/\s=(if m=0 then [] else if m=1 then [120] else if m=2 then [48,70] else if m=3 then [49,50,97,98] else [0,255,34,92]):=⟨_,by (repeat' split)<;>simp,rfl⟩
 obtain⟨r,o,d⟩:=pY 2 0 s ac hs0;refine⟨r,i2,o.le ac,hi2,?_⟩
 rcases (aa:m=0\/m=1\/m=2\/m=3\/m=4) with rfl|rfl|rfl|rfl|rfl
 all_goals
  subst hs;refine wW Tryz.func62 ?_
  repeat'(first|refine yA ?_|refine y2 ?_ ?_|refine y4 λh=>?_|refine aQ c1 ?_|refine aQ c2 ?_|(refine wX ?_;refine sC d rfl ⟨ah _,ah _,ah _,VLe.s SLe.nil,trivial⟩ rfl rfl rfl ?_)|exact y5|fail)
  all_goals exact bK
theorem qu (l:List Int) (hl:l.length<=20000000000000):∀ n:Nat,n<=3->Gl l n (10^(n+1)):=by
 intro n hn i hi
 have hp:10<=10^(n+1):=by rw[Nat.pow_succ];have:0<10^n:=Nat.pow_pos ac;omega
 obtain⟨k,i1,hk,hi1,c1⟩:=aJ l hl 5 ac ac i hi;by_cases h1:k=1
 ·subst h1
  obtain⟨r,i',o,h⟩:=Fr l hl n i i1 hi1 c1;exact⟨r,i',o.le hp,h⟩
 by_cases h2:k=2
 ·subst h2
  obtain⟨r,i',o,h⟩:=Fv l hl n i i1 hi1 c1;exact⟨r,i',o.le hp,h⟩
 by_cases h3:k=3/\0<n
 ·obtain⟨rfl,h3⟩:=h3
  obtain⟨dp,rfl⟩:∃ dp,n=dp+1:=⟨n-1,aa⟩
  have ih:=qu l hl dp aa;have hb:(10:Nat)^(dp+1)<=100000:=Z1z (Nat.pow_le_pow_right ac (show dp+1<=5 by omega)) ac;obtain⟨r,i',o,h⟩:=Fs l hl dp _ aa (Nat.pow_pos ac) hb ih i i1 hi1 c1;exact⟨r,i',o.le (by rw[Nat.pow_succ 10 (dp+1)];omega),h⟩
 ·obtain⟨r,i',o,h⟩:=Fu l hl n i i1 k hi1 aa aa (λh=>by omega) c1
  exact⟨r,i',o.le hp,h⟩
def fL (l:List Int) (dep:Int) (args B:Nat):Prop:=∀ i,i<=l.length->∃ (r:List Nd) (i':Nat),OKr B r/\i'<=l.length/\FQ 218 [cP,nI dep,nI args] 1 (cW l i) (al r) 1 (cW l i')
def ML (l:List Int) (dep:Int) (args B:Nat):Prop:=∀ i,i<=l.length->∃ (r:List Nd) (i':Nat),OKr B r/\i'<=l.length/\FQ 221 [cP,nI dep,nI args] 1 (cW l i) (al r) 1 (cW l i')
theorem pw (l:List Int) (hl:l.length<=20000000000000) (dep:Int) (h1: -10<=dep) (h2:dep<=10) (args B:Nat) (ha:args<=100) (hB1:1<=B) (hB2:B<=100000) (hE:0<dep->fL l (dep-1) args B):ML l dep args (1+2*B):=by
 intro i hi;obtain⟨k,i1,hk,hi1,c1⟩:=aJ l hl 5 ac ac i hi;by_cases k1:k=1
 ·subst k1
  obtain⟨s,i2,hs,hi2,c2⟩:=mQ l hl i1 hi1;obtain⟨r,o,d⟩:=cC s aa;refine⟨r,i2,o.le aa,hi2,?_⟩;refine wW Tryz.func221 ?_
  repeat'(first|refine yA ?_|refine y2 ?_ ?_|refine y4 λh=>?_|refine aQ c1 ?_|refine aQ c2 ?_|refine an d ?_|exact y5|fail)
  all_goals exact bK
 by_cases k2:k=2/\0<args
 ·obtain⟨rfl,hr⟩:=k2
  obtain⟨m,i2,hm2,hi2,c2⟩:=aJ l hl args hr aa i1 hi1;obtain⟨r,o,d⟩:=pY 7 m [] aa aq;refine⟨r,i2,o.le aa,hi2,?_⟩;refine wW Tryz.func221 ?_
  repeat'(first|refine yA ?_|refine y2 ?_ ?_|refine y4 λh=>?_|refine aQ c1 ?_|refine aQ c2 ?_|(refine wX ?_;refine sC d rfl ⟨ah _,ah _,ah _,VLe.s SLe.nil,trivial⟩ rfl rfl rfl ?_)|exact y5|fail)
  all_goals exact bK
 by_cases k3:k=3/\0<dep
 ·obtain⟨rfl,hr⟩:=k3
  obtain⟨r1,i2,o1,hi2,c2⟩:=hE hr i1 hi1;obtain⟨r2,i3,o2,hi3,c3⟩:=hE hr i2 hi2;obtain⟨r,o,dn⟩:=aO 76 [r1,r2] (B:=B) (1+2*B) (by simp[o1,o2]) (by simp;omega) aq aq;unfold dw at dn;refine⟨r,i3,o,hi3,?_⟩;refine wW Tryz.func221 ?_
  repeat'(first|refine yA ?_|refine y2 ?_ ?_|refine y4 λh=>?_|refine aQ c1 ?_|refine aQ c2 ?_|refine aQ c3 ?_|(refine wX ?_;refine CD 45 (λk=>[nS ([r1,r2].getD k [])]) 1 dn rfl rfl rfl rfl (λ_ _=>rfl) (λkk jj zz hk hx=>dj (K:=[r1,r2]) hk hx) rfl aP rfl rfl rfl ?_)|exact y5|fail)
  all_goals exact bK
 by_cases k4:k=4/\0<dep
 ·obtain⟨rfl,hr⟩:=k4
  obtain⟨r1,i2,o1,hi2,c2⟩:=hE hr i1 hi1;obtain⟨r,o,dn⟩:=aO 84 [r1] (B:=B) (1+2*B) (by simp[o1]) (by simp;omega) aq (by simp;omega);unfold dw at dn;refine⟨r,i2,o,hi2,?_⟩;refine wW Tryz.func221 ?_
  repeat'(first|refine yA ?_|refine y2 ?_ ?_|refine y4 λh=>?_|refine aQ c1 ?_|refine aQ c2 ?_|(refine wX ?_;refine CD 59 (λk=>[nS ([r1].getD k [])]) 1 dn rfl rfl rfl rfl (λ_ _=>rfl) (λkk jj zz hk hx=>dj (K:=[r1]) hk hx) rfl aP rfl rfl rfl ?_)|exact y5|fail)
  all_goals exact bK
 ·obtain⟨m,i2,hm2,hi2,c2⟩:=aJ l hl 3 ac ac i1 hi1
  obtain⟨r,o,d⟩:=pY 6 m [] aa aq;refine⟨r,i2,o.le aa,hi2,?_⟩;refine wW Tryz.func221 ?_
  repeat'(first|refine yA ?_|refine y2 ?_ ?_|refine y4 λh=>?_|refine aQ c1 ?_|refine aQ c2 ?_|(refine wX ?_;refine sC d rfl ⟨ah _,ah _,ah _,VLe.s SLe.nil,trivial⟩ rfl rfl rfl ?_)|exact y5|fail)
  all_goals exact bK
inductive CaT (l:List Int) (dep:Int) (args:Nat):Nat->Nat->List (List Nd)->Nat->Prop
 |nil (i:Nat):CaT l dep args 0 i [] i
 |cons {n i i1 i':Nat} {r:List Nd} {K:List (List Nd)} (c:FQ 218 [cP,nI dep,nI args] 1 (cW l i) (al r) 1 (cW l i1)) (t:CaT l dep args n i1 K i'):CaT l dep args (n+1) i (r::K) i'
theorem FL {l:List Int} {dep:Int} {args n i i':Nat} {K:List (List Nd)} (h:CaT l dep args n i K i'):K.length=n:=by
 induction h with
 |nil i=>rfl
 |cons _ _ ih=>simp[ih]
theorem My (l:List Int) (dep:Int) (args B:Nat) (hE:fL l dep args B):∀ (n i:Nat),i<=l.length->∃ K i',CaT l dep args n i K i'/\i'<=l.length/\∀ r∈K,OKr B r
 |0,i,hi=>⟨[],i,.nil i,hi,λr hr=>by cases hr⟩
 |n+1,i,hi=>by
  obtain⟨r,i1,o,hi1,c⟩:=hE i hi;obtain⟨K,i',h1,h2,h4⟩:=My l dep args B hE n i1 hi1;refine⟨r::K,i',.cons c h1,h2,λq hq=>?_⟩
  rcases Z0h.1 hq with rfl|hq
  ·exact o
  ·exact h4 q hq
theorem Hq (op n:Int) (s:By) (K:List (List Nd)) {B:Nat} (C:Nat) (hn:0<=n) (hs:s.length<=1000) (hK:∀ r∈K,OKr B r) (hB:K.length*B<=1000000000000) (hk:K.length<=4096) (hC:1+K.length*B<=C):
 ∃ r,OKr C r/\FQ 103 [nI op,.s (.int .u64 n),sV s,.s (dw K)] 0 [] (al r) 0 []:=⟨_,OKr.tree hK hn hs hC,yq op n s K hK hB hk⟩
def calls:List By:=[[77],[65],[92,77],[94,77]]
theorem FK (l:List Int) (hl:l.length<=20000000000000) (dep:Int) (h1: -10<=dep) (h2:dep<=10) (args B:Nat) (ha:args<=100) (hB1:1<=B) (hB2:B<=100000) (hE:fL l (dep-1) args B) (i:Nat) (hi:i<=l.length):
 ∃ (r:List Nd) (i':Nat),OKr (1+2*B) r/\i'<=l.length/\FQ 219 [cP,nI dep,nI args] 1 (cW l i) (al r) 1 (cW l i'):=by
 obtain⟨m,i2,hm2,hi2,c2⟩:=aJ l hl 3 ac ac i hi;obtain⟨K,i3,hB,hi3,hK⟩:=My l (dep-1) args B hE m i2 hi2;have hKl:=FL hB;obtain⟨q,i4,hq,hi4,c4⟩:=aJ l hl 4 ac ac i3 hi3;have hKB:K.length*B<=2*B:=Z1w B aa
 have hsl:(calls.getD q []).length<=1000:=by
  rcases (aa:q=0\/q=1\/q=2\/q=3) with rfl|rfl|rfl|rfl<;>decide
 obtain⟨r,o,dn⟩:=Hq 5 0 (calls.getD q []) K (B:=B) (1+2*B) ac hsl hK aa aa aa;unfold dw at dn;refine⟨r,i4,o,hi4,?_⟩;have hsz:(Tryz.prog.types[32]).size=1:=aK;have hby:(Tryz.prog.types[32]).bytes=24:=aK;refine wW Tryz.func219 ?_
 repeat'(first|refine yA ?_|refine y2 ?_ ?_|refine aQ c2 ?_|exact y5|fail)
 refine gH 7 (.s (.row 1 2 0)) (VLe.s SLe.nilrow) rfl (Ex.upN (n':=3) aa ?_)
 refine cy (σ:=Nat×Nat×List (List Nd)) (λs=>[(7,.s (.row 1 2 s.2.2.length)),(8,nI s.1)]) (λs=>[(0,some {cells:=[kM l,.int .i64 (s.2.1:Int)],ty:=97}),(1,ow 1 s.2.2)])
  (λs=>∃ R,CaT l (dep-1) args s.1 s.2.1 R i3/\s.2.2++R=K) (λs=>s.1) (m,i2,[]) rfl (λ_=>rfl) ⟨K,hB,rfl⟩ aP ⟨rfl,trivial⟩ ?_
 rintro⟨n,j,D⟩ ⟨R,hR,hD⟩;simp only at hR hD |-
 cases hR with
 |nil=>
  rw[Z0u] at hD;subst hD
  rcases (aa:q=0\/q=1\/q=2\/q=3) with rfl|rfl|rfl|rfl
  all_goals
   cases D with
   |nil=>
    repeat'(first|refine yA ?_|refine y2 ?_ ?_|refine y4 λh=>?_|refine aQ c4 ?_|(refine wX ?_;refine sC dn rfl ⟨ah _,ah _,ah _,VLe.s SLe.row0,trivial⟩ rfl rfl rfl ?_)|exact y5|fail)
    all_goals first
    |exact bK
    |omega
    |exact aU aa aa
    |exact aB aa aa
   |cons x D=>
    repeat'(first|refine yA ?_|refine y2 ?_ ?_|refine y4 λh=>?_|refine aQ c4 ?_|(refine wX ?_;refine CD 28 (λk=>[nS ((x::D).getD k [])]) 1 dn rfl rfl rfl rfl (λ_ _=>rfl) (λkk jj zz hk hx=>dj (K:=(x::D)) hk hx) rfl aP rfl rfl rfl ?_)|exact y5|fail)
    all_goals first
    |exact bK
    |omega
    |exact aU aa aa
    |exact aB aa aa
 | @cons n _ j1 _ r' R' c t=>
   have hRl:=FL t
   have hlen:D.length+n<=2:=by rw[<-hKl,<-hD] at hm2;simp at hm2;omega
   repeat'(first|refine y1 ?_|refine y2 ?_ ?_|refine y4 λh=>?_|refine aQ c ?_|refine gZ (i:=1) (g:=2) (m:=D.length) (w:=1) (cs:=D.map λr=>nS r) (foot:=[3]) (k:=1) (add:=[nS r']) rfl rfl aq rfl rfl rfl rfl rfl rfl rfl hsz ac rfl ⟨Z02 _,rfl⟩ ac aq rfl (by rw[hby];omega) aa rfl ?_|refine y3 ?_|exact y5|fail)
   refine fX (n,j1,D++[r']) ⟨R',t,by simpa using hD⟩ (by simp only;omega) [0,4,5] rfl ?_ ?_ ?_
   ·repeat'(first|exact ah _|exact dd _|exact Z0o|exact bB (congrArg nI (by push_cast;omega))|(refine bB (congrArg V.s (?_:S.row 4 5 _=S.row 4 5 _));simp;done)|refine⟨?_,?_⟩)
   ·refine⟨rfl,bh ?_ trivial⟩
    rw[Z0d];rfl
   ·exact (by unfold ow;generalize List.map _ _=cg;cases cg<;>rfl)
theorem C0 (l:List Int) (hl:l.length<=20000000000000) (dep:Int) (h1: -10<=dep) (h2:dep<=10) (args B:Nat) (ha:args<=100) (hB1:1<=B) (hB2:B<=100000) (hE:fL l (dep-1) args B) (i:Nat) (hi:i<=l.length):
 ∃ (r:List Nd) (i':Nat),OKr (1+2*B) r/\i'<=l.length/\FQ 220 [cP,nI dep,nI args] 1 (cW l i) (al r) 1 (cW l i'):=by
 obtain⟨k,i1,hk,hi1,c1⟩:=aJ l hl 2 ac ac i hi;by_cases k1:k=0
 ·subst k1
  obtain⟨m,i2,hm2,hi2,c2⟩:=aJ l hl 3 ac ac i1 hi1;obtain⟨q,i3,hq,hi3,c3⟩:=aJ l hl 40000 ac ac i2 hi2
  have hP:(m:Int)*(q:Int)<=120000:=by
   have:=Nat.mul_le_mul (Z1k hm2) (Z1k hq);have h:((m*q:Nat):Int)<=((3*40000:Nat):Int):=Int.ofNat_le.2 this;rw[Int.natCast_mul] at h;omega
  have hP0:0<=(m:Int)*(q:Int):=Z5y aa aa;obtain⟨r1,o1,d1⟩:=cC [77,84,88] ac;obtain⟨r2,o2,d2⟩:=eg (if (65535:Int)<(m:Int)*(q:Int) then 65535 else (m:Int)*(q:Int)) (by split<;>omega);obtain⟨r,o,dn⟩:=aO 41 [r1,r2] (B:=1) 3 (by simp[o1,o2]) aq aq aq;unfold dw at dn;refine⟨r,i3,o.le aa,hi3,?_⟩;refine wW Tryz.func220 ?_
  repeat'(first|refine y1 ?_|refine y2 ?_ ?_|refine y4 λh=>?_|refine aQ c1 ?_|refine aQ c2 ?_|refine aQ c3 ?_|refine an d1 ?_|refine y3 ?_|exact y5|fail)
  refine mo [.num (if (65535:Int)<(m:Int)*(q:Int) then 65535 else (m:Int)*(q:Int))] rfl rfl ⟨trivial,rfl⟩ ?_;generalize hz:(if (65535:Int)<(m:Int)*(q:Int) then 65535 else (m:Int)*(q:Int))=z at*
  have hz0:0<=z:=by rw[<-hz];split<;>omega
  have hz1:z<=65535:=by rw[<-hz];split<;>omega
  repeat'(first|refine y1 ?_|refine y2 ?_ ?_|refine an d2 ?_|(refine wX ?_;refine CD 19 (λk=>[nS ([r1,r2].getD k [])]) 1 dn rfl rfl rfl rfl (λ_ _=>rfl) (λkk jj zz hk hx=>dj (K:=[r1,r2]) hk hx) rfl aP rfl rfl rfl ?_)|refine y3 ?_|exact y5|fail)
  all_goals exact bK
 ·obtain⟨r2,i2,o2,hi2,c2⟩:=hE i1 hi1
  obtain⟨r1,o1,d1⟩:=cC [69,86,84] ac;obtain⟨r,o,dn⟩:=aO 42 [r1,r2] (B:=B) (1+2*B) (by simp[o1.le hB1,o2]) (by simp;omega) aq aq;unfold dw at dn;refine⟨r,i2,o,hi2,?_⟩;refine wW Tryz.func220 ?_
  repeat'(first|refine y1 ?_|refine y2 ?_ ?_|refine y4 λh=>?_|refine aQ c1 ?_|refine aQ c2 ?_|refine an d1 ?_|(refine wX ?_;refine CD 27 (λk=>[nS ([r1,r2].getD k [])]) 1 dn rfl rfl rfl rfl (λ_ _=>rfl) (λkk jj zz hk hx=>dj (K:=[r1,r2]) hk hx) rfl aP rfl rfl rfl ?_)|refine y3 ?_|exact y5|fail)
  all_goals exact bK
theorem KE (l:List Int) (hl:l.length<=20000000000000) (dep:Int) (h1: -10<=dep) (h2:dep<=0) (args:Nat) (ha:args<=100):fL l dep args 100:=by
 intro i hi;obtain⟨k,i1,hk,hi1,c1⟩:=aJ l hl 16 ac ac i hi;by_cases k1:k=1\/k=6\/k=11
 ·obtain⟨r,i2,o,hi2,c2⟩:=pw l hl 0 ac ac args 1 ha ac ac (λh=>absurd h ac) i1 hi1
  refine⟨r,i2,o.le ac,hi2,?_⟩
  rcases k1 with rfl|rfl|rfl
  all_goals
   refine wW Tryz.func218 ?_
   repeat'(first|refine yA ?_|refine y2 ?_ ?_|refine y4 λh=>?_|refine aQ c1 ?_|refine aQ c2 ?_|exact y5|fail)
   all_goals exact bK
 by_cases k2:k=2\/k=7\/k=12
 ·obtain⟨r,i2,o,hi2,c2⟩:=qu l hl 1 ac i1 hi1
  refine⟨r,i2,o,hi2,?_⟩
  rcases k2 with rfl|rfl|rfl
  all_goals
   refine wW Tryz.func218 ?_
   repeat'(first|refine yA ?_|refine y2 ?_ ?_|refine y4 λh=>?_|refine aQ c1 ?_|refine aQ c2 ?_|exact y5|fail)
   all_goals exact bK
 by_cases k3:k=3\/k=8\/k=13
 ·obtain⟨m,i2,hm2,hi2,c2⟩:=aJ l hl 3 ac ac i1 hi1
  obtain⟨r,o,d⟩:=pY 6 m [] aa aq;refine⟨r,i2,o.le ac,hi2,?_⟩
  rcases k3 with rfl|rfl|rfl
  all_goals
   refine wW Tryz.func218 ?_
   repeat'(first|refine yA ?_|refine y2 ?_ ?_|refine y4 λh=>?_|refine aQ c1 ?_|refine aQ c2 ?_|(refine wX ?_;refine sC d rfl ⟨ah _,ah _,ah _,VLe.s SLe.nil,trivial⟩ rfl rfl rfl ?_)|exact y5|fail)
   all_goals exact bK
 by_cases k4:k=4\/k=9\/k=14
 ·obtain⟨s,i2,hs,hi2,c2⟩:=mQ l hl i1 hi1
  obtain⟨r,o,d⟩:=cC s aa;refine⟨r,i2,o.le ac,hi2,?_⟩
  rcases k4 with rfl|rfl|rfl
  all_goals
   refine wW Tryz.func218 ?_
   repeat'(first|refine yA ?_|refine y2 ?_ ?_|refine y4 λh=>?_|refine aQ c1 ?_|refine aQ c2 ?_|refine an d ?_|exact y5|fail)
   all_goals exact bK
 by_cases k0:k=0\/k=5\/k=10\/k=15
 ·obtain⟨x,i2,hx,hi2,c2⟩:=lM l hl i1 hi1
  obtain⟨r,o,d⟩:=eg x hx;refine⟨r,i2,o.le ac,hi2,?_⟩
  rcases k0 with rfl|rfl|rfl|rfl
  all_goals
   refine wW Tryz.func218 ?_
   repeat'(first|refine yA ?_|refine y2 ?_ ?_|refine y4 λh=>?_|refine aQ c1 ?_|refine aQ c2 ?_|refine an d ?_|exact y5|fail)
   all_goals exact bK
 omega
