import Derived.Test.YtegjgpldfgjoiaaGreatDoorCnM17
set_option linter.all false
namespace Go.Proofs.YtegjgpldfgjoiaaGreatDoor
open Go Ab
set_option maxRecDepth 100000
set_option maxHeartbeats 40000000
theorem AD (x:Int):IntKind.u64.wrap x=x%18446744073709551616:=by rfl
theorem GM (x:Int) (n:Nat) (h0:0<n) (h1:n<4611686018427387904):FC Tryz.prog 36 [nI x,nI n] 0 [] (nI (x%18446744073709551616%n)) 0 []:=by
 have hr:0<=x%18446744073709551616:=Z5s _ ac;have hr2:0<=x%18446744073709551616%n:=Z5s _ aa;have hr3:x%18446744073709551616%n<n:=Int.emod_lt_of_pos _ aa;have ht:(x%18446744073709551616).tmod n=x%18446744073709551616%n:=Int.tmod_eq_emod_of_nonneg hr;refine wW Tryz.func36 ?_;refine Ex.seq (Ex.reg hm (RegX.chunkN 1 rfl rfl ⟨trivial,trivial⟩ (RegX.nilF (Then.normal (Ex.seq (Ex.reg hm (RegX.chunkN 1 rfl rfl ⟨trivial,trivial⟩ ?_)))))));refine RegX.opA [.num (x%18446744073709551616)] rfl rfl ⟨trivial,AD x⟩ ?_
 repeat'(first|exact y0|refine y1 ?_|refine y2 ?_ ?_|refine y4 λh=>?_|refine Fin.int (.inl rfl) rfl ht|refine y3 ?_|exact y5|fail)
 all_goals first
  |exact aj aa aa
  |(rw[ht];first|exact aj aa aa|exact ae aa aa)
  |omega
def mC (l:List Int):S:=.frz (λk=>[.int .i64 (l.getD k 0)]) 1 l.length
abbrev cc (l:List Int) (i:Nat):Hp:=[(0,some {cells:=[mC l,.int .i64 (i:Int)],ty:=97})]
abbrev cP:V:=.s (.ptr (some (0,0)))
theorem ax (l:List Int) (hl:l.length<=20000000000000) (n:Nat) (h0:0<n) (h1:n<4611686018427387904) (i:Nat) (hi:i<=l.length):
 ∃ r i':Nat,r<n/\i'<=l.length/\FC Tryz.prog 18 [cP,nI n] 1 (cc l i) (nI r) 1 (cc l i'):=by
 rcases Z0a i l.length with h|h
 ·have hm0:=GM (l.getD i 0) n h0 h1
  have hr2:0<=l.getD i 0%18446744073709551616%n:=Z5s _ aa;have hr3:l.getD i 0%18446744073709551616%n<n:=Int.emod_lt_of_pos _ aa;obtain⟨r,hr⟩:=Z2a hr2;rw[hr] at hm0 hr3;refine⟨r,i+1,aa,h,?_⟩;unfold cc mC;refine wW Tryz.func18 ?_;have hk:(i:Int)+1-1=i:=aa
  repeat'(first|exact y0|refine y1 ?_|refine y2 ?_ ?_|refine y4 λh=>?_|refine wX 36 (pu hm0 ?_)|refine y3 ?_|exact y5|fail)
  refine RegX.chunkN 9 rfl rfl ?_ (RegX.eqv 30 (congrArg nI hk) rfl ?_)
  repeat'(first|exact y0|refine y1 ?_|refine y2 ?_ ?_|refine y4 λh=>?_|refine wX 36 (pu hm0 ?_)|refine y3 ?_|exact y5|fail)
  exact bh
 ·refine⟨0,i,h0,hi,?_⟩
  unfold cc mC;refine wW Tryz.func18 ?_
  repeat'(first|exact y0|refine y1 ?_|refine y2 ?_ ?_|refine y4 λh=>?_|refine y3 ?_|exact y5|fail)
  exact bh
theorem Ch (l:List Int) (hl:l.length<=20000000000000) (i:Nat) (hi:i<=l.length):
 ∃ b,(b=true↔i<l.length)/\FC Tryz.prog 46 [cP] 1 (cc l i) (bV b) 1 (cc l i):=by
 unfold cc mC
 rcases Z0a i l.length with h|h
 ·refine⟨true,by simp[h],?_⟩
  refine wW Tryz.func46 ?_
  repeat'(first|exact y0|refine y1 ?_|refine y2 ?_ ?_|refine y4 λh=>?_|refine y3 ?_|exact y5|fail)
  all_goals first
   |exact bh
   |omega
 ·refine⟨false,by simp;omega,?_⟩
  refine wW Tryz.func46 ?_
  repeat'(first|exact y0|refine y1 ?_|refine y2 ?_ ?_|refine y4 λh=>?_|refine y3 ?_|exact y5|fail)
  all_goals first
   |exact bh
   |omega
theorem GK (l:List Int):FC Tryz.prog 16 [.s (mC l)] 0 [] cP 1 (cc l 0):=by
 unfold cc mC;refine wW Tryz.func16 ?_
 repeat'(first|exact y0|refine y1 ?_|refine y2 ?_ ?_|refine y4 λh=>?_|refine y3 ?_|exact y5|fail)
 all_goals exact⟨.inl rfl,_,[0],VLe.refl _,EndOK.by rfl ⟨rfl,trivial⟩ rfl rfl rfl rfl⟩
def segsL:List By:=[[65],[66],[67],[68,69,86,48],[80,87,82,48],[95,83,84,65],[77,84,88],[69,86,84],[70,49],[77]]
theorem GA (n:Nat) (hn:n<10):∃ s:By,s.length<=4/\FC Tryz.prog 37 [nI n] 0 [] (sV s) 0 []:=by
 have hm0:=GM n 10 ac ac;rw[show (n:Int)%18446744073709551616%(10:Nat)=(n:Nat) by omega] at hm0
 have key:∀ n:Nat,n<10->FC Tryz.prog 36 [nI n,nI (10:Nat)] 0 [] (nI n) 0 []->FC Tryz.prog 37 [nI n] 0 [] (sV (segsL.getD n [])) 0 []:=by
  intro n hn hm0
  rcases (aa:n=0\/n=1\/n=2\/n=3\/n=4\/n=5\/n=6\/n=7\/n=8\/n=9) with rfl|rfl|rfl|rfl|rfl|rfl|rfl|rfl|rfl|rfl
  all_goals
   refine wW Tryz.func37 ?_
   repeat'(first|exact y0|refine y1 ?_|refine y2 ?_ ?_|refine y4 λh=>?_|refine wX 36 (pu hm0 ?_)|refine Fin.str (.inl rfl) rfl rfl|refine y3 ?_|exact y5|fail)
 refine⟨segsL.getD n [],?_,key n hn hm0⟩
 match n,hn with
 |0,_=>decide
 |1,_=>decide
 |2,_=>decide
 |3,_=>decide
 |4,_=>decide
 |5,_=>decide
 |6,_=>decide
 |7,_=>decide
 |8,_=>decide
 |9,_=>decide
theorem jM (l:List Int) (hl:l.length<=20000000000000) (i:Nat) (hi:i<=l.length):
 ∃ (s:By) (i':Nat),s.length<=5/\i'<=l.length/\FC Tryz.prog 19 [cP] 1 (cc l i) (sV s) 1 (cc l i'):=by
 obtain⟨k,i1,hk,hi1,hc1⟩:=ax l hl 6 ac ac i hi;obtain⟨m,i2,hm2,hi2,hc2⟩:=ax l hl 10 ac ac i1 hi1;obtain⟨s,hs,hc3⟩:=GA m hm2;by_cases h4:k=4
 ·subst h4
  refine⟨92::s,i2,by simp only[Z04];omega,hi2,?_⟩;refine wW Tryz.func19 ?_
  repeat'(first|exact y0|refine y1 ?_|refine y2 ?_ ?_|refine y4 λh=>?_|refine wX 18 (cm hc1 ?_)|refine wX 18 (cm hc2 ?_)|refine wX 37 (pu hc3 ?_)|refine y3 ?_|exact y5|fail)
  all_goals first
   |exact bh
   |omega
   |(show 1+List.length s<9223372036854775808;omega)
   |(show (1:Int)+(List.length s:Int)<=_;omega)
 ·by_cases h5:k=5
  ·subst h5
   refine⟨94::s,i2,by simp only[Z04];omega,hi2,?_⟩;refine wW Tryz.func19 ?_
   repeat'(first|exact y0|refine y1 ?_|refine y2 ?_ ?_|refine y4 λh=>?_|refine wX 18 (cm hc1 ?_)|refine wX 18 (cm hc2 ?_)|refine wX 37 (pu hc3 ?_)|refine y3 ?_|exact y5|fail)
   all_goals first
    |exact bh
    |omega
    |(show 1+List.length s<9223372036854775808;omega)
    |(show (1:Int)+(List.length s:Int)<=_;omega)
  ·have h4': ¬(k:Int)=4:=aa
   have h5': ¬(k:Int)=5:=aa;refine⟨s,i2,aa,hi2,?_⟩;refine wW Tryz.func19 ?_
   repeat'(first|exact y0|refine y1 ?_|refine y2 ?_ ?_|refine y4 λh=>?_|refine wX 18 (cm hc1 ?_)|refine wX 18 (cm hc2 ?_)|refine wX 37 (pu hc3 ?_)|refine y3 ?_|exact y5|fail)
   all_goals first
    |exact bh
    |omega
    |(show 1+List.length s<9223372036854775808;omega)
    |(show (1:Int)+(List.length s:Int)<=_;omega)
theorem og (l:List Int) (hl:l.length<=20000000000000) (i:Nat) (hi:i<=l.length):
 ∃ (x:Int) (i':Nat),0<=x/\i'<=l.length/\FC Tryz.prog 73 [cP] 1 (cc l i) (.s (.int .u64 x)) 1 (cc l i'):=by
 obtain⟨k,i1,hk,hi1,hc1⟩:=ax l hl 8 ac ac i hi;obtain⟨m,i2,hm2,hi2,hc2⟩:=ax l hl 1073741824 ac ac i1 hi1;obtain⟨m3,i3,hm3,hi3,hc3⟩:=ax l hl 9 ac ac i1 hi1;by_cases h4:k=6
 ·subst h4
  refine⟨18446744073709551615,i1,ac,hi1,?_⟩;refine wW Tryz.func73 ?_
  repeat'(first|exact y0|refine y1 ?_|refine y2 ?_ ?_|refine y4 λh=>?_|refine wX 18 (cm hc1 ?_)|refine y3 ?_|exact y5|fail)
  all_goals first
   |exact bh
   |omega
 ·by_cases h5:k=7
  ·subst h5
   refine⟨(m:Int)*3,i2,aa,hi2,?_⟩;refine wW Tryz.func73 ?_
   repeat'(first|exact y0|refine y1 ?_|refine y2 ?_ ?_|refine y4 λh=>?_|refine wX 18 (cm hc1 ?_)|refine wX 18 (cm hc2 ?_)|refine y3 ?_|exact y5|fail)
   all_goals first
    |exact bh
    |exact aj aa aa
    |omega
  ·have h4': ¬(k:Int)=6:=aa
   have h5': ¬(k:Int)=7:=aa;refine⟨(m3:Int),i3,aa,hi3,?_⟩;refine wW Tryz.func73 ?_
   repeat'(first|exact y0|refine y1 ?_|refine y2 ?_ ?_|refine y4 λh=>?_|refine wX 18 (cm hc1 ?_)|refine wX 18 (cm hc3 ?_)|refine y3 ?_|exact y5|fail)
   all_goals first
    |exact bh
    |exact aj aa aa
    |omega
abbrev nS (p:List Nd):S:=.frz (λk=>ndC (p.getD k dN)) 4 p.length
def cq (K:List (List Nd)):S:=.frz (λk=>[nS (K.getD k [])]) 1 K.length
def ndS:List Nd->S
 |_::_::l=> .sla 0 1 (l.length+2)
 |_=> .slc (some (0,0)) 1 (some 1)
def ndQ:List Nd->Bl
 |x::y::l=>{cells:=(x::y::l).flatMap ndC,ty:=49,more:=true,sym:=true,flat:=true,gh:=some (1,4)}
 |x::[]=>{cells:=ndC x,ty:=49,flat:=true}
 |[]=>{cells:=[],ty:=49}
theorem rF:∀ G:List Nd,(G.flatMap ndC).length=G.length*4
 |[]=>rfl
 |x::G=>by rw[Z0g,Z03,rF G];simp only[Z04];simp[ndC];omega
theorem fg (G:List Nd):eP (λk=>ndC (G.getD k dN)) G.length=G.flatMap ndC:=by
 rw[jS]
theorem rG (bl:Bl) (r:List Nd):bC bl (r.flatMap ndC)=true:=by
 have h1:∀ r:List Nd,(r.flatMap ndC).all bM=true:=by
  intro r
  induction r with
  |nil=>rfl
  |cons x r ih=>rw[Z0g,Z1g,ih];rfl
 have h2:∀ r:List Nd,(r.flatMap ndC).all nJ=true:=by
  intro r
  induction r with
  |nil=>rfl
  |cons x r ih=>rw[Z0g,Z1g,ih];rfl
 unfold bC;split
 ·exact h1 r
 ·exact h2 r
theorem jf {G:List Nd} {k j:Nat} {x:S} (hk:k<G.length) (hx:(ndC (G.getD k dN))[j]? =some x):(G.flatMap ndC)[k*4+j]? =some x/\bE x=true:=by
 induction G generalizing k with
 |nil=>simp at hk
 |cons y G ih=>
  cases k with
  |zero=>
   rw[Z0g]
   match j,hx with
   |0,hx=>cases hx;exact⟨rfl,rfl⟩
   |1,hx=>cases hx;exact⟨rfl,rfl⟩
   |2,hx=>cases hx;exact⟨rfl,rfl⟩
   |3,hx=>cases hx;exact⟨rfl,rfl⟩
   |_+4,hx=>cases hx
  |succ k=>
   have:=ih (k:=k) (by simpa using hk) (by simpa using hx);rw[Z0g,show (k+1)*4+j=(k*4+j)+4 by omega];exact this
theorem HT {x:Nd} {k j:Nat} {s:S} (hk:k<1) (hx:(ndC ([x].getD k dN))[j]? =some s):(ndC x)[k*4+j]? =some s/\bE s=true:=by
 have:=jf (G:=[x]) (k:=k) (j:=j) (x:=s) hk hx
 simpa using this
theorem HR (op n:Int) (s:By) (K:List (List Nd)) (hK:∀ r∈K,r≠[]) (hn:(K.flatten).length<=1000000000000) (hk:K.length<=4096):
 FC Tryz.prog 103 [nI op,.s (.int .u64 n),sV s,.s (cq K)] 0 [] (al (⟨op,n,s,K.length⟩::K.flatten)) 0 []:=by
 have hsz:(Tryz.prog.types[49]).size=4:=by kernel_rfl
 have hby:(Tryz.prog.types[49]).bytes=40:=by kernel_rfl
 unfold cq;generalize hT:(⟨op,n,s,K.length⟩::K.flatten:List Nd)=T;refine wW Tryz.func103 ?_
 repeat'(first|exact y0|refine y1 ?_|refine y2 ?_ ?_|refine y4 λh=>?_|refine y3 ?_|exact y5|fail)
 refine Ex.flat 0 rfl rfl rfl rfl (Ex.set 17 .any (VLe.any _) rfl (Ex.upN (n':=2) aa ?_));refine Ex.inv (σ:=Nat×List Nd) (λq=>[(10,nI q.1),(9,.s (ndS q.2))]) (λq=>[(0,some (ndQ q.2))]) (λq=>q.1<=K.length/\q.2++(K.drop q.1).flatten=T/\q.2≠[]) (λq=>K.length-q.1) (0,[⟨op,n,s,K.length⟩]) rfl (λ_=>rfl) ?_ ?_ ?_ ?_
 ·exact⟨Z08 _,by simpa using hT,an⟩
 ·exact aV
 ·exact⟨rfl,trivial⟩
 ·rintro⟨j,Q⟩ ⟨h1,h2,h3⟩
  simp only at h1 h2 h3 |-
  have hTl:T.length<=1000000000001:=by rw[<-hT];simp only[Z04];omega
  rcases Z0a j K.length with hj|hj
  ·have hd:K.drop j=K.getD j []::K.drop (j+1):=by
    rw[Z0k hj,Z00,Z01 hj];rfl
   have hr:K.getD j []≠[]:=hK _ (by rw[Z00,Z01 hj];exact Z0s hj);rw[hd,Z4w,<-Z14] at h2;have hrl:0<(K.getD j []).length:=Z1s.2 hr
   have hlen:Q.length+(K.getD j []).length<=1000000000001:=by
    rw[<-h2] at hTl;simp only[Z03] at hTl;omega
   match Q,h3 with
   |[x],_=>
    repeat'(first|exact y0|refine y1 ?_|refine y2 ?_ ?_|refine y4 λh=>?_|refine y3 ?_|exact y5|fail)
    generalize K.getD j []=r at*;obtain⟨z,r,rfl⟩:=Z4j hr;simp only[Z04,Z0e] at hlen;refine RegX.app [.app (1+(r.length+1)) (([x]++z::r).flatMap ndC)] rfl rfl ?_ rfl rfl rfl ?_
    ·refine⟨?_,trivial,rfl,rfl,?_,?_,(λh=>by simp),?_,?_⟩
     ·rw[hsz];rfl
     ·rw[hsz,fg];rfl
     ·rw[fg];exact rG _ _
     ·rw[hby];omega
     ·omega
    repeat'(first|exact y0|refine y1 ?_|refine y2 ?_ ?_|refine y4 λh=>?_|refine y3 ?_|exact y5|fail)
    all_goals try omega
    refine LoopR.move (j+1,[x]++z::r) ⟨hj,h2,an⟩ (by simp only;omega) [2,3] rfl ?_ ?_ rfl
    ·repeat' (first|exact VLe.refl _|exact VLe.any _|exact Z0o|(refine VLe.of_eq (congrArg V.s (?_:S.sla 2 3 _=S.sla 2 3 _));simp;omega)|refine⟨?_,?_⟩)
    ·exact⟨rfl,trivial⟩
   |x::y::l,_=>
    repeat'(first|exact y0|refine y1 ?_|refine y2 ?_ ?_|refine y4 λh=>?_|refine y3 ?_|exact y5|fail)
    generalize K.getD j []=r at*;obtain⟨z,r,rfl⟩:=Z4j hr;simp only[Z04,Z0e] at hlen;refine RegX.app [.app ((l.length+2)+(r.length+1)) (((x::y::l)++z::r).flatMap ndC)] rfl rfl ?_ rfl rfl rfl ?_
    ·refine⟨?_,trivial,rfl,rfl,?_,?_,(λh=>by simp),?_,?_⟩
     ·rw[hsz];show (l.length+2)*4<=((x::y::l).flatMap ndC).length;rw[rF];simp
     ·rw[hsz,fg];show _=List.take ((l.length+2)*4) ((x::y::l).flatMap ndC)++_;rw[Z1l (by rw[rF];simp),Z0r]
     ·rw[fg];exact rG _ _
     ·rw[hby];omega
     ·omega
    repeat'(first|exact y0|refine y1 ?_|refine y2 ?_ ?_|refine y4 λh=>?_|refine y3 ?_|exact y5|fail)
    all_goals try omega
    refine LoopR.move (j+1,(x::y::l)++z::r) ⟨hj,h2,an⟩ (by simp only;omega) [2,3] rfl ?_ ?_ rfl
    ·repeat' (first|exact VLe.refl _|exact VLe.any _|exact Z0o|(refine VLe.of_eq (congrArg V.s (?_:S.sla 2 3 _=S.sla 2 3 _));simp;omega)|refine⟨?_,?_⟩)
    ·exact⟨rfl,trivial⟩
  ·have hd:K.drop j=[]:=Z10 hj
   rw[hd] at h2;simp only[Z51,Z0u] at h2;subst h2
   match Q,h3 with
   |[x],_=>
    repeat'(first|exact y0|refine y1 ?_|refine y2 ?_ ?_|refine y4 λh=>?_|refine Ex.fz 8 (λk=>ndC ([x].getD k dN)) 4 rfl rfl rfl rfl (λ_ _=>rfl) (λk j s hk hs=>HT hk hs) rfl rfl ?_|refine Fin.le (.inl rfl) rfl (VLe.refl _) rfl|refine y3 ?_|exact y5|fail)
    all_goals try omega
   |x::y::l,_=>
    repeat'(first|exact y0|refine y1 ?_|refine y2 ?_ ?_|refine y4 λh=>?_|refine Ex.fz 8 (λk=>ndC ((x::y::l).getD k dN)) 4 rfl rfl rfl rfl (λ_ _=>rfl) (λk j s hk hs=>jf hk hs) rfl rfl ?_|refine Fin.le (.inl rfl) rfl (VLe.refl _) rfl|refine y3 ?_|exact y5|fail)
    all_goals try omega
section
variable {B:Nat}
def tree (op n:Int) (s:By) (K:List (List Nd)):List Nd:=⟨op,n,s,K.length⟩::K.flatten
structure OKr (B:Nat) (r:List Nd):Prop where
 ne:r≠[]
 len:r.length<=B
 wf:∀ x∈r,x.str.length<=1000/\0<=x.int
theorem OKr.le {C:Nat} {r:List Nd} (h:OKr B r) (hbc:B<=C):OKr C r:=⟨h.ne,Z1z h.len hbc,h.wf⟩
theorem gf {B:Nat}:∀ {K:List (List Nd)},(∀ r∈K,OKr B r)->K.flatten.length<=K.length*B
 |[],_=>by simp
 |r::K,h=>by
  have h1:=(h r (Z17 ..)).len
  have h2:=gf (K:=K) λq hq=>h q (Z0y _ hq)
  simp only[Z4w,Z03,Z04];rw[Z2q,Nat.one_mul];omega
theorem OKr.tree {C:Nat} {op n:Int} {s:By} {K:List (List Nd)} (hK:∀ r∈K,OKr B r) (hn:0<=n) (hs:s.length<=1000) (hC:1+K.length*B<=C):OKr C (tree op n s K):=by
 refine⟨by simp[Go.Proofs.YtegjgpldfgjoiaaGreatDoor.tree],?_,λx hx=>?_⟩
 ·have:=gf hK
  simp only[Go.Proofs.YtegjgpldfgjoiaaGreatDoor.tree,Z04];omega
 ·rcases Z0h.1 hx with rfl|hx
  ·exact⟨hs,hn⟩
  ·obtain⟨r,hr,hxr⟩:=List.mem_flatten.1 hx
   exact (hK r hr).wf x hxr
theorem wg (op n:Int) (s:By) (K:List (List Nd)) (hK:∀ r∈K,OKr B r) (hB:K.length*B<=1000000000000) (hk:K.length<=4096):
 FC Tryz.prog 103 [nI op,.s (.int .u64 n),sV s,.s (cq K)] 0 [] (al (tree op n s K)) 0 []:=
 HR op n s K (λr hr=>(hK r hr).ne) (Z1z (gf hK) hB) hk
theorem wo (op n:Int) (s:By):FC Tryz.prog 103 [nI op,.s (.int .u64 n),sV s,.s (cq [])] 0 [] (al (tree op n s [])) 0 []:=
 wg op n s [] (B:=0) (λr hr=>by cases hr) an an
theorem OKr.leaf {op n:Int} {s:By} (hn:0<=n) (hs:s.length<=1000):OKr 1 (Go.Proofs.YtegjgpldfgjoiaaGreatDoor.tree op n s []):=
 OKr.tree (B:=0) (λr hr=>by cases hr) hn hs an
theorem JB (n:Int):FC Tryz.prog 58 [.s (.int .u64 n)] 0 [] (al (tree 1 n [] [])) 0 []:=by
 have h:=wo 1 n [];refine wW Tryz.func58 ?_
 repeat'(first|exact y0|refine y1 ?_|refine y2 ?_ ?_|refine y4 λh=>?_|(refine wX 103 ?_;refine CallG.we h rfl ⟨VLe.refl _,VLe.refl _,VLe.refl _,VLe.s SLe.nil,trivial⟩ rfl rfl rfl ?_)|refine Fin.le (.inl rfl) rfl (VLe.refl _) rfl|refine y3 ?_|exact y5|fail)
theorem B3 (s:By):FC Tryz.prog 56 [sV s] 0 [] (al (tree 3 0 s [])) 0 []:=by
 have h:=wo 3 0 s;refine wW Tryz.func56 ?_
 repeat'(first|exact y0|refine y1 ?_|refine y2 ?_ ?_|refine y4 λh=>?_|(refine wX 103 ?_;refine CallG.we h rfl ⟨VLe.refl _,VLe.refl _,VLe.refl _,VLe.s SLe.nil,trivial⟩ rfl rfl rfl ?_)|refine Fin.le (.inl rfl) rfl (VLe.refl _) rfl|refine y3 ?_|exact y5|fail)
theorem HQ (op:Int) (K:List (List Nd)) (hK:∀ r∈K,OKr B r) (hB:K.length*B<=1000000000000) (hk:K.length<=4096):
 FC Tryz.prog 55 [nI op,.s (cq K)] 0 [] (al (tree op 0 [] K)) 0 []:=by
 have h:=wg op 0 [] K hK hB hk;generalize tree op 0 [] K=T at*;unfold cq at*;refine wW Tryz.func55 ?_
 repeat'(first|exact y0|refine y1 ?_|refine y2 ?_ ?_|refine y4 λh=>?_|refine wX 103 (pu h ?_)|refine Fin.le (.inl rfl) rfl (VLe.refl _) rfl|refine y3 ?_|exact y5|fail)
end
theorem cU {K:List (List Nd)} {k j:Nat} {x:S} (hk:k<K.length) (hx:[nS (K.getD k [])][j]? =some x):(K.map λr=>nS r)[k*1+j]? =some x/\bE x=true:=by
 cases j with
 |succ j=>simp at hx
 |zero=>
  simp only[Z11,Z06] at hx;subst hx;rw[Z1p,Z0p,Z0t,Z01 hk,Z00,Z01 hk];exact⟨rfl,rfl⟩
theorem dy (n:Int) (h:0<=n):∃ r,OKr 1 r/\FC Tryz.prog 58 [.s (.int .u64 n)] 0 [] (al r) 0 []:=⟨_,OKr.leaf h an,JB n⟩
theorem cY (s:By) (h:s.length<=1000):∃ r,OKr 1 r/\FC Tryz.prog 56 [sV s] 0 [] (al r) 0 []:=⟨_,OKr.leaf ac h,B3 s⟩
theorem aP (op:Int) (K:List (List Nd)) {B:Nat} (C:Nat) (hK:∀ r∈K,OKr B r) (hB:K.length*B<=1000000000000) (hk:K.length<=4096) (hC:1+K.length*B<=C):
 ∃ r,OKr C r/\FC Tryz.prog 55 [nI op,.s (cq K)] 0 [] (al r) 0 []:=⟨_,OKr.tree hK ac an hC,HQ op K hK hB hk⟩
theorem BA (l:List Int) (hl:l.length<=20000000000000) (i:Nat) (hi:i<=l.length) (s:By) (hs:s.length<=1000):
 ∃ (r:List Nd) (i':Nat),OKr 5 r/\i'<=l.length/\FC Tryz.prog 60 [cP,sV s] 1 (cc l i) (al r) 1 (cc l i'):=by
 obtain⟨k,i1,hk,hi1,c1⟩:=ax l hl 3 ac ac i hi;obtain⟨m,i2,hm2,hi2,c2⟩:=ax l hl 4 ac ac i1 hi1;obtain⟨q,i3,hq,hi3,c3⟩:=ax l hl 32 ac ac i2 hi2
 obtain⟨sp,hsp0,hsp⟩:∃ sp:Int,0<=sp/\sp=(if k=0 then 0 else if k=1 then 1 else 3):=⟨_,by split<;>(try split)<;>decide,rfl⟩
 obtain⟨r1,o1,d1⟩:=cY s hs;obtain⟨r2,o2,d2⟩:=dy sp hsp0;obtain⟨r3,o3,d3⟩:=dy (8*m) aa;obtain⟨r4,o4,d4⟩:=dy (16+q) aa;obtain⟨r,o,dn⟩:=aP 15 [r1,r2,r3,r4] (B:=1) 5 (by simp[o1,o2,o3,o4]) an an an;unfold cq at dn;refine⟨r,i3,o,hi3,?_⟩
 rcases (aa:k=0\/k=1\/k=2) with rfl|rfl|rfl
 all_goals
  subst hsp;refine wW Tryz.func60 ?_
  repeat'(first|exact y0|refine y1 ?_|refine y2 ?_ ?_|refine y4 λh=>?_|refine wX 18 (cm c1 ?_)|refine wX 18 (cm c2 ?_)|refine wX 18 (cm c3 ?_)|refine wX 56 (pu d1 ?_)|refine wX 58 (pu d2 ?_)|refine wX 58 (pu d3 ?_)|refine wX 58 (pu d4 ?_)|(refine wX 55 ?_;refine CallG.pz 25 (λk=>[nS ([r1,r2,r3,r4].getD k [])]) 1 dn rfl rfl rfl rfl (λ_ _=>rfl) (λk j x hk hx=>cU (K:=[r1,r2,r3,r4]) hk hx) rfl aV rfl rfl rfl ?_)|refine y3 ?_|exact y5|fail)
  all_goals first
   |exact bh
   |omega
   |exact aj aa aa
   |exact ae aa aa
abbrev kO (g:Nat) (K:List (List Nd)):Option Bl:=eI 32 (g+1) 1 (K.map λr=>nS r)
inductive BufT (l:List Int):Nat->Nat->List (List Nd)->Nat->Prop
 |nil (i:Nat):BufT l 0 i [] i
 |cons {n i k i1 i':Nat} {r:List Nd} {K:List (List Nd)} (hk:k<256) (hi1:i1<=l.length) (c:FC Tryz.prog 18 [cP,nI (256:Nat)] 1 (cc l i) (nI k) 1 (cc l i1))
  (o:OKr 1 r) (d:FC Tryz.prog 58 [.s (.int .u64 k)] 0 [] (al r) 0 []) (t:BufT l n i1 K i'):BufT l (n+1) i (r::K) i'
theorem FX {l:List Int} {n i i':Nat} {K:List (List Nd)} (h:BufT l n i K i'):K.length=n:=by
 induction h with
 |nil i=>rfl
 |cons _ _ _ _ _ _ ih=>simp[ih]
theorem GY (l:List Int) (hl:l.length<=20000000000000):∀ (n i:Nat),i<=l.length->∃ K i',BufT l n i K i'/\i'<=l.length/\K.length=n/\∀ r∈K,OKr 1 r
 |0,i,hi=>⟨[],i,.nil i,hi,rfl,λr hr=>by cases hr⟩
 |n+1,i,hi=>by
  obtain⟨k,i1,hk,hi1,c⟩:=ax l hl 256 ac ac i hi;obtain⟨r,o,d⟩:=dy k aa;obtain⟨K,i',h1,h2,h3,h4⟩:=GY l hl n i1 hi1;refine⟨r::K,i',.cons hk hi1 c o d h1,h2,by simp[h3],λq hq=>?_⟩
  rcases Z0h.1 hq with rfl|hq
  ·exact o
  ·exact h4 q hq
theorem Dh (l:List Int) (hl:l.length<=20000000000000) (dep:Int) (i i1:Nat) (hi1:i1<=l.length) (c1:FC Tryz.prog 18 [cP,nI (5:Nat)] 1 (cc l i) (nI (2:Nat)) 1 (cc l i1)):
 ∃ (r:List Nd) (i':Nat),OKr 10 r/\i'<=l.length/\FC Tryz.prog 62 [cP,nI dep] 1 (cc l i) (al r) 1 (cc l i'):=by
 obtain⟨m,i2,hm2,hi2,c2⟩:=ax l hl 4 ac ac i1 hi1;obtain⟨K,i3,hB,hi3,hKl,hK⟩:=GY l hl m i2 hi2;obtain⟨q,i4,hq,hi4,c4⟩:=ax l hl 3 ac ac i3 hi3;obtain⟨r1,o1,d1⟩:=dy ((K.length:Int)+q) aa;obtain⟨r2,o2,d2⟩:=aP 4 K (B:=1) 4 hK aa aa aa;obtain⟨r,o,dn⟩:=aP 50 [r1,r2] (B:=4) 10 (by simp[o1.le,o2]) an an an;unfold cq at dn d2;refine⟨r,i4,o,hi4,?_⟩
 have hsz:(Tryz.prog.types[32]).size=1:=by kernel_rfl
 have hby:(Tryz.prog.types[32]).bytes=24:=by kernel_rfl
 refine wW Tryz.func62 ?_
 repeat'(first|exact y0|refine y1 ?_|refine y2 ?_ ?_|refine y4 λh=>?_|refine wX 18 (cm c1 ?_)|refine wX 18 (cm c2 ?_)|refine y3 ?_|exact y5|fail)
 refine Ex.set 5 (.s (.row 1 2 0)) (VLe.s SLe.nilrow) rfl (Ex.upN (n':=3) aa ?_)
 refine Ex.inv (σ:=Nat×Nat×List (List Nd)) (λs=>[(5,.s (.row 1 2 s.2.2.length)),(6,nI s.1)]) (λs=>[(0,some {cells:=[mC l,.int .i64 (s.2.1:Int)],ty:=97}),(1,kO 1 s.2.2)])
  (λs=>∃ R,BufT l s.1 s.2.1 R i3/\s.2.2++R=K) (λs=>s.1) (m,i2,[]) rfl (λ_=>rfl) ⟨K,hB,rfl⟩ aV ⟨rfl,trivial⟩ ?_
 rintro⟨n,j,D⟩ ⟨R,hR,hD⟩;simp only at hR hD |-
 cases hR with
 |nil=>
  rw[Z0u] at hD;subst hD
  cases D with
  |nil=>
   repeat'(first|exact y0|refine y1 ?_|refine y2 ?_ ?_|refine y4 λh=>?_|refine wX 18 (cm c4 ?_)|refine wX 58 (pu d1 ?_)|(refine wX 55 ?_;refine CallG.we d2 rfl ⟨VLe.refl _,VLe.s SLe.row0,trivial⟩ rfl rfl rfl ?_)|(refine wX 55 ?_;refine CallG.pz 43 (λk=>[nS ([r1,r2].getD k [])]) 1 dn rfl rfl rfl rfl (λ_ _=>rfl) (λkk jj zz hk hx=>cU (K:=[r1,r2]) hk hx) rfl aV rfl rfl rfl ?_)|refine y3 ?_|exact y5|fail)
   all_goals first
   |exact bh
   |omega
   |exact aj aa aa
   |exact ae aa aa
   |exact aj (by simp;omega) (by simp;omega)
   |exact ae (by simp;omega) (by simp;omega)
  |cons x D=>
   repeat'(first|exact y0|refine y1 ?_|refine y2 ?_ ?_|refine y4 λh=>?_|refine wX 18 (cm c4 ?_)|refine wX 58 (pu d1 ?_)|(refine wX 55 ?_;refine CallG.pz 43 (λk=>[nS ([r1,r2].getD k [])]) 1 dn rfl rfl rfl rfl (λ_ _=>rfl) (λkk jj zz hk hx=>cU (K:=[r1,r2]) hk hx) rfl aV rfl rfl rfl ?_)|(refine wX 55 ?_;refine CallG.pz 41 (λk=>[nS ((x::D).getD k [])]) 1 d2 rfl rfl rfl rfl (λ_ _=>rfl) (λkk jj zz hk hx=>cU (K:=(x::D)) hk hx) rfl aV rfl rfl rfl ?_)|refine y3 ?_|exact y5|fail)
   all_goals first
   |exact bh
   |omega
   |exact aj aa aa
   |exact ae aa aa
 | @cons n _ k j1 _ r' R' hk hj1 c oo d t=>
   have hRl:=FX t
   have hlen:D.length+n<=2:=by rw[<-hKl,<-hD] at hm2;simp at hm2;omega
   repeat'(first|exact y0|refine y1 ?_|refine y2 ?_ ?_|refine y4 λh=>?_|refine wX 18 (cm c ?_)|refine wX 58 (pu d ?_)|refine RegX.apr (i:=1) (g:=2) (m:=D.length) (w:=1) (cs:=D.map λr=>nS r) (foot:=[3]) (k:=1) (add:=[nS r']) rfl rfl an rfl rfl rfl rfl rfl rfl rfl hsz ac rfl ⟨Z02 _,rfl⟩ ac an rfl (by rw[hby];omega) aa rfl ?_|refine y3 ?_|exact y5|fail)
   all_goals try first
    |exact ae (by push_cast;omega) (by push_cast;omega)
    |omega
   refine LoopR.move (n,j1,D++[r']) ⟨R',t,by simpa using hD⟩ (by simp only;omega) [0,4,5] rfl ?_ ?_ ?_
   ·repeat' (first|exact VLe.refl _|exact VLe.any _|exact Z0o|exact VLe.of_eq (congrArg nI (by push_cast;omega))|(refine VLe.of_eq (congrArg V.s (?_:S.row 4 5 _=S.row 4 5 _));simp;done)|refine⟨?_,?_⟩)
   ·refine⟨rfl,MemP.op ?_ trivial⟩
    rw[Z0d];rfl
   ·exact (by unfold kO;generalize List.map _ _=cg;cases cg<;>rfl)
def D8 (l:List Int) (dep:Int) (B:Nat):Prop:=∀ i,i<=l.length->∃ (r:List Nd) (i':Nat),OKr B r/\i'<=l.length/\FC Tryz.prog 62 [cP,nI dep] 1 (cc l i) (al r) 1 (cc l i')
inductive PkT (l:List Int) (dep:Int) (B:Nat):Nat->Nat->List (List Nd)->Nat->Prop
 |nil (i:Nat):PkT l dep B 0 i [] i
 |name {n i i1 i2 i':Nat} {s:By} {r:List Nd} {K:List (List Nd)} (c:FC Tryz.prog 18 [cP,nI (3:Nat)] 1 (cc l i) (nI (2:Nat)) 1 (cc l i1))
  (c2:FC Tryz.prog 19 [cP] 1 (cc l i1) (sV s) 1 (cc l i2)) (d:FC Tryz.prog 56 [sV s] 0 [] (al r) 0 []) (t:PkT l dep B n i2 K i'):PkT l dep B (n+1) i (r::K) i'
 |data {n i k i1 i2 i':Nat} {r:List Nd} {K:List (List Nd)} (hk: ¬(k:Int)=2) (c:FC Tryz.prog 18 [cP,nI (3:Nat)] 1 (cc l i) (nI k) 1 (cc l i1))
  (c2:FC Tryz.prog 62 [cP,nI dep] 1 (cc l i1) (al r) 1 (cc l i2)) (t:PkT l dep B n i2 K i'):PkT l dep B (n+1) i (r::K) i'
theorem vT {l:List Int} {dep:Int} {B n i i':Nat} {K:List (List Nd)} (h:PkT l dep B n i K i'):K.length=n:=by
 induction h with
 |nil i=>rfl
 |name _ _ _ _ ih=>simp[ih]
 |data _ _ _ _ ih=>simp[ih]
theorem HC (l:List Int) (hl:l.length<=20000000000000) (dep:Int) (B:Nat) (hB:1<=B) (hd:D8 l dep B):∀ (n i:Nat),i<=l.length->∃ K i',PkT l dep B n i K i'/\i'<=l.length/\∀ r∈K,OKr B r
 |0,i,hi=>⟨[],i,.nil i,hi,λr hr=>by cases hr⟩
 |n+1,i,hi=>by
  obtain⟨k,i1,hk,hi1,c⟩:=ax l hl 3 ac ac i hi;by_cases h2:k=2
  ·subst h2
   obtain⟨s,i2,hs,hi2,c2⟩:=jM l hl i1 hi1;obtain⟨r,o,d⟩:=cY s aa;obtain⟨K,i',h1,h2,h4⟩:=HC l hl dep B hB hd n i2 hi2;refine⟨r::K,i',.name c c2 d h1,h2,λq hq=>?_⟩
   rcases Z0h.1 hq with rfl|hq
   ·exact o.le hB
   ·exact h4 q hq
  ·obtain⟨r,i2,o,hi2,c2⟩:=hd i1 hi1
   obtain⟨K,i',h1,h2,h4⟩:=HC l hl dep B hB hd n i2 hi2;refine⟨r::K,i',.data aa c c2 h1,h2,λq hq=>?_⟩
   rcases Z0h.1 hq with rfl|hq
   ·exact o
   ·exact h4 q hq
theorem Df (l:List Int) (hl:l.length<=20000000000000) (dp B:Nat) (hdp:dp<=1000) (hB1:1<=B) (hB2:B<=100000) (hd:D8 l dp B) (i i1:Nat) (hi1:i1<=l.length) (c1:FC Tryz.prog 18 [cP,nI (5:Nat)] 1 (cc l i) (nI (3:Nat)) 1 (cc l i1)):
 ∃ (r:List Nd) (i':Nat),OKr (10*B) r/\i'<=l.length/\FC Tryz.prog 62 [cP,nI (dp+1:Nat)] 1 (cc l i) (al r) 1 (cc l i'):=by
 obtain⟨m,i2,hm2,hi2,c2⟩:=ax l hl 4 ac ac i1 hi1;obtain⟨K,i3,hB,hi3,hK⟩:=HC l hl dp B hB1 hd m i2 hi2;have hKl:=vT hB;obtain⟨q,i4,hq,hi4,c4⟩:=ax l hl 3 ac ac i3 hi3;obtain⟨r1,o1,d1⟩:=dy ((K.length:Int)+q) aa;have hKB:K.length*B<=3*B:=Z1w B aa;obtain⟨r2,o2,d2⟩:=aP 4 K (B:=B) (1+3*B) hK aa aa aa;obtain⟨r,o,dn⟩:=aP 51 [r1,r2] (B:=1+3*B) (10*B) (by simp[o1.le (show 1<=1+3*B by omega),o2]) (by simp;omega) an (by simp;omega);unfold cq at dn d2;refine⟨r,i4,o,hi4,?_⟩
 have hsz:(Tryz.prog.types[32]).size=1:=by kernel_rfl
 have hby:(Tryz.prog.types[32]).bytes=24:=by kernel_rfl
 have hdpos:((dp+1:Nat):Int)>0:=aa;refine wW Tryz.func62 ?_
 repeat'(first|exact y0|refine y1 ?_|refine y2 ?_ ?_|refine y4 λh=>?_|refine wX 18 (cm c1 ?_)|refine wX 18 (cm c2 ?_)|refine y3 ?_|exact y5|fail)
 refine Ex.set 7 (.s (.row 1 2 0)) (VLe.s SLe.nilrow) rfl (Ex.upN (n':=3) aa ?_)
 refine Ex.inv (σ:=Nat×Nat×List (List Nd)) (λs=>[(7,.s (.row 1 2 s.2.2.length)),(8,nI s.1)]) (λs=>[(0,some {cells:=[mC l,.int .i64 (s.2.1:Int)],ty:=97}),(1,kO 1 s.2.2)])
  (λs=>∃ R,PkT l dp B s.1 s.2.1 R i3/\s.2.2++R=K) (λs=>s.1) (m,i2,[]) rfl (λ_=>rfl) ⟨K,hB,rfl⟩ aV ⟨rfl,trivial⟩ ?_
 rintro⟨n,j,D⟩ ⟨R,hR,hD⟩;simp only at hR hD |-
 cases hR with
 |nil=>
  rw[Z0u] at hD;subst hD
  cases D with
  |nil=>
   repeat'(first|exact y0|refine y1 ?_|refine y2 ?_ ?_|refine y4 λh=>?_|refine wX 18 (cm c4 ?_)|refine wX 58 (pu d1 ?_)|(refine wX 55 ?_;refine CallG.we d2 rfl ⟨VLe.refl _,VLe.s SLe.row0,trivial⟩ rfl rfl rfl ?_)|(refine wX 55 ?_;refine CallG.pz 80 (λk=>[nS ([r1,r2].getD k [])]) 1 dn rfl rfl rfl rfl (λ_ _=>rfl) (λkk jj zz hk hx=>cU (K:=[r1,r2]) hk hx) rfl aV rfl rfl rfl ?_)|refine y3 ?_|exact y5|fail)
   all_goals first
   |exact bh
   |omega
   |exact aj aa aa
   |exact ae aa aa
   |exact aj (by simp;omega) (by simp;omega)
   |exact ae (by simp;omega) (by simp;omega)
  |cons x D=>
   repeat'(first|exact y0|refine y1 ?_|refine y2 ?_ ?_|refine y4 λh=>?_|refine wX 18 (cm c4 ?_)|refine wX 58 (pu d1 ?_)|(refine wX 55 ?_;refine CallG.pz 80 (λk=>[nS ([r1,r2].getD k [])]) 1 dn rfl rfl rfl rfl (λ_ _=>rfl) (λkk jj zz hk hx=>cU (K:=[r1,r2]) hk hx) rfl aV rfl rfl rfl ?_)|(refine wX 55 ?_;refine CallG.pz 78 (λk=>[nS ((x::D).getD k [])]) 1 d2 rfl rfl rfl rfl (λ_ _=>rfl) (λkk jj zz hk hx=>cU (K:=(x::D)) hk hx) rfl aV rfl rfl rfl ?_)|refine y3 ?_|exact y5|fail)
   all_goals first
   |exact bh
   |omega
   |exact aj aa aa
   |exact ae aa aa
 | @name n _ i1' j1 _ s r' R' c c2 d t=>
   have hRl:=vT t
   have hlen:D.length+n<=2:=by rw[<-hKl,<-hD] at hm2;simp at hm2;omega
   repeat'(first|exact y0|refine y1 ?_|refine y2 ?_ ?_|refine y4 λh=>?_|refine wX 18 (cm c ?_)|refine wX 19 (cm c2 ?_)|refine wX 56 (pu d ?_)|refine RegX.apr (i:=1) (g:=2) (m:=D.length) (w:=1) (cs:=D.map λr=>nS r) (foot:=[3]) (k:=1) (add:=[nS r']) rfl rfl an rfl rfl rfl rfl rfl rfl rfl hsz ac rfl ⟨Z02 _,rfl⟩ ac an rfl (by rw[hby];omega) aa rfl ?_|refine y3 ?_|exact y5|fail)
   all_goals try first
    |exact ae (by push_cast;omega) (by push_cast;omega)
    |omega
   refine LoopR.move (n,j1,D++[r']) ⟨R',t,by simpa using hD⟩ (by simp only;omega) [0,4,5] rfl ?_ ?_ ?_
   ·repeat' (first|exact VLe.refl _|exact VLe.any _|exact Z0o|exact VLe.of_eq (congrArg nI (by push_cast;omega))|(refine VLe.of_eq (congrArg V.s (?_:S.row 4 5 _=S.row 4 5 _));simp;done)|refine⟨?_,?_⟩)
   ·refine⟨rfl,MemP.op ?_ trivial⟩
    rw[Z0d];rfl
   ·exact (by unfold kO;generalize List.map _ _=cg;cases cg<;>rfl)
 | @data n _ k i1' j1 _ r' R' hk c c2 t=>
   have hRl:=vT t
   have hlen:D.length+n<=2:=by rw[<-hKl,<-hD] at hm2;simp at hm2;omega
   repeat'(first|exact y0|refine y1 ?_|refine y2 ?_ ?_|refine y4 λh=>?_|refine wX 18 (cm c ?_)|(refine wX 62 ?_;refine cf [0] c2 ?_ (hle:=by exact⟨VLe.refl _,VLe.of_eq (congrArg nI (by push_cast;omega)),trivial⟩))|refine RegX.apr (i:=1) (g:=2) (m:=D.length) (w:=1) (cs:=D.map λr=>nS r) (foot:=[3]) (k:=1) (add:=[nS r']) rfl rfl an rfl rfl rfl rfl rfl rfl rfl hsz ac rfl ⟨Z02 _,rfl⟩ ac an rfl (by rw[hby];omega) aa rfl ?_|refine y3 ?_|exact y5|fail)
   all_goals try first
    |exact ae (by push_cast;omega) (by push_cast;omega)
    |omega
   refine LoopR.move (n,j1,D++[r']) ⟨R',t,by simpa using hD⟩ (by simp only;omega) [0,4,5] rfl ?_ ?_ ?_
   ·repeat' (first|exact VLe.refl _|exact VLe.any _|exact Z0o|exact VLe.of_eq (congrArg nI (by push_cast;omega))|(refine VLe.of_eq (congrArg V.s (?_:S.row 4 5 _=S.row 4 5 _));simp;done)|refine⟨?_,?_⟩)
   ·refine⟨rfl,MemP.op ?_ trivial⟩
    rw[Z0d];rfl
   ·exact (by unfold kO;generalize List.map _ _=cg;cases cg<;>rfl)
theorem Dg (l:List Int) (hl:l.length<=20000000000000) (dep:Int) (i i1 k:Nat) (hi1:i1<=l.length) (h1: ¬(k:Int)=1) (h2: ¬(k:Int)=2) (h3:(k:Int)=3-> ¬dep>0) (c1:FC Tryz.prog 18 [cP,nI (5:Nat)] 1 (cc l i) (nI k) 1 (cc l i1)):
 ∃ (r:List Nd) (i':Nat),OKr 10 r/\i'<=l.length/\FC Tryz.prog 62 [cP,nI dep] 1 (cc l i) (al r) 1 (cc l i'):=by
 obtain⟨x,i2,hx,hi2,c2⟩:=og l hl i1 hi1;obtain⟨r,o,d⟩:=dy x hx;refine⟨r,i2,o.le ac,hi2,?_⟩;by_cases hk:(k:Int)=3
 ·have hd:=h3 hk
  refine wW Tryz.func62 ?_
  repeat'(first|exact y0|refine y1 ?_|refine y2 ?_ ?_|(refine y4 λh=>?_;try(first|(first|exact absurd (by assumption) h1|exact absurd (by assumption) h2|exact absurd (by assumption) hd|exact absurd hk (by assumption))|exact y6))|refine wX 18 (cm c1 ?_)|refine wX 73 (cm c2 ?_)|refine wX 58 (pu d ?_)|refine y3 ?_|exact y5|fail)
  all_goals first
   |exact bh
   |omega
   |exact aj aa aa
   |exact ae aa aa
 ·refine wW Tryz.func62 ?_
  repeat'(first|exact y0|refine y1 ?_|refine y2 ?_ ?_|(refine y4 λh=>?_;try(first|(first|exact absurd (by assumption) h1|exact absurd (by assumption) h2|exact absurd (by assumption) hk)|exact y6))|refine wX 18 (cm c1 ?_)|refine wX 73 (cm c2 ?_)|refine wX 58 (pu d ?_)|refine y3 ?_|exact y5|fail)
  all_goals first
   |exact bh
   |omega
   |exact aj aa aa
   |exact ae aa aa
theorem oF (op n:Int) (s:By) (h:0<=n) (hs:s.length<=1000):∃ r,OKr 1 r/\FC Tryz.prog 103 [nI op,.s (.int .u64 n),sV s,.s (cq [])] 0 [] (al r) 0 []:=⟨_,OKr.leaf h hs,wo op n s⟩
theorem De (l:List Int) (hl:l.length<=20000000000000) (dep:Int) (i i1:Nat) (hi1:i1<=l.length) (c1:FC Tryz.prog 18 [cP,nI (5:Nat)] 1 (cc l i) (nI (1:Nat)) 1 (cc l i1)):
 ∃ (r:List Nd) (i':Nat),OKr 10 r/\i'<=l.length/\FC Tryz.prog 62 [cP,nI dep] 1 (cc l i) (al r) 1 (cc l i'):=by
 obtain⟨m,i2,hm2,hi2,c2⟩:=ax l hl 5 ac ac i1 hi1
 obtain⟨s,hs0,hs⟩:∃ s:By,s.length<=1000/\s=(if m=0 then [] else if m=1 then [120] else if m=2 then [48,70] else if m=3 then [49,50,97,98] else [0,255,34,92]):=⟨_,by (repeat' split)<;>simp,rfl⟩
 obtain⟨r,o,d⟩:=oF 2 0 s ac hs0;refine⟨r,i2,o.le ac,hi2,?_⟩
 rcases (aa:m=0\/m=1\/m=2\/m=3\/m=4) with rfl|rfl|rfl|rfl|rfl
 all_goals
  subst hs;refine wW Tryz.func62 ?_
  repeat'(first|exact y0|refine y1 ?_|refine y2 ?_ ?_|refine y4 λh=>?_|refine wX 18 (cm c1 ?_)|refine wX 18 (cm c2 ?_)|(refine wX 103 ?_;refine CallG.we d rfl ⟨VLe.refl _,VLe.refl _,VLe.refl _,VLe.s SLe.nil,trivial⟩ rfl rfl rfl ?_)|refine y3 ?_|exact y5|fail)
  all_goals first
   |exact bh
   |omega
   |exact aj aa aa
   |exact ae aa aa
theorem sj (l:List Int) (hl:l.length<=20000000000000):∀ n:Nat,n<=3->D8 l n (10^(n+1)):=by
 intro n hn i hi
 have hp:10<=10^(n+1):=by rw[Nat.pow_succ];have:0<10^n:=Nat.pow_pos ac;omega
 obtain⟨k,i1,hk,hi1,c1⟩:=ax l hl 5 ac ac i hi;by_cases h1:k=1
 ·subst h1
  obtain⟨r,i',o,h⟩:=De l hl n i i1 hi1 c1;exact⟨r,i',o.le hp,h⟩
 by_cases h2:k=2
 ·subst h2
  obtain⟨r,i',o,h⟩:=Dh l hl n i i1 hi1 c1;exact⟨r,i',o.le hp,h⟩
 by_cases h3:k=3/\0<n
 ·obtain⟨rfl,h3⟩:=h3
  obtain⟨dp,rfl⟩:∃ dp,n=dp+1:=⟨n-1,aa⟩
  have ih:=sj l hl dp aa;have hb:(10:Nat)^(dp+1)<=100000:=Z1z (Nat.pow_le_pow_right ac (show dp+1<=5 by omega)) ac;obtain⟨r,i',o,h⟩:=Df l hl dp _ aa (Nat.pow_pos ac) hb ih i i1 hi1 c1;exact⟨r,i',o.le (by rw[Nat.pow_succ 10 (dp+1)];omega),h⟩
 ·obtain⟨r,i',o,h⟩:=Dg l hl n i i1 k hi1 aa aa (λh=>by omega) c1
  exact⟨r,i',o.le hp,h⟩
def e_ (l:List Int) (dep:Int) (args B:Nat):Prop:=∀ i,i<=l.length->∃ (r:List Nd) (i':Nat),OKr B r/\i'<=l.length/\FC Tryz.prog 218 [cP,nI dep,nI args] 1 (cc l i) (al r) 1 (cc l i')
def J4 (l:List Int) (dep:Int) (args B:Nat):Prop:=∀ i,i<=l.length->∃ (r:List Nd) (i':Nat),OKr B r/\i'<=l.length/\FC Tryz.prog 221 [cP,nI dep,nI args] 1 (cc l i) (al r) 1 (cc l i')
theorem nL (l:List Int) (hl:l.length<=20000000000000) (dep:Int) (h1: -10<=dep) (h2:dep<=10) (args B:Nat) (ha:args<=100) (hB1:1<=B) (hB2:B<=100000) (hE:0<dep->e_ l (dep-1) args B):J4 l dep args (1+2*B):=by
 intro i hi;obtain⟨k,i1,hk,hi1,c1⟩:=ax l hl 5 ac ac i hi;by_cases k1:k=1
 ·subst k1
  obtain⟨s,i2,hs,hi2,c2⟩:=jM l hl i1 hi1;obtain⟨r,o,d⟩:=cY s aa;refine⟨r,i2,o.le aa,hi2,?_⟩;refine wW Tryz.func221 ?_
  repeat'(first|exact y0|refine y1 ?_|refine y2 ?_ ?_|refine y4 λh=>?_|refine wX 18 (cm c1 ?_)|refine wX 19 (cm c2 ?_)|refine wX 56 (pu d ?_)|refine y3 ?_|exact y5|fail)
  all_goals first
   |exact bh
   |omega
   |exact aj aa aa
   |exact ae aa aa
 by_cases k2:k=2/\0<args
 ·obtain⟨rfl,hr⟩:=k2
  obtain⟨m,i2,hm2,hi2,c2⟩:=ax l hl args hr aa i1 hi1;obtain⟨r,o,d⟩:=oF 7 m [] aa an;refine⟨r,i2,o.le aa,hi2,?_⟩;refine wW Tryz.func221 ?_
  repeat'(first|exact y0|refine y1 ?_|refine y2 ?_ ?_|refine y4 λh=>?_|refine wX 18 (cm c1 ?_)|refine wX 18 (cm c2 ?_)|(refine wX 103 ?_;refine CallG.we d rfl ⟨VLe.refl _,VLe.refl _,VLe.refl _,VLe.s SLe.nil,trivial⟩ rfl rfl rfl ?_)|refine y3 ?_|exact y5|fail)
  all_goals first
   |exact bh
   |omega
   |exact aj aa aa
   |exact ae aa aa
 by_cases k3:k=3/\0<dep
 ·obtain⟨rfl,hr⟩:=k3
  obtain⟨r1,i2,o1,hi2,c2⟩:=hE hr i1 hi1;obtain⟨r2,i3,o2,hi3,c3⟩:=hE hr i2 hi2;obtain⟨r,o,dn⟩:=aP 76 [r1,r2] (B:=B) (1+2*B) (by simp[o1,o2]) (by simp;omega) an an;unfold cq at dn;refine⟨r,i3,o,hi3,?_⟩;refine wW Tryz.func221 ?_
  repeat'(first|exact y0|refine y1 ?_|refine y2 ?_ ?_|refine y4 λh=>?_|refine wX 18 (cm c1 ?_)|refine wX 218 (cm c2 ?_)|refine wX 218 (cm c3 ?_)|(refine wX 55 ?_;refine CallG.pz 45 (λk=>[nS ([r1,r2].getD k [])]) 1 dn rfl rfl rfl rfl (λ_ _=>rfl) (λkk jj zz hk hx=>cU (K:=[r1,r2]) hk hx) rfl aV rfl rfl rfl ?_)|refine y3 ?_|exact y5|fail)
  all_goals first
   |exact bh
   |omega
   |exact aj aa aa
   |exact ae aa aa
 by_cases k4:k=4/\0<dep
 ·obtain⟨rfl,hr⟩:=k4
  obtain⟨r1,i2,o1,hi2,c2⟩:=hE hr i1 hi1;obtain⟨r,o,dn⟩:=aP 84 [r1] (B:=B) (1+2*B) (by simp[o1]) (by simp;omega) an (by simp;omega);unfold cq at dn;refine⟨r,i2,o,hi2,?_⟩;refine wW Tryz.func221 ?_
  repeat'(first|exact y0|refine y1 ?_|refine y2 ?_ ?_|refine y4 λh=>?_|refine wX 18 (cm c1 ?_)|refine wX 218 (cm c2 ?_)|(refine wX 55 ?_;refine CallG.pz 59 (λk=>[nS ([r1].getD k [])]) 1 dn rfl rfl rfl rfl (λ_ _=>rfl) (λkk jj zz hk hx=>cU (K:=[r1]) hk hx) rfl aV rfl rfl rfl ?_)|refine y3 ?_|exact y5|fail)
  all_goals first
   |exact bh
   |omega
   |exact aj aa aa
   |exact ae aa aa
 ·obtain⟨m,i2,hm2,hi2,c2⟩:=ax l hl 3 ac ac i1 hi1
  obtain⟨r,o,d⟩:=oF 6 m [] aa an;refine⟨r,i2,o.le aa,hi2,?_⟩;refine wW Tryz.func221 ?_
  repeat'(first|exact y0|refine y1 ?_|refine y2 ?_ ?_|refine y4 λh=>?_|refine wX 18 (cm c1 ?_)|refine wX 18 (cm c2 ?_)|(refine wX 103 ?_;refine CallG.we d rfl ⟨VLe.refl _,VLe.refl _,VLe.refl _,VLe.s SLe.nil,trivial⟩ rfl rfl rfl ?_)|refine y3 ?_|exact y5|fail)
  all_goals first
   |exact bh
   |omega
   |exact aj aa aa
   |exact ae aa aa
inductive CaT (l:List Int) (dep:Int) (args:Nat):Nat->Nat->List (List Nd)->Nat->Prop
 |nil (i:Nat):CaT l dep args 0 i [] i
 |cons {n i i1 i':Nat} {r:List Nd} {K:List (List Nd)} (c:FC Tryz.prog 218 [cP,nI dep,nI args] 1 (cc l i) (al r) 1 (cc l i1)) (t:CaT l dep args n i1 K i'):CaT l dep args (n+1) i (r::K) i'
theorem Dv {l:List Int} {dep:Int} {args n i i':Nat} {K:List (List Nd)} (h:CaT l dep args n i K i'):K.length=n:=by
 induction h with
 |nil i=>rfl
 |cons _ _ ih=>simp[ih]
theorem JS (l:List Int) (dep:Int) (args B:Nat) (hE:e_ l dep args B):∀ (n i:Nat),i<=l.length->∃ K i',CaT l dep args n i K i'/\i'<=l.length/\∀ r∈K,OKr B r
 |0,i,hi=>⟨[],i,.nil i,hi,λr hr=>by cases hr⟩
 |n+1,i,hi=>by
  obtain⟨r,i1,o,hi1,c⟩:=hE i hi;obtain⟨K,i',h1,h2,h4⟩:=JS l dep args B hE n i1 hi1;refine⟨r::K,i',.cons c h1,h2,λq hq=>?_⟩
  rcases Z0h.1 hq with rfl|hq
  ·exact o
  ·exact h4 q hq
theorem E7 (op n:Int) (s:By) (K:List (List Nd)) {B:Nat} (C:Nat) (hn:0<=n) (hs:s.length<=1000) (hK:∀ r∈K,OKr B r) (hB:K.length*B<=1000000000000) (hk:K.length<=4096) (hC:1+K.length*B<=C):
 ∃ r,OKr C r/\FC Tryz.prog 103 [nI op,.s (.int .u64 n),sV s,.s (cq K)] 0 [] (al r) 0 []:=⟨_,OKr.tree hK hn hs hC,wg op n s K hK hB hk⟩
def calls:List By:=[[77],[65],[92,77],[94,77]]
theorem Du (l:List Int) (hl:l.length<=20000000000000) (dep:Int) (h1: -10<=dep) (h2:dep<=10) (args B:Nat) (ha:args<=100) (hB1:1<=B) (hB2:B<=100000) (hE:e_ l (dep-1) args B) (i:Nat) (hi:i<=l.length):
 ∃ (r:List Nd) (i':Nat),OKr (1+2*B) r/\i'<=l.length/\FC Tryz.prog 219 [cP,nI dep,nI args] 1 (cc l i) (al r) 1 (cc l i'):=by
 obtain⟨m,i2,hm2,hi2,c2⟩:=ax l hl 3 ac ac i hi;obtain⟨K,i3,hB,hi3,hK⟩:=JS l (dep-1) args B hE m i2 hi2;have hKl:=Dv hB;obtain⟨q,i4,hq,hi4,c4⟩:=ax l hl 4 ac ac i3 hi3;have hKB:K.length*B<=2*B:=Z1w B aa
 have hsl:(calls.getD q []).length<=1000:=by
  rcases (aa:q=0\/q=1\/q=2\/q=3) with rfl|rfl|rfl|rfl<;>decide
 obtain⟨r,o,dn⟩:=E7 5 0 (calls.getD q []) K (B:=B) (1+2*B) ac hsl hK aa aa aa;unfold cq at dn;refine⟨r,i4,o,hi4,?_⟩
 have hsz:(Tryz.prog.types[32]).size=1:=by kernel_rfl
 have hby:(Tryz.prog.types[32]).bytes=24:=by kernel_rfl
 refine wW Tryz.func219 ?_
 repeat'(first|exact y0|refine y1 ?_|refine y2 ?_ ?_|refine y4 λh=>?_|refine wX 18 (cm c2 ?_)|refine y3 ?_|exact y5|fail)
 refine Ex.set 7 (.s (.row 1 2 0)) (VLe.s SLe.nilrow) rfl (Ex.upN (n':=3) aa ?_)
 refine Ex.inv (σ:=Nat×Nat×List (List Nd)) (λs=>[(7,.s (.row 1 2 s.2.2.length)),(8,nI s.1)]) (λs=>[(0,some {cells:=[mC l,.int .i64 (s.2.1:Int)],ty:=97}),(1,kO 1 s.2.2)])
  (λs=>∃ R,CaT l (dep-1) args s.1 s.2.1 R i3/\s.2.2++R=K) (λs=>s.1) (m,i2,[]) rfl (λ_=>rfl) ⟨K,hB,rfl⟩ aV ⟨rfl,trivial⟩ ?_
 rintro⟨n,j,D⟩ ⟨R,hR,hD⟩;simp only at hR hD |-
 cases hR with
 |nil=>
  rw[Z0u] at hD;subst hD
  rcases (aa:q=0\/q=1\/q=2\/q=3) with rfl|rfl|rfl|rfl
  all_goals
   cases D with
   |nil=>
    repeat'(first|exact y0|refine y1 ?_|refine y2 ?_ ?_|refine y4 λh=>?_|refine wX 18 (cm c4 ?_)|(refine wX 103 ?_;refine CallG.we dn rfl ⟨VLe.refl _,VLe.refl _,VLe.refl _,VLe.s SLe.row0,trivial⟩ rfl rfl rfl ?_)|refine y3 ?_|exact y5|fail)
    all_goals first
    |exact bh
    |omega
    |exact aj aa aa
    |exact ae aa aa
   |cons x D=>
    repeat'(first|exact y0|refine y1 ?_|refine y2 ?_ ?_|refine y4 λh=>?_|refine wX 18 (cm c4 ?_)|(refine wX 103 ?_;refine CallG.pz 28 (λk=>[nS ((x::D).getD k [])]) 1 dn rfl rfl rfl rfl (λ_ _=>rfl) (λkk jj zz hk hx=>cU (K:=(x::D)) hk hx) rfl aV rfl rfl rfl ?_)|refine y3 ?_|exact y5|fail)
    all_goals first
    |exact bh
    |omega
    |exact aj aa aa
    |exact ae aa aa
 | @cons n _ j1 _ r' R' c t=>
   have hRl:=Dv t
   have hlen:D.length+n<=2:=by rw[<-hKl,<-hD] at hm2;simp at hm2;omega
   repeat'(first|exact y0|refine y1 ?_|refine y2 ?_ ?_|refine y4 λh=>?_|refine wX 218 (cm c ?_)|refine RegX.apr (i:=1) (g:=2) (m:=D.length) (w:=1) (cs:=D.map λr=>nS r) (foot:=[3]) (k:=1) (add:=[nS r']) rfl rfl an rfl rfl rfl rfl rfl rfl rfl hsz ac rfl ⟨Z02 _,rfl⟩ ac an rfl (by rw[hby];omega) aa rfl ?_|refine y3 ?_|exact y5|fail)
   all_goals try first
    |exact ae (by push_cast;omega) (by push_cast;omega)
    |omega
   refine LoopR.move (n,j1,D++[r']) ⟨R',t,by simpa using hD⟩ (by simp only;omega) [0,4,5] rfl ?_ ?_ ?_
   ·repeat' (first|exact VLe.refl _|exact VLe.any _|exact Z0o|exact VLe.of_eq (congrArg nI (by push_cast;omega))|(refine VLe.of_eq (congrArg V.s (?_:S.row 4 5 _=S.row 4 5 _));simp;done)|refine⟨?_,?_⟩)
   ·refine⟨rfl,MemP.op ?_ trivial⟩
    rw[Z0d];rfl
   ·exact (by unfold kO;generalize List.map _ _=cg;cases cg<;>rfl)
theorem AT (l:List Int) (hl:l.length<=20000000000000) (dep:Int) (h1: -10<=dep) (h2:dep<=10) (args B:Nat) (ha:args<=100) (hB1:1<=B) (hB2:B<=100000) (hE:e_ l (dep-1) args B) (i:Nat) (hi:i<=l.length):
 ∃ (r:List Nd) (i':Nat),OKr (1+2*B) r/\i'<=l.length/\FC Tryz.prog 220 [cP,nI dep,nI args] 1 (cc l i) (al r) 1 (cc l i'):=by
 obtain⟨k,i1,hk,hi1,c1⟩:=ax l hl 2 ac ac i hi;by_cases k1:k=0
 ·subst k1
  obtain⟨m,i2,hm2,hi2,c2⟩:=ax l hl 3 ac ac i1 hi1;obtain⟨q,i3,hq,hi3,c3⟩:=ax l hl 40000 ac ac i2 hi2
  have hP:(m:Int)*(q:Int)<=120000:=by
   have:=Nat.mul_le_mul (Z1k hm2) (Z1k hq);have h:((m*q:Nat):Int)<=((3*40000:Nat):Int):=Int.ofNat_le.2 this;rw[Int.natCast_mul] at h;omega
  have hP0:0<=(m:Int)*(q:Int):=Z5y aa aa;obtain⟨r1,o1,d1⟩:=cY [77,84,88] ac;obtain⟨r2,o2,d2⟩:=dy (if (65535:Int)<(m:Int)*(q:Int) then 65535 else (m:Int)*(q:Int)) (by split<;>omega);obtain⟨r,o,dn⟩:=aP 41 [r1,r2] (B:=1) 3 (by simp[o1,o2]) an an an;unfold cq at dn;refine⟨r,i3,o.le aa,hi3,?_⟩;refine wW Tryz.func220 ?_
  repeat'(first|exact y0|refine y1 ?_|refine y2 ?_ ?_|refine y4 λh=>?_|refine wX 18 (cm c1 ?_)|refine wX 18 (cm c2 ?_)|refine wX 18 (cm c3 ?_)|refine wX 56 (pu d1 ?_)|exact aj (by split<;>omega) (by split<;>omega)|exact ae (by split<;>omega) (by split<;>omega)|refine y3 ?_|exact y5|fail)
  refine RegX.opA [.num (if (65535:Int)<(m:Int)*(q:Int) then 65535 else (m:Int)*(q:Int))] rfl rfl ⟨trivial,rfl⟩ ?_;generalize hz:(if (65535:Int)<(m:Int)*(q:Int) then 65535 else (m:Int)*(q:Int))=z at*
  have hz0:0<=z:=by rw[<-hz];split<;>omega
  have hz1:z<=65535:=by rw[<-hz];split<;>omega
  repeat'(first|exact y0|refine y1 ?_|refine y2 ?_ ?_|refine y4 λh=>?_|refine wX 58 (pu d2 ?_)|(refine wX 55 ?_;refine CallG.pz 19 (λk=>[nS ([r1,r2].getD k [])]) 1 dn rfl rfl rfl rfl (λ_ _=>rfl) (λkk jj zz hk hx=>cU (K:=[r1,r2]) hk hx) rfl aV rfl rfl rfl ?_)|exact aj (by split<;>omega) (by split<;>omega)|exact ae (by split<;>omega) (by split<;>omega)|refine y3 ?_|exact y5|fail)
  all_goals first
   |exact bh
   |omega
   |exact aj aa aa
   |exact ae aa aa
 ·obtain⟨r2,i2,o2,hi2,c2⟩:=hE i1 hi1
  obtain⟨r1,o1,d1⟩:=cY [69,86,84] ac;obtain⟨r,o,dn⟩:=aP 42 [r1,r2] (B:=B) (1+2*B) (by simp[o1.le hB1,o2]) (by simp;omega) an an;unfold cq at dn;refine⟨r,i2,o,hi2,?_⟩;refine wW Tryz.func220 ?_
  repeat'(first|exact y0|refine y1 ?_|refine y2 ?_ ?_|refine y4 λh=>?_|refine wX 18 (cm c1 ?_)|refine wX 218 (cm c2 ?_)|refine wX 56 (pu d1 ?_)|(refine wX 55 ?_;refine CallG.pz 27 (λk=>[nS ([r1,r2].getD k [])]) 1 dn rfl rfl rfl rfl (λ_ _=>rfl) (λkk jj zz hk hx=>cU (K:=[r1,r2]) hk hx) rfl aV rfl rfl rfl ?_)|exact aj (by split<;>omega) (by split<;>omega)|exact ae (by split<;>omega) (by split<;>omega)|refine y3 ?_|exact y5|fail)
  all_goals first
   |exact bh
   |omega
   |exact aj aa aa
   |exact ae aa aa
   |exact aj (by split<;>omega) (by split<;>omega)
   |exact ae (by split<;>omega) (by split<;>omega)
theorem Ic (l:List Int) (hl:l.length<=20000000000000) (dep:Int) (h1: -10<=dep) (h2:dep<=0) (args:Nat) (ha:args<=100):e_ l dep args 100:=by
 intro i hi;obtain⟨k,i1,hk,hi1,c1⟩:=ax l hl 16 ac ac i hi;by_cases k1:k=1\/k=6\/k=11
 ·obtain⟨r,i2,o,hi2,c2⟩:=nL l hl 0 ac ac args 1 ha ac ac (λh=>absurd h ac) i1 hi1
  refine⟨r,i2,o.le ac,hi2,?_⟩
  rcases k1 with rfl|rfl|rfl
  all_goals
   refine wW Tryz.func218 ?_
   repeat'(first|exact y0|refine y1 ?_|refine y2 ?_ ?_|refine y4 λh=>?_|refine wX 18 (cm c1 ?_)|refine wX 221 (cm c2 ?_)|refine y3 ?_|exact y5|fail)
   all_goals first
    |exact bh
    |omega
    |exact aj aa aa
    |exact ae aa aa
 by_cases k2:k=2\/k=7\/k=12
 ·obtain⟨r,i2,o,hi2,c2⟩:=sj l hl 1 ac i1 hi1
  refine⟨r,i2,o,hi2,?_⟩
  rcases k2 with rfl|rfl|rfl
  all_goals
   refine wW Tryz.func218 ?_
   repeat'(first|exact y0|refine y1 ?_|refine y2 ?_ ?_|refine y4 λh=>?_|refine wX 18 (cm c1 ?_)|refine wX 62 (cm c2 ?_)|refine y3 ?_|exact y5|fail)
   all_goals first
    |exact bh
    |omega
    |exact aj aa aa
    |exact ae aa aa
 by_cases k3:k=3\/k=8\/k=13
 ·obtain⟨m,i2,hm2,hi2,c2⟩:=ax l hl 3 ac ac i1 hi1
  obtain⟨r,o,d⟩:=oF 6 m [] aa an;refine⟨r,i2,o.le ac,hi2,?_⟩
  rcases k3 with rfl|rfl|rfl
  all_goals
   refine wW Tryz.func218 ?_
   repeat'(first|exact y0|refine y1 ?_|refine y2 ?_ ?_|refine y4 λh=>?_|refine wX 18 (cm c1 ?_)|refine wX 18 (cm c2 ?_)|(refine wX 103 ?_;refine CallG.we d rfl ⟨VLe.refl _,VLe.refl _,VLe.refl _,VLe.s SLe.nil,trivial⟩ rfl rfl rfl ?_)|refine y3 ?_|exact y5|fail)
   all_goals first
    |exact bh
    |omega
    |exact aj aa aa
    |exact ae aa aa
 by_cases k4:k=4\/k=9\/k=14
 ·obtain⟨s,i2,hs,hi2,c2⟩:=jM l hl i1 hi1
  obtain⟨r,o,d⟩:=cY s aa;refine⟨r,i2,o.le ac,hi2,?_⟩
  rcases k4 with rfl|rfl|rfl
  all_goals
   refine wW Tryz.func218 ?_
   repeat'(first|exact y0|refine y1 ?_|refine y2 ?_ ?_|refine y4 λh=>?_|refine wX 18 (cm c1 ?_)|refine wX 19 (cm c2 ?_)|refine wX 56 (pu d ?_)|refine y3 ?_|exact y5|fail)
   all_goals first
    |exact bh
    |omega
    |exact aj aa aa
    |exact ae aa aa
 by_cases k0:k=0\/k=5\/k=10\/k=15
 ·obtain⟨x,i2,hx,hi2,c2⟩:=og l hl i1 hi1
  obtain⟨r,o,d⟩:=dy x hx;refine⟨r,i2,o.le ac,hi2,?_⟩
  rcases k0 with rfl|rfl|rfl|rfl
  all_goals
   refine wW Tryz.func218 ?_
   repeat'(first|exact y0|refine y1 ?_|refine y2 ?_ ?_|refine y4 λh=>?_|refine wX 18 (cm c1 ?_)|refine wX 73 (cm c2 ?_)|refine wX 58 (pu d ?_)|refine y3 ?_|exact y5|fail)
   all_goals first
    |exact bh
    |omega
    |exact aj aa aa
    |exact ae aa aa
 omega
theorem wJ (l:List Int) (hl:l.length<=20000000000000) (dep:Int) (h1:1<=dep) (h2:dep<=9) (args B:Nat) (ha:args<=100) (hB1:100<=B) (hB2:B<=30000)
 (hE:e_ l (dep-1) args B) (hE2:0<dep-1->e_ l (dep-1-1) args B):e_ l dep args (2+3*B):=by
 intro i hi;have hd0: ¬dep<=0:=aa;obtain⟨k,i1,hk,hi1,c1⟩:=ax l hl 16 ac ac i hi;by_cases k1:k=1
 ·obtain⟨r,i2,o,hi2,c2⟩:=nL l hl 0 ac ac args 1 ha ac ac (λh=>absurd h ac) i1 hi1
  refine⟨r,i2,o.le aa,hi2,?_⟩;subst k1;refine wW Tryz.func218 ?_
  repeat'(first|exact y0|refine y1 ?_|refine y2 ?_ ?_|refine y4 λh=>?_|refine wX 18 (cm c1 ?_)|refine wX 221 (cm c2 ?_)|refine y3 ?_|exact y5|fail)
  all_goals first
   |exact bh
   |omega
   |exact aj aa aa
   |exact ae aa aa
 by_cases k2:k=2
 ·obtain⟨r,i2,o,hi2,c2⟩:=sj l hl 1 ac i1 hi1
  refine⟨r,i2,o.le aa,hi2,?_⟩;subst k2;refine wW Tryz.func218 ?_
  repeat'(first|exact y0|refine y1 ?_|refine y2 ?_ ?_|refine y4 λh=>?_|refine wX 18 (cm c1 ?_)|refine wX 62 (cm c2 ?_)|refine y3 ?_|exact y5|fail)
  all_goals first
   |exact bh
   |omega
   |exact aj aa aa
   |exact ae aa aa
 by_cases k3:k=3
 ·obtain⟨m,i2,hm2,hi2,c2⟩:=ax l hl 3 ac ac i1 hi1
  obtain⟨r,o,d⟩:=oF 6 m [] aa an;refine⟨r,i2,o.le aa,hi2,?_⟩;subst k3;refine wW Tryz.func218 ?_
  repeat'(first|exact y0|refine y1 ?_|refine y2 ?_ ?_|refine y4 λh=>?_|refine wX 18 (cm c1 ?_)|refine wX 18 (cm c2 ?_)|(refine wX 103 ?_;refine CallG.we d rfl ⟨VLe.refl _,VLe.refl _,VLe.refl _,VLe.s SLe.nil,trivial⟩ rfl rfl rfl ?_)|refine y3 ?_|exact y5|fail)
  all_goals first
   |exact bh
   |omega
   |exact aj aa aa
   |exact ae aa aa
 by_cases k4:k=4
 ·obtain⟨s,i2,hs,hi2,c2⟩:=jM l hl i1 hi1
  obtain⟨r,o,d⟩:=cY s aa;refine⟨r,i2,o.le aa,hi2,?_⟩;subst k4;refine wW Tryz.func218 ?_
  repeat'(first|exact y0|refine y1 ?_|refine y2 ?_ ?_|refine y4 λh=>?_|refine wX 18 (cm c1 ?_)|refine wX 19 (cm c2 ?_)|refine wX 56 (pu d ?_)|refine y3 ?_|exact y5|fail)
  all_goals first
   |exact bh
   |omega
   |exact aj aa aa
   |exact ae aa aa
 by_cases k5_6_7:k=5\/k=6\/k=7
 ·obtain⟨m,i2,hm2,hi2,c2⟩:=ax l hl 17 ac ac i1 hi1
  obtain⟨r1,i3,o1,hi3,c3⟩:=hE i2 hi2;obtain⟨r2,i4,o2,hi4,c4⟩:=hE i3 hi3;obtain⟨r,o,dn⟩:=aP (60+(m:Int)) [r1,r2] (B:=B) (2+3*B) (by simp[o1,o2]) (by first|(simp;done)|(simp;omega)) an (by first|(simp;done)|(simp;omega));refine⟨r,i4,o,hi4,?_⟩
  rcases k5_6_7 with rfl|rfl|rfl
  all_goals
   refine wW Tryz.func218 ?_
   repeat'(first|exact y0|refine y1 ?_|refine y2 ?_ ?_|refine y4 λh=>?_|refine wX 18 (cm c1 ?_)|refine wX 18 (cm c2 ?_)|refine wX 218 (cm c3 ?_)|refine wX 218 (cm c4 ?_)|refine wX 55 (fw nS [] [r1,r2] dn ?_)|refine y3 ?_|exact y5|fail)
   all_goals first
    |exact bh
    |omega
    |exact aj aa aa
    |exact ae aa aa
 by_cases k8_9:k=8\/k=9
 ·obtain⟨m,i2,hm2,hi2,c2⟩:=ax l hl 8 ac ac i1 hi1
  obtain⟨r1,i3,o1,hi3,c3⟩:=hE i2 hi2;obtain⟨r,o,dn⟩:=aP (77+(m:Int)) [r1] (B:=B) (2+3*B) (by simp[o1]) (by first|(simp;done)|(simp;omega)) an (by first|(simp;done)|(simp;omega));refine⟨r,i3,o,hi3,?_⟩
  rcases k8_9 with rfl|rfl
  all_goals
   refine wW Tryz.func218 ?_
   repeat'(first|exact y0|refine y1 ?_|refine y2 ?_ ?_|refine y4 λh=>?_|refine wX 18 (cm c1 ?_)|refine wX 18 (cm c2 ?_)|refine wX 218 (cm c3 ?_)|refine wX 55 (fw nS [] [r1] dn ?_)|refine y3 ?_|exact y5|fail)
   all_goals first
    |exact bh
    |omega
    |exact aj aa aa
    |exact ae aa aa
 by_cases k10:k=10
 ·obtain⟨r1,i2,o1,hi2,c2⟩:=nL l hl (dep-1) aa aa args B ha aa aa hE2 i1 hi1
  obtain⟨r,o,dn⟩:=aP 85 [r1] (B:=1+2*B) (2+3*B) (by simp[o1]) (by first|(simp;done)|(simp;omega)) an (by first|(simp;done)|(simp;omega));refine⟨r,i2,o,hi2,?_⟩;subst k10;refine wW Tryz.func218 ?_
  repeat'(first|exact y0|refine y1 ?_|refine y2 ?_ ?_|refine y4 λh=>?_|refine wX 18 (cm c1 ?_)|refine wX 221 (cm c2 ?_)|refine wX 55 (fw nS [] [r1] dn ?_)|refine y3 ?_|exact y5|fail)
  all_goals first
   |exact bh
   |omega
   |exact aj aa aa
   |exact ae aa aa
 by_cases k11:k=11
 ·obtain⟨r1,i2,o1,hi2,c2⟩:=nL l hl (dep-1) aa aa args B ha aa aa hE2 i1 hi1
  obtain⟨r,o,dn⟩:=aP 87 [r1] (B:=1+2*B) (2+3*B) (by simp[o1]) (by first|(simp;done)|(simp;omega)) an (by first|(simp;done)|(simp;omega));refine⟨r,i2,o,hi2,?_⟩;subst k11;refine wW Tryz.func218 ?_
  repeat'(first|exact y0|refine y1 ?_|refine y2 ?_ ?_|refine y4 λh=>?_|refine wX 18 (cm c1 ?_)|refine wX 221 (cm c2 ?_)|refine wX 55 (fw nS [] [r1] dn ?_)|refine y3 ?_|exact y5|fail)
  all_goals first
   |exact bh
   |omega
   |exact aj aa aa
   |exact ae aa aa
 by_cases k12:k=12
 ·obtain⟨s,i2,hs,hi2,c2⟩:=jM l hl i1 hi1
  obtain⟨r1,o1,d⟩:=cY s aa;obtain⟨r,o,dn⟩:=aP 86 [r1] (B:=1) 2 (by simp[o1]) an an an;refine⟨r,i2,o.le aa,hi2,?_⟩;subst k12;refine wW Tryz.func218 ?_
  repeat'(first|exact y0|refine y1 ?_|refine y2 ?_ ?_|refine y4 λh=>?_|refine wX 18 (cm c1 ?_)|refine wX 19 (cm c2 ?_)|refine wX 56 (pu d ?_)|refine wX 55 (fw nS [] [r1] dn ?_)|refine y3 ?_|exact y5|fail)
  all_goals first
   |exact bh
   |omega
   |exact aj aa aa
   |exact ae aa aa
 by_cases k13:k=13
 ·obtain⟨r1,i2,o1,hi2,c2⟩:=hE i1 hi1
  obtain⟨r2,i3,o2,hi3,c3⟩:=hE i2 hi2;obtain⟨r3,i4,o3,hi4,c4⟩:=hE i3 hi3;obtain⟨r,o,dn⟩:=aP 88 [r1,r2,r3] (B:=B) (2+3*B) (by simp[o1,o2,o3]) (by first|(simp;done)|(simp;omega)) an (by first|(simp;done)|(simp;omega));refine⟨r,i4,o,hi4,?_⟩;subst k13;refine wW Tryz.func218 ?_
  repeat'(first|exact y0|refine y1 ?_|refine y2 ?_ ?_|refine y4 λh=>?_|refine wX 18 (cm c1 ?_)|refine wX 218 (cm c2 ?_)|refine wX 218 (cm c3 ?_)|refine wX 218 (cm c4 ?_)|refine wX 55 (fw nS [] [r1,r2,r3] dn ?_)|refine y3 ?_|exact y5|fail)
  all_goals first
   |exact bh
   |omega
   |exact aj aa aa
   |exact ae aa aa
 by_cases k14:k=14
 ·obtain⟨r,i2,o,hi2,c2⟩:=Du l hl dep aa aa args B ha aa aa hE i1 hi1
  refine⟨r,i2,o.le aa,hi2,?_⟩;subst k14;refine wW Tryz.func218 ?_
  repeat'(first|exact y0|refine y1 ?_|refine y2 ?_ ?_|refine y4 λh=>?_|refine wX 18 (cm c1 ?_)|refine wX 219 (cm c2 ?_)|refine y3 ?_|exact y5|fail)
  all_goals first
   |exact bh
   |omega
   |exact aj aa aa
   |exact ae aa aa
 by_cases k15:k=15
 ·obtain⟨r,i2,o,hi2,c2⟩:=AT l hl dep aa aa args B ha aa aa hE i1 hi1
  refine⟨r,i2,o.le aa,hi2,?_⟩;subst k15;refine wW Tryz.func218 ?_
  repeat'(first|exact y0|refine y1 ?_|refine y2 ?_ ?_|refine y4 λh=>?_|refine wX 18 (cm c1 ?_)|refine wX 220 (cm c2 ?_)|refine y3 ?_|exact y5|fail)
  all_goals first
   |exact bh
   |omega
   |exact aj aa aa
   |exact ae aa aa
 by_cases k0:k=0
 ·obtain⟨x,i2,hx,hi2,c2⟩:=og l hl i1 hi1
  obtain⟨r,o,d⟩:=dy x hx;refine⟨r,i2,o.le aa,hi2,?_⟩;subst k0;refine wW Tryz.func218 ?_
  repeat'(first|exact y0|refine y1 ?_|refine y2 ?_ ?_|refine y4 λh=>?_|refine wX 18 (cm c1 ?_)|refine wX 73 (cm c2 ?_)|refine wX 58 (pu d ?_)|refine y3 ?_|exact y5|fail)
  all_goals first
   |exact bh
   |omega
   |exact aj aa aa
   |exact ae aa aa
 omega
theorem Ib (l:List Int) (hl:l.length<=20000000000000) (args:Nat) (ha:args<=100):∀ dep:Int,-10<=dep->dep<=3->e_ l dep args 3000:=by
 have up:∀ {B C:Nat} {dep:Int},B<=C->e_ l dep args B->e_ l dep args C:=λhbc h i hi=>by
  obtain⟨r,i',o,h⟩:=h i hi;exact⟨r,i',o.le hbc,h⟩
 have e0:∀ dep:Int,-10<=dep->dep<=0->e_ l dep args 100:=λdep h1 h2=>Ic l hl dep h1 h2 args ha
 have e1:e_ l 1 args 302:=wJ l hl 1 ac ac args 100 ha ac ac (e0 _ ac ac) (λh=>absurd h ac);have e2:e_ l 2 args 908:=wJ l hl 2 ac ac args 302 ha ac ac e1 (λ_=>up ac (e0 _ ac ac));have e3:e_ l 3 args 2726:=wJ l hl 3 ac ac args 908 ha ac ac e2 (λ_=>up ac e1);intro dep h1 h2;by_cases h:dep<=0
 ·exact up ac (e0 dep h1 h)
 ·rcases (aa:dep=1\/dep=2\/dep=3) with rfl|rfl|rfl
  ·exact up ac e1
  ·exact up ac e2
  ·exact up ac e3
inductive FiT (l:List Int):List By->Nat->List (List Nd)->Nat->Prop
 |nil (i:Nat):FiT l [] i [] i
 |skip {s:By} {ns:List By} {i i1 i2 i3 i' m q:Nat} {r1 r2 r3 r4 r5:List Nd} {K:List (List Nd)} (hq:q<20) (hm:m<12) (c:FC Tryz.prog 18 [cP,nI (3:Nat)] 1 (cc l i) (nI (2:Nat)) 1 (cc l i1)) (c2:FC Tryz.prog 18 [cP,nI (12:Nat)] 1 (cc l i1) (nI m) 1 (cc l i2))
  (d1:FC Tryz.prog 58 [.s (.int .u64 m)] 0 [] (al r1) 0 []) (d2:FC Tryz.prog 55 [nI 19,.s (cq [r1])] 0 [] (al r2) 0 []) (d3:FC Tryz.prog 56 [sV s] 0 [] (al r3) 0 []) (c3:FC Tryz.prog 18 [cP,nI (20:Nat)] 1 (cc l i2) (nI q) 1 (cc l i3))
  (d4:FC Tryz.prog 58 [.s (.int .u64 (1+(q:Int)))] 0 [] (al r4) 0 []) (d5:FC Tryz.prog 55 [nI 18,.s (cq [r3,r4])] 0 [] (al r5) 0 []) (t:FiT l ns i3 K i'):FiT l (s::ns) i (r2::r5::K) i'
 |unit {s:By} {ns:List By} {i i2 i3 i' k q:Nat} {r3 r4 r5:List Nd} {K:List (List Nd)} (hq:q<20) (hk: ¬(k:Int)=2) (c:FC Tryz.prog 18 [cP,nI (3:Nat)] 1 (cc l i) (nI k) 1 (cc l i2)) (d3:FC Tryz.prog 56 [sV s] 0 [] (al r3) 0 []) (c3:FC Tryz.prog 18 [cP,nI (20:Nat)] 1 (cc l i2) (nI q) 1 (cc l i3))
  (d4:FC Tryz.prog 58 [.s (.int .u64 (1+(q:Int)))] 0 [] (al r4) 0 []) (d5:FC Tryz.prog 55 [nI 18,.s (cq [r3,r4])] 0 [] (al r5) 0 []) (t:FiT l ns i3 K i'):FiT l (s::ns) i (r5::K) i'
theorem Ia {l:List Int} {ns:List By} {i i':Nat} {K:List (List Nd)} (h:FiT l ns i K i'):K.length<=2*ns.length:=by
 induction h with
 |nil i=>simp
 |skip _ _ _ _ _ _ _ _ _ _ _ ih=>simp;omega
 |unit _ _ _ _ _ _ _ _ ih=>simp;omega
theorem H_ (l:List Int) (hl:l.length<=20000000000000):∀ (ns:List By) (i:Nat),i<=l.length->(∀ s∈ns,s.length<=1000)->∃ K i',FiT l ns i K i'/\i'<=l.length/\∀ r∈K,OKr 3 r
 |[],i,hi,_=>⟨[],i,.nil i,hi,λr hr=>by cases hr⟩
 |s::ns,i,hi,hs=>by
  obtain⟨k,i1,hk,hi1,c⟩:=ax l hl 3 ac ac i hi;obtain⟨r3,o3,d3⟩:=cY s (hs s (Z17 ..));by_cases h2:k=2
  ·subst h2
   obtain⟨m,i2,hm,hi2,c2⟩:=ax l hl 12 ac ac i1 hi1;obtain⟨r1,o1,d1⟩:=dy m aa;obtain⟨r2,o2,d2⟩:=aP 19 [r1] (B:=1) 3 (by simp[o1]) an an an;obtain⟨q,i3,hq,hi3,c3⟩:=ax l hl 20 ac ac i2 hi2;obtain⟨r4,o4,d4⟩:=dy (1+(q:Int)) aa;obtain⟨r5,o5,d5⟩:=aP 18 [r3,r4] (B:=1) 3 (by simp[o3,o4]) an an an
   obtain⟨K,i',h1,h2,h4⟩:=H_ l hl ns i3 hi3 λx hx=>hs x (Z0y _ hx)
   refine⟨r2::r5::K,i',.skip hq hm c c2 d1 d2 d3 c3 d4 d5 h1,h2,λx hx=>?_⟩
   rcases Z0h.1 hx with rfl|hx
   ·exact o2
   ·rcases Z0h.1 hx with rfl|hx
    ·exact o5
    ·exact h4 x hx
  ·obtain⟨q,i3,hq,hi3,c3⟩:=ax l hl 20 ac ac i1 hi1
   obtain⟨r4,o4,d4⟩:=dy (1+(q:Int)) aa;obtain⟨r5,o5,d5⟩:=aP 18 [r3,r4] (B:=1) 3 (by simp[o3,o4]) an an an
   obtain⟨K,i',h1,h2,h4⟩:=H_ l hl ns i3 hi3 λx hx=>hs x (Z0y _ hx)
   refine⟨r5::K,i',.unit hq aa c d3 c3 d4 d5 h1,h2,λx hx=>?_⟩
   rcases Z0h.1 hx with rfl|hx
   ·exact o5
   ·exact h4 x hx
theorem uP (l:List Int) (hl:l.length<=20000000000000) (names:List By) (hn:names.length<=2) (hs:∀ s∈names,s.length<=1000) (idx:Bool) (wide:Nat) (hw:wide=0\/wide=2) (i:Nat) (hi:i<=l.length):
 ∃ (r:List Nd) (i':Nat),OKr 100 r/\i'<=l.length/\FC Tryz.prog 61 [cP,.s (aE names),bV idx,nI wide] 1 (cc l i) (al r) 1 (cc l i'):=by
 obtain⟨K,i1,hB,hi1,hK⟩:=H_ l hl names i hi hs;have hKl:=Ia hB;obtain⟨k,i2,hk,hi2,c2⟩:=ax l hl (wide+1) aa aa i1 hi1;obtain⟨m,i3,hm3,hi3,c3⟩:=ax l hl 3 ac ac i2 hi2
 obtain⟨wd,hwd0,hwd⟩:∃ w:Int,0<=w/\w=(if k=0 then 1 else if k=1 then 2 else 4):=⟨_,by split<;>(try split)<;>decide,rfl⟩
 obtain⟨r1,o1,d1⟩:=dy wd hwd0;obtain⟨r2,o2,d2⟩:=dy m aa;obtain⟨rb,ob,db⟩:=aP 4 K (B:=3) 13 hK aa aa aa;obtain⟨f1,p1,e1⟩:=cY [70,49] ac;obtain⟨f2,p2,e2⟩:=cY [70,50] ac;obtain⟨g1,q1,e3⟩:=cY [82,49] ac;obtain⟨ra,oa,da⟩:=aP 17 [f1,f2,r1,r2,rb] (B:=13) 100 (by simp[p1.le,p2.le,o1.le,o2.le,ob]) an an an;obtain⟨rc,oc,dc⟩:=aP 16 [g1,r1,r2,rb] (B:=13) 100 (by simp[q1.le,o1.le,o2.le,ob]) an an an;unfold cq at da dc db;refine⟨if idx then ra else rc,i3,by cases idx<;>assumption,hi3,?_⟩;unfold aE
 have hsz:(Tryz.prog.types[32]).size=1:=by kernel_rfl
 have hby:(Tryz.prog.types[32]).bytes=24:=by kernel_rfl
 refine wW Tryz.func61 ?_
 repeat'(first|exact y0|refine y1 ?_|refine y2 ?_ ?_|refine y4 λh=>?_|refine y3 ?_|exact y5|fail)
 refine Ex.set 9 (.s (.row 1 2 0)) (VLe.s SLe.nilrow) rfl (Ex.upN (n':=3) aa ?_)
 refine Ex.inv (σ:=List By×Nat×Nat×List (List Nd)) (λs=>[(9,.s (.row 1 2 s.2.2.2.length)),(10,nI s.2.1)]) (λs=>[(0,some {cells:=[mC l,.int .i64 (s.2.2.1:Int)],ty:=97}),(1,kO 1 s.2.2.2)])
  (λs=>names.drop s.2.1=s.1/\s.2.1<=names.length/\∃ R,FiT l s.1 s.2.2.1 R i1/\s.2.2.2++R=K) (λs=>s.1.length) (names,0,i,[]) rfl (λ_=>rfl) ⟨rfl,Z08 _,K,hB,rfl⟩ aV ⟨rfl,trivial⟩ ?_
 rintro⟨rem,j,ci,D⟩ ⟨hj,hjl,R,hR,hD⟩;simp only at hj hjl hR hD |-
 have hDK:D.length+R.length<=4:=by rw[<-Z03,hD];omega
 cases hR with
 |nil=>
  have hj2: ¬j<names.length:=λh=>by rw[Z0k h] at hj;cases hj
  rw[Z0u] at hD;subst hD
  rcases hw with rfl|rfl
  ·obtain rfl:k=0:=aa
   subst hwd;cases idx
   all_goals
    cases D with
    |nil=>
     repeat'(first|exact y0|refine y1 ?_|refine y2 ?_ ?_|refine y4 λh=>?_|refine wX 18 (cm c2 ?_)|refine wX 18 (cm c3 ?_)|refine wX 58 (pu d1 ?_)|refine wX 58 (pu d2 ?_)|refine wX 56 (pu e1 ?_)|refine wX 56 (pu e2 ?_)|refine wX 56 (pu e3 ?_)|(refine wX 55 ?_;refine CallG.we db rfl ⟨VLe.refl _,VLe.s SLe.row0,trivial⟩ rfl rfl rfl ?_)|refine wX 55 (fw nS [] [f1,f2,r1,r2,rb] da ?_)|refine wX 55 (fw nS [] [g1,r1,r2,rb] dc ?_)|exact aj ac ac|exact ae ac ac|refine y3 ?_|exact y5|fail)
     all_goals first
      |exact bh
      |omega
      |exact aj aa aa
      |exact ae aa aa
    |cons x D=>
     repeat'(first|exact y0|refine y1 ?_|refine y2 ?_ ?_|refine y4 λh=>?_|refine wX 18 (cm c2 ?_)|refine wX 18 (cm c3 ?_)|refine wX 58 (pu d1 ?_)|refine wX 58 (pu d2 ?_)|refine wX 56 (pu e1 ?_)|refine wX 56 (pu e2 ?_)|refine wX 56 (pu e3 ?_)|(refine wX 55 ?_;refine fw nS [] (x::D) db ?_)|refine wX 55 (fw nS [] [f1,f2,r1,r2,rb] da ?_)|refine wX 55 (fw nS [] [g1,r1,r2,rb] dc ?_)|exact aj ac ac|exact ae ac ac|refine y3 ?_|exact y5|fail)
     all_goals first
      |exact bh
      |omega
      |exact aj aa aa
      |exact ae aa aa
  ·rcases (aa:k=0\/k=1\/k=2) with rfl|rfl|rfl
   all_goals
    subst hwd;cases idx
    all_goals
     cases D with
     |nil=>
      repeat'(first|exact y0|refine y1 ?_|refine y2 ?_ ?_|refine y4 λh=>?_|refine wX 18 (cm c2 ?_)|refine wX 18 (cm c3 ?_)|refine wX 58 (pu d1 ?_)|refine wX 58 (pu d2 ?_)|refine wX 56 (pu e1 ?_)|refine wX 56 (pu e2 ?_)|refine wX 56 (pu e3 ?_)|(refine wX 55 ?_;refine CallG.we db rfl ⟨VLe.refl _,VLe.s SLe.row0,trivial⟩ rfl rfl rfl ?_)|refine wX 55 (fw nS [] [f1,f2,r1,r2,rb] da ?_)|refine wX 55 (fw nS [] [g1,r1,r2,rb] dc ?_)|exact aj ac ac|exact ae ac ac|refine y3 ?_|exact y5|fail)
      all_goals first
       |exact bh
       |omega
       |exact aj aa aa
       |exact ae aa aa
     |cons x D=>
      repeat'(first|exact y0|refine y1 ?_|refine y2 ?_ ?_|refine y4 λh=>?_|refine wX 18 (cm c2 ?_)|refine wX 18 (cm c3 ?_)|refine wX 58 (pu d1 ?_)|refine wX 58 (pu d2 ?_)|refine wX 56 (pu e1 ?_)|refine wX 56 (pu e2 ?_)|refine wX 56 (pu e3 ?_)|(refine wX 55 ?_;refine fw nS [] (x::D) db ?_)|refine wX 55 (fw nS [] [f1,f2,r1,r2,rb] da ?_)|refine wX 55 (fw nS [] [g1,r1,r2,rb] dc ?_)|exact aj ac ac|exact ae ac ac|refine y3 ?_|exact y5|fail)
      all_goals first
       |exact bh
       |omega
       |exact aj aa aa
       |exact ae aa aa
 | @skip s ns _ j1 j2 j3 _ m' q r1' r2' r3' r4' r5' R' hq hm' c cc2 dd1 dd2 dd3 cc3 dd4 dd5 t=>
   have hjl2:j<names.length:=by
    rcases Z0a j names.length with h|h
    ·exact h
    ·rw[Z10 h] at hj;cases hj
   have hjs:names.drop (j+1)=ns/\names.getD j []=s:=by
    rw[Z0k hjl2] at hj
    injection hj with a b
    exact⟨b,by rw[Z00,Z01 hjl2];exact a⟩
   simp only[Z04] at hDK;unfold cq at dd2 dd5;rw[<-hjs.2] at dd3
   repeat'(first|exact y0|refine y1 ?_|refine y2 ?_ ?_|refine y4 λh=>?_|refine wX 18 (cm c ?_)|refine wX 18 (cm cc2 ?_)|refine wX 18 (cm cc3 ?_)|refine wX 58 (pu dd1 ?_)|refine wX 58 (pu dd4 ?_)|refine wX 56 (pu dd3 ?_)|refine wX 55 (fw nS [] [r1'] dd2 ?_)|refine wX 55 (fw nS [] [r3',r4'] dd5 ?_)|refine RegX.apr (i:=1) (g:=2) (m:=D.length) (w:=1) (cs:=D.map λr=>nS r) (foot:=[4]) (k:=1) (add:=[nS r2']) rfl rfl an rfl rfl rfl rfl rfl rfl rfl hsz ac rfl ⟨Z02 _,rfl⟩ ac an rfl (by rw[hby];omega) aa rfl ?_|refine RegX.apr (i:=5) (g:=6) (m:=D.length+1) (w:=1) (cs:=(D.map λr=>nS r)++[nS r2']) (foot:=[8]) (k:=1) (add:=[nS r5']) rfl rfl an rfl rfl rfl rfl rfl rfl rfl hsz ac rfl ⟨Z02 _,rfl⟩ ac an rfl (by rw[hby];omega) aa rfl ?_|refine y3 ?_|exact y5|fail)
   all_goals try first
    |exact ae (by push_cast;omega) (by push_cast;omega)
    |omega
   refine LoopR.move (ns,j+1,j3,D++[r2',r5']) ⟨hjs.1,hjl2,R',t,by simpa using hD⟩ (by first|(simp only;omega)|(simp only[Z04];omega)) [0,9,10] rfl ?_ ?_ ?_
   ·repeat' (first|exact VLe.refl _|exact VLe.any _|exact Z0o|exact VLe.of_eq (congrArg nI (by push_cast;omega))|(refine VLe.of_eq (congrArg V.s (?_:S.row 9 10 _=S.row 9 10 _));simp;done)|refine⟨?_,?_⟩)
   ·refine⟨rfl,MemP.op ?_ trivial⟩
    rw[show List.map (λr=>nS r) (D++[r2',r5'])=((D.map λr=>nS r)++[nS r2'])++[nS r5'] from by simp];rfl
   ·exact (by unfold kO;generalize List.map _ _=cg;cases cg<;>rfl)
 | @unit s ns _ j2 j3 _ k' q r3' r4' r5' R' hq hk' c dd3 cc3 dd4 dd5 t=>
   have hjl2:j<names.length:=by
    rcases Z0a j names.length with h|h
    ·exact h
    ·rw[Z10 h] at hj;cases hj
   have hjs:names.drop (j+1)=ns/\names.getD j []=s:=by
    rw[Z0k hjl2] at hj
    injection hj with a b
    exact⟨b,by rw[Z00,Z01 hjl2];exact a⟩
   simp only[Z04] at hDK;unfold cq at dd5;rw[<-hjs.2] at dd3
   repeat'(first|exact y0|refine y1 ?_|refine y2 ?_ ?_|refine y4 λh=>?_|refine wX 18 (cm c ?_)|refine wX 18 (cm cc3 ?_)|refine wX 58 (pu dd4 ?_)|refine wX 56 (pu dd3 ?_)|refine wX 55 (fw nS [] [r3',r4'] dd5 ?_)|refine RegX.apr (i:=1) (g:=2) (m:=D.length) (w:=1) (cs:=D.map λr=>nS r) (foot:=[4]) (k:=1) (add:=[nS r5']) rfl rfl an rfl rfl rfl rfl rfl rfl rfl hsz ac rfl ⟨Z02 _,rfl⟩ ac an rfl (by rw[hby];omega) aa rfl ?_|refine y3 ?_|exact y5|fail)
   all_goals try first
    |exact ae (by push_cast;omega) (by push_cast;omega)
    |omega
   refine LoopR.move (ns,j+1,j3,D++[r5']) ⟨hjs.1,hjl2,R',t,by simpa using hD⟩ (by first|(simp only;omega)|(simp only[Z04];omega)) [0,5,6] rfl ?_ ?_ ?_
   ·repeat' (first|exact VLe.refl _|exact VLe.any _|exact Z0o|exact VLe.of_eq (congrArg nI (by push_cast;omega))|(refine VLe.of_eq (congrArg V.s (?_:S.row 5 6 _=S.row 5 6 _));simp;done)|refine⟨?_,?_⟩)
   ·refine⟨rfl,MemP.op ?_ trivial⟩
    rw[Z0d];rfl
   ·exact (by unfold kO;generalize List.map _ _=cg;cases cg<;>rfl)
def D5 (l:List Int) (dep:Int) (args:Nat) (loop:Bool) (B:Nat):Prop:=∀ i,i<=l.length->∃ (r:List Nd) (i':Nat),OKr B r/\i'<=l.length/\FC Tryz.prog 168 [cP,nI dep,nI args,bV loop] 1 (cc l i) (al r) 1 (cc l i')
def BlockE (l:List Int) (dep:Int) (args:Nat) (loop:Bool) (B:Nat):Prop:=∀ i,i<=l.length->∃ (r:List Nd) (i':Nat),OKr B r/\i'<=l.length/\FC Tryz.prog 104 [cP,nI dep,nI args,bV loop] 1 (cc l i) (al r) 1 (cc l i')
inductive BlT (l:List Int) (dep:Int) (args:Nat) (loop:Bool):Nat->Nat->List (List Nd)->Nat->Prop
 |nil (i:Nat):BlT l dep args loop 0 i [] i
 |stop {n i:Nat} (c:FC Tryz.prog 46 [cP] 1 (cc l i) (bV false) 1 (cc l i)):BlT l dep args loop (n+1) i [] i
 |last {n i i1:Nat} {x:Nd} {r:List Nd} (c:FC Tryz.prog 46 [cP] 1 (cc l i) (bV true) 1 (cc l i)) (c2:FC Tryz.prog 168 [cP,nI dep,nI args,bV loop] 1 (cc l i) (al (x::r)) 1 (cc l i1))
  (ho:x.op=33\/x.op=34\/x.op=35):BlT l dep args loop (n+1) i [x::r] i1
 |cons {n i i1 i':Nat} {x:Nd} {r:List Nd} {K:List (List Nd)} (c:FC Tryz.prog 46 [cP] 1 (cc l i) (bV true) 1 (cc l i)) (c2:FC Tryz.prog 168 [cP,nI dep,nI args,bV loop] 1 (cc l i) (al (x::r)) 1 (cc l i1))
  (h1: ¬x.op=33) (h2: ¬x.op=34) (h3: ¬x.op=35) (t:BlT l dep args loop n i1 K i'):BlT l dep args loop (n+1) i ((x::r)::K) i'
theorem Ir {l:List Int} {dep:Int} {args:Nat} {loop:Bool} {n i i':Nat} {K:List (List Nd)} (h:BlT l dep args loop n i K i'):K.length<=n:=by
 induction h with
 |nil i=>simp
 |stop _=>simp
 |last _ _ _=>simp
 |cons _ _ _ _ _ _ ih=>simp;omega
theorem JW (l:List Int) (hl:l.length<=20000000000000) (dep:Int) (args:Nat) (loop:Bool) (B:Nat) (hS:D5 l dep args loop B):∀ (n i:Nat),i<=l.length->∃ K i',BlT l dep args loop n i K i'/\i'<=l.length/\∀ r∈K,OKr B r
 |0,i,hi=>⟨[],i,.nil i,hi,λr hr=>by cases hr⟩
 |n+1,i,hi=>by
  obtain⟨b,hb,c⟩:=Ch l hl i hi
  cases b with
  |false=>exact⟨[],i,.stop c,hi,λr hr=>by cases hr⟩
  |true=>
   obtain⟨r,i1,o,hi1,c2⟩:=hS i hi;obtain⟨x,r,rfl⟩:=Z4j o.ne;by_cases ho:x.op=33\/x.op=34\/x.op=35
   ·exact⟨[x::r],i1,.last c c2 ho,hi1,λq hq=>by rw[Z0m.1 hq];exact o⟩
   ·obtain⟨K,i',h1,h2,h4⟩:=JW l hl dep args loop B hS n i1 hi1
    refine⟨(x::r)::K,i',.cons c c2 (λh=>ho (.inl h)) (λh=>ho (.inr (.inl h))) (λh=>ho (.inr (.inr h))) h1,h2,λq hq=>?_⟩
    rcases Z0h.1 hq with rfl|hq
    ·exact o
    ·exact h4 q hq
theorem nk (l:List Int) (hl:l.length<=20000000000000) (dep:Int) (args:Nat) (loop:Bool) (B:Nat) (hB2:B<=100000000000) (hS:D5 l dep args loop B):BlockE l dep args loop (1+3*B):=by
 intro i hi;obtain⟨m,i2,hm2,hi2,c2⟩:=ax l hl 4 ac ac i hi;obtain⟨K,i3,hB,hi3,hK⟩:=JW l hl dep args loop B hS m i2 hi2;have hKl:=Ir hB;have hKB:K.length*B<=3*B:=Z1w B aa;obtain⟨r,o,dn⟩:=aP 4 K (B:=B) (1+3*B) hK aa aa aa;unfold cq at dn;refine⟨r,i3,o,hi3,?_⟩
 have hsz:(Tryz.prog.types[32]).size=1:=by kernel_rfl
 have hby:(Tryz.prog.types[32]).bytes=24:=by kernel_rfl
 refine wW Tryz.func104 ?_
 repeat'(first|exact y0|refine y1 ?_|refine y2 ?_ ?_|refine y4 λh=>?_|refine wX 18 (cm c2 ?_)|refine y3 ?_|exact y5|fail)
 refine Ex.set 9 (.s (.row 1 2 0)) (VLe.s SLe.nilrow) rfl (Ex.upN (n':=3) aa ?_)
 refine Ex.inv (σ:=Nat×Nat×List (List Nd)) (λs=>[(9,.s (.row 1 2 s.2.2.length)),(10,nI s.1)]) (λs=>[(0,some {cells:=[mC l,.int .i64 (s.2.1:Int)],ty:=97}),(1,kO 1 s.2.2)])
  (λs=>∃ R,BlT l dep args loop s.1 s.2.1 R i3/\s.2.2++R=K/\s.2.2.length+s.1<=3) (λs=>s.1) (m,i2,[]) rfl (λ_=>rfl) ⟨K,hB,rfl,by simp;omega⟩ aV ⟨rfl,trivial⟩ ?_
 rintro⟨n,j,D⟩ ⟨R,hR,hD,hDn⟩;simp only at hR hD hDn |-
 cases hR with
 |nil=>
  rw[Z0u] at hD;subst hD
  cases D with
  |nil=>
   repeat'(first|exact y0|refine y1 ?_|refine y2 ?_ ?_|refine y4 λh=>?_|(refine wX 55 ?_;refine CallG.we dn rfl ⟨VLe.refl _,VLe.s SLe.row0,trivial⟩ rfl rfl rfl ?_)|refine y3 ?_|exact y5|fail)
   all_goals first
    |exact bh
    |omega
    |exact aj aa aa
    |exact ae aa aa
  |cons x D=>
   repeat'(first|exact y0|refine y1 ?_|refine y2 ?_ ?_|refine y4 λh=>?_|(refine wX 55 ?_;refine fw nS [] (x::D) dn ?_)|refine y3 ?_|exact y5|fail)
   all_goals first
    |exact bh
    |omega
    |exact aj aa aa
    |exact ae aa aa
 |stop c=>
  rw[Z0u] at hD;subst hD
  cases D with
  |nil=>
   repeat'(first|exact y0|refine y1 ?_|refine y2 ?_ ?_|refine y4 λh=>?_|refine wX 46 (cm c ?_)|(refine wX 55 ?_;refine CallG.we dn rfl ⟨VLe.refl _,VLe.s SLe.row0,trivial⟩ rfl rfl rfl ?_)|refine y3 ?_|exact y5|fail)
   all_goals first
    |exact bh
    |omega
    |exact aj aa aa
    |exact ae aa aa
  |cons x D=>
   repeat'(first|exact y0|refine y1 ?_|refine y2 ?_ ?_|refine y4 λh=>?_|refine wX 46 (cm c ?_)|(refine wX 55 ?_;refine fw nS [] (x::D) dn ?_)|refine y3 ?_|exact y5|fail)
   all_goals first
    |exact bh
    |omega
    |exact aj aa aa
    |exact ae aa aa
 | @last n _ j1 x0 r0 c cc2 ho=>
   subst hD;obtain⟨op0,n0,s0,k0⟩:=x0;simp only at ho
   rcases ho with rfl|rfl|rfl
   all_goals
    cases D with
    |nil=>
     simp only[Z04,Z0e] at hDn
     repeat'(first|exact y0|refine y1 ?_|refine y2 ?_ ?_|(refine y4 λh=>?_;try(first|(first|exact absurd rfl (by assumption)|exact absurd (by assumption) ac|(exfalso;omega))|exact y6))|refine wX 46 (cm c ?_)|refine wX 168 (cm cc2 ?_)|(refine wX 55 ?_;refine fw nS [] ([]++[⟨_,n0,s0,k0⟩::r0]) dn ?_)|exact Z1n (List.length r0)|refine RegX.apr (i:=1) (g:=2) (m:=0) (w:=1) (cs:=[]) (foot:=[3]) (k:=1) (add:=[nS (⟨_,n0,s0,k0⟩::r0)]) rfl rfl an rfl rfl rfl rfl rfl rfl rfl hsz ac rfl ⟨Z02 _,rfl⟩ ac an rfl (by rw[hby];omega) aa rfl ?_|refine y3 ?_|exact y5|fail)
     all_goals first
      |exact bh
      |omega
      |exact aj aa aa
      |exact ae aa aa
    |cons y D=>
     simp only[Z04,Z0e] at hDn
     repeat'(first|exact y0|refine y1 ?_|refine y2 ?_ ?_|(refine y4 λh=>?_;try(first|(first|exact absurd rfl (by assumption)|exact absurd (by assumption) ac|(exfalso;omega))|exact y6))|refine wX 46 (cm c ?_)|refine wX 168 (cm cc2 ?_)|(refine wX 55 ?_;refine fw nS [] ((y::D)++[⟨_,n0,s0,k0⟩::r0]) dn ?_)|exact Z1n (List.length r0)|refine RegX.apr (i:=1) (g:=2) (m:=D.length+1) (w:=1) (cs:=(y::D).map λr=>nS r) (foot:=[3]) (k:=1) (add:=[nS (⟨_,n0,s0,k0⟩::r0)]) rfl rfl an rfl rfl rfl rfl rfl rfl rfl hsz ac rfl ⟨Z02 _,rfl⟩ ac an rfl (by rw[hby];omega) aa rfl ?_|refine y3 ?_|exact y5|fail)
     all_goals first
      |exact bh
      |omega
      |exact aj aa aa
      |exact ae aa aa
 | @cons n _ j1 _ x0 r0 R' c cc2 h1 h2 h3 t=>
   repeat'(first|exact y0|refine y1 ?_|refine y2 ?_ ?_|refine y4 λh=>?_|refine wX 46 (cm c ?_)|refine wX 168 (cm cc2 ?_)|exact Z1n (List.length r0)|refine RegX.apr (i:=1) (g:=2) (m:=D.length) (w:=1) (cs:=D.map λr=>nS r) (foot:=[3]) (k:=1) (add:=[nS (x0::r0)]) rfl rfl an rfl rfl rfl rfl rfl rfl rfl hsz ac rfl ⟨Z02 _,rfl⟩ ac an rfl (by rw[hby];omega) aa rfl ?_|refine y3 ?_|exact y5|fail)
   all_goals try first
    |exact ae (by push_cast;omega) (by push_cast;omega)
    |omega
   refine LoopR.move (n,j1,D++[x0::r0]) ⟨R',t,by simpa using hD,by simp;omega⟩ (by first|(simp only;omega)|(simp only[Z04];omega)) [0,4,5] rfl ?_ ?_ ?_
   ·repeat' (first|exact VLe.refl _|exact VLe.any _|exact Z0o|exact VLe.of_eq (congrArg nI (by push_cast;omega))|(refine VLe.of_eq (congrArg V.s (?_:S.row 4 5 _=S.row 4 5 _));simp;done)|refine⟨?_,?_⟩)
   ·refine⟨rfl,MemP.op ?_ trivial⟩
    rw[Z0d];rfl
   ·exact (by unfold kO;generalize List.map _ _=cg;cases cg<;>rfl)
end Go.Proofs.YtegjgpldfgjoiaaGreatDoor
