import Derived.Test.YtegjgpldfgjoiaaGreatDoorCnD20
set_option linter.all false
set_option maxHeartbeats 40000000
set_option maxRecDepth 100000
namespace Go.Proofs.YtegjgpldfgjoiaaGreatDoor
open Go Ab
theorem Ends.uniq {p:List Nd} {e n i:Nat} (h:Ends p e n i):∀ {e':Nat},Ends p e' n i->e=e':=by
 induction h with
 |done=>
  intro e' h';cases h';rfl
 |step h k hk r ih=>
  intro e' h'
  cases h' with
  |step _ k' hk' r'=>
   grind
structure EOK (p:List Nd) (E:List Nat):Prop where
 len:E.length=p.length
 on:∀ i,i<p.length->Ends p (E.getD i 0) 1 i
theorem EOK.get {p:List Nd} {E:List Nat} (h:EOK p E) {x:Nd} {k n:Fo} {i:Nat} (ha:(Fo.cons x k n).At p i):E.getD i 0=i+1+k.size:=(h.on i (At.lt ha)).uniq (At.ends1 ha)
theorem yE (x:Int):IntKind.u64.wrap x=x%18446744073709551616:=by rfl
theorem ER (x:Int) (n:Nat) (h0:0<n) (h1:n<4611686018427387904):FQ 36 [nI x,nI n] 0 [] (nI (x%18446744073709551616%n)) 0 []:=by
 have hr:0<=x%18446744073709551616:=Z5s _ ac;have hr2:0<=x%18446744073709551616%n:=Z5s _ aa;have hr3:x%18446744073709551616%n<n:=Int.emod_lt_of_pos _ aa;have ht:(x%18446744073709551616).tmod n=x%18446744073709551616%n:=Int.tmod_eq_emod_of_nonneg hr;refine wW Tryz.func36 ?_;refine Ex.seq (Ex.reg hm (RegX.chunkN 1 rfl rfl ⟨trivial,trivial⟩ (RegX.nilF (Then.normal (Ex.seq (Ex.reg hm (RegX.chunkN 1 rfl rfl ⟨trivial,trivial⟩ ?_)))))));refine kO [.num (x%18446744073709551616)] rfl rfl ⟨trivial,yE x⟩ ?_
 repeat'(first|refine y1 ?_|refine y2 ?_ ?_|refine y4 λh=>?_|refine jE (.inl rfl) rfl ht|refine y3 ?_|exact y5|fail)
 all_goals first
  |exact al aa aa
  |(rw[ht];first|exact al aa aa|exact aj aa aa)
  |omega
def q9 (l:List Int):S:=.frz (λk=>[.int .i64 (l.getD k 0)]) 1 l.length
abbrev b_ (l:List Int) (i:Nat):Hp:=[(0,some {cells:=[q9 l,.int .i64 (i:Int)],ty:=97})]
abbrev cP:V:=.s (.ptr (some (0,0)))
theorem ax (l:List Int) (hl:l.length<=20000000000000) (n:Nat) (h0:0<n) (h1:n<4611686018427387904) (i:Nat) (hi:i<=l.length):
 ∃ r i':Nat,r<n/\i'<=l.length/\FQ 18 [cP,nI n] 1 (b_ l i) (nI r) 1 (b_ l i'):=by
 rcases Z0a i l.length with h|h
 ·have hm0:=ER (l.getD i 0) n h0 h1
  have hr2:0<=l.getD i 0%18446744073709551616%n:=Z5s _ aa;have hr3:l.getD i 0%18446744073709551616%n<n:=Int.emod_lt_of_pos _ aa;obtain⟨r,hr⟩:=Z2a hr2;rw[hr] at hm0 hr3;refine⟨r,i+1,aa,h,?_⟩;unfold b_ q9;refine wW Tryz.func18 ?_;have hk:(i:Int)+1-1=i:=aa
  repeat'(first|refine yA ?_|refine y2 ?_ ?_|refine y4 λh=>?_|refine an hm0 ?_|exact y5|fail)
  refine RegX.chunkN 9 rfl rfl ?_ (RegX.eqv 30 (congrArg nI hk) rfl ?_)
  repeat'(first|refine yA ?_|refine y2 ?_ ?_|refine y4 λh=>?_|refine an hm0 ?_|exact y5|fail)
  exact bD
 ·refine⟨0,i,h0,hi,?_⟩
  unfold b_ q9;refine wW Tryz.func18 ?_
  repeat'(first|refine yA ?_|refine y2 ?_ ?_|refine y4 λh=>?_|exact y5|fail)
  exact bD
theorem Ar (l:List Int) (hl:l.length<=20000000000000) (i:Nat) (hi:i<=l.length):
 ∃ b,(b=true↔i<l.length)/\FQ 46 [cP] 1 (b_ l i) (bV b) 1 (b_ l i):=by
 unfold b_ q9
 rcases Z0a i l.length with h|h
 ·refine⟨true,by simp[h],?_⟩
  refine wW Tryz.func46 ?_
  repeat'(first|refine yA ?_|refine y2 ?_ ?_|refine y4 λh=>?_|exact y5|fail)
  all_goals first
   |exact bD
   |omega
 ·refine⟨false,by simp;omega,?_⟩
  refine wW Tryz.func46 ?_
  repeat'(first|refine yA ?_|refine y2 ?_ ?_|refine y4 λh=>?_|exact y5|fail)
  all_goals first
   |exact bD
   |omega
theorem HE (l:List Int):FQ 16 [.s (q9 l)] 0 [] cP 1 (b_ l 0):=by
 unfold b_ q9;refine wW Tryz.func16 ?_
 repeat'(first|refine yA ?_|refine y2 ?_ ?_|refine y4 λh=>?_|exact y5|fail)
 all_goals exact⟨.inl rfl,_,[0],ah _,hY rfl ⟨rfl,trivial⟩ rfl rfl rfl rfl⟩
def wL (s:By):Nat:=if s=[95,83,66]\/s=[95,71,80,69] then 2000 else s.length
theorem Eu (s:By):s.length<=wL s:=by
 unfold wL;split
 ·rename_i h;rcases h with rfl|rfl<;>decide
 ·exact Z02 _
theorem vC {c:UInt8} {s:By} (hc:c≠95):wL (c::s)=s.length+1:=by
 unfold wL;rw[if_neg]
 ·rfl
 ·rintro (h|h)<;>exact hc (List.cons.inj h).1
def segsL:List By:=[[65],[66],[67],[68,69,86,48],[80,87,82,48],[95,83,84,65],[77,84,88],[69,86,84],[70,49],[77]]
theorem EF (n:Nat) (hn:n<10):∃ s:By,wL s<=4/\FQ 37 [nI n] 0 [] (sV s) 0 []:=by
 have hm0:=ER n 10 ac ac;rw[show (n:Int)%18446744073709551616%(10:Nat)=(n:Nat) by omega] at hm0
 have key:∀ n:Nat,n<10->FQ 36 [nI n,nI (10:Nat)] 0 [] (nI n) 0 []->FQ 37 [nI n] 0 [] (sV (segsL.getD n [])) 0 []:=by
  intro n hn hm0
  rcases (aa:n=0\/n=1\/n=2\/n=3\/n=4\/n=5\/n=6\/n=7\/n=8\/n=9) with rfl|rfl|rfl|rfl|rfl|rfl|rfl|rfl|rfl|rfl
  all_goals
   refine wW Tryz.func37 ?_
   repeat'(first|refine y1 ?_|refine y2 ?_ ?_|refine y4 λh=>?_|refine an hm0 ?_|refine Fin.str (.inl rfl) rfl rfl|refine y3 ?_|exact y5|fail)
 refine⟨segsL.getD n [],?_,key n hn hm0⟩
 match n,hn with
 |0,_=>decide
 |1,_=>decide
 |2,_=>decide
 |3,_=>decide
 |4,_=>decide
 |5,_=>decide
 |6,_=>decide
 |7,_=>decide
 |8,_=>decide
 |9,_=>decide
theorem k_ (l:List Int) (hl:l.length<=20000000000000) (i:Nat) (hi:i<=l.length):
 ∃ (s:By) (i':Nat),wL s<=5/\i'<=l.length/\FQ 19 [cP] 1 (b_ l i) (sV s) 1 (b_ l i'):=by
 obtain⟨k,i1,hk,hi1,hc1⟩:=ax l hl 6 ac ac i hi;obtain⟨m,i2,hm2,hi2,hc2⟩:=ax l hl 10 ac ac i1 hi1;obtain⟨s,hs,hc3⟩:=EF m hm2;have hsl:=Eu s;by_cases h4:k=4
 ·subst h4
  refine⟨92::s,i2,by rw[vC ac];omega,hi2,?_⟩;refine wW Tryz.func19 ?_
  repeat'(first|refine yA ?_|refine y2 ?_ ?_|refine y4 λh=>?_|refine ay hc1 ?_|refine ay hc2 ?_|refine an hc3 ?_|exact y5|fail)
  all_goals first
   |exact bD
   |omega
   |(show 1+List.length s<9223372036854775808;omega)
   |(show (1:Int)+(List.length s:Int)<=_;omega)
 ·by_cases h5:k=5
  ·subst h5
   refine⟨94::s,i2,by rw[vC ac];omega,hi2,?_⟩;refine wW Tryz.func19 ?_
   repeat'(first|refine yA ?_|refine y2 ?_ ?_|refine y4 λh=>?_|refine ay hc1 ?_|refine ay hc2 ?_|refine an hc3 ?_|exact y5|fail)
   all_goals first
    |exact bD
    |omega
    |(show 1+List.length s<9223372036854775808;omega)
    |(show (1:Int)+(List.length s:Int)<=_;omega)
  ·have h4': ¬(k:Int)=4:=aa
   have h5': ¬(k:Int)=5:=aa;refine⟨s,i2,aa,hi2,?_⟩;refine wW Tryz.func19 ?_
   repeat'(first|refine yA ?_|refine y2 ?_ ?_|refine y4 λh=>?_|refine ay hc1 ?_|refine ay hc2 ?_|refine an hc3 ?_|exact y5|fail)
   all_goals first
    |exact bD
    |omega
    |(show 1+List.length s<9223372036854775808;omega)
    |(show (1:Int)+(List.length s:Int)<=_;omega)
theorem m7 (l:List Int) (hl:l.length<=20000000000000) (i:Nat) (hi:i<=l.length):
 ∃ (x:Int) (i':Nat),0<=x/\i'<=l.length/\FQ 73 [cP] 1 (b_ l i) (.s (.int .u64 x)) 1 (b_ l i'):=by
 obtain⟨k,i1,hk,hi1,hc1⟩:=ax l hl 8 ac ac i hi;obtain⟨m,i2,hm2,hi2,hc2⟩:=ax l hl 1073741824 ac ac i1 hi1;obtain⟨m3,i3,hm3,hi3,hc3⟩:=ax l hl 9 ac ac i1 hi1;by_cases h4:k=6
 ·subst h4
  refine⟨18446744073709551615,i1,ac,hi1,?_⟩;refine wW Tryz.func73 ?_
  repeat'(first|refine yA ?_|refine y2 ?_ ?_|refine y4 λh=>?_|refine ay hc1 ?_|exact y5|fail)
  all_goals first
   |exact bD
   |omega
 ·by_cases h5:k=7
  ·subst h5
   refine⟨(m:Int)*3,i2,aa,hi2,?_⟩;refine wW Tryz.func73 ?_
   repeat'(first|refine yA ?_|refine y2 ?_ ?_|refine y4 λh=>?_|refine ay hc1 ?_|refine ay hc2 ?_|exact y5|fail)
   all_goals first
    |exact bD
    |exact al aa aa
    |omega
  ·have h4': ¬(k:Int)=6:=aa
   have h5': ¬(k:Int)=7:=aa;refine⟨(m3:Int),i3,aa,hi3,?_⟩;refine wW Tryz.func73 ?_
   repeat'(first|refine yA ?_|refine y2 ?_ ?_|refine y4 λh=>?_|refine ay hc1 ?_|refine ay hc3 ?_|exact y5|fail)
   all_goals first
    |exact bD
    |exact al aa aa
    |omega
abbrev nS (p:List Nd):S:=.frz (λk=>ndC (p.getD k dN)) 4 p.length
def ce (K:List (List Nd)):S:=.frz (λk=>[nS (K.getD k [])]) 1 K.length
def ndS:List Nd->S
 |_::_::l=> .sla 0 1 (l.length+2)
 |_=> .slc (some (0,0)) 1 (some 1)
def ndQ:List Nd->Bl
 |x::y::l=>{cells:=(x::y::l).flatMap ndC,ty:=49,more:=true,sym:=true,flat:=true,gh:=some (1,4)}
 |x::[]=>{cells:=ndC x,ty:=49,flat:=true}
 |[]=>{cells:=[],ty:=49}
theorem qe:∀ G:List Nd,(G.flatMap ndC).length=G.length*4
 |[]=>rfl
 |x::G=>by rw[Z0g,Z03,qe G];simp only[Z04];simp[ndC];omega
theorem eI (G:List Nd):eq (λk=>ndC (G.getD k dN)) G.length=G.flatMap ndC:=by
 rw[nA]
theorem qf (bl:Bl) (r:List Nd):cv bl (r.flatMap ndC)=true:=by
 have h1:∀ r:List Nd,(r.flatMap ndC).all cz=true:=by
  intro r
  induction r with
  |nil=>rfl
  |cons x r ih=>rw[Z0g,Z1g,ih];rfl
 have h2:∀ r:List Nd,(r.flatMap ndC).all nJ=true:=by
  intro r
  induction r with
  |nil=>rfl
  |cons x r ih=>rw[Z0g,Z1g,ih];rfl
 grind [cv]
theorem qg {G:List Nd} {k j:Nat} {x:S} (hk:k<G.length) (hx:(ndC (G.getD k dN))[j]? =some x):(G.flatMap ndC)[k*4+j]? =some x/\bL x=true:=by
 induction G generalizing k with
 |nil=>simp at hk
 |cons y G ih=>
  cases k with
  |zero=>
   rw[Z0g]
   match j,hx with
   |0,hx=>cases hx;exact⟨rfl,rfl⟩
   |1,hx=>cases hx;exact⟨rfl,rfl⟩
   |2,hx=>cases hx;exact⟨rfl,rfl⟩
   |3,hx=>cases hx;exact⟨rfl,rfl⟩
   |_+4,hx=>cases hx
  |succ k=>
   have:=ih (k:=k) ae ae;rw[Z0g,show (k+1)*4+j=(k*4+j)+4 by omega];exact this
theorem FY {x:Nd} {k j:Nat} {s:S} (hk:k<1) (hx:(ndC ([x].getD k dN))[j]? =some s):(ndC x)[k*4+j]? =some s/\bL s=true:=by
 have:=qg (G:=[x]) (k:=k) (j:=j) (x:=s) hk hx
 grind
theorem FW (op n:Int) (s:By) (K:List (List Nd)) (hK:∀ r∈K,r≠[]) (hn:(K.flatten).length<=1000000000000) (hk:K.length<=4096):
 FQ 103 [nI op,.s (.int .u64 n),sV s,.s (ce K)] 0 [] (ao (⟨op,n,s,K.length⟩::K.flatten)) 0 []:=by
 have hsz:(Tryz.prog.types[49]).size=4:=bd;have hby:(Tryz.prog.types[49]).bytes=40:=bd;unfold ce;generalize hT:(⟨op,n,s,K.length⟩::K.flatten:List Nd)=T;refine wW Tryz.func103 ?_
 repeat'(first|refine yA ?_|refine y2 ?_ ?_|exact y5|fail)
 refine Ex.flat 0 rfl rfl rfl rfl (fN 17 .any (cT _) rfl (Ex.upN (n':=2) aa ?_));refine cD (σ:=Nat×List Nd) (λq=>[(10,nI q.1),(9,.s (ndS q.2))]) (λq=>[(0,some (ndQ q.2))]) (λq=>q.1<=K.length/\q.2++(K.drop q.1).flatten=T/\q.2≠[]) (λq=>K.length-q.1) (0,[⟨op,n,s,K.length⟩]) rfl (λ_=>rfl) ?_ ?_ ?_ ?_
 ·grind
 ·exact bc
 ·exact⟨rfl,trivial⟩
 ·rintro⟨j,Q⟩ ⟨h1,h2,h3⟩
  simp only at h1 h2 h3 |-;have hTl:T.length<=1000000000001:=ae
  rcases Z0a j K.length with hj|hj
  ·have hd:K.drop j=K.getD j []::K.drop (j+1):=by
    rw[Z0k hj,Z00,Z01 hj];rfl
   have hr:K.getD j []≠[]:=hK _ ae;rw[hd,Z4w,<-Z14] at h2;have hrl:0<(K.getD j []).length:=Z1s.2 hr
   have hlen:Q.length+(K.getD j []).length<=1000000000001:=by
    grind
   match Q,h3 with
   |[x],_=>
    repeat'(first|refine yA ?_|refine y2 ?_ ?_|refine y4 λh=>?_|exact y5|fail)
    generalize K.getD j []=r at*;obtain⟨z,r,rfl⟩:=Z4j hr;simp only[Z04,Z0e] at hlen;refine Cl [.app (1+(r.length+1)) (([x]++z::r).flatMap ndC)] rfl rfl ?_ rfl rfl rfl ?_
    ·refine⟨?_,trivial,rfl,rfl,?_,?_,(λh=>by simp),?_,?_⟩
     ·rw[hsz];rfl
     ·rw[hsz,eI];rfl
     ·rw[eI];exact qf _ _
     ·rw[hby];omega
     ·omega
    repeat'(first|refine yA ?_|refine y2 ?_ ?_|exact y5|fail)
    refine fq (j+1,[x]++z::r) ⟨hj,h2,av⟩ ae [2,3] rfl ?_ ?_ rfl
    ·repeat'(first|exact ah _|exact cT _|exact Z0o|(refine bp (congrArg V.s (?_:S.sla 2 3 _=S.sla 2 3 _));simp;omega)|refine⟨?_,?_⟩)
    ·exact⟨rfl,trivial⟩
   |x::y::l,_=>
    repeat'(first|refine yA ?_|refine y2 ?_ ?_|refine y4 λh=>?_|exact y5|fail)
    generalize K.getD j []=r at*;obtain⟨z,r,rfl⟩:=Z4j hr;simp only[Z04,Z0e] at hlen;refine Cl [.app ((l.length+2)+(r.length+1)) (((x::y::l)++z::r).flatMap ndC)] rfl rfl ?_ rfl rfl rfl ?_
    ·refine⟨?_,trivial,rfl,rfl,?_,?_,(λh=>by simp),?_,?_⟩
     ·rw[hsz];show (l.length+2)*4<=((x::y::l).flatMap ndC).length;rw[qe];simp
     ·rw[hsz,eI];show _=List.take ((l.length+2)*4) ((x::y::l).flatMap ndC)++_;rw[Z1l (by rw[qe];simp),Z0r]
     ·rw[eI];exact qf _ _
     ·rw[hby];omega
     ·omega
    repeat'(first|refine yA ?_|refine y2 ?_ ?_|exact y5|fail)
    refine fq (j+1,(x::y::l)++z::r) ⟨hj,h2,av⟩ ae [2,3] rfl ?_ ?_ rfl
    ·repeat'(first|exact ah _|exact cT _|exact Z0o|(refine bp (congrArg V.s (?_:S.sla 2 3 _=S.sla 2 3 _));simp;omega)|refine⟨?_,?_⟩)
    ·exact⟨rfl,trivial⟩
  ·have hd:K.drop j=[]:=Z10 hj
   rw[hd] at h2;simp only[Z51,Z0u] at h2;subst h2
   match Q,h3 with
   |[x],_=>
    repeat'(first|refine y1 ?_|refine y2 ?_ ?_|refine y4 λh=>?_|refine Ex.fz 8 (λk=>ndC ([x].getD k dN)) 4 rfl rfl rfl rfl (λ_ _=>rfl) (λk j s hk hs=>FY hk hs) rfl rfl ?_|refine cW (.inl rfl) rfl (ah _) rfl|refine y3 ?_|exact y5|fail)
   |x::y::l,_=>
    repeat'(first|refine y1 ?_|refine y2 ?_ ?_|refine y4 λh=>?_|refine Ex.fz 8 (λk=>ndC ((x::y::l).getD k dN)) 4 rfl rfl rfl rfl (λ_ _=>rfl) (λk j s hk hs=>qg hk hs) rfl rfl ?_|refine cW (.inl rfl) rfl (ah _) rfl|refine y3 ?_|exact y5|fail)
theorem Gl (p:List Nd) (hp:p.length<=2048) (i e:Nat) (h:Ends p e 1 i):FQ 169 [ao p,nI i] 0 [] (nI e) 0 []:=by
 refine wW Tryz.func169 ?_
 repeat'(first|refine yA ?_|refine y2 ?_ ?_|exact y5|fail)
 refine cD (σ:=Nat×Nat) (λx=>[(1,nI x.2),(5,nI x.1)]) (λx=>[]) (λx=>Ends p e x.1 x.2) (λx=>p.length-x.2+(if x.1=0 then 0 else 1)) (1,i) rfl (λ_=>rfl) h bc trivial ?_;rintro⟨n,j⟩ hE;simp only at hE |-
 cases hE with
 |done=>
  repeat'(first|refine y1 ?_|refine y2 ?_ ?_|refine y4 λh=>?_|refine jE (.inl rfl) rfl ?_|refine y3 ?_|exact y5|fail)
 | @step n1 _ hlt k hk r=>
   obtain⟨l1,l2⟩:=r.le;have l3:=l2 aa
   repeat'(first|refine yA ?_|refine y2 ?_ ?_|refine y4 λh=>?_|exact y5|fail)
   refine dT (n1+k,j+1) r ?_ rfl ⟨bp (congrArg nI ?_),bp (congrArg nI ?_),trivial⟩ trivial rfl rfl ac
   ·simp only
    rw[if_neg (Nat.succ_ne_zero n1)]
    split<;>omega
   ·push_cast;rfl
   ·push_cast;omega
theorem sK {a j:Nat} {x:S} (h:[S.int .i64 ((a:Nat):Int)][j]? =some x):bL x=true:=by
 cases j with
 |zero=>cases h;rfl
 |succ j=>simp at h
abbrev HQ (i:Nat) (D:List Nat):Option Bl:=g9 3 (i+1) 1 (D.flatMap λj=>[S.int .i64 ((j:Nat):Int)])
theorem AJ (D:List Nat):(D.flatMap λj=>[S.int .i64 ((j:Nat):Int)]).length=D.length:=by induction D with
 |nil=>rfl
 |cons a D ih=>rw[Z0g,Z03,ih];simp;omega
theorem Dn (p:List Nd) (hp:p.length<=2048) (i f:Nat) (hi:i<p.length) (cs:List Nat) (hk:(p.getD i dN).kids=(cs.length:Nat)) (hc:Chain p f (i+1) cs) (hl:cs.length<=2048):
 FQ 105 [ao p,nI i] 0 [] (.s (gb cs)) 0 []:=by
 have hsz:(Tryz.prog.types[3]).size=1:=bd;have hby:(Tryz.prog.types[3]).bytes=8:=bd;refine wW Tryz.func105 ?_
 repeat'(first|refine yA ?_|refine y2 ?_ ?_|exact y5|fail)
 refine fN 5 (.s (.row 0 1 0)) (VLe.s SLe.nilrow) rfl (Ex.upN (n':=2) aa ?_);refine cD (σ:=List Nat×Nat×List Nat) (λx=>[(5,.s (.row 0 1 x.1.length)),(6,nI x.2.1),(7,nI x.1.length)]) (λx=>[(0,HQ 0 x.1)]) (λx=>x.1++x.2.2=cs/\Chain p f x.2.1 x.2.2) (λx=>x.2.2.length) ([],i+1,cs) rfl (λ_=>rfl) ⟨rfl,hc⟩ ⟨ah _,bp (congrArg nI (by push_cast;rfl)),ah _,trivial⟩ trivial ?_;rintro⟨D,j,rest⟩ ⟨h1,h2⟩;simp only at h1 h2 |-
 cases h2 with
 |nil=>
  rw[Z0u] at h1;subst h1
  repeat'(first|refine y1 ?_|refine y2 ?_ ?_|refine y4 λh=>?_|refine Ex.fzR 4 (λj=>[S.int .i64 ((j:Nat):Int)]) 1 0 D rfl rfl (λ_=>rfl) (λa j x h=>sK h) ac rfl rfl ?_|refine cW (.inl rfl) rfl (ah _) rfl|refine y3 ?_|exact y5|fail)
 | @cons _ e rest he r=>
   have hlen:D.length+(rest.length+1)=cs.length:=by rw[<-h1];simp
   have hend:=Gl p hp j e he
   repeat'(first|refine y1 ?_|refine y2 ?_ ?_|refine y4 λh=>?_|refine an hend ?_|refine jC (i:=0) (g:=1) (m:=D.length) (w:=1) (cs:=D.flatMap λj=>[S.int .i64 ((j:Nat):Int)]) (foot:=[2]) (k:=1) (add:=[S.int .i64 (j:Int)]) rfl rfl (by rw[AJ];omega) rfl rfl rfl rfl rfl rfl rfl hsz ac rfl ⟨Z02 _,rfl⟩ ac av rfl (by rw[hby];omega) aa rfl ?_|refine y3 ?_|exact y5|fail)
   refine fq (D++[j],e,rest) ⟨by simpa using h1,r⟩ (by simp only[Z04];omega) [3,4] rfl ?_ ?_ ?_
   ·repeat'(first|exact ah _|exact cT _|exact Z0o|exact bp (congrArg nI av)|(refine bp (congrArg V.s (?_:S.row 3 4 _=S.row 3 4 _));simp;done)|refine⟨?_,?_⟩)
   ·refine bN ?_ trivial
    rw[Z0r];rfl
   ·unfold HQ;generalize List.flatMap _ _=cg;cases cg<;>rfl
section
variable {B:Nat}
def tree (op n:Int) (s:By) (K:List (List Nd)):List Nd:=⟨op,n,s,K.length⟩::K.flatten
def wE (op:Int):Nat:=if (11<=op/\op<=15)\/op=18\/op=20\/op=21 then 1000000000 else 0
def q8 (r:List Nd):Nat:=(r.map λx=>wE x.op).sum
structure OKr (B:Nat) (r:List Nd):Prop where
 ne:r≠[]
 len:r.length<=B
 wf:∀ x∈r,wL x.str<=1000/\0<=x.int
 dc:q8 r<=B
theorem OKr.le {C:Nat} {r:List Nd} (h:OKr B r) (hbc:B<=C):OKr C r:=⟨h.ne,Z1z h.len hbc,h.wf,Z1z h.dc hbc⟩
theorem kx (a b:List Nd):q8 (a++b)=q8 a+q8 b:=by unfold q8;rw[Z0d,List.sum_append]
theorem nz {B:Nat}:∀ {K:List (List Nd)},(∀ r∈K,OKr B r)->q8 K.flatten<=K.length*B
 |[],_=>by simp[q8]
 |r::K,h=>by
  have h1:=(h r (Z17 ..)).dc
  have h2:=nz (K:=K) λq hq=>h q (Z0y _ hq)
  rw[Z4w,kx,Z04,Z2q,Nat.one_mul];omega
theorem iE {B:Nat}:∀ {K:List (List Nd)},(∀ r∈K,OKr B r)->K.flatten.length<=K.length*B
 |[],_=>by simp
 |r::K,h=>by
  have h1:=(h r (Z17 ..)).len
  have h2:=iE (K:=K) λq hq=>h q (Z0y _ hq)
  simp only[Z4w,Z03,Z04];rw[Z2q,Nat.one_mul];omega
theorem OKr.tree {C:Nat} {op n:Int} {s:By} {K:List (List Nd)} (hK:∀ r∈K,OKr B r) (hn:0<=n) (hs:wL s<=1000) (hC:1+K.length*B<=C) (hd:wE op+K.length*B<=C):OKr C (tree op n s K):=by
 refine⟨by simp[Go.Proofs.YtegjgpldfgjoiaaGreatDoor.tree],?_,λx hx=>?_,?_⟩
 ·have:=iE hK
  simp only[Go.Proofs.YtegjgpldfgjoiaaGreatDoor.tree,Z04];omega
 ·rcases Z0h.1 hx with rfl|hx
  ·exact⟨hs,hn⟩
  ·obtain⟨r,hr,hxr⟩:=List.mem_flatten.1 hx
   exact (hK r hr).wf x hxr
 ·have:=nz hK
  show q8 ([_]++K.flatten)<=C;rw[kx];simp only[q8,Z13,Z3d,List.sum_cons,List.sum_nil,Z0p] at this |-;omega
theorem uA (op n:Int) (s:By) (K:List (List Nd)) (hK:∀ r∈K,OKr B r) (hB:K.length*B<=1000000000000) (hk:K.length<=4096):
 FQ 103 [nI op,.s (.int .u64 n),sV s,.s (ce K)] 0 [] (ao (tree op n s K)) 0 []:=
 FW op n s K (λr hr=>(hK r hr).ne) (Z1z (iE hK) hB) hk
theorem uD (op n:Int) (s:By):FQ 103 [nI op,.s (.int .u64 n),sV s,.s (ce [])] 0 [] (ao (tree op n s [])) 0 []:=
 uA op n s [] (B:=0) (λr hr=>by cases hr) av av
theorem OKr.leaf {op n:Int} {s:By} (hn:0<=n) (hs:wL s<=1000) (hd:wE op=0):OKr 1 (Go.Proofs.YtegjgpldfgjoiaaGreatDoor.tree op n s []):=
 OKr.tree (B:=0) (λr hr=>by cases hr) hn hs av (by rw[hd];simp)
theorem HM (n:Int):FQ 58 [.s (.int .u64 n)] 0 [] (ao (tree 1 n [] [])) 0 []:=by
 have h:=uD 1 n [];refine wW Tryz.func58 ?_
 repeat'(first|refine y1 ?_|refine y2 ?_ ?_|refine y4 λh=>?_|(refine wX ?_;refine oz h rfl ⟨ah _,ah _,ah _,VLe.s SLe.nil,trivial⟩ rfl rfl rfl ?_)|refine cW (.inl rfl) rfl (ah _) rfl|refine y3 ?_|exact y5|fail)
theorem Ad (s:By):FQ 56 [sV s] 0 [] (ao (tree 3 0 s [])) 0 []:=by
 have h:=uD 3 0 s;refine wW Tryz.func56 ?_
 repeat'(first|refine y1 ?_|refine y2 ?_ ?_|refine y4 λh=>?_|(refine wX ?_;refine oz h rfl ⟨ah _,ah _,ah _,VLe.s SLe.nil,trivial⟩ rfl rfl rfl ?_)|refine cW (.inl rfl) rfl (ah _) rfl|refine y3 ?_|exact y5|fail)
theorem FV (op:Int) (K:List (List Nd)) (hK:∀ r∈K,OKr B r) (hB:K.length*B<=1000000000000) (hk:K.length<=4096):
 FQ 55 [nI op,.s (ce K)] 0 [] (ao (tree op 0 [] K)) 0 []:=by
 have h:=uA op 0 [] K hK hB hk;generalize tree op 0 [] K=T at*;unfold ce at*;refine wW Tryz.func55 ?_
 repeat'(first|refine y1 ?_|refine y2 ?_ ?_|refine y4 λh=>?_|refine an h ?_|refine cW (.inl rfl) rfl (ah _) rfl|refine y3 ?_|exact y5|fail)
end
theorem cM {K:List (List Nd)} {k j:Nat} {x:S} (hk:k<K.length) (hx:[nS (K.getD k [])][j]? =some x):(K.map λr=>nS r)[k*1+j]? =some x/\bL x=true:=by
 cases j with
 |succ j=>simp at hx
 |zero=>
  simp only[Z11,Z06] at hx;subst hx;rw[Z1p,Z0p,Z0t,Z01 hk,Z00,Z01 hk];exact⟨rfl,rfl⟩
theorem dm (n:Int) (h:0<=n):∃ r,OKr 1 r/\FQ 58 [.s (.int .u64 n)] 0 [] (ao r) 0 []:=⟨_,OKr.leaf h ac rfl,HM n⟩
theorem cR (s:By) (h:wL s<=1000):∃ r,OKr 1 r/\FQ 56 [sV s] 0 [] (ao r) 0 []:=⟨_,OKr.leaf ac h rfl,Ad s⟩
theorem aM (op:Int) (K:List (List Nd)) {B:Nat} (C:Nat) (hK:∀ r∈K,OKr B r) (hB:K.length*B<=1000000000000) (hk:K.length<=4096) (hC:1+K.length*B<=C) (hd:wE op+K.length*B<=C:=by first|(simp[wE];done)|(simp[wE];omega)|(unfold wE;rw[if_neg aa];first|(simp;done)|(simp;omega))):
 ∃ r,OKr C r/\FQ 55 [nI op,.s (ce K)] 0 [] (ao r) 0 []:=⟨_,OKr.tree hK ac ac hC hd,FV op K hK hB hk⟩
theorem zE (l:List Int) (hl:l.length<=20000000000000) (i:Nat) (hi:i<=l.length) (s:By) (hs:wL s<=1000):
 ∃ (r:List Nd) (i':Nat),OKr 1100000000 r/\i'<=l.length/\FQ 60 [cP,sV s] 1 (b_ l i) (ao r) 1 (b_ l i'):=by
 obtain⟨k,i1,hk,hi1,c1⟩:=ax l hl 3 ac ac i hi;obtain⟨m,i2,hm2,hi2,c2⟩:=ax l hl 4 ac ac i1 hi1;obtain⟨q,i3,hq,hi3,c3⟩:=ax l hl 32 ac ac i2 hi2
 obtain⟨sp,hsp0,hsp⟩:∃ sp:Int,0<=sp/\sp=(if k=0 then 0 else if k=1 then 1 else 3):=⟨_,by split<;>(try split)<;>decide,rfl⟩
 obtain⟨r1,o1,d1⟩:=cR s hs;obtain⟨r2,o2,d2⟩:=dm sp hsp0;obtain⟨r3,o3,d3⟩:=dm (8*m) aa;obtain⟨r4,o4,d4⟩:=dm (16+q) aa;obtain⟨r,o,dn⟩:=aM 15 [r1,r2,r3,r4] (B:=1) 1100000000 (by simp[o1,o2,o3,o4]) av av av;unfold ce at dn;refine⟨r,i3,o,hi3,?_⟩
 rcases (aa:k=0\/k=1\/k=2) with rfl|rfl|rfl
 all_goals
  subst hsp;refine wW Tryz.func60 ?_
  repeat'(first|refine yA ?_|refine y2 ?_ ?_|refine y4 λh=>?_|refine ay c1 ?_|refine ay c2 ?_|refine ay c3 ?_|refine an d1 ?_|refine an d2 ?_|refine an d3 ?_|refine an d4 ?_|(refine wX ?_;refine yy 25 (λk=>[nS ([r1,r2,r3,r4].getD k [])]) 1 dn rfl rfl rfl rfl (λ_ _=>rfl) (λk j x hk hx=>cM (K:=[r1,r2,r3,r4]) hk hx) rfl bc rfl rfl rfl ?_)|exact y5|fail)
  all_goals first
   |exact bD
   |omega
   |exact al aa aa
   |exact aj aa aa
abbrev kg (g:Nat) (K:List (List Nd)):Option Bl:=g9 32 (g+1) 1 (K.map λr=>nS r)
inductive BufT (l:List Int):Nat->Nat->List (List Nd)->Nat->Prop
 |nil (i:Nat):BufT l 0 i [] i
 |cons {n i k i1 i':Nat} {r:List Nd} {K:List (List Nd)} (hk:k<256) (hi1:i1<=l.length) (c:FQ 18 [cP,nI (256:Nat)] 1 (b_ l i) (nI k) 1 (b_ l i1))
  (o:OKr 1 r) (d:FQ 58 [.s (.int .u64 k)] 0 [] (ao r) 0 []) (t:BufT l n i1 K i'):BufT l (n+1) i (r::K) i'
theorem D4 {l:List Int} {n i i':Nat} {K:List (List Nd)} (h:BufT l n i K i'):K.length=n:=by
 induction h with
 |nil i=>rfl
 |cons _ _ _ _ _ _ ih=>simp[ih]
theorem E7 (l:List Int) (hl:l.length<=20000000000000):∀ (n i:Nat),i<=l.length->∃ K i',BufT l n i K i'/\i'<=l.length/\K.length=n/\∀ r∈K,OKr 1 r
 |0,i,hi=>⟨[],i,.nil i,hi,rfl,λr hr=>by cases hr⟩
 |n+1,i,hi=>by
  obtain⟨k,i1,hk,hi1,c⟩:=ax l hl 256 ac ac i hi;obtain⟨r,o,d⟩:=dm k aa;obtain⟨K,i',h1,h2,h3,h4⟩:=E7 l hl n i1 hi1;refine⟨r::K,i',.cons hk hi1 c o d h1,h2,by simp[h3],λq hq=>?_⟩
  rcases Z0h.1 hq with rfl|hq
  ·exact o
  ·exact h4 q hq
theorem BE (l:List Int) (hl:l.length<=20000000000000) (dep:Int) (i i1:Nat) (hi1:i1<=l.length) (c1:FQ 18 [cP,nI (5:Nat)] 1 (b_ l i) (nI (2:Nat)) 1 (b_ l i1)):
 ∃ (r:List Nd) (i':Nat),OKr 10 r/\i'<=l.length/\FQ 62 [cP,nI dep] 1 (b_ l i) (ao r) 1 (b_ l i'):=by
 obtain⟨m,i2,hm2,hi2,c2⟩:=ax l hl 4 ac ac i1 hi1;obtain⟨K,i3,hB,hi3,hKl,hK⟩:=E7 l hl m i2 hi2;obtain⟨q,i4,hq,hi4,c4⟩:=ax l hl 3 ac ac i3 hi3;obtain⟨r1,o1,d1⟩:=dm ((K.length:Int)+q) aa;obtain⟨r2,o2,d2⟩:=aM 4 K (B:=1) 4 hK aa aa aa;obtain⟨r,o,dn⟩:=aM 50 [r1,r2] (B:=4) 10 (by simp[o1.le,o2]) av av av;unfold ce at dn d2;refine⟨r,i4,o,hi4,?_⟩;have hsz:(Tryz.prog.types[32]).size=1:=bd;have hby:(Tryz.prog.types[32]).bytes=24:=bd;refine wW Tryz.func62 ?_
 repeat'(first|refine yA ?_|refine y2 ?_ ?_|refine y4 λh=>?_|refine ay c1 ?_|refine ay c2 ?_|exact y5|fail)
 refine fN 5 (.s (.row 1 2 0)) (VLe.s SLe.nilrow) rfl (Ex.upN (n':=3) aa ?_)
 refine cD (σ:=Nat×Nat×List (List Nd)) (λs=>[(5,.s (.row 1 2 s.2.2.length)),(6,nI s.1)]) (λs=>[(0,some {cells:=[q9 l,.int .i64 (s.2.1:Int)],ty:=97}),(1,kg 1 s.2.2)])
  (λs=>∃ R,BufT l s.1 s.2.1 R i3/\s.2.2++R=K) (λs=>s.1) (m,i2,[]) rfl (λ_=>rfl) ⟨K,hB,rfl⟩ bc ⟨rfl,trivial⟩ ?_
 rintro⟨n,j,D⟩ ⟨R,hR,hD⟩;simp only at hR hD |-
 cases hR with
 |nil=>
  rw[Z0u] at hD;subst hD
  cases D with
  |nil=>
   repeat'(first|refine yA ?_|refine y2 ?_ ?_|refine y4 λh=>?_|refine ay c4 ?_|refine an d1 ?_|(refine wX ?_;refine oz d2 rfl ⟨ah _,VLe.s SLe.row0,trivial⟩ rfl rfl rfl ?_)|(refine wX ?_;refine yy 43 (λk=>[nS ([r1,r2].getD k [])]) 1 dn rfl rfl rfl rfl (λ_ _=>rfl) (λkk jj zz hk hx=>cM (K:=[r1,r2]) hk hx) rfl bc rfl rfl rfl ?_)|exact y5|fail)
   all_goals first
   |exact bD
   |omega
   |exact al aa aa
   |exact aj aa aa
   |exact al (by simp;omega) (by simp;omega)
   |exact aj (by simp;omega) (by simp;omega)
  |cons x D=>
   repeat'(first|refine yA ?_|refine y2 ?_ ?_|refine y4 λh=>?_|refine ay c4 ?_|refine an d1 ?_|(refine wX ?_;refine yy 43 (λk=>[nS ([r1,r2].getD k [])]) 1 dn rfl rfl rfl rfl (λ_ _=>rfl) (λkk jj zz hk hx=>cM (K:=[r1,r2]) hk hx) rfl bc rfl rfl rfl ?_)|(refine wX ?_;refine yy 41 (λk=>[nS ((x::D).getD k [])]) 1 d2 rfl rfl rfl rfl (λ_ _=>rfl) (λkk jj zz hk hx=>cM (K:=(x::D)) hk hx) rfl bc rfl rfl rfl ?_)|exact y5|fail)
   all_goals first
   |exact bD
   |omega
   |exact al aa aa
   |exact aj aa aa
 | @cons n _ k j1 _ r' R' hk hj1 c oo d t=>
   have hRl:=D4 t
   have hlen:D.length+n<=2:=by rw[<-hKl,<-hD] at hm2;simp at hm2;omega
   repeat'(first|refine y1 ?_|refine y2 ?_ ?_|refine y4 λh=>?_|refine ay c ?_|refine an d ?_|refine jC (i:=1) (g:=2) (m:=D.length) (w:=1) (cs:=D.map λr=>nS r) (foot:=[3]) (k:=1) (add:=[nS r']) rfl rfl av rfl rfl rfl rfl rfl rfl rfl hsz ac rfl ⟨Z02 _,rfl⟩ ac av rfl (by rw[hby];omega) aa rfl ?_|refine y3 ?_|exact y5|fail)
   refine fq (n,j1,D++[r']) ⟨R',t,by simpa using hD⟩ (by simp only;omega) [0,4,5] rfl ?_ ?_ ?_
   ·repeat'(first|exact ah _|exact cT _|exact Z0o|exact bp (congrArg nI (by push_cast;omega))|(refine bp (congrArg V.s (?_:S.row 4 5 _=S.row 4 5 _));simp;done)|refine⟨?_,?_⟩)
   ·refine⟨rfl,bN ?_ trivial⟩
    rw[Z0d];rfl
   ·exact (by unfold kg;generalize List.map _ _=cg;cases cg<;>rfl)
def Cq (l:List Int) (dep:Int) (B:Nat):Prop:=∀ i,i<=l.length->∃ (r:List Nd) (i':Nat),OKr B r/\i'<=l.length/\FQ 62 [cP,nI dep] 1 (b_ l i) (ao r) 1 (b_ l i')
inductive PkT (l:List Int) (dep:Int) (B:Nat):Nat->Nat->List (List Nd)->Nat->Prop
 |nil (i:Nat):PkT l dep B 0 i [] i
 |name {n i i1 i2 i':Nat} {s:By} {r:List Nd} {K:List (List Nd)} (c:FQ 18 [cP,nI (3:Nat)] 1 (b_ l i) (nI (2:Nat)) 1 (b_ l i1))
  (c2:FQ 19 [cP] 1 (b_ l i1) (sV s) 1 (b_ l i2)) (d:FQ 56 [sV s] 0 [] (ao r) 0 []) (t:PkT l dep B n i2 K i'):PkT l dep B (n+1) i (r::K) i'
 |data {n i k i1 i2 i':Nat} {r:List Nd} {K:List (List Nd)} (hk: ¬(k:Int)=2) (c:FQ 18 [cP,nI (3:Nat)] 1 (b_ l i) (nI k) 1 (b_ l i1))
  (c2:FQ 62 [cP,nI dep] 1 (b_ l i1) (ao r) 1 (b_ l i2)) (t:PkT l dep B n i2 K i'):PkT l dep B (n+1) i (r::K) i'
theorem un {l:List Int} {dep:Int} {B n i i':Nat} {K:List (List Nd)} (h:PkT l dep B n i K i'):K.length=n:=by
 induction h with
 |nil i=>rfl
 |name _ _ _ _ ih=>simp[ih]
 |data _ _ _ _ ih=>simp[ih]
theorem FG (l:List Int) (hl:l.length<=20000000000000) (dep:Int) (B:Nat) (hB:1<=B) (hd:Cq l dep B):∀ (n i:Nat),i<=l.length->∃ K i',PkT l dep B n i K i'/\i'<=l.length/\∀ r∈K,OKr B r
 |0,i,hi=>⟨[],i,.nil i,hi,λr hr=>by cases hr⟩
 |n+1,i,hi=>by
  obtain⟨k,i1,hk,hi1,c⟩:=ax l hl 3 ac ac i hi;by_cases h2:k=2
  ·subst h2
   obtain⟨s,i2,hs,hi2,c2⟩:=k_ l hl i1 hi1;obtain⟨r,o,d⟩:=cR s aa;obtain⟨K,i',h1,h2,h4⟩:=FG l hl dep B hB hd n i2 hi2;refine⟨r::K,i',.name c c2 d h1,h2,λq hq=>?_⟩
   rcases Z0h.1 hq with rfl|hq
   ·exact o.le hB
   ·exact h4 q hq
  ·obtain⟨r,i2,o,hi2,c2⟩:=hd i1 hi1
   obtain⟨K,i',h1,h2,h4⟩:=FG l hl dep B hB hd n i2 hi2;refine⟨r::K,i',.data aa c c2 h1,h2,λq hq=>?_⟩
   rcases Z0h.1 hq with rfl|hq
   ·exact o
   ·exact h4 q hq
theorem BC (l:List Int) (hl:l.length<=20000000000000) (dp B:Nat) (hdp:dp<=1000) (hB1:1<=B) (hB2:B<=100000) (hd:Cq l dp B) (i i1:Nat) (hi1:i1<=l.length) (c1:FQ 18 [cP,nI (5:Nat)] 1 (b_ l i) (nI (3:Nat)) 1 (b_ l i1)):
 ∃ (r:List Nd) (i':Nat),OKr (10*B) r/\i'<=l.length/\FQ 62 [cP,nI (dp+1:Nat)] 1 (b_ l i) (ao r) 1 (b_ l i'):=by
 obtain⟨m,i2,hm2,hi2,c2⟩:=ax l hl 4 ac ac i1 hi1;obtain⟨K,i3,hB,hi3,hK⟩:=FG l hl dp B hB1 hd m i2 hi2;have hKl:=un hB;obtain⟨q,i4,hq,hi4,c4⟩:=ax l hl 3 ac ac i3 hi3;obtain⟨r1,o1,d1⟩:=dm ((K.length:Int)+q) aa;have hKB:K.length*B<=3*B:=Z1w B aa;obtain⟨r2,o2,d2⟩:=aM 4 K (B:=B) (1+3*B) hK aa aa aa;obtain⟨r,o,dn⟩:=aM 51 [r1,r2] (B:=1+3*B) (10*B) (by simp[o1.le (show 1<=1+3*B by omega),o2]) (by simp;omega) av (by simp;omega);unfold ce at dn d2;refine⟨r,i4,o,hi4,?_⟩;have hsz:(Tryz.prog.types[32]).size=1:=bd;have hby:(Tryz.prog.types[32]).bytes=24:=bd;have hdpos:((dp+1:Nat):Int)>0:=aa;refine wW Tryz.func62 ?_
 repeat'(first|refine yA ?_|refine y2 ?_ ?_|refine y4 λh=>?_|refine ay c1 ?_|refine ay c2 ?_|exact y5|fail)
 refine fN 7 (.s (.row 1 2 0)) (VLe.s SLe.nilrow) rfl (Ex.upN (n':=3) aa ?_)
 refine cD (σ:=Nat×Nat×List (List Nd)) (λs=>[(7,.s (.row 1 2 s.2.2.length)),(8,nI s.1)]) (λs=>[(0,some {cells:=[q9 l,.int .i64 (s.2.1:Int)],ty:=97}),(1,kg 1 s.2.2)])
  (λs=>∃ R,PkT l dp B s.1 s.2.1 R i3/\s.2.2++R=K) (λs=>s.1) (m,i2,[]) rfl (λ_=>rfl) ⟨K,hB,rfl⟩ bc ⟨rfl,trivial⟩ ?_
 rintro⟨n,j,D⟩ ⟨R,hR,hD⟩;simp only at hR hD |-
 cases hR with
 |nil=>
  rw[Z0u] at hD;subst hD
  cases D with
  |nil=>
   repeat'(first|refine yA ?_|refine y2 ?_ ?_|refine y4 λh=>?_|refine ay c4 ?_|refine an d1 ?_|(refine wX ?_;refine oz d2 rfl ⟨ah _,VLe.s SLe.row0,trivial⟩ rfl rfl rfl ?_)|(refine wX ?_;refine yy 80 (λk=>[nS ([r1,r2].getD k [])]) 1 dn rfl rfl rfl rfl (λ_ _=>rfl) (λkk jj zz hk hx=>cM (K:=[r1,r2]) hk hx) rfl bc rfl rfl rfl ?_)|exact y5|fail)
   all_goals first
   |exact bD
   |omega
   |exact al aa aa
   |exact aj aa aa
   |exact al (by simp;omega) (by simp;omega)
   |exact aj (by simp;omega) (by simp;omega)
  |cons x D=>
   repeat'(first|refine yA ?_|refine y2 ?_ ?_|refine y4 λh=>?_|refine ay c4 ?_|refine an d1 ?_|(refine wX ?_;refine yy 80 (λk=>[nS ([r1,r2].getD k [])]) 1 dn rfl rfl rfl rfl (λ_ _=>rfl) (λkk jj zz hk hx=>cM (K:=[r1,r2]) hk hx) rfl bc rfl rfl rfl ?_)|(refine wX ?_;refine yy 78 (λk=>[nS ((x::D).getD k [])]) 1 d2 rfl rfl rfl rfl (λ_ _=>rfl) (λkk jj zz hk hx=>cM (K:=(x::D)) hk hx) rfl bc rfl rfl rfl ?_)|exact y5|fail)
   all_goals first
   |exact bD
   |omega
   |exact al aa aa
   |exact aj aa aa
 | @name n _ i1' j1 _ s r' R' c c2 d t=>
   have hRl:=un t
   have hlen:D.length+n<=2:=by rw[<-hKl,<-hD] at hm2;simp at hm2;omega
   repeat'(first|refine y1 ?_|refine y2 ?_ ?_|refine y4 λh=>?_|refine ay c ?_|refine ay c2 ?_|refine an d ?_|refine jC (i:=1) (g:=2) (m:=D.length) (w:=1) (cs:=D.map λr=>nS r) (foot:=[3]) (k:=1) (add:=[nS r']) rfl rfl av rfl rfl rfl rfl rfl rfl rfl hsz ac rfl ⟨Z02 _,rfl⟩ ac av rfl (by rw[hby];omega) aa rfl ?_|refine y3 ?_|exact y5|fail)
   refine fq (n,j1,D++[r']) ⟨R',t,by simpa using hD⟩ (by simp only;omega) [0,4,5] rfl ?_ ?_ ?_
   ·repeat'(first|exact ah _|exact cT _|exact Z0o|exact bp (congrArg nI (by push_cast;omega))|(refine bp (congrArg V.s (?_:S.row 4 5 _=S.row 4 5 _));simp;done)|refine⟨?_,?_⟩)
   ·refine⟨rfl,bN ?_ trivial⟩
    rw[Z0d];rfl
   ·exact (by unfold kg;generalize List.map _ _=cg;cases cg<;>rfl)
 | @data n _ k i1' j1 _ r' R' hk c c2 t=>
   have hRl:=un t
   have hlen:D.length+n<=2:=by rw[<-hKl,<-hD] at hm2;simp at hm2;omega
   repeat'(first|refine y1 ?_|refine y2 ?_ ?_|refine y4 λh=>?_|refine ay c ?_|(refine wX ?_;refine eO [0] c2 ?_ (hle:=by exact⟨ah _,bp (congrArg nI (by push_cast;omega)),trivial⟩))|refine jC (i:=1) (g:=2) (m:=D.length) (w:=1) (cs:=D.map λr=>nS r) (foot:=[3]) (k:=1) (add:=[nS r']) rfl rfl av rfl rfl rfl rfl rfl rfl rfl hsz ac rfl ⟨Z02 _,rfl⟩ ac av rfl (by rw[hby];omega) aa rfl ?_|refine y3 ?_|exact y5|fail)
   refine fq (n,j1,D++[r']) ⟨R',t,by simpa using hD⟩ (by simp only;omega) [0,4,5] rfl ?_ ?_ ?_
   ·repeat'(first|exact ah _|exact cT _|exact Z0o|exact bp (congrArg nI (by push_cast;omega))|(refine bp (congrArg V.s (?_:S.row 4 5 _=S.row 4 5 _));simp;done)|refine⟨?_,?_⟩)
   ·refine⟨rfl,bN ?_ trivial⟩
    rw[Z0d];rfl
   ·exact (by unfold kg;generalize List.map _ _=cg;cases cg<;>rfl)
theorem BD (l:List Int) (hl:l.length<=20000000000000) (dep:Int) (i i1 k:Nat) (hi1:i1<=l.length) (h1: ¬(k:Int)=1) (h2: ¬(k:Int)=2) (h3:(k:Int)=3-> ¬dep>0) (c1:FQ 18 [cP,nI (5:Nat)] 1 (b_ l i) (nI k) 1 (b_ l i1)):
 ∃ (r:List Nd) (i':Nat),OKr 10 r/\i'<=l.length/\FQ 62 [cP,nI dep] 1 (b_ l i) (ao r) 1 (b_ l i'):=by
 obtain⟨x,i2,hx,hi2,c2⟩:=m7 l hl i1 hi1;obtain⟨r,o,d⟩:=dm x hx;refine⟨r,i2,o.le ac,hi2,?_⟩;by_cases hk:(k:Int)=3
 ·have hd:=h3 hk
  refine wW Tryz.func62 ?_
  repeat'(first|refine yA ?_|refine y2 ?_ ?_|(refine y4 λh=>?_;try(first|(first|exact absurd (by assumption) h1|exact absurd (by assumption) h2|exact absurd (by assumption) hd|exact absurd hk (by assumption))|exact y6))|refine ay c1 ?_|refine ay c2 ?_|refine an d ?_|exact y5|fail)
  all_goals first
   |exact bD
   |omega
   |exact al aa aa
   |exact aj aa aa
 ·refine wW Tryz.func62 ?_
  repeat'(first|refine yA ?_|refine y2 ?_ ?_|(refine y4 λh=>?_;try(first|(first|exact absurd (by assumption) h1|exact absurd (by assumption) h2|exact absurd (by assumption) hk)|exact y6))|refine ay c1 ?_|refine ay c2 ?_|refine an d ?_|exact y5|fail)
  all_goals first
   |exact bD
   |omega
   |exact al aa aa
   |exact aj aa aa
theorem nh (op n:Int) (s:By) (h:0<=n) (hs:wL s<=1000) (hd:wE op=0:=by decide):∃ r,OKr 1 r/\FQ 103 [nI op,.s (.int .u64 n),sV s,.s (ce [])] 0 [] (ao r) 0 []:=⟨_,OKr.leaf h hs hd,uD op n s⟩
theorem BB (l:List Int) (hl:l.length<=20000000000000) (dep:Int) (i i1:Nat) (hi1:i1<=l.length) (c1:FQ 18 [cP,nI (5:Nat)] 1 (b_ l i) (nI (1:Nat)) 1 (b_ l i1)):
 ∃ (r:List Nd) (i':Nat),OKr 10 r/\i'<=l.length/\FQ 62 [cP,nI dep] 1 (b_ l i) (ao r) 1 (b_ l i'):=by
 obtain⟨m,i2,hm2,hi2,c2⟩:=ax l hl 5 ac ac i1 hi1
 obtain⟨s,hs0,hs⟩:∃ s:By,wL s<=1000/\s=(if m=0 then [] else if m=1 then [120] else if m=2 then [48,70] else if m=3 then [49,50,97,98] else [0,255,34,92]):=⟨_,by (repeat' split)<;>decide,rfl⟩
 obtain⟨r,o,d⟩:=nh 2 0 s ac hs0;refine⟨r,i2,o.le ac,hi2,?_⟩
 rcases (aa:m=0\/m=1\/m=2\/m=3\/m=4) with rfl|rfl|rfl|rfl|rfl
 all_goals
  subst hs;refine wW Tryz.func62 ?_
  repeat'(first|refine yA ?_|refine y2 ?_ ?_|refine y4 λh=>?_|refine ay c1 ?_|refine ay c2 ?_|(refine wX ?_;refine oz d rfl ⟨ah _,ah _,ah _,VLe.s SLe.nil,trivial⟩ rfl rfl rfl ?_)|exact y5|fail)
  all_goals first
   |exact bD
   |omega
   |exact al aa aa
   |exact aj aa aa
theorem qF (l:List Int) (hl:l.length<=20000000000000):∀ n:Nat,n<=3->Cq l n (10^(n+1)):=by
 intro n hn i hi
 have hp:10<=10^(n+1):=by rw[Nat.pow_succ];have:0<10^n:=Nat.pow_pos ac;omega
 obtain⟨k,i1,hk,hi1,c1⟩:=ax l hl 5 ac ac i hi;by_cases h1:k=1
 ·subst h1
  obtain⟨r,i',o,h⟩:=BB l hl n i i1 hi1 c1;exact⟨r,i',o.le hp,h⟩
 by_cases h2:k=2
 ·subst h2
  obtain⟨r,i',o,h⟩:=BE l hl n i i1 hi1 c1;exact⟨r,i',o.le hp,h⟩
 by_cases h3:k=3/\0<n
 ·obtain⟨rfl,h3⟩:=h3
  obtain⟨dp,rfl⟩:∃ dp,n=dp+1:=⟨n-1,aa⟩
  have ih:=qF l hl dp aa;have hb:(10:Nat)^(dp+1)<=100000:=Z1z (Nat.pow_le_pow_right ac (show dp+1<=5 by omega)) ac;obtain⟨r,i',o,h⟩:=BC l hl dp _ aa (Nat.pow_pos ac) hb ih i i1 hi1 c1;exact⟨r,i',o.le (by rw[Nat.pow_succ 10 (dp+1)];omega),h⟩
 ·obtain⟨r,i',o,h⟩:=BD l hl n i i1 k hi1 aa aa (λh=>by omega) c1
  exact⟨r,i',o.le hp,h⟩
