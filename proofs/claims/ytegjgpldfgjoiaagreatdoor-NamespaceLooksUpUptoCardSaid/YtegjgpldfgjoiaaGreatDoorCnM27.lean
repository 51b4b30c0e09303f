import Derived.Test.YtegjgpldfgjoiaaGreatDoorCnM23
import Derived.Test.YtegjgpldfgjoiaaGreatDoorCnM26
import Derived.Test.YtegjgpldfgjoiaaGreatDoorCnM19
set_option linter.all false
namespace Go.Proofs.YtegjgpldfgjoiaaGreatDoor
open Go Ab
set_option maxRecDepth 100000
section
variable {op:Int}
def Fo.all (P:Nd->Prop):Fo->Prop
 | .nil=>True
 | .cons x k n=>P x/\k.all P/\n.all P
theorem Fo.all_mono {P Q:Nd->Prop} (h:∀ x,P x->Q x):∀ {t:Fo},t.all P->t.all Q
 | .nil,_=>trivial
 | .cons x k n,⟨h1,h2,h3⟩=>⟨h x h1,Fo.all_mono h h2,Fo.all_mono h h3⟩
theorem Fo.all_at {P:Nd->Prop} {p:List Nd}:∀ {t:Fo} {j i:Nat},t.At p j->t.all P->j<=i->i<j+t.size->P (p.getD i dN)
 | .nil,j,i,_,_,h1,h2=>by simp only[Fo.size] at h2;omega
 | .cons x k n,j,i,ha,⟨p1,p2,p3⟩,h1,h2=>by
   simp only[Fo.size] at h2;by_cases e:i=j
   ·subst e;rw[At.get ha];exact p1
   ·rcases Z0a i (j+1+k.size) with h|h
    ·exact Fo.all_at ha.2.2.1 p2 aa h
    ·exact Fo.all_at ha.2.2.2 p3 h aa
def quiet (x:Nd):Prop:=x.op<10\/21<x.op
def qK (c:Int):Bool:=decide (c≠68)&&decide (c≠70)
theorem Ap {c:Int} (h:bn c op=true) (hc:qK c=true):op<10\/21<op:=by
 unfold qK at hc;simp only[Z07,decide_eq_true_eq] at hc;unfold bn at h;split at h
 ·simp at h;omega
 split at h
 ·simp at h;omega
 split at h
 ·simp[fh,bN] at h;omega
 split at h
 ·simp at h;omega
 split at h
 ·simp[bN] at h;omega
 split at h
 ·simp[bN] at h;omega
 split at h
 ·rename_i h68;exact absurd h68 hc.1
 split at h
 ·rename_i h70;exact absurd h70 hc.2
 split at h
 ·simp at h;omega
 ·cases h
theorem wD:∀ op∈opsL,21<op->((cE op).2.all λc=>qK (c.toNat:Int))=true:=by decide+kernel
theorem ug {c kids:Int} (h:bn c op=true) (hq:op<10\/21<op):∀ b∈(av op kids).1,qK (b.toNat:Int)=true:=by
 have he7:∀ n:Nat,∀ b∈e7.take n,qK (b.toNat:Int)=true:=λn b hb=>by
  have:=Z2x hb;unfold e7 at this;simp at this;subst this;rfl
 unfold av;split
 ·split
  ·intro b hb;simp at hb
  ·exact he7 _
 ·split
  ·split
   ·intro b hb;simp at hb
   ·exact he7 _
  ·split
   ·intro b hb;simp at hb;rcases hb with rfl|rfl<;>rfl
   ·rename_i h5 h33 h31
    rcases nv h with h'|h'
    ·have hgt:21<op:=by
      rcases hq with hq|hq
      ·have:∀ o∈opsL,10<=o:=ac
       have:=this op h';omega
      ·exact hq
     exact λb hb=>Z0i.1 (wD op h' hgt) b hb
    ·rcases h' with rfl|rfl|rfl|rfl|rfl|rfl
     all_goals
      first
       |exact absurd rfl h5
       |(rw[show (cE _).2=[] by decide+kernel];intro b hb;simp at hb)
theorem eC:∀ {t:Fo} {cs:List (Bool×Int)},t.V cs->(∀ sl∈cs,qK sl.2=true)->t.all quiet
 | .nil,_,_,_=>trivial
 | .cons x k n,[],h,_=>by simp[Fo.V] at h
 | .cons x k n,(true,c)::cs,⟨⟨h1,_⟩,h2,h3⟩,hq=>by
   refine⟨.inl (by rw[h1];decide),eC h2 λsl hsl=>?_,eC h3 λsl hsl=>hq sl (Z0y _ hsl)⟩;rw[(Z3b.1 hsl).2];exact hq (true,c) (Z17 ..)
 | .cons x k n,(false,c)::cs,⟨⟨h1,_⟩,h2,h3⟩,hq=>by
   have hx:=Ap h1 (hq _ (Z17 ..));refine⟨hx,eC h2 λsl hsl=>?_,eC h3 λsl hsl=>hq sl (Z0y _ hsl)⟩;obtain⟨b,hb,rfl⟩:=Z1d.1 hsl;exact ug h1 hx b hb
structure Inf where
 sc:Pth
 path:By
 me:Int
 lo:Int
 pa:Int
def ini:Inf:=⟨⟨true,0,[]⟩,[],-1,-1,-1⟩
def bQ (op:Int):Bool:=decide (11<=op/\op<=15\/op=18\/op=20\/op=21)
def mK (x:Nd) (nm:Pth) (a:Inf):Inf:=if bQ x.op=true/\(aq a.sc nm).2=true then {a with path:=aI (aq a.sc nm).1} else a
def bc (x:Nd) (nm:Pth) (i:Nat) (a:Inf):Inf:=
 {sc:=if (x.op=10\/x.op=11\/x.op=12)/\(aq a.sc nm).2=true then (aq a.sc nm).1 else a.sc,path:=[],me:=if x.op=14 then (i:Int) else a.me,lo:=if x.op=14 then-1 else if x.op=32 then (i:Int) else a.lo,pa:=(i:Int)}
def bf:Fo->Nat->Nat->Inf->Inf
 | .nil,_,_,a=>a
 | .cons x k n,j,i,a=>if i=j then a else if i<j+1+k.size then bf k (j+1) i (bc x (ao k) j a) else bf n (j+1+k.size) i a
theorem bm:∀ {t:Fo} {j i:Nat},j<=i->i<j+t.size->i+1+(t.kid j i).size<=j+t.size
 | .nil,j,i,h1,h2=>by simp only[Fo.size] at h2;omega
 | .cons x k n,j,i,h1,h2=>by
   simp only[Fo.size] at h2 |-;unfold Fo.kid;split
   ·omega
   ·split
    ·have:=bm (t:=k) (j:=j+1) (i:=i) aa aa
     omega
    ·have:=bm (t:=n) (j:=j+1+k.size) (i:=i) aa aa
     omega
theorem cl {p:List Nd}:∀ {t:Fo} {j i m:Nat},t.At p j->j<=i->i<j+t.size->i<m->m<i+1+(t.kid j i).size->∀ a,
 t.kid j m=(t.kid j i).kid (i+1) m/\bf t j m a=bf (t.kid j i) (i+1) m (bc (p.getD i dN) (ao (t.kid j i)) i (bf t j i a))
 | .nil,j,i,m,_,h1,h2,_,_=>by simp only[Fo.size] at h2;omega
 | .cons x k n,j,i,m,ha,h1,h2,h3,h4=>by
   intro a;simp only[Fo.size] at h2;have hx:=At.get ha;by_cases e:i=j
   ·subst e
    have e1:(Fo.cons x k n).kid i i=k:=by simp[Fo.kid]
    have e2:bf (.cons x k n) i i a=a:=by simp[bf]
    rw[e1] at h4 |-;rw[e2,hx];have hm: ¬m=i:=aa;have hm2:m<i+1+k.size:=aa;simp only[Fo.kid,bf,if_neg hm,if_pos hm2];exact⟨trivial,trivial⟩
   ·rcases Z0a i (j+1+k.size) with h|h
    ·have e1:(Fo.cons x k n).kid j i=k.kid (j+1) i:=by simp only[Fo.kid,if_neg e,if_pos h]
     have e2:bf (.cons x k n) j i a=bf k (j+1) i (bc x (ao k) j a):=by simp only[bf,if_neg e,if_pos h]
     rw[e1] at h4 |-;rw[e2];have hs:=bm (t:=k) (j:=j+1) (i:=i) aa aa;have hm: ¬m=j:=aa;have hm2:m<j+1+k.size:=aa;have ih:=cl (t:=k) ha.2.2.1 aa aa h3 h4 (bc x (ao k) j a);simp only[Fo.kid,bf,if_neg hm,if_pos hm2];exact ih
    ·have h': ¬i<j+1+k.size:=aa
     have e1:(Fo.cons x k n).kid j i=n.kid (j+1+k.size) i:=by simp only[Fo.kid,if_neg e,if_neg h']
     have e2:bf (.cons x k n) j i a=bf n (j+1+k.size) i a:=by simp only[bf,if_neg e,if_neg h']
     rw[e1] at h4 |-;rw[e2];have hm: ¬m=j:=aa;have hm2: ¬m<j+1+k.size:=aa;have ih:=cl (t:=n) ha.2.2.2 h aa h3 h4 a;simp only[Fo.kid,bf,if_neg hm,if_neg hm2];exact ih
theorem bD:∀ {t:Fo} {j i:Nat},i∈t.starts j->j<=i/\i<j+t.size
 | .nil,j,i,h=>by simp[Fo.starts] at h
 | .cons x k n,j,i,h=>by
   simp only[Fo.starts,Z0h] at h;simp only[Fo.size]
   rcases h with rfl|h
   ·omega
   ·have:=bD h;omega
theorem fu:∀ {t:Fo} {j i:Nat} {a:Inf},i∈t.starts j->bf t j i a=a
 | .nil,j,i,a,h=>by simp[Fo.starts] at h
 | .cons x k n,j,i,a,h=>by
   simp only[Fo.starts,Z0h] at h;unfold bf;by_cases e:i=j
   ·rw[if_pos e]
   ·rw[if_neg e]
    have h:=h.resolve_left e;have:=bD h;rw[if_neg aa];exact fu h
theorem wU {p:List Nd}:∀ {t:Fo} {j i:Nat} {a:Inf},t.At p j->t.all quiet->j<=i->i<j+t.size->(bf t j i a).me=a.me
 | .nil,j,i,a,_,_,h1,h2=>by simp only[Fo.size] at h2;omega
 | .cons x k n,j,i,a,ha,⟨q1,q2,q3⟩,h1,h2=>by
   simp only[Fo.size] at h2;unfold bf;split
   ·rfl
   ·split
    ·rw[wU ha.2.2.1 q2 aa aa]
     unfold bc;simp only;rw[if_neg];unfold quiet at q1;omega
    ·exact wU ha.2.2.2 q3 aa aa
abbrev aC (t:Fo) (i:Nat):Inf:=bf t 0 i ini
theorem bL {p:List Nd} {t:Fo} {cs:List (Bool×Int)} (ha:t.At p 0) (hv:t.V cs) {i:Nat} (hi:i<t.size) (hop:(p.getD i dN).op≠4):
 (Fo.cons (p.getD i dN) (t.kid 0 i) .nil).At p i/\(t.kid 0 i).At p (i+1)/\(t.kid 0 i).V (dd (av (p.getD i dN).op (p.getD i dN).kids).1)/\(av (p.getD i dN).op (p.getD i dN).kids).2=true/\∃ c,bn c (p.getD i dN).op=true:=by
 obtain⟨⟨b,c⟩,h1,h2⟩:=cC ha hv (Z08 i) aa;cases b
 ·exact⟨h1,h1.2.2.1,h2.2.1,h2.1.2.2,c,h2.1.1⟩
 ·exact absurd h2.1.1 hop
theorem uh {ks:By} (h:cE op=((cE op).1,ks)) (h5:op≠5) (h33:op≠33) (h31:op≠31) (kids:Int):(av op kids).1=ks:=by
 unfold av;rw[if_neg h5,if_neg h33,if_neg (λe=>h31 e.1),h]
theorem fK (kids:Int):(av 14 kids).1=[115,105,105,105,83]:=uh (by decide+kernel) ac ac ac kids
theorem uj (kids:Int):(av 16 kids).1=[110,105,105,70]:=uh (by decide+kernel) ac ac ac kids
theorem eu {c':Int}:∀ (ls:List Int) (t:Fo),(ls.all d8)=true->t.V (ls.map (λc=>(false,c))++[(true,c')])->t.size=ls.length+1+(ak t).size/\∀ (i:Nat),(i+ls.length)∈t.starts i/\t.kid i (i+ls.length)=ak t
 |[],t,_,h=>by
  obtain⟨y,bl,n,rfl,h1,h2,h3⟩:=iZ h;have:=gS h1;subst this;refine⟨by simp only[Fo.size,Z0e,ak];omega,λi=>⟨by simp[Fo.starts],by simp[Fo.kid,ak]⟩⟩
 |c::ls,t,hl,h=>by
  simp only[Z1b,Z07] at hl;obtain⟨y,n,rfl,h1,h2⟩:=d6 hl.1 h;obtain⟨g3,g1⟩:=eu ls n hl.2 h1
  have hn:ak (.cons y .nil n)=ak n:=by
   cases n with
   |nil=>simp only[Fo.size] at g3;omega
   |cons a b c=>rfl
  rw[hn];refine⟨by simp only[Fo.size,Z04];omega,λi=>?_⟩;obtain⟨k1,k2⟩:=g1 (i+1)
  have e:i+(c::ls).length=i+1+ls.length:=by simp only[Z04];omega
  rw[e];refine⟨?_,?_⟩
  ·simp only[Fo.starts,Fo.size,Z0h,Z0p]
   exact .inr k1
  ·unfold Fo.kid
   rw[if_neg aa,if_neg (by show ¬i+1+ls.length<i+1+0;omega)];exact k2
end
section
variable {i j:Nat}
theorem wT:∀ {t:Fo} {j i:Nat} {a:Inf},j<=i->i<j+t.size->i∈t.starts j\/∃ m:Nat,j<=m/\m<i/\(bf t j i a).pa=(m:Int)/\i∈(t.kid j m).starts (m+1)
 | .nil,j,i,a,h1,h2=>by simp only[Fo.size] at h2;omega
 | .cons x k n,j,i,a,h1,h2=>by
   simp only[Fo.size] at h2;simp only[Fo.starts,Z0h];by_cases e:i=j
   ·exact .inl (.inl e)
   ·rcases Z0a i (j+1+k.size) with h|h
    ·refine .inr ?_
     have e2:bf (.cons x k n) j i a=bf k (j+1) i (bc x (ao k) j a):=by simp only[bf,if_neg e,if_pos h]
     rcases wT (t:=k) (j:=j+1) (i:=i) (a:=bc x (ao k) j a) aa aa with hs|⟨m,m1,m2,m3,m4⟩
     ·refine⟨j,Z02 _,aa,?_,?_⟩
      ·rw[e2,fu hs];rfl
      ·simp only[Fo.kid,if_true];exact hs
     ·refine⟨m,aa,m2,by rw[e2];exact m3,?_⟩
      simp only[Fo.kid,if_neg (show ¬m=j by omega),if_pos (show m<j+1+k.size by omega)];exact m4
    ·have h': ¬i<j+1+k.size:=aa
     have e2:bf (.cons x k n) j i a=bf n (j+1+k.size) i a:=by simp only[bf,if_neg e,if_neg h']
     rcases wT (t:=n) (j:=j+1+k.size) (i:=i) (a:=a) aa aa with hs|⟨m,m1,m2,m3,m4⟩
     ·exact .inl (.inr hs)
     ·refine .inr ⟨m,aa,m2,by rw[e2];exact m3,?_⟩
      simp only[Fo.kid,if_neg (show ¬m=j by omega),if_neg (show ¬m<j+1+k.size by omega)];exact m4
section
variable {p:List Nd} {t:Fo}
theorem eB (ha:t.At p 0) (hi:i<t.size) (h:j∈(t.kid 0 i).starts (i+1)):i<j/\j<t.size/\aC t j=bc (p.getD i dN) (ao (t.kid 0 i)) i (aC t i):=by
 have hr:=bD h;have hs:=bm (t:=t) (j:=0) (i:=i) (Z08 _) aa;refine⟨aa,aa,?_⟩;show bf t 0 j ini=_;rw[(cl ha (Z08 i) aa aa aa ini).2,fu h]
theorem er (ha:t.At p 0) (hj:j<t.size):(j∈t.starts 0/\aC t j=ini)\/∃ m,m<j/\(aC t j).pa=(m:Int)/\j∈(t.kid 0 m).starts (m+1):=by
 rcases wT (t:=t) (j:=0) (i:=j) (a:=ini) (Z08 _) aa with h|⟨m,_,h2,h3,h4⟩
 ·exact .inl ⟨h,fu h⟩
 ·exact .inr ⟨m,h2,h3,h4⟩
theorem oY (ha:t.At p 0) (hi:i<t.size) (hj:j<t.size):(aC t j).pa=(i:Int)↔j∈(t.kid 0 i).starts (i+1):=by
 refine⟨λh=>?_,λh=>?_⟩
 ·rcases er ha hj with ⟨_,h2⟩|⟨m,_,h3,h4⟩
  ·rw[h2] at h;exact absurd h (by show ¬(-1:Int)=_;omega)
  ·rw[h3] at h
   have:m=i:=aa;subst this;exact h4
 ·rw[(eB ha hi h).2.2];rfl
theorem Ad (ha:t.At p 0) (hj:j<t.size):(aC t j).pa<(j:Int):=by
 rcases er ha hj with ⟨_,h2⟩|⟨m,h2,h3,_⟩
 ·rw[h2];show (-1:Int)<_;omega
 ·omega
theorem u_ (ha:t.At p 0) (hj:j<t.size):(aC t j).path=[]:=by
 rcases er ha hj with ⟨_,h2⟩|⟨m,h2,h3,h4⟩
 ·rw[h2];rfl
 ·rw[(eB ha aa h4).2.2];rfl
def jL (p:List Nd) (t:Fo) (i:Nat):Inf:=mK (p.getD i dN) (ao (t.kid 0 i)) (aC t i)
def mq (p:List Nd) (t:Fo) (i j:Nat):Inf:=if j<i then jL p t j else if (aC t j).pa<(i:Int) then aC t j else ini
def iN (p:List Nd) (t:Fo) (i:Nat):List Inf:=(List.range t.size).map (mq p t i)
def be (p:List Nd) (t:Fo):List Inf:=(List.range t.size).map (jL p t)
def jw (T:List Inf) (ks:List Nat) (x:Inf):List Inf:=ks.foldl (λT k=>T.set k x) T
theorem tm (x:Inf):∀ (ks:List Nat) (T:List Inf),(jw T ks x).length=T.length
 |[],_=>rfl
 |k::ks,T=>by show (jw (T.set k x) ks x).length=_;rw[tm x ks];simp
theorem tp (x:Inf):∀ (ks:List Nat) (T:List Inf) (j:Nat),(jw T ks x)[j]? =if j∈ks/\j<T.length then some x else T[j]?
 |[],T,j=>by simp[jw]
 |k::ks,T,j=>by
  show (jw (T.set k x) ks x)[j]? =_;rw[tp x ks,Z18,Z1i];by_cases h1:j∈ks/\j<T.length
  ·rw[if_pos h1,if_pos ⟨Z0y _ h1.1,h1.2⟩]
  ·rw[if_neg h1]
   by_cases h2:k=j
   ·subst h2
    by_cases h3:k<T.length
    ·rw[if_pos rfl,if_pos h3,if_pos ⟨Z17 ..,h3⟩]
    ·rw[if_pos rfl,if_neg h3,if_neg (λh=>h3 h.2),Z0b aa]
   ·rw[if_neg h2,if_neg]
    rintro⟨h3,h4⟩
    rcases Z0h.1 h3 with h3|h3
    ·exact h2 h3.symm
    ·exact h1 ⟨h3,h4⟩
theorem eN (i:Nat):(iN p t i).length=t.size:=by simp[iN]
theorem iM (hj:j<t.size):(iN p t i)[j]? =some (mq p t i j):=by
 unfold iN;rw[Z0t,Z26 hj];rfl
theorem qh (ha:t.At p 0):iN p t 0=List.replicate t.size ini:=by
 refine Z2i λj=>?_
 rcases Z0a j t.size with h|h
 ·rw[iM h,Z43,if_pos h]
  unfold mq;rw[if_neg (Z1m _)]
  rcases er ha h with ⟨_,h2⟩|⟨m,_,h3,_⟩
  ·rw[h2];split<;>rfl
  ·rw[h3,if_neg aa]
 ·rw[Z0b (by rw[eN];exact h),Z0b (by simpa using h)]
theorem uD:iN p t t.size=be p t:=by
 refine Z2i λj=>?_
 rcases Z0a j t.size with h|h
 ·rw[iM h]
  unfold be;rw[Z0t,Z26 h];unfold mq;rw[if_pos h];rfl
 ·rw[Z0b (by rw[eN];exact h),Z0b (by simpa [be] using h)]
theorem rR (ha:t.At p 0) (hi:i<t.size):(iN p t i)[i]? =some (aC t i):=by
 rw[iM hi];unfold mq;rw[if_neg (Z40 _),if_pos (Ad ha hi)]
theorem qi (ha:t.At p 0) (hi:i<t.size):jw ((iN p t i).set i (jL p t i)) ((t.kid 0 i).starts (i+1)) (bc (p.getD i dN) (ao (t.kid 0 i)) i (aC t i))=iN p t (i+1):=by
 refine Z2i λj=>?_
 rw[tp,Z18,eN,Z1i,eN]
 rcases Z0a j t.size with h|h
 ·rw[iM h,iM h]
  by_cases hk:j∈(t.kid 0 i).starts (i+1)
  ·obtain⟨k1,_,k2⟩:=eB ha hi hk
   rw[if_pos ⟨hk,h⟩];have hp:=(oY ha hi h).2 hk;unfold mq;rw[if_neg aa,if_pos aa,k2]
  ·rw[if_neg (λq=>hk q.1)]
   by_cases e:i=j
   ·subst e
    rw[if_pos rfl,if_pos h];unfold mq;rw[if_pos (Z1t _)]
   ·rw[if_neg e]
    have hne: ¬(aC t j).pa=(i:Int):=λq=>hk ((oY ha hi h).1 q)
    unfold mq;by_cases h1:j<i
    ·rw[if_pos h1,if_pos aa]
    ·rw[if_neg h1,if_neg (show ¬j<i+1 by omega)]
     by_cases h2:(aC t j).pa<(i:Int)
     ·rw[if_pos h2,if_pos (show (aC t j).pa<((i+1:Nat):Int) by omega)]
     ·rw[if_neg h2,if_neg (show ¬(aC t j).pa<((i+1:Nat):Int) by omega)]
 ·rw[if_neg (λq=>by omega),if_neg aa,Z0b (by rw[eN];exact h),Z0b (by rw[eN];exact h)]
theorem uE (hi:i<t.size):(be p t)[i]? =some (jL p t i):=by
 unfold be;rw[Z0t,Z26 hi];rfl
end
end
set_option maxHeartbeats 40000000
section
variable {i:Nat}
section
variable {α:Type} {g:α->List S} {w:Nat}
theorem jD (hw:∀ a,(g a).length=w):∀ T:List α,(T.flatMap g).length=T.length*w
 |[]=>by simp
 |a::T=>by rw[Z0g,Z03,jD hw T,hw];simp only[Z04];rw[Z2q,Nat.one_mul];omega
theorem kh (hw:∀ a,(g a).length=w) {q d:α} {vs:List S} {j:Nat} (hj:j+vs.length<=w):∀ {T:List α} {i:Nat},i<T.length->g q=bR (g (T.getD i d)) j vs->bR (T.flatMap g) (i*w+j) vs=(T.set i q).flatMap g
 |[],i,h,_=>by simp at h
 |a::T,0,_,h=>by
  simp only[Z0g,Z3k,Z24,Z0c];rw[iB vs (g a) _ j (by rw[hw];exact hj),h];rfl
 |a::T,i+1,hi,h=>by
  simp only[Z0g,Z2j];have ih:=kh hw hj (T:=T) (i:=i) (by simpa using hi) h
  have e:(i+1)*w+j=(i*w+j)+w:=by rw[Z2q];omega
  rw[e,kj vs (g a) _ _ w (hw a),ih]
theorem kq (hw:∀ a,(g a).length=w) {q:α} {T:List α} (hi:i<T.length):bR (T.flatMap g) (i*w) (g q)=(T.set i q).flatMap g:=by
 have key:∀ (vs:List S) (a:List S),a.length=vs.length->bR a 0 vs=vs:=by
  intro vs a h;have:=ko vs [] a aa;simp only[Z1e,Z0e] at this;rw[this,Z10 aa,Z0u]
 have:=kh hw (q:=q) (d:=q) (vs:=g q) (j:=0) (by rw[hw];omega) hi (by rw[key _ _ (by rw[hw,hw])])
 rwa [Z0p] at this
theorem qr (hw:∀ a,(g a).length=w) (d:α):∀ {T:List α} {i:Nat} (j:Nat),i<T.length->j<=w->(T.flatMap g).drop (i*w+j)=(g (T.getD i d)).drop j++(T.drop (i+1)).flatMap g
 |[],i,j,h,_=>by simp at h
 |a::T,0,j,_,hj=>by
  simp only[Z0g,Z24,Z0c,Z59,Z3f];rw[Z54 (by rw[hw];exact hj)];rfl
 |a::T,i+1,j,hi,hj=>by
  simp only[Z0g,Z59]
  have e:(i+1)*w+j=(g a).length+(i*w+j):=by rw[Z2q,hw];omega
  rw[e,List.drop_length_add_append,qr hw d j (by simpa using hi) hj];rfl
theorem kM (hw:∀ a,(g a).length=w) {T:List α} {bl:Bl} (hb:bl.cells=T.flatMap g) (hk:bl.kind=none) (d:α) {j m:Nat} (hi:i<T.length) (hj:j+m<=w):ef true m bl (i*w+j)=some (.agg (((g (T.getD i d)).drop j).take m)):=by
 unfold ef;rw[hk,hb];have h1:(i+1)*w<=T.length*w:=Z1w _ hi;rw[Z2q] at h1;have hle:Nat.ble (i*w+j+m) (T.flatMap g).length=true:=Z3y (by rw[jD hw];omega);simp only[hle];rw[qr hw d j hi aa,Z3o (by rw[Z1u,hw];omega)]
theorem Bv {zs:List S} {a:α} (hz:zs.length=w) (h:All2 SLe zs (g a)) (n:Nat):All2 SLe (rep n zs) ((List.replicate n a).flatMap g):=by
 have hl:(g a).length=w:=by have:=h.len;omega
 refine All2.of_get ?_ λi x y hx hy=>?_
 ·rw[ec,hz]
  clear hz h
  induction n with
  |zero=>simp
  |succ n ih=>rw[Z16,Z0g,Z03,hl,Z2q];omega
 ·have hi:i<n*zs.length:=by
   rcases Z0a i (rep n zs).length with h|h
   ·rwa [ec] at h
   ·rw[Z0b h] at hx;cases hx
  rw[re _ _ _ hi,hz] at hx
  have hw0:0<w:=by
   rcases Z21 w with h|h
   ·rw[hz,h] at hi;omega
   ·exact h
  have key:∀ (n i:Nat),((List.replicate n a).flatMap g)[i]? =if i<n*w then (g a)[i%w]? else none:=by
   intro n
   induction n with
   |zero=>intro i;simp
   |succ n ih=>
    intro i;rw[Z16,Z0g]
    rcases Z0a i w with h|h
    ·rw[Z0x (by rw[hl];exact h),if_pos (by rw[Z2q];omega),Nat.mod_eq_of_lt h]
    ·rw[Z1f (by rw[hl];exact h),hl,ih,Nat.mod_eq_sub_mod h]
     have e:i-w<n*w↔i<(n+1)*w:=by rw[Z2q];omega
     simp only[e]
  rw[key,if_pos (by rw[<-hz];exact hi)] at hy;exact gk h hx hy
end
def infC (x:Inf):List S:=[.bool x.sc.root,.int .i64 x.sc.up,aE x.sc.segs,.str x.path,.int .i64 x.me,.int .i64 x.lo,.int .i64 x.pa]
abbrev lL (L:List Inf):V:=.s (.frz (λk=>infC (L.getD k ini)) 7 L.length)
theorem dD (x:Inf):(infC x).length=7:=rfl
abbrev rS (T:List Inf):Bl:={cells:=T.flatMap infC,ty:=117,sym:=true,flat:=true}
theorem zO {x:Inf} {j:Nat} {s:S} (h:(infC x)[j]? =some s):bE s=true:=by
 rcases j with _|_|_|_|_|_|_|j
 ·cases h;rfl
 ·cases h;rfl
 ·cases h;rfl
 ·cases h;rfl
 ·cases h;rfl
 ·cases h;rfl
 ·cases h;rfl
 ·simp[infC] at h
theorem yx (op:Int):FC Tryz.prog 106 [nI op] 0 [] (bV (bQ op)) 0 []:=by
 refine wW Tryz.func106 ?_
 repeat'(first|exact y0|refine y1 ?_|refine y2 ?_ ?_|refine y4 λh=>?_|refine Fin.bool (.inl rfl) rfl ?_|refine y3 ?_|exact y5|fail)
 all_goals (unfold bQ;first|(rw[decide_eq_true aa];done)|(rw[decide_eq_false aa];done)|(simp;omega))
section
variable {p:List Nd} {t:Fo} {cs:List (Bool×Int)}
theorem xW (ha:t.At p 0) (hv:t.V cs) (hi:i<t.size) (hop:(p.getD i dN).op=10\/bQ (p.getD i dN).op=true):
 i+1<p.length/\ao (t.kid 0 i)=(ah (p.getD (i+1) dN).str).1/\∃ l,(t.kid 0 i).starts (i+1)=(i+1)::l:=by
 unfold bQ at hop;simp only[decide_eq_true_eq] at hop;obtain⟨h0,h1,h2,_⟩:=bL ha hv hi aa
 have key:∃ sl r,dd (av (p.getD i dN).op (p.getD i dN).kids).1=sl::r:=by
  have:(p.getD i dN).op=10\/(p.getD i dN).op=11\/(p.getD i dN).op=12\/(p.getD i dN).op=13\/(p.getD i dN).op=14\/(p.getD i dN).op=15\/(p.getD i dN).op=18\/(p.getD i dN).op=20\/(p.getD i dN).op=21:=aa
  rcases this with e|e|e|e|e|e|e|e|e<;>rw[e]<;>exact⟨_,_,rfl⟩
 obtain⟨sl,r,e⟩:=key;rw[e] at h2;generalize t.kid 0 i=k at*;obtain⟨y,ky,n',rfl,_⟩:=sS h2;exact⟨At.lt h1,by rw[At.get h1];rfl,_,rfl⟩
theorem eh (hp:p.length<=2048) (ha:t.At p 0) (hv:t.V cs) (hs:t.size=p.length) (hi:i<t.size):FC Tryz.prog 105 [al p,nI i] 0 [] (.s (d9 ((t.kid 0 i).starts (i+1)))) 0 []:=by
 obtain⟨sl,h1,h2⟩:=cC ha hv (Z08 i) (aa:i<0+t.size);have h3:=bm (t:=t) (Z08 i) aa;have h4:=Fo.cnt_le (t.kid 0 i);refine Fi p hp i _ aa _ ?_ (At.chain h1.2.2.1) ?_
 ·rw[bp];exact h1.2.1
 ·rw[bp];omega
theorem xg {b r:Pth} (h:(aq b r).2=true):bz (aq b r).1=true:=by
 unfold aq at h |-;split
 ·simp_all
 ·rename_i h1
  have hb:bz b=true:=by cases hq:bz b<;>simp_all
  have hr:ay r=true:=by cases hq:ay r<;>simp_all
  obtain⟨b1,b2,b3⟩:=cH hb;obtain⟨r1,r2,r3,r4,r5,r6⟩:=aJ hr;split
  ·rename_i hroot
   have:=r4 hroot;unfold bz ay;simp only[Z1r,Z07,decide_eq_true_eq,Z1h,Z0v,Bool.and_eq_false_imp];simp;exact⟨aa,by simpa using r5⟩
  ·split
   ·simp_all
   ·rename_i h2 h3
    have hv:=hb;unfold bz at hv;simp only[Z07] at hv;obtain⟨_,_,_,_,b5,_⟩:=aJ hv.2
    have:(b.segs.take ((b.segs.length:Int)-r.up).toNat++r.segs).all aT=true:=by
     rw[Z1g,r5,Z3m]
     exact Z0i.2 λx hx=>Z0i.1 b5 x (Z2x hx)
    unfold bz ay;simp only[Z1r,this];simp;omega
theorem tw {q:Pth} (h:ay q=true):cR q.segs:=λi hi=>by
 have h5:=(aJ h).2.2.2.2.1;have:=ek (Z0i.1 h5 (q.segs.getD i []) (by rw[Z00,Z01 hi];exact Z0s _));omega
theorem dr {q:Pth} (h:bz q=true):cR q.segs:=tw (by unfold bz at h;simp only[Z07] at h;exact h.2)
theorem de (s:By):cR (ah s).1.segs:=by
 cases h:(ah s).2 with
 |true=>exact tw (iH (p:=(ah s).1) (by rw[<-h]))
 |false=>
  have hf:∀ q:Pth,(eQ q).2=false->(eQ q).1=z0:=λq h=>by
   unfold eQ at h |-;split
   ·rename_i hh;rw[if_pos hh] at h;cases h
   ·rfl
  have ht:∀ (r:Bool) (u:Nat) (l:By),(dJ r u l).2=false->(dJ r u l).1=z0:=λr u l h=>by
   unfold dJ at h |-;split
   ·rename_i hh;rw[if_pos hh] at h;exact hf _ h
   ·rename_i hh
    rw[if_neg hh] at h;split
    ·rfl
    ·rename_i h2;rw[if_neg h2] at h;exact hf _ h
  have:(ah s).1=z0:=by
   unfold ah at h |-;split
   ·rename_i hh;rw[if_pos hh] at h;exact ht _ _ _ h
   ·rename_i hh;rw[if_neg hh] at h;exact ht _ _ _ h
  rw[this];exact λi hi=>by simp[z0] at hi
theorem absI:bz (⟨true,0,[]⟩:Pth)=true:=ac
theorem F8 {x:Nd} {nm:Pth} {a:Inf} (h:bz a.sc=true):bz (bc x nm i a).sc=true:=by
 unfold bc;simp only;split
 ·rename_i hh;exact xg hh.2
 ·exact h
theorem sk:∀ {t:Fo} {j i:Nat} {a:Inf},bz a.sc=true->bz (bf t j i a).sc=true
 | .nil,_,_,_,h=>h
 | .cons x k n,j,i,a,h=>by
   unfold bf;split
   ·exact h
   ·split
    ·exact sk (F8 h)
    ·exact sk h
theorem gO (t:Fo) (i:Nat):bz (aC t i).sc=true:=sk (a:=ini) absI
end
end
end Go.Proofs.YtegjgpldfgjoiaaGreatDoor
