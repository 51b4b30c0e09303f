import Derived.Test.YtegjgpldfgjoiaaGreatDoorCnJ28
import Derived.Test.YtegjgpldfgjoiaaGreatDoorCnJ29
import Derived.Test.YtegjgpldfgjoiaaGreatDoorCnJ23
set_option linter.all false
set_option maxHeartbeats 40000000
set_option maxRecDepth 100000
namespace Go.Proofs.YtegjgpldfgjoiaaGreatDoor
open Go Ab
section
variable {op:Int}
def Fo.all (P:Nd->Prop):Fo->Prop
 | .nil=>True
 | .cons x k n=>P x/\k.all P/\n.all P
theorem Fo.all_mono {P Q:Nd->Prop} (h:∀ x,P x->Q x):∀ {t:Fo},t.all P->t.all Q
 | .nil,_=>trivial
 | .cons x k n,⟨h1,h2,h3⟩=>⟨h x h1,Fo.all_mono h h2,Fo.all_mono h h3⟩
theorem Fo.all_at {P:Nd->Prop} {p:List Nd}:∀ {t:Fo} {j i:Nat},t.At p j->t.all P->j<=i->i<j+t.size->P (p.getD i dN)
 | .nil,j,i,_,_,h1,h2=>by simp only[Fo.size] at h2;omega
 | .cons x k n,j,i,ha,⟨p1,p2,p3⟩,h1,h2=>by
   simp only[Fo.size] at h2;by_cases e:i=j
   ·subst e;rw[At.get ha];exact p1
   ·rcases Z0a i (j+1+k.size) with h|h
    ·exact Fo.all_at ha.2.2.1 p2 aa h
    ·exact Fo.all_at ha.2.2.2 p3 h aa
def quiet (x:Nd):Prop:=x.op<10\/21<x.op
def qK (c:Int):Bool:=decide (c≠68)&&decide (c≠70)
theorem Cu {c:Int} (h:bH c op=true) (hc:qK c=true):op<10\/21<op:=by
 unfold qK at hc;simp only[Z07,decide_eq_true_eq] at hc;unfold bH at h;split at h
 ·grind
 split at h
 ·grind
 split at h
 ·simp[gK,cJ] at h;omega
 split at h
 all_goals grind [cJ]
theorem yG:∀ op∈opsL,21<op->((cQ op).2.all λc=>qK (c.toNat:Int))=true:=by decide+kernel
theorem vZ {c kids:Int} (h:bH c op=true) (hq:op<10\/21<op):∀ b∈(av op kids).1,qK (b.toNat:Int)=true:=by
 have he7:∀ n:Nat,∀ b∈e7.take n,qK (b.toNat:Int)=true:=λn b hb=>by
  have:=Z2x hb;unfold e7 at this;simp at this;subst this;rfl
 unfold av;split
 ·grind
 ·split
  ·grind
  ·split
   ·intro b hb;simp at hb;rcases hb with rfl|rfl<;>rfl
   ·rename_i h5 h33 h31
    rcases pc h with h'|h'
    ·have hgt:21<op:=by
      rcases hq with hq|hq
      ·have:∀ o∈opsL,10<=o:=ac
       grind
      ·exact hq
     exact λb hb=>Z0i.1 (yG op h' hgt) b hb
    ·rcases h' with rfl|rfl|rfl|rfl|rfl|rfl
     all_goals
      first
       |exact absurd rfl h5
       |(rw[show (cQ _).2=[] by decide+kernel];intro b hb;simp at hb)
theorem fj:∀ {t:Fo} {cs:List (Bool×Int)},t.V cs->(∀ sl∈cs,qK sl.2=true)->t.all quiet
 | .nil,_,_,_=>trivial
 | .cons x k n,[],h,_=>by simp[Fo.V] at h
 | .cons x k n,(true,c)::cs,⟨⟨h1,_⟩,h2,h3⟩,hq=>by
   refine⟨.inl ae,fj h2 λsl hsl=>?_,fj h3 λsl hsl=>hq sl (Z0y _ hsl)⟩;rw[(Z3b.1 hsl).2];exact hq (true,c) (Z17 ..)
 | .cons x k n,(false,c)::cs,⟨⟨h1,_⟩,h2,h3⟩,hq=>by
   have hx:=Cu h1 (hq _ (Z17 ..));refine⟨hx,fj h2 λsl hsl=>?_,fj h3 λsl hsl=>hq sl (Z0y _ hsl)⟩;obtain⟨b,hb,rfl⟩:=Z1d.1 hsl;exact vZ h1 hx b hb
structure Inf where
 sc:Pth
 path:By
 me:Int
 lo:Int
 pa:Int
def ini:Inf:=⟨⟨true,0,[]⟩,[],-1,-1,-1⟩
def ca (op:Int):Bool:=decide (11<=op/\op<=15\/op=18\/op=20\/op=21)
def ot (x:Nd) (nm:Pth) (a:Inf):Inf:=if ca x.op=true/\(ax a.sc nm).2=true then {a with path:=aM (ax a.sc nm).1} else a
def bq (x:Nd) (nm:Pth) (i:Nat) (a:Inf):Inf:=
 {sc:=if (x.op=10\/x.op=11\/x.op=12)/\(ax a.sc nm).2=true then (ax a.sc nm).1 else a.sc,path:=[],me:=if x.op=14 then (i:Int) else a.me,lo:=if x.op=14 then-1 else if x.op=32 then (i:Int) else a.lo,pa:=(i:Int)}
def bF:Fo->Nat->Nat->Inf->Inf
 | .nil,_,_,a=>a
 | .cons x k n,j,i,a=>if i=j then a else if i<j+1+k.size then bF k (j+1) i (bq x (aw k) j a) else bF n (j+1+k.size) i a
theorem bv:∀ {t:Fo} {j i:Nat},j<=i->i<j+t.size->i+1+(t.kid j i).size<=j+t.size
 | .nil,j,i,h1,h2=>by simp only[Fo.size] at h2;omega
 | .cons x k n,j,i,h1,h2=>by
   simp only[Fo.size] at h2 |-;unfold Fo.kid;split
   ·omega
   ·split
    ·have:=bv (t:=k) (j:=j+1) (i:=i) aa aa
     omega
    ·have:=bv (t:=n) (j:=j+1+k.size) (i:=i) aa aa
     omega
theorem ct {p:List Nd}:∀ {t:Fo} {j i m:Nat},t.At p j->j<=i->i<j+t.size->i<m->m<i+1+(t.kid j i).size->∀ a,
 t.kid j m=(t.kid j i).kid (i+1) m/\bF t j m a=bF (t.kid j i) (i+1) m (bq (p.getD i dN) (aw (t.kid j i)) i (bF t j i a))
 | .nil,j,i,m,_,h1,h2,_,_=>by simp only[Fo.size] at h2;omega
 | .cons x k n,j,i,m,ha,h1,h2,h3,h4=>by
   intro a;simp only[Fo.size] at h2;have hx:=At.get ha;by_cases e:i=j
   ·grind [Fo.kid,bF]
   ·rcases Z0a i (j+1+k.size) with h|h
    ·have e1:(Fo.cons x k n).kid j i=k.kid (j+1) i:=by simp only[Fo.kid,if_neg e,if_pos h]
     have e2:bF (.cons x k n) j i a=bF k (j+1) i (bq x (aw k) j a):=by simp only[bF,if_neg e,if_pos h]
     rw[e1] at h4 |-;rw[e2];have hs:=bv (t:=k) (j:=j+1) (i:=i) aa aa;have hm: ¬m=j:=aa;have hm2:m<j+1+k.size:=aa;have ih:=ct (t:=k) ha.2.2.1 aa aa h3 h4 (bq x (aw k) j a)
     grind [Fo.kid,bF]
    ·have h': ¬i<j+1+k.size:=aa
     have e1:(Fo.cons x k n).kid j i=n.kid (j+1+k.size) i:=by simp only[Fo.kid,if_neg e,if_neg h']
     have e2:bF (.cons x k n) j i a=bF n (j+1+k.size) i a:=by simp only[bF,if_neg e,if_neg h']
     rw[e1] at h4 |-;rw[e2];have hm: ¬m=j:=aa;have hm2: ¬m<j+1+k.size:=aa;have ih:=ct (t:=n) ha.2.2.2 h aa h3 h4 a
     grind [Fo.kid,bF]
theorem bC:∀ {t:Fo} {j i:Nat},i∈t.starts j->j<=i/\i<j+t.size
 | .nil,j,i,h=>by simp[Fo.starts] at h
 | .cons x k n,j,i,h=>by
   simp only[Fo.starts,Z0h] at h;simp only[Fo.size]
   rcases h with rfl|h
   ·omega
   ·have:=bC h;omega
theorem fV:∀ {t:Fo} {j i:Nat} {a:Inf},i∈t.starts j->bF t j i a=a
 | .nil,j,i,a,h=>by simp[Fo.starts] at h
 | .cons x k n,j,i,a,h=>by
   simp only[Fo.starts,Z0h] at h;unfold bF;by_cases e:i=j
   ·rw[if_pos e]
   ·rw[if_neg e]
    have h:=h.resolve_left e;have:=bC h;rw[if_neg aa];exact fV h
theorem yY {p:List Nd}:∀ {t:Fo} {j i:Nat} {a:Inf},t.At p j->t.all quiet->j<=i->i<j+t.size->(bF t j i a).me=a.me
 | .nil,j,i,a,_,_,h1,h2=>by simp only[Fo.size] at h2;omega
 | .cons x k n,j,i,a,ha,⟨q1,q2,q3⟩,h1,h2=>by
   simp only[Fo.size] at h2;unfold bF;split
   ·rfl
   ·split
    ·rw[yY ha.2.2.1 q2 aa aa]
     grind [bq,quiet]
    ·exact yY ha.2.2.2 q3 aa aa
abbrev aF (t:Fo) (i:Nat):Inf:=bF t 0 i ini
theorem bT {p:List Nd} {t:Fo} {cs:List (Bool×Int)} (ha:t.At p 0) (hv:t.V cs) {i:Nat} (hi:i<t.size) (hop:(p.getD i dN).op≠4):
 (Fo.cons (p.getD i dN) (t.kid 0 i) .nil).At p i/\(t.kid 0 i).At p (i+1)/\(t.kid 0 i).V (dB (av (p.getD i dN).op (p.getD i dN).kids).1)/\(av (p.getD i dN).op (p.getD i dN).kids).2=true/\∃ c,bH c (p.getD i dN).op=true:=by
 obtain⟨⟨b,c⟩,h1,h2⟩:=cM ha hv (Z08 i) aa;cases b
 ·exact⟨h1,h1.2.2.1,h2.2.1,h2.1.2.2,c,h2.1.1⟩
 ·exact absurd h2.1.1 hop
theorem v7 {ks:By} (h:cQ op=((cQ op).1,ks)) (h5:op≠5) (h33:op≠33) (h31:op≠31) (kids:Int):(av op kids).1=ks:=by
 grind [av]
theorem gt (kids:Int):(av 14 kids).1=[115,105,105,105,83]:=v7 (by decide+kernel) ac ac ac kids
theorem v_ (kids:Int):(av 16 kids).1=[110,105,105,70]:=v7 (by decide+kernel) ac ac ac kids
theorem fa {c':Int}:∀ (ls:List Int) (t:Fo),(ls.all eI)=true->t.V (ls.map (λc=>(false,c))++[(true,c')])->t.size=ls.length+1+(am t).size/\∀ (i:Nat),(i+ls.length)∈t.starts i/\t.kid i (i+ls.length)=am t
 |[],t,_,h=>by
  grind [Fo.size,am,Fo.starts,Fo.kid,jY,iE]
 |c::ls,t,hl,h=>by
  simp only[Z1b,Z07] at hl;obtain⟨y,n,rfl,h1,h2⟩:=eN hl.1 h;obtain⟨g3,g1⟩:=fa ls n hl.2 h1
  have hn:am (.cons y .nil n)=am n:=by
   cases n with
   |nil=>simp only[Fo.size] at g3;omega
   |cons a b c=>rfl
  rw[hn];refine⟨by simp only[Fo.size,Z04];omega,λi=>?_⟩;obtain⟨k1,k2⟩:=g1 (i+1)
  grind [Fo.starts,Fo.size,Fo.kid]
end
section
variable {i j:Nat}
theorem yW:∀ {t:Fo} {j i:Nat} {a:Inf},j<=i->i<j+t.size->i∈t.starts j\/∃ m:Nat,j<=m/\m<i/\(bF t j i a).pa=(m:Int)/\i∈(t.kid j m).starts (m+1)
 | .nil,j,i,a,h1,h2=>by simp only[Fo.size] at h2;omega
 | .cons x k n,j,i,a,h1,h2=>by
   simp only[Fo.size] at h2;simp only[Fo.starts,Z0h];by_cases e:i=j
   ·grind
   ·rcases Z0a i (j+1+k.size) with h|h
    ·refine .inr ?_
     have e2:bF (.cons x k n) j i a=bF k (j+1) i (bq x (aw k) j a):=by simp only[bF,if_neg e,if_pos h]
     rcases yW (t:=k) (j:=j+1) (i:=i) (a:=bq x (aw k) j a) aa aa with hs|⟨m,m1,m2,m3,m4⟩
     ·refine⟨j,Z02 _,aa,?_,?_⟩
      ·rw[e2,fV hs];rfl
      all_goals grind [Fo.kid]
     all_goals grind [Fo.kid]
    ·have h': ¬i<j+1+k.size:=aa
     have e2:bF (.cons x k n) j i a=bF n (j+1+k.size) i a:=by simp only[bF,if_neg e,if_neg h']
     rcases yW (t:=n) (j:=j+1+k.size) (i:=i) (a:=a) aa aa with hs|⟨m,m1,m2,m3,m4⟩
     all_goals grind [Fo.kid]
section
variable {p:List Nd} {t:Fo}
theorem fi (ha:t.At p 0) (hi:i<t.size) (h:j∈(t.kid 0 i).starts (i+1)):i<j/\j<t.size/\aF t j=bq (p.getD i dN) (aw (t.kid 0 i)) i (aF t i):=by
 have hr:=bC h;have hs:=bv (t:=t) (j:=0) (i:=i) (Z08 _) aa;refine⟨aa,aa,?_⟩;show bF t 0 j ini=_;rw[(ct ha (Z08 i) aa aa aa ini).2,fV h]
theorem e_ (ha:t.At p 0) (hj:j<t.size):(j∈t.starts 0/\aF t j=ini)\/∃ m,m<j/\(aF t j).pa=(m:Int)/\j∈(t.kid 0 m).starts (m+1):=by
 rcases yW (t:=t) (j:=0) (i:=j) (a:=ini) (Z08 _) aa with h|⟨m,_,h2,h3,h4⟩
 ·exact .inl ⟨h,fV h⟩
 all_goals grind
theorem qv (ha:t.At p 0) (hi:i<t.size) (hj:j<t.size):(aF t j).pa=(i:Int)↔j∈(t.kid 0 i).starts (i+1):=by
 refine⟨λh=>?_,λh=>?_⟩
 ·rcases e_ ha hj with ⟨_,h2⟩|⟨m,_,h3,h4⟩
  ·rw[h2] at h;exact absurd h (by show ¬(-1:Int)=_;omega)
  all_goals grind
 ·rw[(fi ha hi h).2.2];rfl
theorem Cj (ha:t.At p 0) (hj:j<t.size):(aF t j).pa<(j:Int):=by
 rcases e_ ha hj with ⟨_,h2⟩|⟨m,h2,h3,_⟩
 ·rw[h2];show (-1:Int)<_;omega
 ·omega
theorem w7 (ha:t.At p 0) (hj:j<t.size):(aF t j).path=[]:=by
 rcases e_ ha hj with ⟨_,h2⟩|⟨m,h2,h3,h4⟩
 ·rw[h2];rfl
 ·rw[(fi ha aa h4).2.2];rfl
def kV (p:List Nd) (t:Fo) (i:Nat):Inf:=ot (p.getD i dN) (aw (t.kid 0 i)) (aF t i)
def nW (p:List Nd) (t:Fo) (i j:Nat):Inf:=if j<i then kV p t j else if (aF t j).pa<(i:Int) then aF t j else ini
def jK (p:List Nd) (t:Fo) (i:Nat):List Inf:=(List.range t.size).map (nW p t i)
def bz (p:List Nd) (t:Fo):List Inf:=(List.range t.size).map (kV p t)
def kB (T:List Inf) (ks:List Nat) (x:Inf):List Inf:=ks.foldl (λT k=>T.set k x) T
theorem vi (x:Inf):∀ (ks:List Nat) (T:List Inf),(kB T ks x).length=T.length
 |[],_=>rfl
 |k::ks,T=>by show (kB (T.set k x) ks x).length=_;rw[vi x ks];simp
theorem vj (x:Inf):∀ (ks:List Nat) (T:List Inf) (j:Nat),(kB T ks x)[j]? =if j∈ks/\j<T.length then some x else T[j]?
 |[],T,j=>by simp[kB]
 |k::ks,T,j=>by
  show (kB (T.set k x) ks x)[j]? =_;rw[vj x ks,Z18,Z1i]
  grind
theorem gv (i:Nat):(jK p t i).length=t.size:=by simp[jK]
theorem jJ (hj:j<t.size):(jK p t i)[j]? =some (nW p t i j):=by
 unfold jK;rw[Z0t,Z26 hj];rfl
theorem rR (ha:t.At p 0):jK p t 0=List.replicate t.size ini:=by
 refine Z2i λj=>?_
 rcases Z0a j t.size with h|h
 ·rw[jJ h,Z43,if_pos h]
  unfold nW;rw[if_neg (Z1m _)]
  rcases e_ ha h with ⟨_,h2⟩|⟨m,_,h3,_⟩
  all_goals grind
 ·rw[Z0b (by rw[gv];exact h),Z0b ae]
theorem wy:jK p t t.size=bz p t:=by
 refine Z2i λj=>?_
 rcases Z0a j t.size with h|h
 ·grind [jJ,bz,nW]
 ·rw[Z0b (by rw[gv];exact h),Z0b (by simpa [bz] using h)]
theorem tN (ha:t.At p 0) (hi:i<t.size):(jK p t i)[i]? =some (aF t i):=by
 rw[jJ hi];unfold nW;rw[if_neg (Z40 _),if_pos (Cj ha hi)]
theorem rS (ha:t.At p 0) (hi:i<t.size):kB ((jK p t i).set i (kV p t i)) ((t.kid 0 i).starts (i+1)) (bq (p.getD i dN) (aw (t.kid 0 i)) i (aF t i))=jK p t (i+1):=by
 refine Z2i λj=>?_
 rw[vj,Z18,gv,Z1i,gv]
 rcases Z0a j t.size with h|h
 ·rw[jJ h,jJ h]
  by_cases hk:j∈(t.kid 0 i).starts (i+1)
  ·obtain⟨k1,_,k2⟩:=fi ha hi hk
   grind [nW,qv]
  ·rw[if_neg (λq=>hk q.1)]
   by_cases e:i=j
   ·grind [nW]
   ·rw[if_neg e]
    have hne: ¬(aF t j).pa=(i:Int):=λq=>hk ((qv ha hi h).1 q)
    grind [nW]
 all_goals grind [gv]
theorem wz (hi:i<t.size):(bz p t)[i]? =some (kV p t i):=by
 unfold bz;rw[Z0t,Z26 hi];rfl
end
end
section
variable {i:Nat}
section
variable {α:Type} {g:α->List S} {w:Nat}
theorem kK (hw:∀ a,(g a).length=w):∀ T:List α,(T.flatMap g).length=T.length*w
 |[]=>by simp
 |a::T=>by rw[Z0g,Z03,kK hw T,hw];simp only[Z04];rw[Z2q,Nat.one_mul];omega
theorem ie (hw:∀ a,(g a).length=w) {q d:α} {vs:List S} {j:Nat} (hj:j+vs.length<=w):∀ {T:List α} {i:Nat},i<T.length->g q=bW (g (T.getD i d)) j vs->bW (T.flatMap g) (i*w+j) vs=(T.set i q).flatMap g
 |[],i,h,_=>by grind
 |a::T,0,_,h=>by
  grind [jw]
 |a::T,i+1,hi,h=>by
  simp only[Z0g,Z2j];have ih:=ie hw hj (T:=T) (i:=i) ae h;have e:(i+1)*w+j=(i*w+j)+w:=ae;rw[e,ly vs (g a) _ _ w (hw a),ih]
theorem lA (hw:∀ a,(g a).length=w) {q:α} {T:List α} (hi:i<T.length):bW (T.flatMap g) (i*w) (g q)=(T.set i q).flatMap g:=by
 have key:∀ (vs:List S) (a:List S),a.length=vs.length->bW a 0 vs=vs:=by
  intro vs a h;have:=lz vs [] a aa
  grind
 have:=ie hw (q:=q) (d:=q) (vs:=g q) (j:=0) ae hi ae
 grind
theorem sg (hw:∀ a,(g a).length=w) (d:α):∀ {T:List α} {i:Nat} (j:Nat),i<T.length->j<=w->(T.flatMap g).drop (i*w+j)=(g (T.getD i d)).drop j++(T.drop (i+1)).flatMap g
 |[],i,j,h,_=>by grind
 |a::T,0,j,_,hj=>by
  grind
 |a::T,i+1,j,hi,hj=>by
  simp only[Z0g,Z59];have e:(i+1)*w+j=(g a).length+(i*w+j):=ae;rw[e,List.drop_length_add_append,sg hw d j ae hj];rfl
theorem lT (hw:∀ a,(g a).length=w) {T:List α} {bl:Bl} (hb:bl.cells=T.flatMap g) (hk:bl.kind=none) (d:α) {j m:Nat} (hi:i<T.length) (hj:j+m<=w):eO true m bl (i*w+j)=some (.agg (((g (T.getD i d)).drop j).take m)):=by
 unfold eO;rw[hk,hb];have h1:(i+1)*w<=T.length*w:=Z1w _ hi;rw[Z2q] at h1;have hle:Nat.ble (i*w+j+m) (T.flatMap g).length=true:=Z3y (by rw[kK hw];omega)
 grind [sg]
theorem Du {zs:List S} {a:α} (hz:zs.length=w) (h:All2 SLe zs (g a)) (n:Nat):All2 SLe (rep n zs) ((List.replicate n a).flatMap g):=by
 have hl:(g a).length=w:=by have:=h.len;omega
 refine All2.of_get ?_ λi x y hx hy=>?_
 ·rw[gm,hz]
  clear hz h
  induction n with
  |zero=>simp
  |succ n ih=>grind
 ·have hi:i<n*zs.length:=by
   grind [gm]
  rw[te _ _ _ hi,hz] at hx
  have hw0:0<w:=by
   grind
  have key:∀ (n i:Nat),((List.replicate n a).flatMap g)[i]? =if i<n*w then (g a)[i%w]? else none:=by
   intro n
   induction n with
   |zero=>grind
   |succ n ih=>
    intro i;rw[Z16,Z0g]
    rcases Z0a i w with h|h
    ·rw[Z0x ae,if_pos ae,Nat.mod_eq_of_lt h]
    ·rw[Z1f ae,hl,ih,Nat.mod_eq_sub_mod h]
     grind
  grind [gO]
end
def infC (x:Inf):List S:=[.bool x.sc.root,.int .i64 x.sc.up,bc x.sc.segs,.str x.path,.int .i64 x.me,.int .i64 x.lo,.int .i64 x.pa]
abbrev mV (L:List Inf):V:=.s (.frz (λk=>infC (L.getD k ini)) 7 L.length)
theorem eh (x:Inf):(infC x).length=7:=rfl
abbrev tO (T:List Inf):Bl:={cells:=T.flatMap infC,ty:=117,sym:=true,flat:=true}
theorem B0 {x:Inf} {j:Nat} {s:S} (h:(infC x)[j]? =some s):bL s=true:=by
 rcases j with _|_|_|_|_|_|_|j
 ·cases h;rfl
 ·cases h;rfl
 ·cases h;rfl
 ·cases h;rfl
 ·cases h;rfl
 ·cases h;rfl
 ·cases h;rfl
 ·simp[infC] at h
theorem AS (op:Int):FQ 106 [nI op] 0 [] (bV (ca op)) 0 []:=by
 refine wW Tryz.func106 ?_
 repeat'(first|refine y1 ?_|refine y2 ?_ ?_|refine y4 λh=>?_|refine cL (.inl rfl) rfl ?_|refine y3 ?_|exact y5|fail)
 all_goals (unfold ca;first|(rw[decide_eq_true aa];done)|(rw[decide_eq_false aa];done)|(simp;omega))
section
variable {p:List Nd} {t:Fo} {cs:List (Bool×Int)}
theorem Ao (ha:t.At p 0) (hv:t.V cs) (hi:i<t.size) (hop:(p.getD i dN).op=10\/ca (p.getD i dN).op=true):
 i+1<p.length/\aw (t.kid 0 i)=(ai (p.getD (i+1) dN).str).1/\∃ l,(t.kid 0 i).starts (i+1)=(i+1)::l:=by
 unfold ca at hop;simp only[decide_eq_true_eq] at hop;obtain⟨h0,h1,h2,_⟩:=bT ha hv hi aa
 have key:∃ sl r,dB (av (p.getD i dN).op (p.getD i dN).kids).1=sl::r:=by
  have:(p.getD i dN).op=10\/(p.getD i dN).op=11\/(p.getD i dN).op=12\/(p.getD i dN).op=13\/(p.getD i dN).op=14\/(p.getD i dN).op=15\/(p.getD i dN).op=18\/(p.getD i dN).op=20\/(p.getD i dN).op=21:=aa
  rcases this with e|e|e|e|e|e|e|e|e<;>rw[e]<;>exact⟨_,_,rfl⟩
 obtain⟨sl,r,e⟩:=key;rw[e] at h2;generalize t.kid 0 i=k at*;obtain⟨y,ky,n',rfl,_⟩:=uK h2;exact⟨At.lt h1,by rw[At.get h1];rfl,_,rfl⟩
theorem eV (hp:p.length<=2048) (ha:t.At p 0) (hv:t.V cs) (hs:t.size=p.length) (hi:i<t.size):FQ 105 [al p,nI i] 0 [] (.s (eQ ((t.kid 0 i).starts (i+1)))) 0 []:=by
 obtain⟨sl,h1,h2⟩:=cM ha hv (Z08 i) (aa:i<0+t.size);have h3:=bv (t:=t) (Z08 i) aa;have h4:=Fo.cnt_le (t.kid 0 i);refine HF p hp i _ aa _ ?_ (At.chain h1.2.2.1) ?_
 ·rw[bE];exact h1.2.1
 ·rw[bE];omega
theorem zt {b r:Pth} (h:(ax b r).2=true):bR (ax b r).1=true:=by
 unfold ax at h |-;split
 ·simp_all
 ·rename_i h1
  have hb:bR b=true:=ae;have hr:aG r=true:=ae;obtain⟨b1,b2,b3⟩:=cT hb;obtain⟨r1,r2,r3,r4,r5,r6⟩:=aR hr;split
  ·grind [bR,aG]
  all_goals grind [bR,aG]
theorem vn {q:Pth} (h:aG q=true):de q.segs:=λi hi=>by
 have h5:=(aR h).2.2.2.2.1
 grind [eW]
theorem dS {q:Pth} (h:bR q=true):de q.segs:=vn (by grind [bR])
theorem dC (s:By):de (ai s).1.segs:=by
 cases h:(ai s).2 with
 |true=>exact vn (jA (p:=(ai s).1) (by rw[<-h]))
 |false=>
  have hf:∀ q:Pth,(fQ q).2=false->(fQ q).1=z0:=λq h=>by
   grind [fQ]
  have ht:∀ (r:Bool) (u:Nat) (l:By),(eP r u l).2=false->(eP r u l).1=z0:=λr u l h=>by
   grind [eP]
  have:(ai s).1=z0:=by
   grind [ai]
  rw[this];exact λi hi=>by simp[z0] at hi
theorem absI:bR (⟨true,0,[]⟩:Pth)=true:=ac
theorem Ip {x:Nd} {nm:Pth} {a:Inf} (h:bR a.sc=true):bR (bq x nm i a).sc=true:=by
 grind [bq,zt]
theorem uh:∀ {t:Fo} {j i:Nat} {a:Inf},bR a.sc=true->bR (bF t j i a).sc=true
 | .nil,_,_,_,h=>h
 | .cons x k n,j,i,a,h=>by
   unfold bF;split
   ·exact h
   ·split
    ·exact uh (Ip h)
    ·exact uh h
theorem iA (t:Fo) (i:Nat):bR (aF t i).sc=true:=uh (a:=ini) absI
end
end
def Mc:List S:=[.bool true,.int .i64 0,.slc none 0 (some 0),.str [],.int .i64 (-1),.int .i64 (-1),.int .i64 (-1)]
def Lo:List S:=[.bool false,.int .i64 0,.slc none 0 (some 0),.str [],.int .i64 0,.int .i64 0,.int .i64 0]
def Kr (b:Bool):List S:=match b with|true=>Mc|false=>Lo
theorem AC (b:Bool):(Kr b).length=7:=by cases b<;>rfl
abbrev Mf (T:List Bool):Bl:={cells:=T.flatMap Kr,ty:=117,sym:=true,flat:=true}
def upto (n i:Nat):List Bool:=(List.range n).map λj=>decide (j<i)
theorem rC (n:Nat):upto n 0=List.replicate n false:=by
 refine Z2i λj=>?_
 grind [upto]
theorem uV (n:Nat):upto n n=List.replicate n true:=by
 refine Z2i λj=>?_
 grind [upto]
theorem jn (n i:Nat):(upto n i).length=n:=by simp[upto]
theorem uU (n i:Nat) (h:i<n):(upto n i).set i true=upto n (i+1):=by
 refine Z2i λj=>?_
 rw[Z1i,jn];unfold upto
 grind
theorem SLe.refls:∀ l:List S,All2 SLe l l
 |[]=>trivial
 |a::l=>⟨SLe.refl a,SLe.refls l⟩
theorem HQ:All2 SLe (Kr true) (infC ini):=show All2 SLe Mc (infC ini) from ⟨SLe.refl _,SLe.refl _,SLe.nil,SLe.refl _,SLe.refl _,SLe.refl _,SLe.refl _,trivial⟩
theorem SLe.app2 {x y:List S} (h:All2 SLe x y) {u v:List S} (k:All2 SLe u v):All2 SLe (x++u) (y++v):=by
 induction x generalizing y with
 |nil=>cases y with
  |nil=>exact k
  |cons _ _=>exact h.elim
 |cons a x ih=>cases y with
  |nil=>exact h.elim
  |cons b y=>exact⟨h.1,ih h.2⟩
theorem Kq (n:Nat):All2 SLe ((List.replicate n true).flatMap Kr) ((List.replicate n ini).flatMap infC):=by
 induction n with
 |zero=>trivial
 |succ n ih=>
  rw[Z16,Z16,Z0g,Z0g];exact SLe.app2 HQ ih
theorem lx {α:Type} {T:List α} {i:Nat} {x:α} (h:T[i]? =some x):T.set i x=T:=by
 refine Z2i λj=>?_
 grind
theorem BC {T:List Inf} {ks:List Nat} {x:Inf} {k:Nat} (h:k<ks.length):kB T (ks.take (k+1)) x=(kB T (ks.take k) x).set (ks.getD k 0) x:=by
 unfold kB;rw[Z49,Z4a,Z01 h,Z00,Z01 h];rfl
theorem HO {cs:List (Bool×Int)} (p:List Nd) (hp:p.length<=2048) (hw:kO p) (t:Fo) (ha:t.At p 0) (hv:t.V cs) (hs:t.size=p.length):FQ 63 [al p] 0 [] (mV (bz p t)) 0 []:=by
 have hsz:(Tryz.prog.types[117]).size=7:=aK;have hby:(Tryz.prog.types[117]).bytes=80:=aK;refine wW Tryz.func63 ?_
 repeat'(first|refine yA ?_|refine y2 ?_ ?_|exact y5|fail)
 refine mo [.idx p.length,.idx p.length] rfl rfl ?_ ?_
 ·grind
 repeat'(first|refine yA ?_|refine y2 ?_ ?_|exact y5|fail)
 refine Ex.subF (L':=[(0,some (Mf (upto p.length 0)))]) (SubF.cons rfl (λφ w b h=>BlAt.cells (by rw[rC];exact Du (zs:=Lo) (g:=Kr) (a:=false) (w:=7) rfl (SLe.refls _) p.length) h) (SubF.refl _)) ?_;refine cy (σ:=Nat) (λi=>[(4,nI i)]) (λi=>[(0,some (Mf (upto p.length i)))]) (λi=>i<=p.length) (λi=>p.length-i) 0 rfl (λ_=>rfl) (Z08 _) aP ⟨rfl,trivial⟩ ?_;intro i hi;by_cases hlt:i<p.length
 ·have hcat:bU 0 (bQ i (Tryz.prog.types[117]).size)=i*7:=by rw[hsz,ak,ao,Z0c]
  repeat'(first|refine y1 ?_|refine y2 ?_ ?_|refine y4 λh=>?_|refine RegX.sto [.cells ((upto p.length (i+1)).flatMap Kr)] rfl rfl ⟨?_,?_⟩ rfl ?_|refine y3 ?_|exact y5|fail)
  all_goals try first
   |(rw[hcat];show i*7+7<=((upto p.length i).flatMap Kr).length;rw[kK AC,jn];omega)
   |(rw[hcat,<-uU _ _ hlt];exact (lA AC (q:=true) (by rw[jn];exact hlt)).symm)
  refine dz (i+1) aa aa rfl ⟨bB (congrArg nI ae),trivial⟩ ⟨rfl,trivial⟩ rfl rfl ac
 have hi':i=p.length:=aa;subst hi'
 repeat'(first|refine yA ?_|refine y2 ?_ ?_|refine y4 λh=>?_|exact y5|fail)
 rw[uV];refine Ex.subF (L':=[(0,some (tO (jK p t 0)))]) (SubF.cons rfl (λφ w b h=>BlAt.cells (by grind [rR,Kq]) h) (SubF.refl _)) ?_;refine my [0] 151 [(0,al p),(3,.s (.slc (some (0,0)) p.length (some p.length))),(5,nI 0)] [(0,some (tO (jK p t 0)))] rfl rfl ⟨ah _,ah _,ah _,trivial⟩ ⟨rfl,trivial⟩ rfl ?_;refine cy (σ:=Nat) (λi=>[(5,nI i)]) (λi=>[(0,some (tO (jK p t i)))]) (λi=>i<=p.length) (λi=>p.length-i) 0 rfl (λ_=>rfl) (Z08 _) aP ⟨rfl,trivial⟩ ?_;clear hi hlt;intro i hi;by_cases hlt:i<p.length
 ·have hti:i<t.size:=aa
  have hkc:=eV hp ha hv hs hti;have hst:=rS ha hti;have hat:=tN ha hti;have hT:=gv (p:=p) (t:=t) i
  have hkb:∀ j∈(t.kid 0 i).starts (i+1),j<p.length:=λj hj=>by have:=(fi ha hti hj).2.1;omega
  have hkl:(t.kid 0 i).cnt<=2048:=by
   have h1:=Fo.cnt_le (t.kid 0 i);have h2:=bv (t:=t) (Z08 i) aa;omega
  rw[<-bE (t.kid 0 i) (i+1)] at hkl;have hnm:=Ao ha hv hti;have habs:=iA t i;have hcp:=w7 ha hti;have hdc:=AS (p.getD i dN).op;unfold kV at hst;generalize hTn:jK p t (i+1)=Tn at*;generalize jK p t i=T at*;generalize aF t i=C at*;obtain⟨csc,cpath,cme,clo,cpa⟩:=C;simp only at habs hcp;subst hcp;obtain⟨croot,cup,csegs⟩:=csc;have hjn:=oO ⟨croot,cup,csegs⟩ (aw (t.kid 0 i)) (dS habs);have hja:= @zt ⟨croot,cup,csegs⟩ (aw (t.kid 0 i));have hprs:=eG (p.getD (i+1) dN).str (fb hw (i+1));have hsk:=dC (p.getD (i+1) dN).str
  have hcat:bU 0 (bQ i (Tryz.prog.types[117]).size)=i*7:=by rw[hsz,ak,ao,Z0c]
  have hTi:T.getD i ini=⟨⟨croot,cup,csegs⟩,[],cme,clo,cpa⟩:=ae;have hl7:=lT (g:=infC) eh (bl:=tO T) rfl rfl ini (i:=i) (j:=0) (m:=7) aa aa;rw[hTi] at hl7
  obtain⟨A1,hA1⟩:∃ A1:Inf,A1=⟨if ((p.getD i dN).op=11\/(p.getD i dN).op=12)/\(ax ⟨croot,cup,csegs⟩ (aw (t.kid 0 i))).2=true then (ax ⟨croot,cup,csegs⟩ (aw (t.kid 0 i))).1 else ⟨croot,cup,csegs⟩,[],cme,clo,(i:Int)⟩:=⟨_,rfl⟩
  obtain⟨A2,hA2⟩:∃ A2:Inf,A2=bq (p.getD i dN) (aw (t.kid 0 i)) i ⟨⟨croot,cup,csegs⟩,[],cme,clo,cpa⟩:=⟨_,rfl⟩
  rw[<-hA2] at hst
  obtain⟨T1,hT1⟩:∃ T1,T1=T.set i (ot (p.getD i dN) (aw (t.kid 0 i)) ⟨⟨croot,cup,csegs⟩,[],cme,clo,cpa⟩):=⟨_,rfl⟩
  rw[<-hT1] at hst;have hT1l:T1.length=p.length:=ae;generalize hks:(t.kid 0 i).starts (i+1)=ks at*
  repeat'(first|refine Ex.cutC 52 151 2 [(0,al p),(3,.s (.slc (some (0,0)) p.length (some p.length))),(5,nI i),(6,.s (eQ ks)),(7,.s (.ptr (some (1,0))))] [(0,some (tO T1)),(1,some {cells:=infC A1,ty:=117})] rfl (Hold.k ?_) (Hold.k ?_)|refine y1 ?_|refine y2 ?_ ?_|refine y4 λh=>?_|refine an hkc ?_|refine an hdc ?_|refine gG [.val (.agg (infC ⟨⟨croot,cup,csegs⟩,[],cme,clo,cpa⟩))] rfl rfl ?_ rfl ?_|refine y3 ?_|exact y5|fail)
  ·rw[hcat];exact hl7
  ·refine⟨?_⟩
   cases hdB:ca (p.getD i dN).op
   ·have e1: ¬((p.getD i dN).op=11\/(p.getD i dN).op=12):=by grind [ca]
    rw[if_neg (λh=>e1 h.1)] at hA1
    have e2:T1=T:=by grind [ot,lx]
    subst hA1;subst e2
    repeat'(first|refine yA ?_|fail)
    refine fH [0,1] rfl rfl ⟨ah _,ah _,ah _,ah _,ah _,trivial⟩ ⟨rfl,rfl,trivial⟩ rfl
   ·obtain⟨hi1,hnmE,l,rfl⟩:=hnm (.inr hdB)
    rw[hnmE] at hjn hA1 hT1 hA2 hja;have hjn:=hjn hsk;generalize ai (p.getD (i+1) dN).str=pp at*;obtain⟨⟨pr,pq,ps⟩,pok⟩:=pp;unfold ot at hT1;simp only at hjn hA1 hT1 hja hA2;generalize ax ⟨croot,cup,csegs⟩ ⟨pr,pq,ps⟩=jj at*;obtain⟨⟨jr,ju,js⟩,ok⟩:=jj;have hsp:(Tryz.prog.types[99]).size=3:=aK;have hl3:=lT (g:=infC) eh (bl:=tO T) rfl rfl ini (i:=i) (j:=0) (m:=3) aa aa;rw[hTi] at hl3;cases ok
    ·rw[if_neg aq] at hA1 hT1
     have e2:T1=T:=by rw[hT1];exact lx hat
     subst hA1;subst e2
     repeat'(first|refine y1 ?_|refine y2 ?_ ?_|refine an hprs ?_|refine an hjn ?_|refine gG [.val (.agg (cH ⟨croot,cup,csegs⟩))] rfl rfl ?_ rfl ?_|refine y3 ?_|exact y5|fail)
     all_goals try first
      |exact hi1
      |(show 0<((i+1)::l).length;simp)
      |(show eO true (Tryz.prog.types[99]).size (tO T1) (bU (bU 0 (bQ i (Tryz.prog.types[117]).size)) 0)=_;rw[hsp,hcat,ak];exact hl3)
     all_goals try refine fH [0,1] rfl rfl ⟨ah _,ah _,ah _,ah _,ah _,trivial⟩ ⟨rfl,rfl,trivial⟩ rfl
    ·rw[if_pos ⟨hdB,rfl⟩] at hT1
     have hfm:=kZ ⟨jr,ju,js⟩ (dS (hja rfl))
     have hst2:bW (T.flatMap infC) (i*7+3) [.str (aM ⟨jr,ju,js⟩)]=T1.flatMap infC:=by
      rw[hT1];exact ie eh (d:=ini) aq aa (by rw[hTi];rfl)
     have hp3:bU (bU 0 (bQ i (Tryz.prog.types[117]).size)) 3=i*7+3:=by rw[hcat,ak]
     by_cases hd:(p.getD i dN).op=11\/(p.getD i dN).op=12
     ·rw[if_pos ⟨hd,rfl⟩] at hA1
      subst hA1
      repeat'(first|refine y1 ?_|refine y2 ?_ ?_|refine y4 λh=>?_|refine an hprs ?_|refine an hjn ?_|refine an hfm ?_|refine gG [.val (.agg (cH ⟨croot,cup,csegs⟩))] rfl rfl ?_ rfl ?_|refine RegX.sto [.cells (T1.flatMap infC)] rfl rfl ⟨?_,?_⟩ rfl ?_|refine y3 ?_|exact y5|fail)
      all_goals try first
       |exact hi1
       |(show 0<((i+1)::l).length;simp)
       |(show eO true (Tryz.prog.types[99]).size (tO T) (bU (bU 0 (bQ i (Tryz.prog.types[117]).size)) 0)=_;rw[hsp,hcat,ak];exact hl3)
       |(show _=bW (tO T).cells (bU (bU 0 (bQ i (Tryz.prog.types[117]).size)) 3) _;rw[hp3];exact hst2.symm)
       |(show bU (bU 0 (bQ i (Tryz.prog.types[117]).size)) 3+1<=(T.flatMap infC).length;rw[hp3,kK eh];omega)
      all_goals try refine fH [0,1] rfl rfl ⟨ah _,ah _,ah _,ah _,ah _,trivial⟩ ⟨rfl,rfl,trivial⟩ rfl
     ·rw[if_neg (λh=>hd h.1)] at hA1
      subst hA1
      repeat'(first|refine y1 ?_|refine y2 ?_ ?_|refine y4 λh=>?_|refine an hprs ?_|refine an hjn ?_|refine an hfm ?_|refine gG [.val (.agg (cH ⟨croot,cup,csegs⟩))] rfl rfl ?_ rfl ?_|refine RegX.sto [.cells (T1.flatMap infC)] rfl rfl ⟨?_,?_⟩ rfl ?_|refine y3 ?_|exact y5|fail)
      all_goals try first
       |exact hi1
       |(show 0<((i+1)::l).length;simp)
       |(show eO true (Tryz.prog.types[99]).size (tO T) (bU (bU 0 (bQ i (Tryz.prog.types[117]).size)) 0)=_;rw[hsp,hcat,ak];exact hl3)
       |(show _=bW (tO T).cells (bU (bU 0 (bQ i (Tryz.prog.types[117]).size)) 3) _;rw[hp3];exact hst2.symm)
       |(show bU (bU 0 (bQ i (Tryz.prog.types[117]).size)) 3+1<=(T.flatMap infC).length;rw[hp3,kK eh];omega)
      all_goals try refine fH [0,1] rfl rfl ⟨ah _,ah _,ah _,ah _,ah _,trivial⟩ ⟨rfl,rfl,trivial⟩ rfl
  ·refine⟨?_⟩
   clear hl7
   repeat'(first|refine Ex.cutB 4 151 2 [(0,al p),(3,.s (.slc (some (0,0)) p.length (some p.length))),(5,nI i),(6,.s (eQ ks)),(7,.s (.ptr (some (1,0))))] [(0,some (tO T1)),(1,some {cells:=infC A2,ty:=117})] rfl (Hold.k ?_) (Hold.k ?_)|refine y1 ?_|refine y2 ?_ ?_|refine y3 ?_|exact y5|fail)
   ·refine⟨?_⟩
    have hA2':A2=⟨if (p.getD i dN).op=10/\(ax ⟨croot,cup,csegs⟩ (aw (t.kid 0 i))).2=true then (ax ⟨croot,cup,csegs⟩ (aw (t.kid 0 i))).1 else A1.sc,[],if (p.getD i dN).op=14 then (i:Int) else cme,if (p.getD i dN).op=14 then-1 else if (p.getD i dN).op=32 then (i:Int) else clo,(i:Int)⟩:=by
     grind [bq]
    by_cases h10:(p.getD i dN).op=10
    ·obtain⟨hi1,hnmE,l,rfl⟩:=hnm (.inl h10)
     have e1:A1=⟨⟨croot,cup,csegs⟩,[],cme,clo,(i:Int)⟩:=by rw[hA1,if_neg (λh=>by omega)]
     have e2:T1=T:=by rw[hT1];unfold ot;rw[if_neg (λh=>by grind [ca])];exact lx hat
     rw[hnmE] at hjn hA2';have hjn:=hjn hsk;rw[if_neg (show ¬(p.getD i dN).op=14 by omega),if_neg (show ¬(p.getD i dN).op=14 by omega),if_neg (show ¬(p.getD i dN).op=32 by omega)] at hA2';clear hA2 hA1 hT1;subst e1;subst e2;generalize ai (p.getD (i+1) dN).str=pp at*;obtain⟨⟨pr,pq,ps⟩,pok⟩:=pp;simp only at hjn hA2';generalize ax ⟨croot,cup,csegs⟩ ⟨pr,pq,ps⟩=jj at*;obtain⟨⟨jr,ju,js⟩,ok⟩:=jj;have hsp:(Tryz.prog.types[99]).size=3:=aK;have hl3:=lT (g:=infC) eh (bl:=tO T1) rfl rfl ini (i:=i) (j:=0) (m:=3) aa aa;rw[hTi] at hl3;cases ok
     ·rw[if_neg aq] at hA2'
      subst hA2'
      repeat'(first|refine y1 ?_|refine y2 ?_ ?_|refine y4 λh=>?_|refine an hprs ?_|refine an hjn ?_|refine gG [.val (.agg (cH ⟨croot,cup,csegs⟩))] rfl rfl ?_ rfl ?_|refine y3 ?_|exact y5|fail)
      all_goals try first
       |exact hi1
       |(show 0<((i+1)::l).length;simp)
       |(show eO true (Tryz.prog.types[99]).size (tO T1) (bU (bU 0 (bQ i (Tryz.prog.types[117]).size)) 0)=_;rw[hsp,hcat,ak];exact hl3)
      all_goals refine fH [0,1] rfl rfl ⟨ah _,ah _,ah _,ah _,ah _,trivial⟩ ⟨rfl,rfl,trivial⟩ rfl
     ·rw[if_pos ⟨h10,rfl⟩] at hA2'
      subst hA2'
      repeat'(first|refine y1 ?_|refine y2 ?_ ?_|refine y4 λh=>?_|refine an hprs ?_|refine an hjn ?_|refine gG [.val (.agg (cH ⟨croot,cup,csegs⟩))] rfl rfl ?_ rfl ?_|refine y3 ?_|exact y5|fail)
      all_goals try first
       |exact hi1
       |(show 0<((i+1)::l).length;simp)
       |(show eO true (Tryz.prog.types[99]).size (tO T1) (bU (bU 0 (bQ i (Tryz.prog.types[117]).size)) 0)=_;rw[hsp,hcat,ak];exact hl3)
      all_goals refine fH [0,1] rfl rfl ⟨ah _,ah _,ah _,ah _,ah _,trivial⟩ ⟨rfl,rfl,trivial⟩ rfl
    ·rw[if_neg (λh=>h10 h.1)] at hA2'
     have hc1:A1.path=[]/\A1.me=cme/\A1.lo=clo/\A1.pa=(i:Int):=ae;obtain⟨asc,apath,ame,alo,apa⟩:=A1;obtain⟨r1,r2,r3,r4⟩:=hc1;simp only at r1 r2 r3 r4 hA2';subst r1;subst r2;subst r3;subst r4;by_cases h14:(p.getD i dN).op=14
     ·rw[if_pos h14,if_pos h14] at hA2'
      subst hA2'
      repeat'(first|refine yA ?_|refine y2 ?_ ?_|refine y4 λh=>?_|exact y5|fail)
      all_goals refine fH [0,1] rfl rfl ⟨ah _,ah _,ah _,ah _,ah _,trivial⟩ ⟨rfl,rfl,trivial⟩ rfl
     ·rw[if_neg h14,if_neg h14] at hA2'
      by_cases h32:(p.getD i dN).op=32
      ·rw[if_pos h32] at hA2'
       subst hA2'
       repeat'(first|refine yA ?_|refine y2 ?_ ?_|refine y4 λh=>?_|exact y5|fail)
       all_goals refine fH [0,1] rfl rfl ⟨ah _,ah _,ah _,ah _,ah _,trivial⟩ ⟨rfl,rfl,trivial⟩ rfl
      ·rw[if_neg h32] at hA2'
       subst hA2'
       repeat'(first|refine yA ?_|refine y2 ?_ ?_|refine y4 λh=>?_|exact y5|fail)
       all_goals refine fH [0,1] rfl rfl ⟨ah _,ah _,ah _,ah _,ah _,trivial⟩ ⟨rfl,rfl,trivial⟩ rfl
   ·refine⟨?_⟩
    clear hA2 hA1 hT1 hnm hprs hjn hja hTi hat
    repeat'(first|refine yA ?_|refine y2 ?_ ?_|exact y5|fail)
    refine cy (σ:=Nat) (λk=>[(16,nI k)]) (λk=>[(0,some (tO (kB T1 (ks.take k) A2))),(1,some {cells:=infC A2,ty:=117})]) (λk=>k<=ks.length) (λk=>ks.length-k) 0 rfl (λ_=>rfl) (Z08 _) aP ⟨rfl,rfl,trivial⟩ ?_;intro k hk;by_cases hkl2:k<ks.length
    ·have hkb2:ks.getD k 0<p.length:=hkb _ ae
     have hck:bU 0 (bQ (ks.getD k 0) (Tryz.prog.types[117]).size)=ks.getD k 0*7:=by rw[hsz,ak,ao,Z0c]
     have hlk:(kB T1 (ks.take k) A2).length=p.length:=by rw[vi,hT1l]
     repeat'(first|refine y1 ?_|refine y2 ?_ ?_|refine y4 λh=>?_|refine RegX.sto [.cells ((kB T1 (ks.take (k+1)) A2).flatMap infC)] rfl rfl ⟨?_,?_⟩ rfl ?_|refine y3 ?_|exact y5|fail)
     all_goals try first
      |(show bU 0 (bQ (ks.getD k 0) (Tryz.prog.types[117]).size)+7<=((kB T1 (ks.take k) A2).flatMap infC).length;rw[hck,kK eh,hlk];omega)
      |(show _=bW (tO (kB T1 (ks.take k) A2)).cells (bU 0 (bQ (ks.getD k 0) (Tryz.prog.types[117]).size)) _;rw[hck,BC hkl2];exact (lA eh (q:=A2) ae).symm)
     refine dz (k+1) aa aa rfl ⟨bB (congrArg nI ae),trivial⟩ ⟨rfl,rfl,trivial⟩ rfl rfl ac
    ·rw[Z1l aa,hst]
     repeat'(first|refine yA ?_|refine y2 ?_ ?_|refine y4 λh=>?_|exact y5|fail)
     refine dz (i+1) aa aa rfl ⟨bB (congrArg nI ae),trivial⟩ ⟨(show some (tO Tn)=some (tO (jK p t (i+1))) by rw[hTn]),trivial⟩ rfl rfl ac
 ·have hi':i=p.length:=aa
  subst hi';rw[<-hs,wy,hs]
  have hl:(bz p t).length=p.length:=by simp[bz,hs]
  repeat'(first|refine y1 ?_|refine y2 ?_ ?_|refine y4 λh=>?_|refine Ex.fz 2 (λk=>infC ((bz p t).getD k ini)) 7 rfl rfl rfl rfl (λ_ _=>eh _) (λk j x hk hx=>⟨cq infC 7 ini eh (by rw[hl];exact hk) hx,B0 hx⟩) rfl rfl ?_|refine dv (.inl rfl) rfl (bB (by unfold mV;rw[hl];rfl)) rfl|refine y3 ?_|exact y5|fail)
