import Derived.Test.YtegjgpldfgjoiaaGreatDoorCnD28
import Derived.Test.YtegjgpldfgjoiaaGreatDoorCnD32
import Derived.Test.YtegjgpldfgjoiaaGreatDoorCnD22
set_option linter.all false
set_option maxHeartbeats 40000000
set_option maxRecDepth 100000
namespace Go.Proofs.YtegjgpldfgjoiaaGreatDoor
open Go Ab
section
variable {op:Int}
def Fo.all (P:Nd->Prop):Fo->Prop
 | .nil=>True
 | .cons x k n=>P x/\k.all P/\n.all P
theorem Fo.all_at {P:Nd->Prop} {p:List Nd}:∀ {t:Fo} {j i:Nat},t.At p j->t.all P->j<=i->i<j+t.size->P (p.getD i dN)
 | .nil,j,i,_,_,h1,h2=>by simp only[Fo.size] at h2;omega
 | .cons x k n,j,i,ha,⟨p1,p2,p3⟩,h1,h2=>by
   simp only[Fo.size] at h2;by_cases e:i=j
   ·subst e;rw[At.get ha];exact p1
   ·rcases Z0a i (j+1+k.size) with h|h
    ·exact Fo.all_at ha.2.2.1 p2 aa h
    ·exact Fo.all_at ha.2.2.2 p3 h aa
def quiet (x:Nd):Prop:=x.op<10\/21<x.op
def qK (c:Int):Bool:=decide (c≠68)&&decide (c≠70)
theorem ym {c:Int} (h:bn c op=true) (hc:qK c=true):op<10\/21<op:=by
 unfold qK at hc;simp only[Z07,decide_eq_true_eq] at hc;unfold bn at h;split at h
 ·grind
 split at h
 ·grind
 split at h
 ·simp[fy,cl] at h;omega
 split at h
 all_goals grind [cl]
theorem uN:∀ op∈opsL,21<op->((ct op).2.all λc=>qK (c.toNat:Int))=true:=by decide+kernel
theorem su {c kids:Int} (h:bn c op=true) (hq:op<10\/21<op):∀ b∈(aq op kids).1,qK (b.toNat:Int)=true:=by
 have he7:∀ n:Nat,∀ b∈e7.take n,qK (b.toNat:Int)=true:=λn b hb=>by
  have:=Z2x hb;unfold e7 at this;simp at this;subst this;rfl
 unfold aq;split
 ·grind
 ·split
  ·grind
  ·split
   ·intro b hb;simp at hb;rcases hb with rfl|rfl<;>rfl
   ·rename_i h5 h33 h31
    rcases mA h with h'|h'
    ·have hgt:21<op:=by
      rcases hq with hq|hq
      ·have:∀ o∈opsL,10<=o:=ac
       grind
      ·exact hq
     exact λb hb=>Z0i.1 (uN op h' hgt) b hb
    ·rcases h' with rfl|rfl|rfl|rfl|rfl|rfl
     all_goals
      first
       |exact absurd rfl h5
       |(rw[show (ct _).2=[] by decide+kernel];intro b hb;simp at hb)
theorem fF:∀ {t:Fo} {cs:List (Bool×Int)},t.V cs->(∀ sl∈cs,qK sl.2=true)->t.all quiet
 | .nil,_,_,_=>trivial
 | .cons x k n,[],h,_=>by simp[Fo.V] at h
 | .cons x k n,(true,c)::cs,⟨⟨h1,_⟩,h2,h3⟩,hq=>by
   refine⟨.inl ae,fF h2 λsl hsl=>?_,fF h3 λsl hsl=>hq sl (Z0y _ hsl)⟩;rw[(Z3b.1 hsl).2];exact hq (true,c) (Z17 ..)
 | .cons x k n,(false,c)::cs,⟨⟨h1,_⟩,h2,h3⟩,hq=>by
   have hx:=ym h1 (hq _ (Z17 ..));refine⟨hx,fF h2 λsl hsl=>?_,fF h3 λsl hsl=>hq sl (Z0y _ hsl)⟩;obtain⟨b,hb,rfl⟩:=Z1d.1 hsl;exact su h1 hx b hb
structure Inf where
 sc:Pth
 path:By
 me:Int
 lo:Int
 pa:Int
def ini:Inf:=⟨⟨true,0,[]⟩,[],-1,-1,-1⟩
def bw (op:Int):Bool:=decide (11<=op/\op<=15\/op=18\/op=20\/op=21)
def r9 (x:Nd) (nm:Pth) (a:Inf):Inf:=if bw x.op=true/\(au a.sc nm).2=true then {a with path:=aH (au a.sc nm).1} else a
def bJ (x:Nd) (nm:Pth) (i:Nat) (a:Inf):Inf:=
 {sc:=if (x.op=10\/x.op=11\/x.op=12)/\(au a.sc nm).2=true then (au a.sc nm).1 else a.sc,path:=[],me:=if x.op=14 then (i:Int) else a.me,lo:=if x.op=14 then-1 else if x.op=32 then (i:Int) else a.lo,pa:=(i:Int)}
def bG:Fo->Nat->Nat->Inf->Inf
 | .nil,_,_,a=>a
 | .cons x k n,j,i,a=>if i=j then a else if i<j+1+k.size then bG k (j+1) i (bJ x (aw k) j a) else bG n (j+1+k.size) i a
theorem bC:∀ {t:Fo} {j i:Nat},j<=i->i<j+t.size->i+1+(t.kid j i).size<=j+t.size
 | .nil,j,i,h1,h2=>by simp only[Fo.size] at h2;omega
 | .cons x k n,j,i,h1,h2=>by
   simp only[Fo.size] at h2 |-;unfold Fo.kid;split
   ·omega
   ·split
    ·have:=bC (t:=k) (j:=j+1) (i:=i) aa aa
     omega
    ·have:=bC (t:=n) (j:=j+1+k.size) (i:=i) aa aa
     omega
theorem cH {p:List Nd}:∀ {t:Fo} {j i m:Nat},t.At p j->j<=i->i<j+t.size->i<m->m<i+1+(t.kid j i).size->∀ a,
 t.kid j m=(t.kid j i).kid (i+1) m/\bG t j m a=bG (t.kid j i) (i+1) m (bJ (p.getD i dN) (aw (t.kid j i)) i (bG t j i a))
 | .nil,j,i,m,_,h1,h2,_,_=>by simp only[Fo.size] at h2;omega
 | .cons x k n,j,i,m,ha,h1,h2,h3,h4=>by
   intro a;simp only[Fo.size] at h2;have hx:=At.get ha;by_cases e:i=j
   ·grind [Fo.kid,bG]
   ·rcases Z0a i (j+1+k.size) with h|h
    ·have e1:(Fo.cons x k n).kid j i=k.kid (j+1) i:=by simp only[Fo.kid,if_neg e,if_pos h]
     have e2:bG (.cons x k n) j i a=bG k (j+1) i (bJ x (aw k) j a):=by simp only[bG,if_neg e,if_pos h]
     rw[e1] at h4 |-;rw[e2];have hs:=bC (t:=k) (j:=j+1) (i:=i) aa aa;have hm: ¬m=j:=aa;have hm2:m<j+1+k.size:=aa;have ih:=cH (t:=k) ha.2.2.1 aa aa h3 h4 (bJ x (aw k) j a)
     grind [Fo.kid,bG]
    ·have h': ¬i<j+1+k.size:=aa
     have e1:(Fo.cons x k n).kid j i=n.kid (j+1+k.size) i:=by simp only[Fo.kid,if_neg e,if_neg h']
     have e2:bG (.cons x k n) j i a=bG n (j+1+k.size) i a:=by simp only[bG,if_neg e,if_neg h']
     rw[e1] at h4 |-;rw[e2];have hm: ¬m=j:=aa;have hm2: ¬m<j+1+k.size:=aa;have ih:=cH (t:=n) ha.2.2.2 h aa h3 h4 a
     grind [Fo.kid,bG]
theorem bK:∀ {t:Fo} {j i:Nat},i∈t.starts j->j<=i/\i<j+t.size
 | .nil,j,i,h=>by simp[Fo.starts] at h
 | .cons x k n,j,i,h=>by
   simp only[Fo.starts,Z0h] at h;simp only[Fo.size]
   rcases h with rfl|h
   ·omega
   ·have:=bK h;omega
theorem eR:∀ {t:Fo} {j i:Nat} {a:Inf},i∈t.starts j->bG t j i a=a
 | .nil,j,i,a,h=>by simp[Fo.starts] at h
 | .cons x k n,j,i,a,h=>by
   simp only[Fo.starts,Z0h] at h;unfold bG;by_cases e:i=j
   ·rw[if_pos e]
   ·rw[if_neg e]
    have h:=h.resolve_left e;have:=bK h;rw[if_neg aa];exact eR h
theorem vb {p:List Nd}:∀ {t:Fo} {j i:Nat} {a:Inf},t.At p j->t.all quiet->j<=i->i<j+t.size->(bG t j i a).me=a.me
 | .nil,j,i,a,_,_,h1,h2=>by simp only[Fo.size] at h2;omega
 | .cons x k n,j,i,a,ha,⟨q1,q2,q3⟩,h1,h2=>by
   simp only[Fo.size] at h2;unfold bG;split
   ·rfl
   ·split
    ·rw[vb ha.2.2.1 q2 aa aa]
     grind [bJ,quiet]
    ·exact vb ha.2.2.2 q3 aa aa
abbrev aD (t:Fo) (i:Nat):Inf:=bG t 0 i ini
theorem bQ {p:List Nd} {t:Fo} {cs:List (Bool×Int)} (ha:t.At p 0) (hv:t.V cs) {i:Nat} (hi:i<t.size) (hop:(p.getD i dN).op≠4):
 (Fo.cons (p.getD i dN) (t.kid 0 i) .nil).At p i/\(t.kid 0 i).At p (i+1)/\(t.kid 0 i).V (dj (aq (p.getD i dN).op (p.getD i dN).kids).1)/\(aq (p.getD i dN).op (p.getD i dN).kids).2=true/\∃ c,bn c (p.getD i dN).op=true:=by
 obtain⟨⟨b,c⟩,h1,h2⟩:=cn ha hv (Z08 i) aa;cases b
 ·exact⟨h1,h1.2.2.1,h2.2.1,h2.1.2.2,c,h2.1.1⟩
 ·exact absurd h2.1.1 hop
theorem sv {ks:By} (h:ct op=((ct op).1,ks)) (h5:op≠5) (h33:op≠33) (h31:op≠31) (kids:Int):(aq op kids).1=ks:=by
 grind [aq]
theorem fb (kids:Int):(aq 14 kids).1=[115,105,105,105,83]:=sv (by decide+kernel) ac ac ac kids
theorem sx (kids:Int):(aq 16 kids).1=[110,105,105,70]:=sv (by decide+kernel) ac ac ac kids
theorem d_ {c':Int}:∀ (ls:List Int) (t:Fo),(ls.all fY)=true->t.V (ls.map (λc=>(false,c))++[(true,c')])->t.size=ls.length+1+(am t).size/\∀ (i:Nat),(i+ls.length)∈t.starts i/\t.kid i (i+ls.length)=am t
 |[],t,_,h=>by
  grind [Fo.size,am,Fo.starts,Fo.kid,kJ,iO]
 |c::ls,t,hl,h=>by
  simp only[Z1b,Z07] at hl;obtain⟨y,n,rfl,h1,h2⟩:=fk hl.1 h;obtain⟨g3,g1⟩:=d_ ls n hl.2 h1
  have hn:am (.cons y .nil n)=am n:=by
   cases n with
   |nil=>simp only[Fo.size] at g3;omega
   |cons a b c=>rfl
  rw[hn];refine⟨by simp only[Fo.size,Z04];omega,λi=>?_⟩;obtain⟨k1,k2⟩:=g1 (i+1)
  grind [Fo.starts,Fo.size,Fo.kid]
end
section
variable {i j:Nat}
theorem va:∀ {t:Fo} {j i:Nat} {a:Inf},j<=i->i<j+t.size->i∈t.starts j\/∃ m:Nat,j<=m/\m<i/\(bG t j i a).pa=(m:Int)/\i∈(t.kid j m).starts (m+1)
 | .nil,j,i,a,h1,h2=>by simp only[Fo.size] at h2;omega
 | .cons x k n,j,i,a,h1,h2=>by
   simp only[Fo.size] at h2;simp only[Fo.starts,Z0h];by_cases e:i=j
   ·grind
   ·rcases Z0a i (j+1+k.size) with h|h
    ·refine .inr ?_
     have e2:bG (.cons x k n) j i a=bG k (j+1) i (bJ x (aw k) j a):=by simp only[bG,if_neg e,if_pos h]
     rcases va (t:=k) (j:=j+1) (i:=i) (a:=bJ x (aw k) j a) aa aa with hs|⟨m,m1,m2,m3,m4⟩
     ·refine⟨j,Z02 _,aa,?_,?_⟩
      ·rw[e2,eR hs];rfl
      all_goals grind [Fo.kid]
     all_goals grind [Fo.kid]
    ·have h': ¬i<j+1+k.size:=aa
     have e2:bG (.cons x k n) j i a=bG n (j+1+k.size) i a:=by simp only[bG,if_neg e,if_neg h']
     rcases va (t:=n) (j:=j+1+k.size) (i:=i) (a:=a) aa aa with hs|⟨m,m1,m2,m3,m4⟩
     all_goals grind [Fo.kid]
section
variable {p:List Nd} {t:Fo}
theorem ee (ha:t.At p 0) (hi:i<t.size) (h:j∈(t.kid 0 i).starts (i+1)):i<j/\j<t.size/\aD t j=bJ (p.getD i dN) (aw (t.kid 0 i)) i (aD t i):=by
 have hr:=bK h;have hs:=bC (t:=t) (j:=0) (i:=i) (Z08 _) aa;refine⟨aa,aa,?_⟩;show bG t 0 j ini=_;rw[(cH ha (Z08 i) aa aa aa ini).2,eR h]
theorem dH (ha:t.At p 0) (hj:j<t.size):(j∈t.starts 0/\aD t j=ini)\/∃ m,m<j/\(aD t j).pa=(m:Int)/\j∈(t.kid 0 m).starts (m+1):=by
 rcases va (t:=t) (j:=0) (i:=j) (a:=ini) (Z08 _) aa with h|⟨m,_,h2,h3,h4⟩
 ·exact .inl ⟨h,eR h⟩
 all_goals grind
theorem nR (ha:t.At p 0) (hi:i<t.size) (hj:j<t.size):(aD t j).pa=(i:Int)↔j∈(t.kid 0 i).starts (i+1):=by
 refine⟨λh=>?_,λh=>?_⟩
 ·rcases dH ha hj with ⟨_,h2⟩|⟨m,_,h3,h4⟩
  ·rw[h2] at h;exact absurd h (by show ¬(-1:Int)=_;omega)
  all_goals grind
 ·rw[(ee ha hi h).2.2];rfl
theorem x_ (ha:t.At p 0) (hj:j<t.size):(aD t j).pa<(j:Int):=by
 rcases dH ha hj with ⟨_,h2⟩|⟨m,h2,h3,_⟩
 ·rw[h2];show (-1:Int)<_;omega
 ·omega
theorem tn (ha:t.At p 0) (hj:j<t.size):(aD t j).path=[]:=by
 rcases dH ha hj with ⟨_,h2⟩|⟨m,h2,h3,h4⟩
 ·rw[h2];rfl
 ·rw[(ee ha aa h4).2.2];rfl
def jZ (p:List Nd) (t:Fo) (i:Nat):Inf:=r9 (p.getD i dN) (aw (t.kid 0 i)) (aD t i)
def lR (p:List Nd) (t:Fo) (i j:Nat):Inf:=if j<i then jZ p t j else if (aD t j).pa<(i:Int) then aD t j else ini
def jw (p:List Nd) (t:Fo) (i:Nat):List Inf:=(List.range t.size).map (lR p t i)
def be (p:List Nd) (t:Fo):List Inf:=(List.range t.size).map (jZ p t)
def jO (T:List Inf) (ks:List Nat) (x:Inf):List Inf:=ks.foldl (λT k=>T.set k x) T
theorem rC (x:Inf):∀ (ks:List Nat) (T:List Inf),(jO T ks x).length=T.length
 |[],_=>rfl
 |k::ks,T=>by show (jO (T.set k x) ks x).length=_;rw[rC x ks];simp
theorem rD (x:Inf):∀ (ks:List Nat) (T:List Inf) (j:Nat),(jO T ks x)[j]? =if j∈ks/\j<T.length then some x else T[j]?
 |[],T,j=>by simp[jO]
 |k::ks,T,j=>by
  show (jO (T.set k x) ks x)[j]? =_;rw[rD x ks,Z18,Z1i]
  grind
theorem gc (i:Nat):(jw p t i).length=t.size:=by simp[jw]
theorem iy (hj:j<t.size):(jw p t i)[j]? =some (lR p t i j):=by
 unfold jw;rw[Z0t,Z26 hj];rfl
theorem xO (ha:t.At p 0):jw p t 0=List.replicate t.size ini:=by
 refine Z2i λj=>?_
 rcases Z0a j t.size with h|h
 ·rw[iy h,Z43,if_pos h]
  unfold lR;rw[if_neg (Z1m _)]
  rcases dH ha h with ⟨_,h2⟩|⟨m,_,h3,_⟩
  all_goals grind
 ·rw[Z0b (by rw[gc];exact h),Z0b ae]
theorem AG:jw p t t.size=be p t:=by
 refine Z2i λj=>?_
 rcases Z0a j t.size with h|h
 ·grind [iy,be,lR]
 ·rw[Z0b (by rw[gc];exact h),Z0b (by simpa [be] using h)]
theorem Dw (ha:t.At p 0) (hi:i<t.size):(jw p t i)[i]? =some (aD t i):=by
 rw[iy hi];unfold lR;rw[if_neg (Z40 _),if_pos (x_ ha hi)]
theorem xP (ha:t.At p 0) (hi:i<t.size):jO ((jw p t i).set i (jZ p t i)) ((t.kid 0 i).starts (i+1)) (bJ (p.getD i dN) (aw (t.kid 0 i)) i (aD t i))=jw p t (i+1):=by
 refine Z2i λj=>?_
 rw[rD,Z18,gc,Z1i,gc]
 rcases Z0a j t.size with h|h
 ·rw[iy h,iy h]
  by_cases hk:j∈(t.kid 0 i).starts (i+1)
  ·obtain⟨k1,_,k2⟩:=ee ha hi hk
   grind [lR,nR]
  ·rw[if_neg (λq=>hk q.1)]
   by_cases e:i=j
   ·grind [lR]
   ·rw[if_neg e]
    have hne: ¬(aD t j).pa=(i:Int):=λq=>hk ((nR ha hi h).1 q)
    grind [lR]
 all_goals grind [gc]
theorem AH (hi:i<t.size):(be p t)[i]? =some (jZ p t i):=by
 unfold be;rw[Z0t,Z26 hi];rfl
end
end
section
variable {i:Nat}
section
variable {α:Type} {g:α->List S} {w:Nat}
theorem lT (hw:∀ a,(g a).length=w):∀ T:List α,(T.flatMap g).length=T.length*w
 |[]=>by simp
 |a::T=>by rw[Z0g,Z03,lT hw T,hw];simp only[Z04];rw[Z2q,Nat.one_mul];omega
theorem jL (hw:∀ a,(g a).length=w) {q d:α} {vs:List S} {j:Nat} (hj:j+vs.length<=w):∀ {T:List α} {i:Nat},i<T.length->g q=bW (g (T.getD i d)) j vs->bW (T.flatMap g) (i*w+j) vs=(T.set i q).flatMap g
 |[],i,h,_=>by grind
 |a::T,0,_,h=>by
  grind [ig]
 |a::T,i+1,hi,h=>by
  simp only[Z0g,Z2j];have ih:=jL hw hj (T:=T) (i:=i) ae h;have e:(i+1)*w+j=(i*w+j)+w:=ae;rw[e,jM vs (g a) _ _ w (hw a),ih]
theorem rB (hw:∀ a,(g a).length=w) {q:α} {T:List α} (hi:i<T.length):bW (T.flatMap g) (i*w) (g q)=(T.set i q).flatMap g:=by
 have key:∀ (vs:List S) (a:List S),a.length=vs.length->bW a 0 vs=vs:=by
  intro vs a h;have:=jN vs [] a aa
  grind
 have:=jL hw (q:=q) (d:=q) (vs:=g q) (j:=0) ae hi ae
 grind
theorem po (hw:∀ a,(g a).length=w) (d:α):∀ {T:List α} {i:Nat} (j:Nat),i<T.length->j<=w->(T.flatMap g).drop (i*w+j)=(g (T.getD i d)).drop j++(T.drop (i+1)).flatMap g
 |[],i,j,h,_=>by grind
 |a::T,0,j,_,hj=>by
  grind
 |a::T,i+1,j,hi,hj=>by
  simp only[Z0g,Z59];have e:(i+1)*w+j=(g a).length+(i*w+j):=ae;rw[e,List.drop_length_add_append,po hw d j ae hj];rfl
theorem nk (hw:∀ a,(g a).length=w) {T:List α} {bl:Bl} (hb:bl.cells=T.flatMap g) (hk:bl.kind=none) (d:α) {j m:Nat} (hi:i<T.length) (hj:j+m<=w):fo true m bl (i*w+j)=some (.agg (((g (T.getD i d)).drop j).take m)):=by
 unfold fo;rw[hk,hb];have h1:(i+1)*w<=T.length*w:=Z1w _ hi;rw[Z2q] at h1;have hle:Nat.ble (i*w+j+m) (T.flatMap g).length=true:=Z3y (by rw[lT hw];omega)
 grind [po]
theorem FA {zs:List S} {a:α} (hz:zs.length=w) (h:All2 SLe zs (g a)) (n:Nat):All2 SLe (rep n zs) ((List.replicate n a).flatMap g):=by
 have hl:(g a).length=w:=by have:=h.len;omega
 refine All2.of_get ?_ λi x y hx hy=>?_
 ·rw[e8,hz]
  clear hz h
  induction n with
  |zero=>simp
  |succ n ih=>grind
 ·have hi:i<n*zs.length:=by
   grind [e8]
  rw[pV _ _ _ hi,hz] at hx
  have hw0:0<w:=by
   grind
  have key:∀ (n i:Nat),((List.replicate n a).flatMap g)[i]? =if i<n*w then (g a)[i%w]? else none:=by
   intro n
   induction n with
   |zero=>grind
   |succ n ih=>
    intro i;rw[Z16,Z0g]
    rcases Z0a i w with h|h
    ·rw[Z0x ae,if_pos ae,Nat.mod_eq_of_lt h]
    ·rw[Z1f ae,hl,ih,Nat.mod_eq_sub_mod h]
     grind
  grind [gO]
end
def infC (x:Inf):List S:=[.bool x.sc.root,.int .i64 x.sc.up,aR x.sc.segs,.str x.path,.int .i64 x.me,.int .i64 x.lo,.int .i64 x.pa]
abbrev lh (L:List Inf):V:=.s (.frz (λk=>infC (L.getD k ini)) 7 L.length)
theorem dy (x:Inf):(infC x).length=7:=rfl
abbrev qq (T:List Inf):Bl:={cells:=T.flatMap infC,ty:=117,sym:=true,flat:=true}
theorem xQ {x:Inf} {j:Nat} {s:S} (h:(infC x)[j]? =some s):bL s=true:=by
 rcases j with _|_|_|_|_|_|_|j
 ·cases h;rfl
 ·cases h;rfl
 ·cases h;rfl
 ·cases h;rfl
 ·cases h;rfl
 ·cases h;rfl
 ·cases h;rfl
 ·simp[infC] at h
theorem wD (op:Int):FQ 106 [nI op] 0 [] (bV (bw op)) 0 []:=by
 refine wW Tryz.func106 ?_
 repeat'(first|refine y1 ?_|refine y2 ?_ ?_|refine y4 λh=>?_|refine cJ (.inl rfl) rfl ?_|refine y3 ?_|exact y5|fail)
 all_goals (unfold bw;first|(rw[decide_eq_true aa];done)|(rw[decide_eq_false aa];done)|(simp;omega))
section
variable {p:List Nd} {t:Fo} {cs:List (Bool×Int)}
theorem EN (ha:t.At p 0) (hv:t.V cs) (hi:i<t.size) (hop:(p.getD i dN).op=10\/bw (p.getD i dN).op=true):
 i+1<p.length/\aw (t.kid 0 i)=(ak (p.getD (i+1) dN).str).1/\∃ l,(t.kid 0 i).starts (i+1)=(i+1)::l:=by
 unfold bw at hop;simp only[decide_eq_true_eq] at hop;obtain⟨h0,h1,h2,_⟩:=bQ ha hv hi aa
 have key:∃ sl r,dj (aq (p.getD i dN).op (p.getD i dN).kids).1=sl::r:=by
  have:(p.getD i dN).op=10\/(p.getD i dN).op=11\/(p.getD i dN).op=12\/(p.getD i dN).op=13\/(p.getD i dN).op=14\/(p.getD i dN).op=15\/(p.getD i dN).op=18\/(p.getD i dN).op=20\/(p.getD i dN).op=21:=aa
  rcases this with e|e|e|e|e|e|e|e|e<;>rw[e]<;>exact⟨_,_,rfl⟩
 obtain⟨sl,r,e⟩:=key;rw[e] at h2;generalize t.kid 0 i=k at*;obtain⟨y,ky,n',rfl,_⟩:=vu h2;exact⟨At.lt h1,by rw[At.get h1];rfl,_,rfl⟩
theorem fJ (hp:p.length<=2048) (ha:t.At p 0) (hv:t.V cs) (hs:t.size=p.length) (hi:i<t.size):FQ 105 [ao p,nI i] 0 [] (.s (gb ((t.kid 0 i).starts (i+1)))) 0 []:=by
 obtain⟨sl,h1,h2⟩:=cn ha hv (Z08 i) (aa:i<0+t.size);have h3:=bC (t:=t) (Z08 i) aa;have h4:=Fo.cnt_le (t.kid 0 i);refine Dn p hp i _ aa _ ?_ (At.chain h1.2.2.1) ?_
 ·rw[bH];exact h1.2.1
 ·rw[bH];omega
theorem vo {b r:Pth} (h:(au b r).2=true):bz (au b r).1=true:=by
 unfold au at h |-;split
 ·simp_all
 ·rename_i h1
  have hb:bz b=true:=ae;have hr:aA r=true:=ae;obtain⟨b1,b2,b3⟩:=cy hb;obtain⟨r1,r2,r3,r4,r5,r6⟩:=aG hr;split
  ·grind [bz,aA]
  all_goals grind [bz,aA]
theorem rH {q:Pth} (h:aA q=true):dW q.segs:=λi hi=>by
 have h5:=(aG h).2.2.2.2.1
 grind [dG]
theorem fS {q:Pth} (h:bz q=true):dW q.segs:=rH (by grind [bz])
theorem ii (s:By):dW (ak s).1.segs:=by
 cases h:(ak s).2 with
 |true=>exact rH (im (p:=(ak s).1) (by rw[<-h]))
 |false=>
  have hf:∀ q:Pth,(eJ q).2=false->(eJ q).1=z0:=λq h=>by
   grind [eJ]
  have ht:∀ (r:Bool) (u:Nat) (l:By),(dV r u l).2=false->(dV r u l).1=z0:=λr u l h=>by
   grind [dV]
  have:(ak s).1=z0:=by
   grind [ak]
  rw[this];exact λi hi=>by simp[z0] at hi
theorem absI:bz (⟨true,0,[]⟩:Pth)=true:=ac
theorem Ee {x:Nd} {nm:Pth} {a:Inf} (h:bz a.sc=true):bz (bJ x nm i a).sc=true:=by
 grind [bJ,vo]
theorem qG:∀ {t:Fo} {j i:Nat} {a:Inf},bz a.sc=true->bz (bG t j i a).sc=true
 | .nil,_,_,_,h=>h
 | .cons x k n,j,i,a,h=>by
   unfold bG;split
   ·exact h
   ·split
    ·exact qG (Ee h)
    ·exact qG h
theorem nT (t:Fo) (i:Nat):bz (aD t i).sc=true:=qG (a:=ini) absI
end
end
