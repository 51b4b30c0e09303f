import Derived.Test.YtegjgpldfgjoiaaGreatDoorCnJ42
set_option linter.all false
set_option maxRecDepth 100000
namespace Go.Proofs.YtegjgpldfgjoiaaGreatDoor
open Go Ab
section
variable {i:Nat}
section
variable {p:List Nd} {t:Fo}
theorem zo (ha:t.At p 0) (hv:t.V (List.replicate t.cnt (false,68))):anS p t=sR p t t.size:=FY ha hv
end
end
section
variable {i:Nat}
theorem FJ {b r c:Pth} (h:c∈aS b r):bR c=true:=by
 unfold aS at h;split at h
 ·cases h
 ·rename_i h1
  have hb:bR b=true:=ae;have hr:aG r=true:=ae;split at h
  ·grind [zt]
  ·rename_i h3
   obtain⟨b1,b2,b3⟩:=cT hb
   have hbs:∀ x∈b.segs,a_ x=true:=by
    unfold bR at hb;simp only[Z07] at hb
    exact λx hx=>Z0i.1 (aR hb.2).2.2.2.2.1 x hx
   have hrs:a_ (r.segs.headD [])=true:=by
    have h5:=(aR hr).2.2.2.2.1;have hl:r.segs.length=1:=aa
    match hq:r.segs,hl with
    |[a],_=>rw[hq] at h5;simpa using h5
   have key:∀ k,k<=b.segs.length->∀ c∈cY b.segs (r.segs.headD []) k,bR c=true:=by
    intro k
    induction k with
    |zero=>
     grind [cY,bR,aG]
    |succ k ih=>
     intro hk c hc;simp only[cY] at hc;split at hc
     ·grind
     ·rename_i h32
      rcases Z0h.1 hc with rfl|hc
      ·have hall:(b.segs.take (k+1)++[r.segs.headD []]).all a_=true:=by
        grind
       have hlen:(b.segs.take (k+1)++[r.segs.headD []]).length=k+2:=by
        grind
       unfold bR aG
       grind
      all_goals grind
   grind
section
variable {p:List Nd} {t:Fo}
theorem EQ (s:By):dH (bz p t) s=match d_ p t s t.size with|some i=>(i:Int)|none=> -1:=by
 cases h:d_ p t s t.size with
 |none=>
  have h0:=jQ h
  rcases iR (p:=p) (t:=t) s with ⟨h1,_⟩|⟨k,_,h2,h3,_⟩
  all_goals grind
 |some i=>
  obtain⟨i1,i2,i3⟩:=gM h
  rcases iR (p:=p) (t:=t) s with ⟨_,h2⟩|⟨k,h1,h2,h3,h4⟩
  all_goals grind
theorem MG (ha:t.At p 0) (hv:t.V (List.replicate t.cnt (false,68))) {s:By} (hs:s≠[]):q_ (anS p t).F s=d_ p t s t.size:=by
 grind [zo,xO]
theorem Ds (ha:t.At p 0) (hv:t.V (List.replicate t.cnt (false,68))) (op:Int):∀ cs:List Pth,(∀ c∈cs,bR c=true)->
 ef p (anS p t).F op cs=if 0<=kC (bz p t) cs/\(p.getD (kC (bz p t) cs).toNat dN).op=op then kC (bz p t) cs else-1
 |[],_=>by
  show (-1:Int)=if 0<=(-1:Int)/\(p.getD (-1:Int).toNat dN).op=op then-1 else-1
  grind
 |c::cs,hc=>by
  have hne:=EM (hc c (Z17 ..));have hF:=MG ha hv hne;have hR:=EQ (p:=p) (t:=t) (aM c);have hrr:kC (bz p t) (c::cs)=if 0<=dH (bz p t) (aM c) then dH (bz p t) (aM c) else kC (bz p t) cs:=rfl;generalize kC (bz p t) (c::cs)=rr at*
  cases hf:d_ p t (aM c) t.size with
  |some i=>
   grind [jx]
  |none=>
   rw[hf] at hF hR;simp only at hR;rw[hR,if_neg ac] at hrr;subst hrr;rw[jy hF];exact Ds ha hv op cs (λc h=>hc c (Z0y _ h))
theorem Jj (ha:t.At p 0) (hv:t.V (List.replicate t.cnt (false,68))) (hs:t.size=p.length) (hi:i<t.size) (hop:jb (p.getD i dN).op=true):(anS p t).S.getD i z0=(aF t i).sc:=by
 grind [zo,C5]
theorem Dr (ha:t.At p 0) (hv:t.V (List.replicate t.cnt (false,68))) (op:Int) (i k:Nat):
 ef p (anS p t).F op (aS (aF t i).sc (ai (p.getD (i+1+k) dN).str).1)=if 0<=gj p t i k/\(p.getD (gj p t i k).toNat dN).op=op then gj p t i k else-1:=by
 exact Ds ha hv op _ λc hc=>FJ hc
theorem pE (ha:t.At p 0) (hv:t.V (List.replicate t.cnt (false,68))) (op:Int) (i k:Nat):
 ef p (anS p t).F op (aS (aF t i).sc (ai (p.getD (i+1+k) dN).str).1)<0↔gj p t i k<0\/(p.getD (gj p t i k).toNat dN).op≠op:=by
 rw[Dr ha hv];split
 ·rename_i h
  constructor
  ·intro q;omega
  ·rintro (q|q)
   ·exact q
   ·exact absurd h.2 q
 ·rename_i h
  refine⟨λ_=>?_,λ_=>by decide⟩
  rcases Int.lt_or_le (gj p t i k) 0 with q|q
  ·exact .inl q
  ·exact .inr λe=>h ⟨q,e⟩
theorem LZ (ha:t.At p 0) (hv:t.V (List.replicate t.cnt (false,68))) (hop:(p.getD i dN).op=16):ef p (anS p t).F 15 (aS (aF t i).sc (ai (p.getD (i+1) dN).str).1)<0↔jF p t i=true:=by
 rw[show i+1=i+1+0 from rfl,pE ha hv]
 grind [jF]
theorem LY (ha:t.At p 0) (hv:t.V (List.replicate t.cnt (false,68))) (hop:(p.getD i dN).op=17):
 (ef p (anS p t).F 18 (aS (aF t i).sc (ai (p.getD (i+1) dN).str).1)<0\/ef p (anS p t).F 18 (aS (aF t i).sc (ai (p.getD (i+2) dN).str).1)<0)↔jF p t i=true:=by
 rw[show i+2=i+1+1 from rfl,show i+1=i+1+0 from rfl,pE ha hv,pE ha hv];unfold jF;rw[if_neg aa,if_pos hop];simp only[Z1h,decide_eq_true_eq,or_assoc]
theorem fN (len w:Int):∀ (u:Fo) (j:Nat) (bit:Int),∀ d∈cn p len w u j bit [],d.2=7
 | .nil,_,_,d,h=>by simp[cn] at h
 | .cons x k n,j,bit,d,h=>by
   simp only[cn] at h;split at h
   ·cases h
   ·split at h
    ·exact fN len w n _ _ d h
    ·rw[dA] at h
     rcases Z0w.1 h with h|h
     ·grind
     ·exact fN len w n _ _ d h
theorem eo (lim:Int):∀ (c j:Nat) (d:Nat×Nat),d∈iY p lim c j []↔d.2=9/\j<=d.1/\d.1<j+c/\(p.getD d.1 dN).op=7/\lim<=aj p d.1
 |0,j,d=>by
  grind [iY]
 |c+1,j,d=>by
  simp only[iY];rw[mg,Z0w,eo lim c (j+1)]
  grind
theorem dF (bl:Fo) (i:Nat) (d:Nat×Nat):d∈ov p bl i []↔d∈iY p (aj p (i+2)) (bl.size+1) (i+5) []\/d∈aT false bl (i+6) false true []:=by
 unfold ov;rw[bp,Z0w]
theorem eH (ha:t.At p 0) (hv:t.V (List.replicate t.cnt (false,68))) (hs:t.size=p.length) {j:Nat} (hj:j<t.size) (d:Nat×Nat):
 d∈pR p (anS p t).F (anS p t).S t j↔d=(j,4)/\aN p j=true\/d=(j,5)/\qS p j=true\/d=(j,6)/\jF p t j=true\/
  (p.getD j dN).op=16/\jF p t j=false/\aN p (gj p t j 0).toNat=false/\aN p j=false/\d∈cn p (aj p ((gj p t j 0).toNat+4)) (aj p (j+2)) (am (t.kid 0 j)) (j+5) 0 []\/
  (p.getD j dN).op=14/\d∈ov p (am (t.kid 0 j)) j []:=by
 unfold pR;rw[Z0w]
 have h4:d∈(if aN p j then [(j,4)] else []:Dgs)↔d=(j,4)/\aN p j=true:=by
  grind
 rw[h4];refine or_congr_right ?_;unfold ja;by_cases h50:(p.getD j dN).op=50\/(p.getD j dN).op=51
 ·rw[if_pos h50]
  have hno:jF p t j=false:=by unfold jF;rw[if_neg aa,if_neg aa]
  have hto:qS p j=decide (aj p (j+1)<(p.getD (j+2) dN).kids):=by grind [qS]
  grind
 ·rw[if_neg h50]
  have hto:qS p j=false:=by grind [qS]
  rw[hto];by_cases h16:(p.getD j dN).op=16
  ·rw[if_pos h16]
   have hS:=Jj ha hv hs hj (by grind [jb]);rw[hS];have hn:=LZ ha hv h16;have hT:=Dr ha hv 15 j 0;unfold iT
   grind
  ·rw[if_neg h16]
   by_cases h17:(p.getD j dN).op=17
   ·rw[if_pos h17]
    have hS:=Jj ha hv hs hj (by grind [jb])
    grind [LY]
   all_goals grind [jF]
theorem lQ (ha:t.At p 0) (hv:t.V (List.replicate t.cnt (false,68))) (hs:t.size=p.length) (d:Nat×Nat):
 d∈mh p t↔(∃ j,j<t.size/\d∈Ch p t j)\/∃ j,j<t.size/\d∈pR p (anS p t).F (anS p t).S t j:=by
 unfold mh
 grind [lC,zo,C7]
theorem iz (ha:t.At p 0) {j:Nat} (hj:j<t.size) (d:Nat×Nat):d∈Ch p t j↔d=(j,2)/\kE p t j=true\/d=(j,3)/\qp p t j=true:=by
 grind [FT,Ch,qp]
end
end
section
variable {i:Nat} {c op:Int}
def Jx (op:Int):Bool:=decide (op=33\/op=34\/op=35)
def bN:Bool->Fo->Nat->Nat->Bool->Bool->Option (Bool×Bool)
 |_,.nil,_,_,_,_=>none
 |true,.cons x k n,j,i,lp,r=>if i<j+1+k.size then (if x.op=4/\j<i then bN false k (j+1) i lp true else none) else bN true n (j+1+k.size) i lp r
 |false,.cons x k n,j,i,lp,r=>
  if i=j then some (lp,r)
  else if i<j+1+k.size then (if x.op=31 then bN true k (j+1) i lp true else if x.op=32 then bN true k (j+1) i true true else none)
  else bN false n (j+1+k.size) i lp (r&& !Jx x.op)
theorem fk:∀ {m:Bool} {u:Fo} {j i:Nat} {lp r:Bool} {q:Bool×Bool},bN m u j i lp r=some q->j<=i/\i<j+u.size
 |true,.nil,_,_,_,_,_,h=>by simp[bN] at h
 |false,.nil,_,_,_,_,_,h=>by simp[bN] at h
 |true,.cons x k n,j,i,lp,r,q,h=>by
  simp only[bN] at h;simp only[Fo.size];split at h
  ·grind
  ·have:=fk h;omega
 |false,.cons x k n,j,i,lp,r,q,h=>by
  simp only[bN] at h;simp only[Fo.size];split at h
  ·omega
  ·split at h
   ·split at h
    ·have:=fk h;omega
    ·split at h
     ·have:=fk h;omega
     ·cases h
   ·have:=fk h;omega
section
variable {p:List Nd} {t:Fo}
def xT (p:List Nd) (i c:Nat) (q:Bool×Bool):Prop:=c=10/\q.2=false\/c=8/\((p.getD i dN).op=34\/(p.getD i dN).op=35)/\q.1=false
theorem fe {m:Bool} {u:Fo} {j c:Nat} {lp r:Bool} (h:(i,c)∈aT m u j lp r []):j<=i/\i<j+u.size:=(ib m u j lp r).2 _ h
theorem cZ:∀ (m:Bool) (u:Fo) (j:Nat) (lp r:Bool),u.At p j->∀ i c,(i,c)∈aT m u j lp r []↔∃ q,bN m u j i lp r=some q/\xT p i c q
 |true,.nil,_,_,_,_,i,c=>by simp[aT,bN]
 |false,.nil,_,_,_,_,i,c=>by simp[aT,bN]
 |true,.cons x k n,j,lp,r,ha,i,c=>by
  simp only[aT,bN];rw[bp,Z0w];by_cases h1:i<j+1+k.size
  ·rw[if_pos h1]
   have hn: ¬(i,c)∈aT true n (j+1+k.size) lp r []:=λh=>by have:=fe h;omega
   by_cases h4:x.op=4
   ·rw[if_pos h4]
    by_cases hj:j<i
    ·rw[if_pos ⟨h4,hj⟩,<-cZ false k (j+1) lp true ha.2.2.1 i c]
     grind
    ·rw[if_neg (λh=>hj h.2)]
     constructor
     ·rintro (h|h)
      ·have:=fe h;omega
      all_goals grind
     all_goals grind
   all_goals grind
  ·rw[if_neg h1,<-cZ true n (j+1+k.size) lp r ha.2.2.2 i c]
   refine⟨λh=>h.resolve_left λh=>?_,.inr⟩;split at h
   ·have:=fe h;omega
   ·cases h
 |false,.cons x k n,j,lp,r,ha,i,c=>by
  simp only[aT,bN];have hx:=At.get ha;rw[bp,Z0w]
  have hE:∀ X:Dgs,X=cx x.op j lp (eA j r [])->((i,c)∈X↔i=j/\xT p i c (lp,r)):=by
   grind [cx,eA,xT]
  have hX:(i,c)∈(if x.op=31 then aT true k (j+1) lp true (cx x.op j lp (eA j r [])) else if x.op=32 then aT true k (j+1) true true (cx x.op j lp (eA j r [])) else cx x.op j lp (eA j r []))↔
   (i=j/\xT p i c (lp,r))\/(i,c)∈(if x.op=31 then aT true k (j+1) lp true [] else if x.op=32 then aT true k (j+1) true true [] else []):=by
   grind [bp]
  rw[hX];by_cases hi:i=j
  ·rw[if_pos hi]
   constructor
   ·rintro ((h|h)|h)
    ·grind
    ·exfalso
     split at h
     ·have:=fe h;omega
     ·split at h
      ·have:=fe h;omega
      ·cases h
    ·have:=fe h;omega
   all_goals grind
  ·rw[if_neg hi]
   by_cases h1:i<j+1+k.size
   ·rw[if_pos h1]
    have hn: ¬(i,c)∈aT false n (j+1+k.size) lp (r&& !decide (x.op=33\/x.op=34\/x.op=35)) []:=λh=>by have:=fe h;omega
    have e:(((i=j/\xT p i c (lp,r))\/(i,c)∈(if x.op=31 then aT true k (j+1) lp true [] else if x.op=32 then aT true k (j+1) true true [] else []))\/(i,c)∈aT false n (j+1+k.size) lp (r&& !decide (x.op=33\/x.op=34\/x.op=35)) [])↔(i,c)∈(if x.op=31 then aT true k (j+1) lp true [] else if x.op=32 then aT true k (j+1) true true [] else []):=
     ⟨λh=>by
      rcases h with (h|h)|h
      ·exact absurd h.1 hi
      ·exact h
      ·exact absurd h hn,λh=> .inl (.inr h)⟩
    rw[e];split
    ·exact cZ true k (j+1) lp true ha.2.2.1 i c
    ·split
     ·exact cZ true k (j+1) true true ha.2.2.1 i c
     ·simp
   ·rw[if_neg h1]
    have:=cZ false n (j+1+k.size) lp (r&& !Jx x.op) ha.2.2.2 i c;rw[<-this];constructor
    ·rintro ((h|h)|h)
     ·grind
     ·exfalso
      split at h
      ·have:=fe h;omega
      ·split at h
       ·have:=fe h;omega
       ·cases h
     ·exact h
    ·exact .inr
theorem jm:∀ {u:Fo} {j i:Nat} {lp r:Bool},u.At p j->i∈u.starts j->bN false u j i lp r=some (lp,r&& !qQ p i (u.starts j))
 | .nil,_,_,_,_,_,h=>by simp[Fo.starts] at h
 | .cons x k n,j,i,lp,r,ha,h=>by
   simp only[Fo.starts,Z0h] at h;have hx:=At.get ha;simp only[bN,Fo.starts,qQ];by_cases hi:i=j
   ·grind
   ·have h:=h.resolve_left hi
    have hg:=bC h;rw[if_neg hi,if_neg aa,if_neg (λe=>hi e.symm),jm ha.2.2.2 h,hx]
    grind [Jx]
theorem rA:∀ {u:Fo} {j b i:Nat} {lp r:Bool},u.At p j->b∈u.starts j->(p.getD b dN).op=4->b<i->i<b+1+(u.kid j b).size->bN true u j i lp r=bN false (u.kid j b) (b+1) i lp true
 | .nil,_,_,_,_,_,_,h,_,_,_=>by simp[Fo.starts] at h
 | .cons x k n,j,b,i,lp,r,ha,h,h4,h1,h2=>by
   simp only[Fo.starts,Z0h] at h;have hx:=At.get ha;unfold Fo.kid at h2 |-;simp only[bN];by_cases hb:b=j
   ·grind
   ·have h:=h.resolve_left hb
    have hg:=bC h;rw[if_neg hb,if_neg (show ¬b<j+1+k.size by omega)] at h2 |-;rw[if_neg aa];exact rA ha.2.2.2 h h4 h1 h2
theorem fT:∀ {m:Bool} {u:Fo} {j f i:Nat} {lp r:Bool} {q:Bool×Bool},u.At p j->bN m u j f lp r=some q->f<i->i<f+1+(u.kid j f).size->
 bN m u j i lp r=if (p.getD f dN).op=31 then bN true (u.kid j f) (f+1) i q.1 true else if (p.getD f dN).op=32 then bN true (u.kid j f) (f+1) i true true else none
 |true,.nil,_,_,_,_,_,_,_,h,_,_=>by simp[bN] at h
 |false,.nil,_,_,_,_,_,_,_,h,_,_=>by simp[bN] at h
 |true,.cons x k n,j,f,i,lp,r,q,ha,h,h1,h2=>by
  have hx:=At.get ha;have hk:=fk h;simp only[Fo.size] at hk;have hks:=bv (t:=.cons x k n) hk.1 (by simpa [Fo.size] using hk.2);simp only[bN] at h;by_cases hfk:f<j+1+k.size
  ·rw[if_pos hfk] at h
   split at h
   ·rename_i h4
    have hkid:(Fo.cons x k n).kid j f=k.kid (j+1) f:=by grind [Fo.kid]
    rw[hkid] at h2 hks |-;have hks':=bv (t:=k) (j:=j+1) (i:=f) aa aa;simp only[bN];rw[if_pos aa,if_pos ⟨h4.1,aa⟩];exact fT ha.2.2.1 h h1 h2
   ·cases h
  ·rw[if_neg hfk] at h
   have hkid:(Fo.cons x k n).kid j f=n.kid (j+1+k.size) f:=by grind [Fo.kid]
   rw[hkid] at h2 hks |-;simp only[bN];rw[if_neg aa];exact fT ha.2.2.2 h h1 h2
 |false,.cons x k n,j,f,i,lp,r,q,ha,h,h1,h2=>by
  have hx:=At.get ha;have hk:=fk h;simp only[Fo.size] at hk;unfold Fo.kid at h2 |-;simp only[bN] at h |-;by_cases hf:f=j
  ·grind
  ·rw[if_neg hf] at h
   rw[if_neg (show ¬i=j by omega)];by_cases hfk:f<j+1+k.size
   ·rw[if_pos hfk] at h
    have hks':=bv (t:=k) (j:=j+1) (i:=f) aa aa;rw[if_neg hf,if_pos hfk] at h2 |-;rw[if_pos aa];split at h
    ·rename_i h31
     rw[if_pos h31];exact fT ha.2.2.1 h h1 h2
    ·rename_i h31
     rw[if_neg h31];split at h
     ·rename_i h32
      rw[if_pos h32];exact fT ha.2.2.1 h h1 h2
     ·cases h
   ·rw[if_neg hfk] at h
    rw[if_neg hf,if_neg hfk] at h2 |-;rw[if_neg aa];exact fT ha.2.2.2 h h1 h2
def IV (op:Int) (b:UInt8):Bool:=decide (op≠31/\op≠32)||decide (b=83)|| !dY (b.toNat:Int)
theorem yy {kids:Int} (h:bH c op=true):∀ b∈(av op kids).1,IV op b=true:=mS (by decide+kernel) ac ac ac h
theorem hZ:∀ {m:Bool} {u:Fo} {j i:Nat} {lp r:Bool} {q:Bool×Bool} {cs:List (Bool×Int)},u.At p j->u.V cs->(m=false->∀ sl∈cs,sl=(false,83))->(m=true->∀ sl∈cs,sl.1=true->sl.2=83)->bN m u j i lp r=some q->
 bH 83 (p.getD i dN).op=true/\((m=false/\i∈u.starts j)\/∃ b,j<=b/\b<i/\(p.getD b dN).op=4/\i∈(u.kid j b).starts (b+1))
 |true,.nil,_,_,_,_,_,_,_,_,_,_,h=>by simp[bN] at h
 |false,.nil,_,_,_,_,_,_,_,_,_,_,h=>by simp[bN] at h
 |true,.cons x k n,j,i,lp,r,q,cs,ha,hv,_,hc,h=>by
  have hx:=At.get ha;simp only[bN] at h;split at h
  ·rename_i hk
   split at h
   ·rename_i h4
    obtain⟨c,hkv⟩:∃ c,c=(83:Int)/\k.V (List.replicate k.cnt (false,c)):=by
     match cs,hv with
     |(true,c)::cs',⟨h1,h2,h3⟩=>exact⟨c,hc rfl (true,c) (Z17 ..) rfl,h2⟩
     |(false,c)::cs',⟨h1,h2,h3⟩=>rw[h4.1,MI] at h1;exact absurd h1.1 ac
    obtain⟨rfl,hkv⟩:=hkv;obtain⟨g1,g2⟩:=hZ ha.2.2.1 hkv (λ_ sl hsl=>(Z3b.1 hsl).2) (λh=>by cases h) h
    grind [Fo.kid]
   ·cases h
  ·rename_i hk
   obtain⟨sl,cs',rfl,hn⟩:∃ sl cs',cs=sl::cs'/\n.V cs':=by
    match cs,hv with
    |(true,c)::cs',⟨h1,h2,h3⟩=>exact⟨_,_,rfl,h3⟩
    |(false,c)::cs',⟨h1,h2,h3⟩=>exact⟨_,_,rfl,h3⟩
   obtain⟨g1,g2⟩:=hZ ha.2.2.2 hn (λh=>by cases h) (λe sl hsl=>hc e sl (Z0y _ hsl)) h
   grind [Fo.kid]
 |false,.cons x k n,j,i,lp,r,q,cs,ha,hv,hc,_,h=>by
  have hx:=At.get ha;simp only[bN] at h
  obtain⟨hx83,hkv,cs',hcs,hn⟩:bH 83 x.op=true/\k.V (dB (av x.op x.kids).1)/\∃ cs',(∀ sl∈cs',sl=(false,83))/\n.V cs':=by
   match cs,hv with
   |(true,c)::cs',hv=>exact absurd (hc rfl (true,c) (Z17 ..)) aq
   |(false,c)::cs',⟨h1,h2,h3⟩=>
    have hc0:=hc rfl (false,c) (Z17 ..);simp only[Z0j,true_and] at hc0;subst hc0;exact⟨h1.1,h2,cs',λsl hsl=>hc rfl sl (Z0y _ hsl),h3⟩
  split at h
  ·grind [Fo.starts]
  ·rename_i hi
   split at h
   ·rename_i hk
    have key:∀ lp',(x.op=31\/x.op=32)->bN true k (j+1) i lp' true=some q->bH 83 (p.getD i dN).op=true/\((false=false/\i∈(Fo.cons x k n).starts j)\/∃ b,j<=b/\b<i/\(p.getD b dN).op=4/\i∈((Fo.cons x k n).kid j b).starts (b+1)):=by
     intro lp' ho h
     obtain⟨g1,g2⟩:=hZ ha.2.2.1 hkv (λh=>by cases h) (λ_ sl hsl h1=>by
      obtain⟨b,hb,rfl⟩:=eS hsl;have hq:=yy hx83 b hb;unfold IV at hq;simp only at h1;rw[h1] at hq
      have hb83:b=83:=by
       simp only[Z1h,decide_eq_true_eq,Z2z,Z41] at hq
       rcases hq with hq|hq
       ·omega
       ·exact hq
      subst hb83;rfl) h
     grind [Fo.kid]
    grind
   ·obtain⟨g1,g2⟩:=hZ ha.2.2.2 hn (λ_=>hcs) (λh=>by cases h) h
    grind [Fo.starts,Fo.kid]
theorem Bh (h:bH c op=true) (ho:op=31\/op=32\/op=33\/op=34\/op=35):c=83:=by
 unfold bH at h;split at h
 ·grind
 split at h
 ·grind
 split at h
 ·simp[gK,cJ] at h;omega
 split at h
 all_goals grind [cJ,dy]
theorem K4 (h:bH c op=true) (hb:dY c=true) (h83:bH 83 op=true):c=83:=by
 grind [cJ,dy,bH,dY]
theorem qC {c':Int}:∀ (ls:List Int) (u:Fo) (i b:Nat),(ls.all eI)=true->u.V (ls.map (λc=>(false,c))++[(true,c')])->u.At p i->b∈u.starts i->(p.getD b dN).op=4->b=i+ls.length
 |[],u,i,b,_,h,ha,hb,h4=>by
  grind [Fo.starts,jY,iE]
 |c::ls,u,i,b,hl,h,ha,hb,h4=>by
  simp only[Z1b,Z07] at hl;obtain⟨y,n,rfl,h1,h2⟩:=eN hl.1 h;have hx:=At.get ha;simp only[Fo.starts,Z0h] at hb
  rcases hb with rfl|hb
  ·grind
  ·have:=qC ls n _ b hl.2 h1 ha.2.2.2 hb h4
   grind [Fo.size]
theorem FR (ha:t.At p 0) (hv:t.V (List.replicate t.cnt (false,68))) {b:Nat} (hb:b<t.size) (h4:(p.getD b dN).op=4):
 ∃ c,oe p t b (true,c)/\dY c=true/\∃ f,f<b/\aF t b=bq (p.getD f dN) (aw (t.kid 0 f)) f (aF t f)/\b∈(t.kid 0 f).starts (f+1)/\(c=83->(p.getD f dN).op=14\/(p.getD f dN).op=31\/(p.getD f dN).op=32):=by
 obtain⟨sb,g1,g2⟩:=ii ha hv hb;have hsb:=(iB g1).2 h4
 rcases g2 with ⟨_,g⟩|⟨f,slf,hfb,hcf,hbf,hnf,g⟩
 ·grind
 rcases g with ⟨_,g,_⟩|⟨_,g3,g4⟩
 ·grind
 ·obtain⟨x,hx,e⟩:=eS g4
  rw[e] at g1 hsb;refine⟨(x.toNat:Int),ae,hsb,f,hfb,hcf,hbf,λh83=>?_⟩
  have hx83:x=83:=by
   have:=Z39 (a:=x) (b:=83)
   grind
  subst hx83;exact Aj (kW (kids:=(p.getD f dN).kids) g3 _ hx)
theorem uq (ha:t.At p 0) (hv:t.V (List.replicate t.cnt (false,68))) {b:Nat} (hb:b<t.size) (hn:oe p t b (true,c)) (hi:i∈(t.kid 0 b).starts (b+1)):bH c (p.getD i dN).op=true:=by
 obtain⟨s',q1,q2⟩:=lw ha hb hn hv hi
 rcases q2 with ⟨_,q,_⟩|⟨q,_⟩
 ·subst q;exact q1.1.1
 ·cases q
theorem zS (ha:t.At p 0) (hv:t.V (List.replicate t.cnt (false,68))) (hi:i<t.size) (ho:(p.getD i dN).op=31\/(p.getD i dN).op=32\/(p.getD i dN).op=33\/(p.getD i dN).op=34\/(p.getD i dN).op=35):
 ∃ b,b<i/\(p.getD b dN).op=4/\i∈(t.kid 0 b).starts (b+1)/\bH 83 (p.getD i dN).op=true:=by
 obtain⟨⟨sb,sc⟩,g1,g2⟩:=ii ha hv hi
 have hsb:sb=false:=by
  cases sb
  ·rfl
  ·have:=(iB g1).1 rfl;omega
 subst hsb;have h83:=Bh g1.1.1 ho;subst h83
 rcases g2 with ⟨_,g⟩|⟨b,slb,hb,_,hib,_,g⟩
 ·cases g
 rcases g with ⟨_,_,g⟩|⟨_,_,g⟩
 ·exact⟨b,hb,g,hib,g1.1.1⟩
 ·obtain⟨x,_,e⟩:=eS g
  simp only[Z0j] at e;rw[<-e.2] at e;exact absurd e.1 ac
theorem pk (ha:t.At p 0) (hv:t.V (List.replicate t.cnt (false,68))):∀ i,i<t.size->∀ b,b<i->(p.getD b dN).op=4->i∈(t.kid 0 b).starts (b+1)->bH 83 (p.getD i dN).op=true->
 ∃ M:Nat,M<i/\(aF t i).me=(M:Int)/\(p.getD M dN).op=14/\bN false (am (t.kid 0 M)) (M+6) i false true=some (decide (0<=(aF t i).lo),!po p t i):=by
 intro i
 induction i using Nat.strongRecOn with
 |ind i ih=>
  intro hi b hbi h4 hib h83;have hb:b<t.size:=aa;obtain⟨c,n1,n2,f,hfb,hcf,hbf,hop⟩:=FR ha hv hb h4;have hc83:c=83:=K4 (uq ha hv hb n1 hib) n2 h83;have hop:=hop hc83;have hci:=(fi ha hb hib).2.2
  have hme:(aF t i).me=(aF t b).me:=by grind [bq]
  have hlo:(aF t i).lo=(aF t b).lo:=by grind [bq]
  have hpa:(aF t i).pa=(b:Int):=by rw[hci];rfl
  have hun:po p t i=qQ p i ((t.kid 0 b).starts (b+1)):=by
   grind [po]
  obtain⟨_,kb,_⟩:=cM ha hv (Z08 b) (aa:b<0+t.size);have kbA:=kb.2.2.1;have hrb:=bC hbf;by_cases h14:(p.getD f dN).op=14
  ·refine⟨f,aa,by grind [bq],h14,?_⟩
   obtain⟨_,f1,f2,_,_⟩:=bT ha hv (show f<t.size by omega) aa;rw[h14,gt] at f2;have hbe:=qC (c':=83) [115,105,105,105] (t.kid 0 f) (f+1) b ac f2 f1 hbf h4;have hbe:b=f+5:=ae;obtain⟨_,k2⟩:=(fa (c':=83) [115,105,105,105] (t.kid 0 f) ac f2).2 (f+1)
   have hk:t.kid 0 b=am (t.kid 0 f):=by
    rw[(ct ha (Z08 f) aa hfb aa ini).1,<-k2,hbe];rfl
   rw[hk,hbe] at kbA hib hun;rw[jm kbA hib,hun,hlo,hcf];unfold bq;simp only;rw[if_pos h14];rfl
  ·have h31:=hop.resolve_left h14
   obtain⟨b',hb1,hb2,hb3,hb4⟩:=zS ha hv (show f<t.size by omega) aa;obtain⟨M,m1,m2,m3,m4⟩:=ih f aa aa b' hb1 hb2 hb3 hb4;refine⟨M,aa,by grind [bq],m3,?_⟩;obtain⟨_,q1,q2,_,_⟩:=bT ha hv (show M<t.size by omega) aa;rw[m3,gt] at q2;obtain⟨s1,s2⟩:=fa (c':=83) [115,105,105,105] (t.kid 0 M) ac q2;obtain⟨s3,s4⟩:=s2 (M+1);have e5:M+1+([115,105,105,105]:List Int).length=M+5:=aq;rw[e5] at s3 s4;have hszM:(t.kid 0 M).size=5+(am (t.kid 0 M)).size:=ae;have hMs:=bv (t:=t) (Z08 M) aa
   have hk5:t.kid 0 (M+5)=am (t.kid 0 M):=by rw[(ct ha (Z08 M) aa (aa:M<M+5) aa ini).1,s4]
   obtain⟨_,k5,_⟩:=cM ha hv (Z08 (M+5)) (aa:M+5<0+t.size);have k5A:=k5.2.2.1;rw[hk5] at k5A;have hrg:=fk m4
   have hkf:(am (t.kid 0 M)).kid (M+6) f=t.kid 0 f:=by
    rw[(ct ha (Z08 (M+5)) aa (aa:M+5<f) ae ini).1,hk5]
   have hri:=bC hib;have hsb:=iH ha (show f<t.size by omega) hfb aa;rw[fT k5A m4 (show f<i by omega) ae,hkf];obtain⟨_,kf,_⟩:=cM ha hv (Z08 f) (aa:f<0+t.size);have kfA:=kf.2.2.1
   have hkb:(t.kid 0 f).kid (f+1) b=t.kid 0 b:=by
    rw[(ct ha (Z08 f) aa hfb aa ini).1]
   have hvb:∀ lp,bN true (t.kid 0 f) (f+1) i lp true=some (lp,!po p t i):=λlp=>by
    rw[rA kfA hbf h4 hbi ae,hkb,jm kbA hib,hun];rfl
   rw[hvb,hvb,hlo,hcf];unfold bq
   grind
theorem uS (ha:t.At p 0) (hv:t.V (List.replicate t.cnt (false,68))) {M:Nat} (hM:M<t.size) (h14:(p.getD M dN).op=14) {q:Bool×Bool} (h:bN false (am (t.kid 0 M)) (M+6) i false true=some q):
 i<t.size/\q=(decide (0<=(aF t i).lo),!po p t i):=by
 obtain⟨_,q1,q2,_,_⟩:=bT ha hv hM aa;rw[h14,gt] at q2;obtain⟨s1,s2⟩:=fa (c':=83) [115,105,105,105] (t.kid 0 M) ac q2;obtain⟨s3,s4⟩:=s2 (M+1);have e5:M+1+([115,105,105,105]:List Int).length=M+5:=aq;rw[e5] at s3 s4;have hszM:(t.kid 0 M).size=5+(am (t.kid 0 M)).size:=ae;have hMs:=bv (t:=t) (Z08 M) aa
 have hk5:t.kid 0 (M+5)=am (t.kid 0 M):=by rw[(ct ha (Z08 M) aa (aa:M<M+5) aa ini).1,s4]
 obtain⟨_,k5,_⟩:=cM ha hv (Z08 (M+5)) (aa:M+5<0+t.size);have k5A:=k5.2.2.1;rw[hk5] at k5A;obtain⟨b,_,hb2⟩:=aV (c':=83) [115,105,105,105] (t.kid 0 M) ac q2;have hbV:=(hb2 p (M+1) q1).2.2.1
 have hop5:(p.getD (M+5) dN).op=4:=by
  have:=(hb2 p (M+1) q1).1;rw[show M+1+([115,105,105,105]:List Int).length=M+5 by simp] at this;rw[At.get this];exact (hb2 p (M+1) q1).2.1.1
 have hrg:=fk h;obtain⟨g1,g2⟩:=hZ k5A hbV (λ_ sl hsl=>(Z3b.1 hsl).2) (λh=>by cases h) h
 have hb:∃ b,b<i/\(p.getD b dN).op=4/\i∈(t.kid 0 b).starts (b+1):=by
  rcases g2 with ⟨_,g⟩|⟨b,b1,b2,b3,b4⟩
  ·grind
  ·refine⟨b,b2,b3,?_⟩
   rw[(ct ha (Z08 (M+5)) aa (aa:M+5<b) ae ini).1,hk5];exact b4
 obtain⟨b,b1,b2,b3⟩:=hb;obtain⟨M',m1,m2,m3,m4⟩:=pk ha hv i aa b b1 b2 b3 g1
 grind [tF]
end
end
section
variable {i c:Nat}
section
variable {p:List Nd} {t:Fo}
theorem Hk (q w len:Int):len<(q+1)*w↔8*len<(q+1)*(8*w):=ae
theorem mA {len w:Int} {u:Fo} {j:Nat} {bit:Int} (h:(i,c)∈cn p len w u j bit []):i∈u.starts j:=by
 induction u generalizing j bit with
 |nil=>simp[cn] at h
 |cons x k n _ ih=>
  grind [cn,Fo.starts,dA]
theorem iG (len w:Int):∀ (u:Fo) (j:Nat) (bit:Int),u.At p j->∀ i,i∈u.starts j->((i,7)∈cn p len w u j bit []↔(p.getD i dN).op≠19/\aN p i=false/\ye p i len w (qD p (u.starts j) i bit)=true)
 | .nil,j,bit,_,i,h=>by simp[Fo.starts] at h
 | .cons x k n,j,bit,ha,i,h=>by
   have hx:=At.get ha;simp only[Fo.starts,Z0h] at h;simp only[cn,Fo.starts,qD]
   have hbe:∀ w',(i,7)∈cn p len w n (j+1+k.size) w' []->j+1+k.size<=i:=λw' q=>(bC (mA q)).1
   by_cases hi:i=j
   ·subst hi
    rw[if_pos rfl,hx];split
    ·rename_i ho;rw[ho];simp
    ·rename_i ho
     have ho:aN p i=false:=by cases q:aN p i<;>simp_all
     split
     ·rename_i h19
      constructor
      ·intro q;have:=hbe _ q;omega
      ·rintro⟨q,_⟩;exact absurd h19 q
     ·rename_i h19
      rw[dA,Z0w];unfold ye;simp only;rw[decide_eq_true_eq,<-Hk];constructor
      ·rintro (q|q)
       ·split at q
        ·exact⟨h19,ho,‹_›⟩
        ·cases q
       ·have:=hbe _ q;omega
      ·rintro⟨_,_,q⟩
       left;rw[if_pos q];simp
   ·have h:=h.resolve_left hi
    rw[if_neg (show ¬j=i from λe=>hi e.symm),hx];split
    ·simp[ye]
    ·split
     ·exact iG len w n _ _ ha.2.2.2 i h
     ·rw[dA,Z0w,iG len w n _ _ ha.2.2.2 i h]
      grind
theorem tS (ha:t.At p 0) (hv:t.V (List.replicate t.cnt (false,68))) {f:Nat} (hf:f<t.size) (h16:(p.getD f dN).op=16):
 f+4<t.size/\t.kid 0 (f+4)=am (t.kid 0 f)/\(aF t (f+4)).pa=(f:Int)/\(am (t.kid 0 f)).At p (f+5)/\(∀ b,b∈(t.kid 0 f).starts (f+1)->(p.getD b dN).op=4->b=f+4)/\∀ e∈(am (t.kid 0 f)).starts (f+5),e<t.size/\(aF t e).pa=((f+4:Nat):Int)/\((p.getD e dN).op=18\/(p.getD e dN).op=19):=by
 obtain⟨u1,u2,u3,u4⟩:=GI ha hv hf h16;obtain⟨_,q1,q2,_,_⟩:=bT ha hv hf aa;rw[h16,v_] at q2;have hfs:=bv (t:=t) (Z08 f) aa;obtain⟨_,k5,_⟩:=cM ha hv (Z08 (f+4)) (aa:f+4<0+t.size);have k5A:=k5.2.2.1;rw[u2] at k5A;obtain⟨b,_,hb2⟩:=aV (c':=70) [110,105,105] (t.kid 0 f) ac q2;have hbV:=(hb2 p (f+1) q1).2.2.1;refine⟨aa,u2,u3,k5A,λb hb h4=>?_,λe he=>⟨?_,u4 e he,?_⟩⟩
 ·have:=qC (c':=70) [110,105,105] (t.kid 0 f) (f+1) b ac q2 q1 hb h4
  grind
 ·have:=bC he;omega
 ·obtain⟨sl,hs,g⟩:=eq k5A hbV he
  have:=(Z3b.1 hs).2;subst this;exact nE g.1.1
theorem mem7 (ha:t.At p 0) (hv:t.V (List.replicate t.cnt (false,68))) (hs:t.size=p.length) (hi:i<t.size):(i,7)∈mh p t↔fP p t i=true:=by
 rw[lQ ha hv hs];constructor
 ·rintro (⟨j,hj,h⟩|⟨j,hj,h⟩)
  ·grind [iz]
  ·rw[eH ha hv hs hj] at h
   rcases h with ⟨h,_⟩|⟨h,_⟩|⟨h,_⟩|⟨h16,h1,h2,h3,h⟩|⟨_,h⟩
   ·cases h
   ·cases h
   ·cases h
   ·obtain⟨b1,b2,b3,b4,b5,b6⟩:=tS ha hv hj h16
    have hst:=mA h;obtain⟨c1,c2,c3⟩:=b6 i hst;rw[iG _ _ _ _ _ b4 i hst] at h
    have hf:oA t i=j:=by unfold oA;rw[c2,Z12,b3,Z12]
    grind [fP]
   ·rw[dF] at h
    rcases h with h|h
    ·grind [eo]
    ·rcases dr _ _ _ _ _ _ h with h|h<;>cases h
 ·intro h
  unfold fP at h;split at h
  ·rename_i hc
   obtain⟨h18,h16,h1,h3,h2,h5⟩:=hc;obtain⟨f,b,f1,f2,f3,f4,f5,f6,f7,f8,f9⟩:=zI ha hv hi h18
   have hf:oA t i=f:=by unfold oA;rw[f3,Z12,f4,Z12]
   rw[hf] at h h16 h1 h3 h5;obtain⟨b1,b2,b3,b4,b5,b6⟩:=tS ha hv (show f<t.size by omega) h16;have hb:=b5 b f8 f5;rw[f3,Z12,hb,b2] at h;rw[hb,b2] at f7;refine .inr ⟨f,aa,(eH ha hv hs aa _).2 (.inr (.inr (.inr (.inl ⟨h16,h1,h5,h3,?_⟩))))⟩
   grind [iG]
  ·cases h
theorem lP (ha:t.At p 0) (hv:t.V (List.replicate t.cnt (false,68))) (hs:t.size=p.length) {d:Nat×Nat} (hd:8<=d.2):d∈mh p t↔∃ M,M<t.size/\(p.getD M dN).op=14/\d∈ov p (am (t.kid 0 M)) M []:=by
 rw[lQ ha hv hs];constructor
 ·grind [iz,eH,fN]
 ·rintro⟨M,hM,h1,h2⟩
  exact .inr ⟨M,hM,(eH ha hv hs hM _).2 (.inr (.inr (.inr (.inr ⟨h1,h2⟩))))⟩
theorem mem8 (ha:t.At p 0) (hv:t.V (List.replicate t.cnt (false,68))) (hs:t.size=p.length) (hi:i<t.size):(i,8)∈mh p t↔BU p t i=true:=by
 rw[lP ha hv hs (Z02 _)];unfold BU;rw[Z07,decide_eq_true_eq,decide_eq_true_eq]
 have hAt:∀ M,M<t.size->(p.getD M dN).op=14->(am (t.kid 0 M)).At p (M+6):=λM hM h14=>by
  obtain⟨_,q1,q2,_,_⟩:=bT ha hv hM aa;rw[h14,gt] at q2;obtain⟨b,_,hb2⟩:=aV (c':=83) [115,105,105,105] (t.kid 0 M) ac q2;have:=(hb2 p (M+1) q1).1.2.2.1
  grind
 constructor
 ·rintro⟨M,hM,h14,h⟩
  rw[dF] at h
  rcases h with h|h
  ·rw[eo] at h;exact absurd h.1 (by simp only;omega)
  ·obtain⟨q,hq,hsay⟩:=(cZ false _ _ false true (hAt M hM h14) i 8).1 h
   have:=(uS ha hv hM h14 hq).2;subst this;unfold xT at hsay
   rcases hsay with ⟨h,_⟩|⟨_,h1,h2⟩
   ·cases h
   ·exact⟨h1,by have:=of_decide_eq_false h2;omega⟩
 ·rintro⟨h1,h2⟩
  obtain⟨b,b1,b2,b3,b4⟩:=zS ha hv hi aa;obtain⟨M,m1,m2,m3,m4⟩:=pk ha hv i hi b b1 b2 b3 b4;refine⟨M,aa,m3,?_⟩;rw[dF];exact .inr ((cZ false _ _ false true (hAt M aa m3) i 8).2 ⟨_,m4,.inr ⟨rfl,h1,decide_eq_false aa⟩⟩)
theorem L6 (ha:t.At p 0) (hv:t.V (List.replicate t.cnt (false,68))) (hs:t.size=p.length) (hi:i<t.size):(i,10)∈mh p t↔po p t i=true:=by
 rw[lP ha hv hs ae]
 have hAt:∀ M,M<t.size->(p.getD M dN).op=14->(am (t.kid 0 M)).At p (M+6):=λM hM h14=>by
  obtain⟨_,q1,q2,_,_⟩:=bT ha hv hM aa;rw[h14,gt] at q2;obtain⟨b,_,hb2⟩:=aV (c':=83) [115,105,105,105] (t.kid 0 M) ac q2;have:=(hb2 p (M+1) q1).1.2.2.1
  grind
 constructor
 ·rintro⟨M,hM,h14,h⟩
  rw[dF] at h
  rcases h with h|h
  ·rw[eo] at h;exact absurd h.1 (by simp only;omega)
  ·obtain⟨q,hq,hsay⟩:=(cZ false _ _ false true (hAt M hM h14) i 10).1 h
   have:=(uS ha hv hM h14 hq).2;subst this;unfold xT at hsay
   rcases hsay with ⟨_,h⟩|⟨h,_⟩
   ·simpa using h
   ·cases h
 ·intro hu
  obtain⟨b,b1,b2,b3,b4⟩:∃ b,b<i/\(p.getD b dN).op=4/\i∈(t.kid 0 b).starts (b+1)/\bH 83 (p.getD i dN).op=true:=by
   have hu0:=hu;unfold po at hu
   rcases e_ ha hi with ⟨_,h2⟩|⟨b,b1,b2,b3⟩
   ·rw[h2] at hu;simp[ini] at hu
   ·rw[b2,if_neg aa,Z12] at hu
    split at hu
    ·rename_i h4
     obtain⟨c,n1,n2,_⟩:=FR ha hv aa h4
     have hex:∀ l:List Nat,qQ p i l=true->∃ k∈l,(p.getD k dN).op=33\/(p.getD k dN).op=34\/(p.getD k dN).op=35:=by
      intro l
      induction l with
      |nil=>intro h;cases h
      |cons k l ih=>
       grind [qQ]
     obtain⟨k,hk,ho⟩:=hex _ hu;have hc:=Bh (uq ha hv aa n1 hk) (.inr (.inr ho));subst hc;exact⟨b,b1,h4,b3,uq ha hv aa n1 b3⟩
    ·cases hu
  obtain⟨M,m1,m2,m3,m4⟩:=pk ha hv i hi b b1 b2 b3 b4;refine⟨M,aa,m3,?_⟩;rw[dF];exact .inr ((cZ false _ _ false true (hAt M aa m3) i 10).2 ⟨_,m4,.inl ⟨rfl,ae⟩⟩)
theorem mem9 (ha:t.At p 0) (hv:t.V (List.replicate t.cnt (false,68))) (hs:t.size=p.length) (hi:i<t.size):(i,9)∈mh p t↔FV p t i=true:=by
 rw[lP ha hv hs ae];unfold FV;rw[Z07,decide_eq_true_eq,decide_eq_true_eq];constructor
 ·rintro⟨M,hM,h14,h⟩
  rw[dF] at h
  rcases h with h|h
  ·grind [eo,tF]
  ·rcases dr _ _ _ _ _ _ h with h|h<;>cases h
 ·rintro⟨h7,h⟩
  obtain⟨M,m1,m2,m3,m4⟩:=A8 ha hv i hi (by rw[h7];decide);rw[m2,Z12] at h;refine⟨M,aa,m3,?_⟩;rw[dF,eo];have hM:M<t.size:=aa;obtain⟨s1,s2⟩:=tF ha hv hM m3;refine .inl ⟨rfl,?_,ae,h7,h⟩;show M+5<=i;obtain⟨_,q1,q2,_,_⟩:=bT ha hv hM aa;rw[m3,gt] at q2
  rcases Z0a i (M+5) with hlt|hge
  ·exfalso
   obtain⟨k,hk,rfl⟩:∃ k,k<4/\i=M+1+k:=⟨i-(M+1),aa,aa⟩
   obtain⟨l1,l2,l3⟩:=ko ha hv hM (k:=k) (by rw[m3];show k<5;omega)
   have hmem:M+1+k∈(t.kid 0 M).starts (M+1):=by
    grind
   obtain⟨⟨sb,sc⟩,g1,g2⟩:=eq q1 q2 hmem;cases sb
   ·have hacc:=g2.1.1
    rw[h7] at hacc;simp[dB,dY] at g1
    rcases g1 with g1|g1|g1
    all_goals
     first
      |(rw[g1] at hacc;revert hacc;decide)
      |(revert hacc;decide)
   ·have:=g2.1.1
    omega
  ·exact hge
theorem Ht (ha:t.At p 0) (hv:t.V (List.replicate t.cnt (false,68))) (hs:t.size=p.length) (hi:i<t.size) (hc:c<=6):
 (i,c)∈mh p t↔(c=2/\kE p t i=true)\/(c=3/\qp p t i=true)\/(c=4/\aN p i=true)\/(c=5/\qS p i=true)\/(c=6/\jF p t i=true):=by
 rw[lQ ha hv hs];constructor
 ·rintro (⟨j,hj,h⟩|⟨j,hj,h⟩)
  ·grind [iz]
  ·rw[eH ha hv hs hj] at h
   rcases h with ⟨h,h2⟩|⟨h,h2⟩|⟨h,h2⟩|⟨_,_,_,_,h⟩|⟨h1,h⟩
   ·grind
   ·grind
   ·grind
   ·have:=fN _ _ _ _ _ _ h;simp only at this;omega
   ·rw[dF] at h
    rcases h with h|h
    ·grind [eo]
    ·rcases dr _ _ _ _ _ _ h with h|h<;>(simp only at h;omega)
 ·rintro (⟨rfl,h⟩|⟨rfl,h⟩|⟨rfl,h⟩|⟨rfl,h⟩|⟨rfl,h⟩)
  ·exact .inl ⟨i,hi,(iz ha hi _).2 (.inl ⟨rfl,h⟩)⟩
  ·exact .inl ⟨i,hi,(iz ha hi _).2 (.inr ⟨rfl,h⟩)⟩
  ·exact .inr ⟨i,hi,(eH ha hv hs hi _).2 (.inl ⟨rfl,h⟩)⟩
  ·exact .inr ⟨i,hi,(eH ha hv hs hi _).2 (.inr (.inl ⟨rfl,h⟩))⟩
  ·exact .inr ⟨i,hi,(eH ha hv hs hi _).2 (.inr (.inr (.inl ⟨rfl,h⟩)))⟩
theorem Ec (ha:t.At p 0) (hv:t.V (List.replicate t.cnt (false,68))) (hs:t.size=p.length) (hi:i<t.size):(i,c)∈mh p t↔c∈gY p t i:=by
 unfold gY;rw[Z2d,Z20];unfold K0
 rcases Z0a c 7 with h|h
 ·rw[Ht ha hv hs hi aa]
  have:c=0\/c=1\/c=2\/c=3\/c=4\/c=5\/c=6:=aa
  rcases this with rfl|rfl|rfl|rfl|rfl|rfl|rfl<;>simp
 ·rcases Z0a c 11 with h2|h2
  ·have:c=7\/c=8\/c=9\/c=10:=aa
   rcases this with rfl|rfl|rfl|rfl
   ·rw[mem7 ha hv hs hi];simp
   ·rw[mem8 ha hv hs hi];simp
   ·rw[mem9 ha hv hs hi];simp
   ·rw[L6 ha hv hs hi];simp
  ·refine⟨λq=>?_,λq=>by omega⟩
   obtain⟨M,_,_,q⟩:=(lP ha hv hs (d:=(i,c)) ae).1 q;rw[dF] at q
   rcases q with q|q
   ·grind [eo]
   ·rcases dr _ _ _ _ _ _ q with q|q<;>(simp only at q;omega)
theorem Ho (ha:t.At p 0) (hv:t.V (List.replicate t.cnt (false,68))) (hs:t.size=p.length) {d:Nat×Nat} (h:d∈mh p t):d.1<t.size:=by
 rcases Z0a d.2 8 with hc|hc
 ·rw[lQ ha hv hs] at h
  rcases h with ⟨j,hj,h⟩|⟨j,hj,h⟩
  ·grind [iz]
  ·rw[eH ha hv hs hj] at h
   rcases h with ⟨h,_⟩|⟨h,_⟩|⟨h,_⟩|⟨h16,_,_,_,h⟩|⟨_,h⟩
   ·grind
   ·grind
   ·grind
   ·exact ((tS ha hv hj h16).2.2.2.2.2 d.1 (mA (c:=d.2) h)).1
   ·rw[dF] at h
    rcases h with h|h
    ·rw[eo] at h;omega
    ·rcases dr _ _ _ _ _ _ h with h|h<;>omega
 ·obtain⟨M,hM,h14,h⟩:=(lP ha hv hs hc).1 h
  obtain⟨s1,_⟩:=tF ha hv hM h14;have hMs:=bv (t:=t) (Z08 M) aa;rw[dF] at h
  rcases h with h|h
  ·rw[eo] at h;omega
  ·have:=fe (i:=d.1) (c:=d.2) h;omega
theorem Au (ha:t.At p 0) (hv:t.V (List.replicate t.cnt (false,68))) (hs:t.size=p.length) (d:Nat×Nat):d∈fO (mh p t)↔d∈Dz p t:=by
 rw[(Bv (mh p t)).mem_iff]
 grind [Dz,Ho,Ec]
end
end
