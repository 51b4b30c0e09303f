import Derived.Test.YtegjgpldfgjoiaaGreatDoorCnD44
set_option linter.all false
set_option maxRecDepth 100000
namespace Go.Proofs.YtegjgpldfgjoiaaGreatDoor
open Go Ab
section
variable {i:Nat}
section
variable {p:List Nd} {t:Fo}
theorem vl (ha:t.At p 0) (hv:t.V (List.replicate t.cnt (false,68))):anS p t=pQ p t t.size:=B1 ha hv
end
end
section
variable {i:Nat}
theorem BO {b r c:Pth} (h:c∈aU b r):bz c=true:=by
 unfold aU at h;split at h
 ·cases h
 ·rename_i h1
  have hb:bz b=true:=ae;have hr:aA r=true:=ae;split at h
  ·grind [vo]
  ·rename_i h3
   obtain⟨b1,b2,b3⟩:=cy hb
   have hbs:∀ x∈b.segs,aN x=true:=by
    unfold bz at hb;simp only[Z07] at hb
    exact λx hx=>Z0i.1 (aG hb.2).2.2.2.2.1 x hx
   have hrs:aN (r.segs.headD [])=true:=by
    have h5:=(aG hr).2.2.2.2.1;have hl:r.segs.length=1:=aa
    match hq:r.segs,hl with
    |[a],_=>rw[hq] at h5;simpa using h5
   have key:∀ k,k<=b.segs.length->∀ c∈cC b.segs (r.segs.headD []) k,bz c=true:=by
    intro k
    induction k with
    |zero=>
     grind [cC,bz,aA]
    |succ k ih=>
     intro hk c hc;simp only[cC] at hc;split at hc
     ·grind
     ·rename_i h32
      rcases Z0h.1 hc with rfl|hc
      ·have hall:(b.segs.take (k+1)++[r.segs.headD []]).all aN=true:=by
        grind
       have hlen:(b.segs.take (k+1)++[r.segs.headD []]).length=k+2:=by
        grind
       unfold bz aA
       grind
      all_goals grind
   grind
section
variable {p:List Nd} {t:Fo}
theorem AU (s:By):dd (be p t) s=match dt p t s t.size with|some i=>(i:Int)|none=> -1:=by
 cases h:dt p t s t.size with
 |none=>
  have h0:=iF h
  rcases gF (p:=p) (t:=t) s with ⟨h1,_⟩|⟨k,_,h2,h3,_⟩
  all_goals grind
 |some i=>
  obtain⟨i1,i2,i3⟩:=fB h
  rcases gF (p:=p) (t:=t) s with ⟨_,h2⟩|⟨k,h1,h2,h3,h4⟩
  all_goals grind
theorem H_ (ha:t.At p 0) (hv:t.V (List.replicate t.cnt (false,68))) {s:By} (hs:s≠[]):oL (anS p t).F s=dt p t s t.size:=by
 grind [vl,uc]
theorem zy (ha:t.At p 0) (hv:t.V (List.replicate t.cnt (false,68))) (op:Int):∀ cs:List Pth,(∀ c∈cs,bz c=true)->
 dw p (anS p t).F op cs=if 0<=jc (be p t) cs/\(p.getD (jc (be p t) cs).toNat dN).op=op then jc (be p t) cs else-1
 |[],_=>by
  show (-1:Int)=if 0<=(-1:Int)/\(p.getD (-1:Int).toNat dN).op=op then-1 else-1
  grind
 |c::cs,hc=>by
  have hne:=AS (hc c (Z17 ..));have hF:=H_ ha hv hne;have hR:=AU (p:=p) (t:=t) (aH c);have hrr:jc (be p t) (c::cs)=if 0<=dd (be p t) (aH c) then dd (be p t) (aH c) else jc (be p t) cs:=rfl;generalize jc (be p t) (c::cs)=rr at*
  cases hf:dt p t (aH c) t.size with
  |some i=>
   grind [ij]
  |none=>
   rw[hf] at hF hR;simp only at hR;rw[hR,if_neg ac] at hrr;subst hrr;rw[ik hF];exact zy ha hv op cs (λc h=>hc c (Z0y _ h))
theorem E9 (ha:t.At p 0) (hv:t.V (List.replicate t.cnt (false,68))) (hs:t.size=p.length) (hi:i<t.size) (hop:gS (p.getD i dN).op=true):(anS p t).S.getD i z0=(aD t i).sc:=by
 grind [vl,zb]
theorem zx (ha:t.At p 0) (hv:t.V (List.replicate t.cnt (false,68))) (op:Int) (i k:Nat):
 dw p (anS p t).F op (aU (aD t i).sc (ak (p.getD (i+1+k) dN).str).1)=if 0<=eY p t i k/\(p.getD (eY p t i k).toNat dN).op=op then eY p t i k else-1:=by
 exact zy ha hv op _ λc hc=>BO hc
theorem mU (ha:t.At p 0) (hv:t.V (List.replicate t.cnt (false,68))) (op:Int) (i k:Nat):
 dw p (anS p t).F op (aU (aD t i).sc (ak (p.getD (i+1+k) dN).str).1)<0↔eY p t i k<0\/(p.getD (eY p t i k).toNat dN).op≠op:=by
 rw[zx ha hv];split
 ·rename_i h
  constructor
  ·intro q;omega
  ·rintro (q|q)
   ·exact q
   ·exact absurd h.2 q
 ·rename_i h
  refine⟨λ_=>?_,λ_=>by decide⟩
  rcases Int.lt_or_le (eY p t i k) 0 with q|q
  ·exact .inl q
  ·exact .inr λe=>h ⟨q,e⟩
theorem HB (ha:t.At p 0) (hv:t.V (List.replicate t.cnt (false,68))) (hop:(p.getD i dN).op=16):dw p (anS p t).F 15 (aU (aD t i).sc (ak (p.getD (i+1) dN).str).1)<0↔iq p t i=true:=by
 rw[show i+1=i+1+0 from rfl,mU ha hv]
 grind [iq]
theorem HA (ha:t.At p 0) (hv:t.V (List.replicate t.cnt (false,68))) (hop:(p.getD i dN).op=17):
 (dw p (anS p t).F 18 (aU (aD t i).sc (ak (p.getD (i+1) dN).str).1)<0\/dw p (anS p t).F 18 (aU (aD t i).sc (ak (p.getD (i+2) dN).str).1)<0)↔iq p t i=true:=by
 rw[show i+2=i+1+1 from rfl,show i+1=i+1+0 from rfl,mU ha hv,mU ha hv];unfold iq;rw[if_neg aa,if_pos hop];simp only[Z1h,decide_eq_true_eq,or_assoc]
theorem eF (len w:Int):∀ (u:Fo) (j:Nat) (bit:Int),∀ d∈bR p len w u j bit [],d.2=7
 | .nil,_,_,d,h=>by simp[bR] at h
 | .cons x k n,j,bit,d,h=>by
   simp only[bR] at h;split at h
   ·cases h
   ·split at h
    ·exact eF len w n _ _ d h
    ·rw[cY] at h
     rcases Z0w.1 h with h|h
     ·grind
     ·exact eF len w n _ _ d h
theorem dA (lim:Int):∀ (c j:Nat) (d:Nat×Nat),d∈gN p lim c j []↔d.2=9/\j<=d.1/\d.1<j+c/\(p.getD d.1 dN).op=7/\lim<=ai p d.1
 |0,j,d=>by
  grind [gN]
 |c+1,j,d=>by
  simp only[gN];rw[kC,Z0w,dA lim c (j+1)]
  grind
theorem c_ (bl:Fo) (i:Nat) (d:Nat×Nat):d∈l6 p bl i []↔d∈gN p (ai p (i+2)) (bl.size+1) (i+5) []\/d∈aK false bl (i+6) false true []:=by
 unfold l6;rw[aZ,Z0w]
theorem dM (ha:t.At p 0) (hv:t.V (List.replicate t.cnt (false,68))) (hs:t.size=p.length) {j:Nat} (hj:j<t.size) (d:Nat×Nat):
 d∈m9 p (anS p t).F (anS p t).S t j↔d=(j,4)/\aJ p j=true\/d=(j,5)/\oE p j=true\/d=(j,6)/\iq p t j=true\/
  (p.getD j dN).op=16/\iq p t j=false/\aJ p (eY p t j 0).toNat=false/\aJ p j=false/\d∈bR p (ai p ((eY p t j 0).toNat+4)) (ai p (j+2)) (am (t.kid 0 j)) (j+5) 0 []\/
  (p.getD j dN).op=14/\d∈l6 p (am (t.kid 0 j)) j []:=by
 unfold m9;rw[Z0w]
 have h4:d∈(if aJ p j then [(j,4)] else []:Dgs)↔d=(j,4)/\aJ p j=true:=by
  grind
 rw[h4];refine or_congr_right ?_;unfold gR;by_cases h50:(p.getD j dN).op=50\/(p.getD j dN).op=51
 ·rw[if_pos h50]
  have hno:iq p t j=false:=by unfold iq;rw[if_neg aa,if_neg aa]
  have hto:oE p j=decide (ai p (j+1)<(p.getD (j+2) dN).kids):=by grind [oE]
  grind
 ·rw[if_neg h50]
  have hto:oE p j=false:=by grind [oE]
  rw[hto];by_cases h16:(p.getD j dN).op=16
  ·rw[if_pos h16]
   have hS:=E9 ha hv hs hj (by grind [gS]);rw[hS];have hn:=HB ha hv h16;have hT:=zx ha hv 15 j 0;unfold gH
   grind
  ·rw[if_neg h16]
   by_cases h17:(p.getD j dN).op=17
   ·rw[if_pos h17]
    have hS:=E9 ha hv hs hj (by grind [gS])
    grind [HA]
   all_goals grind [iq]
theorem mg (ha:t.At p 0) (hv:t.V (List.replicate t.cnt (false,68))) (hs:t.size=p.length) (d:Nat×Nat):
 d∈kD p t↔(∃ j,j<t.size/\d∈BA p t j)\/∃ j,j<t.size/\d∈m9 p (anS p t).F (anS p t).S t j:=by
 unfold kD
 grind [jQ,vl,ze]
theorem gk (ha:t.At p 0) {j:Nat} (hj:j<t.size) (d:Nat×Nat):d∈BA p t j↔d=(j,2)/\gM p t j=true\/d=(j,3)/\jf p t j=true:=by
 grind [BV,BA,jf]
end
end
section
variable {i:Nat} {c op:Int}
def Fl (op:Int):Bool:=decide (op=33\/op=34\/op=35)
def bA:Bool->Fo->Nat->Nat->Bool->Bool->Option (Bool×Bool)
 |_,.nil,_,_,_,_=>none
 |true,.cons x k n,j,i,lp,r=>if i<j+1+k.size then (if x.op=4/\j<i then bA false k (j+1) i lp true else none) else bA true n (j+1+k.size) i lp r
 |false,.cons x k n,j,i,lp,r=>
  if i=j then some (lp,r)
  else if i<j+1+k.size then (if x.op=31 then bA true k (j+1) i lp true else if x.op=32 then bA true k (j+1) i true true else none)
  else bA false n (j+1+k.size) i lp (r&& !Fl x.op)
theorem ef:∀ {m:Bool} {u:Fo} {j i:Nat} {lp r:Bool} {q:Bool×Bool},bA m u j i lp r=some q->j<=i/\i<j+u.size
 |true,.nil,_,_,_,_,_,h=>by simp[bA] at h
 |false,.nil,_,_,_,_,_,h=>by simp[bA] at h
 |true,.cons x k n,j,i,lp,r,q,h=>by
  simp only[bA] at h;simp only[Fo.size];split at h
  ·grind
  ·have:=ef h;omega
 |false,.cons x k n,j,i,lp,r,q,h=>by
  simp only[bA] at h;simp only[Fo.size];split at h
  ·omega
  ·split at h
   ·split at h
    ·have:=ef h;omega
    ·split at h
     ·have:=ef h;omega
     ·cases h
   ·have:=ef h;omega
section
variable {p:List Nd} {t:Fo}
def uh (p:List Nd) (i c:Nat) (q:Bool×Bool):Prop:=c=10/\q.2=false\/c=8/\((p.getD i dN).op=34\/(p.getD i dN).op=35)/\q.1=false
theorem eb {m:Bool} {u:Fo} {j c:Nat} {lp r:Bool} (h:(i,c)∈aK m u j lp r []):j<=i/\i<j+u.size:=(fQ m u j lp r).2 _ h
theorem cF:∀ (m:Bool) (u:Fo) (j:Nat) (lp r:Bool),u.At p j->∀ i c,(i,c)∈aK m u j lp r []↔∃ q,bA m u j i lp r=some q/\uh p i c q
 |true,.nil,_,_,_,_,i,c=>by simp[aK,bA]
 |false,.nil,_,_,_,_,i,c=>by simp[aK,bA]
 |true,.cons x k n,j,lp,r,ha,i,c=>by
  simp only[aK,bA];rw[aZ,Z0w];by_cases h1:i<j+1+k.size
  ·rw[if_pos h1]
   have hn: ¬(i,c)∈aK true n (j+1+k.size) lp r []:=λh=>by have:=eb h;omega
   by_cases h4:x.op=4
   ·rw[if_pos h4]
    by_cases hj:j<i
    ·rw[if_pos ⟨h4,hj⟩,<-cF false k (j+1) lp true ha.2.2.1 i c]
     grind
    ·rw[if_neg (λh=>hj h.2)]
     constructor
     ·rintro (h|h)
      ·have:=eb h;omega
      all_goals grind
     all_goals grind
   all_goals grind
  ·rw[if_neg h1,<-cF true n (j+1+k.size) lp r ha.2.2.2 i c]
   refine⟨λh=>h.resolve_left λh=>?_,.inr⟩;split at h
   ·have:=eb h;omega
   ·cases h
 |false,.cons x k n,j,lp,r,ha,i,c=>by
  simp only[aK,bA];have hx:=At.get ha;rw[aZ,Z0w]
  have hE:∀ X:Dgs,X=bU x.op j lp (dI j r [])->((i,c)∈X↔i=j/\uh p i c (lp,r)):=by
   grind [bU,dI,uh]
  have hX:(i,c)∈(if x.op=31 then aK true k (j+1) lp true (bU x.op j lp (dI j r [])) else if x.op=32 then aK true k (j+1) true true (bU x.op j lp (dI j r [])) else bU x.op j lp (dI j r []))↔
   (i=j/\uh p i c (lp,r))\/(i,c)∈(if x.op=31 then aK true k (j+1) lp true [] else if x.op=32 then aK true k (j+1) true true [] else []):=by
   grind [aZ]
  rw[hX];by_cases hi:i=j
  ·rw[if_pos hi]
   constructor
   ·rintro ((h|h)|h)
    ·grind
    ·exfalso
     split at h
     ·have:=eb h;omega
     ·split at h
      ·have:=eb h;omega
      ·cases h
    ·have:=eb h;omega
   all_goals grind
  ·rw[if_neg hi]
   by_cases h1:i<j+1+k.size
   ·rw[if_pos h1]
    have hn: ¬(i,c)∈aK false n (j+1+k.size) lp (r&& !decide (x.op=33\/x.op=34\/x.op=35)) []:=λh=>by have:=eb h;omega
    have e:(((i=j/\uh p i c (lp,r))\/(i,c)∈(if x.op=31 then aK true k (j+1) lp true [] else if x.op=32 then aK true k (j+1) true true [] else []))\/(i,c)∈aK false n (j+1+k.size) lp (r&& !decide (x.op=33\/x.op=34\/x.op=35)) [])↔(i,c)∈(if x.op=31 then aK true k (j+1) lp true [] else if x.op=32 then aK true k (j+1) true true [] else []):=
     ⟨λh=>by
      rcases h with (h|h)|h
      ·exact absurd h.1 hi
      ·exact h
      ·exact absurd h hn,λh=> .inl (.inr h)⟩
    rw[e];split
    ·exact cF true k (j+1) lp true ha.2.2.1 i c
    ·split
     ·exact cF true k (j+1) true true ha.2.2.1 i c
     ·simp
   ·rw[if_neg h1]
    have:=cF false n (j+1+k.size) lp (r&& !Fl x.op) ha.2.2.2 i c;rw[<-this];constructor
    ·rintro ((h|h)|h)
     ·grind
     ·exfalso
      split at h
      ·have:=eb h;omega
      ·split at h
       ·have:=eb h;omega
       ·cases h
     ·exact h
    ·exact .inr
theorem hZ:∀ {u:Fo} {j i:Nat} {lp r:Bool},u.At p j->i∈u.starts j->bA false u j i lp r=some (lp,r&& !oC p i (u.starts j))
 | .nil,_,_,_,_,_,h=>by simp[Fo.starts] at h
 | .cons x k n,j,i,lp,r,ha,h=>by
   simp only[Fo.starts,Z0h] at h;have hx:=At.get ha;simp only[bA,Fo.starts,oC];by_cases hi:i=j
   ·grind
   ·have h:=h.resolve_left hi
    have hg:=bK h;rw[if_neg hi,if_neg aa,if_neg (λe=>hi e.symm),hZ ha.2.2.2 h,hx]
    grind [Fl]
theorem oX:∀ {u:Fo} {j b i:Nat} {lp r:Bool},u.At p j->b∈u.starts j->(p.getD b dN).op=4->b<i->i<b+1+(u.kid j b).size->bA true u j i lp r=bA false (u.kid j b) (b+1) i lp true
 | .nil,_,_,_,_,_,_,h,_,_,_=>by simp[Fo.starts] at h
 | .cons x k n,j,b,i,lp,r,ha,h,h4,h1,h2=>by
   simp only[Fo.starts,Z0h] at h;have hx:=At.get ha;unfold Fo.kid at h2 |-;simp only[bA];by_cases hb:b=j
   ·grind
   ·have h:=h.resolve_left hb
    have hg:=bK h;rw[if_neg hb,if_neg (show ¬b<j+1+k.size by omega)] at h2 |-;rw[if_neg aa];exact oX ha.2.2.2 h h4 h1 h2
theorem eP:∀ {m:Bool} {u:Fo} {j f i:Nat} {lp r:Bool} {q:Bool×Bool},u.At p j->bA m u j f lp r=some q->f<i->i<f+1+(u.kid j f).size->
 bA m u j i lp r=if (p.getD f dN).op=31 then bA true (u.kid j f) (f+1) i q.1 true else if (p.getD f dN).op=32 then bA true (u.kid j f) (f+1) i true true else none
 |true,.nil,_,_,_,_,_,_,_,h,_,_=>by simp[bA] at h
 |false,.nil,_,_,_,_,_,_,_,h,_,_=>by simp[bA] at h
 |true,.cons x k n,j,f,i,lp,r,q,ha,h,h1,h2=>by
  have hx:=At.get ha;have hk:=ef h;simp only[Fo.size] at hk;have hks:=bC (t:=.cons x k n) hk.1 (by simpa [Fo.size] using hk.2);simp only[bA] at h;by_cases hfk:f<j+1+k.size
  ·rw[if_pos hfk] at h
   split at h
   ·rename_i h4
    have hkid:(Fo.cons x k n).kid j f=k.kid (j+1) f:=by grind [Fo.kid]
    rw[hkid] at h2 hks |-;have hks':=bC (t:=k) (j:=j+1) (i:=f) aa aa;simp only[bA];rw[if_pos aa,if_pos ⟨h4.1,aa⟩];exact eP ha.2.2.1 h h1 h2
   ·cases h
  ·rw[if_neg hfk] at h
   have hkid:(Fo.cons x k n).kid j f=n.kid (j+1+k.size) f:=by grind [Fo.kid]
   rw[hkid] at h2 hks |-;simp only[bA];rw[if_neg aa];exact eP ha.2.2.2 h h1 h2
 |false,.cons x k n,j,f,i,lp,r,q,ha,h,h1,h2=>by
  have hx:=At.get ha;have hk:=ef h;simp only[Fo.size] at hk;unfold Fo.kid at h2 |-;simp only[bA] at h |-;by_cases hf:f=j
  ·grind
  ·rw[if_neg hf] at h
   rw[if_neg (show ¬i=j by omega)];by_cases hfk:f<j+1+k.size
   ·rw[if_pos hfk] at h
    have hks':=bC (t:=k) (j:=j+1) (i:=f) aa aa;rw[if_neg hf,if_pos hfk] at h2 |-;rw[if_pos aa];split at h
    ·rename_i h31
     rw[if_pos h31];exact eP ha.2.2.1 h h1 h2
    ·rename_i h31
     rw[if_neg h31];split at h
     ·rename_i h32
      rw[if_pos h32];exact eP ha.2.2.1 h h1 h2
     ·cases h
   ·rw[if_neg hfk] at h
    rw[if_neg hf,if_neg hfk] at h2 |-;rw[if_neg aa];exact eP ha.2.2.2 h h1 h2
def EI (op:Int) (b:UInt8):Bool:=decide (op≠31/\op≠32)||decide (b=83)|| !dq (b.toNat:Int)
theorem uG {kids:Int} (h:bn c op=true):∀ b∈(aq op kids).1,EI op b=true:=lb (by decide+kernel) ac ac ac h
theorem fO:∀ {m:Bool} {u:Fo} {j i:Nat} {lp r:Bool} {q:Bool×Bool} {cs:List (Bool×Int)},u.At p j->u.V cs->(m=false->∀ sl∈cs,sl=(false,83))->(m=true->∀ sl∈cs,sl.1=true->sl.2=83)->bA m u j i lp r=some q->
 bn 83 (p.getD i dN).op=true/\((m=false/\i∈u.starts j)\/∃ b,j<=b/\b<i/\(p.getD b dN).op=4/\i∈(u.kid j b).starts (b+1))
 |true,.nil,_,_,_,_,_,_,_,_,_,_,h=>by simp[bA] at h
 |false,.nil,_,_,_,_,_,_,_,_,_,_,h=>by simp[bA] at h
 |true,.cons x k n,j,i,lp,r,q,cs,ha,hv,_,hc,h=>by
  have hx:=At.get ha;simp only[bA] at h;split at h
  ·rename_i hk
   split at h
   ·rename_i h4
    obtain⟨c,hkv⟩:∃ c,c=(83:Int)/\k.V (List.replicate k.cnt (false,c)):=by
     match cs,hv with
     |(true,c)::cs',⟨h1,h2,h3⟩=>exact⟨c,hc rfl (true,c) (Z17 ..) rfl,h2⟩
     |(false,c)::cs',⟨h1,h2,h3⟩=>rw[h4.1,Ib] at h1;exact absurd h1.1 ac
    obtain⟨rfl,hkv⟩:=hkv;obtain⟨g1,g2⟩:=fO ha.2.2.1 hkv (λ_ sl hsl=>(Z3b.1 hsl).2) (λh=>by cases h) h
    grind [Fo.kid]
   ·cases h
  ·rename_i hk
   obtain⟨sl,cs',rfl,hn⟩:∃ sl cs',cs=sl::cs'/\n.V cs':=by
    match cs,hv with
    |(true,c)::cs',⟨h1,h2,h3⟩=>exact⟨_,_,rfl,h3⟩
    |(false,c)::cs',⟨h1,h2,h3⟩=>exact⟨_,_,rfl,h3⟩
   obtain⟨g1,g2⟩:=fO ha.2.2.2 hn (λh=>by cases h) (λe sl hsl=>hc e sl (Z0y _ hsl)) h
   grind [Fo.kid]
 |false,.cons x k n,j,i,lp,r,q,cs,ha,hv,hc,_,h=>by
  have hx:=At.get ha;simp only[bA] at h
  obtain⟨hx83,hkv,cs',hcs,hn⟩:bn 83 x.op=true/\k.V (dj (aq x.op x.kids).1)/\∃ cs',(∀ sl∈cs',sl=(false,83))/\n.V cs':=by
   match cs,hv with
   |(true,c)::cs',hv=>exact absurd (hc rfl (true,c) (Z17 ..)) av
   |(false,c)::cs',⟨h1,h2,h3⟩=>
    have hc0:=hc rfl (false,c) (Z17 ..);simp only[Z0j,true_and] at hc0;subst hc0;exact⟨h1.1,h2,cs',λsl hsl=>hc rfl sl (Z0y _ hsl),h3⟩
  split at h
  ·grind [Fo.starts]
  ·rename_i hi
   split at h
   ·rename_i hk
    have key:∀ lp',(x.op=31\/x.op=32)->bA true k (j+1) i lp' true=some q->bn 83 (p.getD i dN).op=true/\((false=false/\i∈(Fo.cons x k n).starts j)\/∃ b,j<=b/\b<i/\(p.getD b dN).op=4/\i∈((Fo.cons x k n).kid j b).starts (b+1)):=by
     intro lp' ho h
     obtain⟨g1,g2⟩:=fO ha.2.2.1 hkv (λh=>by cases h) (λ_ sl hsl h1=>by
      obtain⟨b,hb,rfl⟩:=dY hsl;have hq:=uG hx83 b hb;unfold EI at hq;simp only at h1;rw[h1] at hq
      have hb83:b=83:=by
       simp only[Z1h,decide_eq_true_eq,Z2z,Z41] at hq
       rcases hq with hq|hq
       ·omega
       ·exact hq
      subst hb83;rfl) h
     grind [Fo.kid]
    grind
   ·obtain⟨g1,g2⟩:=fO ha.2.2.2 hn (λ_=>hcs) (λh=>by cases h) h
    grind [Fo.starts,Fo.kid]
theorem w4 (h:bn c op=true) (ho:op=31\/op=32\/op=33\/op=34\/op=35):c=83:=by
 unfold bn at h;split at h
 ·grind
 split at h
 ·grind
 split at h
 ·simp[fy,cl] at h;omega
 split at h
 all_goals grind [cl,cV]
theorem GP (h:bn c op=true) (hb:dq c=true) (h83:bn 83 op=true):c=83:=by
 grind [cl,cV,bn,dq]
theorem n_ {c':Int}:∀ (ls:List Int) (u:Fo) (i b:Nat),(ls.all fY)=true->u.V (ls.map (λc=>(false,c))++[(true,c')])->u.At p i->b∈u.starts i->(p.getD b dN).op=4->b=i+ls.length
 |[],u,i,b,_,h,ha,hb,h4=>by
  grind [Fo.starts,kJ,iO]
 |c::ls,u,i,b,hl,h,ha,hb,h4=>by
  simp only[Z1b,Z07] at hl;obtain⟨y,n,rfl,h1,h2⟩:=fk hl.1 h;have hx:=At.get ha;simp only[Fo.starts,Z0h] at hb
  rcases hb with rfl|hb
  ·grind
  ·have:=n_ ls n _ b hl.2 h1 ha.2.2.2 hb h4
   grind [Fo.size]
theorem BU (ha:t.At p 0) (hv:t.V (List.replicate t.cnt (false,68))) {b:Nat} (hb:b<t.size) (h4:(p.getD b dN).op=4):
 ∃ c,lY p t b (true,c)/\dq c=true/\∃ f,f<b/\aD t b=bJ (p.getD f dN) (aw (t.kid 0 f)) f (aD t f)/\b∈(t.kid 0 f).starts (f+1)/\(c=83->(p.getD f dN).op=14\/(p.getD f dN).op=31\/(p.getD f dN).op=32):=by
 obtain⟨sb,g1,g2⟩:=fV ha hv hb;have hsb:=(gq g1).2 h4
 rcases g2 with ⟨_,g⟩|⟨f,slf,hfb,hcf,hbf,hnf,g⟩
 ·grind
 rcases g with ⟨_,g,_⟩|⟨_,g3,g4⟩
 ·grind
 ·obtain⟨x,hx,e⟩:=dY g4
  rw[e] at g1 hsb;refine⟨(x.toNat:Int),ae,hsb,f,hfb,hcf,hbf,λh83=>?_⟩
  have hx83:x=83:=by
   have:=Z39 (a:=x) (b:=83)
   grind
  subst hx83;exact vV (jo (kids:=(p.getD f dN).kids) g3 _ hx)
theorem qJ (ha:t.At p 0) (hv:t.V (List.replicate t.cnt (false,68))) {b:Nat} (hb:b<t.size) (hn:lY p t b (true,c)) (hi:i∈(t.kid 0 b).starts (b+1)):bn c (p.getD i dN).op=true:=by
 obtain⟨s',q1,q2⟩:=jK ha hb hn hv hi
 rcases q2 with ⟨_,q,_⟩|⟨q,_⟩
 ·subst q;exact q1.1.1
 ·cases q
theorem vL (ha:t.At p 0) (hv:t.V (List.replicate t.cnt (false,68))) (hi:i<t.size) (ho:(p.getD i dN).op=31\/(p.getD i dN).op=32\/(p.getD i dN).op=33\/(p.getD i dN).op=34\/(p.getD i dN).op=35):
 ∃ b,b<i/\(p.getD b dN).op=4/\i∈(t.kid 0 b).starts (b+1)/\bn 83 (p.getD i dN).op=true:=by
 obtain⟨⟨sb,sc⟩,g1,g2⟩:=fV ha hv hi
 have hsb:sb=false:=by
  cases sb
  ·rfl
  ·have:=(gq g1).1 rfl;omega
 subst hsb;have h83:=w4 g1.1.1 ho;subst h83
 rcases g2 with ⟨_,g⟩|⟨b,slb,hb,_,hib,_,g⟩
 ·cases g
 rcases g with ⟨_,_,g⟩|⟨_,_,g⟩
 ·exact⟨b,hb,g,hib,g1.1.1⟩
 ·obtain⟨x,_,e⟩:=dY g
  simp only[Z0j] at e;rw[<-e.2] at e;exact absurd e.1 ac
theorem mI (ha:t.At p 0) (hv:t.V (List.replicate t.cnt (false,68))):∀ i,i<t.size->∀ b,b<i->(p.getD b dN).op=4->i∈(t.kid 0 b).starts (b+1)->bn 83 (p.getD i dN).op=true->
 ∃ M:Nat,M<i/\(aD t i).me=(M:Int)/\(p.getD M dN).op=14/\bA false (am (t.kid 0 M)) (M+6) i false true=some (decide (0<=(aD t i).lo),!mK p t i):=by
 intro i
 induction i using Nat.strongRecOn with
 |ind i ih=>
  intro hi b hbi h4 hib h83;have hb:b<t.size:=aa;obtain⟨c,n1,n2,f,hfb,hcf,hbf,hop⟩:=BU ha hv hb h4;have hc83:c=83:=GP (qJ ha hv hb n1 hib) n2 h83;have hop:=hop hc83;have hci:=(ee ha hb hib).2.2
  have hme:(aD t i).me=(aD t b).me:=by grind [bJ]
  have hlo:(aD t i).lo=(aD t b).lo:=by grind [bJ]
  have hpa:(aD t i).pa=(b:Int):=by rw[hci];rfl
  have hun:mK p t i=oC p i ((t.kid 0 b).starts (b+1)):=by
   grind [mK]
  obtain⟨_,kb,_⟩:=cn ha hv (Z08 b) (aa:b<0+t.size);have kbA:=kb.2.2.1;have hrb:=bK hbf;by_cases h14:(p.getD f dN).op=14
  ·refine⟨f,aa,by grind [bJ],h14,?_⟩
   obtain⟨_,f1,f2,_,_⟩:=bQ ha hv (show f<t.size by omega) aa;rw[h14,fb] at f2;have hbe:=n_ (c':=83) [115,105,105,105] (t.kid 0 f) (f+1) b ac f2 f1 hbf h4;have hbe:b=f+5:=ae;obtain⟨_,k2⟩:=(d_ (c':=83) [115,105,105,105] (t.kid 0 f) ac f2).2 (f+1)
   have hk:t.kid 0 b=am (t.kid 0 f):=by
    rw[(cH ha (Z08 f) aa hfb aa ini).1,<-k2,hbe];rfl
   rw[hk,hbe] at kbA hib hun;rw[hZ kbA hib,hun,hlo,hcf];unfold bJ;simp only;rw[if_pos h14];rfl
  ·have h31:=hop.resolve_left h14
   obtain⟨b',hb1,hb2,hb3,hb4⟩:=vL ha hv (show f<t.size by omega) aa;obtain⟨M,m1,m2,m3,m4⟩:=ih f aa aa b' hb1 hb2 hb3 hb4;refine⟨M,aa,by grind [bJ],m3,?_⟩;obtain⟨_,q1,q2,_,_⟩:=bQ ha hv (show M<t.size by omega) aa;rw[m3,fb] at q2;obtain⟨s1,s2⟩:=d_ (c':=83) [115,105,105,105] (t.kid 0 M) ac q2;obtain⟨s3,s4⟩:=s2 (M+1);have e5:M+1+([115,105,105,105]:List Int).length=M+5:=av;rw[e5] at s3 s4;have hszM:(t.kid 0 M).size=5+(am (t.kid 0 M)).size:=ae;have hMs:=bC (t:=t) (Z08 M) aa
   have hk5:t.kid 0 (M+5)=am (t.kid 0 M):=by rw[(cH ha (Z08 M) aa (aa:M<M+5) aa ini).1,s4]
   obtain⟨_,k5,_⟩:=cn ha hv (Z08 (M+5)) (aa:M+5<0+t.size);have k5A:=k5.2.2.1;rw[hk5] at k5A;have hrg:=ef m4
   have hkf:(am (t.kid 0 M)).kid (M+6) f=t.kid 0 f:=by
    rw[(cH ha (Z08 (M+5)) aa (aa:M+5<f) ae ini).1,hk5]
   have hri:=bK hib;have hsb:=gv ha (show f<t.size by omega) hfb aa;rw[eP k5A m4 (show f<i by omega) ae,hkf];obtain⟨_,kf,_⟩:=cn ha hv (Z08 f) (aa:f<0+t.size);have kfA:=kf.2.2.1
   have hkb:(t.kid 0 f).kid (f+1) b=t.kid 0 b:=by
    rw[(cH ha (Z08 f) aa hfb aa ini).1]
   have hvb:∀ lp,bA true (t.kid 0 f) (f+1) i lp true=some (lp,!mK p t i):=λlp=>by
    rw[oX kfA hbf h4 hbi ae,hkb,hZ kbA hib,hun];rfl
   rw[hvb,hvb,hlo,hcf];unfold bJ
   grind
theorem rh (ha:t.At p 0) (hv:t.V (List.replicate t.cnt (false,68))) {M:Nat} (hM:M<t.size) (h14:(p.getD M dN).op=14) {q:Bool×Bool} (h:bA false (am (t.kid 0 M)) (M+6) i false true=some q):
 i<t.size/\q=(decide (0<=(aD t i).lo),!mK p t i):=by
 obtain⟨_,q1,q2,_,_⟩:=bQ ha hv hM aa;rw[h14,fb] at q2;obtain⟨s1,s2⟩:=d_ (c':=83) [115,105,105,105] (t.kid 0 M) ac q2;obtain⟨s3,s4⟩:=s2 (M+1);have e5:M+1+([115,105,105,105]:List Int).length=M+5:=av;rw[e5] at s3 s4;have hszM:(t.kid 0 M).size=5+(am (t.kid 0 M)).size:=ae;have hMs:=bC (t:=t) (Z08 M) aa
 have hk5:t.kid 0 (M+5)=am (t.kid 0 M):=by rw[(cH ha (Z08 M) aa (aa:M<M+5) aa ini).1,s4]
 obtain⟨_,k5,_⟩:=cn ha hv (Z08 (M+5)) (aa:M+5<0+t.size);have k5A:=k5.2.2.1;rw[hk5] at k5A;obtain⟨b,_,hb2⟩:=aO (c':=83) [115,105,105,105] (t.kid 0 M) ac q2;have hbV:=(hb2 p (M+1) q1).2.2.1
 have hop5:(p.getD (M+5) dN).op=4:=by
  have:=(hb2 p (M+1) q1).1;rw[show M+1+([115,105,105,105]:List Int).length=M+5 by simp] at this;rw[At.get this];exact (hb2 p (M+1) q1).2.1.1
 have hrg:=ef h;obtain⟨g1,g2⟩:=fO k5A hbV (λ_ sl hsl=>(Z3b.1 hsl).2) (λh=>by cases h) h
 have hb:∃ b,b<i/\(p.getD b dN).op=4/\i∈(t.kid 0 b).starts (b+1):=by
  rcases g2 with ⟨_,g⟩|⟨b,b1,b2,b3,b4⟩
  ·grind
  ·refine⟨b,b2,b3,?_⟩
   rw[(cH ha (Z08 (M+5)) aa (aa:M+5<b) ae ini).1,hk5];exact b4
 obtain⟨b,b1,b2,b3⟩:=hb;obtain⟨M',m1,m2,m3,m4⟩:=mI ha hv i aa b b1 b2 b3 g1
 grind [qi]
end
end
section
variable {i c:Nat}
section
variable {p:List Nd} {t:Fo}
theorem C7 (q w len:Int):len<(q+1)*w↔8*len<(q+1)*(8*w):=ae
theorem kQ {len w:Int} {u:Fo} {j:Nat} {bit:Int} (h:(i,c)∈bR p len w u j bit []):i∈u.starts j:=by
 induction u generalizing j bit with
 |nil=>simp[bR] at h
 |cons x k n _ ih=>
  grind [bR,Fo.starts,cY]
theorem gu (len w:Int):∀ (u:Fo) (j:Nat) (bit:Int),u.At p j->∀ i,i∈u.starts j->((i,7)∈bR p len w u j bit []↔(p.getD i dN).op≠19/\aJ p i=false/\uu p i len w (od p (u.starts j) i bit)=true)
 | .nil,j,bit,_,i,h=>by simp[Fo.starts] at h
 | .cons x k n,j,bit,ha,i,h=>by
   have hx:=At.get ha;simp only[Fo.starts,Z0h] at h;simp only[bR,Fo.starts,od]
   have hbe:∀ w',(i,7)∈bR p len w n (j+1+k.size) w' []->j+1+k.size<=i:=λw' q=>(bK (kQ q)).1
   by_cases hi:i=j
   ·subst hi
    rw[if_pos rfl,hx];split
    ·rename_i ho;rw[ho];simp
    ·rename_i ho
     have ho:aJ p i=false:=by cases q:aJ p i<;>simp_all
     split
     ·rename_i h19
      constructor
      ·intro q;have:=hbe _ q;omega
      ·rintro⟨q,_⟩;exact absurd h19 q
     ·rename_i h19
      rw[cY,Z0w];unfold uu;simp only;rw[decide_eq_true_eq,<-C7];constructor
      ·rintro (q|q)
       ·split at q
        ·exact⟨h19,ho,‹_›⟩
        ·cases q
       ·have:=hbe _ q;omega
      ·rintro⟨_,_,q⟩
       left;rw[if_pos q];simp
   ·have h:=h.resolve_left hi
    rw[if_neg (show ¬j=i from λe=>hi e.symm),hx];split
    ·simp[uu]
    ·split
     ·exact gu len w n _ _ ha.2.2.2 i h
     ·rw[cY,Z0w,gu len w n _ _ ha.2.2.2 i h]
      grind
theorem qv (ha:t.At p 0) (hv:t.V (List.replicate t.cnt (false,68))) {f:Nat} (hf:f<t.size) (h16:(p.getD f dN).op=16):
 f+4<t.size/\t.kid 0 (f+4)=am (t.kid 0 f)/\(aD t (f+4)).pa=(f:Int)/\(am (t.kid 0 f)).At p (f+5)/\(∀ b,b∈(t.kid 0 f).starts (f+1)->(p.getD b dN).op=4->b=f+4)/\∀ e∈(am (t.kid 0 f)).starts (f+5),e<t.size/\(aD t e).pa=((f+4:Nat):Int)/\((p.getD e dN).op=18\/(p.getD e dN).op=19):=by
 obtain⟨u1,u2,u3,u4⟩:=CE ha hv hf h16;obtain⟨_,q1,q2,_,_⟩:=bQ ha hv hf aa;rw[h16,sx] at q2;have hfs:=bC (t:=t) (Z08 f) aa;obtain⟨_,k5,_⟩:=cn ha hv (Z08 (f+4)) (aa:f+4<0+t.size);have k5A:=k5.2.2.1;rw[u2] at k5A;obtain⟨b,_,hb2⟩:=aO (c':=70) [110,105,105] (t.kid 0 f) ac q2;have hbV:=(hb2 p (f+1) q1).2.2.1;refine⟨aa,u2,u3,k5A,λb hb h4=>?_,λe he=>⟨?_,u4 e he,?_⟩⟩
 ·have:=n_ (c':=70) [110,105,105] (t.kid 0 f) (f+1) b ac q2 q1 hb h4
  grind
 ·have:=bK he;omega
 ·obtain⟨sl,hs,g⟩:=dZ k5A hbV he
  have:=(Z3b.1 hs).2;subst this;exact vm g.1.1
theorem mem7 (ha:t.At p 0) (hv:t.V (List.replicate t.cnt (false,68))) (hs:t.size=p.length) (hi:i<t.size):(i,7)∈kD p t↔eG p t i=true:=by
 rw[mg ha hv hs];constructor
 ·rintro (⟨j,hj,h⟩|⟨j,hj,h⟩)
  ·grind [gk]
  ·rw[dM ha hv hs hj] at h
   rcases h with ⟨h,_⟩|⟨h,_⟩|⟨h,_⟩|⟨h16,h1,h2,h3,h⟩|⟨_,h⟩
   ·cases h
   ·cases h
   ·cases h
   ·obtain⟨b1,b2,b3,b4,b5,b6⟩:=qv ha hv hj h16
    have hst:=kQ h;obtain⟨c1,c2,c3⟩:=b6 i hst;rw[gu _ _ _ _ _ b4 i hst] at h
    have hf:l8 t i=j:=by unfold l8;rw[c2,Z12,b3,Z12]
    grind [eG]
   ·rw[c_] at h
    rcases h with h|h
    ·grind [dA]
    ·rcases cO _ _ _ _ _ _ h with h|h<;>cases h
 ·intro h
  unfold eG at h;split at h
  ·rename_i hc
   obtain⟨h18,h16,h1,h3,h2,h5⟩:=hc;obtain⟨f,b,f1,f2,f3,f4,f5,f6,f7,f8,f9⟩:=vE ha hv hi h18
   have hf:l8 t i=f:=by unfold l8;rw[f3,Z12,f4,Z12]
   rw[hf] at h h16 h1 h3 h5;obtain⟨b1,b2,b3,b4,b5,b6⟩:=qv ha hv (show f<t.size by omega) h16;have hb:=b5 b f8 f5;rw[f3,Z12,hb,b2] at h;rw[hb,b2] at f7;refine .inr ⟨f,aa,(dM ha hv hs aa _).2 (.inr (.inr (.inr (.inl ⟨h16,h1,h5,h3,?_⟩))))⟩
   grind [gu]
  ·cases h
theorem j9 (ha:t.At p 0) (hv:t.V (List.replicate t.cnt (false,68))) (hs:t.size=p.length) {d:Nat×Nat} (hd:8<=d.2):d∈kD p t↔∃ M,M<t.size/\(p.getD M dN).op=14/\d∈l6 p (am (t.kid 0 M)) M []:=by
 rw[mg ha hv hs];constructor
 ·grind [gk,dM,eF]
 ·rintro⟨M,hM,h1,h2⟩
  exact .inr ⟨M,hM,(dM ha hv hs hM _).2 (.inr (.inr (.inr (.inr ⟨h1,h2⟩))))⟩
theorem mem8 (ha:t.At p 0) (hv:t.V (List.replicate t.cnt (false,68))) (hs:t.size=p.length) (hi:i<t.size):(i,8)∈kD p t↔xK p t i=true:=by
 rw[j9 ha hv hs (Z02 _)];unfold xK;rw[Z07,decide_eq_true_eq,decide_eq_true_eq]
 have hAt:∀ M,M<t.size->(p.getD M dN).op=14->(am (t.kid 0 M)).At p (M+6):=λM hM h14=>by
  obtain⟨_,q1,q2,_,_⟩:=bQ ha hv hM aa;rw[h14,fb] at q2;obtain⟨b,_,hb2⟩:=aO (c':=83) [115,105,105,105] (t.kid 0 M) ac q2;have:=(hb2 p (M+1) q1).1.2.2.1
  grind
 constructor
 ·rintro⟨M,hM,h14,h⟩
  rw[c_] at h
  rcases h with h|h
  ·rw[dA] at h;exact absurd h.1 (by simp only;omega)
  ·obtain⟨q,hq,hsay⟩:=(cF false _ _ false true (hAt M hM h14) i 8).1 h
   have:=(rh ha hv hM h14 hq).2;subst this;unfold uh at hsay
   rcases hsay with ⟨h,_⟩|⟨_,h1,h2⟩
   ·cases h
   ·exact⟨h1,by have:=of_decide_eq_false h2;omega⟩
 ·rintro⟨h1,h2⟩
  obtain⟨b,b1,b2,b3,b4⟩:=vL ha hv hi aa;obtain⟨M,m1,m2,m3,m4⟩:=mI ha hv i hi b b1 b2 b3 b4;refine⟨M,aa,m3,?_⟩;rw[c_];exact .inr ((cF false _ _ false true (hAt M aa m3) i 8).2 ⟨_,m4,.inr ⟨rfl,h1,decide_eq_false aa⟩⟩)
theorem HI (ha:t.At p 0) (hv:t.V (List.replicate t.cnt (false,68))) (hs:t.size=p.length) (hi:i<t.size):(i,10)∈kD p t↔mK p t i=true:=by
 rw[j9 ha hv hs ae]
 have hAt:∀ M,M<t.size->(p.getD M dN).op=14->(am (t.kid 0 M)).At p (M+6):=λM hM h14=>by
  obtain⟨_,q1,q2,_,_⟩:=bQ ha hv hM aa;rw[h14,fb] at q2;obtain⟨b,_,hb2⟩:=aO (c':=83) [115,105,105,105] (t.kid 0 M) ac q2;have:=(hb2 p (M+1) q1).1.2.2.1
  grind
 constructor
 ·rintro⟨M,hM,h14,h⟩
  rw[c_] at h
  rcases h with h|h
  ·rw[dA] at h;exact absurd h.1 (by simp only;omega)
  ·obtain⟨q,hq,hsay⟩:=(cF false _ _ false true (hAt M hM h14) i 10).1 h
   have:=(rh ha hv hM h14 hq).2;subst this;unfold uh at hsay
   rcases hsay with ⟨_,h⟩|⟨h,_⟩
   ·simpa using h
   ·cases h
 ·intro hu
  obtain⟨b,b1,b2,b3,b4⟩:∃ b,b<i/\(p.getD b dN).op=4/\i∈(t.kid 0 b).starts (b+1)/\bn 83 (p.getD i dN).op=true:=by
   have hu0:=hu;unfold mK at hu
   rcases dH ha hi with ⟨_,h2⟩|⟨b,b1,b2,b3⟩
   ·rw[h2] at hu;simp[ini] at hu
   ·rw[b2,if_neg aa,Z12] at hu
    split at hu
    ·rename_i h4
     obtain⟨c,n1,n2,_⟩:=BU ha hv aa h4
     have hex:∀ l:List Nat,oC p i l=true->∃ k∈l,(p.getD k dN).op=33\/(p.getD k dN).op=34\/(p.getD k dN).op=35:=by
      intro l
      induction l with
      |nil=>intro h;cases h
      |cons k l ih=>
       grind [oC]
     obtain⟨k,hk,ho⟩:=hex _ hu;have hc:=w4 (qJ ha hv aa n1 hk) (.inr (.inr ho));subst hc;exact⟨b,b1,h4,b3,qJ ha hv aa n1 b3⟩
    ·cases hu
  obtain⟨M,m1,m2,m3,m4⟩:=mI ha hv i hi b b1 b2 b3 b4;refine⟨M,aa,m3,?_⟩;rw[c_];exact .inr ((cF false _ _ false true (hAt M aa m3) i 10).2 ⟨_,m4,.inl ⟨rfl,ae⟩⟩)
theorem mem9 (ha:t.At p 0) (hv:t.V (List.replicate t.cnt (false,68))) (hs:t.size=p.length) (hi:i<t.size):(i,9)∈kD p t↔BY p t i=true:=by
 rw[j9 ha hv hs ae];unfold BY;rw[Z07,decide_eq_true_eq,decide_eq_true_eq];constructor
 ·rintro⟨M,hM,h14,h⟩
  rw[c_] at h
  rcases h with h|h
  ·grind [dA,qi]
  ·rcases cO _ _ _ _ _ _ h with h|h<;>cases h
 ·rintro⟨h7,h⟩
  obtain⟨M,m1,m2,m3,m4⟩:=wQ ha hv i hi (by rw[h7];decide);rw[m2,Z12] at h;refine⟨M,aa,m3,?_⟩;rw[c_,dA];have hM:M<t.size:=aa;obtain⟨s1,s2⟩:=qi ha hv hM m3;refine .inl ⟨rfl,?_,ae,h7,h⟩;show M+5<=i;obtain⟨_,q1,q2,_,_⟩:=bQ ha hv hM aa;rw[m3,fb] at q2
  rcases Z0a i (M+5) with hlt|hge
  ·exfalso
   obtain⟨k,hk,rfl⟩:∃ k,k<4/\i=M+1+k:=⟨i-(M+1),aa,aa⟩
   obtain⟨l1,l2,l3⟩:=iW ha hv hM (k:=k) (by rw[m3];show k<5;omega)
   have hmem:M+1+k∈(t.kid 0 M).starts (M+1):=by
    grind
   obtain⟨⟨sb,sc⟩,g1,g2⟩:=dZ q1 q2 hmem;cases sb
   ·have hacc:=g2.1.1
    rw[h7] at hacc;simp[dj,dq] at g1
    rcases g1 with g1|g1|g1
    all_goals
     first
      |(rw[g1] at hacc;revert hacc;decide)
      |(revert hacc;decide)
   ·have:=g2.1.1
    omega
  ·exact hge
theorem De (ha:t.At p 0) (hv:t.V (List.replicate t.cnt (false,68))) (hs:t.size=p.length) (hi:i<t.size) (hc:c<=6):
 (i,c)∈kD p t↔(c=2/\gM p t i=true)\/(c=3/\jf p t i=true)\/(c=4/\aJ p i=true)\/(c=5/\oE p i=true)\/(c=6/\iq p t i=true):=by
 rw[mg ha hv hs];constructor
 ·rintro (⟨j,hj,h⟩|⟨j,hj,h⟩)
  ·grind [gk]
  ·rw[dM ha hv hs hj] at h
   rcases h with ⟨h,h2⟩|⟨h,h2⟩|⟨h,h2⟩|⟨_,_,_,_,h⟩|⟨h1,h⟩
   ·grind
   ·grind
   ·grind
   ·have:=eF _ _ _ _ _ _ h;simp only at this;omega
   ·rw[c_] at h
    rcases h with h|h
    ·grind [dA]
    ·rcases cO _ _ _ _ _ _ h with h|h<;>(simp only at h;omega)
 ·rintro (⟨rfl,h⟩|⟨rfl,h⟩|⟨rfl,h⟩|⟨rfl,h⟩|⟨rfl,h⟩)
  ·exact .inl ⟨i,hi,(gk ha hi _).2 (.inl ⟨rfl,h⟩)⟩
  ·exact .inl ⟨i,hi,(gk ha hi _).2 (.inr ⟨rfl,h⟩)⟩
  ·exact .inr ⟨i,hi,(dM ha hv hs hi _).2 (.inl ⟨rfl,h⟩)⟩
  ·exact .inr ⟨i,hi,(dM ha hv hs hi _).2 (.inr (.inl ⟨rfl,h⟩))⟩
  ·exact .inr ⟨i,hi,(dM ha hv hs hi _).2 (.inr (.inr (.inl ⟨rfl,h⟩)))⟩
theorem Ai (ha:t.At p 0) (hv:t.V (List.replicate t.cnt (false,68))) (hs:t.size=p.length) (hi:i<t.size):(i,c)∈kD p t↔c∈fM p t i:=by
 unfold fM;rw[Z2d,Z20];unfold B7
 rcases Z0a c 7 with h|h
 ·rw[De ha hv hs hi aa]
  have:c=0\/c=1\/c=2\/c=3\/c=4\/c=5\/c=6:=aa
  rcases this with rfl|rfl|rfl|rfl|rfl|rfl|rfl<;>simp
 ·rcases Z0a c 11 with h2|h2
  ·have:c=7\/c=8\/c=9\/c=10:=aa
   rcases this with rfl|rfl|rfl|rfl
   ·rw[mem7 ha hv hs hi];simp
   ·rw[mem8 ha hv hs hi];simp
   ·rw[mem9 ha hv hs hi];simp
   ·rw[HI ha hv hs hi];simp
  ·refine⟨λq=>?_,λq=>by omega⟩
   obtain⟨M,_,_,q⟩:=(j9 ha hv hs (d:=(i,c)) ae).1 q;rw[c_] at q
   rcases q with q|q
   ·grind [dA]
   ·rcases cO _ _ _ _ _ _ q with q|q<;>(simp only at q;omega)
theorem Da (ha:t.At p 0) (hv:t.V (List.replicate t.cnt (false,68))) (hs:t.size=p.length) {d:Nat×Nat} (h:d∈kD p t):d.1<t.size:=by
 rcases Z0a d.2 8 with hc|hc
 ·rw[mg ha hv hs] at h
  rcases h with ⟨j,hj,h⟩|⟨j,hj,h⟩
  ·grind [gk]
  ·rw[dM ha hv hs hj] at h
   rcases h with ⟨h,_⟩|⟨h,_⟩|⟨h,_⟩|⟨h16,_,_,_,h⟩|⟨_,h⟩
   ·grind
   ·grind
   ·grind
   ·exact ((qv ha hv hj h16).2.2.2.2.2 d.1 (kQ (c:=d.2) h)).1
   ·rw[c_] at h
    rcases h with h|h
    ·rw[dA] at h;omega
    ·rcases cO _ _ _ _ _ _ h with h|h<;>omega
 ·obtain⟨M,hM,h14,h⟩:=(j9 ha hv hs hc).1 h
  obtain⟨s1,_⟩:=qi ha hv hM h14;have hMs:=bC (t:=t) (Z08 M) aa;rw[c_] at h
  rcases h with h|h
  ·rw[dA] at h;omega
  ·have:=eb (i:=d.1) (c:=d.2) h;omega
theorem Dd (ha:t.At p 0) (hv:t.V (List.replicate t.cnt (false,68))) (hs:t.size=p.length) (d:Nat×Nat):d∈ew (kD p t)↔d∈zF p t:=by
 rw[(xj (kD p t)).mem_iff]
 grind [zF,Da,Ai]
end
end
