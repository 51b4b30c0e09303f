import Derived.Test.YtegjgpldfgjoiaaGreatDoorCnD45
import Derived.Test.YtegjgpldfgjoiaaGreatDoorCnD43
set_option linter.all false
set_option maxHeartbeats 40000000
set_option maxRecDepth 100000
namespace Go.Proofs.YtegjgpldfgjoiaaGreatDoor
open Go Ab
def stE (x:Ent):Ent:=dU x.path x.op x.par x.tab x.node
def dh (s:Nat):List Ent->List Ro
 |[]=>[]
 |x::t=>((s:Int),stE x)::dh (s+1) t
theorem se:∀ (E:List Ent) (s:Nat),(dh s E).length=E.length
 |[],_=>rfl
 |x::t,s=>by rw[dh,Z04,se t,Z04]
theorem sg:∀ (E F:List Ent) (s:Nat),dh s (E++F)=dh s E++dh (s+E.length) F
 |[],F,s=>rfl
 |x::t,F,s=>by
  rw[Z25,dh,dh,sg t F,Z25,Z04,show s+1+t.length=s+(t.length+1) by omega]
theorem sa:∀ (E:List Ent) (s j:Nat) (y:Ent),(∀ x,E[j]? =some x->stE y=stE x)->dh s (E.set j y)=dh s E
 |[],_,_,_,_=>rfl
 |x::t,s,0,y,h=>by rw[Z3k,dh,dh,h x rfl]
 |x::t,s,j+1,y,h=>by rw[Z2j,dh,dh,sa t (s+1) j y (λz hz=>h z ae)]
theorem vf:∀ (E:List Ent) (s:Nat) (path:By),BX path (dh s E)=match je s E path with|some k=>(k:Int)|none=> -1
 |[],_,_=>rfl
 |x::t,s,path=>by
  rw[dh,BX,je];show (if x.path=path then _ else _)=_;split
  ·rfl
  ·exact vf t (s+1) path
theorem H9 (E:List Ent) (path:By):0<=BX path (dh 0 E)↔(je 0 E path).isSome=true:=by
 grind [vf]
theorem qc:∀ (E:List Ent) (s:Nat) (z:Int),zV z (dh s E)=if (s:Int)<=z then (E[(z-s).toNat]?).map stE else none
 |[],s,z=>by simp[dh,zV]
 |x::t,s,z=>by
  rw[dh,zV,qc t (s+1) z];by_cases h:(s:Int)=z
  ·grind
  ·rw[if_neg h]
   by_cases h2:(s:Int)<=z
   ·rw[if_pos ae,if_pos h2]
    have:(z-s).toNat=(z-((s+1:Nat):Int)).toNat+1:=aa;rw[this,Z23]
   all_goals grind
theorem tp (E:List Ent) (q:Pth):tq (dh 0 E) (BX (aH q) (dh 0 E))=(dS E q).2/\((dS E q).2=true->BX (aH q) (dh 0 E)=(dS E q).1):=by
 unfold tq dS;rw[vf]
 cases h:je 0 E (aH q) with
 |none=>rw[qc];simp
 |some k=>
  obtain⟨_,hk,_⟩:=iw h;rw[Z0c] at hk;simp only;rw[qc,if_pos av]
  have e:E[((k:Int)-((0:Nat):Int)).toNat]? =some (E.getD k eZ):=by
   grind
  rw[e];generalize E.getD k eZ=X at*;show (decide (X.op=10)||decide (X.op=11)||decide (X.op=12))=_/\_
  grind [xB]
theorem ut {q:Pth} (hq:bz q=true) (h:(aW q).2=false):aH q=[92]:=by
 unfold aW at h;split at h
 ·rename_i e
  have e:q.segs.length=0:=by
   grind
  obtain⟨h1,h2,h3⟩:=cy hq
  have hv:aA q=true:=by grind [bz]
  unfold aH;rw[if_pos hv,if_pos h1,Z15 e];rfl
 ·cases h
theorem zJ {s:By} (h:(ak s).2=false):(ak s).1=z0:=by
 grind [eJ,dV,ak]
theorem lf {sc:Pth} {s:By} (h:(au sc (ak s).1).2=true):(ak s).2=true:=by
 cases e:(ak s).2 with
 |true=>rfl
 |false=>
  rw[zJ e] at h;unfold au at h;rw[if_pos (.inr ac)] at h;cases h
theorem Bt (p:List Nd) (num:Int) (E:List Ent) (i:Nat) (sc:Pth) (hd:bw (p.getD i dN).op=true) (hj:(au sc (ak (p.getD (i+1) dN).str).1).2=true) (hroot:(je 0 E [92]).isSome=true):
 th p num (dh 0 E) E.length i sc=(dh 0 (bF p num E i sc).1,((bF p num E i sc).1.length:Int),(bF p num E i sc).2.2.2):=by
 have hp:=lf hj;have ha:=vo hj
 have hjn:bY p (i+1) sc=au sc (ak (p.getD (i+1) dN).str).1:=by unfold bY;rw[if_pos hp]
 have h10: ¬(p.getD i dN).op=10:=λe=>by rw[e] at hd;exact absurd hd ac
 have hdo: ¬iJ (p.getD i dN).op=false:=λe=>by
  grind [iJ,bw]
 have hc:=tp E (aW (au sc (ak (p.getD (i+1) dN).str).1).1).1;have hps:= @ut _ ha;unfold th bF;rw[if_neg hdo,if_neg h10,hjn];unfold tm;generalize au sc (ak (p.getD (i+1) dN).str).1=j at*;obtain⟨q,ok⟩:=j;simp only at hj ha hc hps |-;subst hj;simp only[Z3x,if_false];have hn:=H9 E (aH q);by_cases g1:(je 0 E (aH q)).isSome=true
 ·grind
 rw[if_neg (λh=>g1 (hn.1 h)),if_neg g1]
 have g2:(aW q).2=true:=by
  grind
 rw[g2];simp only[Z3x,if_false];rw[hc.1]
 cases g3:(dS E (aW q).1).2 with
 |false=>simp
 |true=>
  simp only[Z3x,if_false];rw[hc.2 g3,se];by_cases g4:E.length<1024
  ·rw[if_neg aa,if_pos g4]
   simp only[Z0j];refine⟨?_,av,trivial⟩;rw[sg,Z0c];rfl
  all_goals grind
section
variable {E:List Ent} {i j:Nat} {t:Fo} {a:Inf}
abbrev StR:=List Ro×Int×Int
def jD (p:List Nd) (num:Int) (t:Fo) (j:Nat) (a:Inf) (s:StR) (i:Nat):StR:=if s.2.2=0 then th p num s.1 s.2.1 i (bG t j i a).sc else s
abbrev l4 (E:List Ent) (e:Int):StR:=(dh 0 E,(E.length:Int),e)
def RootE (E:List Ent):Prop:=∃ x t,E=x::t/\x.path=[92]
theorem RootE.ix (h:RootE E):(je 0 E [92]).isSome=true:=by
 obtain⟨x,t,rfl,h⟩:=h;rw[je,if_pos h];rfl
theorem RootE.app {F:List Ent} (h:RootE E):RootE (E++F):=by
 obtain⟨x,t,rfl,h⟩:=h;exact⟨x,t++F,rfl,h⟩
theorem RootE.set (h:RootE E) (k:Nat) (y:Ent) (hy:y.path=(E.getD k eZ).path):RootE (E.set k y):=by
 obtain⟨x,t,rfl,h⟩:=h
 cases k with
 |zero=>exact⟨y,t,rfl,hy.trans h⟩
 |succ k=>exact⟨x,t.set k y,rfl,h⟩
theorem RootE.add {p:List Nd} {num:Int} {sc:Pth} (h:RootE E):RootE (bF p num E i sc).1:=by
 unfold bF
 repeat' split
 all_goals first
  |exact h
  |exact h.app
section
variable {p:List Nd} {num:Int}
theorem gD {x:Nd} {k n:Fo} (a:Inf) (s:StR):
 (List.range' j (Fo.cons x k n).size).foldl (jD p num (.cons x k n) j a) s=
   (List.range' (j+1+k.size) n.size).foldl (jD p num n (j+1+k.size) a) ((List.range' (j+1) k.size).foldl (jD p num k (j+1) (bJ x (aw k) j a)) (jD p num (.cons x k n) j a s j)):=by
 have e:List.range' j (Fo.cons x k n).size=j::(List.range' (j+1) k.size++List.range' (j+1+k.size) n.size):=by
  simp only[Fo.size];rw[show 1+k.size+n.size=(k.size+n.size)+1 by omega,Z31,Z5z]
 rw[e,Z2s,Z4a];rw[fg (f:=jD p num (.cons x k n) j a) (g:=jD p num k (j+1) (bJ x (aw k) j a)) (l:=List.range' (j+1) k.size)]
 ·refine fg λi hi s=>?_
  have:=Z20.1 hi;unfold jD;have h1: ¬i=j:=aa;have h2: ¬i<j+1+k.size:=aa;simp only[bG,if_neg h1,if_neg h2]
 ·intro i hi s
  have:=Z20.1 hi;unfold jD;have h1: ¬i=j:=aa;have h2:i<j+1+k.size:=aa;simp only[bG,if_neg h1,if_pos h2]
theorem gf {t:Fo} {j:Nat} {a:Inf} {s:StR} (h:s.2.2≠0):∀ l:List Nat,l.foldl (jD p num t j a) s=s
 |[]=>rfl
 |i::l=>by rw[Z2s,show jD p num t j a s i=s from if_neg h,gf h l]
theorem Fn {s:StR} (h:iJ (p.getD i dN).op=false):jD p num t j a s i=s\/s.2.2=0/\jD p num t j a s i=(s.1,s.2.1,0):=by
 grind [jD,th]
theorem gw {s:StR} (h:iJ (p.getD i dN).op=false):jD p num t j a s i=s:=by
 rcases Fn (t:=t) (j:=j) (a:=a) (s:=s) (num:=num) h with e|⟨e1,e2⟩
 all_goals grind
theorem iB (ha:t.At p j) (hq:t.all quiet) (a:Inf) (s:StR):(List.range' j t.size).foldl (jD p num t j a) s=s:=by
 grind [iJ,quiet,qu,Fo.all_at,gw]
theorem vg {c':Int}:∀ (ls:List Int) (t:Fo) (j:Nat) (a:Inf) (s:StR),ls.all fY=true->t.At p j->t.V (ls.map (λc=>(false,c))++[(true,c')])->
 ∃ b:Inf,b.sc=a.sc/\(am t).At p (j+ls.length+1)/\(am t).V (List.replicate (am t).cnt (false,c'))/\t.size=ls.length+1+(am t).size/\(∀ i,j+ls.length+1<=i->i<j+ls.length+1+(am t).size->bG t j i a=bG (am t) (j+ls.length+1) i b)/\
   (List.range' j t.size).foldl (jD p num t j a) s=(List.range' (j+ls.length+1) (am t).size).foldl (jD p num (am t) (j+ls.length+1) b) s
 |[],t,j,a,s,_,ha,hv=>by
  obtain⟨y,bl,n,rfl,h1,h2,h3⟩:=kJ hv;have:=iO h1;subst this
  have hsc:(bJ y (aw bl) j a).sc=a.sc:=by
   grind [bJ]
  refine⟨_,hsc,ha.2.2.1,h3,by simp only[Fo.size,am,Z0e];omega,λi h4 h5=>?_,?_⟩
  ·grind [am,bG]
  ·rw[gD,gw (by rw[At.get ha,h2];decide)]
   simp only[Fo.size,Z50,Z5x];rfl
 |c::ls,t,j,a,s,hl,ha,hv=>by
  simp only[Z1b,Z07] at hl;obtain⟨y,n,rfl,h1,hop⟩:=fk hl.1 hv
  have hn:n.At p (j+1):=by have:=ha.2.2.2;simpa [Fo.size] using this
  have hlb:am (.cons y .nil n)=am n:=by
   obtain⟨b,g3,_⟩:=aO ls n hl.2 h1
   cases n with
   |nil=>simp only[Fo.size] at g3;omega
   |cons a b c=>rfl
  obtain⟨b,q1,q2,q3,q4,q5,q6⟩:=vg ls n (j+1) a s hl.2 hn h1;rw[hlb];have e:j+(c::ls).length+1=j+1+ls.length+1:=ae;rw[e];refine⟨b,q1,q2,q3,by simp only[Fo.size,Z04];omega,λi h4 h5=>?_,?_⟩
  ·grind [bG,Fo.size]
  ·rw[gD,gw (by grind [At.get,iJ])]
   grind [Fo.size]
theorem CS {k:Nat} {a b c d:Int}:dh 0 (E.set k (zf (E.getD k eZ) a b c d))=dh 0 E:=sa E 0 k _ λx hx=>by rw[Z00,hx];rfl
theorem mP (hd:bw (p.getD i dN).op=true) (hj:(au (bG t j i a).sc (ak (p.getD (i+1) dN).str).1).2=true) (hr:RootE E):jD p num t j a (l4 E 0) i=l4 (bF p num E i (bG t j i a).sc).1 (bF p num E i (bG t j i a).sc).2.2.2:=by
 unfold jD;rw[if_pos rfl];exact Bt p num E i _ hd hj hr.ix
theorem Bj (sc:Pth) (wid upd:Int):∀ (t:Fo) (c:Nat) (a:Inf) (E:List Ent) (us:List Int) (bits:Int),a.sc=sc->t.At p c->t.V (List.replicate t.cnt (false,70))->RootE E->(∀ i,c<=i->i<c+t.size->bw (p.getD i dN).op=true->(au (bG t c i a).sc (ak (p.getD (i+1) dN).str).1).2=true)->
 (List.range' c t.size).foldl (jD p num t c a) (l4 E 0)=l4 (fp p num sc wid upd t c E us bits).1 (fp p num sc wid upd t c E us bits).2.2.2/\RootE (fp p num sc wid upd t c E us bits).1
 | .nil,c,a,E,us,bits,_,_,_,hr,_=>⟨rfl,hr⟩
 | .cons x k n,c,a,E,us,bits,hsc,ha,hv,hr,hJ=>by
   have hv':=hv;simp only[Fo.cnt,Z16] at hv';obtain⟨⟨h1,h2,h3⟩,h4,h5⟩:=hv';have hop:=vm h1
   have hq:k.all quiet:=fF h4 λsl hsl=>by
    obtain⟨b,hb',rfl⟩:=Z1d.1 hsl
    grind [ge,lA]
   have hJn:∀ i,c+1+k.size<=i->i<c+1+k.size+n.size->bw (p.getD i dN).op=true->(au (bG n (c+1+k.size) i a).sc (ak (p.getD (i+1) dN).str).1).2=true:=λi g1 g2 g3=>by
    grind [Fo.size,bG]
   rw[gD,fp];have hx:p.getD c dN=x:=At.get ha
   have hc:(bG (.cons x k n) c c a).sc=sc:=by simp only[bG,if_true];exact hsc
   by_cases h19:x.op=19
   ·rw[if_pos h19,gw (by rw[hx,h19];decide),iB ha.2.2.1 hq]
    exact Bj sc wid upd n (c+1+k.size) a E us (bits+ai p (c+1)) hsc ha.2.2.2 h5 hr hJn
   ·have h18:x.op=18:=aa
    have hd:bw (p.getD c dN).op=true:=by rw[hx,h18];decide
    rw[if_neg h19,mP hd (hJ c (Z02 _) (by simp only[Fo.size];omega) hd) hr,hc];have hr1:=hr.add (p:=p) (num:=num) (i:=c) (sc:=sc);by_cases he:(bF p num E c sc).2.2.2=0
    ·rw[if_neg (λh=>h he),he,iB ha.2.2.1 hq]
     have:=Bj sc wid upd n (c+1+k.size) a ((bF p num E c sc).1.set E.length (zf ((bF p num E c sc).1.getD E.length eZ) bits (ai p (c+2)) wid upd)) (us++[(E.length:Int)]) (bits+ai p (c+2)) hsc ha.2.2.2 h5 (hr1.set _ _ rfl) hJn;rw[show l4 ((bF p num E c sc).1.set E.length (zf ((bF p num E c sc).1.getD E.length eZ) bits (ai p (c+2)) wid upd)) 0=l4 (bF p num E c sc).1 0 by unfold l4;rw[CS,Z18]] at this;exact this
    all_goals grind [gf]
theorem Ia {op:Int} (h:bn 68 op=true):op≠18/\op≠19:=by
 constructor
 ·rintro rfl;revert h;decide
 ·rintro rfl;revert h;decide
theorem GN {sc:Pth} (h:(bF p num E i sc).2.2.2=0):(bF p num E i sc).2.2.1=(bY p (i+1) sc).1:=by
 unfold bF at h |-
 repeat' split
 all_goals first
  |rfl
  |(simp_all;done)
theorem Bu:∀ (N:Nat) (t:Fo) (j:Nat) (a:Inf) (E:List Ent) (fs:List Fd),t.size<N->t.At p j->t.V (List.replicate t.cnt (false,68))->RootE E->(∀ i,j<=i->i<j+t.size->iJ (p.getD i dN).op=true->(au (bG t j i a).sc (ak (p.getD (i+1) dN).str).1).2=true)->
 (List.range' j t.size).foldl (jD p num t j a) (l4 E 0)=l4 (aY p num false t j a.sc E fs).1 (aY p num false t j a.sc E fs).2.2/\RootE (aY p num false t j a.sc E fs).1
 |0,_,_,_,_,_,h,_,_,_,_=>absurd h (Z1m _)
 |N+1,.nil,j,a,E,fs,_,_,_,hr,_=>⟨rfl,hr⟩
 |N+1,.cons x k n,j,a,E,fs,hN,ha,hv,hr,hJ=>by
  simp only[Fo.size] at hN;have hv':=hv;simp only[Fo.cnt,Z16] at hv';obtain⟨⟨h1,h2,h3⟩,h4,h5⟩:=hv';have hop:=mq (.inl rfl) h1;have hx:p.getD j dN=x:=At.get ha;have hk:=ha.2.2.1
  have hJn:∀ i,j+1+k.size<=i->i<j+1+k.size+n.size->iJ (p.getD i dN).op=true->(au (bG n (j+1+k.size) i a).sc (ak (p.getD (i+1) dN).str).1).2=true:=λi g1 g2 g3=>by
   grind [Fo.size,bG]
  have hJk:∀ i,j+1<=i->i<j+1+k.size->iJ (p.getD i dN).op=true->(au (bG k (j+1) i (bJ x (aw k) j a)).sc (ak (p.getD (i+1) dN).str).1).2=true:=λi g1 g2 g3=>by
   have:=hJ i aa (by simp only[Fo.size];omega) g3;simp only[bG] at this
   rwa [if_neg aa,if_pos aa] at this
  have hJj:iJ x.op=true->(au a.sc (ak (p.getD (j+1) dN).str).1).2=true:=λh=>by
   have:=hJ j (Z02 _) (by simp only[Fo.size];omega) (by rw[hx];exact h)
   simpa only [bG,if_true] using this
  have hc:(bG (.cons x k n) j j a).sc=a.sc:=by simp only[bG,if_true]
  rw[gD,aY]
  --the declaration itself
  have key:((List.range' (j+1) k.size).foldl (jD p num k (j+1) (bJ x (aw k) j a)) (jD p num (.cons x k n) j a (l4 E 0) j)=l4 (gW p num x k j a.sc E fs λsc E fs=>aY p num true k (j+1) sc E fs).1 (gW p num x k j a.sc E fs λsc E fs=>aY p num true k (j+1) sc E fs).2.2)
   /\RootE (gW p num x k j a.sc E fs λsc E fs=>aY p num true k (j+1) sc E fs).1:=by
   have h18:x.op≠18/\x.op≠19:=Ia h1
   --the state behind the node's own step
   have plain:bw x.op=true->jD p num (.cons x k n) j a (l4 E 0) j=l4 (bF p num E j a.sc).1 (bF p num E j a.sc).2.2.2:=λh=>by
    have:=mP (num:=num) (t:=.cons x k n) (j:=j) (i:=j) (a:=a) (by rw[hx];exact h) (by rw[hc];exact hJj (by unfold bw at h;unfold iJ;simp only[decide_eq_true_eq] at h |-;omega)) hr;rw[hc] at this;exact this
   have blk:∀ (ls:List Int) (E:List Ent),(ls.all fY)=true->k.V (ls.map (λc=>(false,c))++[(true,68)])->RootE E->
    (List.range' (j+1) k.size).foldl (jD p num k (j+1) (bJ x (aw k) j a)) (l4 E 0)=l4 (aY p num true k (j+1) (bJ x (aw k) j a).sc E fs).1 (aY p num true k (j+1) (bJ x (aw k) j a).sc E fs).2.2/\RootE (aY p num true k (j+1) (bJ x (aw k) j a).sc E fs).1:=λls E hl hk4 hr=>by
    obtain⟨b,q1,q2,q3,q4,q5,q6⟩:=vg (num:=num) ls k (j+1) (bJ x (aw k) j a) (l4 E 0) hl hk hk4;rw[q6,eu ls k hl hk4,<-q1]
    exact Bu N (am k) (j+1+ls.length+1) b E fs aa q2 q3 hr λi g1 g2 g3=>by
     grind
   have els:∀ (ls:List Int) (w u:Int),(ls.all fY)=true->k.V (ls.map (λc=>(false,c))++[(true,70)])->(bJ x (aw k) j a).sc=a.sc->
    (List.range' (j+1) k.size).foldl (jD p num k (j+1) (bJ x (aw k) j a)) (l4 E 0)=l4 (fp p num a.sc w u (am k) (j+1+ls.length+1) E [] 0).1 (fp p num a.sc w u (am k) (j+1+ls.length+1) E [] 0).2.2.2/\RootE (fp p num a.sc w u (am k) (j+1+ls.length+1) E [] 0).1:=λls w u hl hk4 hs=>by
    obtain⟨b,q1,q2,q3,q4,q5,q6⟩:=vg (num:=num) ls k (j+1) (bJ x (aw k) j a) (l4 E 0) hl hk hk4;rw[q6]
    exact Bj a.sc w u (am k) (j+1+ls.length+1) b E [] 0 (q1.trans hs) q2 q3 hr λi g1 g2 g3=>by
     rw[<-q5 i g1 g2];exact hJk i aa aa (by unfold bw at g3;unfold iJ;simp only[decide_eq_true_eq] at g3 |-;omega)
   have hin:(x.op=10\/x.op=11\/x.op=12)->k.V (dj (aq x.op x.kids).1)->(bY p (j+1) a.sc).2=true/\(bJ x (aw k) j a).sc=(bY p (j+1) a.sc).1:=λh hv=>by
    have hd:iJ x.op=true:=by grind [iJ]
    have h1:=hJj hd
    have h2:bY p (j+1) a.sc=au a.sc (ak (p.getD (j+1) dN).str).1:=by unfold bY;rw[if_pos (lf h1)]
    have hn:aw k=(ak (p.getD (j+1) dN).str).1:=by
     have hne:∃ sl r,dj (aq x.op x.kids).1=sl::r:=by
      rcases h with e|e|e<;>rw[e]<;>exact⟨_,_,rfl⟩
     obtain⟨sl,r,e⟩:=hne;rw[e] at hv;obtain⟨y,ky,n',rfl,_⟩:=vu hv;rw[At.get hk];rfl
    grind [bJ]
   have hns: ¬(x.op=10\/x.op=11\/x.op=12)->(bJ x (aw k) j a).sc=a.sc:=λh=>by
    unfold bJ;simp only;rw[if_neg (λe=>h e.1)]
   unfold gW;by_cases h10:x.op=10
   ·obtain⟨g1,g2⟩:=hin (.inl h10) h4
    rw[if_pos h10,if_neg ae]
    have hst:jD p num (.cons x k n) j a (l4 E 0) j=l4 E (if (dS E (bY p (j+1) a.sc).1).2=false then 6 else 0):=by
     have h1:=hJj (by rw[h10];decide)
     have h2:bY p (j+1) a.sc=au a.sc (ak (p.getD (j+1) dN).str).1:=by unfold bY;rw[if_pos (lf h1)]
     unfold jD;rw[if_pos rfl,hc];unfold th;rw[hx,if_neg (by rw[h10];decide),if_pos h10];show (if tq (dh 0 E) (BX (aH (tm p j a.sc)) (dh 0 E))=false then _ else _)=_;rw[(tp E (tm p j a.sc)).1,h2]
     grind
    rw[hst];by_cases hcn:(dS E (bY p (j+1) a.sc).1).2=false
    ·grind [gf]
    ·rw[if_neg hcn,if_neg hcn,<-g2]
     rw[h10] at h4;exact blk [110] E rfl h4 hr
   rw[if_neg h10];by_cases h16:x.op=16
   ·rw[if_pos h16,gw (by rw[hx,h16];decide)]
    have h4':=h4;rw[h16] at h4';exact els [110,105,105] _ _ rfl h4' (hns aa)
   rw[if_neg h16];by_cases h17:x.op=17
   ·rw[if_pos h17,gw (by rw[hx,h17];decide)]
    have h4':=h4;rw[h17] at h4';exact els [110,110,105,105] _ _ rfl h4' (hns aa)
   rw[if_neg h17]
   have hdb:bw x.op=true:=by grind [bw]
   rw[plain hdb];have hr1:=hr.add (p:=p) (num:=num) (i:=j) (sc:=a.sc);by_cases he:(bF p num E j a.sc).2.2.2=0
   ·rw[if_neg (λh=>h he),he]
    by_cases hb:x.op=11\/x.op=12
    ·rw[if_pos hb]
     obtain⟨g1,g2⟩:=hin (.inr hb) h4
     have g3:(bF p num E j a.sc).2.2.1=(bJ x (aw k) j a).sc:=by
      grind [GN]
     rw[g3]
     rcases hb with hb|hb
     ·have h4':=h4
      rw[hb] at h4';exact blk [115] _ rfl h4' hr1
     ·have h4':=h4
      rw[hb] at h4';exact blk [115,105,105] _ rfl h4' hr1
    ·rw[if_neg hb]
     have hq:k.all quiet:=fF h4 λsl hsl=>by
      obtain⟨b,hb',rfl⟩:=Z1d.1 hsl;exact lA h1 (.inl rfl) (by unfold ge;rw[decide_eq_false_iff_not];omega) b hb'
     grind [iB]
   all_goals grind [gf]
  obtain⟨e1,e2⟩:=key;rw[e1];generalize gW p num x k j a.sc E fs (λsc E fs=>aY p num true k (j+1) sc E fs)=Q at*;obtain⟨E1,fs1,e⟩:=Q;by_cases he:e=0
  ·subst he
   rw[if_pos rfl];exact Bu N n (j+1+k.size) a E1 fs1 aa ha.2.2.2 h5 e2 hJn
  all_goals grind [gf]
end
end
