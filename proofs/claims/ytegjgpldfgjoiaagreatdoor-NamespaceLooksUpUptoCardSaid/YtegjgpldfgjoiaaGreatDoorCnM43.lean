import Derived.Test.YtegjgpldfgjoiaaGreatDoorCnM42
import Derived.Test.YtegjgpldfgjoiaaGreatDoorCnM32
import Derived.Test.YtegjgpldfgjoiaaGreatDoorCnM29
set_option linter.all false
namespace Go.Proofs.YtegjgpldfgjoiaaGreatDoor
open Go Ab
set_option maxRecDepth 100000
def zb (x:Ent):Ent:=dH x.path x.op x.par x.tab x.node
def aA (s:Nat):List Ent->List Ro
 |[]=>[]
 |x::t=>((s:Int),zb x)::aA (s+1) t
theorem dV:∀ (E:List Ent) (s:Nat),(aA s E).length=E.length
 |[],_=>rfl
 |x::t,s=>by rw[aA,Z04,dV t,Z04]
theorem tX:∀ (E F:List Ent) (s:Nat),aA s (E++F)=aA s E++aA (s+E.length) F
 |[],F,s=>rfl
 |x::t,F,s=>by
  rw[Z25,aA,aA,tX t F,Z25,Z04,show s+1+t.length=s+(t.length+1) by omega]
theorem oq:∀ (E:List Ent) (s j:Nat) (y:Ent),(∀ x,E[j]? =some x->zb y=zb x)->aA s (E.set j y)=aA s E
 |[],_,_,_,_=>rfl
 |x::t,s,0,y,h=>by rw[Z3k,aA,aA,h x rfl]
 |x::t,s,j+1,y,h=>by rw[Z2j,aA,aA,oq t (s+1) j y (λz hz=>h z (by simpa using hz))]
theorem sC:∀ (E:List Ent) (s:Nat) (path:By),pv path (aA s E)=match mp s E path with|some k=>(k:Int)|none=> -1
 |[],_,_=>rfl
 |x::t,s,path=>by
  rw[aA,pv,mp];show (if x.path=path then _ else _)=_;split
  ·rfl
  ·exact sC t (s+1) path
theorem JZ (E:List Ent) (path:By):0<=pv path (aA 0 E)↔(mp 0 E path).isSome=true:=by
 rw[sC]
 cases mp 0 E path<;>simp
theorem je:∀ (E:List Ent) (s:Nat) (z:Int),gD z (aA s E)=if (s:Int)<=z then (E[(z-s).toNat]?).map zb else none
 |[],s,z=>by simp[aA,gD]
 |x::t,s,z=>by
  rw[aA,gD,je t (s+1) z];by_cases h:(s:Int)=z
  ·rw[if_pos h,if_pos aa,<-h];simp
  ·rw[if_neg h]
   by_cases h2:(s:Int)<=z
   ·rw[if_pos (by push_cast;omega),if_pos h2]
    have:(z-s).toNat=(z-((s+1:Nat):Int)).toNat+1:=aa;rw[this,Z23]
   ·rw[if_neg (by push_cast;omega),if_neg h2]
theorem va (E:List Ent) (q:Pth):k_ (aA 0 E) (pv (aI q) (aA 0 E))=(eT E q).2/\((eT E q).2=true->pv (aI q) (aA 0 E)=(eT E q).1):=by
 unfold k_ eT;rw[sC]
 cases h:mp 0 E (aI q) with
 |none=>rw[je];simp
 |some k=>
  obtain⟨_,hk,_⟩:=kP h;rw[Z0c] at hk;simp only;rw[je,if_pos an]
  have e:E[((k:Int)-((0:Nat):Int)).toNat]? =some (E.getD k eZ):=by
   simp[Z00,Z01 hk]
  rw[e];generalize E.getD k eZ=X at*;show (decide (X.op=10)||decide (X.op=11)||decide (X.op=12))=_/\_;unfold BL;by_cases ho:X.op=10\/X.op=11\/X.op=12
  ·rw[if_pos (decide_eq_true ho)]
   exact⟨by rcases ho with h|h|h<;>simp[h],λ_=>rfl⟩
  ·rw[if_neg (by rw[decide_eq_false ho];simp)]
   refine⟨?_,λh=>by cases h⟩;simp only[not_or] at ho;rw[decide_eq_false ho.1,decide_eq_false ho.2.1,decide_eq_false ho.2.2];rfl
theorem vV {q:Pth} (hq:bz q=true) (h:(aO q).2=false):aI q=[92]:=by
 unfold aO at h;split at h
 ·rename_i e
  have e:q.segs.length=0:=by
   rcases e with e|e
   ·rw[hq] at e;cases e
   ·exact e
  obtain⟨h1,h2,h3⟩:=cH hq
  have hv:ay q=true:=by unfold bz at hq;simp only[Z07] at hq;exact hq.2
  unfold aI;rw[if_pos hv,if_pos h1,Z15 e];rfl
 ·cases h
theorem BG {s:By} (h:(ah s).2=false):(ah s).1=z0:=by
 have hf:∀ q:Pth,(eQ q).2=false->(eQ q).1=z0:=λq h=>by
  unfold eQ at h |-;split
  ·rename_i hh;rw[if_pos hh] at h;cases h
  ·rfl
 have ht:∀ (r:Bool) (u:Nat) (l:By),(dJ r u l).2=false->(dJ r u l).1=z0:=λr u l h=>by
  unfold dJ at h |-;split
  ·rename_i hh;rw[if_pos hh] at h;exact hf _ h
  ·rename_i hh
   rw[if_neg hh] at h;split
   ·rfl
   ·rename_i h2;rw[if_neg h2] at h;exact hf _ h
 unfold ah at h |-;split
 ·rename_i hh;rw[if_pos hh] at h;exact ht _ _ _ h
 ·rename_i hh;rw[if_neg hh] at h;exact ht _ _ _ h
theorem jh {sc:Pth} {s:By} (h:(aq sc (ah s).1).2=true):(ah s).2=true:=by
 cases e:(ah s).2 with
 |true=>rfl
 |false=>
  rw[BG e] at h;unfold aq at h;rw[if_pos (.inr ac)] at h;cases h
theorem C_ (p:List Nd) (num:Int) (E:List Ent) (i:Nat) (sc:Pth) (hd:bQ (p.getD i dN).op=true) (hj:(aq sc (ah (p.getD (i+1) dN).str).1).2=true) (hroot:(mp 0 E [92]).isSome=true):
 cW p num (aA 0 E) E.length i sc=(aA 0 (bt p num E i sc).1,((bt p num E i sc).1.length:Int),(bt p num E i sc).2.2.2):=by
 have hp:=jh hj;have ha:=xg hj
 have hjn:bS p (i+1) sc=aq sc (ah (p.getD (i+1) dN).str).1:=by unfold bS;rw[if_pos hp]
 have h10: ¬(p.getD i dN).op=10:=λe=>by rw[e] at hd;exact absurd hd ac
 have hdo: ¬eS (p.getD i dN).op=false:=λe=>by
  unfold eS at e;unfold bQ at hd;rw[decide_eq_false_iff_not] at e;simp only[decide_eq_true_eq] at hd;omega
 have hc:=va E (aO (aq sc (ah (p.getD (i+1) dN).str).1).1).1;have hps:= @vV _ ha;unfold cW bt;rw[if_neg hdo,if_neg h10,hjn];unfold mQ;generalize aq sc (ah (p.getD (i+1) dN).str).1=j at*;obtain⟨q,ok⟩:=j;simp only at hj ha hc hps |-;subst hj;simp only[Z3x,if_false];have hn:=JZ E (aI q);by_cases g1:(mp 0 E (aI q)).isSome=true
 ·rw[if_pos (hn.2 g1),if_pos g1]
 rw[if_neg (λh=>g1 (hn.1 h)),if_neg g1]
 have g2:(aO q).2=true:=by
  cases e:(aO q).2 with
  |true=>rfl
  |false=>exact absurd (by rw[hps e];exact hroot) g1
 rw[g2];simp only[Z3x,if_false];rw[hc.1]
 cases g3:(eT E (aO q).1).2 with
 |false=>simp
 |true=>
  simp only[Z3x,if_false];rw[hc.2 g3,dV];by_cases g4:E.length<1024
  ·rw[if_neg aa,if_pos g4]
   simp only[Z0j];refine⟨?_,an,trivial⟩;rw[tX,Z0c];rfl
  ·rw[if_pos aa,if_neg g4]
set_option maxHeartbeats 40000000
section
variable {E:List Ent} {i j:Nat} {t:Fo} {a:Inf}
abbrev StR:=List Ro×Int×Int
def jY (p:List Nd) (num:Int) (t:Fo) (j:Nat) (a:Inf) (s:StR) (i:Nat):StR:=if s.2.2=0 then cW p num s.1 s.2.1 i (bf t j i a).sc else s
abbrev mI (E:List Ent) (e:Int):StR:=(aA 0 E,(E.length:Int),e)
def RootE (E:List Ent):Prop:=∃ x t,E=x::t/\x.path=[92]
theorem RootE.ix (h:RootE E):(mp 0 E [92]).isSome=true:=by
 obtain⟨x,t,rfl,h⟩:=h;rw[mp,if_pos h];rfl
theorem RootE.app {F:List Ent} (h:RootE E):RootE (E++F):=by
 obtain⟨x,t,rfl,h⟩:=h;exact⟨x,t++F,rfl,h⟩
theorem RootE.set (h:RootE E) (k:Nat) (y:Ent) (hy:y.path=(E.getD k eZ).path):RootE (E.set k y):=by
 obtain⟨x,t,rfl,h⟩:=h
 cases k with
 |zero=>exact⟨y,t,rfl,hy.trans h⟩
 |succ k=>exact⟨x,t.set k y,rfl,h⟩
theorem RootE.add {p:List Nd} {num:Int} {sc:Pth} (h:RootE E):RootE (bt p num E i sc).1:=by
 unfold bt
 repeat' split
 all_goals first
  |exact h
  |exact h.app
section
variable {p:List Nd} {num:Int}
theorem g_ {x:Nd} {k n:Fo} (a:Inf) (s:StR):
 (List.range' j (Fo.cons x k n).size).foldl (jY p num (.cons x k n) j a) s=
   (List.range' (j+1+k.size) n.size).foldl (jY p num n (j+1+k.size) a) ((List.range' (j+1) k.size).foldl (jY p num k (j+1) (bc x (ao k) j a)) (jY p num (.cons x k n) j a s j)):=by
 have e:List.range' j (Fo.cons x k n).size=j::(List.range' (j+1) k.size++List.range' (j+1+k.size) n.size):=by
  simp only[Fo.size];rw[show 1+k.size+n.size=(k.size+n.size)+1 by omega,Z31,Z5z]
 rw[e,Z2s,Z4a];rw[eo (f:=jY p num (.cons x k n) j a) (g:=jY p num k (j+1) (bc x (ao k) j a)) (l:=List.range' (j+1) k.size)]
 ·refine eo λi hi s=>?_
  have:=Z20.1 hi;unfold jY;have h1: ¬i=j:=aa;have h2: ¬i<j+1+k.size:=aa;simp only[bf,if_neg h1,if_neg h2]
 ·intro i hi s
  have:=Z20.1 hi;unfold jY;have h1: ¬i=j:=aa;have h2:i<j+1+k.size:=aa;simp only[bf,if_neg h1,if_pos h2]
theorem gJ {t:Fo} {j:Nat} {a:Inf} {s:StR} (h:s.2.2≠0):∀ l:List Nat,l.foldl (jY p num t j a) s=s
 |[]=>rfl
 |i::l=>by rw[Z2s,show jY p num t j a s i=s from if_neg h,gJ h l]
theorem Hk {s:StR} (h:eS (p.getD i dN).op=false):jY p num t j a s i=s\/s.2.2=0/\jY p num t j a s i=(s.1,s.2.1,0):=by
 unfold jY;split
 ·rename_i h0
  refine .inr ⟨h0,?_⟩;unfold cW;rw[if_pos h]
 ·exact .inl rfl
theorem ja {s:StR} (h:eS (p.getD i dN).op=false):jY p num t j a s i=s:=by
 rcases Hk (t:=t) (j:=j) (a:=a) (s:=s) (num:=num) h with e|⟨e1,e2⟩
 ·exact e
 ·rw[e2,<-e1]
theorem ge (ha:t.At p j) (hq:t.all quiet) (a:Inf) (s:StR):(List.range' j t.size).foldl (jY p num t j a) s=s:=by
 refine rU λi hi s=>?_
 have:=Z20.1 hi;have hx:=Fo.all_at ha hq (aa:j<=i) aa;refine ja ?_;unfold eS;unfold quiet at hx;rw[decide_eq_false_iff_not];omega
theorem l_ {c':Int}:∀ (ls:List Int) (t:Fo) (j:Nat) (a:Inf) (s:StR),ls.all d8=true->t.At p j->t.V (ls.map (λc=>(false,c))++[(true,c')])->
 ∃ b:Inf,b.sc=a.sc/\(ak t).At p (j+ls.length+1)/\(ak t).V (List.replicate (ak t).cnt (false,c'))/\t.size=ls.length+1+(ak t).size/\(∀ i,j+ls.length+1<=i->i<j+ls.length+1+(ak t).size->bf t j i a=bf (ak t) (j+ls.length+1) i b)/\
   (List.range' j t.size).foldl (jY p num t j a) s=(List.range' (j+ls.length+1) (ak t).size).foldl (jY p num (ak t) (j+ls.length+1) b) s
 |[],t,j,a,s,_,ha,hv=>by
  obtain⟨y,bl,n,rfl,h1,h2,h3⟩:=iZ hv;have:=gS h1;subst this
  have hsc:(bc y (ao bl) j a).sc=a.sc:=by
   unfold bc;simp only;rw[if_neg (λq=>by have:=q.1;omega)]
  refine⟨_,hsc,ha.2.2.1,h3,by simp only[Fo.size,ak,Z0e];omega,λi h4 h5=>?_,?_⟩
  ·simp only[ak,Z0e] at h4 h5 |-
   simp only[bf];rw[if_neg aa,if_pos aa]
  ·rw[g_,ja (by rw[At.get ha,h2];decide)]
   simp only[Fo.size,Z50,Z5x];rfl
 |c::ls,t,j,a,s,hl,ha,hv=>by
  simp only[Z1b,Z07] at hl;obtain⟨y,n,rfl,h1,hop⟩:=d6 hl.1 hv
  have hn:n.At p (j+1):=by have:=ha.2.2.2;simpa [Fo.size] using this
  have hlb:ak (.cons y .nil n)=ak n:=by
   obtain⟨b,g3,_⟩:=aR ls n hl.2 h1
   cases n with
   |nil=>simp only[Fo.size] at g3;omega
   |cons a b c=>rfl
  obtain⟨b,q1,q2,q3,q4,q5,q6⟩:=l_ ls n (j+1) a s hl.2 hn h1;rw[hlb]
  have e:j+(c::ls).length+1=j+1+ls.length+1:=by simp only[Z04];omega
  rw[e];refine⟨b,q1,q2,q3,by simp only[Fo.size,Z04];omega,λi h4 h5=>?_,?_⟩
  ·rw[<-q5 i h4 h5]
   simp only[bf];rw[if_neg aa,if_neg (by simp only[Fo.size];omega)];simp only[Fo.size,Z0p]
  ·rw[g_,ja (by rw[At.get ha];unfold eS;rw[decide_eq_false_iff_not];omega)]
   simp only[Fo.size,Z50,Z5x,Z0p];exact q6
theorem EE {k:Nat} {a b c d:Int}:aA 0 (E.set k (Az (E.getD k eZ) a b c d))=aA 0 E:=oq E 0 k _ λx hx=>by rw[Z00,hx];rfl
theorem te (hd:bQ (p.getD i dN).op=true) (hj:(aq (bf t j i a).sc (ah (p.getD (i+1) dN).str).1).2=true) (hr:RootE E):jY p num t j a (mI E 0) i=mI (bt p num E i (bf t j i a).sc).1 (bt p num E i (bf t j i a).sc).2.2.2:=by
 unfold jY;rw[if_pos rfl];exact C_ p num E i _ hd hj hr.ix
theorem C0 (sc:Pth) (wid upd:Int):∀ (t:Fo) (c:Nat) (a:Inf) (E:List Ent) (us:List Int) (bits:Int),a.sc=sc->t.At p c->t.V (List.replicate t.cnt (false,70))->RootE E->(∀ i,c<=i->i<c+t.size->bQ (p.getD i dN).op=true->(aq (bf t c i a).sc (ah (p.getD (i+1) dN).str).1).2=true)->
 (List.range' c t.size).foldl (jY p num t c a) (mI E 0)=mI (dB p num sc wid upd t c E us bits).1 (dB p num sc wid upd t c E us bits).2.2.2/\RootE (dB p num sc wid upd t c E us bits).1
 | .nil,c,a,E,us,bits,_,_,_,hr,_=>⟨rfl,hr⟩
 | .cons x k n,c,a,E,us,bits,hsc,ha,hv,hr,hJ=>by
   have hv':=hv;simp only[Fo.cnt,Z16] at hv';obtain⟨⟨h1,h2,h3⟩,h4,h5⟩:=hv';have hop:=ma h1
   have hq:k.all quiet:=eC h4 λsl hsl=>by
    obtain⟨b,hb',rfl⟩:=Z1d.1 hsl;exact gM h1 (.inr rfl) (by unfold fM;rw[decide_eq_false_iff_not];omega) b hb'
   have hJn:∀ i,c+1+k.size<=i->i<c+1+k.size+n.size->bQ (p.getD i dN).op=true->(aq (bf n (c+1+k.size) i a).sc (ah (p.getD (i+1) dN).str).1).2=true:=λi g1 g2 g3=>by
    have:=hJ i aa (by simp only[Fo.size];omega) g3;simp only[bf] at this
    rwa [if_neg aa,if_neg aa] at this
   rw[g_,dB];have hx:p.getD c dN=x:=At.get ha
   have hc:(bf (.cons x k n) c c a).sc=sc:=by simp only[bf,if_true];exact hsc
   by_cases h19:x.op=19
   ·rw[if_pos h19,ja (by rw[hx,h19];decide),ge ha.2.2.1 hq]
    exact C0 sc wid upd n (c+1+k.size) a E us (bits+ai p (c+1)) hsc ha.2.2.2 h5 hr hJn
   ·have h18:x.op=18:=aa
    have hd:bQ (p.getD c dN).op=true:=by rw[hx,h18];decide
    rw[if_neg h19,te hd (hJ c (Z02 _) (by simp only[Fo.size];omega) hd) hr,hc];have hr1:=hr.add (p:=p) (num:=num) (i:=c) (sc:=sc);by_cases he:(bt p num E c sc).2.2.2=0
    ·rw[if_neg (λh=>h he),he,ge ha.2.2.1 hq]
     have:=C0 sc wid upd n (c+1+k.size) a ((bt p num E c sc).1.set E.length (Az ((bt p num E c sc).1.getD E.length eZ) bits (ai p (c+2)) wid upd)) (us++[(E.length:Int)]) (bits+ai p (c+2)) hsc ha.2.2.2 h5 (hr1.set _ _ rfl) hJn;rw[show mI ((bt p num E c sc).1.set E.length (Az ((bt p num E c sc).1.getD E.length eZ) bits (ai p (c+2)) wid upd)) 0=mI (bt p num E c sc).1 0 by unfold mI;rw[EE,Z18]] at this;exact this
    ·rw[if_pos he,ge ha.2.2.1 hq,gJ (by exact he)]
     exact⟨rfl,hr1⟩
theorem G9 {op:Int} (h:bn 68 op=true):op≠18/\op≠19:=by
 constructor
 ·rintro rfl;revert h;decide
 ·rintro rfl;revert h;decide
theorem DN {sc:Pth} (h:(bt p num E i sc).2.2.2=0):(bt p num E i sc).2.2.1=(bS p (i+1) sc).1:=by
 unfold bt at h |-
 repeat' split
 all_goals first
  |rfl
  |(simp_all;done)
theorem Da:∀ (N:Nat) (t:Fo) (j:Nat) (a:Inf) (E:List Ent) (fs:List Fd),t.size<N->t.At p j->t.V (List.replicate t.cnt (false,68))->RootE E->(∀ i,j<=i->i<j+t.size->eS (p.getD i dN).op=true->(aq (bf t j i a).sc (ah (p.getD (i+1) dN).str).1).2=true)->
 (List.range' j t.size).foldl (jY p num t j a) (mI E 0)=mI (aS p num false t j a.sc E fs).1 (aS p num false t j a.sc E fs).2.2/\RootE (aS p num false t j a.sc E fs).1
 |0,_,_,_,_,_,h,_,_,_,_=>absurd h (Z1m _)
 |N+1,.nil,j,a,E,fs,_,_,_,hr,_=>⟨rfl,hr⟩
 |N+1,.cons x k n,j,a,E,fs,hN,ha,hv,hr,hJ=>by
  simp only[Fo.size] at hN;have hv':=hv;simp only[Fo.cnt,Z16] at hv';obtain⟨⟨h1,h2,h3⟩,h4,h5⟩:=hv';have hop:=kZ (.inl rfl) h1;have hx:p.getD j dN=x:=At.get ha;have hk:=ha.2.2.1
  have hJn:∀ i,j+1+k.size<=i->i<j+1+k.size+n.size->eS (p.getD i dN).op=true->(aq (bf n (j+1+k.size) i a).sc (ah (p.getD (i+1) dN).str).1).2=true:=λi g1 g2 g3=>by
   have:=hJ i aa (by simp only[Fo.size];omega) g3;simp only[bf] at this
   rwa [if_neg aa,if_neg aa] at this
  have hJk:∀ i,j+1<=i->i<j+1+k.size->eS (p.getD i dN).op=true->(aq (bf k (j+1) i (bc x (ao k) j a)).sc (ah (p.getD (i+1) dN).str).1).2=true:=λi g1 g2 g3=>by
   have:=hJ i aa (by simp only[Fo.size];omega) g3;simp only[bf] at this
   rwa [if_neg aa,if_pos aa] at this
  have hJj:eS x.op=true->(aq a.sc (ah (p.getD (j+1) dN).str).1).2=true:=λh=>by
   have:=hJ j (Z02 _) (by simp only[Fo.size];omega) (by rw[hx];exact h)
   simpa only [bf,if_true] using this
  have hc:(bf (.cons x k n) j j a).sc=a.sc:=by simp only[bf,if_true]
  rw[g_,aS]
  --the declaration itself
  have key:((List.range' (j+1) k.size).foldl (jY p num k (j+1) (bc x (ao k) j a)) (jY p num (.cons x k n) j a (mI E 0) j)=mI (fV p num x k j a.sc E fs λsc E fs=>aS p num true k (j+1) sc E fs).1 (fV p num x k j a.sc E fs λsc E fs=>aS p num true k (j+1) sc E fs).2.2)
   /\RootE (fV p num x k j a.sc E fs λsc E fs=>aS p num true k (j+1) sc E fs).1:=by
   have h18:x.op≠18/\x.op≠19:=G9 h1
   --the state behind the node's own step
   have plain:bQ x.op=true->jY p num (.cons x k n) j a (mI E 0) j=mI (bt p num E j a.sc).1 (bt p num E j a.sc).2.2.2:=λh=>by
    have:=te (num:=num) (t:=.cons x k n) (j:=j) (i:=j) (a:=a) (by rw[hx];exact h) (by rw[hc];exact hJj (by unfold bQ at h;unfold eS;simp only[decide_eq_true_eq] at h |-;omega)) hr;rw[hc] at this;exact this
   have blk:∀ (ls:List Int) (E:List Ent),(ls.all d8)=true->k.V (ls.map (λc=>(false,c))++[(true,68)])->RootE E->
    (List.range' (j+1) k.size).foldl (jY p num k (j+1) (bc x (ao k) j a)) (mI E 0)=mI (aS p num true k (j+1) (bc x (ao k) j a).sc E fs).1 (aS p num true k (j+1) (bc x (ao k) j a).sc E fs).2.2/\RootE (aS p num true k (j+1) (bc x (ao k) j a).sc E fs).1:=λls E hl hk4 hr=>by
    obtain⟨b,q1,q2,q3,q4,q5,q6⟩:=l_ (num:=num) ls k (j+1) (bc x (ao k) j a) (mI E 0) hl hk hk4;rw[q6,dY ls k hl hk4,<-q1]
    exact Da N (ak k) (j+1+ls.length+1) b E fs aa q2 q3 hr λi g1 g2 g3=>by
     rw[<-q5 i g1 g2];exact hJk i aa aa g3
   have els:∀ (ls:List Int) (w u:Int),(ls.all d8)=true->k.V (ls.map (λc=>(false,c))++[(true,70)])->(bc x (ao k) j a).sc=a.sc->
    (List.range' (j+1) k.size).foldl (jY p num k (j+1) (bc x (ao k) j a)) (mI E 0)=mI (dB p num a.sc w u (ak k) (j+1+ls.length+1) E [] 0).1 (dB p num a.sc w u (ak k) (j+1+ls.length+1) E [] 0).2.2.2/\RootE (dB p num a.sc w u (ak k) (j+1+ls.length+1) E [] 0).1:=λls w u hl hk4 hs=>by
    obtain⟨b,q1,q2,q3,q4,q5,q6⟩:=l_ (num:=num) ls k (j+1) (bc x (ao k) j a) (mI E 0) hl hk hk4;rw[q6]
    exact C0 a.sc w u (ak k) (j+1+ls.length+1) b E [] 0 (q1.trans hs) q2 q3 hr λi g1 g2 g3=>by
     rw[<-q5 i g1 g2];exact hJk i aa aa (by unfold bQ at g3;unfold eS;simp only[decide_eq_true_eq] at g3 |-;omega)
   have hin:(x.op=10\/x.op=11\/x.op=12)->k.V (dd (av x.op x.kids).1)->(bS p (j+1) a.sc).2=true/\(bc x (ao k) j a).sc=(bS p (j+1) a.sc).1:=λh hv=>by
    have hd:eS x.op=true:=by unfold eS;rw[decide_eq_true_eq];omega
    have h1:=hJj hd
    have h2:bS p (j+1) a.sc=aq a.sc (ah (p.getD (j+1) dN).str).1:=by unfold bS;rw[if_pos (jh h1)]
    have hn:ao k=(ah (p.getD (j+1) dN).str).1:=by
     have hne:∃ sl r,dd (av x.op x.kids).1=sl::r:=by
      rcases h with e|e|e<;>rw[e]<;>exact⟨_,_,rfl⟩
     obtain⟨sl,r,e⟩:=hne;rw[e] at hv;obtain⟨y,ky,n',rfl,_⟩:=sS hv;rw[At.get hk];rfl
    rw[h2];refine⟨h1,?_⟩;unfold bc;simp only;rw[hn,if_pos ⟨h,h1⟩]
   have hns: ¬(x.op=10\/x.op=11\/x.op=12)->(bc x (ao k) j a).sc=a.sc:=λh=>by
    unfold bc;simp only;rw[if_neg (λe=>h e.1)]
   unfold fV;by_cases h10:x.op=10
   ·obtain⟨g1,g2⟩:=hin (.inl h10) h4
    rw[if_pos h10,if_neg (by rw[g1];simp)]
    have hst:jY p num (.cons x k n) j a (mI E 0) j=mI E (if (eT E (bS p (j+1) a.sc).1).2=false then 6 else 0):=by
     have h1:=hJj (by rw[h10];decide)
     have h2:bS p (j+1) a.sc=aq a.sc (ah (p.getD (j+1) dN).str).1:=by unfold bS;rw[if_pos (jh h1)]
     unfold jY;rw[if_pos rfl,hc];unfold cW;rw[hx,if_neg (by rw[h10];decide),if_pos h10];show (if k_ (aA 0 E) (pv (aI (mQ p j a.sc)) (aA 0 E))=false then _ else _)=_;rw[(va E (mQ p j a.sc)).1,h2];unfold mQ
     split<;>rfl
    rw[hst];by_cases hcn:(eT E (bS p (j+1) a.sc).1).2=false
    ·rw[if_pos hcn,if_pos hcn,gJ (by exact (ac:(6:Int)≠0))]
     exact⟨rfl,hr⟩
    ·rw[if_neg hcn,if_neg hcn,<-g2]
     rw[h10] at h4;exact blk [110] E rfl h4 hr
   rw[if_neg h10];by_cases h16:x.op=16
   ·rw[if_pos h16,ja (by rw[hx,h16];decide)]
    have h4':=h4;rw[h16] at h4';exact els [110,105,105] _ _ rfl h4' (hns aa)
   rw[if_neg h16];by_cases h17:x.op=17
   ·rw[if_pos h17,ja (by rw[hx,h17];decide)]
    have h4':=h4;rw[h17] at h4';exact els [110,110,105,105] _ _ rfl h4' (hns aa)
   rw[if_neg h17]
   have hdb:bQ x.op=true:=by unfold bQ;simp only[decide_eq_true_eq];omega
   rw[plain hdb];have hr1:=hr.add (p:=p) (num:=num) (i:=j) (sc:=a.sc);by_cases he:(bt p num E j a.sc).2.2.2=0
   ·rw[if_neg (λh=>h he),he]
    by_cases hb:x.op=11\/x.op=12
    ·rw[if_pos hb]
     obtain⟨g1,g2⟩:=hin (.inr hb) h4
     have g3:(bt p num E j a.sc).2.2.1=(bc x (ao k) j a).sc:=by
      rw[g2];exact DN he
     rw[g3]
     rcases hb with hb|hb
     ·have h4':=h4
      rw[hb] at h4';exact blk [115] _ rfl h4' hr1
     ·have h4':=h4
      rw[hb] at h4';exact blk [115,105,105] _ rfl h4' hr1
    ·rw[if_neg hb]
     have hq:k.all quiet:=eC h4 λsl hsl=>by
      obtain⟨b,hb',rfl⟩:=Z1d.1 hsl;exact gM h1 (.inl rfl) (by unfold fM;rw[decide_eq_false_iff_not];omega) b hb'
     rw[ge hk hq];exact⟨rfl,hr1⟩
   ·rw[if_pos he,gJ (by exact he)]
    exact⟨rfl,hr1⟩
  obtain⟨e1,e2⟩:=key;rw[e1];generalize fV p num x k j a.sc E fs (λsc E fs=>aS p num true k (j+1) sc E fs)=Q at*;obtain⟨E1,fs1,e⟩:=Q;by_cases he:e=0
  ·subst he
   rw[if_pos rfl];exact Da N n (j+1+k.size) a E1 fs1 aa ha.2.2.2 h5 e2 hJn
  ·rw[if_neg he,gJ (by exact he)]
   exact⟨rfl,e2⟩
end
end
end Go.Proofs.YtegjgpldfgjoiaaGreatDoor
