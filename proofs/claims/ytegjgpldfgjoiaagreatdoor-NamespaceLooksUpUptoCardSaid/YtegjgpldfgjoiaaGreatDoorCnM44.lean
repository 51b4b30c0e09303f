import Derived.Test.YtegjgpldfgjoiaaGreatDoorCnM43
import Derived.Test.YtegjgpldfgjoiaaGreatDoorCnM32
set_option linter.all false
namespace Go.Proofs.YtegjgpldfgjoiaaGreatDoor
open Go Ab
set_option maxRecDepth 100000
set_option maxHeartbeats 40000000
section
variable {p:List Nd} {num:Int}
theorem yt (Sc:List Pth):∀ (l:List Nat) (O:List Ro) (nx:Int),Eg p num Sc l O nx=l.foldl (λ(s:StR) i=>if s.2.2=0 then cW p num s.1 s.2.1 i (Sc.getD i z0) else s) (O,nx,0)
 |[],_,_=>rfl
 |i::l,O,nx=>by
  have bad:∀ (l:List Nat) (s:StR),s.2.2≠0->l.foldl (λ(s:StR) i=>if s.2.2=0 then cW p num s.1 s.2.1 i (Sc.getD i z0) else s) s=s:=by
   intro l
   induction l with
   |nil=>intro s _;rfl
   |cons i l ih=>intro s h;rw[Z2s,if_neg h];exact ih s h
  rw[Eg,Z2s];simp only[if_true];split
  ·rename_i h
   rw[yt Sc l];congr 1;rw[<-h]
  ·rename_i h
   exact (bad l _ h).symm
theorem JJ {t:Fo} (ha:t.At p 0) (hs:t.size=p.length) (hv:t.V (List.replicate t.cnt (false,68))) (E:List Ent) (hr:RootE E) (hJ:∀ i,i<t.size->eS (p.getD i dN).op=true->(aq (aC t i).sc (ah (p.getD (i+1) dN).str).1).2=true):
 Eg p num (p8 p t) (List.range p.length) (aA 0 E) E.length=mI (aS p num false t 0 rt0 E []).1 (aS p num false t 0 rt0 E []).2.2/\RootE (aS p num false t 0 rt0 E []).1:=by
 have h:=Da (num:=num) (t.size+1) t 0 ini E [] (Z1t _) ha hv hr λi _ h2 h3=>hJ i aa h3
 rw[yt,<-hs,Z4g];rw[eo (g:=jY p num t 0 ini)]
 ·exact h
 ·intro i hi s
  have:=Z20.1 hi;unfold jY;rw[xK ha aa]
  first|done|rfl
end
theorem Ce (E:List Ent):∀ cs:List Pth,uf (aA 0 E) cs=(x8 E cs).map λk:Nat=>(k:Int)
 |[]=>rfl
 |c::cs=>by
  rw[uf,x8,Ce E cs,sC]
  cases mp 0 E (aI c)<;>simp
theorem oD (E:List Ent) (s nm:By):dA (aA 0 E) s nm=(d7 E s nm).map λk:Nat=>(k:Int):=by
 unfold dA d7;by_cases h:(ah s).2=true/\(ah nm).2=true
 ·rw[if_pos h,Ce]
  by_cases h2:(ah s).1.root=true
  ·rw[if_pos ⟨h.1,h.2,h2⟩]
  ·rw[if_neg (λe=>h2 e.2.2)]
   have:aL (ah s).1 (ah nm).1=[]:=by
    unfold aL;rw[if_pos];left;unfold bz;simp at h2;simp[h2]
   rw[this];rfl
 ·rw[if_neg (λe=>h ⟨e.1,e.2.1⟩),if_neg h];rfl
theorem FB (p:List Nd) (E:List Ent) (s:By) (i:Nat) (op:Int):uL (aA 0 E) s (p.getD i dN).str op=(fi p E s i op).map λk:Nat=>(k:Int):=by
 unfold uL fi;rw[oD]
 cases h:d7 E s (p.getD i dN).str with
 |none=>rfl
 |some k=>
  have e:(gD (k:Int) (aA 0 E)).getD eZ=zb (E.getD k eZ):=by
   rw[je,if_pos an,Z00];simp
   cases E[k]? <;>rfl
  show (if ((gD (k:Int) (aA 0 E)).getD eZ).op=op then some (k:Int) else none)=(if (E.getD k eZ).op=op then some k else none).map λk:Nat=>(k:Int)
  rw[e];show (if (E.getD k eZ).op=op then _ else _)=_
  split<;>rfl
def He (p:List Nd):List Nat->Int->List (Int×Int)
 |[],_=>[]
 |c::cs,b=>(if (p.getD c dN).op=18 then [(b,fS p c)] else [])++He p cs (b+fS p c)
theorem vB (F:Int->Int->Bool) (p:List Nd):∀ (cs:List Nat) (b:Int),mH F p cs b=(He p cs b).all λx=>F x.1 x.2
 |[],_=>rfl
 |c::cs,b=>by
  rw[mH,He,vB F p cs,Z1g];by_cases h:(p.getD c dN).op=18
  ·rw[if_pos h]
   cases hf:F b (fS p c)
   ·rw[if_pos ⟨h,rfl⟩]
    show false=((F b (fS p c)&&true)&&_)
    rw[hf];rfl
   ·rw[if_neg an]
    show _=((F b (fS p c)&&true)&&_)
    rw[hf];rfl
  ·rw[if_neg h,if_neg (λe=>h e.1)];rfl
def gv (E:List Ent) (u:Int):Int×Int×Int×Int:=((E.getD u.toNat eZ).bit,(E.getD u.toNat eZ).len,(E.getD u.toNat eZ).wid,(E.getD u.toNat eZ).upd)
theorem EB {E:List Ent} {k:Nat} {y:Ent} (h:(y.bit,y.len,y.wid,y.upd)=gv E k) (u:Int):gv (E.set k y) u=gv E u:=by
 unfold gv;by_cases hk:k<E.length
 ·rw[kV hk]
  by_cases e:k=u.toNat
  ·rw[if_pos e]
   unfold gv at h;simp only[Z12] at h;rw[h,e]
  ·rw[if_neg e]
 ·rw[Z4p aa]
theorem AM (sp ba ln idx dat:Int):∀ (us:List Int) (E:List Ent),(∀ u∈us,0<=u)->(eX sp ba ln idx dat us E).2=(if us.all (λu=>eW sp ba ln (gv E u).1 (gv E u).2.1 (gv E u).2.2.1 (gv E u).2.2.2)=true then 0 else 1)/\∀ v,gv (eX sp ba ln idx dat us E).1 v=gv E v
 |[],E,_=>⟨rfl,λ_=>rfl⟩
 |u::us,E,hu=>by
  have h0:=hu u (.head _);have hs:=EB (E:=E) (k:=u.toNat) (y:=vJ (E.getD u.toNat eZ) sp ba ln idx dat) (by unfold gv;simp only[Z12];rfl)
  obtain⟨g1,g2⟩:=AM sp ba ln idx dat us (E.set u.toNat (vJ (E.getD u.toNat eZ) sp ba ln idx dat)) λv hv=>hu v (.tail _ hv)
  have e:eX sp ba ln idx dat (u::us) E=if eW sp ba ln (gv E u).1 (gv E u).2.1 (gv E u).2.2.1 (gv E u).2.2.2=true then eX sp ba ln idx dat us (E.set u.toNat (vJ (E.getD u.toNat eZ) sp ba ln idx dat)) else (E,1):=rfl;rw[e,Z1b];cases hv:eW sp ba ln (gv E u).1 (gv E u).2.1 (gv E u).2.2.1 (gv E u).2.2.2
  ·simp
  ·simp only[if_true,Z1r]
   refine⟨?_,λv=>(g2 v).trans (hs v)⟩;rw[g1];simp only[hs]
section
variable {E:List Ent}
def jz (op:Int):Bool:=decide (op=16\/op=17)
structure FdQ (p:List Nd) (C:Nat->Inf) (Kd:Nat->Fo) (E:List Ent) (d:Fd):Prop where
 at_:∃ (i blk:Nat),d.node=(i:Int)/\((p.getD i dN).op=16/\blk=i+4\/(p.getD i dN).op=17/\blk=i+5)/\d.scope=aI (C i).sc/\d.bits=jG p ((Kd blk).starts (blk+1))/\
  d.units.map (gv E)=(He p ((Kd blk).starts (blk+1)) 0).map (λx=>(x.1,x.2,ai p (blk-2),ai p (blk-1)))
 un:∀ u∈d.units,0<=u/\u<E.length
structure Kp (E E':List Ent):Prop where
 len:E.length<=E'.length
 sp:∀ u:Int,0<=u->u<E.length->gv E' u=gv E u
theorem Kp.refl (E:List Ent):Kp E E:=⟨Z02 _,λ_ _ _=>rfl⟩
theorem Kp.trans {A B C:List Ent} (h:Kp A B) (k:Kp B C):Kp A C:=⟨Z1z h.len k.len,λu h1 h2=>(k.sp u h1 (by have:=h.len;omega)).trans (h.sp u h1 h2)⟩
theorem Kp.app (E:List Ent) (y:Ent):Kp E (E++[y]):=⟨an,λu h1 h2=>by unfold gv;rw[iQ aa]⟩
theorem Kp.set {E':List Ent} (h:Kp E E') (k:Nat) (y:Ent) (hk:E.length<=k):Kp E (E'.set k y):=⟨by rw[Z18];exact h.len,λu h1 h2=>by
 rw[<-h.sp u h1 h2];unfold gv
 have e:(E'.set k y).getD u.toNat eZ=E'.getD u.toNat eZ:=by
  rw[Z00,Z53 aa,<-Z00]
 rw[e]⟩
theorem FdQ.kp {p:List Nd} {C:Nat->Inf} {Kd:Nat->Fo} {E':List Ent} {d:Fd} (h:FdQ p C Kd E d) (k:Kp E E'):FdQ p C Kd E' d:=by
 obtain⟨⟨i,blk,h1,h2,h3,h4,h5⟩,h6⟩:=h;refine⟨⟨i,blk,h1,h2,h3,h4,?_⟩,λu hu=>⟨(h6 u hu).1,by have:=(h6 u hu).2;have:=k.len;omega⟩⟩;rw[<-h5]
 exact List.map_congr_left λu hu=>k.sp u (h6 u hu).1 (h6 u hu).2
section
variable {p:List Nd} {num:Int}
theorem vj {i:Nat} {sc:Pth} (h:(bt p num E i sc).2.2.2=0):∃ y,(bt p num E i sc).1=E++[y]:=by
 unfold bt at h |-
 repeat' split
 all_goals first
  |exact⟨_,rfl⟩
  |(simp_all;done)
theorem CZ (sc:Pth) (wid upd:Int):∀ (t:Fo) (c:Nat) (E:List Ent) (us:List Int) (bits:Int),t.At p c->t.V (List.replicate t.cnt (false,70))->(dB p num sc wid upd t c E us bits).2.2.2=0->
 ∃ news,(dB p num sc wid upd t c E us bits).2.1=us++news/\news.map (gv (dB p num sc wid upd t c E us bits).1)=(He p (t.starts c) bits).map (λx=>(x.1,x.2,wid,upd))/\(∀ u∈news,0<=u/\u<(dB p num sc wid upd t c E us bits).1.length)/\
   (dB p num sc wid upd t c E us bits).2.2.1=bits+jG p (t.starts c)/\Kp E (dB p num sc wid upd t c E us bits).1
 | .nil,c,E,us,bits,_,_,_=>⟨[],(Z0u _).symm,rfl,λu h=>(by cases h),(Int.add_zero _).symm,Kp.refl _⟩
 | .cons x k n,c,E,us,bits,ha,hv,h0=>by
   have hv':=hv;simp only[Fo.cnt,Z16] at hv';obtain⟨⟨h1,h2,h3⟩,h4,h5⟩:=hv';have hop:=ma h1;have hx:p.getD c dN=x:=At.get ha;rw[dB] at h0 |-;rw[Fo.starts,He,jG,hx];by_cases h19:x.op=19
   ·rw[if_pos h19] at h0 |-
    have hz:fS p c=ai p (c+1):=by unfold fS;rw[hx,if_neg aa]
    rw[if_neg (show ¬x.op=18 by omega),hz];obtain⟨news,g1,g2,g3,g4,g5⟩:=CZ sc wid upd n (c+1+k.size) E us (bits+ai p (c+1)) ha.2.2.2 h5 h0;exact⟨news,g1,g2,g3,by rw[g4];omega,g5⟩
   ·rw[if_neg h19] at h0 |-
    have h18:x.op=18:=aa
    have hz:fS p c=ai p (c+2):=by unfold fS;rw[hx,if_pos h18]
    by_cases he:(bt p num E c sc).2.2.2=0
    ·rw[if_neg (λh=>h he)] at h0 |-
     rw[if_pos h18,hz];obtain⟨y,hy⟩:=vj he;obtain⟨news,g1,g2,g3,g4,g5⟩:=CZ sc wid upd n (c+1+k.size) _ _ _ ha.2.2.2 h5 h0;generalize dB p num sc wid upd n (c+1+k.size) _ _ _=Q at*;rw[hy] at g5;have hk:Kp E ((E++[y]).set E.length (Az ((E++[y]).getD E.length eZ) bits (ai p (c+2)) wid upd)):=(Kp.app E y).set _ _ (Z02 _);have hl:=g5.len;rw[Z18,Z03,Z0n] at hl;refine⟨(E.length:Int)::news,by rw[g1,Z14];rfl,?_,?_,by rw[g4];omega,hk.trans g5⟩
     ·rw[Z13,g2,Z0d]
      have e:=g5.sp (E.length:Int) aa (by rw[Z18,Z03,Z0n];push_cast;omega);rw[e];unfold gv;rw[Z12,kV an,if_pos rfl];rfl
     ·intro u hu
      rcases Z0h.1 hu with rfl|hu
      ·omega
      ·exact g3 u hu
    ·rw[if_pos he] at h0
     exact absurd h0 he
def jC (p:List Nd) (l:List Nat):List Nat:=l.filter λi=>jz (p.getD i dN).op
theorem CE {t:Fo} {j:Nat} (ha:t.At p j) (hq:t.all λx=>jz x.op=false):jC p (List.range' j t.size)=[]:=by
 unfold jC;rw[Z4x];intro i hi;have:=Z20.1 hi;have hx:=Fo.all_at ha hq (aa:j<=i) aa;rw[hx];simp
theorem oP {x:Nd} {k n:Fo} {j:Nat} (ha:(Fo.cons x k n).At p j):jC p (List.range' j (Fo.cons x k n).size)=(if jz x.op=true then [j] else [])++(jC p (List.range' (j+1) k.size)++jC p (List.range' (j+1+k.size) n.size)):=by
 have e:List.range' j (Fo.cons x k n).size=j::(List.range' (j+1) k.size++List.range' (j+1+k.size) n.size):=by
  simp only[Fo.size];rw[show 1+k.size+n.size=(k.size+n.size)+1 by omega,Z31,Z5z]
 unfold jC;rw[e,Z2o,Z3l,At.get ha]
 split<;>rfl
theorem tN {t:Fo}:t.all quiet->t.all λx=>jz x.op=false:=Fo.all_mono λx h=>by
 unfold quiet at h;unfold jz;rw[decide_eq_false_iff_not];omega
theorem CY:∀ {t:Fo},t.V (List.replicate t.cnt (false,70))->t.all λx=>jz x.op=false
 | .nil,_=>trivial
 | .cons x k n,hv=>by
   have hv':=hv;simp only[Fo.cnt,Z16] at hv';obtain⟨⟨h1,h2,h3⟩,h4,h5⟩:=hv';have hop:=ma h1;refine⟨by show jz x.op=false;unfold jz;rw[decide_eq_false_iff_not];omega,tN (eC h4 λsl hsl=>?_),CY h5⟩;obtain⟨b,hb',rfl⟩:=Z1d.1 hsl;exact gM h1 (.inr rfl) (by unfold fM;rw[decide_eq_false_iff_not];omega) b hb'
theorem sD {c':Int}:∀ (ls:List Int) (t:Fo) (j:Nat),ls.all d8=true->t.At p j->t.V (ls.map (λc=>(false,c))++[(true,c')])->
 jC p (List.range' j t.size)=jC p (List.range' (j+ls.length+1) (ak t).size)/\t.kid j (j+ls.length)=ak t/\∀ i,j+ls.length+1<=i->i<j+ls.length+1+(ak t).size->t.kid j i=(ak t).kid (j+ls.length+1) i
 |[],t,j,_,ha,hv=>by
  obtain⟨y,bl,n,rfl,h1,h2,h3⟩:=iZ hv;have:=gS h1;subst this;refine⟨?_,by simp only[Z0e,Z0p,Fo.kid,if_true];rfl,λi h4 h5=>?_⟩
  ·rw[oP ha,if_neg (by rw[h2];decide)]
   simp[jC,Fo.size,ak]
  ·simp only[ak,Z0e] at h4 h5 |-
   simp only[Fo.kid];rw[if_neg aa,if_pos aa]
 |c::ls,t,j,hl,ha,hv=>by
  simp only[Z1b,Z07] at hl;obtain⟨y,n,rfl,h1,hop⟩:=d6 hl.1 hv
  have hn:n.At p (j+1):=by have:=ha.2.2.2;simpa [Fo.size] using this
  have hlb:ak (.cons y .nil n)=ak n:=by
   obtain⟨b,g3,_⟩:=aR ls n hl.2 h1
   cases n with
   |nil=>simp only[Fo.size] at g3;omega
   |cons a b c=>rfl
  obtain⟨q1,q2,q3⟩:=sD ls n (j+1) hl.2 hn h1;rw[hlb]
  have e:j+(c::ls).length=j+1+ls.length:=by simp only[Z04];omega
  rw[e]
  have hk:∀ i,j+1<=i->(Fo.cons y .nil n).kid j i=n.kid (j+1) i:=λi hi=>by
   simp only[Fo.kid];rw[if_neg aa,if_neg (by simp only[Fo.size];omega)];simp only[Fo.size,Z0p]
  refine⟨?_,by rw[hk _ aa];exact q2,λi h4 h5=>by rw[hk i aa];exact q3 i h4 h5⟩;rw[oP ha,if_neg (by unfold jz;simp only[decide_eq_true_eq];omega)];simp only[Fo.size,Z50,Z0p,Z1e];exact q1
end
end
end Go.Proofs.YtegjgpldfgjoiaaGreatDoor
