import Derived.Test.YtegjgpldfgjoiaaGreatDoorCnM15
set_option linter.all false
namespace Go.Proofs.YtegjgpldfgjoiaaGreatDoor
open Go Ab
set_option maxRecDepth 100000
set_option maxHeartbeats 40000000
section
variable {p:List Nd}
def cG (rec:Nat->Option Nat):Nat->Nat->Option Nat
 |0,e=>some e
 |k+1,e=>match rec e with|some e'=>cG rec k e'|none=>none
def dX (ch:Int->Nat->Option Nat):By->Nat->Option Nat
 |[],e=>some e
 |k::ks,e=>match ch (k.toNat:Int) e with|some e'=>dX ch ks e'|none=>none
def dm (p:List Nd) (ok:Bool) (E0 E1:Nat->Int->Option Nat) (k:Int) (i:Nat):Option Nat:=
 if dh k then
  (match p[i]? with
  |none=>none
  |some y=>if ok=true/\y.op=4/\y.int=0/\y.str=[]/\0<=y.kids then cG (λe=>E1 e k) y.kids.toNat (i+1) else none)
 else E0 i k
def elemS (p:List Nd) (ok:Bool) (E0 E1:Nat->Int->Option Nat) (i:Nat) (k:Int):Option Nat:=
 match p[i]? with
 |none=>none
 |some x=>if bn k x.op=true/\bP x k=true/\(av x.op x.kids).2=true then dX (dm p ok E0 E1) (av x.op x.kids).1 (i+1) else none
def elemF (p:List Nd):Nat->Nat->Int->Option Nat
 |0,_,_=>none
 |1,i,k=>elemS p false (λ_ _=>none) (λ_ _=>none) i k
 |f+2,i,k=>elemS p true (elemF p (f+1)) (elemF p f) i k
theorem eq (p:List Nd) (f:Nat):elemF p (f+1)=elemS p (decide (1<=f)) (elemF p f) (elemF p (f-1)):=by
 cases f with
 |zero=>funext i k;simp only[elemF];congr 1
 |succ f=>funext i k;simp only[elemF];congr 1
theorem l8 {rec:Nat->Option Nat} {N:Nat} (h:∀ i e,rec i=some e->i<e/\e<=N):∀ {k i e:Nat},i<=N->cG rec k i=some e->i+k<=e/\e<=N
 |0,i,e,hi,he=>by simp[cG] at he;omega
 |k+1,i,e,hi,he=>by
  simp only[cG] at he;split at he
  ·rename_i e' h'
   have h1:=h _ _ h';have:=l8 h h1.2 he;omega
  ·cases he
theorem uu {ch:Int->Nat->Option Nat} {N:Nat} (h:∀ k i e,ch k i=some e->i<e/\e<=N):∀ {ks:By} {i e:Nat},i<=N->dX ch ks i=some e->i+ks.length<=e/\e<=N
 |[],i,e,hi,he=>by simp[dX] at he;simp;omega
 |k::ks,i,e,hi,he=>by
  simp only[dX] at he;split at he
  ·rename_i e' h'
   have h1:=h _ _ _ h';have:=uu h h1.2 he;simp only[Z04];omega
  ·cases he
theorem lZ {ok:Bool} {E0 E1:Nat->Int->Option Nat} (h0:∀ i k e,E0 i k=some e->i<e/\e<=p.length) (h1:∀ i k e,E1 i k=some e->i<e/\e<=p.length) {k:Int} {i e:Nat} (h:dm p ok E0 E1 k i=some e):i<e/\e<=p.length:=by
 unfold dm at h;split at h
 ·split at h
  ·cases h
  ·rename_i y hy
   have hi:i<p.length:=by
    rcases Z0a i p.length with h|h
    ·exact h
    ·simp[Z0b h] at hy
   split at h
   ·have:=l8 (λi e=>h1 i k e) aa h
    omega
   ·cases h
 ·exact h0 _ _ _ h
theorem uX {ok:Bool} {E0 E1:Nat->Int->Option Nat} (h0:∀ i k e,E0 i k=some e->i<e/\e<=p.length) (h1:∀ i k e,E1 i k=some e->i<e/\e<=p.length) {k:Int} {i e:Nat} (h:elemS p ok E0 E1 i k=some e):i<e/\e<=p.length:=by
 unfold elemS at h;split at h
 ·cases h
 ·rename_i x hx
  have hi:i<p.length:=by
   rcases Z0a i p.length with h|h
   ·exact h
   ·simp[Z0b h] at hx
  split at h
  ·have:=uu (λk i e h=>lZ h0 h1 h) aa h
   omega
  ·cases h
theorem cV {p:List Nd}:∀ {f i:Nat} {k:Int} {e:Nat},elemF p f i k=some e->i<e/\e<=p.length
 |0,_,_,_,h=>by cases h
 |1,i,k,e,h=>uX (λ_ _ _ h=>by cases h) (λ_ _ _ h=>by cases h) h
 |f+2,i,k,e,h=>uX (λi k e h=>cV (f:=f+1) h) (λi k e h=>cV (f:=f) h) h
abbrev zr (o:Option Nat):V:=.tup [.s (.int .i64 ((o.getD 0:Nat):Int)),.s (.bool o.isSome)]
def mS (p:List Nd):Prop:=∀ x∈p,x.str.length<9223372036854775807
theorem qI (h:mS p) (i:Nat):(p.getD i dN).str.length<9223372036854775807:=by
 rw[Z00]
 cases e:p[i]? with
 |none=>simp[dN]
 |some x=>exact h x (Z4i e)
def vx (p:List Nd) (f:Nat):Prop:=∀ (i:Nat) (k d:Int),d=33-(f:Int)->i<=p.length->FC Tryz.prog 172 [al p,nI i,n8 k,nI d] 0 [] (zr (elemF p f i k)) 0 []
def D9 (p:List Nd) (f:Nat):Prop:=∀ (i:Nat) (k d:Int),d=33-(f:Int)->i<=p.length->FC Tryz.prog 225 [al p,nI i,n8 k,nI d] 0 [] (zr (dm p (decide (1<=f)) (elemF p f) (elemF p (f-1)) k i)) 0 []
theorem Ig (p:List Nd):vx p 0:=by
 intro i k d hd hi;refine wW Tryz.func172 ?_
 repeat'(first|exact y0|refine y1 ?_|refine y2 ?_ ?_|refine y4 λh=>?_|refine Fin.plain (.inl rfl) rfl ?_ rfl|refine y3 ?_|exact y5|fail)
 all_goals rfl
theorem If (p:List Nd) (hp:p.length<=2048) (hw:mS p) (f:Nat) (hf:f<=32) (hc:D9 p f):vx p (f+1):=by
 intro i k d hd hi;rw[eq];refine wW Tryz.func172 ?_;by_cases hlt:i<p.length
 ·have hget:p[i]? =some (p.getD i dN):=by simp[Z00,hlt]
  unfold elemS;rw[hget];simp only;have hwx:=qI hw i;have hkc:=Fg (p.getD i dN);generalize av (p.getD i dN).op (p.getD i dN).kids=kb at*;obtain⟨ks,ok⟩:=kb;simp only at hkc |-;cases ok
  ·
   repeat'(first|exact y0|refine y1 ?_|refine y2 ?_ ?_|refine y4 λh=>?_|refine wX 222 (bo (G8 _ _) ?_)|refine wX 223 (bo (uQ (p.getD i dN) _ hwx) ?_)|refine wX 224 (pu hkc ?_)|refine Fin.plain (.inl rfl) rfl ?_ rfl|refine y3 ?_|exact y5|fail)
   all_goals simp_all
  ·
   repeat'(first|exact y0|refine y1 ?_|refine y2 ?_ ?_|refine y4 λh=>?_|refine wX 222 (bo (G8 _ _) ?_)|refine wX 223 (bo (uQ (p.getD i dN) _ hwx) ?_)|refine wX 224 (pu hkc ?_)|refine Fin.plain (.inl rfl) rfl ?_ rfl|exact (show zr none=_ from (congrArg zr (if_neg (by simp_all))).symm)|refine y3 ?_|exact y5|fail)
   ·rw[if_pos ⟨‹bn k _=true›,‹bP _ k=true›,rfl⟩]
    refine Ex.inv (σ:=Nat×Nat) (λx=>[(49,nI x.1),(13,nI x.2)]) (λx=>[]) (λx=>(x.1<=ks.length/\i+1+x.1<=x.2)/\x.2<=p.length/\dX (dm p (decide (1<=f)) (elemF p f) (elemF p (f-1))) ks (i+1)=dX (dm p (decide (1<=f)) (elemF p f) (elemF p (f-1))) (ks.drop x.1) x.2) (λx=>ks.length-x.1) (0,i+1) rfl (λ_=>rfl) ⟨⟨Z08 _,Z02 _⟩,hlt,rfl⟩ aV trivial ?_;rintro⟨j,e⟩ ⟨⟨h1,h0⟩,h2,h3⟩;simp only at h1 h2 h3 h0 |-;by_cases hj:j<ks.length
    ·rw[Z0k hj] at h3
     have hkg:ks[j]=ks.getD j 0:=by simp[Z00,hj]
     rw[hkg] at h3;simp only[dX] at h3;have hch:=hc e ((ks.getD j 0).toNat:Int) (d+1) aa h2
     have hle:=λe' (h:dm p (decide (1<=f)) (elemF p f) (elemF p (f-1)) ((ks.getD j 0).toNat:Int) e=some e')=>lZ (λi k e h=>cV h) (λi k e h=>cV h) h
     generalize dm p (decide (1<=f)) (elemF p f) (elemF p (f-1)) ((ks.getD j 0).toNat:Int) e=r at*
     cases r with
     |none=>
      simp only at h3;rw[h3]
      repeat'(first|exact y0|refine y1 ?_|refine y2 ?_ ?_|refine y4 λh=>?_|refine wX 225 (pu hch ?_)|refine Fin.plain (.inl rfl) rfl ?_ rfl|refine y3 ?_|exact y5|fail)
     |some e'=>
      simp only at h3;have:=hle e' rfl
      repeat'(first|exact y0|refine y1 ?_|refine y2 ?_ ?_|refine y4 λh=>?_|refine wX 225 (pu hch ?_)|refine Fin.plain (.inl rfl) rfl ?_ rfl|refine LoopR.same (j+1,e') ⟨⟨?_,?_⟩,?_,h3⟩ ?_ rfl aV trivial rfl rfl ac|refine y3 ?_|exact y5|fail)
    ·
     have:ks.drop j=[]:=by simp;omega
     rw[this] at h3;simp only[dX] at h3;rw[h3]
     repeat'(first|exact y0|refine y1 ?_|refine y2 ?_ ?_|refine y4 λh=>?_|refine Fin.plain (.inl rfl) rfl ?_ rfl|refine y3 ?_|exact y5|fail)
 ·
  have hget:p[i]? =none:=by simp;omega
  unfold elemS;rw[hget]
  repeat'(first|exact y0|refine y1 ?_|refine y2 ?_ ?_|refine y4 λh=>?_|refine Fin.plain (.inl rfl) rfl ?_ rfl|refine y3 ?_|exact y5|fail)
  all_goals rfl
theorem FR (p:List Nd) (hp:p.length<=2048) (f:Nat) (hf:f<=32) (h0:vx p f) (h1:1<=f->vx p (f-1)):D9 p f:=by
 intro i k d hd hi;unfold dm;refine wW Tryz.func225 ?_;have hbk:=Fq k;have he:=h0 i k d hd hi
 cases hb:dh k with
 |false=>
  rw[hb] at hbk;simp only[Z0l,if_false];generalize elemF p f i k=r at*
  repeat'(first|exact y0|refine y1 ?_|refine y2 ?_ ?_|refine y4 λh=>?_|refine wX 256 (bo hbk ?_)|refine wX 172 (pu he ?_)|refine Fin.plain (.inl rfl) rfl ?_ rfl|refine y3 ?_|exact y5|fail)
  all_goals rfl
 |true=>
  rw[hb] at hbk;simp only[if_true];by_cases hlt:i<p.length
  ·
   have hget:p[i]? =some (p.getD i dN):=by simp[Z00,hlt]
   rw[hget];simp only
   repeat'(first|exact y0|refine y1 ?_|refine y2 ?_ ?_|refine y4 λh=>?_|refine wX 256 (bo hbk ?_)|refine Fin.plain (.inl rfl) rfl ?_ rfl|exact (show zr none=_ from (congrArg zr (if_neg (by simp_all<;>omega))).symm)|refine y3 ?_|exact y5|fail)
   ·have hk0:0<=(p.getD i dN).kids:=aa
    have h1f:1<=f:=aa;have hE:=h1 h1f;have hx:(p.getD i dN).str=[]:=‹_›;rw[if_pos ⟨decide_eq_true h1f,by assumption,by assumption,hx,hk0⟩];generalize hK:(p.getD i dN).kids.toNat=K at*;refine Ex.inv (σ:=Nat×Nat) (λx=>[(58,nI x.1),(11,nI x.2)]) (λx=>[]) (λx=>(x.1<=K/\i+1+x.1<=x.2)/\x.2<=p.length/\cG (λe=>elemF p (f-1) e k) K (i+1)=cG (λe=>elemF p (f-1) e k) (K-x.1) x.2) (λx=>K-x.1) (0,i+1) rfl (λ_=>rfl) ⟨⟨Z08 _,Z02 _⟩,hlt,rfl⟩ aV trivial ?_;rintro⟨j,e⟩ ⟨⟨g1,g0⟩,g2,g3⟩;simp only at g1 g2 g3 g0 |-;by_cases hj:j<K
    ·rw[show K-j=(K-(j+1))+1 by omega] at g3
     simp only[cG] at g3;have hch:=hE e k (d+1) aa g2
     have hle:=λe' (h:elemF p (f-1) e k=some e')=>cV h
     generalize elemF p (f-1) e k=r at*
     cases r with
     |none=>
      simp only at g3;rw[g3]
      repeat'(first|exact y0|refine y1 ?_|refine y2 ?_ ?_|refine y4 λh=>?_|refine wX 172 (pu hch ?_)|refine Fin.plain (.inl rfl) rfl ?_ rfl|refine y3 ?_|exact y5|fail)
     |some e'=>
      simp only at g3;have:=hle e' rfl
      repeat'(first|exact y0|refine y1 ?_|refine y2 ?_ ?_|refine y4 λh=>?_|refine wX 172 (pu hch ?_)|refine Fin.plain (.inl rfl) rfl ?_ rfl|refine LoopR.same (j+1,e') ⟨⟨?_,?_⟩,?_,g3⟩ ?_ rfl aV trivial rfl rfl ac|refine y3 ?_|exact y5|fail)
    ·
     rw[show K-j=0 by omega] at g3;simp only[cG] at g3;rw[g3]
     repeat'(first|exact y0|refine y1 ?_|refine y2 ?_ ?_|refine y4 λh=>?_|refine Fin.plain (.inl rfl) rfl ?_ rfl|refine y3 ?_|exact y5|fail)
  ·
   have hget:p[i]? =none:=by simp;omega
   rw[hget]
   repeat'(first|exact y0|refine y1 ?_|refine y2 ?_ ?_|refine y4 λh=>?_|refine wX 256 (bo hbk ?_)|refine Fin.plain (.inl rfl) rfl ?_ rfl|refine y3 ?_|exact y5|fail)
   all_goals rfl
theorem C4 (p:List Nd) (hp:p.length<=2048) (hw:mS p):∀ f,f<=33->vx p f:=by
 intro f
 induction f using Nat.strongRecOn with
 |_ f ih=>
  intro hf
  cases f with
  |zero=>exact Ig p
  |succ f=>exact If p hp hw f aa (FR p hp f aa (ih f aa aa) λ_=>ih (f-1) aa aa)
def pA (p:List Nd):Nat->Nat->Bool
 |0,_=>false
 |n+1,i=>if i<p.length then (match elemF p 32 i 68 with|some e=>pA p n e|none=>false) else true
def cy (p:List Nd):Bool:=decide (p.length<=2048)&&pA p (p.length+1) 0
theorem s5 (p:List Nd) (hw:mS p):FC Tryz.prog 114 [al p] 0 [] (bV (cy p)) 0 []:=by
 unfold cy;refine wW Tryz.func114 ?_;by_cases hp:p.length<=2048
 ·
  rw[decide_eq_true hp,Z1r]
  repeat'(first|exact y0|refine y1 ?_|refine y2 ?_ ?_|refine y4 λh=>?_|refine Fin.bool (.inl rfl) rfl ?_|refine y3 ?_|exact y5|fail)
  generalize hT:pA p (p.length+1) 0=T;refine Ex.inv (σ:=Nat×Nat) (λx=>[(3,nI x.2)]) (λx=>[]) (λx=>x.1<=x.2/\x.2<=p.length/\T=pA p (p.length+1-x.1) x.2) (λx=>p.length-x.2) (0,0) rfl (λ_=>rfl) ⟨Z02 _,Z08 _,hT.symm⟩ aV trivial ?_;clear hT;rintro⟨j,i⟩ ⟨h1,h2,h3⟩;simp only at h1 h2 h3 |-;rw[show p.length+1-j=(p.length-j)+1 by omega] at h3;simp only[pA] at h3;by_cases hlt:i<p.length
  ·rw[if_pos hlt] at h3
   have hch:=C4 p hp hw 32 ac i 68 1 ac h2
   have hle:=λe' (h:elemF p 32 i 68=some e')=>cV h
   generalize elemF p 32 i 68=r at*
   cases r with
   |none=>
    simp only at h3
    repeat'(first|exact y0|refine y1 ?_|refine y2 ?_ ?_|refine y4 λh=>?_|refine wX 172 (pu hch ?_)|refine Fin.bool (.inl rfl) rfl ?_|refine y3 ?_|exact y5|fail)
    all_goals exact h3.symm
   |some e'=>
    simp only at h3;have:=hle e' rfl
    repeat'(first|exact y0|refine y1 ?_|refine y2 ?_ ?_|refine y4 λh=>?_|refine wX 172 (pu hch ?_)|refine Fin.bool (.inl rfl) rfl ?_|refine LoopR.same (j+1,e') ⟨?_,?_,?_⟩ ?_ rfl aV trivial rfl rfl ac|refine y3 ?_|exact y5|fail)
    all_goals (rw[h3];congr 1;omega)
  ·
   rw[if_neg hlt] at h3
   repeat'(first|exact y0|refine y1 ?_|refine y2 ?_ ?_|refine y4 λh=>?_|refine Fin.bool (.inl rfl) rfl ?_|refine y3 ?_|exact y5|fail)
   all_goals exact h3.symm
 ·
  rw[decide_eq_false hp,Z2c]
  repeat'(first|exact y0|refine y1 ?_|refine y2 ?_ ?_|refine y4 λh=>?_|refine Fin.bool (.inl rfl) rfl ?_|refine y3 ?_|exact y5|fail)
  all_goals rfl
end
end Go.Proofs.YtegjgpldfgjoiaaGreatDoor
