import Derived.Test.YtegjgpldfgjoiaaGreatDoorCnD13
set_option linter.all false
set_option maxHeartbeats 40000000
set_option maxRecDepth 100000
namespace Go.Proofs.YtegjgpldfgjoiaaGreatDoor
open Go Ab
structure Nd where
 op:Int
 int:Int
 str:By
 kids:Int
def ndC (x:Nd):List S:=[.int .i64 x.op,.int .u64 x.int,.str x.str,.int .i64 x.kids]
def dN:Nd:=⟨0,0,[],0⟩
abbrev HF (x:Nd):V:=.agg (ndC x)
abbrev ao (p:List Nd):V:=.s (.frz (λk=>ndC (p.getD k dN)) 4 p.length)
def dq (k:Int):Bool:=decide (65<=k/\k<=90)
theorem Du (k:Int):FQ 256 [n8 k] 0 [] (bV (dq k)) 0 []:=by
 refine wW Tryz.func256 ?_
 repeat'(first|refine y1 ?_|refine y2 ?_ ?_|refine y4 λh=>?_|refine cJ (.inl rfl) rfl ?_|refine y3 ?_|exact y5|fail)
 all_goals (unfold dq;simp;omega)
def yW (cs:Option (List S)) (k:Nat):By×By:=
 match cs with
 |some l=>match l[2*k]?,l[2*k+1]? with|some (.str a),some (.str b)=>(a,b)|_,_=>([],[])
 |none=>([],[])
def ct (op:Int):By×By:=
 if 10<=op/\op<=21 then yW (GS 1) (op-10).toNat
 else if 30<=op/\op<=42 then yW (GS 2) (op-30).toNat
 else if 60<=op/\op<=88 then yW (GS 3) (op-60).toNat
 else if op=50 then ([66,117,102,102,101,114],[105,73])
 else if op=51 then ([80,97,99,107,97,103,101],[105,80])
 else ([],[])
theorem DC (op:Int) (h1: ¬(10<=op/\op<=21)) (h2: ¬(30<=op/\op<=42)) (h3: ¬(60<=op/\op<=88)):FQ 255 [nI op] 0 [] (.agg [.str (ct op).1,.str (ct op).2]) 0 []:=by
 refine wW Tryz.func255 ?_;unfold ct;rw[if_neg h1,if_neg h2,if_neg h3]
 repeat'(first|refine y1 ?_|refine y2 ?_ ?_|refine y4 λh=>?_|refine cW (.inl rfl) rfl ?_ rfl|refine y3 ?_|exact y5|fail)
 all_goals first
  |(rw[if_pos ae];exact ah _)
  |(rw[if_neg ae,if_pos ae];exact ah _)
  |(rw[if_neg ae,if_neg ae];exact ah _)
theorem Gd (op:Int) (h:op=10\/op=11\/op=12\/op=13\/op=14\/op=15\/op=16\/op=17\/op=18\/op=19\/op=20\/op=21):FQ 255 [nI op] 0 [] (.agg [.str (ct op).1,.str (ct op).2]) 0 []:=by
 refine wW Tryz.func255 ?_
 rcases h with rfl|rfl|rfl|rfl|rfl|rfl|rfl|rfl|rfl|rfl|rfl|rfl
 all_goals
  repeat'(first|refine y1 ?_|refine y2 ?_ ?_|refine y4 λh=>?_|refine cW (.inl rfl) rfl ?_ rfl|exact ah _|decide|refine y3 ?_|fail)
theorem Ga (op:Int) (h:op=30\/op=31\/op=32\/op=33\/op=34\/op=35\/op=36\/op=37\/op=38\/op=39\/op=40\/op=41\/op=42):FQ 255 [nI op] 0 [] (.agg [.str (ct op).1,.str (ct op).2]) 0 []:=by
 refine wW Tryz.func255 ?_
 rcases h with rfl|rfl|rfl|rfl|rfl|rfl|rfl|rfl|rfl|rfl|rfl|rfl|rfl
 all_goals
  repeat'(first|refine y1 ?_|refine y2 ?_ ?_|refine y4 λh=>?_|refine cW (.inl rfl) rfl ?_ rfl|exact ah _|decide|refine y3 ?_|fail)
theorem Gc (op:Int) (h:op=60\/op=61\/op=62\/op=63\/op=64\/op=65\/op=66\/op=67\/op=68\/op=69\/op=70\/op=71\/op=72\/op=73\/op=74):FQ 255 [nI op] 0 [] (.agg [.str (ct op).1,.str (ct op).2]) 0 []:=by
 refine wW Tryz.func255 ?_
 rcases h with rfl|rfl|rfl|rfl|rfl|rfl|rfl|rfl|rfl|rfl|rfl|rfl|rfl|rfl|rfl
 all_goals
  repeat'(first|refine y1 ?_|refine y2 ?_ ?_|refine y4 λh=>?_|refine cW (.inl rfl) rfl ?_ rfl|exact ah _|decide|refine y3 ?_|fail)
theorem Gb (op:Int) (h:op=75\/op=76\/op=77\/op=78\/op=79\/op=80\/op=81\/op=82\/op=83\/op=84\/op=85\/op=86\/op=87\/op=88):FQ 255 [nI op] 0 [] (.agg [.str (ct op).1,.str (ct op).2]) 0 []:=by
 refine wW Tryz.func255 ?_
 rcases h with rfl|rfl|rfl|rfl|rfl|rfl|rfl|rfl|rfl|rfl|rfl|rfl|rfl|rfl
 all_goals
  repeat'(first|refine y1 ?_|refine y2 ?_ ?_|refine y4 λh=>?_|refine cW (.inl rfl) rfl ?_ rfl|exact ah _|decide|refine y3 ?_|fail)
theorem AR (op:Int):FQ 255 [nI op] 0 [] (.agg [.str (ct op).1,.str (ct op).2]) 0 []:=by
 by_cases h1:10<=op/\op<=21
 ·exact Gd op aa
 by_cases h2:30<=op/\op<=42
 ·exact Ga op aa
 by_cases h3:60<=op/\op<=88
 ·by_cases h4:op<=74
  ·exact Gc op aa
  ·exact Gb op aa
 ·exact DC op h1 h2 h3
def e7:By:=[101,101,101,101,101,101,101]
def aq (op kids:Int):By×Bool:=
 if op=5 then (if kids<0\/7<kids then ([],false) else (e7.take kids.toNat,true))
 else if op=33 then (if kids<0\/1<kids then ([],false) else (e7.take kids.toNat,true))
 else if op=31/\kids=3 then ([101,83,83],true)
 else ((ct op).2,decide (((ct op).2.length:Int)=kids))
theorem CH {a:By} {b:Bool} {x:By×Bool} (e:x=(a,b)):V.tup [U.s (S.str a),U.s (S.bool b)]=V.tup [U.s (S.str x.1),U.s (S.bool x.2)]:=by rw[e]
theorem Dj (op int:Int) (str:By) (k:Nat):FQ 224 [.agg [.int .i64 op,.int .u64 int,.str str,.int .i64 (k:Int)]] 0 [] (.tup [.s (.str (aq op k).1),.s (.bool (aq op k).2)]) 0 []:=by
 refine wW Tryz.func224 ?_
 repeat'(first|refine y1 ?_|refine y2 ?_ ?_|refine y4 λh=>?_|refine an (AR _) ?_|refine g_ (.inl rfl) rfl ?_ rfl|refine y3 ?_|exact y5|fail)
 all_goals first
  |(show k<=7;omega)
  |exact CH (by unfold aq e7;simp_all<;>omega)
theorem Dk (op int:Int) (str:By) (k:Int) (hk:k<0):FQ 224 [.agg [.int .i64 op,.int .u64 int,.str str,.int .i64 k]] 0 [] (.tup [.s (.str (aq op k).1),.s (.bool (aq op k).2)]) 0 []:=by
 refine wW Tryz.func224 ?_
 repeat'(first|refine y1 ?_|refine y2 ?_ ?_|refine y4 λh=>?_|refine an (AR _) ?_|refine g_ (.inl rfl) rfl ?_ rfl|refine y3 ?_|exact y5|fail)
 all_goals exact CH (by unfold aq e7;simp_all<;>omega)
theorem Dl (x:Nd):FQ 224 [HF x] 0 [] (.tup [.s (.str (aq x.op x.kids).1),.s (.bool (aq x.op x.kids).2)]) 0 []:=by
 obtain⟨op,int,str,kids⟩:=x;by_cases h:kids<0
 ·exact Dk op int str kids h
 ·obtain⟨k,rfl⟩:=Z2a (aa:0<=kids)
  exact Dj op int str k
def bM (x:Nd) (k:Int):Bool:=
 (if x.op=1 then true else if x.op=6 then decide (x.int<8) else if x.op=7 then decide (x.int<7) else decide (x.int=0))&&
 (if x.op=3\/x.op=5 then (ak x.str).2&&(decide (k≠115)||ud (ak x.str).1) else if x.op=2 then decide (x.str.length<=255) else decide (x.str=[]))
theorem AW (op int:Int) (str:By) (kids k:Int) (hl:str.length<9223372036854775807):FQ 223 [.agg [.int .i64 op,.int .u64 int,.str str,.int .i64 kids],n8 k] 0 [] (bV (bM ⟨op,int,str,kids⟩ k)) 0 []:=by
 have hpp:=e9 str hl;generalize hp:ak str=pp at*;obtain⟨pt,ok⟩:=pp;obtain⟨root,up,segs⟩:=pt;refine wW Tryz.func223 ?_;cases ok
 all_goals
  repeat'(first|refine y1 ?_|refine y2 ?_ ?_|refine y4 λh=>?_|refine an hpp ?_|refine bt (Fr _ _ _) ?_|refine cJ (.inl rfl) rfl ?_|refine y3 ?_|exact y5|fail)
 all_goals first
  |(unfold bM;simp_all;done)
  |(unfold bM;simp_all;omega)
theorem s6 (x:Nd) (k:Int) (hl:x.str.length<9223372036854775807):FQ 223 [HF x,n8 k] 0 [] (bV (bM x k)) 0 []:=AW x.op x.int x.str x.kids k hl
section
variable {p:List Nd}
def cx (rec:Nat->Option Nat):Nat->Nat->Option Nat
 |0,e=>some e
 |k+1,e=>match rec e with|some e'=>cx rec k e'|none=>none
def dO (ch:Int->Nat->Option Nat):By->Nat->Option Nat
 |[],e=>some e
 |k::ks,e=>match ch (k.toNat:Int) e with|some e'=>dO ch ks e'|none=>none
def de (p:List Nd) (ok:Bool) (E0 E1:Nat->Int->Option Nat) (k:Int) (i:Nat):Option Nat:=
 if dq k then
  (match p[i]? with
  |none=>none
  |some y=>if ok=true/\y.op=4/\y.int=0/\y.str=[]/\0<=y.kids then cx (λe=>E1 e k) y.kids.toNat (i+1) else none)
 else E0 i k
def elemS (p:List Nd) (ok:Bool) (E0 E1:Nat->Int->Option Nat) (i:Nat) (k:Int):Option Nat:=
 match p[i]? with
 |none=>none
 |some x=>if bn k x.op=true/\bM x k=true/\(aq x.op x.kids).2=true then dO (de p ok E0 E1) (aq x.op x.kids).1 (i+1) else none
def elemF (p:List Nd):Nat->Nat->Int->Option Nat
 |0,_,_=>none
 |1,i,k=>elemS p false (λ_ _=>none) (λ_ _=>none) i k
 |f+2,i,k=>elemS p true (elemF p (f+1)) (elemF p f) i k
theorem d9 (p:List Nd) (f:Nat):elemF p (f+1)=elemS p (decide (1<=f)) (elemF p f) (elemF p (f-1)):=by
 cases f with
 |zero=>funext i k;simp only[elemF];congr 1
 |succ f=>funext i k;simp only[elemF];congr 1
theorem lG {rec:Nat->Option Nat} {N:Nat} (h:∀ i e,rec i=some e->i<e/\e<=N):∀ {k i e:Nat},i<=N->cx rec k i=some e->i+k<=e/\e<=N
 |0,i,e,hi,he=>by simp[cx] at he;omega
 |k+1,i,e,hi,he=>by
  simp only[cx] at he;split at he
  ·rename_i e' h'
   have h1:=h _ _ h';have:=lG h h1.2 he;omega
  ·cases he
theorem sG {ch:Int->Nat->Option Nat} {N:Nat} (h:∀ k i e,ch k i=some e->i<e/\e<=N):∀ {ks:By} {i e:Nat},i<=N->dO ch ks i=some e->i+ks.length<=e/\e<=N
 |[],i,e,hi,he=>by simp[dO] at he;simp;omega
 |k::ks,i,e,hi,he=>by
  simp only[dO] at he;split at he
  ·rename_i e' h'
   have h1:=h _ _ _ h';have:=sG h h1.2 he
   grind
  ·cases he
theorem lC {ok:Bool} {E0 E1:Nat->Int->Option Nat} (h0:∀ i k e,E0 i k=some e->i<e/\e<=p.length) (h1:∀ i k e,E1 i k=some e->i<e/\e<=p.length) {k:Int} {i e:Nat} (h:de p ok E0 E1 k i=some e):i<e/\e<=p.length:=by
 unfold de at h;split at h
 ·split at h
  ·cases h
  ·rename_i y hy
   have hi:i<p.length:=by
    grind
   split at h
   ·have:=lG (λi e=>h1 i k e) aa h
    omega
   ·cases h
 ·exact h0 _ _ _ h
theorem te {ok:Bool} {E0 E1:Nat->Int->Option Nat} (h0:∀ i k e,E0 i k=some e->i<e/\e<=p.length) (h1:∀ i k e,E1 i k=some e->i<e/\e<=p.length) {k:Int} {i e:Nat} (h:elemS p ok E0 E1 i k=some e):i<e/\e<=p.length:=by
 unfold elemS at h;split at h
 ·cases h
 ·rename_i x hx
  have hi:i<p.length:=by
   grind
  split at h
  ·have:=sG (λk i e h=>lC h0 h1 h) aa h
   omega
  ·cases h
theorem cN {p:List Nd}:∀ {f i:Nat} {k:Int} {e:Nat},elemF p f i k=some e->i<e/\e<=p.length
 |0,_,_,_,h=>by cases h
 |1,i,k,e,h=>te (λ_ _ _ h=>by cases h) (λ_ _ _ h=>by cases h) h
 |f+2,i,k,e,h=>te (λi k e h=>cN (f:=f+1) h) (λi k e h=>cN (f:=f) h) h
abbrev xq (o:Option Nat):V:=.tup [.s (.int .i64 ((o.getD 0:Nat):Int)),.s (.bool o.isSome)]
def mG (p:List Nd):Prop:=∀ x∈p,x.str.length<9223372036854775807
theorem pJ (h:mG p) (i:Nat):(p.getD i dN).str.length<9223372036854775807:=by
 rw[Z00]
 cases e:p[i]? with
 |none=>simp[dN]
 |some x=>exact h x (Z4i e)
def tQ (p:List Nd) (f:Nat):Prop:=∀ (i:Nat) (k d:Int),d=33-(f:Int)->i<=p.length->FQ 172 [ao p,nI i,n8 k,nI d] 0 [] (xq (elemF p f i k)) 0 []
def Cr (p:List Nd) (f:Nat):Prop:=∀ (i:Nat) (k d:Int),d=33-(f:Int)->i<=p.length->FQ 225 [ao p,nI i,n8 k,nI d] 0 [] (xq (de p (decide (1<=f)) (elemF p f) (elemF p (f-1)) k i)) 0 []
theorem Gn (p:List Nd):tQ p 0:=by
 intro i k d hd hi;refine wW Tryz.func172 ?_
 repeat'(first|refine y1 ?_|refine y2 ?_ ?_|refine y4 λh=>?_|refine g_ (.inl rfl) rfl ?_ rfl|refine y3 ?_|exact y5|fail)
theorem Gm (p:List Nd) (hp:p.length<=2048) (hw:mG p) (f:Nat) (hf:f<=32) (hc:Cr p f):tQ p (f+1):=by
 intro i k d hd hi;rw[d9];refine wW Tryz.func172 ?_;by_cases hlt:i<p.length
 ·have hget:p[i]? =some (p.getD i dN):=ae
  unfold elemS;rw[hget];simp only;have hwx:=pJ hw i;have hkc:=Dl (p.getD i dN);generalize aq (p.getD i dN).op (p.getD i dN).kids=kb at*;obtain⟨ks,ok⟩:=kb;simp only at hkc |-;cases ok
  ·
   repeat'(first|refine y1 ?_|refine y2 ?_ ?_|refine y4 λh=>?_|refine bt (Fb _ _) ?_|refine bt (s6 (p.getD i dN) _ hwx) ?_|refine an hkc ?_|refine g_ (.inl rfl) rfl ?_ rfl|refine y3 ?_|exact y5|fail)
   all_goals simp_all
  ·
   repeat'(first|refine y1 ?_|refine y2 ?_ ?_|refine y4 λh=>?_|refine bt (Fb _ _) ?_|refine bt (s6 (p.getD i dN) _ hwx) ?_|refine an hkc ?_|refine g_ (.inl rfl) rfl ?_ rfl|exact (show xq none=_ from (congrArg xq (if_neg (by simp_all))).symm)|refine y3 ?_|exact y5|fail)
   ·rw[if_pos ⟨‹bn k _=true›,‹bM _ k=true›,rfl⟩]
    refine cD (σ:=Nat×Nat) (λx=>[(49,nI x.1),(13,nI x.2)]) (λx=>[]) (λx=>(x.1<=ks.length/\i+1+x.1<=x.2)/\x.2<=p.length/\dO (de p (decide (1<=f)) (elemF p f) (elemF p (f-1))) ks (i+1)=dO (de p (decide (1<=f)) (elemF p f) (elemF p (f-1))) (ks.drop x.1) x.2) (λx=>ks.length-x.1) (0,i+1) rfl (λ_=>rfl) ⟨⟨Z08 _,Z02 _⟩,hlt,rfl⟩ bc trivial ?_;rintro⟨j,e⟩ ⟨⟨h1,h0⟩,h2,h3⟩;simp only at h1 h2 h3 h0 |-;by_cases hj:j<ks.length
    ·rw[Z0k hj] at h3
     have hkg:ks[j]=ks.getD j 0:=ae;rw[hkg] at h3;simp only[dO] at h3;have hch:=hc e ((ks.getD j 0).toNat:Int) (d+1) aa h2
     have hle:=λe' (h:de p (decide (1<=f)) (elemF p f) (elemF p (f-1)) ((ks.getD j 0).toNat:Int) e=some e')=>lC (λi k e h=>cN h) (λi k e h=>cN h) h
     generalize de p (decide (1<=f)) (elemF p f) (elemF p (f-1)) ((ks.getD j 0).toNat:Int) e=r at*
     cases r with
     |none=>
      simp only at h3;rw[h3]
      repeat'(first|refine y1 ?_|refine y2 ?_ ?_|refine y4 λh=>?_|refine an hch ?_|refine g_ (.inl rfl) rfl ?_ rfl|refine y3 ?_|exact y5|fail)
     |some e'=>
      simp only at h3;have:=hle e' rfl
      repeat'(first|refine y1 ?_|refine y2 ?_ ?_|refine y4 λh=>?_|refine an hch ?_|refine dT (j+1,e') ⟨⟨?_,?_⟩,?_,h3⟩ ?_ rfl bc trivial rfl rfl ac|refine y3 ?_|exact y5|fail)
    ·
     have:ks.drop j=[]:=ae;rw[this] at h3;simp only[dO] at h3;rw[h3]
     repeat'(first|refine y1 ?_|refine y2 ?_ ?_|refine y4 λh=>?_|refine g_ (.inl rfl) rfl ?_ rfl|refine y3 ?_|exact y5|fail)
 ·
  have hget:p[i]? =none:=ae;unfold elemS;rw[hget]
  repeat'(first|refine y1 ?_|refine y2 ?_ ?_|refine y4 λh=>?_|refine g_ (.inl rfl) rfl ?_ rfl|refine y3 ?_|exact y5|fail)
theorem DX (p:List Nd) (hp:p.length<=2048) (f:Nat) (hf:f<=32) (h0:tQ p f) (h1:1<=f->tQ p (f-1)):Cr p f:=by
 intro i k d hd hi;unfold de;refine wW Tryz.func225 ?_;have hbk:=Du k;have he:=h0 i k d hd hi
 cases hb:dq k with
 |false=>
  rw[hb] at hbk;simp only[Z0l,if_false];generalize elemF p f i k=r at*
  repeat'(first|refine y1 ?_|refine y2 ?_ ?_|refine bt hbk ?_|refine an he ?_|refine g_ (.inl rfl) rfl ?_ rfl|refine y3 ?_|exact y5|fail)
 |true=>
  rw[hb] at hbk;simp only[if_true];by_cases hlt:i<p.length
  ·
   have hget:p[i]? =some (p.getD i dN):=ae;rw[hget];simp only
   repeat'(first|refine y1 ?_|refine y2 ?_ ?_|refine y4 λh=>?_|refine bt hbk ?_|refine g_ (.inl rfl) rfl ?_ rfl|exact (show xq none=_ from (congrArg xq (if_neg (by simp_all<;>omega))).symm)|refine y3 ?_|exact y5|fail)
   ·have hk0:0<=(p.getD i dN).kids:=aa
    have h1f:1<=f:=aa;have hE:=h1 h1f;have hx:(p.getD i dN).str=[]:=‹_›;rw[if_pos ⟨decide_eq_true h1f,ae,ae,hx,hk0⟩];generalize hK:(p.getD i dN).kids.toNat=K at*;refine cD (σ:=Nat×Nat) (λx=>[(58,nI x.1),(11,nI x.2)]) (λx=>[]) (λx=>(x.1<=K/\i+1+x.1<=x.2)/\x.2<=p.length/\cx (λe=>elemF p (f-1) e k) K (i+1)=cx (λe=>elemF p (f-1) e k) (K-x.1) x.2) (λx=>K-x.1) (0,i+1) rfl (λ_=>rfl) ⟨⟨Z08 _,Z02 _⟩,hlt,rfl⟩ bc trivial ?_;rintro⟨j,e⟩ ⟨⟨g1,g0⟩,g2,g3⟩;simp only at g1 g2 g3 g0 |-;by_cases hj:j<K
    ·rw[show K-j=(K-(j+1))+1 by omega] at g3
     simp only[cx] at g3;have hch:=hE e k (d+1) aa g2
     have hle:=λe' (h:elemF p (f-1) e k=some e')=>cN h
     generalize elemF p (f-1) e k=r at*
     cases r with
     |none=>
      simp only at g3;rw[g3]
      repeat'(first|refine y1 ?_|refine y2 ?_ ?_|refine y4 λh=>?_|refine an hch ?_|refine g_ (.inl rfl) rfl ?_ rfl|refine y3 ?_|exact y5|fail)
     |some e'=>
      simp only at g3;have:=hle e' rfl
      repeat'(first|refine y1 ?_|refine y2 ?_ ?_|refine y4 λh=>?_|refine an hch ?_|refine dT (j+1,e') ⟨⟨?_,?_⟩,?_,g3⟩ ?_ rfl bc trivial rfl rfl ac|refine y3 ?_|exact y5|fail)
    ·
     rw[show K-j=0 by omega] at g3;simp only[cx] at g3;rw[g3]
     repeat'(first|refine y1 ?_|refine y2 ?_ ?_|refine y4 λh=>?_|refine g_ (.inl rfl) rfl ?_ rfl|refine y3 ?_|exact y5|fail)
  ·
   have hget:p[i]? =none:=ae;rw[hget]
   repeat'(first|refine y1 ?_|refine y2 ?_ ?_|refine y4 λh=>?_|refine bt hbk ?_|refine g_ (.inl rfl) rfl ?_ rfl|refine y3 ?_|exact y5|fail)
theorem Bn (p:List Nd) (hp:p.length<=2048) (hw:mG p):∀ f,f<=33->tQ p f:=by
 intro f
 induction f using Nat.strongRecOn with
 |_ f ih=>
  intro hf
  cases f with
  |zero=>exact Gn p
  |succ f=>exact Gm p hp hw f aa (DX p hp f aa (ih f aa aa) λ_=>ih (f-1) aa aa)
def oD (p:List Nd):Nat->Nat->Bool
 |0,_=>false
 |n+1,i=>if i<p.length then (match elemF p 32 i 68 with|some e=>oD p n e|none=>false) else true
def dX (p:List Nd):Bool:=decide (p.length<=2048)&&oD p (p.length+1) 0
theorem yM (p:List Nd) (hw:mG p):FQ 114 [ao p] 0 [] (bV (dX p)) 0 []:=by
 unfold dX;refine wW Tryz.func114 ?_;by_cases hp:p.length<=2048
 ·
  rw[decide_eq_true hp,Z1r]
  repeat'(first|refine y1 ?_|refine y2 ?_ ?_|refine y4 λh=>?_|refine y3 ?_|exact y5|fail)
  generalize hT:oD p (p.length+1) 0=T;refine cD (σ:=Nat×Nat) (λx=>[(3,nI x.2)]) (λx=>[]) (λx=>x.1<=x.2/\x.2<=p.length/\T=oD p (p.length+1-x.1) x.2) (λx=>p.length-x.2) (0,0) rfl (λ_=>rfl) ⟨Z02 _,Z08 _,hT.symm⟩ bc trivial ?_;clear hT;rintro⟨j,i⟩ ⟨h1,h2,h3⟩;simp only at h1 h2 h3 |-;rw[show p.length+1-j=(p.length-j)+1 by omega] at h3;simp only[oD] at h3;by_cases hlt:i<p.length
  ·rw[if_pos hlt] at h3
   have hch:=Bn p hp hw 32 ac i 68 1 ac h2
   have hle:=λe' (h:elemF p 32 i 68=some e')=>cN h
   generalize elemF p 32 i 68=r at*
   cases r with
   |none=>
    simp only at h3
    repeat'(first|refine y1 ?_|refine y2 ?_ ?_|refine y4 λh=>?_|refine an hch ?_|refine cJ (.inl rfl) rfl ?_|refine y3 ?_|exact y5|fail)
    grind
   |some e'=>
    simp only at h3;have:=hle e' rfl
    repeat'(first|refine y1 ?_|refine y2 ?_ ?_|refine y4 λh=>?_|refine an hch ?_|refine dT (j+1,e') ⟨?_,?_,?_⟩ ?_ rfl bc trivial rfl rfl ac|refine y3 ?_|exact y5|fail)
    grind
  ·
   rw[if_neg hlt] at h3
   repeat'(first|refine y1 ?_|refine y2 ?_ ?_|refine y4 λh=>?_|refine cJ (.inl rfl) rfl ?_|refine y3 ?_|exact y5|fail)
   grind
 ·
  rw[decide_eq_false hp,Z2c]
  repeat'(first|refine y1 ?_|refine y2 ?_ ?_|refine y4 λh=>?_|refine cJ (.inl rfl) rfl ?_|refine y3 ?_|exact y5|fail)
end
