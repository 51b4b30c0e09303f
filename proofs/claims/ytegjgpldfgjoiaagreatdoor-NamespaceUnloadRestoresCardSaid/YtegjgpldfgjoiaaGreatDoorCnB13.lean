import Derived.Test.YtegjgpldfgjoiaaGreatDoorCnB12
import Derived.Test.YtegjgpldfgjoiaaGreatDoorCnB10
set_option linter.unusedSimpArgs false
set_option linter.unusedVariables false
namespace Go.Proofs.YtegjgpldfgjoiaaGreatDoor
open Go Ab
set_option maxRecDepth 100000
set_option maxHeartbeats 4000000
structure Nd where
 op:Int
 int:Int
 str:By
 kids:Int
def ndC (x:Nd):List S:=[.int .i64 x.op,.int .u64 x.int,.str x.str,.int .i64 x.kids]
def dN:Nd:=⟨0,0,[],0⟩
abbrev ndV (x:Nd):V:=.agg (ndC x)
abbrev ae (p:List Nd):V:=.s (.frz (fun k=>ndC (p.getD k dN)) 4 p.length)
def fv (k:Int):Bool:=decide (65<=k/\k<=90)
theorem CX (k:Int):FC Tryz.prog 256 [n8 k] 0 [] (bV (fv k)) 0 []:=by
 refine FC.walk (by kernel_rfl) Tryz.func256 rfl rfl ?_
 repeat'(first|exact y0|refine y1 ?_|refine y2 ?_ ?_|(refine y8 ?_ ?_<;>intro h<;>try exact y6)|refine Fin.bool (.inl rfl) rfl ?_|refine y3 ?_|refine y7 ?_ ?_|refine y4 ?_|(refine y9 ?_ ?_<;>intro h)|exact y5|fail)
 all_goals (unfold fv;simp;omega)
def xJ (cs:Option (List S)) (k:Nat):By×By:=
 match cs with
 |some l=>match l[2*k]?,l[2*k+1]? with|some (.str a),some (.str b)=>(a,b)|_,_=>([],[])
 |none=>([],[])
def cq (op:Int):By×By:=
 if 10<=op/\op<=21 then xJ (GS 1) (op-10).toNat
 else if 30<=op/\op<=42 then xJ (GS 2) (op-30).toNat
 else if 60<=op/\op<=88 then xJ (GS 3) (op-60).toNat
 else if op=50 then ([66,117,102,102,101,114],[105,73])
 else if op=51 then ([80,97,99,107,97,103,101],[105,80])
 else ([],[])
theorem C8 (op:Int) (h1: ¬(10<=op/\op<=21)) (h2: ¬(30<=op/\op<=42)) (h3: ¬(60<=op/\op<=88)):FC Tryz.prog 255 [nI op] 0 [] (.agg [.str (cq op).1,.str (cq op).2]) 0 []:=by
 refine FC.walk (by kernel_rfl) Tryz.func255 rfl rfl ?_;unfold cq;rw[if_neg h1,if_neg h2,if_neg h3]
 repeat'(first|exact y0|refine y1 ?_|refine y2 ?_ ?_|(refine y8 ?_ ?_<;>intro h<;>try exact y6)|refine Fin.le (.inl rfl) rfl ?_ rfl|refine y3 ?_|refine y7 ?_ ?_|refine y4 ?_|(refine y9 ?_ ?_<;>intro h)|exact y5|fail)
 all_goals first
  |(rw[if_pos (by assumption)];exact VLe.refl _)
  |(rw[if_neg (by assumption),if_pos (by assumption)];exact VLe.refl _)
  |(rw[if_neg (by assumption),if_neg (by assumption)];exact VLe.refl _)
theorem Fy (op:Int) (h:op=10\/op=11\/op=12\/op=13\/op=14\/op=15\/op=16\/op=17\/op=18\/op=19\/op=20\/op=21):FC Tryz.prog 255 [nI op] 0 [] (.agg [.str (cq op).1,.str (cq op).2]) 0 []:=by
 refine FC.walk (by kernel_rfl) Tryz.func255 rfl rfl ?_
 rcases h with rfl|rfl|rfl|rfl|rfl|rfl|rfl|rfl|rfl|rfl|rfl|rfl
 all_goals
  repeat'(first|exact y0|refine y1 ?_|refine y2 ?_ ?_|(refine y8 ?_ ?_<;>intro h<;>try exact y6)|refine Fin.le (.inl rfl) rfl ?_ rfl|exact VLe.refl _|decide|refine y3 ?_|refine y7 ?_ ?_|refine y4 ?_|(refine y9 ?_ ?_<;>intro h)|exact y5|fail)
theorem Fv (op:Int) (h:op=30\/op=31\/op=32\/op=33\/op=34\/op=35\/op=36\/op=37\/op=38\/op=39\/op=40\/op=41\/op=42):FC Tryz.prog 255 [nI op] 0 [] (.agg [.str (cq op).1,.str (cq op).2]) 0 []:=by
 refine FC.walk (by kernel_rfl) Tryz.func255 rfl rfl ?_
 rcases h with rfl|rfl|rfl|rfl|rfl|rfl|rfl|rfl|rfl|rfl|rfl|rfl|rfl
 all_goals
  repeat'(first|exact y0|refine y1 ?_|refine y2 ?_ ?_|(refine y8 ?_ ?_<;>intro h<;>try exact y6)|refine Fin.le (.inl rfl) rfl ?_ rfl|exact VLe.refl _|decide|refine y3 ?_|refine y7 ?_ ?_|refine y4 ?_|(refine y9 ?_ ?_<;>intro h)|exact y5|fail)
theorem Fx (op:Int) (h:op=60\/op=61\/op=62\/op=63\/op=64\/op=65\/op=66\/op=67\/op=68\/op=69\/op=70\/op=71\/op=72\/op=73\/op=74):FC Tryz.prog 255 [nI op] 0 [] (.agg [.str (cq op).1,.str (cq op).2]) 0 []:=by
 refine FC.walk (by kernel_rfl) Tryz.func255 rfl rfl ?_
 rcases h with rfl|rfl|rfl|rfl|rfl|rfl|rfl|rfl|rfl|rfl|rfl|rfl|rfl|rfl|rfl
 all_goals
  repeat'(first|exact y0|refine y1 ?_|refine y2 ?_ ?_|(refine y8 ?_ ?_<;>intro h<;>try exact y6)|refine Fin.le (.inl rfl) rfl ?_ rfl|exact VLe.refl _|decide|refine y3 ?_|refine y7 ?_ ?_|refine y4 ?_|(refine y9 ?_ ?_<;>intro h)|exact y5|fail)
theorem Fw (op:Int) (h:op=75\/op=76\/op=77\/op=78\/op=79\/op=80\/op=81\/op=82\/op=83\/op=84\/op=85\/op=86\/op=87\/op=88):FC Tryz.prog 255 [nI op] 0 [] (.agg [.str (cq op).1,.str (cq op).2]) 0 []:=by
 refine FC.walk (by kernel_rfl) Tryz.func255 rfl rfl ?_
 rcases h with rfl|rfl|rfl|rfl|rfl|rfl|rfl|rfl|rfl|rfl|rfl|rfl|rfl|rfl
 all_goals
  repeat'(first|exact y0|refine y1 ?_|refine y2 ?_ ?_|(refine y8 ?_ ?_<;>intro h<;>try exact y6)|refine Fin.le (.inl rfl) rfl ?_ rfl|exact VLe.refl _|decide|refine y3 ?_|refine y7 ?_ ?_|refine y4 ?_|(refine y9 ?_ ?_<;>intro h)|exact y5|fail)
theorem Ap (op:Int):FC Tryz.prog 255 [nI op] 0 [] (.agg [.str (cq op).1,.str (cq op).2]) 0 []:=by
 by_cases h1:10<=op/\op<=21
 ·exact Fy op (by omega)
 by_cases h2:30<=op/\op<=42
 ·exact Fv op (by omega)
 by_cases h3:60<=op/\op<=88
 ·by_cases h4:op<=74
  ·exact Fx op (by omega)
  ·exact Fw op (by omega)
 ·exact C8 op h1 h2 h3
def e7:By:=[101,101,101,101,101,101,101]
def aD (op kids:Int):By×Bool:=
 if op=5 then (if kids<0\/7<kids then ([],false) else (e7.take kids.toNat,true))
 else if op=33 then (if kids<0\/1<kids then ([],false) else (e7.take kids.toNat,true))
 else if op=31/\kids=3 then ([101,83,83],true)
 else ((cq op).2,decide (((cq op).2.length:Int)=kids))
theorem pM {a:By} {b:Bool} {x:By×Bool} (e:x=(a,b)):V.tup [U.s (S.str a),U.s (S.bool b)]=V.tup [U.s (S.str x.1),U.s (S.bool x.2)]:=by rw[e]
theorem CJ (op int:Int) (str:By) (k:Nat):FC Tryz.prog 224 [.agg [.int .i64 op,.int .u64 int,.str str,.int .i64 (k:Int)]] 0 [] (.tup [.s (.str (aD op k).1),.s (.bool (aD op k).2)]) 0 []:=by
 refine FC.walk (by kernel_rfl) Tryz.func224 rfl rfl ?_
 repeat'(first|exact y0|refine y1 ?_|refine y2 ?_ ?_|(refine y8 ?_ ?_<;>intro h<;>try exact y6)|(refine wC ?_;first|refine wF 255 (pu (Ap _) ?_))|refine Fin.plain (.inl rfl) rfl ?_ rfl|refine y3 ?_|refine y7 ?_ ?_|refine y4 ?_|(refine y9 ?_ ?_<;>intro h)|exact y5|fail)
 all_goals first
  |(show k<=7;omega)
  |exact pM (by unfold aD e7;simp_all<;>omega)
  |exact pM (by unfold aD e7;simp_all;done)
theorem CK (op int:Int) (str:By) (k:Int) (hk:k<0):FC Tryz.prog 224 [.agg [.int .i64 op,.int .u64 int,.str str,.int .i64 k]] 0 [] (.tup [.s (.str (aD op k).1),.s (.bool (aD op k).2)]) 0 []:=by
 refine FC.walk (by kernel_rfl) Tryz.func224 rfl rfl ?_
 repeat'(first|exact y0|refine y1 ?_|refine y2 ?_ ?_|(refine y8 ?_ ?_<;>intro h<;>try exact y6)|(refine wC ?_;first|refine wF 255 (pu (Ap _) ?_))|refine Fin.plain (.inl rfl) rfl ?_ rfl|refine y3 ?_|refine y7 ?_ ?_|refine y4 ?_|(refine y9 ?_ ?_<;>intro h)|exact y5|fail)
 all_goals first
  |exact pM (by unfold aD e7;simp_all<;>omega)
  |exact pM (by unfold aD e7;simp_all;done)
theorem CL (x:Nd):FC Tryz.prog 224 [ndV x] 0 [] (.tup [.s (.str (aD x.op x.kids).1),.s (.bool (aD x.op x.kids).2)]) 0 []:=by
 obtain⟨op,int,str,kids⟩:=x;by_cases h:kids<0
 ·exact CK op int str kids h
 ·obtain⟨k,rfl⟩:=Int.eq_ofNat_of_zero_le (by omega:0<=kids)
  exact CJ op int str k
def bc (x:Nd) (k:Int):Bool:=
 (if x.op=1 then true else if x.op=6 then decide (x.int<8) else if x.op=7 then decide (x.int<7) else decide (x.int=0))&&
 (if x.op=3\/x.op=5 then (aq x.str).2&&(decide (k≠115)||vL (aq x.str).1) else if x.op=2 then decide (x.str.length<=255) else decide (x.str=[]))
theorem As (op int:Int) (str:By) (kids k:Int) (hl:str.length<9223372036854775807):FC Tryz.prog 223 [.agg [.int .i64 op,.int .u64 int,.str str,.int .i64 kids],n8 k] 0 [] (bV (bc ⟨op,int,str,kids⟩ k)) 0 []:=by
 have hpp:=dY str hl;generalize hp:aq str=pp at*;obtain⟨pt,ok⟩:=pp;obtain⟨root,up,segs⟩:=pt;refine FC.walk (by kernel_rfl) Tryz.func223 rfl rfl ?_;cases ok
 all_goals
  repeat'(first|exact y0|refine y1 ?_|refine y2 ?_ ?_|(refine y8 ?_ ?_<;>intro h<;>try exact y6)|(refine wC ?_;first|refine wF 48 (pu hpp ?_)|refine wF 254 (bo (EK _ _ _) ?_))|refine Fin.bool (.inl rfl) rfl ?_|refine y3 ?_|refine y7 ?_ ?_|refine y4 ?_|(refine y9 ?_ ?_<;>intro h)|exact y5|fail)
 all_goals first
  |(unfold bc;simp_all;done)
  |(unfold bc;simp_all;omega)
theorem rq (x:Nd) (k:Int) (hl:x.str.length<9223372036854775807):FC Tryz.prog 223 [ndV x,n8 k] 0 [] (bV (bc x k)) 0 []:=As x.op x.int x.str x.kids k hl
set_option maxRecDepth 100000
set_option maxHeartbeats 4000000
def bI (rec:Nat->Option Nat):Nat->Nat->Option Nat
 |0,e=>some e
 |k+1,e=>match rec e with|some e'=>bI rec k e'|none=>none
def cN (ch:Int->Nat->Option Nat):By->Nat->Option Nat
 |[],e=>some e
 |k::ks,e=>match ch (k.toNat:Int) e with|some e'=>cN ch ks e'|none=>none
def b_ (p:List Nd) (ok:Bool) (E0 E1:Nat->Int->Option Nat) (k:Int) (i:Nat):Option Nat:=
 if fv k then
  (match p[i]? with
  |none=>none
  |some y=>if ok=true/\y.op=4/\y.int=0/\y.str=[]/\0<=y.kids then bI (fun e=>E1 e k) y.kids.toNat (i+1) else none)
 else E0 i k
def elemS (p:List Nd) (ok:Bool) (E0 E1:Nat->Int->Option Nat) (i:Nat) (k:Int):Option Nat:=
 match p[i]? with
 |none=>none
 |some x=>if dI k x.op=true/\bc x k=true/\(aD x.op x.kids).2=true then cN (b_ p ok E0 E1) (aD x.op x.kids).1 (i+1) else none
def elemF (p:List Nd):Nat->Nat->Int->Option Nat
 |0,_,_=>none
 |1,i,k=>elemS p false (fun _ _=>none) (fun _ _=>none) i k
 |f+2,i,k=>elemS p true (elemF p (f+1)) (elemF p f) i k
theorem cZ (p:List Nd) (f:Nat):elemF p (f+1)=elemS p (decide (1<=f)) (elemF p f) (elemF p (f-1)):=by
 cases f with
 |zero=>funext i k;simp only[elemF];congr 1
 |succ f=>funext i k;simp only[elemF];congr 1
theorem jQ {rec:Nat->Option Nat} {N:Nat} (h:∀ i e,rec i=some e->i<e/\e<=N):∀ {k i e:Nat},i<=N->bI rec k i=some e->i+k<=e/\e<=N
 |0,i,e,hi,he=>by simp[bI] at he;omega
 |k+1,i,e,hi,he=>by
  simp only[bI] at he;split at he
  ·rename_i e' h'
   have h1:=h _ _ h';have:=jQ h h1.2 he;omega
  ·cases he
theorem qI {ch:Int->Nat->Option Nat} {N:Nat} (h:∀ k i e,ch k i=some e->i<e/\e<=N):∀ {ks:By} {i e:Nat},i<=N->cN ch ks i=some e->i+ks.length<=e/\e<=N
 |[],i,e,hi,he=>by simp[cN] at he;simp;omega
 |k::ks,i,e,hi,he=>by
  simp only[cN] at he;split at he
  ·rename_i e' h'
   have h1:=h _ _ _ h';have:=qI h h1.2 he;simp only[List.length_cons];omega
  ·cases he
theorem jM {p:List Nd} {ok:Bool} {E0 E1:Nat->Int->Option Nat} (h0:∀ i k e,E0 i k=some e->i<e/\e<=p.length) (h1:∀ i k e,E1 i k=some e->i<e/\e<=p.length) {k:Int} {i e:Nat} (h:b_ p ok E0 E1 k i=some e):i<e/\e<=p.length:=by
 unfold b_ at h;split at h
 ·split at h
  ·cases h
  ·rename_i y hy
   have hi:i<p.length:=by
    rcases Nat.lt_or_ge i p.length with h|h
    ·exact h
    ·simp[List.getElem?_eq_none h] at hy
   split at h
   ·have:=jQ (fun i e=>h1 i k e) (by omega) h
    omega
   ·cases h
 ·exact h0 _ _ _ h
theorem rH {p:List Nd} {ok:Bool} {E0 E1:Nat->Int->Option Nat} (h0:∀ i k e,E0 i k=some e->i<e/\e<=p.length) (h1:∀ i k e,E1 i k=some e->i<e/\e<=p.length) {k:Int} {i e:Nat} (h:elemS p ok E0 E1 i k=some e):i<e/\e<=p.length:=by
 unfold elemS at h;split at h
 ·cases h
 ·rename_i x hx
  have hi:i<p.length:=by
   rcases Nat.lt_or_ge i p.length with h|h
   ·exact h
   ·simp[List.getElem?_eq_none h] at hx
  split at h
  ·have:=qI (fun k i e h=>jM h0 h1 h) (by omega) h
   omega
  ·cases h
theorem bR {p:List Nd}:∀ {f i:Nat} {k:Int} {e:Nat},elemF p f i k=some e->i<e/\e<=p.length
 |0,_,_,_,h=>by cases h
 |1,i,k,e,h=>rH (fun _ _ _ h=>by cases h) (fun _ _ _ h=>by cases h) h
 |f+2,i,k,e,h=>rH (fun i k e h=>bR (f:=f+1) h) (fun i k e h=>bR (f:=f) h) h
abbrev vN (o:Option Nat):V:=.tup [.s (.int .i64 ((o.getD 0:Nat):Int)),.s (.bool o.isSome)]
def wfN (p:List Nd):Prop:=∀ x∈p,x.str.length<9223372036854775807
theorem nM {p:List Nd} (h:wfN p) (i:Nat):(p.getD i dN).str.length<9223372036854775807:=by
 rw[List.getD_eq_getElem?_getD]
 cases e:p[i]? with
 |none=>simp[dN]
 |some x=>exact h x (List.mem_of_getElem? e)
def su (p:List Nd) (f:Nat):Prop:=∀ (i:Nat) (k d:Int),d=33-(f:Int)->i<=p.length->FC Tryz.prog 172 [ae p,nI i,n8 k,nI d] 0 [] (vN (elemF p f i k)) 0 []
def BQ (p:List Nd) (f:Nat):Prop:=∀ (i:Nat) (k d:Int),d=33-(f:Int)->i<=p.length->FC Tryz.prog 225 [ae p,nI i,n8 k,nI d] 0 [] (vN (b_ p (decide (1<=f)) (elemF p f) (elemF p (f-1)) k i)) 0 []
theorem FN (p:List Nd):su p 0:=by
 intro i k d hd hi;refine FC.walk (by kernel_rfl) Tryz.func172 rfl rfl ?_
 repeat'(first|exact y0|refine y1 ?_|refine y2 ?_ ?_|(refine y8 ?_ ?_<;>intro h<;>try exact y6)|refine Fin.plain (.inl rfl) rfl ?_ rfl|refine y3 ?_|refine y7 ?_ ?_|refine y4 ?_|(refine y9 ?_ ?_<;>intro h)|exact y5|fail)
 all_goals rfl
theorem FM (p:List Nd) (hp:p.length<=2048) (hw:wfN p) (f:Nat) (hf:f<=32) (hc:BQ p f):su p (f+1):=by
 intro i k d hd hi;rw[cZ];refine FC.walk (by kernel_rfl) Tryz.func172 rfl rfl ?_;by_cases hlt:i<p.length
 ·have hget:p[i]? =some (p.getD i dN):=by simp[List.getD_eq_getElem?_getD,hlt]
  unfold elemS;rw[hget];simp only;have hwx:=nM hw i;have hkc:=CL (p.getD i dN);generalize aD (p.getD i dN).op (p.getD i dN).kids=kb at*;obtain⟨ks,ok⟩:=kb;simp only at hkc |-;cases ok
  ·
   repeat'(first|exact y0|refine y1 ?_|refine y2 ?_ ?_|(refine y8 ?_ ?_<;>intro h<;>try exact y6)|(refine wC ?_;first|refine wF 222 (bo (Eu _ _) ?_)|refine wF 223 (bo (rq (p.getD i dN) _ hwx) ?_)|refine wF 224 (pu hkc ?_))|refine Fin.plain (.inl rfl) rfl ?_ rfl|refine y3 ?_|refine y7 ?_ ?_|refine y4 ?_|(refine y9 ?_ ?_<;>intro h)|exact y5|fail)
   all_goals simp_all
  ·
   repeat'(first|exact y0|refine y1 ?_|refine y2 ?_ ?_|(refine y8 ?_ ?_<;>intro h<;>try exact y6)|(refine wC ?_;first|refine wF 222 (bo (Eu _ _) ?_)|refine wF 223 (bo (rq (p.getD i dN) _ hwx) ?_)|refine wF 224 (pu hkc ?_))|refine Fin.plain (.inl rfl) rfl ?_ rfl|exact (show vN none=_ from (congrArg vN (if_neg (by simp_all))).symm)|refine y3 ?_|refine y7 ?_ ?_|refine y4 ?_|(refine y9 ?_ ?_<;>intro h)|exact y5|fail)
   ·rw[if_pos ⟨‹dI k _=true›,‹bc _ k=true›,rfl⟩]
    refine Ex.inv (σ:=Nat×Nat) (fun x=>[(49,nI x.1),(13,nI x.2)]) (fun x=>[]) (fun x=>(x.1<=ks.length/\i+1+x.1<=x.2)/\x.2<=p.length/\cN (b_ p (decide (1<=f)) (elemF p f) (elemF p (f-1))) ks (i+1)=cN (b_ p (decide (1<=f)) (elemF p f) (elemF p (f-1))) (ks.drop x.1) x.2) (fun x=>ks.length-x.1) (0,i+1) rfl (fun _=>rfl) ⟨⟨Nat.zero_le _,Nat.le_refl _⟩,hlt,rfl⟩ ⟨VLe.refl _,VLe.refl _,trivial⟩ trivial ?_;rintro⟨j,e⟩ ⟨⟨h1,h0⟩,h2,h3⟩;simp only at h1 h2 h3 h0 |-;by_cases hj:j<ks.length
    ·rw[List.drop_eq_getElem_cons hj] at h3
     have hkg:ks[j]=ks.getD j 0:=by simp[List.getD_eq_getElem?_getD,hj]
     rw[hkg] at h3;simp only[cN] at h3;have hch:=hc e ((ks.getD j 0).toNat:Int) (d+1) (by omega) h2
     have hle:=fun e' (h:b_ p (decide (1<=f)) (elemF p f) (elemF p (f-1)) ((ks.getD j 0).toNat:Int) e=some e')=>jM (fun i k e h=>bR h) (fun i k e h=>bR h) h
     generalize b_ p (decide (1<=f)) (elemF p f) (elemF p (f-1)) ((ks.getD j 0).toNat:Int) e=r at*
     cases r with
     |none=>
      simp only at h3;rw[h3]
      repeat'(first|exact y0|refine y1 ?_|refine y2 ?_ ?_|(refine y8 ?_ ?_<;>intro h<;>try exact y6)|(refine wC ?_;first|refine wF 225 (pu hch ?_))|refine Fin.plain (.inl rfl) rfl ?_ rfl|refine y3 ?_|refine y7 ?_ ?_|refine y4 ?_|(refine y9 ?_ ?_<;>intro h)|exact y5|fail)
     |some e'=>
      simp only at h3;have:=hle e' rfl
      repeat'(first|exact y0|refine y1 ?_|refine y2 ?_ ?_|(refine y8 ?_ ?_<;>intro h<;>try exact y6)|(refine wC ?_;first|refine wF 225 (pu hch ?_))|refine Fin.plain (.inl rfl) rfl ?_ rfl|refine LoopR.same (j+1,e') ⟨⟨?_,?_⟩,?_,h3⟩ ?_ rfl ⟨VLe.refl _,VLe.refl _,trivial⟩ trivial rfl rfl (by decide)|refine y3 ?_|refine y7 ?_ ?_|refine y4 ?_|(refine y9 ?_ ?_<;>intro h)|exact y5|fail)
    ·
     have:ks.drop j=[]:=by simp;omega
     rw[this] at h3;simp only[cN] at h3;rw[h3]
     repeat'(first|exact y0|refine y1 ?_|refine y2 ?_ ?_|(refine y8 ?_ ?_<;>intro h<;>try exact y6)|refine Fin.plain (.inl rfl) rfl ?_ rfl|refine y3 ?_|refine y7 ?_ ?_|refine y4 ?_|(refine y9 ?_ ?_<;>intro h)|exact y5|fail)
 ·
  have hget:p[i]? =none:=by simp;omega
  unfold elemS;rw[hget]
  repeat'(first|exact y0|refine y1 ?_|refine y2 ?_ ?_|(refine y8 ?_ ?_<;>intro h<;>try exact y6)|refine Fin.plain (.inl rfl) rfl ?_ rfl|refine y3 ?_|refine y7 ?_ ?_|refine y4 ?_|(refine y9 ?_ ?_<;>intro h)|exact y5|fail)
  all_goals rfl
theorem Do (p:List Nd) (hp:p.length<=2048) (f:Nat) (hf:f<=32) (h0:su p f) (h1:1<=f->su p (f-1)):BQ p f:=by
 intro i k d hd hi;unfold b_;refine FC.walk (by kernel_rfl) Tryz.func225 rfl rfl ?_;have hbk:=CX k;have he:=h0 i k d hd hi
 cases hb:fv k with
 |false=>
  rw[hb] at hbk;simp only[Bool.false_eq_true,if_false];generalize elemF p f i k=r at*
  repeat'(first|exact y0|refine y1 ?_|refine y2 ?_ ?_|(refine y8 ?_ ?_<;>intro h<;>try exact y6)|(refine wC ?_;first|refine wF 256 (bo hbk ?_)|refine wF 172 (pu he ?_))|refine Fin.plain (.inl rfl) rfl ?_ rfl|refine y3 ?_|refine y7 ?_ ?_|refine y4 ?_|(refine y9 ?_ ?_<;>intro h)|exact y5|fail)
  all_goals rfl
 |true=>
  rw[hb] at hbk;simp only[if_true];by_cases hlt:i<p.length
  ·
   have hget:p[i]? =some (p.getD i dN):=by simp[List.getD_eq_getElem?_getD,hlt]
   rw[hget];simp only
   repeat'(first|exact y0|refine y1 ?_|refine y2 ?_ ?_|(refine y8 ?_ ?_<;>intro h<;>try exact y6)|(refine wC ?_;first|refine wF 256 (bo hbk ?_))|refine Fin.plain (.inl rfl) rfl ?_ rfl|exact (show vN none=_ from (congrArg vN (if_neg (by simp_all<;>omega))).symm)|refine y3 ?_|refine y7 ?_ ?_|refine y4 ?_|(refine y9 ?_ ?_<;>intro h)|exact y5|fail)
   ·have hk0:0<=(p.getD i dN).kids:=by omega
    have h1f:1<=f:=by omega
    have hE:=h1 h1f;have hx:(p.getD i dN).str=[]:=‹_›;rw[if_pos ⟨decide_eq_true h1f,by assumption,by assumption,hx,hk0⟩];generalize hK:(p.getD i dN).kids.toNat=K at*;refine Ex.inv (σ:=Nat×Nat) (fun x=>[(58,nI x.1),(11,nI x.2)]) (fun x=>[]) (fun x=>(x.1<=K/\i+1+x.1<=x.2)/\x.2<=p.length/\bI (fun e=>elemF p (f-1) e k) K (i+1)=bI (fun e=>elemF p (f-1) e k) (K-x.1) x.2) (fun x=>K-x.1) (0,i+1) rfl (fun _=>rfl) ⟨⟨Nat.zero_le _,Nat.le_refl _⟩,hlt,rfl⟩ ⟨VLe.refl _,VLe.refl _,trivial⟩ trivial ?_;rintro⟨j,e⟩ ⟨⟨g1,g0⟩,g2,g3⟩;simp only at g1 g2 g3 g0 |-;by_cases hj:j<K
    ·rw[show K-j=(K-(j+1))+1 by omega] at g3
     simp only[bI] at g3;have hch:=hE e k (d+1) (by omega) g2
     have hle:=fun e' (h:elemF p (f-1) e k=some e')=>bR h
     generalize elemF p (f-1) e k=r at*
     cases r with
     |none=>
      simp only at g3;rw[g3]
      repeat'(first|exact y0|refine y1 ?_|refine y2 ?_ ?_|(refine y8 ?_ ?_<;>intro h<;>try exact y6)|(refine wC ?_;first|refine wF 172 (pu hch ?_))|refine Fin.plain (.inl rfl) rfl ?_ rfl|refine y3 ?_|refine y7 ?_ ?_|refine y4 ?_|(refine y9 ?_ ?_<;>intro h)|exact y5|fail)
     |some e'=>
      simp only at g3;have:=hle e' rfl
      repeat'(first|exact y0|refine y1 ?_|refine y2 ?_ ?_|(refine y8 ?_ ?_<;>intro h<;>try exact y6)|(refine wC ?_;first|refine wF 172 (pu hch ?_))|refine Fin.plain (.inl rfl) rfl ?_ rfl|refine LoopR.same (j+1,e') ⟨⟨?_,?_⟩,?_,g3⟩ ?_ rfl ⟨VLe.refl _,VLe.refl _,trivial⟩ trivial rfl rfl (by decide)|refine y3 ?_|refine y7 ?_ ?_|refine y4 ?_|(refine y9 ?_ ?_<;>intro h)|exact y5|fail)
    ·
     rw[show K-j=0 by omega] at g3;simp only[bI] at g3;rw[g3]
     repeat'(first|exact y0|refine y1 ?_|refine y2 ?_ ?_|(refine y8 ?_ ?_<;>intro h<;>try exact y6)|refine Fin.plain (.inl rfl) rfl ?_ rfl|refine y3 ?_|refine y7 ?_ ?_|refine y4 ?_|(refine y9 ?_ ?_<;>intro h)|exact y5|fail)
  ·
   have hget:p[i]? =none:=by simp;omega
   rw[hget]
   repeat'(first|exact y0|refine y1 ?_|refine y2 ?_ ?_|(refine y8 ?_ ?_<;>intro h<;>try exact y6)|(refine wC ?_;first|refine wF 256 (bo hbk ?_))|refine Fin.plain (.inl rfl) rfl ?_ rfl|refine y3 ?_|refine y7 ?_ ?_|refine y4 ?_|(refine y9 ?_ ?_<;>intro h)|exact y5|fail)
   all_goals rfl
theorem AK (p:List Nd) (hp:p.length<=2048) (hw:wfN p):∀ f,f<=33->su p f:=by
 intro f
 induction f using Nat.strongRecOn with
 |_ f ih=>
  intro hf
  cases f with
  |zero=>exact FN p
  |succ f=>exact FM p hp hw f (by omega) (Do p hp f (by omega) (ih f (by omega) (by omega)) fun _=>ih (f-1) (by omega) (by omega))
def mA (p:List Nd):Nat->Nat->Bool
 |0,_=>false
 |n+1,i=>if i<p.length then (match elemF p 32 i 68 with|some e=>mA p n e|none=>false) else true
def bz (p:List Nd):Bool:=decide (p.length<=2048)&&mA p (p.length+1) 0
theorem kS (p:List Nd) (hw:wfN p):FC Tryz.prog 114 [ae p] 0 [] (bV (bz p)) 0 []:=by
 unfold bz;refine FC.walk (by kernel_rfl) Tryz.func114 rfl rfl ?_;by_cases hp:p.length<=2048
 ·
  rw[decide_eq_true hp,Bool.true_and]
  repeat'(first|exact y0|refine y1 ?_|refine y2 ?_ ?_|(refine y8 ?_ ?_<;>intro h<;>try exact y6)|refine Fin.bool (.inl rfl) rfl ?_|refine y3 ?_|refine y7 ?_ ?_|refine y4 ?_|(refine y9 ?_ ?_<;>intro h)|exact y5|fail)
  generalize hT:mA p (p.length+1) 0=T;refine Ex.inv (σ:=Nat×Nat) (fun x=>[(3,nI x.2)]) (fun x=>[]) (fun x=>x.1<=x.2/\x.2<=p.length/\T=mA p (p.length+1-x.1) x.2) (fun x=>p.length-x.2) (0,0) rfl (fun _=>rfl) ⟨Nat.le_refl _,Nat.zero_le _,hT.symm⟩ ⟨VLe.refl _,trivial⟩ trivial ?_;clear hT;rintro⟨j,i⟩ ⟨h1,h2,h3⟩;simp only at h1 h2 h3 |-;rw[show p.length+1-j=(p.length-j)+1 by omega] at h3;simp only[mA] at h3;by_cases hlt:i<p.length
  ·rw[if_pos hlt] at h3
   have hch:=AK p hp hw 32 (by decide) i 68 1 (by decide) h2
   have hle:=fun e' (h:elemF p 32 i 68=some e')=>bR h
   generalize elemF p 32 i 68=r at*
   cases r with
   |none=>
    simp only at h3
    repeat'(first|exact y0|refine y1 ?_|refine y2 ?_ ?_|(refine y8 ?_ ?_<;>intro h<;>try exact y6)|(refine wC ?_;first|refine wF 172 (pu hch ?_))|refine Fin.bool (.inl rfl) rfl ?_|refine y3 ?_|refine y7 ?_ ?_|refine y4 ?_|(refine y9 ?_ ?_<;>intro h)|exact y5|fail)
    all_goals exact h3.symm
   |some e'=>
    simp only at h3;have:=hle e' rfl
    repeat'(first|exact y0|refine y1 ?_|refine y2 ?_ ?_|(refine y8 ?_ ?_<;>intro h<;>try exact y6)|(refine wC ?_;first|refine wF 172 (pu hch ?_))|refine Fin.bool (.inl rfl) rfl ?_|refine LoopR.same (j+1,e') ⟨?_,?_,?_⟩ ?_ rfl ⟨VLe.refl _,trivial⟩ trivial rfl rfl (by decide)|refine y3 ?_|refine y7 ?_ ?_|refine y4 ?_|(refine y9 ?_ ?_<;>intro h)|exact y5|fail)
    all_goals (rw[h3];congr 1;omega)
  ·
   rw[if_neg hlt] at h3
   repeat'(first|exact y0|refine y1 ?_|refine y2 ?_ ?_|(refine y8 ?_ ?_<;>intro h<;>try exact y6)|refine Fin.bool (.inl rfl) rfl ?_|refine y3 ?_|refine y7 ?_ ?_|refine y4 ?_|(refine y9 ?_ ?_<;>intro h)|exact y5|fail)
   all_goals exact h3.symm
 ·
  rw[decide_eq_false hp,Bool.false_and]
  repeat'(first|exact y0|refine y1 ?_|refine y2 ?_ ?_|(refine y8 ?_ ?_<;>intro h<;>try exact y6)|refine Fin.bool (.inl rfl) rfl ?_|refine y3 ?_|refine y7 ?_ ?_|refine y4 ?_|(refine y9 ?_ ?_<;>intro h)|exact y5|fail)
  all_goals rfl
set_option maxRecDepth 100000
set_option maxHeartbeats 4000000
theorem tG:SC Tryz.prog 158 [.s (.slc none 0 (some 0))] 0 [] (.s (aJ [])) 0 []:=by
 refine (FC.walk (v:=.s (aJ [])) (by kernel_rfl) Tryz.func158 rfl rfl ?_).2
 repeat'(first|exact y0|refine y1 ?_|refine y2 ?_ ?_|(refine y8 ?_ ?_<;>intro h<;>try exact y6)|refine Unr.next' rfl ?_|refine BrG.tt ?_|refine Fin.le (.inl rfl) rfl ?_ rfl|refine y3 ?_|refine y7 ?_ ?_|refine y4 ?_|(refine y9 ?_ ?_<;>intro h)|exact y5|fail)
 exact VLe.s SLe.nil
theorem tH:SC Tryz.prog 158 [.s .emq] 0 [] (.s (aJ [])) 0 []:=by
 refine (FC.walk (v:=.s (aJ [])) (by kernel_rfl) Tryz.func158 rfl rfl ?_).2
 repeat'(first|exact y0|refine y1 ?_|refine y2 ?_ ?_|(refine y8 ?_ ?_<;>intro h<;>try exact y6)|refine Unr.next' rfl ?_|refine RegX.atCmp (CmpG.nn false trivial rfl (.inl ⟨rfl,rfl⟩) rfl rfl ?_)|refine y3 ?_|refine y7 ?_ ?_|refine y4 ?_|(refine y9 ?_ ?_<;>intro h)|exact y5|fail)
 refine RegX.opA [.app 0 []] rfl rfl ⟨rfl,rfl,rfl,rfl,rfl,rfl,(fun h=>nomatch h),by rw[Nat.zero_mul];decide,by decide⟩ ?_
 repeat'(first|exact y0|refine y1 ?_|refine y2 ?_ ?_|(refine y8 ?_ ?_<;>intro h<;>try exact y6)|refine Unr.next' rfl ?_|refine Ex.set 2 (.s (aJ [])) (VLe.s (fun φ x h=>SLe.emqfrz φ x (SLe.slaemq φ x h))) rfl ?_|refine Fin.le (.inl rfl) rfl (VLe.refl _) rfl|refine y3 ?_|refine y7 ?_ ?_|refine y4 ?_|(refine y9 ?_ ?_<;>intro h)|exact y5|fail)
theorem jh (l:List By):bQ (fun k=>[S.str (l.getD k [])]) l.length=l.map S.str:=by
 rw[lW (fun s=>[S.str s]) [] l]
 induction l with
 |nil=>rfl
 |cons a l ih=>simp only[List.flatMap_cons,List.map_cons,ih,List.singleton_append]
theorem kY {bl:Bl} (l:List By):aR bl (l.map S.str)=true:=wI fun x hx=>by
 obtain⟨s,_,rfl⟩:=List.mem_map.1 hx;rfl
theorem pO {l:List By} {k j:Nat} {x:S} (hk:k<l.length) (hx:[S.str (l.getD k [])][j]? =some x):(l.map S.str)[k*1+j]? =some x/\aY x=true:=by
 cases j with
 |succ j=>simp at hx
 |zero=>
  simp only[List.getElem?_cons_zero,Option.some.injEq] at hx;subst hx;rw[Nat.mul_one,Nat.add_zero,List.getElem?_map,List.getElem?_eq_getElem hk,List.getD_eq_getElem?_getD,List.getElem?_eq_getElem hk];exact⟨rfl,rfl⟩
theorem vn (l:List By) (hl:l.length<1000000):FC Tryz.prog 158 [.s (aJ l)] 0 [] (.s (aJ l)) 0 []:=by
 cases l with
 |nil=>exact⟨by kernel_rfl,SC.split2 (pre:=[]) (post:=[]) (fun φ x h=>ik h) tG tH⟩
 |cons s t=>
  refine FC.walk (by kernel_rfl) Tryz.func158 rfl rfl ?_
  repeat'(first|exact y0|refine y1 ?_|refine y2 ?_ ?_|(refine y8 ?_ ?_<;>intro h<;>try exact y6)|refine Unr.next' rfl ?_|refine RegX.atCmp (CmpG.nn false (Nat.succ_pos _) rfl (.inl ⟨rfl,rfl⟩) rfl rfl ?_)|refine y3 ?_|refine y7 ?_ ?_|refine y4 ?_|(refine y9 ?_ ?_<;>intro h)|exact y5|fail)
  refine RegX.opA [.app (s::t).length ((s::t).map S.str)] rfl rfl ⟨rfl,trivial,rfl,by rw[Nat.zero_add],?_,?_,(fun h=>nomatch h),?_,by omega⟩ ?_
  ·rw[jh,Nat.zero_mul];rfl
  ·rw[jh];exact kY _
  ·rw[show (Tryz.prog.types[9]).bytes=16 by kernel_rfl];omega
  repeat'(first|exact y0|refine y1 ?_|refine y2 ?_ ?_|(refine y8 ?_ ?_<;>intro h<;>try exact y6)|refine Unr.next' rfl ?_|refine Ex.fz 2 (fun k=>[.str ((s::t).getD k [])]) 1 rfl rfl rfl rfl (fun _ _=>rfl) ?_ rfl rfl ?_|refine Fin.le (.inl rfl) rfl (VLe.refl _) rfl|refine y3 ?_|refine y7 ?_ ?_|refine y4 ?_|(refine y9 ?_ ?_<;>intro h)|exact y5|fail)
  intro k j x hk hx;exact pO hk hx
theorem wB:FC Tryz.prog 213 [.s (.slc none 0 (some 0)),nI 0] 0 [] (.s (.slc none 0 (some 0))) 0 []:=by
 refine FC.walk (by kernel_rfl) Tryz.func213 rfl rfl ?_
 repeat'(first|exact y0|refine y1 ?_|refine y2 ?_ ?_|(refine y8 ?_ ?_<;>intro h<;>try exact y6)|refine Unr.next' rfl ?_|refine RegX.cap0 rfl rfl rfl ?_|refine Fin.plain (.inl rfl) rfl ?_ rfl|refine y3 ?_|refine y7 ?_ ?_|refine y4 ?_|(refine y9 ?_ ?_<;>intro h)|exact y5|fail)
 all_goals rfl
theorem Fr (n:Nat) (h0:0<n) (hl:n<4000000):FC Tryz.prog 213 [.s (.slc none 0 (some 0)),nI n] 0 [] (.s (.sla 0 1 0)) 2 [(0,some {cells:=[],ty:=9,more:=true,sym:=true,flat:=true,gh:=some (1,1)})]:=by
 refine FC.walk (by kernel_rfl) Tryz.func213 rfl rfl ?_
 repeat'(first|exact y0|refine y1 ?_|refine y2 ?_ ?_|(refine y8 ?_ ?_<;>intro h<;>try exact y6)|refine Unr.next' rfl ?_|refine RegX.cap0 rfl rfl rfl ?_|refine RegX.nilTo rfl rfl rfl rfl rfl ?_ ?_|refine RegX.mkz n rfl rfl rfl rfl rfl rfl rfl rfl rfl ?_ h0 ?_ (by omega) ?_ ?_|refine y3 ?_|refine y7 ?_ ?_|refine y4 ?_|(refine y9 ?_ ?_<;>intro h)|exact y5|fail)
 ·rw[show (Tryz.prog.types[9]).bytes=16 by kernel_rfl];omega
 ·refine RegX.opA [.win 0 0 []] rfl rfl ⟨rfl,rfl,Nat.le_refl _,Nat.zero_le _,by rw[Nat.zero_mul];exact Nat.zero_le _,rfl⟩ ?_
  repeat'(first|exact y0|refine y1 ?_|refine y2 ?_ ?_|(refine y8 ?_ ?_<;>intro h<;>try exact y6)|refine Unr.next' rfl ?_|exact⟨.inl rfl,_,[2,3],VLe.refl _,EndOK.by rfl ⟨rfl,trivial⟩ rfl rfl rfl rfl⟩|refine y3 ?_|refine y7 ?_ ?_|refine y4 ?_|(refine y9 ?_ ?_<;>intro h)|exact y5|fail)
theorem AZ (x y:List By) (n m:Nat) (g1 g2:Nat->List S) (hn:x.length=n) (hm':y.length=m) (f1:bQ g1 n=x.map S.str) (f2:bQ g2 m=y.map S.str) (hx:n<1000000) (hy:m<1000000):FC Tryz.prog 159 [.s (.slc (some (0,0)) 2 (some 2))] 1 [(0,some {cells:=[.frz g1 1 n,.frz g2 1 m],ty:=23})] (.s (aJ (x++y))) 1 [(0,some {cells:=[.frz g1 1 n,.frz g2 1 m],ty:=23})]:=by
 refine FC.walk (by kernel_rfl) Tryz.func159 rfl rfl ?_;by_cases h0:n+m=0
 ·obtain rfl:x=[]:=List.eq_nil_of_length_eq_zero (by omega)
  obtain rfl:n=0:=by omega
  obtain rfl:y=[]:=List.eq_nil_of_length_eq_zero (by omega)
  obtain rfl:m=0:=by omega
  repeat'(first|exact y0|refine y1 ?_|refine y2 ?_ ?_|(refine y8 ?_ ?_<;>intro h<;>try exact y6)|(refine wC ?_;first|refine wF 213 (pu wB ?_))|refine Unr.next' rfl ?_|refine Ex.unroll 3 ?_|refine RegX.apNil rfl rfl rfl rfl rfl rfl rfl ?_|refine Ex.set 2 (.s (aJ [])) (VLe.s SLe.nil) rfl ?_|exact⟨.inl rfl,_,[],VLe.refl _,EndOK.by rfl ⟨rfl,trivial⟩ rfl rfl rfl rfl⟩|refine y3 ?_|refine y7 ?_ ?_|refine y4 ?_|(refine y9 ?_ ?_<;>intro h)|exact y5|fail)
 ·
  have htot:(0:Int)+n+m=((n+m:Nat):Int):=by omega
  repeat'(first|exact y0|refine y1 ?_|refine y2 ?_ ?_|(refine y8 ?_ ?_<;>intro h<;>try exact y6)|refine Unr.next' rfl ?_|refine Ex.unroll 3 ?_|refine RegX.atCall (CallG.me [] (Fr (n+m) (by omega) (by omega)) rfl (args1:=[.s (.slc none 0 (some 0)),nI (0+n+m)]) rfl ⟨VLe.refl _,VLe.of_eq (congrArg nI htot),trivial⟩ trivial rfl rfl rfl ?_)|refine y3 ?_|refine y7 ?_ ?_|refine y4 ?_|(refine y9 ?_ ?_<;>intro h)|exact y5|fail)
  refine RegX.opA [.app n (x.map S.str)] rfl rfl ⟨Nat.le_of_eq (Nat.zero_mul _),trivial,rfl,by rw[Nat.zero_add],?_,?_,(fun h=>nomatch h),?_,by omega⟩ ?_
  ·rw[f1,Nat.zero_mul];rfl
  ·rw[f1];exact kY _
  ·rw[show (Tryz.prog.types[9]).bytes=16 by kernel_rfl];omega
  repeat'(first|exact y0|refine y1 ?_|refine y2 ?_ ?_|(refine y8 ?_ ?_<;>intro h<;>try exact y6)|refine Unr.next' rfl ?_|refine Ex.unroll 3 ?_|refine y3 ?_|refine y7 ?_ ?_|refine y4 ?_|(refine y9 ?_ ?_<;>intro h)|exact y5|fail)
  have hsz1:(Tryz.prog.types[9]).size=1:=by kernel_rfl
  refine RegX.opA [.app (n+m) ((x++y).map S.str)] rfl rfl ⟨?_,trivial,rfl,rfl,?_,?_,(fun h=>nomatch h),?_,by omega⟩ ?_
  ·rw[hsz1];show n*1<=(x.map S.str).length;simp[hn]
  ·rw[f2,hsz1];show _=(x.map S.str).take (n*1)++_;rw[Nat.mul_one,List.take_of_length_le (by simp[hn]),List.map_append]
  ·rw[f2];exact kY _
  ·rw[show (Tryz.prog.types[9]).bytes=16 by kernel_rfl];omega
  repeat'(first|exact y0|refine y1 ?_|refine y2 ?_ ?_|(refine y8 ?_ ?_<;>intro h<;>try exact y6)|refine Unr.next' rfl ?_|refine Ex.fz 2 (fun k=>[.str ((x++y).getD k [])]) 1 rfl rfl rfl rfl (fun _ _=>rfl) ?_ rfl rfl ?_|refine y3 ?_|refine y7 ?_ ?_|refine y4 ?_|(refine y9 ?_ ?_<;>intro h)|exact y5|fail)
  ·intro k j s hk hs
   exact pO (by rw[List.length_append];omega) hs
  ·refine⟨.inl rfl,.s (.frz (fun k=>[.str ((x++y).getD k [])]) 1 (n+m)),[],VLe.of_eq ?_,EndOK.by ?_ ?_ rfl rfl rfl rfl⟩
   ·unfold aJ;rw[List.length_append,hn,hm']
   ·rfl
   ·refine⟨?_,trivial⟩
    rfl
set_option maxRecDepth 100000
set_option maxHeartbeats 4000000
theorem aS {p:Pth} (h:aC p=true):0<=p.up/\p.up<=32/\(p.segs.length:Int)<=32-p.up/\(p.root=true->p.up=0)/\p.segs.all aG=true/\(p.root=true\/0<p.up\/0<p.segs.length):=by
 unfold aC at h;simp only[Bool.and_eq_true,decide_eq_true_eq,Bool.not_eq_true',Bool.or_eq_true] at h;obtain⟨⟨⟨⟨⟨h1,h2⟩,h3⟩,h4⟩,h5⟩,h6⟩:=h;refine⟨h1,h3,h4,fun hr=>?_,h5,?_⟩
 ·rw[hr] at h2;simpa using h2
 ·rcases h6 with (h|h)|h
  ·exact .inl h
  ·exact .inr (.inl h)
  ·exact .inr (.inr h)
theorem gQ {p:Pth} (h:fM p=true):p.root=true/\p.up=0/\p.segs.length<=32:=by
 unfold fM at h;simp only[Bool.and_eq_true] at h;obtain⟨h0,h1⟩:=h;obtain⟨a1,a2,a3,a4,_⟩:=aS h1;have:=a4 h0;exact⟨h0,this,by omega⟩
theorem wH (l:List By) {k:Nat} (h:k<=l.length):bQ (fun i=>[S.str (l.getD i [])]) k=(l.take k).map S.str:=by
 induction k with
 |zero=>rfl
 |succ k ih=>rw[il,ih (by omega),List.take_add_one,List.map_append,List.getD_eq_getElem?_getD,List.getElem?_eq_getElem (by omega)];rfl
def bp (b r:Pth):Pth×Bool:=
 if fM b=false\/aC r=false then (z0,false)
 else if r.root then (⟨true,0,r.segs⟩,true)
 else if (b.segs.length:Int)-r.up<0\/32<(b.segs.length:Int)-r.up+r.segs.length then (z0,false)
 else (⟨true,0,b.segs.take ((b.segs.length:Int)-r.up).toNat++r.segs⟩,true)
theorem s_ (br:Bool) (bu:Int) (bs:List By) (rr:Bool) (ru:Int) (rs:List By):
 FC Tryz.prog 95 [.agg [.bool br,.int .i64 bu,aJ bs],.agg [.bool rr,.int .i64 ru,aJ rs]] 0 [] (psV (bp ⟨br,bu,bs⟩ ⟨rr,ru,rs⟩)) 0 []:=by
 have ha:=tP br bu bs;have hv:=dh rr ru rs;refine FC.walk (by kernel_rfl) Tryz.func95 rfl rfl ?_
 cases h1:fM ⟨br,bu,bs⟩<;>rw[h1] at ha
 ·
  repeat'(first|exact y0|refine y1 ?_|refine y2 ?_ ?_|(refine y8 ?_ ?_<;>intro h<;>try exact y6)|(refine wC ?_;first|refine wF 94 (bo ha ?_))|refine Fin.le (.inl rfl) rfl (fH (by simp[bp,h1])) rfl|refine y3 ?_|refine y7 ?_ ?_|refine y4 ?_|(refine y9 ?_ ?_<;>intro h)|exact y5|fail)
 cases h2:aC ⟨rr,ru,rs⟩<;>rw[h2] at hv
 ·
  repeat'(first|exact y0|refine y1 ?_|refine y2 ?_ ?_|(refine y8 ?_ ?_<;>intro h<;>try exact y6)|(refine wC ?_;first|refine wF 94 (bo ha ?_)|refine wF 93 (bo hv ?_))|refine Fin.le (.inl rfl) rfl (fH (by simp[bp,h2])) rfl|refine y3 ?_|refine y7 ?_ ?_|refine y4 ?_|(refine y9 ?_ ?_<;>intro h)|exact y5|fail)
 obtain⟨a1,a2,a3⟩:=gQ h1;obtain⟨v1,v2,v3,v4,v5,v6⟩:=aS h2;simp only at a1 a2 a3 v1 v2 v3 v4 v5 v6;cases rr
 ·by_cases hn:(bs.length:Int)-ru<0
  ·
   repeat'(first|exact y0|refine y1 ?_|refine y2 ?_ ?_|(refine y8 ?_ ?_<;>intro h<;>try exact y6)|(refine wC ?_;first|refine wF 94 (bo ha ?_)|refine wF 93 (bo hv ?_))|refine Fin.le (.inl rfl) rfl (fH (by simp[bp,h1,h2];omega)) rfl|refine y3 ?_|refine y7 ?_ ?_|refine y4 ?_|(refine y9 ?_ ?_<;>intro h)|exact y5|fail)
  ·obtain⟨k,hk⟩:∃ k:Nat,(bs.length:Int)-ru=(k:Int):=⟨((bs.length:Int)-ru).toNat,by omega⟩
   have hcc:=AZ (bs.take k) rs k rs.length (fun k=>[.str (bs.getD k [])]) (fun k=>[.str (rs.getD k [])]) (by rw[List.length_take];omega) rfl (wH bs (by omega)) (jh rs) (by omega) (by omega)
   repeat'(first|exact y0|refine y1 ?_|refine y2 ?_ ?_|(refine y8 ?_ ?_<;>intro h<;>try exact y6)|(refine wC ?_;first|refine wF 94 (bo ha ?_)|refine wF 93 (bo hv ?_))|refine Ex.set 6 (nI k) (VLe.of_eq (congrArg nI hk)) rfl ?_|refine Fin.le (.inl rfl) rfl (fH (by simp[bp,h1,h2];omega)) rfl|refine y3 ?_|refine y7 ?_ ?_|refine y4 ?_|(refine y9 ?_ ?_<;>intro h)|exact y5|fail)
   refine RegX.atCall (CallG.me [3] hcc rfl rfl ⟨VLe.refl _,trivial⟩ ⟨⟨rfl,_,rfl,rfl,fun h=>h⟩,trivial⟩ rfl rfl rfl ?_)
   repeat'(first|exact y0|refine y1 ?_|refine y2 ?_ ?_|(refine y8 ?_ ?_<;>intro h<;>try exact y6)|refine Fin.le (.inl rfl) rfl (js ?_) rfl|refine y3 ?_|refine y7 ?_ ?_|refine y4 ?_|(refine y9 ?_ ?_<;>intro h)|exact y5|fail)
   simp only[bp,h1,h2];rw[if_neg (by simp),if_neg (by simp),if_neg (by omega),hk];rfl
 ·
  have hcl:=vn rs (by omega)
  repeat'(first|exact y0|refine y1 ?_|refine y2 ?_ ?_|(refine y8 ?_ ?_<;>intro h<;>try exact y6)|(refine wC ?_;first|refine wF 94 (bo ha ?_)|refine wF 93 (bo hv ?_)|refine wF 158 (pu hcl ?_))|refine Fin.le (.inl rfl) rfl (js (by simp[bp,h1,h2])) rfl|refine y3 ?_|refine y7 ?_ ?_|refine y4 ?_|(refine y9 ?_ ?_<;>intro h)|exact y5|fail)
theorem zU (b r:Pth):FC Tryz.prog 95 [ptV b,ptV r] 0 [] (psV (bp b r)) 0 []:=s_ b.root b.up b.segs r.root r.up r.segs
theorem B0 {l:List By} {k:Nat} (h:k<=l.length):VLe (.s (.frz (fun i=>[.str (l.getD i [])]) 1 k)) (.s (aJ (l.take k))):=by
 unfold aJ;rw[List.length_take,Nat.min_eq_left h];refine VLe.s (SLe.frz fun i hi=>?_);rw[List.getD_eq_getElem?_getD,List.getD_eq_getElem?_getD,List.getElem?_take,if_pos hi]
def bw (p:Pth):Pth×Bool:=if fM p=false\/p.segs.length=0 then (z0,false) else (⟨true,0,p.segs.take (p.segs.length-1)⟩,true)
theorem qk (br:Bool) (bu:Int) (bs:List By):FC Tryz.prog 96 [.agg [.bool br,.int .i64 bu,aJ bs]] 0 [] (psV (bw ⟨br,bu,bs⟩)) 0 []:=by
 have ha:=tP br bu bs;refine FC.walk (by kernel_rfl) Tryz.func96 rfl rfl ?_
 cases h1:fM ⟨br,bu,bs⟩<;>rw[h1] at ha
 ·
  repeat'(first|exact y0|refine y1 ?_|refine y2 ?_ ?_|(refine y8 ?_ ?_<;>intro h<;>try exact y6)|(refine wC ?_;first|refine wF 94 (bo ha ?_))|refine Fin.le (.inl rfl) rfl (fH (by simp[bw,h1])) rfl|refine y3 ?_|refine y7 ?_ ?_|refine y4 ?_|(refine y9 ?_ ?_<;>intro h)|exact y5|fail)
 obtain⟨a1,a2,a3⟩:=gQ h1;simp only at a1 a2 a3;by_cases h0:bs.length=0
 ·
  repeat'(first|exact y0|refine y1 ?_|refine y2 ?_ ?_|(refine y8 ?_ ?_<;>intro h<;>try exact y6)|(refine wC ?_;first|refine wF 94 (bo ha ?_))|refine Fin.le (.inl rfl) rfl (fH (by simp[bw,h1];simp_all;done)) rfl|refine y3 ?_|refine y7 ?_ ?_|refine y4 ?_|(refine y9 ?_ ?_<;>intro h)|exact y5|fail)
 ·
  have hcl:=vn (bs.take (bs.length-1)) (by rw[List.length_take];omega)
  have hk:(bs.length:Int)-1=((bs.length-1:Nat):Int):=by omega
  repeat'(first|exact y0|refine y1 ?_|refine y2 ?_ ?_|(refine y8 ?_ ?_<;>intro h<;>try exact y6)|(refine wC ?_;first|refine wF 94 (bo ha ?_))|refine y3 ?_|refine y7 ?_ ?_|refine y4 ?_|(refine y9 ?_ ?_<;>intro h)|exact y5|fail)
  refine RegX.chunkN 6 rfl rfl ?_ (RegX.eqv 19 (congrArg nI hk) rfl ?_)
  all_goals
   repeat'(first|exact y0|refine y1 ?_|refine y2 ?_ ?_|(refine y8 ?_ ?_<;>intro h<;>try exact y6)|refine RegX.atCall (CallG.we hcl rfl ⟨B0 (k:=bs.length-1) (by omega),trivial⟩ rfl rfl rfl ?_)|refine Fin.le (.inl rfl) rfl (js ?_) rfl|refine y3 ?_|refine y7 ?_ ?_|refine y4 ?_|(refine y9 ?_ ?_<;>intro h)|exact y5|fail)
  unfold bw;rw[if_neg];simp[h1,h0]
theorem yn (p:Pth):FC Tryz.prog 96 [ptV p] 0 [] (psV (bw p)) 0 []:=qk p.root p.up p.segs
end Go.Proofs.YtegjgpldfgjoiaaGreatDoor
