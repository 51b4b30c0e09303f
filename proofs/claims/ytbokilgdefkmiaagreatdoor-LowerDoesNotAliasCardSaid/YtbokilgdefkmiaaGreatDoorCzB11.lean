import Derived.Test.YtbokilgdefkmiaaGreatDoorCzB10
set_option linter.unusedSimpArgs false
set_option linter.unusedVariables false
namespace Go.Proofs.YtbokilgdefkmiaaGreatDoor
open Go Ab
set_option maxRecDepth 100000
set_option maxHeartbeats 4000000
structure Nd where
 op:Int
 int:Int
 str:By
 kids:Int
def ndC (x:Nd):List S:=[.int .i64 x.op,.int .u64 x.int,.str x.str,.int .i64 x.kids]
def dN:Nd:=⟨0,0,[],0⟩
abbrev ndV (x:Nd):V:=.agg (ndC x)
abbrev nodes (p:List Nd):V:=.s (.frz (fun k=>ndC (p.getD k dN)) 4 p.length)
def isBlkB (k:Int):Bool:=decide (65≤k∧k≤90)
theorem isBlk_c (k:Int):FC Tryz.prog 176 [n8 k] 0 [] (bV (isBlkB k)) 0 []:=by
 refine FC.walk (by kernel_rfl) Tryz.func176 rfl rfl ?_
 repeat'(first|exact y0|refine y1 ?_|refine y2 ?_ ?_|(refine y8 ?_ ?_<;>intro h<;>try exact y6)|refine Fin.bool (.inl rfl) rfl ?_|refine y3 ?_|refine y7 ?_ ?_|refine y4 ?_|(refine y9 ?_ ?_<;>intro h)|exact y5|fail)
 all_goals (unfold isBlkB;simp;omega)
def tabAt (cs:Option (List S)) (k:Nat):By×By:=
 match cs with
 |some l=>match l[2*k]?,l[2*k+1]? with|some (.str a),some (.str b)=>(a,b)|_,_=>([],[])
 |none=>([],[])
def formB (op:Int):By×By:=
 if 10≤op∧op≤21 then tabAt (GS 0) (op-10).toNat
 else if 30≤op∧op≤42 then tabAt (GS 1) (op-30).toNat
 else if 60≤op∧op≤88 then tabAt (GS 2) (op-60).toNat
 else if op=50 then ([66,117,102,102,101,114],[105,73])
 else if op=51 then ([80,97,99,107,97,103,101],[105,80])
 else ([],[])
theorem form_no (op:Int) (h1: ¬(10≤op∧op≤21)) (h2: ¬(30≤op∧op≤42)) (h3: ¬(60≤op∧op≤88)):FC Tryz.prog 175 [nI op] 0 [] (.agg [.str (formB op).1,.str (formB op).2]) 0 []:=by
 refine FC.walk (by kernel_rfl) Tryz.func175 rfl rfl ?_;unfold formB;rw[if_neg h1,if_neg h2,if_neg h3]
 repeat'(first|exact y0|refine y1 ?_|refine y2 ?_ ?_|(refine y8 ?_ ?_<;>intro h<;>try exact y6)|refine Fin.le (.inl rfl) rfl ?_ rfl|refine y3 ?_|refine y7 ?_ ?_|refine y4 ?_|(refine y9 ?_ ?_<;>intro h)|exact y5|fail)
 all_goals first
  |(rw[if_pos (by assumption)];exact VLe.refl _)
  |(rw[if_neg (by assumption),if_pos (by assumption)];exact VLe.refl _)
  |(rw[if_neg (by assumption),if_neg (by assumption)];exact VLe.refl _)
theorem form_d (op:Int) (h:op=10∨op=11∨op=12∨op=13∨op=14∨op=15∨op=16∨op=17∨op=18∨op=19∨op=20∨op=21):FC Tryz.prog 175 [nI op] 0 [] (.agg [.str (formB op).1,.str (formB op).2]) 0 []:=by
 refine FC.walk (by kernel_rfl) Tryz.func175 rfl rfl ?_
 rcases h with rfl|rfl|rfl|rfl|rfl|rfl|rfl|rfl|rfl|rfl|rfl|rfl
 all_goals
  repeat'(first|exact y0|refine y1 ?_|refine y2 ?_ ?_|(refine y8 ?_ ?_<;>intro h<;>try exact y6)|refine Fin.le (.inl rfl) rfl ?_ rfl|exact VLe.refl _|decide|refine y3 ?_|refine y7 ?_ ?_|refine y4 ?_|(refine y9 ?_ ?_<;>intro h)|exact y5|fail)
theorem form_s (op:Int) (h:op=30∨op=31∨op=32∨op=33∨op=34∨op=35∨op=36∨op=37∨op=38∨op=39∨op=40∨op=41∨op=42):FC Tryz.prog 175 [nI op] 0 [] (.agg [.str (formB op).1,.str (formB op).2]) 0 []:=by
 refine FC.walk (by kernel_rfl) Tryz.func175 rfl rfl ?_
 rcases h with rfl|rfl|rfl|rfl|rfl|rfl|rfl|rfl|rfl|rfl|rfl|rfl|rfl
 all_goals
  repeat'(first|exact y0|refine y1 ?_|refine y2 ?_ ?_|(refine y8 ?_ ?_<;>intro h<;>try exact y6)|refine Fin.le (.inl rfl) rfl ?_ rfl|exact VLe.refl _|decide|refine y3 ?_|refine y7 ?_ ?_|refine y4 ?_|(refine y9 ?_ ?_<;>intro h)|exact y5|fail)
theorem form_e (op:Int) (h:op=60∨op=61∨op=62∨op=63∨op=64∨op=65∨op=66∨op=67∨op=68∨op=69∨op=70∨op=71∨op=72∨op=73∨op=74):FC Tryz.prog 175 [nI op] 0 [] (.agg [.str (formB op).1,.str (formB op).2]) 0 []:=by
 refine FC.walk (by kernel_rfl) Tryz.func175 rfl rfl ?_
 rcases h with rfl|rfl|rfl|rfl|rfl|rfl|rfl|rfl|rfl|rfl|rfl|rfl|rfl|rfl|rfl
 all_goals
  repeat'(first|exact y0|refine y1 ?_|refine y2 ?_ ?_|(refine y8 ?_ ?_<;>intro h<;>try exact y6)|refine Fin.le (.inl rfl) rfl ?_ rfl|exact VLe.refl _|decide|refine y3 ?_|refine y7 ?_ ?_|refine y4 ?_|(refine y9 ?_ ?_<;>intro h)|exact y5|fail)
theorem form_f (op:Int) (h:op=75∨op=76∨op=77∨op=78∨op=79∨op=80∨op=81∨op=82∨op=83∨op=84∨op=85∨op=86∨op=87∨op=88):FC Tryz.prog 175 [nI op] 0 [] (.agg [.str (formB op).1,.str (formB op).2]) 0 []:=by
 refine FC.walk (by kernel_rfl) Tryz.func175 rfl rfl ?_
 rcases h with rfl|rfl|rfl|rfl|rfl|rfl|rfl|rfl|rfl|rfl|rfl|rfl|rfl|rfl
 all_goals
  repeat'(first|exact y0|refine y1 ?_|refine y2 ?_ ?_|(refine y8 ?_ ?_<;>intro h<;>try exact y6)|refine Fin.le (.inl rfl) rfl ?_ rfl|exact VLe.refl _|decide|refine y3 ?_|refine y7 ?_ ?_|refine y4 ?_|(refine y9 ?_ ?_<;>intro h)|exact y5|fail)
theorem form_c (op:Int):FC Tryz.prog 175 [nI op] 0 [] (.agg [.str (formB op).1,.str (formB op).2]) 0 []:=by
 by_cases h1:10≤op∧op≤21
 ·exact form_d op (by omega)
 by_cases h2:30≤op∧op≤42
 ·exact form_s op (by omega)
 by_cases h3:60≤op∧op≤88
 ·by_cases h4:op≤74
  ·exact form_e op (by omega)
  ·exact form_f op (by omega)
 ·exact form_no op h1 h2 h3
def e7:By:=[101,101,101,101,101,101,101]
def kindsB (op kids:Int):By×Bool:=
 if op=5 then (if kids<0∨7<kids then ([],false) else (e7.take kids.toNat,true))
 else if op=33 then (if kids<0∨1<kids then ([],false) else (e7.take kids.toNat,true))
 else if op=31∧kids=3 then ([101,83,83],true)
 else ((formB op).2,decide (((formB op).2.length:Int)=kids))
theorem tupk {a:By} {b:Bool} {x:By×Bool} (e:x=(a,b)):V.tup [U.s (S.str a),U.s (S.bool b)]=V.tup [U.s (S.str x.1),U.s (S.bool x.2)]:=by rw[e]
theorem kinds_p (op int:Int) (str:By) (k:Nat):FC Tryz.prog 136 [.agg [.int .i64 op,.int .u64 int,.str str,.int .i64 (k:Int)]] 0 [] (.tup [.s (.str (kindsB op k).1),.s (.bool (kindsB op k).2)]) 0 []:=by
 refine FC.walk (by kernel_rfl) Tryz.func136 rfl rfl ?_
 repeat'(first|exact y0|refine y1 ?_|refine y2 ?_ ?_|(refine y8 ?_ ?_<;>intro h<;>try exact y6)|(refine wC ?_;first|refine wF 175 (pu (form_c _) ?_))|refine Fin.plain (.inl rfl) rfl ?_ rfl|refine y3 ?_|refine y7 ?_ ?_|refine y4 ?_|(refine y9 ?_ ?_<;>intro h)|exact y5|fail)
 all_goals first
  |(show k≤7;omega)
  |exact tupk (by unfold kindsB e7;simp_all<;>omega)
  |exact tupk (by unfold kindsB e7;simp_all;done)
theorem kinds_n (op int:Int) (str:By) (k:Int) (hk:k<0):FC Tryz.prog 136 [.agg [.int .i64 op,.int .u64 int,.str str,.int .i64 k]] 0 [] (.tup [.s (.str (kindsB op k).1),.s (.bool (kindsB op k).2)]) 0 []:=by
 refine FC.walk (by kernel_rfl) Tryz.func136 rfl rfl ?_
 repeat'(first|exact y0|refine y1 ?_|refine y2 ?_ ?_|(refine y8 ?_ ?_<;>intro h<;>try exact y6)|(refine wC ?_;first|refine wF 175 (pu (form_c _) ?_))|refine Fin.plain (.inl rfl) rfl ?_ rfl|refine y3 ?_|refine y7 ?_ ?_|refine y4 ?_|(refine y9 ?_ ?_<;>intro h)|exact y5|fail)
 all_goals first
  |exact tupk (by unfold kindsB e7;simp_all<;>omega)
  |exact tupk (by unfold kindsB e7;simp_all;done)
theorem kinds_c (x:Nd):FC Tryz.prog 136 [ndV x] 0 [] (.tup [.s (.str (kindsB x.op x.kids).1),.s (.bool (kindsB x.op x.kids).2)]) 0 []:=by
 obtain⟨op,int,str,kids⟩:=x;by_cases h:kids<0
 ·exact kinds_n op int str kids h
 ·obtain⟨k,rfl⟩:=Int.eq_ofNat_of_zero_le (by omega:0≤kids)
  exact kinds_p op int str k
def fieldsB (x:Nd) (k:Int):Bool:=
 (if x.op=1 then true else if x.op=6 then decide (x.int<8) else if x.op=7 then decide (x.int<7) else decide (x.int=0))&&
 (if x.op=3∨x.op=5 then (parseP x.str).2&&(decide (k≠115)||sglP (parseP x.str).1) else if x.op=2 then decide (x.str.length≤255) else decide (x.str=[]))
theorem fields_u (op int:Int) (str:By) (kids k:Int) (hl:str.length<9223372036854775807):FC Tryz.prog 135 [.agg [.int .i64 op,.int .u64 int,.str str,.int .i64 kids],n8 k] 0 [] (bV (fieldsB ⟨op,int,str,kids⟩ k)) 0 []:=by
 have hpp:=parseP_c str hl;generalize hp:parseP str=pp at*;obtain⟨pt,ok⟩:=pp;obtain⟨root,up,segs⟩:=pt;refine FC.walk (by kernel_rfl) Tryz.func135 rfl rfl ?_;cases ok
 all_goals
  repeat'(first|exact y0|refine y1 ?_|refine y2 ?_ ?_|(refine y8 ?_ ?_<;>intro h<;>try exact y6)|(refine wC ?_;first|refine wF 144 (pu hpp ?_)|refine wF 174 (bo (sglP_u _ _ _) ?_))|refine Fin.bool (.inl rfl) rfl ?_|refine y3 ?_|refine y7 ?_ ?_|refine y4 ?_|(refine y9 ?_ ?_<;>intro h)|exact y5|fail)
 all_goals first
  |(unfold fieldsB;simp_all;done)
  |(unfold fieldsB;simp_all;omega)
theorem fields_c (x:Nd) (k:Int) (hl:x.str.length<9223372036854775807):FC Tryz.prog 135 [ndV x,n8 k] 0 [] (bV (fieldsB x k)) 0 []:=fields_u x.op x.int x.str x.kids k hl
set_option maxRecDepth 100000
set_option maxHeartbeats 4000000
def blockF (rec:Nat→Option Nat):Nat→Nat→Option Nat
 |0,e=>some e
 |k+1,e=>match rec e with|some e'=>blockF rec k e'|none=>none
def kidsF (ch:Int→Nat→Option Nat):By→Nat→Option Nat
 |[],e=>some e
 |k::ks,e=>match ch (k.toNat:Int) e with|some e'=>kidsF ch ks e'|none=>none
def childF (p:List Nd) (ok:Bool) (E0 E1:Nat→Int→Option Nat) (k:Int) (i:Nat):Option Nat:=
 if isBlkB k then
  (match p[i]? with
  |none=>none
  |some y=>if ok=true∧y.op=4∧y.int=0∧y.str=[]∧0≤y.kids then blockF (fun e=>E1 e k) y.kids.toNat (i+1) else none)
 else E0 i k
def elemS (p:List Nd) (ok:Bool) (E0 E1:Nat→Int→Option Nat) (i:Nat) (k:Int):Option Nat:=
 match p[i]? with
 |none=>none
 |some x=>if accB k x.op=true∧fieldsB x k=true∧(kindsB x.op x.kids).2=true then kidsF (childF p ok E0 E1) (kindsB x.op x.kids).1 (i+1) else none
def elemF (p:List Nd):Nat→Nat→Int→Option Nat
 |0,_,_=>none
 |1,i,k=>elemS p false (fun _ _=>none) (fun _ _=>none) i k
 |f+2,i,k=>elemS p true (elemF p (f+1)) (elemF p f) i k
theorem elemF_succ (p:List Nd) (f:Nat):elemF p (f+1)=elemS p (decide (1≤f)) (elemF p f) (elemF p (f-1)):=by
 cases f with
 |zero=>funext i k;simp only[elemF];congr 1
 |succ f=>funext i k;simp only[elemF];congr 1
theorem blockF_le {rec:Nat→Option Nat} {N:Nat} (h:∀ i e,rec i=some e→i<e∧e≤N):∀ {k i e:Nat},i≤N→blockF rec k i=some e→i+k≤e∧e≤N
 |0,i,e,hi,he=>by simp[blockF] at he;omega
 |k+1,i,e,hi,he=>by
  simp only[blockF] at he;split at he
  ·rename_i e' h'
   have h1:=h _ _ h';have:=blockF_le h h1.2 he;omega
  ·cases he
theorem kidsF_le {ch:Int→Nat→Option Nat} {N:Nat} (h:∀ k i e,ch k i=some e→i<e∧e≤N):∀ {ks:By} {i e:Nat},i≤N→kidsF ch ks i=some e→i+ks.length≤e∧e≤N
 |[],i,e,hi,he=>by simp[kidsF] at he;simp;omega
 |k::ks,i,e,hi,he=>by
  simp only[kidsF] at he;split at he
  ·rename_i e' h'
   have h1:=h _ _ _ h';have:=kidsF_le h h1.2 he;simp only[List.length_cons];omega
  ·cases he
theorem childF_le {p:List Nd} {ok:Bool} {E0 E1:Nat→Int→Option Nat} (h0:∀ i k e,E0 i k=some e→i<e∧e≤p.length) (h1:∀ i k e,E1 i k=some e→i<e∧e≤p.length) {k:Int} {i e:Nat} (h:childF p ok E0 E1 k i=some e):i<e∧e≤p.length:=by
 unfold childF at h;split at h
 ·split at h
  ·cases h
  ·rename_i y hy
   have hi:i<p.length:=by
    rcases Nat.lt_or_ge i p.length with h|h
    ·exact h
    ·simp[List.getElem?_eq_none h] at hy
   split at h
   ·have:=blockF_le (fun i e=>h1 i k e) (by omega) h
    omega
   ·cases h
 ·exact h0 _ _ _ h
theorem elemS_le {p:List Nd} {ok:Bool} {E0 E1:Nat→Int→Option Nat} (h0:∀ i k e,E0 i k=some e→i<e∧e≤p.length) (h1:∀ i k e,E1 i k=some e→i<e∧e≤p.length) {k:Int} {i e:Nat} (h:elemS p ok E0 E1 i k=some e):i<e∧e≤p.length:=by
 unfold elemS at h;split at h
 ·cases h
 ·rename_i x hx
  have hi:i<p.length:=by
   rcases Nat.lt_or_ge i p.length with h|h
   ·exact h
   ·simp[List.getElem?_eq_none h] at hx
  split at h
  ·have:=kidsF_le (fun k i e h=>childF_le h0 h1 h) (by omega) h
   omega
  ·cases h
theorem elemF_le {p:List Nd}:∀ {f i:Nat} {k:Int} {e:Nat},elemF p f i k=some e→i<e∧e≤p.length
 |0,_,_,_,h=>by cases h
 |1,i,k,e,h=>elemS_le (fun _ _ _ h=>by cases h) (fun _ _ _ h=>by cases h) h
 |f+2,i,k,e,h=>elemS_le (fun i k e h=>elemF_le (f:=f+1) h) (fun i k e h=>elemF_le (f:=f) h) h
abbrev resE (o:Option Nat):V:=.tup [.s (.int .i64 ((o.getD 0:Nat):Int)),.s (.bool o.isSome)]
def wfN (p:List Nd):Prop:=∀ x∈p,x.str.length<9223372036854775807
theorem wf_get {p:List Nd} (h:wfN p) (i:Nat):(p.getD i dN).str.length<9223372036854775807:=by
 rw[List.getD_eq_getElem?_getD]
 cases e:p[i]? with
 |none=>simp[dN]
 |some x=>exact h x (List.mem_of_getElem? e)
def ElemC (p:List Nd) (f:Nat):Prop:=∀ (i:Nat) (k d:Int),d=33-(f:Int)→i≤p.length→FC Tryz.prog 86 [nodes p,nI i,n8 k,nI d] 0 [] (resE (elemF p f i k)) 0 []
def ChildC (p:List Nd) (f:Nat):Prop:=∀ (i:Nat) (k d:Int),d=33-(f:Int)→i≤p.length→FC Tryz.prog 137 [nodes p,nI i,n8 k,nI d] 0 [] (resE (childF p (decide (1≤f)) (elemF p f) (elemF p (f-1)) k i)) 0 []
theorem elem_0 (p:List Nd):ElemC p 0:=by
 intro i k d hd hi;refine FC.walk (by kernel_rfl) Tryz.func86 rfl rfl ?_
 repeat'(first|exact y0|refine y1 ?_|refine y2 ?_ ?_|(refine y8 ?_ ?_<;>intro h<;>try exact y6)|refine Fin.plain (.inl rfl) rfl ?_ rfl|refine y3 ?_|refine y7 ?_ ?_|refine y4 ?_|(refine y9 ?_ ?_<;>intro h)|exact y5|fail)
 all_goals rfl
theorem elem_s (p:List Nd) (hp:p.length≤2048) (hw:wfN p) (f:Nat) (hf:f≤32) (hc:ChildC p f):ElemC p (f+1):=by
 intro i k d hd hi;rw[elemF_succ];refine FC.walk (by kernel_rfl) Tryz.func86 rfl rfl ?_;by_cases hlt:i<p.length
 ·have hget:p[i]? =some (p.getD i dN):=by simp[List.getD_eq_getElem?_getD,hlt]
  unfold elemS;rw[hget];simp only;have hwx:=wf_get hw i;have hkc:=kinds_c (p.getD i dN);generalize kindsB (p.getD i dN).op (p.getD i dN).kids=kb at*;obtain⟨ks,ok⟩:=kb;simp only at hkc ⊢;cases ok
  ·
   repeat'(first|exact y0|refine y1 ?_|refine y2 ?_ ?_|(refine y8 ?_ ?_<;>intro h<;>try exact y6)|(refine wC ?_;first|refine wF 134 (bo (acc_c _ _) ?_)|refine wF 135 (bo (fields_c (p.getD i dN) _ hwx) ?_)|refine wF 136 (pu hkc ?_))|refine Fin.plain (.inl rfl) rfl ?_ rfl|refine y3 ?_|refine y7 ?_ ?_|refine y4 ?_|(refine y9 ?_ ?_<;>intro h)|exact y5|fail)
   all_goals simp_all
  ·
   repeat'(first|exact y0|refine y1 ?_|refine y2 ?_ ?_|(refine y8 ?_ ?_<;>intro h<;>try exact y6)|(refine wC ?_;first|refine wF 134 (bo (acc_c _ _) ?_)|refine wF 135 (bo (fields_c (p.getD i dN) _ hwx) ?_)|refine wF 136 (pu hkc ?_))|refine Fin.plain (.inl rfl) rfl ?_ rfl|exact (show resE none=_ from (congrArg resE (if_neg (by simp_all))).symm)|refine y3 ?_|refine y7 ?_ ?_|refine y4 ?_|(refine y9 ?_ ?_<;>intro h)|exact y5|fail)
   ·rw[if_pos ⟨‹accB k _=true›,‹fieldsB _ k=true›,rfl⟩]
    refine Ex.inv (σ:=Nat×Nat) (fun x=>[(49,nI x.1),(13,nI x.2)]) (fun x=>[]) (fun x=>(x.1≤ks.length∧i+1+x.1≤x.2)∧x.2≤p.length∧kidsF (childF p (decide (1≤f)) (elemF p f) (elemF p (f-1))) ks (i+1)=kidsF (childF p (decide (1≤f)) (elemF p f) (elemF p (f-1))) (ks.drop x.1) x.2) (fun x=>ks.length-x.1) (0,i+1) rfl (fun _=>rfl) ⟨⟨Nat.zero_le _,Nat.le_refl _⟩,hlt,rfl⟩ ⟨VLe.refl _,VLe.refl _,trivial⟩ trivial ?_;rintro⟨j,e⟩ ⟨⟨h1,h0⟩,h2,h3⟩;simp only at h1 h2 h3 h0 ⊢;by_cases hj:j<ks.length
    ·rw[List.drop_eq_getElem_cons hj] at h3
     have hkg:ks[j]=ks.getD j 0:=by simp[List.getD_eq_getElem?_getD,hj]
     rw[hkg] at h3;simp only[kidsF] at h3;have hch:=hc e ((ks.getD j 0).toNat:Int) (d+1) (by omega) h2
     have hle:=fun e' (h:childF p (decide (1≤f)) (elemF p f) (elemF p (f-1)) ((ks.getD j 0).toNat:Int) e=some e')=>childF_le (fun i k e h=>elemF_le h) (fun i k e h=>elemF_le h) h
     generalize childF p (decide (1≤f)) (elemF p f) (elemF p (f-1)) ((ks.getD j 0).toNat:Int) e=r at*
     cases r with
     |none=>
      simp only at h3;rw[h3]
      repeat'(first|exact y0|refine y1 ?_|refine y2 ?_ ?_|(refine y8 ?_ ?_<;>intro h<;>try exact y6)|(refine wC ?_;first|refine wF 137 (pu hch ?_))|refine Fin.plain (.inl rfl) rfl ?_ rfl|refine y3 ?_|refine y7 ?_ ?_|refine y4 ?_|(refine y9 ?_ ?_<;>intro h)|exact y5|fail)
     |some e'=>
      simp only at h3;have:=hle e' rfl
      repeat'(first|exact y0|refine y1 ?_|refine y2 ?_ ?_|(refine y8 ?_ ?_<;>intro h<;>try exact y6)|(refine wC ?_;first|refine wF 137 (pu hch ?_))|refine Fin.plain (.inl rfl) rfl ?_ rfl|refine LoopR.same (j+1,e') ⟨⟨?_,?_⟩,?_,h3⟩ ?_ rfl ⟨VLe.refl _,VLe.refl _,trivial⟩ trivial rfl rfl (by decide)|refine y3 ?_|refine y7 ?_ ?_|refine y4 ?_|(refine y9 ?_ ?_<;>intro h)|exact y5|fail)
    ·
     have:ks.drop j=[]:=by simp;omega
     rw[this] at h3;simp only[kidsF] at h3;rw[h3]
     repeat'(first|exact y0|refine y1 ?_|refine y2 ?_ ?_|(refine y8 ?_ ?_<;>intro h<;>try exact y6)|refine Fin.plain (.inl rfl) rfl ?_ rfl|refine y3 ?_|refine y7 ?_ ?_|refine y4 ?_|(refine y9 ?_ ?_<;>intro h)|exact y5|fail)
 ·
  have hget:p[i]? =none:=by simp;omega
  unfold elemS;rw[hget]
  repeat'(first|exact y0|refine y1 ?_|refine y2 ?_ ?_|(refine y8 ?_ ?_<;>intro h<;>try exact y6)|refine Fin.plain (.inl rfl) rfl ?_ rfl|refine y3 ?_|refine y7 ?_ ?_|refine y4 ?_|(refine y9 ?_ ?_<;>intro h)|exact y5|fail)
  all_goals rfl
theorem child_c (p:List Nd) (hp:p.length≤2048) (f:Nat) (hf:f≤32) (h0:ElemC p f) (h1:1≤f→ElemC p (f-1)):ChildC p f:=by
 intro i k d hd hi;unfold childF;refine FC.walk (by kernel_rfl) Tryz.func137 rfl rfl ?_;have hbk:=isBlk_c k;have he:=h0 i k d hd hi
 cases hb:isBlkB k with
 |false=>
  rw[hb] at hbk;simp only[Bool.false_eq_true,if_false];generalize elemF p f i k=r at*
  repeat'(first|exact y0|refine y1 ?_|refine y2 ?_ ?_|(refine y8 ?_ ?_<;>intro h<;>try exact y6)|(refine wC ?_;first|refine wF 176 (bo hbk ?_)|refine wF 86 (pu he ?_))|refine Fin.plain (.inl rfl) rfl ?_ rfl|refine y3 ?_|refine y7 ?_ ?_|refine y4 ?_|(refine y9 ?_ ?_<;>intro h)|exact y5|fail)
  all_goals rfl
 |true=>
  rw[hb] at hbk;simp only[if_true];by_cases hlt:i<p.length
  ·
   have hget:p[i]? =some (p.getD i dN):=by simp[List.getD_eq_getElem?_getD,hlt]
   rw[hget];simp only
   repeat'(first|exact y0|refine y1 ?_|refine y2 ?_ ?_|(refine y8 ?_ ?_<;>intro h<;>try exact y6)|(refine wC ?_;first|refine wF 176 (bo hbk ?_))|refine Fin.plain (.inl rfl) rfl ?_ rfl|exact (show resE none=_ from (congrArg resE (if_neg (by simp_all<;>omega))).symm)|refine y3 ?_|refine y7 ?_ ?_|refine y4 ?_|(refine y9 ?_ ?_<;>intro h)|exact y5|fail)
   ·have hk0:0≤(p.getD i dN).kids:=by omega
    have h1f:1≤f:=by omega
    have hE:=h1 h1f;have hx:(p.getD i dN).str=[]:=‹_›;rw[if_pos ⟨decide_eq_true h1f,by assumption,by assumption,hx,hk0⟩];generalize hK:(p.getD i dN).kids.toNat=K at*;refine Ex.inv (σ:=Nat×Nat) (fun x=>[(58,nI x.1),(11,nI x.2)]) (fun x=>[]) (fun x=>(x.1≤K∧i+1+x.1≤x.2)∧x.2≤p.length∧blockF (fun e=>elemF p (f-1) e k) K (i+1)=blockF (fun e=>elemF p (f-1) e k) (K-x.1) x.2) (fun x=>K-x.1) (0,i+1) rfl (fun _=>rfl) ⟨⟨Nat.zero_le _,Nat.le_refl _⟩,hlt,rfl⟩ ⟨VLe.refl _,VLe.refl _,trivial⟩ trivial ?_;rintro⟨j,e⟩ ⟨⟨g1,g0⟩,g2,g3⟩;simp only at g1 g2 g3 g0 ⊢;by_cases hj:j<K
    ·rw[show K-j=(K-(j+1))+1 by omega] at g3
     simp only[blockF] at g3;have hch:=hE e k (d+1) (by omega) g2
     have hle:=fun e' (h:elemF p (f-1) e k=some e')=>elemF_le h
     generalize elemF p (f-1) e k=r at*
     cases r with
     |none=>
      simp only at g3;rw[g3]
      repeat'(first|exact y0|refine y1 ?_|refine y2 ?_ ?_|(refine y8 ?_ ?_<;>intro h<;>try exact y6)|(refine wC ?_;first|refine wF 86 (pu hch ?_))|refine Fin.plain (.inl rfl) rfl ?_ rfl|refine y3 ?_|refine y7 ?_ ?_|refine y4 ?_|(refine y9 ?_ ?_<;>intro h)|exact y5|fail)
     |some e'=>
      simp only at g3;have:=hle e' rfl
      repeat'(first|exact y0|refine y1 ?_|refine y2 ?_ ?_|(refine y8 ?_ ?_<;>intro h<;>try exact y6)|(refine wC ?_;first|refine wF 86 (pu hch ?_))|refine Fin.plain (.inl rfl) rfl ?_ rfl|refine LoopR.same (j+1,e') ⟨⟨?_,?_⟩,?_,g3⟩ ?_ rfl ⟨VLe.refl _,VLe.refl _,trivial⟩ trivial rfl rfl (by decide)|refine y3 ?_|refine y7 ?_ ?_|refine y4 ?_|(refine y9 ?_ ?_<;>intro h)|exact y5|fail)
    ·
     rw[show K-j=0 by omega] at g3;simp only[blockF] at g3;rw[g3]
     repeat'(first|exact y0|refine y1 ?_|refine y2 ?_ ?_|(refine y8 ?_ ?_<;>intro h<;>try exact y6)|refine Fin.plain (.inl rfl) rfl ?_ rfl|refine y3 ?_|refine y7 ?_ ?_|refine y4 ?_|(refine y9 ?_ ?_<;>intro h)|exact y5|fail)
  ·
   have hget:p[i]? =none:=by simp;omega
   rw[hget]
   repeat'(first|exact y0|refine y1 ?_|refine y2 ?_ ?_|(refine y8 ?_ ?_<;>intro h<;>try exact y6)|(refine wC ?_;first|refine wF 176 (bo hbk ?_))|refine Fin.plain (.inl rfl) rfl ?_ rfl|refine y3 ?_|refine y7 ?_ ?_|refine y4 ?_|(refine y9 ?_ ?_<;>intro h)|exact y5|fail)
   all_goals rfl
theorem elem_all (p:List Nd) (hp:p.length≤2048) (hw:wfN p):∀ f,f≤33→ElemC p f:=by
 intro f
 induction f using Nat.strongRecOn with
 |_ f ih=>
  intro hf
  cases f with
  |zero=>exact elem_0 p
  |succ f=>exact elem_s p hp hw f (by omega) (child_c p hp f (by omega) (ih f (by omega) (by omega)) fun _=>ih (f-1) (by omega) (by omega))
def topF (p:List Nd):Nat→Nat→Bool
 |0,_=>false
 |n+1,i=>if i<p.length then (match elemF p 32 i 68 with|some e=>topF p n e|none=>false) else true
def validN (p:List Nd):Bool:=decide (p.length≤2048)&&topF p (p.length+1) 0
theorem validN_c (p:List Nd) (hw:wfN p):FC Tryz.prog 55 [nodes p] 0 [] (bV (validN p)) 0 []:=by
 unfold validN;refine FC.walk (by kernel_rfl) Tryz.func55 rfl rfl ?_;by_cases hp:p.length≤2048
 ·
  rw[decide_eq_true hp,Bool.true_and]
  repeat'(first|exact y0|refine y1 ?_|refine y2 ?_ ?_|(refine y8 ?_ ?_<;>intro h<;>try exact y6)|refine Fin.bool (.inl rfl) rfl ?_|refine y3 ?_|refine y7 ?_ ?_|refine y4 ?_|(refine y9 ?_ ?_<;>intro h)|exact y5|fail)
  generalize hT:topF p (p.length+1) 0=T;refine Ex.inv (σ:=Nat×Nat) (fun x=>[(3,nI x.2)]) (fun x=>[]) (fun x=>x.1≤x.2∧x.2≤p.length∧T=topF p (p.length+1-x.1) x.2) (fun x=>p.length-x.2) (0,0) rfl (fun _=>rfl) ⟨Nat.le_refl _,Nat.zero_le _,hT.symm⟩ ⟨VLe.refl _,trivial⟩ trivial ?_;clear hT;rintro⟨j,i⟩ ⟨h1,h2,h3⟩;simp only at h1 h2 h3 ⊢;rw[show p.length+1-j=(p.length-j)+1 by omega] at h3;simp only[topF] at h3;by_cases hlt:i<p.length
  ·rw[if_pos hlt] at h3
   have hch:=elem_all p hp hw 32 (by decide) i 68 1 (by decide) h2
   have hle:=fun e' (h:elemF p 32 i 68=some e')=>elemF_le h
   generalize elemF p 32 i 68=r at*
   cases r with
   |none=>
    simp only at h3
    repeat'(first|exact y0|refine y1 ?_|refine y2 ?_ ?_|(refine y8 ?_ ?_<;>intro h<;>try exact y6)|(refine wC ?_;first|refine wF 86 (pu hch ?_))|refine Fin.bool (.inl rfl) rfl ?_|refine y3 ?_|refine y7 ?_ ?_|refine y4 ?_|(refine y9 ?_ ?_<;>intro h)|exact y5|fail)
    all_goals exact h3.symm
   |some e'=>
    simp only at h3;have:=hle e' rfl
    repeat'(first|exact y0|refine y1 ?_|refine y2 ?_ ?_|(refine y8 ?_ ?_<;>intro h<;>try exact y6)|(refine wC ?_;first|refine wF 86 (pu hch ?_))|refine Fin.bool (.inl rfl) rfl ?_|refine LoopR.same (j+1,e') ⟨?_,?_,?_⟩ ?_ rfl ⟨VLe.refl _,trivial⟩ trivial rfl rfl (by decide)|refine y3 ?_|refine y7 ?_ ?_|refine y4 ?_|(refine y9 ?_ ?_<;>intro h)|exact y5|fail)
    all_goals (rw[h3];congr 1;omega)
  ·
   rw[if_neg hlt] at h3
   repeat'(first|exact y0|refine y1 ?_|refine y2 ?_ ?_|(refine y8 ?_ ?_<;>intro h<;>try exact y6)|refine Fin.bool (.inl rfl) rfl ?_|refine y3 ?_|refine y7 ?_ ?_|refine y4 ?_|(refine y9 ?_ ?_<;>intro h)|exact y5|fail)
   all_goals exact h3.symm
 ·
  rw[decide_eq_false hp,Bool.false_and]
  repeat'(first|exact y0|refine y1 ?_|refine y2 ?_ ?_|(refine y8 ?_ ?_<;>intro h<;>try exact y6)|refine Fin.bool (.inl rfl) rfl ?_|refine y3 ?_|refine y7 ?_ ?_|refine y4 ?_|(refine y9 ?_ ?_<;>intro h)|exact y5|fail)
  all_goals rfl
end Go.Proofs.YtbokilgdefkmiaaGreatDoor
