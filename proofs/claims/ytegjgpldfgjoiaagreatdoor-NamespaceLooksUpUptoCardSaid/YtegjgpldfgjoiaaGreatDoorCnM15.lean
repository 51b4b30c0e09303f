import Derived.Test.YtegjgpldfgjoiaaGreatDoorCnM14
set_option linter.all false
namespace Go.Proofs.YtegjgpldfgjoiaaGreatDoor
open Go Ab
set_option maxRecDepth 100000
set_option maxHeartbeats 40000000
structure Nd where
 op:Int
 int:Int
 str:By
 kids:Int
def ndC (x:Nd):List S:=[.int .i64 x.op,.int .u64 x.int,.str x.str,.int .i64 x.kids]
def dN:Nd:=⟨0,0,[],0⟩
abbrev Ju (x:Nd):V:=.agg (ndC x)
abbrev al (p:List Nd):V:=.s (.frz (λk=>ndC (p.getD k dN)) 4 p.length)
def dh (k:Int):Bool:=decide (65<=k/\k<=90)
theorem Fq (k:Int):FC Tryz.prog 256 [n8 k] 0 [] (bV (dh k)) 0 []:=by
 refine wW Tryz.func256 ?_
 repeat'(first|exact y0|refine y1 ?_|refine y2 ?_ ?_|refine y4 λh=>?_|refine Fin.bool (.inl rfl) rfl ?_|refine y3 ?_|exact y5|fail)
 all_goals (unfold dh;simp;omega)
def AS (cs:Option (List S)) (k:Nat):By×By:=
 match cs with
 |some l=>match l[2*k]?,l[2*k+1]? with|some (.str a),some (.str b)=>(a,b)|_,_=>([],[])
 |none=>([],[])
def cE (op:Int):By×By:=
 if 10<=op/\op<=21 then AS (GS 1) (op-10).toNat
 else if 30<=op/\op<=42 then AS (GS 2) (op-30).toNat
 else if 60<=op/\op<=88 then AS (GS 3) (op-60).toNat
 else if op=50 then ([66,117,102,102,101,114],[105,73])
 else if op=51 then ([80,97,99,107,97,103,101],[105,80])
 else ([],[])
theorem FA (op:Int) (h1: ¬(10<=op/\op<=21)) (h2: ¬(30<=op/\op<=42)) (h3: ¬(60<=op/\op<=88)):FC Tryz.prog 255 [nI op] 0 [] (.agg [.str (cE op).1,.str (cE op).2]) 0 []:=by
 refine wW Tryz.func255 ?_;unfold cE;rw[if_neg h1,if_neg h2,if_neg h3]
 repeat'(first|exact y0|refine y1 ?_|refine y2 ?_ ?_|refine y4 λh=>?_|refine Fin.le (.inl rfl) rfl ?_ rfl|refine y3 ?_|exact y5|fail)
 all_goals first
  |(rw[if_pos (by assumption)];exact VLe.refl _)
  |(rw[if_neg (by assumption),if_pos (by assumption)];exact VLe.refl _)
  |(rw[if_neg (by assumption),if_neg (by assumption)];exact VLe.refl _)
theorem H7 (op:Int) (h:op=10\/op=11\/op=12\/op=13\/op=14\/op=15\/op=16\/op=17\/op=18\/op=19\/op=20\/op=21):FC Tryz.prog 255 [nI op] 0 [] (.agg [.str (cE op).1,.str (cE op).2]) 0 []:=by
 refine wW Tryz.func255 ?_
 rcases h with rfl|rfl|rfl|rfl|rfl|rfl|rfl|rfl|rfl|rfl|rfl|rfl
 all_goals
  repeat'(first|exact y0|refine y1 ?_|refine y2 ?_ ?_|refine y4 λh=>?_|refine Fin.le (.inl rfl) rfl ?_ rfl|exact VLe.refl _|decide|refine y3 ?_|exact y5|fail)
theorem H4 (op:Int) (h:op=30\/op=31\/op=32\/op=33\/op=34\/op=35\/op=36\/op=37\/op=38\/op=39\/op=40\/op=41\/op=42):FC Tryz.prog 255 [nI op] 0 [] (.agg [.str (cE op).1,.str (cE op).2]) 0 []:=by
 refine wW Tryz.func255 ?_
 rcases h with rfl|rfl|rfl|rfl|rfl|rfl|rfl|rfl|rfl|rfl|rfl|rfl|rfl
 all_goals
  repeat'(first|exact y0|refine y1 ?_|refine y2 ?_ ?_|refine y4 λh=>?_|refine Fin.le (.inl rfl) rfl ?_ rfl|exact VLe.refl _|decide|refine y3 ?_|exact y5|fail)
theorem H6 (op:Int) (h:op=60\/op=61\/op=62\/op=63\/op=64\/op=65\/op=66\/op=67\/op=68\/op=69\/op=70\/op=71\/op=72\/op=73\/op=74):FC Tryz.prog 255 [nI op] 0 [] (.agg [.str (cE op).1,.str (cE op).2]) 0 []:=by
 refine wW Tryz.func255 ?_
 rcases h with rfl|rfl|rfl|rfl|rfl|rfl|rfl|rfl|rfl|rfl|rfl|rfl|rfl|rfl|rfl
 all_goals
  repeat'(first|exact y0|refine y1 ?_|refine y2 ?_ ?_|refine y4 λh=>?_|refine Fin.le (.inl rfl) rfl ?_ rfl|exact VLe.refl _|decide|refine y3 ?_|exact y5|fail)
theorem H5 (op:Int) (h:op=75\/op=76\/op=77\/op=78\/op=79\/op=80\/op=81\/op=82\/op=83\/op=84\/op=85\/op=86\/op=87\/op=88):FC Tryz.prog 255 [nI op] 0 [] (.agg [.str (cE op).1,.str (cE op).2]) 0 []:=by
 refine wW Tryz.func255 ?_
 rcases h with rfl|rfl|rfl|rfl|rfl|rfl|rfl|rfl|rfl|rfl|rfl|rfl|rfl|rfl
 all_goals
  repeat'(first|exact y0|refine y1 ?_|refine y2 ?_ ?_|refine y4 λh=>?_|refine Fin.le (.inl rfl) rfl ?_ rfl|exact VLe.refl _|decide|refine y3 ?_|exact y5|fail)
theorem CB (op:Int):FC Tryz.prog 255 [nI op] 0 [] (.agg [.str (cE op).1,.str (cE op).2]) 0 []:=by
 by_cases h1:10<=op/\op<=21
 ·exact H7 op aa
 by_cases h2:30<=op/\op<=42
 ·exact H4 op aa
 by_cases h3:60<=op/\op<=88
 ·by_cases h4:op<=74
  ·exact H6 op aa
  ·exact H5 op aa
 ·exact FA op h1 h2 h3
def e7:By:=[101,101,101,101,101,101,101]
def av (op kids:Int):By×Bool:=
 if op=5 then (if kids<0\/7<kids then ([],false) else (e7.take kids.toNat,true))
 else if op=33 then (if kids<0\/1<kids then ([],false) else (e7.take kids.toNat,true))
 else if op=31/\kids=3 then ([101,83,83],true)
 else ((cE op).2,decide (((cE op).2.length:Int)=kids))
theorem s9 {a:By} {b:Bool} {x:By×Bool} (e:x=(a,b)):V.tup [U.s (S.str a),U.s (S.bool b)]=V.tup [U.s (S.str x.1),U.s (S.bool x.2)]:=by rw[e]
theorem Fe (op int:Int) (str:By) (k:Nat):FC Tryz.prog 224 [.agg [.int .i64 op,.int .u64 int,.str str,.int .i64 (k:Int)]] 0 [] (.tup [.s (.str (av op k).1),.s (.bool (av op k).2)]) 0 []:=by
 refine wW Tryz.func224 ?_
 repeat'(first|exact y0|refine y1 ?_|refine y2 ?_ ?_|refine y4 λh=>?_|refine wX 255 (pu (CB _) ?_)|refine Fin.plain (.inl rfl) rfl ?_ rfl|refine y3 ?_|exact y5|fail)
 all_goals first
  |(show k<=7;omega)
  |exact s9 (by unfold av e7;simp_all<;>omega)
  |exact s9 (by unfold av e7;simp_all;done)
theorem Ff (op int:Int) (str:By) (k:Int) (hk:k<0):FC Tryz.prog 224 [.agg [.int .i64 op,.int .u64 int,.str str,.int .i64 k]] 0 [] (.tup [.s (.str (av op k).1),.s (.bool (av op k).2)]) 0 []:=by
 refine wW Tryz.func224 ?_
 repeat'(first|exact y0|refine y1 ?_|refine y2 ?_ ?_|refine y4 λh=>?_|refine wX 255 (pu (CB _) ?_)|refine Fin.plain (.inl rfl) rfl ?_ rfl|refine y3 ?_|exact y5|fail)
 all_goals first
  |exact s9 (by unfold av e7;simp_all<;>omega)
  |exact s9 (by unfold av e7;simp_all;done)
theorem Fg (x:Nd):FC Tryz.prog 224 [Ju x] 0 [] (.tup [.s (.str (av x.op x.kids).1),.s (.bool (av x.op x.kids).2)]) 0 []:=by
 obtain⟨op,int,str,kids⟩:=x;by_cases h:kids<0
 ·exact Ff op int str kids h
 ·obtain⟨k,rfl⟩:=Z2a (aa:0<=kids)
  exact Fe op int str k
def bP (x:Nd) (k:Int):Bool:=
 (if x.op=1 then true else if x.op=6 then decide (x.int<8) else if x.op=7 then decide (x.int<7) else decide (x.int=0))&&
 (if x.op=3\/x.op=5 then (ah x.str).2&&(decide (k≠115)||zg (ah x.str).1) else if x.op=2 then decide (x.str.length<=255) else decide (x.str=[]))
theorem CH (op int:Int) (str:By) (kids k:Int) (hl:str.length<9223372036854775807):FC Tryz.prog 223 [.agg [.int .i64 op,.int .u64 int,.str str,.int .i64 kids],n8 k] 0 [] (bV (bP ⟨op,int,str,kids⟩ k)) 0 []:=by
 have hpp:=fF str hl;generalize hp:ah str=pp at*;obtain⟨pt,ok⟩:=pp;obtain⟨root,up,segs⟩:=pt;refine wW Tryz.func223 ?_;cases ok
 all_goals
  repeat'(first|exact y0|refine y1 ?_|refine y2 ?_ ?_|refine y4 λh=>?_|refine wX 48 (pu hpp ?_)|refine wX 254 (bo (Ho _ _ _) ?_)|refine Fin.bool (.inl rfl) rfl ?_|refine y3 ?_|exact y5|fail)
 all_goals first
  |(unfold bP;simp_all;done)
  |(unfold bP;simp_all;omega)
theorem uQ (x:Nd) (k:Int) (hl:x.str.length<9223372036854775807):FC Tryz.prog 223 [Ju x,n8 k] 0 [] (bV (bP x k)) 0 []:=CH x.op x.int x.str x.kids k hl
end Go.Proofs.YtegjgpldfgjoiaaGreatDoor
