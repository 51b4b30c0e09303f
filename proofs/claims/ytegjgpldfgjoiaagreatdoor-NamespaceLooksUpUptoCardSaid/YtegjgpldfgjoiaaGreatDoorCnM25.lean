import Derived.Test.YtegjgpldfgjoiaaGreatDoorCnM24
import Derived.Test.YtegjgpldfgjoiaaGreatDoorCnM15
set_option linter.all false
namespace Go.Proofs.YtegjgpldfgjoiaaGreatDoor
open Go Ab
set_option maxRecDepth 100000
set_option maxHeartbeats 40000000
def tG (op:Int):List Rw->Rw×Bool
 |[]=>(dR,false)
 |r::t=>if r.1=op then (r,true) else tG op t
def nR (op:Int):Rw×Bool:=tG op rowsL
theorem qY (op:Int):FC Tryz.prog 145 [nI op] 0 [] (.tup [.agg (vz (nR op).1),.s (.bool (nR op).2)]) 0 []:=by
 refine wW Tryz.func145 ?_;have hl:rowsL.length=56:=rfl;unfold nR;generalize hR:tG op rowsL=R
 repeat'(first|exact y0|refine y1 ?_|refine y2 ?_ ?_|refine y4 λh=>?_|refine wX 210 (pu Bi ?_)|refine y3 ?_|exact y5|fail)
 generalize rowsL=rl at*;refine Ex.inv (σ:=Nat) (λj=>[(5,nI j)]) (λ_=>[(0,some {cells:=[.int .i64 0,.str [],.str []],ty:=207})]) (λj=>j<=56/\tG op (rl.drop j)=R) (λj=>56-j) 0 rfl (λ_=>rfl) ⟨Z08 _,hR⟩ aV ⟨rfl,trivial⟩ ?_;rintro j ⟨hj,hI⟩;by_cases h:j<56
 ·have hd:rl.drop j=rl.getD j dR::rl.drop (j+1):=by
   rw[Z0k aa,Z00,Z01 aa];rfl
  rw[hd] at hI;simp only[tG] at hI;by_cases ho:(rl.getD j dR).1=op
  ·rw[if_pos ho] at hI
   subst hI
   repeat'(first|exact y0|refine y1 ?_|refine y2 ?_ ?_|refine y4 λh=>?_|refine Fin.plain (.inl rfl) rfl ?_ rfl|refine y3 ?_|exact y5|fail)
   all_goals rfl
  ·rw[if_neg ho] at hI
   repeat'(first|exact y0|refine y1 ?_|refine y2 ?_ ?_|refine y4 λh=>?_|refine y3 ?_|exact y5|fail)
   refine LoopR.same (j+1) ⟨aa,hI⟩ aa rfl aV ⟨rfl,trivial⟩ rfl rfl ac
 ·rw[Z10 aa] at hI
  subst hI
  repeat'(first|exact y0|refine y1 ?_|refine y2 ?_ ?_|refine y4 λh=>?_|refine Fin.plain (.inl rfl) rfl ?_ rfl|refine y3 ?_|exact y5|fail)
  all_goals rfl
def eg (op kids:Int):By×Bool:=
 if op=1\/op=2\/op=3\/op=6\/op=7 then ([],decide (kids=0))
 else if op=5 then (if kids<0\/7<kids then ([],false) else (e7.take kids.toNat,true))
 else if op=31/\kids=3 then ([101,83,83],true)
 else if op=33/\kids=1 then ([101],true)
 else ((nR op).1.2.2,(nR op).2&&decide (((nR op).1.2.2.length:Int)=kids))
theorem Ck (op:Int) (k:Nat):FC Tryz.prog 149 [nI op,nI (k:Int)] 0 [] (.tup [.s (.str (eg op k).1),.s (.bool (eg op k).2)]) 0 []:=by
 refine wW Tryz.func149 ?_;have hr:=qY op;unfold eg;generalize nR op=R at*;obtain⟨⟨o,wd,kd⟩,ok⟩:=R;cases ok
 all_goals
  repeat'(first|exact y0|refine y1 ?_|refine y2 ?_ ?_|refine y4 λh=>?_|refine wX 145 (pu hr ?_)|refine Fin.plain (.inl rfl) rfl ?_ rfl|refine y3 ?_|exact y5|fail)
  all_goals first
   |(show k<=7;omega)
   |exact s9 (by unfold e7;simp_all<;>omega)
   |exact s9 (by unfold e7;simp_all;done)
theorem Cl (op:Int) (k:Int) (hk:k<0):FC Tryz.prog 149 [nI op,nI k] 0 [] (.tup [.s (.str (eg op k).1),.s (.bool (eg op k).2)]) 0 []:=by
 refine wW Tryz.func149 ?_;have hr:=qY op;unfold eg;generalize nR op=R at*;obtain⟨⟨o,wd,kd⟩,ok⟩:=R;cases ok
 all_goals
  repeat'(first|exact y0|refine y1 ?_|refine y2 ?_ ?_|refine y4 λh=>?_|refine wX 145 (pu hr ?_)|refine Fin.plain (.inl rfl) rfl ?_ rfl|refine y3 ?_|exact y5|fail)
  all_goals first
   |exact s9 (by unfold e7;simp_all<;>omega)
   |exact s9 (by unfold e7;simp_all;done)
theorem Cm (op k:Int):FC Tryz.prog 149 [nI op,nI k] 0 [] (.tup [.s (.str (eg op k).1),.s (.bool (eg op k).2)]) 0 []:=by
 by_cases h:k<0
 ·exact Cl op k h
 ·obtain⟨n,rfl⟩:=Z2a (aa:0<=k)
  exact Ck op n
theorem zU (op int:Int) (str:By) (kids k:Int) (hl:str.length<=4398046511104):FC Tryz.prog 150 [.agg [.int .i64 op,.int .u64 int,.str str,.int .i64 kids],n8 k] 0 [] (bV (bP ⟨op,int,str,kids⟩ k)) 0 []:=by
 have hpp:=dU str hl;have hsg:=th str aa
 have hkey:∀ p,ah str=(p,true)->aI p=str/\zg p=aT str/\ay p=true:=λp h=>⟨ql h,ED h,iH h⟩
 generalize hp:ah str=pp at*;obtain⟨pt,ok⟩:=pp;refine wW Tryz.func150 ?_;cases ok
 ·
  obtain⟨root,up,segs⟩:=pt
  repeat'(first|exact y0|refine y1 ?_|refine y2 ?_ ?_|refine y4 λh=>?_|refine wX 51 (pu hpp ?_)|refine Fin.bool (.inl rfl) rfl ?_|refine y3 ?_|exact y5|fail)
  all_goals first
   |(unfold bP;simp_all;done)
   |(unfold bP;simp_all;omega)
 ·
  obtain⟨k1,k2,k3⟩:=hkey pt rfl
  have hso:cR pt.segs:=λi hi=>by
   have:=lB (aJ k3).2.2.2.2.1 hi;omega
  have hfm:=jQ pt hso;rw[k1] at hfm;obtain⟨root,up,segs⟩:=pt
  cases hsb:aT str<;>rw[hsb] at hsg
  all_goals
   repeat'(first|exact y0|refine y1 ?_|refine y2 ?_ ?_|refine y4 λh=>?_|refine wX 51 (pu hpp ?_)|refine wX 54 (pu hfm ?_)|refine wX 138 (bo hsg ?_)|refine Fin.bool (.inl rfl) rfl ?_|refine y3 ?_|exact y5|fail)
   all_goals first
    |(unfold bP;simp_all;done)
    |(unfold bP;simp_all;omega)
theorem zV (x:Nd) (k:Int) (hl:x.str.length<=4398046511104):FC Tryz.prog 150 [Ju x,n8 k] 0 [] (bV (bP x k)) 0 []:=zU x.op x.int x.str x.kids k hl
end Go.Proofs.YtegjgpldfgjoiaaGreatDoor
