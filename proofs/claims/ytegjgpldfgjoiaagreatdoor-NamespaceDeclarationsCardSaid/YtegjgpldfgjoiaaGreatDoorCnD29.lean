import Derived.Test.YtegjgpldfgjoiaaGreatDoorCnD26
set_option linter.all false
set_option maxHeartbeats 40000000
set_option maxRecDepth 100000
namespace Go.Proofs.YtegjgpldfgjoiaaGreatDoor
open Go Ab
def rQ (op:Int):List Rw->Rw×Bool
 |[]=>(dR,false)
 |r::t=>if r.1=op then (r,true) else rQ op t
def mT (op:Int):Rw×Bool:=rQ op rowsL
theorem pT (op:Int):FQ 145 [nI op] 0 [] (.tup [.agg (tU (mT op).1),.s (.bool (mT op).2)]) 0 []:=by
 refine wW Tryz.func145 ?_;have hl:rowsL.length=56:=rfl;unfold mT;generalize hR:rQ op rowsL=R
 repeat'(first|refine yA ?_|refine y2 ?_ ?_|refine an zk ?_|exact y5|fail)
 generalize rowsL=rl at*;refine cD (σ:=Nat) (λj=>[(5,nI j)]) (λ_=>[(0,some {cells:=[.int .i64 0,.str [],.str []],ty:=207})]) (λj=>j<=56/\rQ op (rl.drop j)=R) (λj=>56-j) 0 rfl (λ_=>rfl) ⟨Z08 _,hR⟩ bc ⟨rfl,trivial⟩ ?_;rintro j ⟨hj,hI⟩;by_cases h:j<56
 ·have hd:rl.drop j=rl.getD j dR::rl.drop (j+1):=by
   rw[Z0k aa,Z00,Z01 aa];rfl
  rw[hd] at hI;simp only[rQ] at hI;by_cases ho:(rl.getD j dR).1=op
  ·rw[if_pos ho] at hI
   subst hI
   repeat'(first|refine y1 ?_|refine y2 ?_ ?_|refine y4 λh=>?_|refine g_ (.inl rfl) rfl ?_ rfl|refine y3 ?_|exact y5|fail)
  ·rw[if_neg ho] at hI
   repeat'(first|refine yA ?_|refine y2 ?_ ?_|refine y4 λh=>?_|exact y5|fail)
   refine dT (j+1) ⟨aa,hI⟩ aa rfl bc ⟨rfl,trivial⟩ rfl rfl ac
 ·rw[Z10 aa] at hI
  subst hI
  repeat'(first|refine y1 ?_|refine y2 ?_ ?_|refine y4 λh=>?_|refine g_ (.inl rfl) rfl ?_ rfl|refine y3 ?_|exact y5|fail)
def d7 (op kids:Int):By×Bool:=
 if op=1\/op=2\/op=3\/op=6\/op=7 then ([],decide (kids=0))
 else if op=5 then (if kids<0\/7<kids then ([],false) else (e7.take kids.toNat,true))
 else if op=31/\kids=3 then ([101,83,83],true)
 else if op=33/\kids=1 then ([101],true)
 else ((mT op).1.2.2,(mT op).2&&decide (((mT op).1.2.2.length:Int)=kids))
theorem Av (op:Int) (k:Nat):FQ 149 [nI op,nI (k:Int)] 0 [] (.tup [.s (.str (d7 op k).1),.s (.bool (d7 op k).2)]) 0 []:=by
 refine wW Tryz.func149 ?_;have hr:=pT op;unfold d7;generalize mT op=R at*;obtain⟨⟨o,wd,kd⟩,ok⟩:=R;cases ok
 all_goals
  repeat'(first|refine y1 ?_|refine y2 ?_ ?_|refine y4 λh=>?_|refine an hr ?_|refine g_ (.inl rfl) rfl ?_ rfl|refine y3 ?_|exact y5|fail)
  all_goals first
   |(show k<=7;omega)
   |exact CH (by unfold e7;simp_all<;>omega)
theorem Aw (op:Int) (k:Int) (hk:k<0):FQ 149 [nI op,nI k] 0 [] (.tup [.s (.str (d7 op k).1),.s (.bool (d7 op k).2)]) 0 []:=by
 refine wW Tryz.func149 ?_;have hr:=pT op;unfold d7;generalize mT op=R at*;obtain⟨⟨o,wd,kd⟩,ok⟩:=R;cases ok
 all_goals
  repeat'(first|refine y1 ?_|refine y2 ?_ ?_|refine y4 λh=>?_|refine an hr ?_|refine g_ (.inl rfl) rfl ?_ rfl|refine y3 ?_|exact y5|fail)
  all_goals exact CH (by unfold e7;simp_all<;>omega)
theorem Ax (op k:Int):FQ 149 [nI op,nI k] 0 [] (.tup [.s (.str (d7 op k).1),.s (.bool (d7 op k).2)]) 0 []:=by
 by_cases h:k<0
 ·exact Aw op k h
 ·obtain⟨n,rfl⟩:=Z2a (aa:0<=k)
  exact Av op n
theorem xY (op int:Int) (str:By) (kids k:Int) (hl:str.length<=4398046511104):FQ 150 [.agg [.int .i64 op,.int .u64 int,.str str,.int .i64 kids],n8 k] 0 [] (bV (bM ⟨op,int,str,kids⟩ k)) 0 []:=by
 have hpp:=io str hl;have hsg:=rz str aa
 have hkey:∀ p,ak str=(p,true)->aH p=str/\ud p=aN str/\aA p=true:=λp h=>⟨pf h,CR h,im h⟩
 generalize hp:ak str=pp at*;obtain⟨pt,ok⟩:=pp;refine wW Tryz.func150 ?_;cases ok
 ·
  obtain⟨root,up,segs⟩:=pt
  repeat'(first|refine y1 ?_|refine y2 ?_ ?_|refine y4 λh=>?_|refine an hpp ?_|refine cJ (.inl rfl) rfl ?_|refine y3 ?_|exact y5|fail)
  all_goals first
   |(unfold bM;simp_all;done)
   |(unfold bM;simp_all;omega)
 ·
  obtain⟨k1,k2,k3⟩:=hkey pt rfl
  have hso:dW pt.segs:=λi hi=>by
   have:=kW (aG k3).2.2.2.2.1 hi;omega
  have hfm:=uR pt hso;rw[k1] at hfm;obtain⟨root,up,segs⟩:=pt
  cases hsb:aN str<;>rw[hsb] at hsg
  all_goals
   repeat'(first|refine y1 ?_|refine y2 ?_ ?_|refine y4 λh=>?_|refine an hpp ?_|refine an hfm ?_|refine bt hsg ?_|refine cJ (.inl rfl) rfl ?_|refine y3 ?_|exact y5|fail)
   all_goals first
    |(unfold bM;simp_all;done)
    |(unfold bM;simp_all;omega)
theorem xZ (x:Nd) (k:Int) (hl:x.str.length<=4398046511104):FQ 150 [HF x,n8 k] 0 [] (bV (bM x k)) 0 []:=xY x.op x.int x.str x.kids k hl
