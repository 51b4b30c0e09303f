import Derived.Test.YtegjgpldfgjoiaaGreatDoorCnM30
import Derived.Test.YtegjgpldfgjoiaaGreatDoorCnM35
set_option linter.all false
namespace Go.Proofs.YtegjgpldfgjoiaaGreatDoor
open Go Ab
set_option maxRecDepth 100000
set_option maxHeartbeats 40000000
def uf (O:List Ro):List Pth->Option Int
 |[]=>none
 |c::t=>if 0<=pv (aI c) O then some (pv (aI c) O) else uf O t
def dA (O:List Ro) (s nm:By):Option Int:=if (ah s).2=true/\(ah nm).2=true/\(ah s).1.root=true then uf O (aL (ah s).1 (ah nm).1) else none
theorem wn (O:List Ro) (nt nl:Nat) (nx nh:Int) (s nm:By) (hs:s.length<=4398046511104) (hn:nm.length<=4398046511104) (hO:O.length<=100000) (h0:0<O.length):
 FC Tryz.prog 21 [.s (.ptr (some (0,0))),sV s,sV nm] 7 (Bf O nt nl nx nh) (.tup [.s (.int .i64 ((dA O s nm).getD 0)),.s (.bool (dA O s nm).isSome)]) 7 (Bf O nt nl nx nh):=by
 have h1:=dU s hs;have h2:=dU nm hn;have hso1:=de s;have hso2:=de nm;unfold dA;generalize ah s=r1 at*;generalize ah nm=r2 at*;obtain⟨q1,ok1⟩:=r1;obtain⟨q2,ok2⟩:=r2;refine wW Tryz.func21 ?_;cases ok1
 ·
  repeat'(first|exact y0|refine y1 ?_|refine y2 ?_ ?_|refine y4 λh=>?_|refine wX 51 (pu h1 ?_)|refine wX 51 (pu h2 ?_)|refine y3 ?_|exact y5|fail)
  all_goals exact bh
 cases ok2
 ·
  repeat'(first|exact y0|refine y1 ?_|refine y2 ?_ ?_|refine y4 λh=>?_|refine wX 51 (pu h1 ?_)|refine wX 51 (pu h2 ?_)|refine y3 ?_|exact y5|fail)
  all_goals exact bh
 obtain⟨root,up,segs⟩:=q1;cases root
 ·
  repeat'(first|exact y0|refine y1 ?_|refine y2 ?_ ?_|refine y4 λh=>?_|refine wX 51 (pu h1 ?_)|refine wX 51 (pu h2 ?_)|refine y3 ?_|exact y5|fail)
  all_goals exact bh
 simp only[and_self,if_true];have hcd:=yE ⟨true,up,segs⟩ q2 hso1 hso2
 have hcl:(aL ⟨true,up,segs⟩ q2).length<=2000000000:=by
  unfold aL;split
  ·simp
  ·rename_i h
   split
   ·split<;>simp
   ·have:=fv segs (q2.segs.headD []) segs.length
    have hb:bz ⟨true,up,segs⟩=true:=by cases hq:bz ⟨true,up,segs⟩<;>simp_all
    have:=(cH hb).2.2;simp only at this |-;omega
 have hsc:=λc=> @nP ⟨true,up,segs⟩ q2 c
 generalize aL ⟨true,up,segs⟩ q2=cs at*
 repeat'(first|exact y0|refine y1 ?_|refine y2 ?_ ?_|refine y4 λh=>?_|refine wX 51 (pu h1 ?_)|refine wX 51 (pu h2 ?_)|refine wX 52 (pu hcd ?_)|refine y3 ?_|exact y5|fail)
 refine Ex.inv (σ:=Nat) (λj=>[(13,nI j)]) (λj=>Bf O nt nl nx nh) (λj=>j<=cs.length/\uf O (cs.drop j)=uf O cs) (λj=>cs.length-j) 0 rfl (λ_=>rfl) ⟨Z08 _,rfl⟩ aV ⟨rfl,rfl,trivial⟩ ?_;rintro j ⟨j1,j2⟩;by_cases h:j<cs.length
 ·have hd:cs.drop j=cs.getD j z0::cs.drop (j+1):=by
   rw[Z0k h,Z00,Z01 h];rfl
  rw[hd,uf] at j2
  have hmem:cs.getD j z0∈cs:=by rw[Z00,Z01 h];exact Z0s _
  have hf:=jQ (cs.getD j z0) (hsc _ hmem);have hat:=Ix O nt nl nx nh (aI (cs.getD j z0)) hO h0;generalize pv (aI (cs.getD j z0)) O=w at*;by_cases ho:0<=w
  ·rw[if_pos ho] at j2
   repeat'(first|exact y0|refine y1 ?_|refine y2 ?_ ?_|refine y4 λh=>?_|refine wX 54 (pu hf ?_)|refine wX 53 (cf [0,1,2,3,4,5,6] hat ?_)|refine y3 ?_|exact y5|fail)
   rw[<-j2];exact bh
  ·rw[if_neg ho] at j2
   repeat'(first|exact y0|refine y1 ?_|refine y2 ?_ ?_|refine y4 λh=>?_|refine wX 54 (pu hf ?_)|refine wX 53 (cf [0,1,2,3,4,5,6] hat ?_)|refine y3 ?_|exact y5|fail)
   all_goals try exact y7
   exact LoopR.same (j+1) ⟨aa,j2⟩ aa rfl aV ⟨rfl,rfl,trivial⟩ rfl rfl ac
 ·rw[Z10 aa,uf] at j2
  rw[<-j2]
  repeat'(first|exact y0|refine y1 ?_|refine y2 ?_ ?_|refine y4 λh=>?_|refine y3 ?_|exact y5|fail)
  all_goals exact bh
end Go.Proofs.YtegjgpldfgjoiaaGreatDoor
