import Derived.Test.YtegjgpldfgjoiaaGreatDoorCnM16
set_option linter.all false
namespace Go.Proofs.YtegjgpldfgjoiaaGreatDoor
open Go Ab
set_option maxRecDepth 100000
set_option maxHeartbeats 40000000
theorem nX (k op:Int):FC Tryz.prog 87 [n8 k,nI op] 0 [] (bV (bn k op)) 0 []:=by
 by_cases hd:op=1\/op=2\/op=50\/op=51
 ·rcases hd with rfl|rfl|rfl|rfl
  all_goals
   refine wW Tryz.func87 ?_
   repeat'(first|exact y0|refine y1 ?_|refine y2 ?_ ?_|refine y4 λh=>?_|refine Fin.bool (.inl rfl) rfl ?_|refine y3 ?_|exact y5|fail)
  all_goals simp[bn,bN,cx,fh, *]
 ·have hdb:bN op=false:=by simp[bN];omega
  refine wW Tryz.func87 ?_
  repeat'(first|exact y0|refine y1 ?_|refine y2 ?_ ?_|refine y4 λh=>?_|refine Fin.bool (.inl rfl) rfl ?_|refine y3 ?_|exact y5|fail)
  all_goals first
   |omega
   |(simp[bn,cx,fh, *];done)
   |(simp[bn,cx,fh, *];omega)
def sx (k:Int):Bool:=decide (k=68)||decide (k=83)||decide (k=70)||decide (k=73)||decide (k=80)
theorem sw (k:Int):FC Tryz.prog 148 [n8 k] 0 [] (bV (sx k)) 0 []:=by
 refine wW Tryz.func148 ?_
 repeat'(first|exact y0|refine y1 ?_|refine y2 ?_ ?_|refine y4 λh=>?_|refine Fin.bool (.inl rfl) rfl ?_|refine y3 ?_|exact y5|fail)
 all_goals simp[sx, *]
end Go.Proofs.YtegjgpldfgjoiaaGreatDoor
