import Derived.Test.YtegjgpldfgjoiaaGreatDoorCnJ13
set_option linter.all false
set_option maxHeartbeats 40000000
set_option maxRecDepth 100000
namespace Go.Proofs.YtegjgpldfgjoiaaGreatDoor
open Go Ab
theorem pH (k op:Int):FQ 87 [n8 k,nI op] 0 [] (bV (bH k op)) 0 []:=by
 by_cases hd:op=1\/op=2\/op=50\/op=51
 ·rcases hd with rfl|rfl|rfl|rfl
  all_goals
   refine wW Tryz.func87 ?_
   repeat'(first|refine y1 ?_|refine y2 ?_ ?_|refine y4 λh=>?_|refine cL (.inl rfl) rfl ?_|refine y3 ?_|exact y5|fail)
  all_goals simp[bH,cJ,dy,gK, *]
 ·have hdb:cJ op=false:=by simp[cJ];omega
  refine wW Tryz.func87 ?_
  repeat'(first|refine y1 ?_|refine y2 ?_ ?_|refine y4 λh=>?_|refine cL (.inl rfl) rfl ?_|refine y3 ?_|exact y5|fail)
  all_goals (simp[bH,dy,gK, *];done)
def uu (k:Int):Bool:=decide (k=68)||decide (k=83)||decide (k=70)||decide (k=73)||decide (k=80)
theorem ut (k:Int):FQ 148 [n8 k] 0 [] (bV (uu k)) 0 []:=by
 refine wW Tryz.func148 ?_
 repeat'(first|refine y1 ?_|refine y2 ?_ ?_|refine y4 λh=>?_|refine cL (.inl rfl) rfl ?_|refine y3 ?_|exact y5|fail)
 all_goals simp[uu, *]
