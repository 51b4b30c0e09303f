import Derived.Test.YtegjgpldfgjoiaaGreatDoorCnD15
set_option linter.all false
set_option maxHeartbeats 40000000
set_option maxRecDepth 100000
namespace Go.Proofs.YtegjgpldfgjoiaaGreatDoor
open Go Ab
theorem mX (k op:Int):FQ 87 [n8 k,nI op] 0 [] (bV (bn k op)) 0 []:=by
 by_cases hd:op=1\/op=2\/op=50\/op=51
 ·rcases hd with rfl|rfl|rfl|rfl
  all_goals
   refine wW Tryz.func87 ?_
   repeat'(first|refine y1 ?_|refine y2 ?_ ?_|refine y4 λh=>?_|refine cJ (.inl rfl) rfl ?_|refine y3 ?_|exact y5|fail)
  all_goals simp[bn,cl,cV,fy, *]
 ·have hdb:cl op=false:=by simp[cl];omega
  refine wW Tryz.func87 ?_
  repeat'(first|refine y1 ?_|refine y2 ?_ ?_|refine y4 λh=>?_|refine cJ (.inl rfl) rfl ?_|refine y3 ?_|exact y5|fail)
  all_goals (simp[bn,cV,fy, *];done)
def qM (k:Int):Bool:=decide (k=68)||decide (k=83)||decide (k=70)||decide (k=73)||decide (k=80)
theorem qL (k:Int):FQ 148 [n8 k] 0 [] (bV (qM k)) 0 []:=by
 refine wW Tryz.func148 ?_
 repeat'(first|refine y1 ?_|refine y2 ?_ ?_|refine y4 λh=>?_|refine cJ (.inl rfl) rfl ?_|refine y3 ?_|exact y5|fail)
 all_goals simp[qM, *]
