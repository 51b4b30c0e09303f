import Derived.Test.YtegjgpldfgjoiaaGreatDoorCnM10
import Derived.Test.YtegjgpldfgjoiaaGreatDoorRows
import Derived.KernelRfl
set_option linter.all false
namespace Go.Proofs.YtegjgpldfgjoiaaGreatDoor
open Go Ab
set_option maxRecDepth 100000
set_option maxHeartbeats 40000000
theorem hm:Tryz.prog.follows .mixedOrders=true:=by decide+kernel
abbrev By:=List UInt8
abbrev nI (z:Int):V:=.s (.int .i64 z)
abbrev n8 (z:Int):V:=.s (.int .u8 z)
abbrev bV (b:Bool):V:=.s (.bool b)
abbrev sV (s:By):V:=.s (.str s)
def bN (op:Int):Bool:=decide (op=1)||decide (op=2)||decide (op=50)||decide (op=51)
def cx (op:Int):Bool:=decide (op=18)||decide (op=19)
def fh (op:Int):Bool:=decide (op=3)||decide (op=5)||decide (op=6)||decide (op=7)||decide (op=41)||decide (op=42)||bN op||(decide (60<=op)&&decide (op<=88))
def bn (k op:Int):Bool:=
 if k=110\/k=115 then decide (op=3)
 else if k=105\/k=73 then decide (op=1)
 else if k=101 then fh op
 else if k=116 then decide (op=3)||decide (op=6)||decide (op=7)||decide (op=76)||decide (op=84)
 else if k=100 then bN op
 else if k=80 then bN op||decide (op=3)
 else if k=68 then decide (10<=op)&&decide (op<=21)&& !cx op
 else if k=70 then cx op
 else if k=83 then (decide (30<=op)&&decide (op<=42))||decide (op=5)
 else false
theorem Cr (op:Int):FC Tryz.prog 253 [nI op] 0 [] (bV (cx op)) 0 []:=by
 refine wW Tryz.func253 ?_
 repeat'(first|exact y0|refine y1 ?_|refine y2 ?_ ?_|refine y4 λh=>?_|refine Fin.bool (.inl rfl) rfl ?_|refine y3 ?_|exact y5|fail)
 all_goals simp[cx, *]
theorem ux (op:Int):FC Tryz.prog 252 [nI op] 0 [] (bV (bN op)) 0 []:=by
 refine wW Tryz.func252 ?_
 repeat'(first|exact y0|refine y1 ?_|refine y2 ?_ ?_|refine y4 λh=>?_|refine Fin.bool (.inl rfl) rfl ?_|refine y3 ?_|exact y5|fail)
 all_goals simp[bN, *]
theorem Cq (op:Int):FC Tryz.prog 251 [nI op] 0 [] (bV (fh op)) 0 []:=by
 refine wW Tryz.func251 ?_
 repeat'(first|exact y0|refine y1 ?_|refine y2 ?_ ?_|refine y4 λh=>?_|refine wX 252 (bo (ux _) ?_)|refine Fin.bool (.inl rfl) rfl ?_|refine y3 ?_|exact y5|fail)
 all_goals simp[fh, *]
 all_goals try omega
theorem G8 (k op:Int):FC Tryz.prog 222 [n8 k,nI op] 0 [] (bV (bn k op)) 0 []:=by
 refine wW Tryz.func222 ?_
 repeat'(first|exact y0|refine y1 ?_|refine y2 ?_ ?_|refine y4 λh=>?_|refine wX 252 (bo (ux _) ?_)|refine wX 251 (bo (Cq _) ?_)|refine wX 253 (bo (Cr _) ?_)|refine Fin.bool (.inl rfl) rfl ?_|refine y3 ?_|exact y5|fail)
 all_goals simp[bn, *]
end Go.Proofs.YtegjgpldfgjoiaaGreatDoor
