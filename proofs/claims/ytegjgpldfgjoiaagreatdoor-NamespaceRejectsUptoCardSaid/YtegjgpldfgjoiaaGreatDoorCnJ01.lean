import Derived.Shelf.SlSortCmp.NoneTotal
import Derived.WalkKit
import Derived.Deep.RegionWith
import Derived.Test.YtegjgpldfgjoiaaGreatDoorRows
set_option linter.all false
set_option maxHeartbeats 40000000
namespace Go.Proofs.YtegjgpldfgjoiaaGreatDoor
section
open Go.Shelf Go.RowKit
def Tryz.sortD_ren:Go.Shelf.Ren:=⟨fun|6=>119|15=>133|14=>180|28=>200|29=>201|20=>230|21=>231|22=>232|23=>233|24=>234|25=>235|26=>236|27=>237|46=>257|47=>239|48=>240|49=>258|50=>259|57=>264|n=>n,fun|22=>50|24=>112|25=>188|3=>3|39=>137|0=>0|53=>255|55=>47|4=>4|46=>248|45=>247|50=>43|5=>5|9=>9|66=>282|70=>285|76=>297|77=>298|n=>n,fun|n=>n⟩
theorem Tryz.sortD:Go.Proofs.SlLaysF0.n6 Tryz.prog Tryz.sortD_ren:={
 mixed:=by kernel_rfl
 f6:=⟨Tryz.f119.name,by decide,Tryz.func119.trans (congrArg some (by kernel_rfl))⟩
 f14:=⟨Tryz.f180.name,by decide,Tryz.func180.trans (congrArg some (by kernel_rfl))⟩
 f15:=Tryz.func133.trans (congrArg some (by kernel_rfl))
 f20:=⟨Tryz.f230.name,by decide,Tryz.func230.trans (congrArg some (by kernel_rfl))⟩
 f21:=⟨Tryz.f231.name,by decide,Tryz.func231.trans (congrArg some (by kernel_rfl))⟩
 f22:=⟨Tryz.f232.name,by decide,Tryz.func232.trans (congrArg some (by kernel_rfl))⟩
 f23:=⟨Tryz.f233.name,by decide,Tryz.func233.trans (congrArg some (by kernel_rfl))⟩
 f24:=⟨Tryz.f234.name,by decide,Tryz.func234.trans (congrArg some (by kernel_rfl))⟩
 f25:=⟨Tryz.f235.name,by decide,Tryz.func235.trans (congrArg some (by kernel_rfl))⟩
 f26:=⟨Tryz.f236.name,by decide,Tryz.func236.trans (congrArg some (by kernel_rfl))⟩
 f27:=⟨Tryz.f237.name,by decide,Tryz.func237.trans (congrArg some (by kernel_rfl))⟩
 f28:=Tryz.func200.trans (congrArg some (by kernel_rfl))
 f29:=Tryz.func201.trans (congrArg some (by kernel_rfl))
 f46:=⟨Tryz.f257.name,by decide,Tryz.func257.trans (congrArg some (by kernel_rfl))⟩
 f47:=Tryz.func239.trans (congrArg some (by kernel_rfl))
 f48:=Tryz.func240.trans (congrArg some (by kernel_rfl))
 f49:=⟨Tryz.f258.name,by decide,Tryz.func258.trans (congrArg some (by kernel_rfl))⟩
 f50:=⟨Tryz.f259.name,by decide,Tryz.func259.trans (congrArg some (by kernel_rfl))⟩
 f57:=⟨Tryz.f264.name,by decide,Tryz.func264.trans (congrArg some (by kernel_rfl))⟩
 t0:=Tryz.underlying0
 a0:=Tryz.isAgg0
 z0:=Tryz.sizeOf0
 v0:=Tryz.zeroValue0
 t3:=Tryz.underlying3
 a3:=Tryz.isAgg3
 z3:=Tryz.sizeOf3
 v3:=Tryz.zeroValue3
 t4:=Tryz.underlying4
 a4:=Tryz.isAgg4
 z4:=Tryz.sizeOf4
 v4:=Tryz.zeroValue4
 t5:=Tryz.underlying5
 a5:=Tryz.isAgg5
 z5:=Tryz.sizeOf5
 v5:=Tryz.zeroValue5
 t9:=Tryz.underlying9
 a9:=Tryz.isAgg9
 z9:=Tryz.sizeOf9
 v9:=Tryz.zeroValue9
 t22:=Tryz.underlying50
 a22:=Tryz.isAgg50
 z22:=Tryz.sizeOf50
 v22:=Tryz.zeroValue50
 t25:=Tryz.underlying188
 a25:=Tryz.isAgg188
 z25:=Tryz.sizeOf188
 v25:=Tryz.zeroValue188
 t39:=Tryz.underlying137
 a39:=Tryz.isAgg137
 z39:=Tryz.sizeOf137
 v39:=Tryz.zeroValue137
 t45:=Tryz.underlying247
 a45:=Tryz.isAgg247
 z45:=Tryz.sizeOf247
 v45:=Tryz.zeroValue247
 t46:=Tryz.underlying248
 a46:=Tryz.isAgg248
 z46:=Tryz.sizeOf248
 v46:=Tryz.zeroValue248
 t50:=Tryz.underlying43
 a50:=Tryz.isAgg43
 z50:=Tryz.sizeOf43
 v50:=Tryz.zeroValue43
 t53:=Tryz.underlying255
 a53:=Tryz.isAgg255
 z53:=Tryz.sizeOf255
 v53:=Tryz.zeroValue255
 t55:=Tryz.underlying47
 a55:=Tryz.isAgg47
 z55:=Tryz.sizeOf47
 v55:=Tryz.zeroValue47
 t66:=Tryz.underlying282
 a66:=Tryz.isAgg282
 z66:=Tryz.sizeOf282
 v66:=Tryz.zeroValue282
 t70:=Tryz.underlying285
 a70:=Tryz.isAgg285
 z70:=Tryz.sizeOf285
 v70:=Tryz.zeroValue285
 t76:=Tryz.underlying297
 a76:=Tryz.isAgg297
 z76:=Tryz.sizeOf297
 v76:=Tryz.zeroValue297
 t77:=Tryz.underlying298
 a77:=Tryz.isAgg298
 z77:=Tryz.sizeOf298
 v77:=Tryz.zeroValue298}
end
section
open Go.Shelf Go.RowKit Go.Lib Go.Sort
theorem L4 (z:Int) (W:World):Calls Tryz.prog 181 #[.int .i64 z] W λe w'=>e=.returned (.bool false)/\w'=W:=by
 go_enter Tryz.func181,Tryz.ntmps181
 go_wp2
 go_ret
 exact⟨by simp,rfl⟩
theorem Ck (x y:Int) (W:World):Calls Tryz.prog 122 #[.int .i64 x,.int .i64 y] W λe w'=>e=.returned (.int .i64 (Lib.compareInt x y))/\w'=W:=by
 have hn:=λz W'=>L4 z W'
 go_enter Tryz.func122,Tryz.ntmps122
 by_cases h1:x<y
 ·have hr:Lib.compareInt x y= -1:=by unfold Lib.compareInt;rw[if_pos h1]
  rw[hr]
  go_wp2_with (go_at_call 181;refine (hn _ _).mono ?_;rintro e w' ⟨rfl,rfl⟩)
  go_ret
  exact⟨rfl,rfl⟩
 ·by_cases h2:x>y
  ·have hr:Lib.compareInt x y=1:=by unfold Lib.compareInt;rw[if_neg h1,if_pos h2]
   rw[hr]
   go_wp2_with (go_at_call 181;refine (hn _ _).mono ?_;rintro e w' ⟨rfl,rfl⟩)
   go_ret
   exact⟨rfl,rfl⟩
  ·have hr:Lib.compareInt x y=0:=by unfold Lib.compareInt;rw[if_neg h1,if_neg h2]
   rw[hr]
   go_wp2_with (go_at_call 181;refine (hn _ _).mono ?_;rintro e w' ⟨rfl,rfl⟩)
   go_ret
   exact⟨rfl,rfl⟩
theorem or_c (x y:Int) (W:World) (b:Nat) (h0:W.cell? ⟨b,0,none⟩=some (.int .i64 x)) (h1:W.cell? ⟨b,1,none⟩=some (.int .i64 y)):Calls Tryz.prog 121 #[.slice (some ⟨b,0,none⟩) 2 2] W λe w'=>e=.returned (.int .i64 (if x=0 then y else x))/\w'=W:=by
 go_enter Tryz.func121,Tryz.ntmps121
 go_wp2
 refine wp_loop_rounds 3 ?_;rw[rounds_succ];by_cases hx:x=0
 ·subst hx
  go_wp2
  rw[rounds_succ];by_cases hy:y=0
  ·subst hy
   go_wp2
   rw[rounds_succ]
   go_wp2
   go_ret
   exact⟨rfl,rfl⟩
  ·go_wp2
   go_ret
   exact⟨rfl,rfl⟩
 ·go_wp2
  go_ret
  exact⟨by first|rfl|simp[hx],rfl⟩
def Je (x y:Nat×Nat):Int:=if Lib.compareInt x.1 y.1=0 then Lib.compareInt x.2 y.2 else Lib.compareInt x.1 y.1
def iV (x:Nat×Nat):List Value:=[.int .i64 (x.1:Int),.int .i64 (x.2:Int)]
theorem Jf (W:World) (A B:Obj) (cs:Array Value) (t:TypeId) (j:Nat) (v:Value) (h:cs[j]? =some v):((((W.alloc A).alloc B).alloc (.cells cs t)).drew).cell? ⟨W.heap.size+1+1,j,none⟩=some v:=by
 unfold World.cell?;rw[show ((((W.alloc A).alloc B).alloc (.cells cs t)).drew).heap[W.heap.size+1+1]? =some (.cells cs t) from by show (((W.heap.push A).push B).push (.cells cs t))[W.heap.size+1+1]? =_;rw[Array.getElem?_push];simp];exact h
def Grn (W w':World):Prop:=∃ q os',w'=grow (W.drewN q) os'
theorem Cl (x1 x2 y1 y2:Int) (W:World):Calls Tryz.prog 120 #[.agg #[.int .i64 x1,.int .i64 x2],.agg #[.int .i64 y1,.int .i64 y2]] W λe w'=>e=.returned (.int .i64 (if Lib.compareInt x1 y1=0 then Lib.compareInt x2 y2 else Lib.compareInt x1 y1))/\Grn W w':=by
 have hc:=λa b W'=>Ck a b W'
 obtain⟨v,hv⟩:∃ v:Int,v=if Lib.compareInt x1 y1=0 then Lib.compareInt x2 y2 else Lib.compareInt x1 y1:=⟨_,rfl⟩
 have ho:Calls Tryz.prog 121 #[.slice (some ⟨W.heap.size+1+1,0,none⟩) 2 2] ((((W.alloc (.cells #[.int .i64 x1,.int .i64 x2] 112)).alloc (.cells #[.int .i64 y1,.int .i64 y2] 112)).alloc (.cells #[.int .i64 (Lib.compareInt x1 y1),.int .i64 (Lib.compareInt x2 y2)] 3)).drew) λe w'=>e=.returned (.int .i64 v)/\Grn W w':=by
  rw[hv];refine (or_c (Lib.compareInt x1 y1) (Lib.compareInt x2 y2) _ _ ?_ ?_).mono ?_
  ·exact Jf _ _ _ _ _ 0 _ rfl
  ·exact Jf _ _ _ _ _ 1 _ rfl
  ·rintro e w' ⟨rfl,rfl⟩
   refine⟨rfl,1,#[.cells #[.int .i64 x1,.int .i64 x2] 112,.cells #[.int .i64 y1,.int .i64 y2] 112,.cells #[.int .i64 (Lib.compareInt x1 y1),.int .i64 (Lib.compareInt x2 y2)] 3],?_⟩;simp only[World.alloc,World.drew,World.drewN,grow];congr 1
 rw[<-hv];clear hv
 go_enter Tryz.func120,Tryz.ntmps120
 go_wp2
 go_region_with (first|(go_at_call 122;refine (hc _ _ _).mono ?_;rintro e w' ⟨rfl,rfl⟩)|(go_at_call 121;refine ho.mono ?_;clear ho hc;rintro e w' ⟨rfl,hw⟩))
 all_goals (go_wp2;go_ret;exact⟨rfl,by assumption⟩)
