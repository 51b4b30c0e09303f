import Derived.Shelf.SlSortCmp.NoneTotal
import Derived.WalkKit
import Derived.Deep.RegionWith
import Derived.Test.YtphdhedhhlfepaaGreatDoorRows
set_option linter.unusedSimpArgs false
set_option linter.unusedVariables false
namespace Go.Proofs.YtphdhedhhlfepaaGreatDoor
open Go.Shelf Go.RowKit
def Tryz.sortD_ren:Go.Shelf.Ren:=⟨fun|6=>41|15=>65|14=>64|28=>114|29=>115|20=>106|21=>107|22=>108|23=>109|24=>110|25=>111|26=>112|27=>113|46=>153|47=>154|48=>155|49=>156|50=>157|57=>173|n=>n,fun|22=>37|24=>42|25=>75|3=>3|39=>63|0=>0|53=>147|55=>28|4=>4|46=>141|45=>140|50=>100|5=>5|9=>9|66=>175|70=>178|76=>198|77=>199|n=>n,fun|n=>n⟩
theorem Tryz.sortD:Go.Proofs.SlLaysF0.n6 Tryz.prog Tryz.sortD_ren:={
 mixed:=by kernel_rfl
 f6:=⟨Tryz.f41.name,by decide,Tryz.func41.trans (congrArg some (by kernel_rfl))⟩
 f14:=⟨Tryz.f64.name,by decide,Tryz.func64.trans (congrArg some (by kernel_rfl))⟩
 f15:=Tryz.func65.trans (congrArg some (by kernel_rfl))
 f20:=⟨Tryz.f106.name,by decide,Tryz.func106.trans (congrArg some (by kernel_rfl))⟩
 f21:=⟨Tryz.f107.name,by decide,Tryz.func107.trans (congrArg some (by kernel_rfl))⟩
 f22:=⟨Tryz.f108.name,by decide,Tryz.func108.trans (congrArg some (by kernel_rfl))⟩
 f23:=⟨Tryz.f109.name,by decide,Tryz.func109.trans (congrArg some (by kernel_rfl))⟩
 f24:=⟨Tryz.f110.name,by decide,Tryz.func110.trans (congrArg some (by kernel_rfl))⟩
 f25:=⟨Tryz.f111.name,by decide,Tryz.func111.trans (congrArg some (by kernel_rfl))⟩
 f26:=⟨Tryz.f112.name,by decide,Tryz.func112.trans (congrArg some (by kernel_rfl))⟩
 f27:=⟨Tryz.f113.name,by decide,Tryz.func113.trans (congrArg some (by kernel_rfl))⟩
 f28:=Tryz.func114.trans (congrArg some (by kernel_rfl))
 f29:=Tryz.func115.trans (congrArg some (by kernel_rfl))
 f46:=⟨Tryz.f153.name,by decide,Tryz.func153.trans (congrArg some (by kernel_rfl))⟩
 f47:=Tryz.func154.trans (congrArg some (by kernel_rfl))
 f48:=Tryz.func155.trans (congrArg some (by kernel_rfl))
 f49:=⟨Tryz.f156.name,by decide,Tryz.func156.trans (congrArg some (by kernel_rfl))⟩
 f50:=⟨Tryz.f157.name,by decide,Tryz.func157.trans (congrArg some (by kernel_rfl))⟩
 f57:=⟨Tryz.f173.name,by decide,Tryz.func173.trans (congrArg some (by kernel_rfl))⟩
 t0:=Tryz.underlying0
 a0:=Tryz.isAgg0
 z0:=Tryz.sizeOf0
 v0:=Tryz.zeroValue0
 t3:=Tryz.underlying3
 a3:=Tryz.isAgg3
 z3:=Tryz.sizeOf3
 v3:=Tryz.zeroValue3
 t4:=Tryz.underlying4
 a4:=Tryz.isAgg4
 z4:=Tryz.sizeOf4
 v4:=Tryz.zeroValue4
 t5:=Tryz.underlying5
 a5:=Tryz.isAgg5
 z5:=Tryz.sizeOf5
 v5:=Tryz.zeroValue5
 t9:=Tryz.underlying9
 a9:=Tryz.isAgg9
 z9:=Tryz.sizeOf9
 v9:=Tryz.zeroValue9
 t22:=Tryz.underlying37
 a22:=Tryz.isAgg37
 z22:=Tryz.sizeOf37
 v22:=Tryz.zeroValue37
 t25:=Tryz.underlying75
 a25:=Tryz.isAgg75
 z25:=Tryz.sizeOf75
 v25:=Tryz.zeroValue75
 t39:=Tryz.underlying63
 a39:=Tryz.isAgg63
 z39:=Tryz.sizeOf63
 v39:=Tryz.zeroValue63
 t45:=Tryz.underlying140
 a45:=Tryz.isAgg140
 z45:=Tryz.sizeOf140
 v45:=Tryz.zeroValue140
 t46:=Tryz.underlying141
 a46:=Tryz.isAgg141
 z46:=Tryz.sizeOf141
 v46:=Tryz.zeroValue141
 t50:=Tryz.underlying100
 a50:=Tryz.isAgg100
 z50:=Tryz.sizeOf100
 v50:=Tryz.zeroValue100
 t53:=Tryz.underlying147
 a53:=Tryz.isAgg147
 z53:=Tryz.sizeOf147
 v53:=Tryz.zeroValue147
 t55:=Tryz.underlying28
 a55:=Tryz.isAgg28
 z55:=Tryz.sizeOf28
 v55:=Tryz.zeroValue28
 t66:=Tryz.underlying175
 a66:=Tryz.isAgg175
 z66:=Tryz.sizeOf175
 v66:=Tryz.zeroValue175
 t70:=Tryz.underlying178
 a70:=Tryz.isAgg178
 z70:=Tryz.sizeOf178
 v70:=Tryz.zeroValue178
 t76:=Tryz.underlying198
 a76:=Tryz.isAgg198
 z76:=Tryz.sizeOf198
 v76:=Tryz.zeroValue198
 t77:=Tryz.underlying199
 a77:=Tryz.isAgg199
 z77:=Tryz.sizeOf199
 v77:=Tryz.zeroValue199}
end Go.Proofs.YtphdhedhhlfepaaGreatDoor
namespace Go.Proofs.YtphdhedhhlfepaaGreatDoor
open Go.Shelf Go.RowKit Go.Lib Go.Sort
set_option maxHeartbeats 1000000
theorem nan_c (z:Int) (W:World):Calls Tryz.prog 66 #[.int .i64 z] W fun e w'=>e=.returned (.bool false)∧w'=W:=by
 go_enter Tryz.func66,Tryz.ntmps66
 go_wp2
 go_ret
 exact⟨by simp,rfl⟩
theorem compare_c (x y:Int) (W:World):Calls Tryz.prog 44 #[.int .i64 x,.int .i64 y] W fun e w'=>e=.returned (.int .i64 (Lib.compareInt x y))∧w'=W:=by
 have hn:=fun z W'=>nan_c z W'
 go_enter Tryz.func44,Tryz.ntmps44
 by_cases h1:x<y
 ·have hr:Lib.compareInt x y= -1:=by unfold Lib.compareInt;rw[if_pos h1]
  rw[hr]
  go_wp2_with (go_at_call 66;refine (hn _ _).mono ?_;rintro e w' ⟨rfl,rfl⟩)
  go_ret
  exact⟨rfl,rfl⟩
 ·by_cases h2:x>y
  ·have hr:Lib.compareInt x y=1:=by unfold Lib.compareInt;rw[if_neg h1,if_pos h2]
   rw[hr]
   go_wp2_with (go_at_call 66;refine (hn _ _).mono ?_;rintro e w' ⟨rfl,rfl⟩)
   go_ret
   exact⟨rfl,rfl⟩
  ·have hr:Lib.compareInt x y=0:=by unfold Lib.compareInt;rw[if_neg h1,if_neg h2]
   rw[hr]
   go_wp2_with (go_at_call 66;refine (hn _ _).mono ?_;rintro e w' ⟨rfl,rfl⟩)
   go_ret
   exact⟨rfl,rfl⟩
theorem or_c (x y:Int) (W:World) (b:Nat) (h0:W.cell? ⟨b,0,none⟩=some (.int .i64 x)) (h1:W.cell? ⟨b,1,none⟩=some (.int .i64 y)):Calls Tryz.prog 43 #[.slice (some ⟨b,0,none⟩) 2 2] W fun e w'=>e=.returned (.int .i64 (if x=0 then y else x))∧w'=W:=by
 go_enter Tryz.func43,Tryz.ntmps43
 go_wp2
 refine wp_loop_rounds 3 ?_;rw[rounds_succ];by_cases hx:x=0
 ·subst hx
  go_wp2
  rw[rounds_succ];by_cases hy:y=0
  ·subst hy
   go_wp2
   rw[rounds_succ]
   go_wp2
   go_ret
   exact⟨rfl,rfl⟩
  ·go_wp2
   go_ret
   exact⟨rfl,rfl⟩
 ·go_wp2
  go_ret
  exact⟨by first|rfl|simp[hx],rfl⟩
def cfD (x y:Nat×Nat):Int:=if Lib.compareInt x.1 y.1=0 then Lib.compareInt x.2 y.2 else Lib.compareInt x.1 y.1
def encD (x:Nat×Nat):List Value:=[.int .i64 (x.1:Int),.int .i64 (x.2:Int)]
theorem cellA (W:World) (A B:Obj) (cs:Array Value) (t:TypeId) (j:Nat) (v:Value) (h:cs[j]? =some v):((((W.alloc A).alloc B).alloc (.cells cs t)).drew).cell? ⟨W.heap.size+1+1,j,none⟩=some v:=by
 unfold World.cell?;rw[show ((((W.alloc A).alloc B).alloc (.cells cs t)).drew).heap[W.heap.size+1+1]? =some (.cells cs t) from by show (((W.heap.push A).push B).push (.cells cs t))[W.heap.size+1+1]? =_;rw[Array.getElem?_push];simp];exact h
set_option maxHeartbeats 20000000
def Grn (W w':World):Prop:=∃ q os',w'=grow (W.drewN q) os'
theorem closure_c (x1 x2 y1 y2:Int) (W:World):Calls Tryz.prog 42 #[.agg #[.int .i64 x1,.int .i64 x2],.agg #[.int .i64 y1,.int .i64 y2]] W fun e w'=>e=.returned (.int .i64 (if Lib.compareInt x1 y1=0 then Lib.compareInt x2 y2 else Lib.compareInt x1 y1))∧Grn W w':=by
 have hc:=fun a b W'=>compare_c a b W'
 obtain⟨v,hv⟩:∃ v:Int,v=if Lib.compareInt x1 y1=0 then Lib.compareInt x2 y2 else Lib.compareInt x1 y1:=⟨_,rfl⟩
 have ho:Calls Tryz.prog 43 #[.slice (some ⟨W.heap.size+1+1,0,none⟩) 2 2] ((((W.alloc (.cells #[.int .i64 x1,.int .i64 x2] 42)).alloc (.cells #[.int .i64 y1,.int .i64 y2] 42)).alloc (.cells #[.int .i64 (Lib.compareInt x1 y1),.int .i64 (Lib.compareInt x2 y2)] 3)).drew) fun e w'=>e=.returned (.int .i64 v)∧Grn W w':=by
  rw[hv];refine (or_c (Lib.compareInt x1 y1) (Lib.compareInt x2 y2) _ _ ?_ ?_).mono ?_
  ·exact cellA _ _ _ _ _ 0 _ rfl
  ·exact cellA _ _ _ _ _ 1 _ rfl
  ·rintro e w' ⟨rfl,rfl⟩
   refine⟨rfl,1,#[.cells #[.int .i64 x1,.int .i64 x2] 42,.cells #[.int .i64 y1,.int .i64 y2] 42,.cells #[.int .i64 (Lib.compareInt x1 y1),.int .i64 (Lib.compareInt x2 y2)] 3],?_⟩;simp only[World.alloc,World.drew,World.drewN,grow];congr 1
 rw[←hv];clear hv
 go_enter Tryz.func42,Tryz.ntmps42
 go_wp2
 go_region_with (first|(go_at_call 44;refine (hc _ _ _).mono ?_;rintro e w' ⟨rfl,rfl⟩)|(go_at_call 43;refine ho.mono ?_;clear ho hc;rintro e w' ⟨rfl,hw⟩))
 all_goals (go_wp2;go_ret;exact⟨rfl,by assumption⟩)
end Go.Proofs.YtphdhedhhlfepaaGreatDoor
