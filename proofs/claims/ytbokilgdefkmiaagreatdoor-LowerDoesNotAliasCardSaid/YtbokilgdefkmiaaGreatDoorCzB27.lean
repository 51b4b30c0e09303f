import Derived.Shelf.SlSortCmp.NoneTotal
import Derived.WalkKit
import Derived.Deep.RegionWith
import Derived.Test.YtbokilgdefkmiaaGreatDoorRows
set_option linter.unusedSimpArgs false
set_option linter.unusedVariables false
namespace Go.Proofs.YtbokilgdefkmiaaGreatDoor
open Go.Shelf Go.RowKit
def Tryz.sortD_ren:Go.Shelf.Ren:=⟨fun|6=>60|15=>95|14=>94|28=>154|29=>155|20=>146|21=>147|22=>148|23=>149|24=>150|25=>151|26=>152|27=>153|46=>188|47=>189|48=>190|49=>191|50=>192|57=>207|n=>n,fun|22=>64|24=>67|25=>111|3=>3|39=>51|0=>0|53=>182|55=>29|4=>4|46=>176|45=>175|50=>37|5=>5|9=>9|66=>203|70=>206|76=>225|77=>226|n=>n,fun|n=>n⟩
theorem Tryz.sortD:Go.Proofs.SlLaysF0.n6 Tryz.prog Tryz.sortD_ren:={
 mixed:=by kernel_rfl
 f6:=⟨Tryz.f60.name,by decide,Tryz.func60.trans (congrArg some (by kernel_rfl))⟩
 f14:=⟨Tryz.f94.name,by decide,Tryz.func94.trans (congrArg some (by kernel_rfl))⟩
 f15:=Tryz.func95.trans (congrArg some (by kernel_rfl))
 f20:=⟨Tryz.f146.name,by decide,Tryz.func146.trans (congrArg some (by kernel_rfl))⟩
 f21:=⟨Tryz.f147.name,by decide,Tryz.func147.trans (congrArg some (by kernel_rfl))⟩
 f22:=⟨Tryz.f148.name,by decide,Tryz.func148.trans (congrArg some (by kernel_rfl))⟩
 f23:=⟨Tryz.f149.name,by decide,Tryz.func149.trans (congrArg some (by kernel_rfl))⟩
 f24:=⟨Tryz.f150.name,by decide,Tryz.func150.trans (congrArg some (by kernel_rfl))⟩
 f25:=⟨Tryz.f151.name,by decide,Tryz.func151.trans (congrArg some (by kernel_rfl))⟩
 f26:=⟨Tryz.f152.name,by decide,Tryz.func152.trans (congrArg some (by kernel_rfl))⟩
 f27:=⟨Tryz.f153.name,by decide,Tryz.func153.trans (congrArg some (by kernel_rfl))⟩
 f28:=Tryz.func154.trans (congrArg some (by kernel_rfl))
 f29:=Tryz.func155.trans (congrArg some (by kernel_rfl))
 f46:=⟨Tryz.f188.name,by decide,Tryz.func188.trans (congrArg some (by kernel_rfl))⟩
 f47:=Tryz.func189.trans (congrArg some (by kernel_rfl))
 f48:=Tryz.func190.trans (congrArg some (by kernel_rfl))
 f49:=⟨Tryz.f191.name,by decide,Tryz.func191.trans (congrArg some (by kernel_rfl))⟩
 f50:=⟨Tryz.f192.name,by decide,Tryz.func192.trans (congrArg some (by kernel_rfl))⟩
 f57:=⟨Tryz.f207.name,by decide,Tryz.func207.trans (congrArg some (by kernel_rfl))⟩
 t0:=Tryz.underlying0
 a0:=Tryz.isAgg0
 z0:=Tryz.sizeOf0
 v0:=Tryz.zeroValue0
 t3:=Tryz.underlying3
 a3:=Tryz.isAgg3
 z3:=Tryz.sizeOf3
 v3:=Tryz.zeroValue3
 t4:=Tryz.underlying4
 a4:=Tryz.isAgg4
 z4:=Tryz.sizeOf4
 v4:=Tryz.zeroValue4
 t5:=Tryz.underlying5
 a5:=Tryz.isAgg5
 z5:=Tryz.sizeOf5
 v5:=Tryz.zeroValue5
 t9:=Tryz.underlying9
 a9:=Tryz.isAgg9
 z9:=Tryz.sizeOf9
 v9:=Tryz.zeroValue9
 t22:=Tryz.underlying64
 a22:=Tryz.isAgg64
 z22:=Tryz.sizeOf64
 v22:=Tryz.zeroValue64
 t25:=Tryz.underlying111
 a25:=Tryz.isAgg111
 z25:=Tryz.sizeOf111
 v25:=Tryz.zeroValue111
 t39:=Tryz.underlying51
 a39:=Tryz.isAgg51
 z39:=Tryz.sizeOf51
 v39:=Tryz.zeroValue51
 t45:=Tryz.underlying175
 a45:=Tryz.isAgg175
 z45:=Tryz.sizeOf175
 v45:=Tryz.zeroValue175
 t46:=Tryz.underlying176
 a46:=Tryz.isAgg176
 z46:=Tryz.sizeOf176
 v46:=Tryz.zeroValue176
 t50:=Tryz.underlying37
 a50:=Tryz.isAgg37
 z50:=Tryz.sizeOf37
 v50:=Tryz.zeroValue37
 t53:=Tryz.underlying182
 a53:=Tryz.isAgg182
 z53:=Tryz.sizeOf182
 v53:=Tryz.zeroValue182
 t55:=Tryz.underlying29
 a55:=Tryz.isAgg29
 z55:=Tryz.sizeOf29
 v55:=Tryz.zeroValue29
 t66:=Tryz.underlying203
 a66:=Tryz.isAgg203
 z66:=Tryz.sizeOf203
 v66:=Tryz.zeroValue203
 t70:=Tryz.underlying206
 a70:=Tryz.isAgg206
 z70:=Tryz.sizeOf206
 v70:=Tryz.zeroValue206
 t76:=Tryz.underlying225
 a76:=Tryz.isAgg225
 z76:=Tryz.sizeOf225
 v76:=Tryz.zeroValue225
 t77:=Tryz.underlying226
 a77:=Tryz.isAgg226
 z77:=Tryz.sizeOf226
 v77:=Tryz.zeroValue226}
end Go.Proofs.YtbokilgdefkmiaaGreatDoor
namespace Go.Proofs.YtbokilgdefkmiaaGreatDoor
open Go.Shelf Go.RowKit Go.Lib Go.Sort
set_option maxHeartbeats 1000000
theorem nan_c (z:Int) (W:World):Calls Tryz.prog 96 #[.int .i64 z] W fun e w'=>e=.returned (.bool false)∧w'=W:=by
 go_enter Tryz.func96,Tryz.ntmps96
 go_wp2
 go_ret
 exact⟨by simp,rfl⟩
theorem compare_c (x y:Int) (W:World):Calls Tryz.prog 63 #[.int .i64 x,.int .i64 y] W fun e w'=>e=.returned (.int .i64 (Lib.compareInt x y))∧w'=W:=by
 have hn:=fun z W'=>nan_c z W'
 go_enter Tryz.func63,Tryz.ntmps63
 by_cases h1:x<y
 ·have hr:Lib.compareInt x y= -1:=by unfold Lib.compareInt;rw[if_pos h1]
  rw[hr]
  go_wp2_with (go_at_call 96;refine (hn _ _).mono ?_;rintro e w' ⟨rfl,rfl⟩)
  go_ret
  exact⟨rfl,rfl⟩
 ·by_cases h2:x>y
  ·have hr:Lib.compareInt x y=1:=by unfold Lib.compareInt;rw[if_neg h1,if_pos h2]
   rw[hr]
   go_wp2_with (go_at_call 96;refine (hn _ _).mono ?_;rintro e w' ⟨rfl,rfl⟩)
   go_ret
   exact⟨rfl,rfl⟩
  ·have hr:Lib.compareInt x y=0:=by unfold Lib.compareInt;rw[if_neg h1,if_neg h2]
   rw[hr]
   go_wp2_with (go_at_call 96;refine (hn _ _).mono ?_;rintro e w' ⟨rfl,rfl⟩)
   go_ret
   exact⟨rfl,rfl⟩
theorem or_c (x y:Int) (W:World) (b:Nat) (h0:W.cell? ⟨b,0,none⟩=some (.int .i64 x)) (h1:W.cell? ⟨b,1,none⟩=some (.int .i64 y)):Calls Tryz.prog 62 #[.slice (some ⟨b,0,none⟩) 2 2] W fun e w'=>e=.returned (.int .i64 (if x=0 then y else x))∧w'=W:=by
 go_enter Tryz.func62,Tryz.ntmps62
 go_wp2
 refine wp_loop_rounds 3 ?_;rw[rounds_succ];by_cases hx:x=0
 ·subst hx
  go_wp2
  rw[rounds_succ];by_cases hy:y=0
  ·subst hy
   go_wp2
   rw[rounds_succ]
   go_wp2
   go_ret
   exact⟨rfl,rfl⟩
  ·go_wp2
   go_ret
   exact⟨rfl,rfl⟩
 ·go_wp2
  go_ret
  exact⟨by first|rfl|simp[hx],rfl⟩
def cfD (x y:Nat×Nat):Int:=if Lib.compareInt x.1 y.1=0 then Lib.compareInt x.2 y.2 else Lib.compareInt x.1 y.1
def encD (x:Nat×Nat):List Value:=[.int .i64 (x.1:Int),.int .i64 (x.2:Int)]
theorem cellA (W:World) (A B:Obj) (cs:Array Value) (t:TypeId) (j:Nat) (v:Value) (h:cs[j]? =some v):((((W.alloc A).alloc B).alloc (.cells cs t)).drew).cell? ⟨W.heap.size+1+1,j,none⟩=some v:=by
 unfold World.cell?;rw[show ((((W.alloc A).alloc B).alloc (.cells cs t)).drew).heap[W.heap.size+1+1]? =some (.cells cs t) from by show (((W.heap.push A).push B).push (.cells cs t))[W.heap.size+1+1]? =_;rw[Array.getElem?_push];simp];exact h
set_option maxHeartbeats 20000000
def Grn (W w':World):Prop:=∃ q os',w'=grow (W.drewN q) os'
theorem closure_c (x1 x2 y1 y2:Int) (W:World):Calls Tryz.prog 61 #[.agg #[.int .i64 x1,.int .i64 x2],.agg #[.int .i64 y1,.int .i64 y2]] W fun e w'=>e=.returned (.int .i64 (if Lib.compareInt x1 y1=0 then Lib.compareInt x2 y2 else Lib.compareInt x1 y1))∧Grn W w':=by
 have hc:=fun a b W'=>compare_c a b W'
 obtain⟨v,hv⟩:∃ v:Int,v=if Lib.compareInt x1 y1=0 then Lib.compareInt x2 y2 else Lib.compareInt x1 y1:=⟨_,rfl⟩
 have ho:Calls Tryz.prog 62 #[.slice (some ⟨W.heap.size+1+1,0,none⟩) 2 2] ((((W.alloc (.cells #[.int .i64 x1,.int .i64 x2] 67)).alloc (.cells #[.int .i64 y1,.int .i64 y2] 67)).alloc (.cells #[.int .i64 (Lib.compareInt x1 y1),.int .i64 (Lib.compareInt x2 y2)] 3)).drew) fun e w'=>e=.returned (.int .i64 v)∧Grn W w':=by
  rw[hv];refine (or_c (Lib.compareInt x1 y1) (Lib.compareInt x2 y2) _ _ ?_ ?_).mono ?_
  ·exact cellA _ _ _ _ _ 0 _ rfl
  ·exact cellA _ _ _ _ _ 1 _ rfl
  ·rintro e w' ⟨rfl,rfl⟩
   refine⟨rfl,1,#[.cells #[.int .i64 x1,.int .i64 x2] 67,.cells #[.int .i64 y1,.int .i64 y2] 67,.cells #[.int .i64 (Lib.compareInt x1 y1),.int .i64 (Lib.compareInt x2 y2)] 3],?_⟩;simp only[World.alloc,World.drew,World.drewN,grow];congr 1
 rw[←hv];clear hv
 go_enter Tryz.func61,Tryz.ntmps61
 go_wp2
 go_region_with (first|(go_at_call 63;refine (hc _ _ _).mono ?_;rintro e w' ⟨rfl,rfl⟩)|(go_at_call 62;refine ho.mono ?_;clear ho hc;rintro e w' ⟨rfl,hw⟩))
 all_goals (go_wp2;go_ret;exact⟨rfl,by assumption⟩)
end Go.Proofs.YtbokilgdefkmiaaGreatDoor
