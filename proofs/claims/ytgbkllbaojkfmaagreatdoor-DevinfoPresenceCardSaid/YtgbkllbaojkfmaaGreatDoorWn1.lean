/-
  Check of the statement's program: the run.
-/
import Derived.Test.YtgbkllbaojkfmaaGreatDoorWg
set_option linter.unusedSimpArgs false
set_option linter.unusedVariables false
namespace Go.Proofs.YtgbkllbaojkfmaaGreatDoor
open Go Ab
set_option maxRecDepth 100000
def mCheckTIn : Bs := g13 ++ [(71, ⟨[.int .i64 11, .int .u64 0, .str [], .int .i64 2, .int .i64 3, .int .u64 0, .str [68], .int .i64 0, .int .i64 4, .int .u64 0, .str [], .int .i64 2, .int .i64 13, .int .u64 0, .str [], .int .i64 2, .int .i64 3, .int .u64 0, .str [95, 83, 84, 65], .int .i64 0, .int .i64 1, .opq .u64 (.v 9) ⟨0, 255, none⟩, .str [], .int .i64 0, .int .i64 11, .int .u64 0, .str [], .int .i64 2, .int .i64 3, .int .u64 0, .str [69], .int .i64 0, .int .i64 4, .int .u64 0, .str [], .int .i64 2, .int .i64 13, .int .u64 0, .str [], .int .i64 2, .int .i64 3, .int .u64 0, .str [95, 83, 84, 65], .int .i64 0, .int .i64 1, .opq .u64 (.v 10) ⟨0, 255, none⟩, .str [], .int .i64 0, .int .i64 11, .int .u64 0, .str [], .int .i64 2, .int .i64 3, .int .u64 0, .str [71], .int .i64 0, .int .i64 4, .int .u64 0, .str [], .int .i64 1, .int .i64 13, .int .u64 0, .str [], .int .i64 2, .int .i64 3, .int .u64 0, .str [95, 83, 84, 65], .int .i64 0, .int .i64 1, .opq .u64 (.v 11) ⟨0, 255, none⟩, .str [], .int .i64 0], 64, true, false, false, false, (some (72, 4)), none, none⟩)]
def mCheckT : Memo := ⟨24, [.s (.sla 71 72 18)], 81, tOf (mCheckTIn), .s (.slc none 0 (some 0)), 384, g13 ++ [(71, ⟨[.int .i64 11, .int .u64 0, .str [], .int .i64 2, .int .i64 3, .int .u64 0, .str [68], .int .i64 0, .int .i64 4, .int .u64 0, .str [], .int .i64 2, .int .i64 13, .int .u64 0, .str [], .int .i64 2, .int .i64 3, .int .u64 0, .str [95, 83, 84, 65], .int .i64 0, .int .i64 1, .opq .u64 (.v 9) ⟨0, 255, none⟩, .str [], .int .i64 0, .int .i64 11, .int .u64 0, .str [], .int .i64 2, .int .i64 3, .int .u64 0, .str [69], .int .i64 0, .int .i64 4, .int .u64 0, .str [], .int .i64 2, .int .i64 13, .int .u64 0, .str [], .int .i64 2, .int .i64 3, .int .u64 0, .str [95, 83, 84, 65], .int .i64 0, .int .i64 1, .opq .u64 (.v 10) ⟨0, 255, none⟩, .str [], .int .i64 0, .int .i64 11, .int .u64 0, .str [], .int .i64 2, .int .i64 3, .int .u64 0, .str [71], .int .i64 0, .int .i64 4, .int .u64 0, .str [], .int .i64 1, .int .i64 13, .int .u64 0, .str [], .int .i64 2, .int .i64 3, .int .u64 0, .str [95, 83, 84, 65], .int .i64 0, .int .i64 1, .opq .u64 (.v 11) ⟨0, 255, none⟩, .str [], .int .i64 0], 64, true, false, false, false, (some (72, 4)), none, none⟩)]⟩
theorem mCheckT_run : chkM (kFQ Tryz.prog ovB 1000000 1000 mCheckT.f mCheckT.args mCheckT.n mCheckT.h) mCheckT.v mCheckT.n' mCheckT.hs = true := by kernel_rfl
theorem mCheckT_ok : mCheckT.OK Tryz.prog := Memo.of (kFQ_ok hm13 ovB_ok 1000) mCheckT_run
theorem mCheckT_ov : OvOK Tryz.prog (mCheckT.ovF mCheckTIn) := Memo.ovF_ok rfl mCheckT_ok

end Go.Proofs.YtgbkllbaojkfmaaGreatDoor
