/-
  The statement's program is valid: the run.
-/
import Derived.Test.YtgbkllbaojkfmaaGreatDoorWg
set_option linter.unusedSimpArgs false
set_option linter.unusedVariables false
namespace Go.Proofs.YtgbkllbaojkfmaaGreatDoor
open Go Ab
set_option maxRecDepth 100000
def mValTIn : Bs := g13 ++ [(71, ⟨[.int .i64 11, .int .u64 0, .str [], .int .i64 2, .int .i64 3, .int .u64 0, .str [68], .int .i64 0, .int .i64 4, .int .u64 0, .str [], .int .i64 2, .int .i64 13, .int .u64 0, .str [], .int .i64 2, .int .i64 3, .int .u64 0, .str [95, 83, 84, 65], .int .i64 0, .int .i64 1, .opq .u64 (.v 9) ⟨0, 255, none⟩, .str [], .int .i64 0, .int .i64 11, .int .u64 0, .str [], .int .i64 2, .int .i64 3, .int .u64 0, .str [69], .int .i64 0, .int .i64 4, .int .u64 0, .str [], .int .i64 2, .int .i64 13, .int .u64 0, .str [], .int .i64 2, .int .i64 3, .int .u64 0, .str [95, 83, 84, 65], .int .i64 0, .int .i64 1, .opq .u64 (.v 10) ⟨0, 255, none⟩, .str [], .int .i64 0, .int .i64 11, .int .u64 0, .str [], .int .i64 2, .int .i64 3, .int .u64 0, .str [71], .int .i64 0, .int .i64 4, .int .u64 0, .str [], .int .i64 1, .int .i64 13, .int .u64 0, .str [], .int .i64 2, .int .i64 3, .int .u64 0, .str [95, 83, 84, 65], .int .i64 0, .int .i64 1, .opq .u64 (.v 11) ⟨0, 255, none⟩, .str [], .int .i64 0], 64, true, false, false, false, (some (72, 4)), none, none⟩)]
def mValT : Memo := ⟨37, [.s (.sla 71 72 18)], 628, tOf (mValTIn), .s (.bool true), 1195, g13 ++ [(71, ⟨[.int .i64 11, .int .u64 0, .str [], .int .i64 2, .int .i64 3, .int .u64 0, .str [68], .int .i64 0, .int .i64 4, .int .u64 0, .str [], .int .i64 2, .int .i64 13, .int .u64 0, .str [], .int .i64 2, .int .i64 3, .int .u64 0, .str [95, 83, 84, 65], .int .i64 0, .int .i64 1, .opq .u64 (.v 9) ⟨0, 255, none⟩, .str [], .int .i64 0, .int .i64 11, .int .u64 0, .str [], .int .i64 2, .int .i64 3, .int .u64 0, .str [69], .int .i64 0, .int .i64 4, .int .u64 0, .str [], .int .i64 2, .int .i64 13, .int .u64 0, .str [], .int .i64 2, .int .i64 3, .int .u64 0, .str [95, 83, 84, 65], .int .i64 0, .int .i64 1, .opq .u64 (.v 10) ⟨0, 255, none⟩, .str [], .int .i64 0, .int .i64 11, .int .u64 0, .str [], .int .i64 2, .int .i64 3, .int .u64 0, .str [71], .int .i64 0, .int .i64 4, .int .u64 0, .str [], .int .i64 1, .int .i64 13, .int .u64 0, .str [], .int .i64 2, .int .i64 3, .int .u64 0, .str [95, 83, 84, 65], .int .i64 0, .int .i64 1, .opq .u64 (.v 11) ⟨0, 255, none⟩, .str [], .int .i64 0], 64, true, false, false, false, (some (72, 4)), none, none⟩)]⟩
theorem mValT_run : chkM (kFQ Tryz.prog ovB 1000000 1000 mValT.f mValT.args mValT.n mValT.h) mValT.v mValT.n' mValT.hs = true := by kernel_rfl
theorem mValT_ok : mValT.OK Tryz.prog := Memo.of (kFQ_ok hm13 ovB_ok 1000) mValT_run
theorem mValT_ov : OvOK Tryz.prog (mValT.ovF mValTIn) := Memo.ovF_ok rfl mValT_ok

end Go.Proofs.YtgbkllbaojkfmaaGreatDoor
