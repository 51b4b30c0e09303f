/-
  Check of the fixed program: the run.
-/
import Derived.Test.YtgbkllbaojkfmaaGreatDoorWg
set_option linter.unusedSimpArgs false
set_option linter.unusedVariables false
namespace Go.Proofs.YtgbkllbaojkfmaaGreatDoor
open Go Ab
set_option maxRecDepth 100000
def mCheckIn : Bs := g13 ++ [(2942, ⟨[.int .i64 12, .int .u64 0, .str [], .int .i64 4, .int .i64 3, .int .u64 0, .str [80, 87, 82, 48], .int .i64 0, .int .i64 1, .int .u64 0, .str [], .int .i64 0, .int .i64 1, .int .u64 0, .str [], .int .i64 0, .int .i64 4, .int .u64 0, .str [], .int .i64 0, .int .i64 11, .int .u64 0, .str [], .int .i64 2, .int .i64 3, .int .u64 0, .str [68], .int .i64 0, .int .i64 4, .int .u64 0, .str [], .int .i64 2, .int .i64 13, .int .u64 0, .str [], .int .i64 2, .int .i64 3, .int .u64 0, .str [95, 80, 82, 48], .int .i64 0, .int .i64 51, .int .u64 0, .str [], .int .i64 2, .int .i64 1, .int .u64 1, .str [], .int .i64 0, .int .i64 4, .int .u64 0, .str [], .int .i64 1, .int .i64 3, .int .u64 0, .str [80, 87, 82, 48], .int .i64 0, .int .i64 13, .int .u64 0, .str [], .int .i64 2, .int .i64 3, .int .u64 0, .str [95, 83, 84, 65], .int .i64 0, .int .i64 1, .int .u64 15, .str [], .int .i64 0], 64, true, false, false, false, (some (2943, 4)), none, none⟩)]
def mCheck : Memo := ⟨24, [.s (.sla 2942 2943 17)], 3420, tOf (mCheckIn), .s (.slc none 0 (some 0)), 3656, g13 ++ [(2942, ⟨[.int .i64 12, .int .u64 0, .str [], .int .i64 4, .int .i64 3, .int .u64 0, .str [80, 87, 82, 48], .int .i64 0, .int .i64 1, .int .u64 0, .str [], .int .i64 0, .int .i64 1, .int .u64 0, .str [], .int .i64 0, .int .i64 4, .int .u64 0, .str [], .int .i64 0, .int .i64 11, .int .u64 0, .str [], .int .i64 2, .int .i64 3, .int .u64 0, .str [68], .int .i64 0, .int .i64 4, .int .u64 0, .str [], .int .i64 2, .int .i64 13, .int .u64 0, .str [], .int .i64 2, .int .i64 3, .int .u64 0, .str [95, 80, 82, 48], .int .i64 0, .int .i64 51, .int .u64 0, .str [], .int .i64 2, .int .i64 1, .int .u64 1, .str [], .int .i64 0, .int .i64 4, .int .u64 0, .str [], .int .i64 1, .int .i64 3, .int .u64 0, .str [80, 87, 82, 48], .int .i64 0, .int .i64 13, .int .u64 0, .str [], .int .i64 2, .int .i64 3, .int .u64 0, .str [95, 83, 84, 65], .int .i64 0, .int .i64 1, .int .u64 15, .str [], .int .i64 0], 64, true, false, false, false, (some (2943, 4)), none, none⟩)]⟩
theorem mCheck_run : chkM (kFQ Tryz.prog ovB 1000000 1000 mCheck.f mCheck.args mCheck.n mCheck.h) mCheck.v mCheck.n' mCheck.hs = true := by kernel_rfl
theorem mCheck_ok : mCheck.OK Tryz.prog := Memo.of (kFQ_ok hm13 ovB_ok 1000) mCheck_run
theorem mCheck_ov : OvOK Tryz.prog (mCheck.ovF mCheckIn) := Memo.ovF_ok rfl mCheck_ok

end Go.Proofs.YtgbkllbaojkfmaaGreatDoor
