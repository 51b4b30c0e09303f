/-
  The fixed program is valid: the run.
-/
import Derived.Test.YtgbkllbaojkfmaaGreatDoorWg
set_option linter.unusedSimpArgs false
set_option linter.unusedVariables false
namespace Go.Proofs.YtgbkllbaojkfmaaGreatDoor
open Go Ab
set_option maxRecDepth 100000
def mValPIn : Bs := g13 ++ [(2942, ⟨[.int .i64 12, .int .u64 0, .str [], .int .i64 4, .int .i64 3, .int .u64 0, .str [80, 87, 82, 48], .int .i64 0, .int .i64 1, .int .u64 0, .str [], .int .i64 0, .int .i64 1, .int .u64 0, .str [], .int .i64 0, .int .i64 4, .int .u64 0, .str [], .int .i64 0, .int .i64 11, .int .u64 0, .str [], .int .i64 2, .int .i64 3, .int .u64 0, .str [68], .int .i64 0, .int .i64 4, .int .u64 0, .str [], .int .i64 2, .int .i64 13, .int .u64 0, .str [], .int .i64 2, .int .i64 3, .int .u64 0, .str [95, 80, 82, 48], .int .i64 0, .int .i64 51, .int .u64 0, .str [], .int .i64 2, .int .i64 1, .int .u64 1, .str [], .int .i64 0, .int .i64 4, .int .u64 0, .str [], .int .i64 1, .int .i64 3, .int .u64 0, .str [80, 87, 82, 48], .int .i64 0, .int .i64 13, .int .u64 0, .str [], .int .i64 2, .int .i64 3, .int .u64 0, .str [95, 83, 84, 65], .int .i64 0, .int .i64 1, .int .u64 15, .str [], .int .i64 0], 64, true, false, false, false, (some (2943, 4)), none, none⟩)]
def mValP : Memo := ⟨37, [.s (.sla 2942 2943 17)], 2944, tOf (mValPIn), .s (.bool true), 3420, g13 ++ [(2942, ⟨[.int .i64 12, .int .u64 0, .str [], .int .i64 4, .int .i64 3, .int .u64 0, .str [80, 87, 82, 48], .int .i64 0, .int .i64 1, .int .u64 0, .str [], .int .i64 0, .int .i64 1, .int .u64 0, .str [], .int .i64 0, .int .i64 4, .int .u64 0, .str [], .int .i64 0, .int .i64 11, .int .u64 0, .str [], .int .i64 2, .int .i64 3, .int .u64 0, .str [68], .int .i64 0, .int .i64 4, .int .u64 0, .str [], .int .i64 2, .int .i64 13, .int .u64 0, .str [], .int .i64 2, .int .i64 3, .int .u64 0, .str [95, 80, 82, 48], .int .i64 0, .int .i64 51, .int .u64 0, .str [], .int .i64 2, .int .i64 1, .int .u64 1, .str [], .int .i64 0, .int .i64 4, .int .u64 0, .str [], .int .i64 1, .int .i64 3, .int .u64 0, .str [80, 87, 82, 48], .int .i64 0, .int .i64 13, .int .u64 0, .str [], .int .i64 2, .int .i64 3, .int .u64 0, .str [95, 83, 84, 65], .int .i64 0, .int .i64 1, .int .u64 15, .str [], .int .i64 0], 64, true, false, false, false, (some (2943, 4)), none, none⟩)]⟩
theorem mValP_run : chkM (kFQ Tryz.prog ovB 1000000 1000 mValP.f mValP.args mValP.n mValP.h) mValP.v mValP.n' mValP.hs = true := by kernel_rfl
theorem mValP_ok : mValP.OK Tryz.prog := Memo.of (kFQ_ok hm13 ovB_ok 1000) mValP_run
theorem mValP_ov : OvOK Tryz.prog (mValP.ovF mValPIn) := Memo.ovF_ok rfl mValP_ok

end Go.Proofs.YtgbkllbaojkfmaaGreatDoor
