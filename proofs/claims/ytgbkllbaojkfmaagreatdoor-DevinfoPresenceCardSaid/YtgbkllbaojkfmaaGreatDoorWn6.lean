/-
  The reference's check of the statement's program: the run.
-/
import Derived.Test.YtgbkllbaojkfmaaGreatDoorWn3
set_option linter.unusedSimpArgs false
set_option linter.unusedVariables false
namespace Go.Proofs.YtgbkllbaojkfmaaGreatDoor
open Go Ab
set_option maxRecDepth 100000
def mAccIn : Bs := g13 ++ [(71, ⟨[.int .i64 11, .int .u64 0, .str [], .int .i64 2, .int .i64 3, .int .u64 0, .str [68], .int .i64 0, .int .i64 4, .int .u64 0, .str [], .int .i64 2, .int .i64 13, .int .u64 0, .str [], .int .i64 2, .int .i64 3, .int .u64 0, .str [95, 83, 84, 65], .int .i64 0, .int .i64 1, .opq .u64 (.v 9) ⟨0, 255, none⟩, .str [], .int .i64 0, .int .i64 11, .int .u64 0, .str [], .int .i64 2, .int .i64 3, .int .u64 0, .str [69], .int .i64 0, .int .i64 4, .int .u64 0, .str [], .int .i64 2, .int .i64 13, .int .u64 0, .str [], .int .i64 2, .int .i64 3, .int .u64 0, .str [95, 83, 84, 65], .int .i64 0, .int .i64 1, .opq .u64 (.v 10) ⟨0, 255, none⟩, .str [], .int .i64 0, .int .i64 11, .int .u64 0, .str [], .int .i64 2, .int .i64 3, .int .u64 0, .str [71], .int .i64 0, .int .i64 4, .int .u64 0, .str [], .int .i64 1, .int .i64 13, .int .u64 0, .str [], .int .i64 2, .int .i64 3, .int .u64 0, .str [95, 83, 84, 65], .int .i64 0, .int .i64 1, .opq .u64 (.v 11) ⟨0, 255, none⟩, .str [], .int .i64 0], 64, true, false, false, false, (some (72, 4)), none, none⟩)]
def mAcc : Memo := ⟨30, [.s (.sla 71 72 18)], 628, tOf (mAccIn), .s (.bool true), 1473, g13 ++ [(71, ⟨[.int .i64 11, .int .u64 0, .str [], .int .i64 2, .int .i64 3, .int .u64 0, .str [68], .int .i64 0, .int .i64 4, .int .u64 0, .str [], .int .i64 2, .int .i64 13, .int .u64 0, .str [], .int .i64 2, .int .i64 3, .int .u64 0, .str [95, 83, 84, 65], .int .i64 0, .int .i64 1, .opq .u64 (.v 9) ⟨0, 255, none⟩, .str [], .int .i64 0, .int .i64 11, .int .u64 0, .str [], .int .i64 2, .int .i64 3, .int .u64 0, .str [69], .int .i64 0, .int .i64 4, .int .u64 0, .str [], .int .i64 2, .int .i64 13, .int .u64 0, .str [], .int .i64 2, .int .i64 3, .int .u64 0, .str [95, 83, 84, 65], .int .i64 0, .int .i64 1, .opq .u64 (.v 10) ⟨0, 255, none⟩, .str [], .int .i64 0, .int .i64 11, .int .u64 0, .str [], .int .i64 2, .int .i64 3, .int .u64 0, .str [71], .int .i64 0, .int .i64 4, .int .u64 0, .str [], .int .i64 1, .int .i64 13, .int .u64 0, .str [], .int .i64 2, .int .i64 3, .int .u64 0, .str [95, 83, 84, 65], .int .i64 0, .int .i64 1, .opq .u64 (.v 11) ⟨0, 255, none⟩, .str [], .int .i64 0], 64, true, false, false, false, (some (72, 4)), none, none⟩)]⟩
theorem mAcc_run : chkM (kFQ Tryz.prog (ovOr (mValT.ovF mValTIn) ovB) 1000000 1000 mAcc.f mAcc.args mAcc.n mAcc.h) mAcc.v mAcc.n' mAcc.hs = true := by kernel_rfl
theorem mAcc_ok : mAcc.OK Tryz.prog := Memo.of (kFQ_ok hm13 (ovOr_ok mValT_ov ovB_ok) 1000) mAcc_run
theorem mAcc_ov : OvOK Tryz.prog (mAcc.ovF mAccIn) := Memo.ovF_ok rfl mAcc_ok

end Go.Proofs.YtgbkllbaojkfmaaGreatDoor
