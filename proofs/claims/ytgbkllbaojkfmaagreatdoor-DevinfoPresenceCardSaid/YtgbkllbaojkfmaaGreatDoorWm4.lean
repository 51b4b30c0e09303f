/-
  Parse of the fixed text: the run.
-/
import Derived.Test.YtgbkllbaojkfmaaGreatDoorWm1
import Derived.Test.YtgbkllbaojkfmaaGreatDoorWm2
import Derived.Test.YtgbkllbaojkfmaaGreatDoorWm3
import Derived.Test.YtgbkllbaojkfmaaGreatDoorWm8
set_option linter.unusedSimpArgs false
set_option linter.unusedVariables false
namespace Go.Proofs.YtgbkllbaojkfmaaGreatDoor
open Go Ab
set_option maxRecDepth 100000
def mParseIn : Bs := g13 ++ []
def mParse : Memo := ⟨17, [.s (.str [80, 111, 119, 101, 114, 82, 101, 115, 111, 117, 114, 99, 101, 32, 40, 80, 87, 82, 48, 44, 32, 48, 44, 32, 48, 41, 32, 123, 125, 32, 68, 101, 118, 105, 99, 101, 32, 40, 68, 41, 32, 123, 78, 97, 109, 101, 32, 40, 95, 80, 82, 48, 44, 32, 80, 97, 99, 107, 97, 103, 101, 32, 40, 49, 41, 32, 123, 80, 87, 82, 48, 125, 41, 32, 78, 97, 109, 101, 32, 40, 95, 83, 84, 65, 44, 32, 49, 53, 41, 125])], 1828, tOf (mParseIn), .tup [.s (.sla 2942 2943 17), .s (.int .i64 0), .s (.int .i64 0)], 3420, g13 ++ [(2942, ⟨[.int .i64 12, .int .u64 0, .str [], .int .i64 4, .int .i64 3, .int .u64 0, .str [80, 87, 82, 48], .int .i64 0, .int .i64 1, .int .u64 0, .str [], .int .i64 0, .int .i64 1, .int .u64 0, .str [], .int .i64 0, .int .i64 4, .int .u64 0, .str [], .int .i64 0, .int .i64 11, .int .u64 0, .str [], .int .i64 2, .int .i64 3, .int .u64 0, .str [68], .int .i64 0, .int .i64 4, .int .u64 0, .str [], .int .i64 2, .int .i64 13, .int .u64 0, .str [], .int .i64 2, .int .i64 3, .int .u64 0, .str [95, 80, 82, 48], .int .i64 0, .int .i64 51, .int .u64 0, .str [], .int .i64 2, .int .i64 1, .int .u64 1, .str [], .int .i64 0, .int .i64 4, .int .u64 0, .str [], .int .i64 1, .int .i64 3, .int .u64 0, .str [80, 87, 82, 48], .int .i64 0, .int .i64 13, .int .u64 0, .str [], .int .i64 2, .int .i64 3, .int .u64 0, .str [95, 83, 84, 65], .int .i64 0, .int .i64 1, .int .u64 15, .str [], .int .i64 0], 64, true, false, false, false, (some (2943, 4)), none, none⟩)]⟩
theorem mParse_run : chkM (kFQ Tryz.prog (ovOr (mValP.ovF mValPIn) (ovOr (mNodeB.ovF mNodeBIn) (ovOr (mNodeA.ovF mNodeAIn) (ovOr (mScan.ovF mScanIn) ovB)))) 1000000 1000 mParse.f mParse.args mParse.n mParse.h) mParse.v mParse.n' mParse.hs = true := by kernel_rfl
theorem mParse_ok : mParse.OK Tryz.prog := Memo.of (kFQ_ok hm13 (ovOr_ok mValP_ov (ovOr_ok mNodeB_ov (ovOr_ok mNodeA_ov (ovOr_ok mScan_ov ovB_ok)))) 1000) mParse_run
theorem mParse_ov : OvOK Tryz.prog (mParse.ovF mParseIn) := Memo.ovF_ok rfl mParse_ok

end Go.Proofs.YtgbkllbaojkfmaaGreatDoor
