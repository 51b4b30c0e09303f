/-
  Scan of the fixed text: the run.
-/
import Derived.Test.YtgbkllbaojkfmaaGreatDoorWg
set_option linter.unusedSimpArgs false
set_option linter.unusedVariables false
namespace Go.Proofs.YtgbkllbaojkfmaaGreatDoor
open Go Ab
set_option maxRecDepth 100000
def mScanIn : Bs := g13 ++ []
def mScan : Memo := ⟨35, [.s (.str [80, 111, 119, 101, 114, 82, 101, 115, 111, 117, 114, 99, 101, 32, 40, 80, 87, 82, 48, 44, 32, 48, 44, 32, 48, 41, 32, 123, 125, 32, 68, 101, 118, 105, 99, 101, 32, 40, 68, 41, 32, 123, 78, 97, 109, 101, 32, 40, 95, 80, 82, 48, 44, 32, 80, 97, 99, 107, 97, 103, 101, 32, 40, 49, 41, 32, 123, 80, 87, 82, 48, 125, 41, 32, 78, 97, 109, 101, 32, 40, 95, 83, 84, 65, 44, 32, 49, 53, 41, 125])], 1828, tOf (mScanIn), .tup [.s (.sla 1996 1997 34), .s (.int .i64 0), .s (.int .i64 0)], 1998, g13 ++ [(1996, ⟨[.int .i64 2, .int .u64 0, .str [80, 111, 119, 101, 114, 82, 101, 115, 111, 117, 114, 99, 101], .int .i64 0, .int .i64 5, .int .u64 0, .str [], .int .i64 14, .int .i64 1, .int .u64 0, .str [80, 87, 82, 48], .int .i64 15, .int .i64 9, .int .u64 0, .str [], .int .i64 19, .int .i64 3, .int .u64 0, .str [], .int .i64 21, .int .i64 9, .int .u64 0, .str [], .int .i64 22, .int .i64 3, .int .u64 0, .str [], .int .i64 24, .int .i64 6, .int .u64 0, .str [], .int .i64 25, .int .i64 7, .int .u64 0, .str [], .int .i64 27, .int .i64 8, .int .u64 0, .str [], .int .i64 28, .int .i64 2, .int .u64 0, .str [68, 101, 118, 105, 99, 101], .int .i64 30, .int .i64 5, .int .u64 0, .str [], .int .i64 37, .int .i64 1, .int .u64 0, .str [68], .int .i64 38, .int .i64 6, .int .u64 0, .str [], .int .i64 39, .int .i64 7, .int .u64 0, .str [], .int .i64 41, .int .i64 2, .int .u64 0, .str [78, 97, 109, 101], .int .i64 42, .int .i64 5, .int .u64 0, .str [], .int .i64 47, .int .i64 1, .int .u64 0, .str [95, 80, 82, 48], .int .i64 48, .int .i64 9, .int .u64 0, .str [], .int .i64 52, .int .i64 2, .int .u64 0, .str [80, 97, 99, 107, 97, 103, 101], .int .i64 54, .int .i64 5, .int .u64 0, .str [], .int .i64 62, .int .i64 3, .int .u64 1, .str [], .int .i64 63, .int .i64 6, .int .u64 0, .str [], .int .i64 64, .int .i64 7, .int .u64 0, .str [], .int .i64 66, .int .i64 1, .int .u64 0, .str [80, 87, 82, 48], .int .i64 67, .int .i64 8, .int .u64 0, .str [], .int .i64 71, .int .i64 6, .int .u64 0, .str [], .int .i64 72, .int .i64 2, .int .u64 0, .str [78, 97, 109, 101], .int .i64 74, .int .i64 5, .int .u64 0, .str [], .int .i64 79, .int .i64 1, .int .u64 0, .str [95, 83, 84, 65], .int .i64 80, .int .i64 9, .int .u64 0, .str [], .int .i64 84, .int .i64 3, .int .u64 15, .str [], .int .i64 86, .int .i64 6, .int .u64 0, .str [], .int .i64 88, .int .i64 8, .int .u64 0, .str [], .int .i64 89], 110, true, false, false, false, (some (1997, 4)), none, none⟩)]⟩
theorem mScan_run : chkM (kFQ Tryz.prog ovB 1000000 1000 mScan.f mScan.args mScan.n mScan.h) mScan.v mScan.n' mScan.hs = true := by kernel_rfl
theorem mScan_ok : mScan.OK Tryz.prog := Memo.of (kFQ_ok hm13 ovB_ok 1000) mScan_run
theorem mScan_ov : OvOK Tryz.prog (mScan.ovF mScanIn) := Memo.ovF_ok rfl mScan_ok

end Go.Proofs.YtgbkllbaojkfmaaGreatDoor
