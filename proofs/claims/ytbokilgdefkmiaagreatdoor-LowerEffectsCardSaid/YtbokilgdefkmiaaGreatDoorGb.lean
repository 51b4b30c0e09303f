/-
  Scan of the fixed text: the run.
-/
import Derived.Test.YtbokilgdefkmiaaGreatDoorGa
set_option linter.unusedSimpArgs false
set_option linter.unusedVariables false
namespace Go.Proofs.YtbokilgdefkmiaaGreatDoor
open Go Ab
set_option maxRecDepth 100000
def mScan : Memo := ⟨41, src14, 6, tOf g0, .tup [.s (.sla 109 110 21), .s (.int .i64 0), .s (.int .i64 0)], 111, g0 ++ [(109, ⟨[.int .i64 2, .int .u64 0, .str [77, 101, 116, 104, 111, 100], .int .i64 0, .int .i64 5, .int .u64 0, .str [], .int .i64 7, .int .i64 1, .int .u64 0, .str [77], .int .i64 8, .int .i64 9, .int .u64 0, .str [], .int .i64 9, .int .i64 3, .int .u64 0, .str [], .int .i64 11, .int .i64 9, .int .u64 0, .str [], .int .i64 12, .int .i64 3, .int .u64 0, .str [], .int .i64 14, .int .i64 9, .int .u64 0, .str [], .int .i64 15, .int .i64 3, .int .u64 0, .str [], .int .i64 17, .int .i64 6, .int .u64 0, .str [], .int .i64 18, .int .i64 7, .int .u64 0, .str [], .int .i64 20, .int .i64 2, .int .u64 0, .str [82, 101, 116, 117, 114, 110], .int .i64 21, .int .i64 5, .int .u64 0, .str [], .int .i64 28, .int .i64 2, .int .u64 0, .str [65, 100, 100], .int .i64 29, .int .i64 5, .int .u64 0, .str [], .int .i64 33, .int .i64 2, .int .u64 0, .str [76, 111, 99, 97, 108, 48], .int .i64 34, .int .i64 9, .int .u64 0, .str [], .int .i64 40, .int .i64 3, .int .u64 1, .str [], .int .i64 42, .int .i64 6, .int .u64 0, .str [], .int .i64 43, .int .i64 6, .int .u64 0, .str [], .int .i64 44, .int .i64 8, .int .u64 0, .str [], .int .i64 45], 86, true, false, false, true, (some (110, 4)), none, none⟩)]⟩
theorem scan_run : chkM (kF Tryz.prog (kx Tryz.prog) ext14 1000000 1000 mScan.f mScan.args mScan.n mScan.h) mScan.v mScan.n' mScan.hs = true := by kernel_rfl

end Go.Proofs.YtbokilgdefkmiaaGreatDoor
