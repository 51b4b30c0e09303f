/-
  Parse of the fixed text: the run, Scan's outcome being known.
-/
import Derived.Test.YtbokilgdefkmiaaGreatDoorGb
set_option linter.unusedSimpArgs false
set_option linter.unusedVariables false
namespace Go.Proofs.YtbokilgdefkmiaaGreatDoor
open Go Ab
set_option maxRecDepth 100000
def mParse : Memo := ⟨20, src14, 6, tOf g0, .tup [.s (.sla 584 585 10), .s (.int .i64 0), .s (.int .i64 0)], 774, g0 ++ [(584, ⟨[.int .i64 14, .int .u64 0, .str [], .int .i64 5, .int .i64 3, .int .u64 0, .str [77], .int .i64 0, .int .i64 1, .int .u64 0, .str [], .int .i64 0, .int .i64 1, .int .u64 0, .str [], .int .i64 0, .int .i64 1, .int .u64 0, .str [], .int .i64 0, .int .i64 4, .int .u64 0, .str [], .int .i64 1, .int .i64 33, .int .u64 0, .str [], .int .i64 1, .int .i64 60, .int .u64 0, .str [], .int .i64 2, .int .i64 6, .int .u64 0, .str [], .int .i64 0, .int .i64 1, .int .u64 1, .str [], .int .i64 0], 31, true, false, false, true, (some (585, 4)), none, none⟩)]⟩
theorem parse_run : chkM (kF Tryz.prog (kx Tryz.prog) (ovOr mScan.ov ext14) 1000000 1000 mParse.f mParse.args mParse.n mParse.h) mParse.v mParse.n' mParse.hs = true := by kernel_rfl

end Go.Proofs.YtbokilgdefkmiaaGreatDoor
