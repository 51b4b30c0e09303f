/-
  awake: the run.
-/
import Derived.Test.YtgbkllbaojkfmaaGreatDoorWm4
import Derived.Test.YtgbkllbaojkfmaaGreatDoorWm6
set_option linter.unusedSimpArgs false
set_option linter.unusedVariables false
namespace Go.Proofs.YtgbkllbaojkfmaaGreatDoor
open Go Ab
set_option maxRecDepth 100000
def mAwakeIn : Bs := g13 ++ []
def mAwake : Memo := ⟨9, [], 1823, tOf (mAwakeIn), .s (.bool true), 4021, g13 ++ []⟩
theorem mAwake_run : chkM (kFQ Tryz.prog (ovOr (mLoad.ovF mLoadIn) (ovOr (mParse.ovF mParseIn) ovB)) 1000000 1000 mAwake.f mAwake.args mAwake.n mAwake.h) mAwake.v mAwake.n' mAwake.hs = true := by kernel_rfl
theorem mAwake_ok : mAwake.OK Tryz.prog := Memo.of (kFQ_ok hm13 (ovOr_ok mLoad_ov (ovOr_ok mParse_ov ovB_ok)) 1000) mAwake_run
theorem mAwake_ov : OvOK Tryz.prog (mAwake.ovF mAwakeIn) := Memo.ovF_ok rfl mAwake_ok

end Go.Proofs.YtgbkllbaojkfmaaGreatDoor
