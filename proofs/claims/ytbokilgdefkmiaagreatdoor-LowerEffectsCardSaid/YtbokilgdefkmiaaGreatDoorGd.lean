/-
  awake: the run, Parse's outcome being known.
-/
import Derived.Test.YtbokilgdefkmiaaGreatDoorGc
set_option linter.unusedSimpArgs false
set_option linter.unusedVariables false
namespace Go.Proofs.YtbokilgdefkmiaaGreatDoor
open Go Ab
set_option maxRecDepth 100000
theorem awake_run : chkM (kRun Tryz.prog (kx Tryz.prog) 1000000 (kF Tryz.prog (kx Tryz.prog) (ovOr mParse.ov ext14) 1000000 1000) Tryz.f7 ((Tryz.f7.body).getD .skip) [] 6 (tOf g0)) (.s (.bool true)) 926 g0 = true := by kernel_rfl

end Go.Proofs.YtbokilgdefkmiaaGreatDoor
