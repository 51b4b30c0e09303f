/-
  DevinfoPresence: the run at low bits 0 1 0.
-/
import Derived.Test.YtgbkllbaojkfmaaGreatDoorWm7
import Derived.Test.YtgbkllbaojkfmaaGreatDoorWn5
set_option linter.unusedSimpArgs false
set_option linter.unusedVariables false
namespace Go.Proofs.YtgbkllbaojkfmaaGreatDoor
open Go Ab
set_option maxRecDepth 100000
def args2 : List V := [.s (.opq .u8 (.v 9) ⟨0, 255, some (2, 0)⟩), .s (.opq .u8 (.v 10) ⟨0, 255, some (2, 1)⟩), .s (.opq .u8 (.v 11) ⟨0, 255, some (2, 0)⟩)]
theorem law_run2 : chkM (kRunQ Tryz.prog 1000000 (kFQ Tryz.prog (ovOr (mTab.ovW mTabIn [(9, 71, 21), (10, 71, 45), (11, 71, 69)]) (ovOr (mAwake.ovF mAwakeIn) ovB)) 1000000 1000) Tryz.f3 ((Tryz.f3.body).getD .skip) args2 12 (tOf g13)) (.s (.bool true)) 4121 g13 = true := by kernel_rfl
theorem law_sc2 : SC Tryz.prog 3 args2 12 (puts [] (toW g13)) (.s (.bool true)) 4121 (puts [] (toW g13)) :=
  SC.ofRunQ hm13 (ovOr_ok (Memo.ovW_ok rfl mTab_ok (by kernel_rfl)) (ovOr_ok mAwake_ov ovB_ok)) Tryz.func3 rfl law_run2 (by kernel_rfl) (by kernel_rfl)

end Go.Proofs.YtgbkllbaojkfmaaGreatDoor
