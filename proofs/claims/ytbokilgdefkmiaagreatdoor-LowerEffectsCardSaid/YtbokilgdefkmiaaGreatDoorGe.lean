/-
  awake: its contract, out of the runs.
-/
import Derived.Test.YtbokilgdefkmiaaGreatDoorGd
set_option linter.unusedSimpArgs false
set_option linter.unusedVariables false
namespace Go.Proofs.YtbokilgdefkmiaaGreatDoor
open Go Ab
set_option maxRecDepth 100000

theorem hm : Tryz.prog.follows .mixedOrders = true := by kernel_rfl

theorem ext_ok : OvOK Tryz.prog ext14 := by
  intro f args n h r hr v n' h' e L hv oh oe
  unfold ext14 at hr
  split at hr
  · cases hr
  · rename_i hf
    have hf := Nat.eq_of_beq_eq_true hf
    subst hf
    split at hr
    · rename_i ha
      have ha := eqVs_ok ha
      subst ha
      cases hr; cases e
      refine ⟨L, hv, oh, rfl, Nat.le_refl _, XT.callOK ?_ rfl⟩
      intro φ xs w hx
      match xs, hx with
      | [x, y], ⟨h1, h2, _⟩ =>
        have h1 : x = .string ⟨[77].toArray⟩ := h1
        have h2 : y = .int .u8 46 := h2
        subst h1; subst h2
        refine ⟨.int .i64 0, ?_, rfl⟩
        rw [run_callFunc_extern (e := Extern.BytealgCount.count) Tryz.func204 (by kernel_rfl) rfl (by rfl) (by rfl)]
        rfl
    · cases hr

theorem scan_ok : mScan.OK Tryz.prog := Memo.of (kF_ok hm (kx_ok _) ext_ok 1000) scan_run
theorem parse_ok : mParse.OK Tryz.prog := Memo.of (kF_ok hm (kx_ok _) (ovOr_ok (Memo.ov_ok scan_ok) ext_ok) 1000) parse_run
def gH : Hp := puts [] (toW g0)
theorem awake_s : SC Tryz.prog 7 [] 6 gH (.s (.bool true)) 926 gH :=
  SC.ofRun (c := (Tryz.f7.body).getD .skip) hm (kx_ok _) (ovOr_ok (Memo.ov_ok parse_ok) ext_ok) Tryz.func7 (by rfl) awake_run (by kernel_rfl) (by kernel_rfl)

end Go.Proofs.YtbokilgdefkmiaaGreatDoor
