/-
  DevinfoPresence: its contract, whatever the arguments are.
-/
import Derived.Test.YtgbkllbaojkfmaaGreatDoorWt0
import Derived.Test.YtgbkllbaojkfmaaGreatDoorWt1
import Derived.Test.YtgbkllbaojkfmaaGreatDoorWt2
import Derived.Test.YtgbkllbaojkfmaaGreatDoorWt3
import Derived.Test.YtgbkllbaojkfmaaGreatDoorWt4
import Derived.Test.YtgbkllbaojkfmaaGreatDoorWt5
import Derived.Test.YtgbkllbaojkfmaaGreatDoorWt6
import Derived.Test.YtgbkllbaojkfmaaGreatDoorWt7
set_option linter.unusedSimpArgs false
set_option linter.unusedVariables false
namespace Go.Proofs.YtgbkllbaojkfmaaGreatDoor
open Go Ab
set_option maxRecDepth 100000

def gH : Hp := puts [] (toW g13)
/-- the arguments under the numbers 9, 10, 11 -/
def phG (a b c : Nat) : Ph := fun i => match i with | 2 => some (2, 0) | 3 => some (3, 0) | 4 => some (4, 0) | 9 => some (a, 0) | 10 => some (b, 0) | 11 => some (c, 0) | _ => none
theorem opq_r {a b c g z r : Nat} (hg : phG a b c g = some (z, 0)) (hz : z < 256) (hr : z % 2 = r) : Sr (phG a b c) (.opq .u8 (.v g) ⟨0, 255, some (2, r)⟩) (.int .u8 ((z : Nat) : Int)) :=
  ⟨z, by simp only [Tm.ev, hg, ev1], ⟨Nat.zero_le _, by show z ≤ 255; omega, fun d r' e => by
    have e : some (2, r) = some (d, r') := e
    simp only [Option.some.injEq, Prod.mk.injEq] at e
    obtain ⟨rfl, rfl⟩ := e; exact hr⟩, rfl⟩
theorem args_r {a b c r0 r1 r2 : Nat} (ha : a < 256) (hb : b < 256) (hc : c < 256) (h0 : a % 2 = r0) (h1 : b % 2 = r1) (h2 : c % 2 = r2) :
    All2 (Vr (phG a b c)) [.s (.opq .u8 (.v 9) ⟨0, 255, some (2, r0)⟩), .s (.opq .u8 (.v 10) ⟨0, 255, some (2, r1)⟩), .s (.opq .u8 (.v 11) ⟨0, 255, some (2, r2)⟩)] [.int .u8 ((a : Nat) : Int), .int .u8 ((b : Nat) : Int), .int .u8 ((c : Nat) : Int)] :=
  ⟨opq_r rfl ha h0, opq_r rfl hb h1, opq_r rfl hc h2, trivial⟩
theorem law_any {a b c : Nat} (ha : a < 256) (hb : b < 256) (hc : c < 256) : ∃ args n', SC Tryz.prog 3 args 12 gH (.s (.bool true)) n' gH ∧ All2 (Vr (phG a b c)) args [.int .u8 ((a : Nat) : Int), .int .u8 ((b : Nat) : Int), .int .u8 ((c : Nat) : Int)] := by
  rcases (show a % 2 = 0 ∨ a % 2 = 1 by omega) with h0 | h0 <;> rcases (show b % 2 = 0 ∨ b % 2 = 1 by omega) with h1 | h1 <;> rcases (show c % 2 = 0 ∨ c % 2 = 1 by omega) with h2 | h2
  · exact ⟨args0, _, law_sc0, args_r ha hb hc h0 h1 h2⟩
  · exact ⟨args4, _, law_sc4, args_r ha hb hc h0 h1 h2⟩
  · exact ⟨args2, _, law_sc2, args_r ha hb hc h0 h1 h2⟩
  · exact ⟨args6, _, law_sc6, args_r ha hb hc h0 h1 h2⟩
  · exact ⟨args1, _, law_sc1, args_r ha hb hc h0 h1 h2⟩
  · exact ⟨args5, _, law_sc5, args_r ha hb hc h0 h1 h2⟩
  · exact ⟨args3, _, law_sc3, args_r ha hb hc h0 h1 h2⟩
  · exact ⟨args7, _, law_sc7, args_r ha hb hc h0 h1 h2⟩

end Go.Proofs.YtgbkllbaojkfmaaGreatDoor
