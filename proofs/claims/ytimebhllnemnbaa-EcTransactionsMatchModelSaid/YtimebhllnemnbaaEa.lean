/-
  The embedded controller: its state, and the small functions on it, while no query is raised.
-/
import Derived.Test.YtimebhllnemnbaaRows
import Derived.Test.YtimebhllnemnbaaAb13
import Derived.KernelRfl
import Derived.Laws.Externs
set_option linter.unusedSimpArgs false
set_option linter.unusedVariables false
namespace Go.Proofs.Ytimebhllnemnbaa
open Go Ab
set_option maxRecDepth 100000

theorem hm : Try.prog.follows .mixedOrders = true := by decide +kernel

def mkL (f : Nat → S) : Nat → Nat → List S
  | _, 0 => []
  | i, n + 1 => f i :: mkL f (i + 1) n

structure Ct where
  delay : Nat
  now : Nat
  regs : Nat → Nat
  pend : Bool
  isC : Bool
  inp : Nat
  due : Nat
  full : Bool
  out : Nat
  cmd : Nat
  hasA : Bool
  adr : Nat
def u8 (n : Nat) : S := .int .u8 ((n : Nat) : Int)
def u64 (n : Nat) : S := .int .u64 ((n : Nat) : Int)
def Ct.c (c : Ct) : List S := u64 c.delay :: u64 c.now :: (mkL (fun i => .int .u8 ((c.regs i : Nat) : Int)) 0 256 ++ [.slc none 0 (some 0), .bool c.pend, .bool c.isC, .int .u8 ((c.inp : Nat) : Int), .int .u64 ((c.due : Nat) : Int), .bool c.full, .int .u8 ((c.out : Nat) : Int), .int .u8 ((c.cmd : Nat) : Int), .bool c.hasA, .int .u8 ((c.adr : Nat) : Int)])
def bC (c : Ct) : Bl := { cells := c.c, ty := 64 }

theorem put_s (c : Ct) (v : Nat) : SC Try.prog 51 [.s (.ptr (some (0, 0))), .s (.int .u8 ((v : Nat) : Int))] 1 [(0, some (bC c))] (.tup []) 1 [(0, some (bC { c with full := true, out := v }))] := by
  refine SC.run hm Try.func51 rfl [] [] rfl rfl ?_ (.inr rfl) (EndOK.by rfl ⟨rfl, trivial⟩ rfl rfl rfl rfl)
  simp only [true_and, and_true]

end Go.Proofs.Ytimebhllnemnbaa
