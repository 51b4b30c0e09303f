/-
  The embedded controller with its queue: its state, and the small functions on it.
-/
import Derived.Test.YtimebhllnemnbaaEb
set_option linter.unusedSimpArgs false
set_option linter.unusedVariables false
namespace Go.Proofs.Ytimebhllnemnbaa
open Go Ab
set_option maxRecDepth 100000

structure Cq where
  delay : Nat
  now : Nat
  regs : Nat → Nat
  pend : Bool
  isC : Bool
  inp : Nat
  due : Nat
  full : Bool
  out : Nat
  cmd : Nat
  hasA : Bool
  adr : Nat
  q : List Nat
/-- the cells; s is the queue's -/
def Cq.c (c : Cq) (s : S) : List S := u64 c.delay :: u64 c.now :: (mkL (fun i => .int .u8 ((c.regs i : Nat) : Int)) 0 256 ++ [s, .bool c.pend, .bool c.isC, .int .u8 ((c.inp : Nat) : Int), .int .u64 ((c.due : Nat) : Int), .bool c.full, .int .u8 ((c.out : Nat) : Int), .int .u8 ((c.cmd : Nat) : Int), .bool c.hasA, .int .u8 ((c.adr : Nat) : Int)])
def nilS : S := .slc none 0 (some 0)
def bN (c : Cq) : Bl := { cells := c.c nilS, ty := 64 }
def bQ (c : Cq) (i g : Nat) : Bl := { cells := c.c (.sla i g c.q.length), ty := 64 }
def qB (q : List Nat) (g : Nat) : Bl := { cells := q.map u8, ty := 5, more := true, sym := true, flat := true, gh := some (g, 1) }

theorem put_N (c : Cq) (v : Nat) : SC Try.prog 51 [pC, n8 v] 1 [(0, some (bN c))] (.tup []) 1 [(0, some (bN { c with full := true, out := v }))] := by
  refine SC.run hm Try.func51 rfl [] [] rfl rfl ?_ (.inr rfl) (EndOK.by rfl ⟨rfl, trivial⟩ rfl rfl rfl rfl)
  simp only [true_and, and_true]
theorem put_Q (c : Cq) (v : Nat) : SC Try.prog 51 [pC, n8 v] 3 [(0, some (bQ c 1 2))] (.tup []) 3 [(0, some (bQ { c with full := true, out := v } 1 2))] := by
  refine SC.run hm Try.func51 rfl [] [] rfl rfl ?_ (.inr rfl) (EndOK.by rfl ⟨rfl, trivial⟩ rfl rfl rfl rfl)
  simp only [true_and, and_true]

/-- a query is taken from the queue -/
theorem takeQuery_Q (c : Cq) (x : Nat) (r : List Nat) (hq : c.q = x :: r) : SC Try.prog 46 [pC, n8 132] 3 [(0, some (bQ c 1 2)), (1, some (qB c.q 2))] (.tup []) 5
    [(0, some (bQ { c with cmd := 0, hasA := false, full := true, out := x, q := r } 3 4)), (1, none), (3, some (qB r 4))] := by
  have hl : c.q.length = r.length + 1 := by rw [hq]; rfl
  refine SC.run hm Try.func46 rfl [.dec false, .dec false, .dec true, .dec true, .idx 0, .val (n8 x), .win 1 (r.length + 1) (r.map u8), .call [0, 3, 4] [pC, n8 x] [(0, some (bQ { c with cmd := 0, hasA := false, q := r } 1 2))] (.tup []) 3 [(0, some (bQ { c with cmd := 0, hasA := false, full := true, out := x, q := r } 1 2))]] [3, 4] rfl rfl ?_ (.inr rfl) (EndOK.move rfl ⟨rfl, rfl, trivial⟩ rfl rfl rfl rfl rfl)
  simp only [true_and, and_true, and_assoc, beq_eq_false_iff_ne, beq_iff_eq, ne_eq, decide_eq_false_iff_not]
  have e1 : Try.prog.types[5].size = 1 := by kernel_rfl
  rw [e1]
  refine ⟨by decide, by decide, rfl, by rw [hl]; exact decide_eq_true (by omega), rfl, by omega, ?_, rfl, hl.symm, by omega, by omega, ?_, ?_, by kernel_rfl, put_Q { c with cmd := 0, hasA := false, q := r } x, rfl, Fits.of rfl rfl ⟨⟨rfl, _, rfl, rfl, fun h => h⟩, trivial⟩⟩
  · show (match (c.q.map u8)[0]? with | some x => some (V.s x) | none => none) = _
    rw [hq]; rfl
  · show (r.length + 1) * 1 ≤ (c.q.map u8).length
    rw [List.length_map, hl]; omega
  · show r.map u8 = ((c.q.map u8).drop (1 * 1)).take ((r.length + 1 - 1) * 1)
    rw [hq, Nat.mul_one, Nat.add_sub_cancel]
    show r.map u8 = (r.map u8).take r.length
    rw [List.take_of_length_le (by rw [List.length_map]; exact Nat.le_refl _)]

end Go.Proofs.Ytimebhllnemnbaa
