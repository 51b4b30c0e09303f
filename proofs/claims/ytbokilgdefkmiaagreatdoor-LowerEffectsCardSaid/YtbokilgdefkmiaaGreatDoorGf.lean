/-
  Effect, both sides: what it returns.
-/
import Derived.Test.YtbokilgdefkmiaaGreatDoorGe
set_option linter.unusedSimpArgs false
set_option linter.unusedVariables false
namespace Go.Proofs.YtbokilgdefkmiaaGreatDoor
open Go Ab
set_option maxRecDepth 100000

def iN (v : Nat) : V := .s (.int .i64 ((v : Nat) : Int))
def iZ (v : Int) : V := .s (.int .i64 v)
def bV (b : Bool) : V := .s (.bool b)
def inC (z : Int) (n : Nat) (s : List UInt8) : List S := [.int .i64 z, .int .u64 ((n : Nat) : Int), .str s]
def inV (z : Int) (n : Nat) (s : List UInt8) : V := .agg (inC z n s)
def effT (k : Nat) (n : Nat) : Nat × Nat × Bool :=
  match k with
  | 1 => (0, 1, true) | 2 => (0, 1, true) | 3 => (0, 1, true) | 4 => (0, 1, true) | 6 => (0, 1, true) | 7 => (0, 1, true) | 8 => (0, 1, true) | 13 => (0, 1, true) | 14 => (0, 1, true) | 15 => (0, 1, true) | 22 => (0, 1, true) | 23 => (0, 1, true) | 29 => (0, 1, true)
  | 17 => (1, 1, true) | 18 => (1, 1, true) | 21 => (1, 1, true) | 31 => (1, 1, true)
  | 16 => (2, 1, true) | 19 => (2, 1, true)
  | 20 => (3, 1, true)
  | 27 => match Nat.ble n 7 with | true => (n, 1, true) | false => (0, 0, false)
  | 5 => (n % 256, 1, true)
  | 9 => (1, 0, true) | 10 => (1, 0, true) | 11 => (1, 0, true) | 25 => (1, 0, true) | 26 => (1, 0, true) | 34 => (1, 0, true) | 35 => (1, 0, true)
  | 12 => (2, 0, true)
  | 24 => (0, 0, true) | 30 => (0, 0, true) | 32 => (0, 0, true) | 33 => (0, 0, true)
  | 28 => match Nat.ble n 1 with | true => (n, 0, true) | false => (0, 0, false)
  | _ => (0, 0, false)
def effV (t : Nat × Nat × Bool) : V := .tup [.s (.int .i64 ((t.1 : Nat) : Int)), .s (.int .i64 ((t.2.1 : Nat) : Int)), .s (.bool t.2.2)]
def kOf (z : Int) : Nat := if 1 ≤ z ∧ z ≤ 35 then z.toNat else 0
theorem kOf_in {k : Nat} (h1 : 1 ≤ k) (h2 : k ≤ 35) : kOf (k : Int) = k := by unfold kOf; rw [if_pos ⟨by omega, by omega⟩]; simp
theorem ble_f {n m : Nat} (h : ¬ n ≤ m) : Nat.ble n m = false := by
  cases e : Nat.ble n m with
  | false => rfl
  | true => exact absurd (Nat.le_of_ble_eq_true e) h
theorem rem256 (n : Nat) : Int.tmod ((n : Nat) : Int) 256 = ((n % 256 : Nat) : Int) := by rw [Int.tmod_eq_emod_of_nonneg (by omega)]; omega
theorem e14_1 (n : Nat) (s : List UInt8) : SC Tryz.prog 14 [inV 1 n s] 0 [] (effV (effT 1 n)) 0 [] := by
  refine SC.run hm Tryz.func14 rfl [.dec true] [] rfl rfl ?_ (.inl rfl) (EndOK.plain rfl no_mem rfl rfl)
  simp only [true_and, and_true, and_assoc, decide_eq_true_eq, decide_eq_false_iff_not, ne_eq, beq_iff_eq, beq_eq_false_iff_ne, bne_eq_false_iff_eq, bne_iff_ne, bne_self_eq_false, beq_self_eq_true]
  repeat' apply And.intro
  all_goals first
    | exact True.intro
    | rfl
    | omega
    | (rw [rem256]; done)
    | (rw [i64_in] <;> omega)
    | (with_reducible show _ = true; kernel_rfl)
theorem e14_2 (n : Nat) (s : List UInt8) : SC Tryz.prog 14 [inV 2 n s] 0 [] (effV (effT 2 n)) 0 [] := by
  refine SC.run hm Tryz.func14 rfl [.dec false, .dec true] [] rfl rfl ?_ (.inl rfl) (EndOK.plain rfl no_mem rfl rfl)
  simp only [true_and, and_true, and_assoc, decide_eq_true_eq, decide_eq_false_iff_not, ne_eq, beq_iff_eq, beq_eq_false_iff_ne, bne_eq_false_iff_eq, bne_iff_ne, bne_self_eq_false, beq_self_eq_true]
  repeat' apply And.intro
  all_goals first
    | exact True.intro
    | rfl
    | omega
    | (rw [rem256]; done)
    | (rw [i64_in] <;> omega)
    | (with_reducible show _ = true; kernel_rfl)
theorem e14_3 (n : Nat) (s : List UInt8) : SC Tryz.prog 14 [inV 3 n s] 0 [] (effV (effT 3 n)) 0 [] := by
  refine SC.run hm Tryz.func14 rfl [.dec false, .dec false, .dec true] [] rfl rfl ?_ (.inl rfl) (EndOK.plain rfl no_mem rfl rfl)
  simp only [true_and, and_true, and_assoc, decide_eq_true_eq, decide_eq_false_iff_not, ne_eq, beq_iff_eq, beq_eq_false_iff_ne, bne_eq_false_iff_eq, bne_iff_ne, bne_self_eq_false, beq_self_eq_true]
  repeat' apply And.intro
  all_goals first
    | exact True.intro
    | rfl
    | omega
    | (rw [rem256]; done)
    | (rw [i64_in] <;> omega)
    | (with_reducible show _ = true; kernel_rfl)
theorem e14_4 (n : Nat) (s : List UInt8) : SC Tryz.prog 14 [inV 4 n s] 0 [] (effV (effT 4 n)) 0 [] := by
  refine SC.run hm Tryz.func14 rfl [.dec false, .dec false, .dec false, .dec false, .dec false, .dec false, .dec true] [] rfl rfl ?_ (.inl rfl) (EndOK.plain rfl no_mem rfl rfl)
  simp only [true_and, and_true, and_assoc, decide_eq_true_eq, decide_eq_false_iff_not, ne_eq, beq_iff_eq, beq_eq_false_iff_ne, bne_eq_false_iff_eq, bne_iff_ne, bne_self_eq_false, beq_self_eq_true]
  repeat' apply And.intro
  all_goals first
    | exact True.intro
    | rfl
    | omega
    | (rw [rem256]; done)
    | (rw [i64_in] <;> omega)
    | (with_reducible show _ = true; kernel_rfl)
theorem e14_5 (n : Nat) (s : List UInt8) : SC Tryz.prog 14 [inV 5 n s] 0 [] (effV (n % 256, 1, true)) 0 [] := by
  refine SC.run hm Tryz.func14 rfl [.dec false, .dec false, .dec false, .dec false, .dec false, .dec false, .dec false, .dec false, .dec false, .dec false, .dec false, .dec false, .dec false, .dec false, .dec false, .dec false, .dec false, .dec false, .dec false, .dec false, .dec false, .dec true, .num ((n % 256 : Nat) : Int), .num ((n % 256 : Nat) : Int)] [] rfl rfl ?_ (.inl rfl) (EndOK.plain rfl no_mem rfl rfl)
  simp only [true_and, and_true, and_assoc, decide_eq_true_eq, decide_eq_false_iff_not, ne_eq, beq_iff_eq, beq_eq_false_iff_ne, bne_eq_false_iff_eq, bne_iff_ne, bne_self_eq_false, beq_self_eq_true]
  repeat' apply And.intro
  all_goals first
    | exact True.intro
    | rfl
    | omega
    | (rw [rem256]; done)
    | (rw [i64_in] <;> omega)
    | (with_reducible show _ = true; kernel_rfl)
theorem e14_6 (n : Nat) (s : List UInt8) : SC Tryz.prog 14 [inV 6 n s] 0 [] (effV (effT 6 n)) 0 [] := by
  refine SC.run hm Tryz.func14 rfl [.dec false, .dec false, .dec false, .dec true] [] rfl rfl ?_ (.inl rfl) (EndOK.plain rfl no_mem rfl rfl)
  simp only [true_and, and_true, and_assoc, decide_eq_true_eq, decide_eq_false_iff_not, ne_eq, beq_iff_eq, beq_eq_false_iff_ne, bne_eq_false_iff_eq, bne_iff_ne, bne_self_eq_false, beq_self_eq_true]
  repeat' apply And.intro
  all_goals first
    | exact True.intro
    | rfl
    | omega
    | (rw [rem256]; done)
    | (rw [i64_in] <;> omega)
    | (with_reducible show _ = true; kernel_rfl)
theorem e14_7 (n : Nat) (s : List UInt8) : SC Tryz.prog 14 [inV 7 n s] 0 [] (effV (effT 7 n)) 0 [] := by
  refine SC.run hm Tryz.func14 rfl [.dec false, .dec false, .dec false, .dec false, .dec true] [] rfl rfl ?_ (.inl rfl) (EndOK.plain rfl no_mem rfl rfl)
  simp only [true_and, and_true, and_assoc, decide_eq_true_eq, decide_eq_false_iff_not, ne_eq, beq_iff_eq, beq_eq_false_iff_ne, bne_eq_false_iff_eq, bne_iff_ne, bne_self_eq_false, beq_self_eq_true]
  repeat' apply And.intro
  all_goals first
    | exact True.intro
    | rfl
    | omega
    | (rw [rem256]; done)
    | (rw [i64_in] <;> omega)
    | (with_reducible show _ = true; kernel_rfl)
theorem e14_8 (n : Nat) (s : List UInt8) : SC Tryz.prog 14 [inV 8 n s] 0 [] (effV (effT 8 n)) 0 [] := by
  refine SC.run hm Tryz.func14 rfl [.dec false, .dec false, .dec false, .dec false, .dec false, .dec true] [] rfl rfl ?_ (.inl rfl) (EndOK.plain rfl no_mem rfl rfl)
  simp only [true_and, and_true, and_assoc, decide_eq_true_eq, decide_eq_false_iff_not, ne_eq, beq_iff_eq, beq_eq_false_iff_ne, bne_eq_false_iff_eq, bne_iff_ne, bne_self_eq_false, beq_self_eq_true]
  repeat' apply And.intro
  all_goals first
    | exact True.intro
    | rfl
    | omega
    | (rw [rem256]; done)
    | (rw [i64_in] <;> omega)
    | (with_reducible show _ = true; kernel_rfl)
theorem e14_9 (n : Nat) (s : List UInt8) : SC Tryz.prog 14 [inV 9 n s] 0 [] (effV (effT 9 n)) 0 [] := by
  refine SC.run hm Tryz.func14 rfl [.dec false, .dec false, .dec false, .dec false, .dec false, .dec false, .dec false, .dec false, .dec false, .dec false, .dec false, .dec false, .dec false, .dec false, .dec false, .dec false, .dec false, .dec false, .dec false, .dec false, .dec false, .dec false, .dec true] [] rfl rfl ?_ (.inl rfl) (EndOK.plain rfl no_mem rfl rfl)
  simp only [true_and, and_true, and_assoc, decide_eq_true_eq, decide_eq_false_iff_not, ne_eq, beq_iff_eq, beq_eq_false_iff_ne, bne_eq_false_iff_eq, bne_iff_ne, bne_self_eq_false, beq_self_eq_true]
  repeat' apply And.intro
  all_goals first
    | exact True.intro
    | rfl
    | omega
    | (rw [rem256]; done)
    | (rw [i64_in] <;> omega)
    | (with_reducible show _ = true; kernel_rfl)
theorem e14_10 (n : Nat) (s : List UInt8) : SC Tryz.prog 14 [inV 10 n s] 0 [] (effV (effT 10 n)) 0 [] := by
  refine SC.run hm Tryz.func14 rfl [.dec false, .dec false, .dec false, .dec false, .dec false, .dec false, .dec false, .dec false, .dec false, .dec false, .dec false, .dec false, .dec false, .dec false, .dec false, .dec false, .dec false, .dec false, .dec false, .dec false, .dec false, .dec false, .dec false, .dec true] [] rfl rfl ?_ (.inl rfl) (EndOK.plain rfl no_mem rfl rfl)
  simp only [true_and, and_true, and_assoc, decide_eq_true_eq, decide_eq_false_iff_not, ne_eq, beq_iff_eq, beq_eq_false_iff_ne, bne_eq_false_iff_eq, bne_iff_ne, bne_self_eq_false, beq_self_eq_true]
  repeat' apply And.intro
  all_goals first
    | exact True.intro
    | rfl
    | omega
    | (rw [rem256]; done)
    | (rw [i64_in] <;> omega)
    | (with_reducible show _ = true; kernel_rfl)
theorem e14_11 (n : Nat) (s : List UInt8) : SC Tryz.prog 14 [inV 11 n s] 0 [] (effV (effT 11 n)) 0 [] := by
  refine SC.run hm Tryz.func14 rfl [.dec false, .dec false, .dec false, .dec false, .dec false, .dec false, .dec false, .dec false, .dec false, .dec false, .dec false, .dec false, .dec false, .dec false, .dec false, .dec false, .dec false, .dec false, .dec false, .dec false, .dec false, .dec false, .dec false, .dec false, .dec true] [] rfl rfl ?_ (.inl rfl) (EndOK.plain rfl no_mem rfl rfl)
  simp only [true_and, and_true, and_assoc, decide_eq_true_eq, decide_eq_false_iff_not, ne_eq, beq_iff_eq, beq_eq_false_iff_ne, bne_eq_false_iff_eq, bne_iff_ne, bne_self_eq_false, beq_self_eq_true]
  repeat' apply And.intro
  all_goals first
    | exact True.intro
    | rfl
    | omega
    | (rw [rem256]; done)
    | (rw [i64_in] <;> omega)
    | (with_reducible show _ = true; kernel_rfl)
theorem e14_12 (n : Nat) (s : List UInt8) : SC Tryz.prog 14 [inV 12 n s] 0 [] (effV (effT 12 n)) 0 [] := by
  refine SC.run hm Tryz.func14 rfl [.dec false, .dec false, .dec false, .dec false, .dec false, .dec false, .dec false, .dec false, .dec false, .dec false, .dec false, .dec false, .dec false, .dec false, .dec false, .dec false, .dec false, .dec false, .dec false, .dec false, .dec false, .dec false, .dec false, .dec false, .dec false, .dec false, .dec false, .dec false, .dec false, .dec true] [] rfl rfl ?_ (.inl rfl) (EndOK.plain rfl no_mem rfl rfl)
  simp only [true_and, and_true, and_assoc, decide_eq_true_eq, decide_eq_false_iff_not, ne_eq, beq_iff_eq, beq_eq_false_iff_ne, bne_eq_false_iff_eq, bne_iff_ne, bne_self_eq_false, beq_self_eq_true]
  repeat' apply And.intro
  all_goals first
    | exact True.intro
    | rfl
    | omega
    | (rw [rem256]; done)
    | (rw [i64_in] <;> omega)
    | (with_reducible show _ = true; kernel_rfl)
theorem e14_13 (n : Nat) (s : List UInt8) : SC Tryz.prog 14 [inV 13 n s] 0 [] (effV (effT 13 n)) 0 [] := by
  refine SC.run hm Tryz.func14 rfl [.dec false, .dec false, .dec false, .dec false, .dec false, .dec false, .dec false, .dec true] [] rfl rfl ?_ (.inl rfl) (EndOK.plain rfl no_mem rfl rfl)
  simp only [true_and, and_true, and_assoc, decide_eq_true_eq, decide_eq_false_iff_not, ne_eq, beq_iff_eq, beq_eq_false_iff_ne, bne_eq_false_iff_eq, bne_iff_ne, bne_self_eq_false, beq_self_eq_true]
  repeat' apply And.intro
  all_goals first
    | exact True.intro
    | rfl
    | omega
    | (rw [rem256]; done)
    | (rw [i64_in] <;> omega)
    | (with_reducible show _ = true; kernel_rfl)
theorem e14_14 (n : Nat) (s : List UInt8) : SC Tryz.prog 14 [inV 14 n s] 0 [] (effV (effT 14 n)) 0 [] := by
  refine SC.run hm Tryz.func14 rfl [.dec false, .dec false, .dec false, .dec false, .dec false, .dec false, .dec false, .dec false, .dec true] [] rfl rfl ?_ (.inl rfl) (EndOK.plain rfl no_mem rfl rfl)
  simp only [true_and, and_true, and_assoc, decide_eq_true_eq, decide_eq_false_iff_not, ne_eq, beq_iff_eq, beq_eq_false_iff_ne, bne_eq_false_iff_eq, bne_iff_ne, bne_self_eq_false, beq_self_eq_true]
  repeat' apply And.intro
  all_goals first
    | exact True.intro
    | rfl
    | omega
    | (rw [rem256]; done)
    | (rw [i64_in] <;> omega)
    | (with_reducible show _ = true; kernel_rfl)
theorem e14_15 (n : Nat) (s : List UInt8) : SC Tryz.prog 14 [inV 15 n s] 0 [] (effV (effT 15 n)) 0 [] := by
  refine SC.run hm Tryz.func14 rfl [.dec false, .dec false, .dec false, .dec false, .dec false, .dec false, .dec false, .dec false, .dec false, .dec true] [] rfl rfl ?_ (.inl rfl) (EndOK.plain rfl no_mem rfl rfl)
  simp only [true_and, and_true, and_assoc, decide_eq_true_eq, decide_eq_false_iff_not, ne_eq, beq_iff_eq, beq_eq_false_iff_ne, bne_eq_false_iff_eq, bne_iff_ne, bne_self_eq_false, beq_self_eq_true]
  repeat' apply And.intro
  all_goals first
    | exact True.intro
    | rfl
    | omega
    | (rw [rem256]; done)
    | (rw [i64_in] <;> omega)
    | (with_reducible show _ = true; kernel_rfl)
theorem e14_16 (n : Nat) (s : List UInt8) : SC Tryz.prog 14 [inV 16 n s] 0 [] (effV (effT 16 n)) 0 [] := by
  refine SC.run hm Tryz.func14 rfl [.dec false, .dec false, .dec false, .dec false, .dec false, .dec false, .dec false, .dec false, .dec false, .dec false, .dec false, .dec false, .dec false, .dec false, .dec false, .dec false, .dec false, .dec false, .dec true] [] rfl rfl ?_ (.inl rfl) (EndOK.plain rfl no_mem rfl rfl)
  simp only [true_and, and_true, and_assoc, decide_eq_true_eq, decide_eq_false_iff_not, ne_eq, beq_iff_eq, beq_eq_false_iff_ne, bne_eq_false_iff_eq, bne_iff_ne, bne_self_eq_false, beq_self_eq_true]
  repeat' apply And.intro
  all_goals first
    | exact True.intro
    | rfl
    | omega
    | (rw [rem256]; done)
    | (rw [i64_in] <;> omega)
    | (with_reducible show _ = true; kernel_rfl)
theorem e14_17 (n : Nat) (s : List UInt8) : SC Tryz.prog 14 [inV 17 n s] 0 [] (effV (effT 17 n)) 0 [] := by
  refine SC.run hm Tryz.func14 rfl [.dec false, .dec false, .dec false, .dec false, .dec false, .dec false, .dec false, .dec false, .dec false, .dec false, .dec false, .dec false, .dec false, .dec false, .dec true] [] rfl rfl ?_ (.inl rfl) (EndOK.plain rfl no_mem rfl rfl)
  simp only [true_and, and_true, and_assoc, decide_eq_true_eq, decide_eq_false_iff_not, ne_eq, beq_iff_eq, beq_eq_false_iff_ne, bne_eq_false_iff_eq, bne_iff_ne, bne_self_eq_false, beq_self_eq_true]
  repeat' apply And.intro
  all_goals first
    | exact True.intro
    | rfl
    | omega
    | (rw [rem256]; done)
    | (rw [i64_in] <;> omega)
    | (with_reducible show _ = true; kernel_rfl)
theorem e14_18 (n : Nat) (s : List UInt8) : SC Tryz.prog 14 [inV 18 n s] 0 [] (effV (effT 18 n)) 0 [] := by
  refine SC.run hm Tryz.func14 rfl [.dec false, .dec false, .dec false, .dec false, .dec false, .dec false, .dec false, .dec false, .dec false, .dec false, .dec false, .dec false, .dec false, .dec true] [] rfl rfl ?_ (.inl rfl) (EndOK.plain rfl no_mem rfl rfl)
  simp only [true_and, and_true, and_assoc, decide_eq_true_eq, decide_eq_false_iff_not, ne_eq, beq_iff_eq, beq_eq_false_iff_ne, bne_eq_false_iff_eq, bne_iff_ne, bne_self_eq_false, beq_self_eq_true]
  repeat' apply And.intro
  all_goals first
    | exact True.intro
    | rfl
    | omega
    | (rw [rem256]; done)
    | (rw [i64_in] <;> omega)
    | (with_reducible show _ = true; kernel_rfl)
theorem e14_19 (n : Nat) (s : List UInt8) : SC Tryz.prog 14 [inV 19 n s] 0 [] (effV (effT 19 n)) 0 [] := by
  refine SC.run hm Tryz.func14 rfl [.dec false, .dec false, .dec false, .dec false, .dec false, .dec false, .dec false, .dec false, .dec false, .dec false, .dec false, .dec false, .dec false, .dec false, .dec false, .dec false, .dec false, .dec true] [] rfl rfl ?_ (.inl rfl) (EndOK.plain rfl no_mem rfl rfl)
  simp only [true_and, and_true, and_assoc, decide_eq_true_eq, decide_eq_false_iff_not, ne_eq, beq_iff_eq, beq_eq_false_iff_ne, bne_eq_false_iff_eq, bne_iff_ne, bne_self_eq_false, beq_self_eq_true]
  repeat' apply And.intro
  all_goals first
    | exact True.intro
    | rfl
    | omega
    | (rw [rem256]; done)
    | (rw [i64_in] <;> omega)
    | (with_reducible show _ = true; kernel_rfl)
theorem e14_20 (n : Nat) (s : List UInt8) : SC Tryz.prog 14 [inV 20 n s] 0 [] (effV (effT 20 n)) 0 [] := by
  refine SC.run hm Tryz.func14 rfl [.dec false, .dec false, .dec false, .dec false, .dec false, .dec false, .dec false, .dec false, .dec false, .dec false, .dec false, .dec false, .dec false, .dec false, .dec false, .dec false, .dec false, .dec false, .dec false, .dec true] [] rfl rfl ?_ (.inl rfl) (EndOK.plain rfl no_mem rfl rfl)
  simp only [true_and, and_true, and_assoc, decide_eq_true_eq, decide_eq_false_iff_not, ne_eq, beq_iff_eq, beq_eq_false_iff_ne, bne_eq_false_iff_eq, bne_iff_ne, bne_self_eq_false, beq_self_eq_true]
  repeat' apply And.intro
  all_goals first
    | exact True.intro
    | rfl
    | omega
    | (rw [rem256]; done)
    | (rw [i64_in] <;> omega)
    | (with_reducible show _ = true; kernel_rfl)
theorem e14_21 (n : Nat) (s : List UInt8) : SC Tryz.prog 14 [inV 21 n s] 0 [] (effV (effT 21 n)) 0 [] := by
  refine SC.run hm Tryz.func14 rfl [.dec false, .dec false, .dec false, .dec false, .dec false, .dec false, .dec false, .dec false, .dec false, .dec false, .dec false, .dec false, .dec false, .dec false, .dec false, .dec true] [] rfl rfl ?_ (.inl rfl) (EndOK.plain rfl no_mem rfl rfl)
  simp only [true_and, and_true, and_assoc, decide_eq_true_eq, decide_eq_false_iff_not, ne_eq, beq_iff_eq, beq_eq_false_iff_ne, bne_eq_false_iff_eq, bne_iff_ne, bne_self_eq_false, beq_self_eq_true]
  repeat' apply And.intro
  all_goals first
    | exact True.intro
    | rfl
    | omega
    | (rw [rem256]; done)
    | (rw [i64_in] <;> omega)
    | (with_reducible show _ = true; kernel_rfl)
theorem e14_22 (n : Nat) (s : List UInt8) : SC Tryz.prog 14 [inV 22 n s] 0 [] (effV (effT 22 n)) 0 [] := by
  refine SC.run hm Tryz.func14 rfl [.dec false, .dec false, .dec false, .dec false, .dec false, .dec false, .dec false, .dec false, .dec false, .dec false, .dec true] [] rfl rfl ?_ (.inl rfl) (EndOK.plain rfl no_mem rfl rfl)
  simp only [true_and, and_true, and_assoc, decide_eq_true_eq, decide_eq_false_iff_not, ne_eq, beq_iff_eq, beq_eq_false_iff_ne, bne_eq_false_iff_eq, bne_iff_ne, bne_self_eq_false, beq_self_eq_true]
  repeat' apply And.intro
  all_goals first
    | exact True.intro
    | rfl
    | omega
    | (rw [rem256]; done)
    | (rw [i64_in] <;> omega)
    | (with_reducible show _ = true; kernel_rfl)
theorem e14_23 (n : Nat) (s : List UInt8) : SC Tryz.prog 14 [inV 23 n s] 0 [] (effV (effT 23 n)) 0 [] := by
  refine SC.run hm Tryz.func14 rfl [.dec false, .dec false, .dec false, .dec false, .dec false, .dec false, .dec false, .dec false, .dec false, .dec false, .dec false, .dec true] [] rfl rfl ?_ (.inl rfl) (EndOK.plain rfl no_mem rfl rfl)
  simp only [true_and, and_true, and_assoc, decide_eq_true_eq, decide_eq_false_iff_not, ne_eq, beq_iff_eq, beq_eq_false_iff_ne, bne_eq_false_iff_eq, bne_iff_ne, bne_self_eq_false, beq_self_eq_true]
  repeat' apply And.intro
  all_goals first
    | exact True.intro
    | rfl
    | omega
    | (rw [rem256]; done)
    | (rw [i64_in] <;> omega)
    | (with_reducible show _ = true; kernel_rfl)
theorem e14_24 (n : Nat) (s : List UInt8) : SC Tryz.prog 14 [inV 24 n s] 0 [] (effV (effT 24 n)) 0 [] := by
  refine SC.run hm Tryz.func14 rfl [.dec false, .dec false, .dec false, .dec false, .dec false, .dec false, .dec false, .dec false, .dec false, .dec false, .dec false, .dec false, .dec false, .dec false, .dec false, .dec false, .dec false, .dec false, .dec false, .dec false, .dec false, .dec false, .dec false, .dec false, .dec false, .dec false, .dec false, .dec false, .dec false, .dec false, .dec true] [] rfl rfl ?_ (.inl rfl) (EndOK.plain rfl no_mem rfl rfl)
  simp only [true_and, and_true, and_assoc, decide_eq_true_eq, decide_eq_false_iff_not, ne_eq, beq_iff_eq, beq_eq_false_iff_ne, bne_eq_false_iff_eq, bne_iff_ne, bne_self_eq_false, beq_self_eq_true]
  repeat' apply And.intro
  all_goals first
    | exact True.intro
    | rfl
    | omega
    | (rw [rem256]; done)
    | (rw [i64_in] <;> omega)
    | (with_reducible show _ = true; kernel_rfl)
theorem e14_25 (n : Nat) (s : List UInt8) : SC Tryz.prog 14 [inV 25 n s] 0 [] (effV (effT 25 n)) 0 [] := by
  refine SC.run hm Tryz.func14 rfl [.dec false, .dec false, .dec false, .dec false, .dec false, .dec false, .dec false, .dec false, .dec false, .dec false, .dec false, .dec false, .dec false, .dec false, .dec false, .dec false, .dec false, .dec false, .dec false, .dec false, .dec false, .dec false, .dec false, .dec false, .dec false, .dec true] [] rfl rfl ?_ (.inl rfl) (EndOK.plain rfl no_mem rfl rfl)
  simp only [true_and, and_true, and_assoc, decide_eq_true_eq, decide_eq_false_iff_not, ne_eq, beq_iff_eq, beq_eq_false_iff_ne, bne_eq_false_iff_eq, bne_iff_ne, bne_self_eq_false, beq_self_eq_true]
  repeat' apply And.intro
  all_goals first
    | exact True.intro
    | rfl
    | omega
    | (rw [rem256]; done)
    | (rw [i64_in] <;> omega)
    | (with_reducible show _ = true; kernel_rfl)
theorem e14_26 (n : Nat) (s : List UInt8) : SC Tryz.prog 14 [inV 26 n s] 0 [] (effV (effT 26 n)) 0 [] := by
  refine SC.run hm Tryz.func14 rfl [.dec false, .dec false, .dec false, .dec false, .dec false, .dec false, .dec false, .dec false, .dec false, .dec false, .dec false, .dec false, .dec false, .dec false, .dec false, .dec false, .dec false, .dec false, .dec false, .dec false, .dec false, .dec false, .dec false, .dec false, .dec false, .dec false, .dec true] [] rfl rfl ?_ (.inl rfl) (EndOK.plain rfl no_mem rfl rfl)
  simp only [true_and, and_true, and_assoc, decide_eq_true_eq, decide_eq_false_iff_not, ne_eq, beq_iff_eq, beq_eq_false_iff_ne, bne_eq_false_iff_eq, bne_iff_ne, bne_self_eq_false, beq_self_eq_true]
  repeat' apply And.intro
  all_goals first
    | exact True.intro
    | rfl
    | omega
    | (rw [rem256]; done)
    | (rw [i64_in] <;> omega)
    | (with_reducible show _ = true; kernel_rfl)
theorem e14_27a (n : Nat) (s : List UInt8) (h : n ≤ 7) : SC Tryz.prog 14 [inV 27 n s] 0 [] (effV (n, 1, true)) 0 [] := by
  refine SC.run hm Tryz.func14 rfl [.dec false, .dec false, .dec false, .dec false, .dec false, .dec false, .dec false, .dec false, .dec false, .dec false, .dec false, .dec false, .dec false, .dec false, .dec false, .dec false, .dec false, .dec false, .dec false, .dec false, .dec true, .dec true, .num ((n : Nat) : Int)] [] rfl rfl ?_ (.inl rfl) (EndOK.plain rfl no_mem rfl rfl)
  simp only [true_and, and_true, and_assoc, decide_eq_true_eq, decide_eq_false_iff_not, ne_eq, beq_iff_eq, beq_eq_false_iff_ne, bne_eq_false_iff_eq, bne_iff_ne, bne_self_eq_false, beq_self_eq_true]
  repeat' apply And.intro
  all_goals first
    | exact True.intro
    | rfl
    | omega
    | (rw [rem256]; done)
    | (rw [i64_in] <;> omega)
    | (with_reducible show _ = true; kernel_rfl)
theorem e14_27b (n : Nat) (s : List UInt8) (h : ¬ n ≤ 7) : SC Tryz.prog 14 [inV 27 n s] 0 [] (effV (0, 0, false)) 0 [] := by
  refine SC.run hm Tryz.func14 rfl [.dec false, .dec false, .dec false, .dec false, .dec false, .dec false, .dec false, .dec false, .dec false, .dec false, .dec false, .dec false, .dec false, .dec false, .dec false, .dec false, .dec false, .dec false, .dec false, .dec false, .dec true, .dec false] [] rfl rfl ?_ (.inl rfl) (EndOK.plain rfl no_mem rfl rfl)
  simp only [true_and, and_true, and_assoc, decide_eq_true_eq, decide_eq_false_iff_not, ne_eq, beq_iff_eq, beq_eq_false_iff_ne, bne_eq_false_iff_eq, bne_iff_ne, bne_self_eq_false, beq_self_eq_true]
  repeat' apply And.intro
  all_goals first
    | exact True.intro
    | rfl
    | omega
    | (rw [rem256]; done)
    | (rw [i64_in] <;> omega)
    | (with_reducible show _ = true; kernel_rfl)
theorem e14_27 (n : Nat) (s : List UInt8) : SC Tryz.prog 14 [inV 27 n s] 0 [] (effV (effT 27 n)) 0 [] := by
  by_cases h : n ≤ 7
  · have := e14_27a n s h; simp only [effT, Nat.ble_eq_true_of_le h]; exact this
  · have := e14_27b n s h; simp only [effT, ble_f h]; exact this
theorem e14_28a (n : Nat) (s : List UInt8) (h : n ≤ 1) : SC Tryz.prog 14 [inV 28 n s] 0 [] (effV (n, 0, true)) 0 [] := by
  refine SC.run hm Tryz.func14 rfl [.dec false, .dec false, .dec false, .dec false, .dec false, .dec false, .dec false, .dec false, .dec false, .dec false, .dec false, .dec false, .dec false, .dec false, .dec false, .dec false, .dec false, .dec false, .dec false, .dec false, .dec false, .dec false, .dec false, .dec false, .dec false, .dec false, .dec false, .dec false, .dec false, .dec false, .dec false, .dec false, .dec false, .dec false, .dec true, .dec true, .num ((n : Nat) : Int)] [] rfl rfl ?_ (.inl rfl) (EndOK.plain rfl no_mem rfl rfl)
  simp only [true_and, and_true, and_assoc, decide_eq_true_eq, decide_eq_false_iff_not, ne_eq, beq_iff_eq, beq_eq_false_iff_ne, bne_eq_false_iff_eq, bne_iff_ne, bne_self_eq_false, beq_self_eq_true]
  repeat' apply And.intro
  all_goals first
    | exact True.intro
    | rfl
    | omega
    | (rw [rem256]; done)
    | (rw [i64_in] <;> omega)
    | (with_reducible show _ = true; kernel_rfl)
theorem e14_28b (n : Nat) (s : List UInt8) (h : ¬ n ≤ 1) : SC Tryz.prog 14 [inV 28 n s] 0 [] (effV (0, 0, false)) 0 [] := by
  refine SC.run hm Tryz.func14 rfl [.dec false, .dec false, .dec false, .dec false, .dec false, .dec false, .dec false, .dec false, .dec false, .dec false, .dec false, .dec false, .dec false, .dec false, .dec false, .dec false, .dec false, .dec false, .dec false, .dec false, .dec false, .dec false, .dec false, .dec false, .dec false, .dec false, .dec false, .dec false, .dec false, .dec false, .dec false, .dec false, .dec false, .dec false, .dec true, .dec false] [] rfl rfl ?_ (.inl rfl) (EndOK.plain rfl no_mem rfl rfl)
  simp only [true_and, and_true, and_assoc, decide_eq_true_eq, decide_eq_false_iff_not, ne_eq, beq_iff_eq, beq_eq_false_iff_ne, bne_eq_false_iff_eq, bne_iff_ne, bne_self_eq_false, beq_self_eq_true]
  repeat' apply And.intro
  all_goals first
    | exact True.intro
    | rfl
    | omega
    | (rw [rem256]; done)
    | (rw [i64_in] <;> omega)
    | (with_reducible show _ = true; kernel_rfl)
theorem e14_28 (n : Nat) (s : List UInt8) : SC Tryz.prog 14 [inV 28 n s] 0 [] (effV (effT 28 n)) 0 [] := by
  by_cases h : n ≤ 1
  · have := e14_28a n s h; simp only [effT, Nat.ble_eq_true_of_le h]; exact this
  · have := e14_28b n s h; simp only [effT, ble_f h]; exact this
theorem e14_29 (n : Nat) (s : List UInt8) : SC Tryz.prog 14 [inV 29 n s] 0 [] (effV (effT 29 n)) 0 [] := by
  refine SC.run hm Tryz.func14 rfl [.dec false, .dec false, .dec false, .dec false, .dec false, .dec false, .dec false, .dec false, .dec false, .dec false, .dec false, .dec false, .dec true] [] rfl rfl ?_ (.inl rfl) (EndOK.plain rfl no_mem rfl rfl)
  simp only [true_and, and_true, and_assoc, decide_eq_true_eq, decide_eq_false_iff_not, ne_eq, beq_iff_eq, beq_eq_false_iff_ne, bne_eq_false_iff_eq, bne_iff_ne, bne_self_eq_false, beq_self_eq_true]
  repeat' apply And.intro
  all_goals first
    | exact True.intro
    | rfl
    | omega
    | (rw [rem256]; done)
    | (rw [i64_in] <;> omega)
    | (with_reducible show _ = true; kernel_rfl)
theorem e14_30 (n : Nat) (s : List UInt8) : SC Tryz.prog 14 [inV 30 n s] 0 [] (effV (effT 30 n)) 0 [] := by
  refine SC.run hm Tryz.func14 rfl [.dec false, .dec false, .dec false, .dec false, .dec false, .dec false, .dec false, .dec false, .dec false, .dec false, .dec false, .dec false, .dec false, .dec false, .dec false, .dec false, .dec false, .dec false, .dec false, .dec false, .dec false, .dec false, .dec false, .dec false, .dec false, .dec false, .dec false, .dec false, .dec false, .dec false, .dec false, .dec true] [] rfl rfl ?_ (.inl rfl) (EndOK.plain rfl no_mem rfl rfl)
  simp only [true_and, and_true, and_assoc, decide_eq_true_eq, decide_eq_false_iff_not, ne_eq, beq_iff_eq, beq_eq_false_iff_ne, bne_eq_false_iff_eq, bne_iff_ne, bne_self_eq_false, beq_self_eq_true]
  repeat' apply And.intro
  all_goals first
    | exact True.intro
    | rfl
    | omega
    | (rw [rem256]; done)
    | (rw [i64_in] <;> omega)
    | (with_reducible show _ = true; kernel_rfl)
theorem e14_31 (n : Nat) (s : List UInt8) : SC Tryz.prog 14 [inV 31 n s] 0 [] (effV (effT 31 n)) 0 [] := by
  refine SC.run hm Tryz.func14 rfl [.dec false, .dec false, .dec false, .dec false, .dec false, .dec false, .dec false, .dec false, .dec false, .dec false, .dec false, .dec false, .dec false, .dec false, .dec false, .dec false, .dec true] [] rfl rfl ?_ (.inl rfl) (EndOK.plain rfl no_mem rfl rfl)
  simp only [true_and, and_true, and_assoc, decide_eq_true_eq, decide_eq_false_iff_not, ne_eq, beq_iff_eq, beq_eq_false_iff_ne, bne_eq_false_iff_eq, bne_iff_ne, bne_self_eq_false, beq_self_eq_true]
  repeat' apply And.intro
  all_goals first
    | exact True.intro
    | rfl
    | omega
    | (rw [rem256]; done)
    | (rw [i64_in] <;> omega)
    | (with_reducible show _ = true; kernel_rfl)
theorem e14_32 (n : Nat) (s : List UInt8) : SC Tryz.prog 14 [inV 32 n s] 0 [] (effV (effT 32 n)) 0 [] := by
  refine SC.run hm Tryz.func14 rfl [.dec false, .dec false, .dec false, .dec false, .dec false, .dec false, .dec false, .dec false, .dec false, .dec false, .dec false, .dec false, .dec false, .dec false, .dec false, .dec false, .dec false, .dec false, .dec false, .dec false, .dec false, .dec false, .dec false, .dec false, .dec false, .dec false, .dec false, .dec false, .dec false, .dec false, .dec false, .dec false, .dec true] [] rfl rfl ?_ (.inl rfl) (EndOK.plain rfl no_mem rfl rfl)
  simp only [true_and, and_true, and_assoc, decide_eq_true_eq, decide_eq_false_iff_not, ne_eq, beq_iff_eq, beq_eq_false_iff_ne, bne_eq_false_iff_eq, bne_iff_ne, bne_self_eq_false, beq_self_eq_true]
  repeat' apply And.intro
  all_goals first
    | exact True.intro
    | rfl
    | omega
    | (rw [rem256]; done)
    | (rw [i64_in] <;> omega)
    | (with_reducible show _ = true; kernel_rfl)
theorem e14_33 (n : Nat) (s : List UInt8) : SC Tryz.prog 14 [inV 33 n s] 0 [] (effV (effT 33 n)) 0 [] := by
  refine SC.run hm Tryz.func14 rfl [.dec false, .dec false, .dec false, .dec false, .dec false, .dec false, .dec false, .dec false, .dec false, .dec false, .dec false, .dec false, .dec false, .dec false, .dec false, .dec false, .dec false, .dec false, .dec false, .dec false, .dec false, .dec false, .dec false, .dec false, .dec false, .dec false, .dec false, .dec false, .dec false, .dec false, .dec false, .dec false, .dec false, .dec true] [] rfl rfl ?_ (.inl rfl) (EndOK.plain rfl no_mem rfl rfl)
  simp only [true_and, and_true, and_assoc, decide_eq_true_eq, decide_eq_false_iff_not, ne_eq, beq_iff_eq, beq_eq_false_iff_ne, bne_eq_false_iff_eq, bne_iff_ne, bne_self_eq_false, beq_self_eq_true]
  repeat' apply And.intro
  all_goals first
    | exact True.intro
    | rfl
    | omega
    | (rw [rem256]; done)
    | (rw [i64_in] <;> omega)
    | (with_reducible show _ = true; kernel_rfl)
theorem e14_34 (n : Nat) (s : List UInt8) : SC Tryz.prog 14 [inV 34 n s] 0 [] (effV (effT 34 n)) 0 [] := by
  refine SC.run hm Tryz.func14 rfl [.dec false, .dec false, .dec false, .dec false, .dec false, .dec false, .dec false, .dec false, .dec false, .dec false, .dec false, .dec false, .dec false, .dec false, .dec false, .dec false, .dec false, .dec false, .dec false, .dec false, .dec false, .dec false, .dec false, .dec false, .dec false, .dec false, .dec false, .dec true] [] rfl rfl ?_ (.inl rfl) (EndOK.plain rfl no_mem rfl rfl)
  simp only [true_and, and_true, and_assoc, decide_eq_true_eq, decide_eq_false_iff_not, ne_eq, beq_iff_eq, beq_eq_false_iff_ne, bne_eq_false_iff_eq, bne_iff_ne, bne_self_eq_false, beq_self_eq_true]
  repeat' apply And.intro
  all_goals first
    | exact True.intro
    | rfl
    | omega
    | (rw [rem256]; done)
    | (rw [i64_in] <;> omega)
    | (with_reducible show _ = true; kernel_rfl)
theorem e14_35 (n : Nat) (s : List UInt8) : SC Tryz.prog 14 [inV 35 n s] 0 [] (effV (effT 35 n)) 0 [] := by
  refine SC.run hm Tryz.func14 rfl [.dec false, .dec false, .dec false, .dec false, .dec false, .dec false, .dec false, .dec false, .dec false, .dec false, .dec false, .dec false, .dec false, .dec false, .dec false, .dec false, .dec false, .dec false, .dec false, .dec false, .dec false, .dec false, .dec false, .dec false, .dec false, .dec false, .dec false, .dec false, .dec true] [] rfl rfl ?_ (.inl rfl) (EndOK.plain rfl no_mem rfl rfl)
  simp only [true_and, and_true, and_assoc, decide_eq_true_eq, decide_eq_false_iff_not, ne_eq, beq_iff_eq, beq_eq_false_iff_ne, bne_eq_false_iff_eq, bne_iff_ne, bne_self_eq_false, beq_self_eq_true]
  repeat' apply And.intro
  all_goals first
    | exact True.intro
    | rfl
    | omega
    | (rw [rem256]; done)
    | (rw [i64_in] <;> omega)
    | (with_reducible show _ = true; kernel_rfl)
theorem e14_x (n : Nat) (s : List UInt8) (z : Int) (h : ¬ (1 ≤ z ∧ z ≤ 35)) : SC Tryz.prog 14 [inV z n s] 0 [] (effV (0, 0, false)) 0 [] := by
  refine SC.run hm Tryz.func14 rfl [.dec false, .dec false, .dec false, .dec false, .dec false, .dec false, .dec false, .dec false, .dec false, .dec false, .dec false, .dec false, .dec false, .dec false, .dec false, .dec false, .dec false, .dec false, .dec false, .dec false, .dec false, .dec false, .dec false, .dec false, .dec false, .dec false, .dec false, .dec false, .dec false, .dec false, .dec false, .dec false, .dec false, .dec false, .dec false] [] rfl rfl ?_ (.inl rfl) (EndOK.plain rfl no_mem rfl rfl)
  simp only [true_and, and_true, and_assoc, decide_eq_true_eq, decide_eq_false_iff_not, ne_eq, beq_iff_eq, beq_eq_false_iff_ne, bne_eq_false_iff_eq, bne_iff_ne, bne_self_eq_false, beq_self_eq_true]
  repeat' apply And.intro
  all_goals first
    | exact True.intro
    | rfl
    | omega
    | (rw [rem256]; done)
    | (rw [i64_in] <;> omega)
    | (with_reducible show _ = true; kernel_rfl)
theorem eff14_s (z : Int) (n : Nat) (s : List UInt8) : SC Tryz.prog 14 [inV z n s] 0 [] (effV (effT (kOf z) n)) 0 [] := by
  by_cases h : 1 ≤ z ∧ z ≤ 35
  · obtain ⟨k, rfl⟩ : ∃ k : Nat, z = (k : Int) := ⟨z.toNat, by omega⟩
    rw [kOf_in (by omega) (by omega)]
    have hk : k = 1 ∨ k = 2 ∨ k = 3 ∨ k = 4 ∨ k = 5 ∨ k = 6 ∨ k = 7 ∨ k = 8 ∨ k = 9 ∨ k = 10 ∨ k = 11 ∨ k = 12 ∨ k = 13 ∨ k = 14 ∨ k = 15 ∨ k = 16 ∨ k = 17 ∨ k = 18 ∨ k = 19 ∨ k = 20 ∨ k = 21 ∨ k = 22 ∨ k = 23 ∨ k = 24 ∨ k = 25 ∨ k = 26 ∨ k = 27 ∨ k = 28 ∨ k = 29 ∨ k = 30 ∨ k = 31 ∨ k = 32 ∨ k = 33 ∨ k = 34 ∨ k = 35 := by omega
    rcases hk with rfl | rfl | rfl | rfl | rfl | rfl | rfl | rfl | rfl | rfl | rfl | rfl | rfl | rfl | rfl | rfl | rfl | rfl | rfl | rfl | rfl | rfl | rfl | rfl | rfl | rfl | rfl | rfl | rfl | rfl | rfl | rfl | rfl | rfl | rfl
    · exact e14_1 n s
    · exact e14_2 n s
    · exact e14_3 n s
    · exact e14_4 n s
    · exact e14_5 n s
    · exact e14_6 n s
    · exact e14_7 n s
    · exact e14_8 n s
    · exact e14_9 n s
    · exact e14_10 n s
    · exact e14_11 n s
    · exact e14_12 n s
    · exact e14_13 n s
    · exact e14_14 n s
    · exact e14_15 n s
    · exact e14_16 n s
    · exact e14_17 n s
    · exact e14_18 n s
    · exact e14_19 n s
    · exact e14_20 n s
    · exact e14_21 n s
    · exact e14_22 n s
    · exact e14_23 n s
    · exact e14_24 n s
    · exact e14_25 n s
    · exact e14_26 n s
    · exact e14_27 n s
    · exact e14_28 n s
    · exact e14_29 n s
    · exact e14_30 n s
    · exact e14_31 n s
    · exact e14_32 n s
    · exact e14_33 n s
    · exact e14_34 n s
    · exact e14_35 n s
  · have : kOf z = 0 := by unfold kOf; rw [if_neg h]
    rw [this]; exact e14_x n s z h
theorem e15_1 (n : Nat) (s : List UInt8) : SC Tryz.prog 15 [inV 1 n s] 0 [] (effV (effT 1 n)) 0 [] := by
  refine SC.run hm Tryz.func15 rfl [.dec true] [] rfl rfl ?_ (.inl rfl) (EndOK.plain rfl no_mem rfl rfl)
  simp only [true_and, and_true, and_assoc, decide_eq_true_eq, decide_eq_false_iff_not, ne_eq, beq_iff_eq, beq_eq_false_iff_ne, bne_eq_false_iff_eq, bne_iff_ne, bne_self_eq_false, beq_self_eq_true]
  repeat' apply And.intro
  all_goals first
    | exact True.intro
    | rfl
    | omega
    | (rw [rem256]; done)
    | (rw [i64_in] <;> omega)
    | (with_reducible show _ = true; kernel_rfl)
theorem e15_2 (n : Nat) (s : List UInt8) : SC Tryz.prog 15 [inV 2 n s] 0 [] (effV (effT 2 n)) 0 [] := by
  refine SC.run hm Tryz.func15 rfl [.dec false, .dec true] [] rfl rfl ?_ (.inl rfl) (EndOK.plain rfl no_mem rfl rfl)
  simp only [true_and, and_true, and_assoc, decide_eq_true_eq, decide_eq_false_iff_not, ne_eq, beq_iff_eq, beq_eq_false_iff_ne, bne_eq_false_iff_eq, bne_iff_ne, bne_self_eq_false, beq_self_eq_true]
  repeat' apply And.intro
  all_goals first
    | exact True.intro
    | rfl
    | omega
    | (rw [rem256]; done)
    | (rw [i64_in] <;> omega)
    | (with_reducible show _ = true; kernel_rfl)
theorem e15_3 (n : Nat) (s : List UInt8) : SC Tryz.prog 15 [inV 3 n s] 0 [] (effV (effT 3 n)) 0 [] := by
  refine SC.run hm Tryz.func15 rfl [.dec false, .dec false, .dec true] [] rfl rfl ?_ (.inl rfl) (EndOK.plain rfl no_mem rfl rfl)
  simp only [true_and, and_true, and_assoc, decide_eq_true_eq, decide_eq_false_iff_not, ne_eq, beq_iff_eq, beq_eq_false_iff_ne, bne_eq_false_iff_eq, bne_iff_ne, bne_self_eq_false, beq_self_eq_true]
  repeat' apply And.intro
  all_goals first
    | exact True.intro
    | rfl
    | omega
    | (rw [rem256]; done)
    | (rw [i64_in] <;> omega)
    | (with_reducible show _ = true; kernel_rfl)
theorem e15_4 (n : Nat) (s : List UInt8) : SC Tryz.prog 15 [inV 4 n s] 0 [] (effV (effT 4 n)) 0 [] := by
  refine SC.run hm Tryz.func15 rfl [.dec false, .dec false, .dec false, .dec false, .dec false, .dec false, .dec true] [] rfl rfl ?_ (.inl rfl) (EndOK.plain rfl no_mem rfl rfl)
  simp only [true_and, and_true, and_assoc, decide_eq_true_eq, decide_eq_false_iff_not, ne_eq, beq_iff_eq, beq_eq_false_iff_ne, bne_eq_false_iff_eq, bne_iff_ne, bne_self_eq_false, beq_self_eq_true]
  repeat' apply And.intro
  all_goals first
    | exact True.intro
    | rfl
    | omega
    | (rw [rem256]; done)
    | (rw [i64_in] <;> omega)
    | (with_reducible show _ = true; kernel_rfl)
theorem e15_5 (n : Nat) (s : List UInt8) : SC Tryz.prog 15 [inV 5 n s] 0 [] (effV (n % 256, 1, true)) 0 [] := by
  refine SC.run hm Tryz.func15 rfl [.dec false, .dec false, .dec false, .dec false, .dec false, .dec false, .dec false, .dec false, .dec false, .dec false, .dec false, .dec false, .dec false, .dec false, .dec false, .dec false, .dec false, .dec false, .dec false, .dec false, .dec false, .dec true, .num ((n % 256 : Nat) : Int), .num ((n % 256 : Nat) : Int)] [] rfl rfl ?_ (.inl rfl) (EndOK.plain rfl no_mem rfl rfl)
  simp only [true_and, and_true, and_assoc, decide_eq_true_eq, decide_eq_false_iff_not, ne_eq, beq_iff_eq, beq_eq_false_iff_ne, bne_eq_false_iff_eq, bne_iff_ne, bne_self_eq_false, beq_self_eq_true]
  repeat' apply And.intro
  all_goals first
    | exact True.intro
    | rfl
    | omega
    | (rw [rem256]; done)
    | (rw [i64_in] <;> omega)
    | (with_reducible show _ = true; kernel_rfl)
theorem e15_6 (n : Nat) (s : List UInt8) : SC Tryz.prog 15 [inV 6 n s] 0 [] (effV (effT 6 n)) 0 [] := by
  refine SC.run hm Tryz.func15 rfl [.dec false, .dec false, .dec false, .dec true] [] rfl rfl ?_ (.inl rfl) (EndOK.plain rfl no_mem rfl rfl)
  simp only [true_and, and_true, and_assoc, decide_eq_true_eq, decide_eq_false_iff_not, ne_eq, beq_iff_eq, beq_eq_false_iff_ne, bne_eq_false_iff_eq, bne_iff_ne, bne_self_eq_false, beq_self_eq_true]
  repeat' apply And.intro
  all_goals first
    | exact True.intro
    | rfl
    | omega
    | (rw [rem256]; done)
    | (rw [i64_in] <;> omega)
    | (with_reducible show _ = true; kernel_rfl)
theorem e15_7 (n : Nat) (s : List UInt8) : SC Tryz.prog 15 [inV 7 n s] 0 [] (effV (effT 7 n)) 0 [] := by
  refine SC.run hm Tryz.func15 rfl [.dec false, .dec false, .dec false, .dec false, .dec true] [] rfl rfl ?_ (.inl rfl) (EndOK.plain rfl no_mem rfl rfl)
  simp only [true_and, and_true, and_assoc, decide_eq_true_eq, decide_eq_false_iff_not, ne_eq, beq_iff_eq, beq_eq_false_iff_ne, bne_eq_false_iff_eq, bne_iff_ne, bne_self_eq_false, beq_self_eq_true]
  repeat' apply And.intro
  all_goals first
    | exact True.intro
    | rfl
    | omega
    | (rw [rem256]; done)
    | (rw [i64_in] <;> omega)
    | (with_reducible show _ = true; kernel_rfl)
theorem e15_8 (n : Nat) (s : List UInt8) : SC Tryz.prog 15 [inV 8 n s] 0 [] (effV (effT 8 n)) 0 [] := by
  refine SC.run hm Tryz.func15 rfl [.dec false, .dec false, .dec false, .dec false, .dec false, .dec true] [] rfl rfl ?_ (.inl rfl) (EndOK.plain rfl no_mem rfl rfl)
  simp only [true_and, and_true, and_assoc, decide_eq_true_eq, decide_eq_false_iff_not, ne_eq, beq_iff_eq, beq_eq_false_iff_ne, bne_eq_false_iff_eq, bne_iff_ne, bne_self_eq_false, beq_self_eq_true]
  repeat' apply And.intro
  all_goals first
    | exact True.intro
    | rfl
    | omega
    | (rw [rem256]; done)
    | (rw [i64_in] <;> omega)
    | (with_reducible show _ = true; kernel_rfl)
theorem e15_9 (n : Nat) (s : List UInt8) : SC Tryz.prog 15 [inV 9 n s] 0 [] (effV (effT 9 n)) 0 [] := by
  refine SC.run hm Tryz.func15 rfl [.dec false, .dec false, .dec false, .dec false, .dec false, .dec false, .dec false, .dec false, .dec false, .dec false, .dec false, .dec false, .dec false, .dec false, .dec false, .dec false, .dec false, .dec false, .dec false, .dec false, .dec false, .dec false, .dec true] [] rfl rfl ?_ (.inl rfl) (EndOK.plain rfl no_mem rfl rfl)
  simp only [true_and, and_true, and_assoc, decide_eq_true_eq, decide_eq_false_iff_not, ne_eq, beq_iff_eq, beq_eq_false_iff_ne, bne_eq_false_iff_eq, bne_iff_ne, bne_self_eq_false, beq_self_eq_true]
  repeat' apply And.intro
  all_goals first
    | exact True.intro
    | rfl
    | omega
    | (rw [rem256]; done)
    | (rw [i64_in] <;> omega)
    | (with_reducible show _ = true; kernel_rfl)
theorem e15_10 (n : Nat) (s : List UInt8) : SC Tryz.prog 15 [inV 10 n s] 0 [] (effV (effT 10 n)) 0 [] := by
  refine SC.run hm Tryz.func15 rfl [.dec false, .dec false, .dec false, .dec false, .dec false, .dec false, .dec false, .dec false, .dec false, .dec false, .dec false, .dec false, .dec false, .dec false, .dec false, .dec false, .dec false, .dec false, .dec false, .dec false, .dec false, .dec false, .dec false, .dec true] [] rfl rfl ?_ (.inl rfl) (EndOK.plain rfl no_mem rfl rfl)
  simp only [true_and, and_true, and_assoc, decide_eq_true_eq, decide_eq_false_iff_not, ne_eq, beq_iff_eq, beq_eq_false_iff_ne, bne_eq_false_iff_eq, bne_iff_ne, bne_self_eq_false, beq_self_eq_true]
  repeat' apply And.intro
  all_goals first
    | exact True.intro
    | rfl
    | omega
    | (rw [rem256]; done)
    | (rw [i64_in] <;> omega)
    | (with_reducible show _ = true; kernel_rfl)
theorem e15_11 (n : Nat) (s : List UInt8) : SC Tryz.prog 15 [inV 11 n s] 0 [] (effV (effT 11 n)) 0 [] := by
  refine SC.run hm Tryz.func15 rfl [.dec false, .dec false, .dec false, .dec false, .dec false, .dec false, .dec false, .dec false, .dec false, .dec false, .dec false, .dec false, .dec false, .dec false, .dec false, .dec false, .dec false, .dec false, .dec false, .dec false, .dec false, .dec false, .dec false, .dec false, .dec true] [] rfl rfl ?_ (.inl rfl) (EndOK.plain rfl no_mem rfl rfl)
  simp only [true_and, and_true, and_assoc, decide_eq_true_eq, decide_eq_false_iff_not, ne_eq, beq_iff_eq, beq_eq_false_iff_ne, bne_eq_false_iff_eq, bne_iff_ne, bne_self_eq_false, beq_self_eq_true]
  repeat' apply And.intro
  all_goals first
    | exact True.intro
    | rfl
    | omega
    | (rw [rem256]; done)
    | (rw [i64_in] <;> omega)
    | (with_reducible show _ = true; kernel_rfl)
theorem e15_12 (n : Nat) (s : List UInt8) : SC Tryz.prog 15 [inV 12 n s] 0 [] (effV (effT 12 n)) 0 [] := by
  refine SC.run hm Tryz.func15 rfl [.dec false, .dec false, .dec false, .dec false, .dec false, .dec false, .dec false, .dec false, .dec false, .dec false, .dec false, .dec false, .dec false, .dec false, .dec false, .dec false, .dec false, .dec false, .dec false, .dec false, .dec false, .dec false, .dec false, .dec false, .dec false, .dec false, .dec false, .dec false, .dec false, .dec true] [] rfl rfl ?_ (.inl rfl) (EndOK.plain rfl no_mem rfl rfl)
  simp only [true_and, and_true, and_assoc, decide_eq_true_eq, decide_eq_false_iff_not, ne_eq, beq_iff_eq, beq_eq_false_iff_ne, bne_eq_false_iff_eq, bne_iff_ne, bne_self_eq_false, beq_self_eq_true]
  repeat' apply And.intro
  all_goals first
    | exact True.intro
    | rfl
    | omega
    | (rw [rem256]; done)
    | (rw [i64_in] <;> omega)
    | (with_reducible show _ = true; kernel_rfl)
theorem e15_13 (n : Nat) (s : List UInt8) : SC Tryz.prog 15 [inV 13 n s] 0 [] (effV (effT 13 n)) 0 [] := by
  refine SC.run hm Tryz.func15 rfl [.dec false, .dec false, .dec false, .dec false, .dec false, .dec false, .dec false, .dec true] [] rfl rfl ?_ (.inl rfl) (EndOK.plain rfl no_mem rfl rfl)
  simp only [true_and, and_true, and_assoc, decide_eq_true_eq, decide_eq_false_iff_not, ne_eq, beq_iff_eq, beq_eq_false_iff_ne, bne_eq_false_iff_eq, bne_iff_ne, bne_self_eq_false, beq_self_eq_true]
  repeat' apply And.intro
  all_goals first
    | exact True.intro
    | rfl
    | omega
    | (rw [rem256]; done)
    | (rw [i64_in] <;> omega)
    | (with_reducible show _ = true; kernel_rfl)
theorem e15_14 (n : Nat) (s : List UInt8) : SC Tryz.prog 15 [inV 14 n s] 0 [] (effV (effT 14 n)) 0 [] := by
  refine SC.run hm Tryz.func15 rfl [.dec false, .dec false, .dec false, .dec false, .dec false, .dec false, .dec false, .dec false, .dec true] [] rfl rfl ?_ (.inl rfl) (EndOK.plain rfl no_mem rfl rfl)
  simp only [true_and, and_true, and_assoc, decide_eq_true_eq, decide_eq_false_iff_not, ne_eq, beq_iff_eq, beq_eq_false_iff_ne, bne_eq_false_iff_eq, bne_iff_ne, bne_self_eq_false, beq_self_eq_true]
  repeat' apply And.intro
  all_goals first
    | exact True.intro
    | rfl
    | omega
    | (rw [rem256]; done)
    | (rw [i64_in] <;> omega)
    | (with_reducible show _ = true; kernel_rfl)
theorem e15_15 (n : Nat) (s : List UInt8) : SC Tryz.prog 15 [inV 15 n s] 0 [] (effV (effT 15 n)) 0 [] := by
  refine SC.run hm Tryz.func15 rfl [.dec false, .dec false, .dec false, .dec false, .dec false, .dec false, .dec false, .dec false, .dec false, .dec true] [] rfl rfl ?_ (.inl rfl) (EndOK.plain rfl no_mem rfl rfl)
  simp only [true_and, and_true, and_assoc, decide_eq_true_eq, decide_eq_false_iff_not, ne_eq, beq_iff_eq, beq_eq_false_iff_ne, bne_eq_false_iff_eq, bne_iff_ne, bne_self_eq_false, beq_self_eq_true]
  repeat' apply And.intro
  all_goals first
    | exact True.intro
    | rfl
    | omega
    | (rw [rem256]; done)
    | (rw [i64_in] <;> omega)
    | (with_reducible show _ = true; kernel_rfl)
theorem e15_16 (n : Nat) (s : List UInt8) : SC Tryz.prog 15 [inV 16 n s] 0 [] (effV (effT 16 n)) 0 [] := by
  refine SC.run hm Tryz.func15 rfl [.dec false, .dec false, .dec false, .dec false, .dec false, .dec false, .dec false, .dec false, .dec false, .dec false, .dec false, .dec false, .dec false, .dec false, .dec false, .dec false, .dec false, .dec false, .dec true] [] rfl rfl ?_ (.inl rfl) (EndOK.plain rfl no_mem rfl rfl)
  simp only [true_and, and_true, and_assoc, decide_eq_true_eq, decide_eq_false_iff_not, ne_eq, beq_iff_eq, beq_eq_false_iff_ne, bne_eq_false_iff_eq, bne_iff_ne, bne_self_eq_false, beq_self_eq_true]
  repeat' apply And.intro
  all_goals first
    | exact True.intro
    | rfl
    | omega
    | (rw [rem256]; done)
    | (rw [i64_in] <;> omega)
    | (with_reducible show _ = true; kernel_rfl)
theorem e15_17 (n : Nat) (s : List UInt8) : SC Tryz.prog 15 [inV 17 n s] 0 [] (effV (effT 17 n)) 0 [] := by
  refine SC.run hm Tryz.func15 rfl [.dec false, .dec false, .dec false, .dec false, .dec false, .dec false, .dec false, .dec false, .dec false, .dec false, .dec false, .dec false, .dec false, .dec false, .dec true] [] rfl rfl ?_ (.inl rfl) (EndOK.plain rfl no_mem rfl rfl)
  simp only [true_and, and_true, and_assoc, decide_eq_true_eq, decide_eq_false_iff_not, ne_eq, beq_iff_eq, beq_eq_false_iff_ne, bne_eq_false_iff_eq, bne_iff_ne, bne_self_eq_false, beq_self_eq_true]
  repeat' apply And.intro
  all_goals first
    | exact True.intro
    | rfl
    | omega
    | (rw [rem256]; done)
    | (rw [i64_in] <;> omega)
    | (with_reducible show _ = true; kernel_rfl)
theorem e15_18 (n : Nat) (s : List UInt8) : SC Tryz.prog 15 [inV 18 n s] 0 [] (effV (effT 18 n)) 0 [] := by
  refine SC.run hm Tryz.func15 rfl [.dec false, .dec false, .dec false, .dec false, .dec false, .dec false, .dec false, .dec false, .dec false, .dec false, .dec false, .dec false, .dec false, .dec true] [] rfl rfl ?_ (.inl rfl) (EndOK.plain rfl no_mem rfl rfl)
  simp only [true_and, and_true, and_assoc, decide_eq_true_eq, decide_eq_false_iff_not, ne_eq, beq_iff_eq, beq_eq_false_iff_ne, bne_eq_false_iff_eq, bne_iff_ne, bne_self_eq_false, beq_self_eq_true]
  repeat' apply And.intro
  all_goals first
    | exact True.intro
    | rfl
    | omega
    | (rw [rem256]; done)
    | (rw [i64_in] <;> omega)
    | (with_reducible show _ = true; kernel_rfl)
theorem e15_19 (n : Nat) (s : List UInt8) : SC Tryz.prog 15 [inV 19 n s] 0 [] (effV (effT 19 n)) 0 [] := by
  refine SC.run hm Tryz.func15 rfl [.dec false, .dec false, .dec false, .dec false, .dec false, .dec false, .dec false, .dec false, .dec false, .dec false, .dec false, .dec false, .dec false, .dec false, .dec false, .dec false, .dec false, .dec true] [] rfl rfl ?_ (.inl rfl) (EndOK.plain rfl no_mem rfl rfl)
  simp only [true_and, and_true, and_assoc, decide_eq_true_eq, decide_eq_false_iff_not, ne_eq, beq_iff_eq, beq_eq_false_iff_ne, bne_eq_false_iff_eq, bne_iff_ne, bne_self_eq_false, beq_self_eq_true]
  repeat' apply And.intro
  all_goals first
    | exact True.intro
    | rfl
    | omega
    | (rw [rem256]; done)
    | (rw [i64_in] <;> omega)
    | (with_reducible show _ = true; kernel_rfl)
theorem e15_20 (n : Nat) (s : List UInt8) : SC Tryz.prog 15 [inV 20 n s] 0 [] (effV (effT 20 n)) 0 [] := by
  refine SC.run hm Tryz.func15 rfl [.dec false, .dec false, .dec false, .dec false, .dec false, .dec false, .dec false, .dec false, .dec false, .dec false, .dec false, .dec false, .dec false, .dec false, .dec false, .dec false, .dec false, .dec false, .dec false, .dec true] [] rfl rfl ?_ (.inl rfl) (EndOK.plain rfl no_mem rfl rfl)
  simp only [true_and, and_true, and_assoc, decide_eq_true_eq, decide_eq_false_iff_not, ne_eq, beq_iff_eq, beq_eq_false_iff_ne, bne_eq_false_iff_eq, bne_iff_ne, bne_self_eq_false, beq_self_eq_true]
  repeat' apply And.intro
  all_goals first
    | exact True.intro
    | rfl
    | omega
    | (rw [rem256]; done)
    | (rw [i64_in] <;> omega)
    | (with_reducible show _ = true; kernel_rfl)
theorem e15_21 (n : Nat) (s : List UInt8) : SC Tryz.prog 15 [inV 21 n s] 0 [] (effV (effT 21 n)) 0 [] := by
  refine SC.run hm Tryz.func15 rfl [.dec false, .dec false, .dec false, .dec false, .dec false, .dec false, .dec false, .dec false, .dec false, .dec false, .dec false, .dec false, .dec false, .dec false, .dec false, .dec true] [] rfl rfl ?_ (.inl rfl) (EndOK.plain rfl no_mem rfl rfl)
  simp only [true_and, and_true, and_assoc, decide_eq_true_eq, decide_eq_false_iff_not, ne_eq, beq_iff_eq, beq_eq_false_iff_ne, bne_eq_false_iff_eq, bne_iff_ne, bne_self_eq_false, beq_self_eq_true]
  repeat' apply And.intro
  all_goals first
    | exact True.intro
    | rfl
    | omega
    | (rw [rem256]; done)
    | (rw [i64_in] <;> omega)
    | (with_reducible show _ = true; kernel_rfl)
theorem e15_22 (n : Nat) (s : List UInt8) : SC Tryz.prog 15 [inV 22 n s] 0 [] (effV (effT 22 n)) 0 [] := by
  refine SC.run hm Tryz.func15 rfl [.dec false, .dec false, .dec false, .dec false, .dec false, .dec false, .dec false, .dec false, .dec false, .dec false, .dec true] [] rfl rfl ?_ (.inl rfl) (EndOK.plain rfl no_mem rfl rfl)
  simp only [true_and, and_true, and_assoc, decide_eq_true_eq, decide_eq_false_iff_not, ne_eq, beq_iff_eq, beq_eq_false_iff_ne, bne_eq_false_iff_eq, bne_iff_ne, bne_self_eq_false, beq_self_eq_true]
  repeat' apply And.intro
  all_goals first
    | exact True.intro
    | rfl
    | omega
    | (rw [rem256]; done)
    | (rw [i64_in] <;> omega)
    | (with_reducible show _ = true; kernel_rfl)
theorem e15_23 (n : Nat) (s : List UInt8) : SC Tryz.prog 15 [inV 23 n s] 0 [] (effV (effT 23 n)) 0 [] := by
  refine SC.run hm Tryz.func15 rfl [.dec false, .dec false, .dec false, .dec false, .dec false, .dec false, .dec false, .dec false, .dec false, .dec false, .dec false, .dec true] [] rfl rfl ?_ (.inl rfl) (EndOK.plain rfl no_mem rfl rfl)
  simp only [true_and, and_true, and_assoc, decide_eq_true_eq, decide_eq_false_iff_not, ne_eq, beq_iff_eq, beq_eq_false_iff_ne, bne_eq_false_iff_eq, bne_iff_ne, bne_self_eq_false, beq_self_eq_true]
  repeat' apply And.intro
  all_goals first
    | exact True.intro
    | rfl
    | omega
    | (rw [rem256]; done)
    | (rw [i64_in] <;> omega)
    | (with_reducible show _ = true; kernel_rfl)
theorem e15_24 (n : Nat) (s : List UInt8) : SC Tryz.prog 15 [inV 24 n s] 0 [] (effV (effT 24 n)) 0 [] := by
  refine SC.run hm Tryz.func15 rfl [.dec false, .dec false, .dec false, .dec false, .dec false, .dec false, .dec false, .dec false, .dec false, .dec false, .dec false, .dec false, .dec false, .dec false, .dec false, .dec false, .dec false, .dec false, .dec false, .dec false, .dec false, .dec false, .dec false, .dec false, .dec false, .dec false, .dec false, .dec false, .dec false, .dec false, .dec true] [] rfl rfl ?_ (.inl rfl) (EndOK.plain rfl no_mem rfl rfl)
  simp only [true_and, and_true, and_assoc, decide_eq_true_eq, decide_eq_false_iff_not, ne_eq, beq_iff_eq, beq_eq_false_iff_ne, bne_eq_false_iff_eq, bne_iff_ne, bne_self_eq_false, beq_self_eq_true]
  repeat' apply And.intro
  all_goals first
    | exact True.intro
    | rfl
    | omega
    | (rw [rem256]; done)
    | (rw [i64_in] <;> omega)
    | (with_reducible show _ = true; kernel_rfl)
theorem e15_25 (n : Nat) (s : List UInt8) : SC Tryz.prog 15 [inV 25 n s] 0 [] (effV (effT 25 n)) 0 [] := by
  refine SC.run hm Tryz.func15 rfl [.dec false, .dec false, .dec false, .dec false, .dec false, .dec false, .dec false, .dec false, .dec false, .dec false, .dec false, .dec false, .dec false, .dec false, .dec false, .dec false, .dec false, .dec false, .dec false, .dec false, .dec false, .dec false, .dec false, .dec false, .dec false, .dec true] [] rfl rfl ?_ (.inl rfl) (EndOK.plain rfl no_mem rfl rfl)
  simp only [true_and, and_true, and_assoc, decide_eq_true_eq, decide_eq_false_iff_not, ne_eq, beq_iff_eq, beq_eq_false_iff_ne, bne_eq_false_iff_eq, bne_iff_ne, bne_self_eq_false, beq_self_eq_true]
  repeat' apply And.intro
  all_goals first
    | exact True.intro
    | rfl
    | omega
    | (rw [rem256]; done)
    | (rw [i64_in] <;> omega)
    | (with_reducible show _ = true; kernel_rfl)
theorem e15_26 (n : Nat) (s : List UInt8) : SC Tryz.prog 15 [inV 26 n s] 0 [] (effV (effT 26 n)) 0 [] := by
  refine SC.run hm Tryz.func15 rfl [.dec false, .dec false, .dec false, .dec false, .dec false, .dec false, .dec false, .dec false, .dec false, .dec false, .dec false, .dec false, .dec false, .dec false, .dec false, .dec false, .dec false, .dec false, .dec false, .dec false, .dec false, .dec false, .dec false, .dec false, .dec false, .dec false, .dec true] [] rfl rfl ?_ (.inl rfl) (EndOK.plain rfl no_mem rfl rfl)
  simp only [true_and, and_true, and_assoc, decide_eq_true_eq, decide_eq_false_iff_not, ne_eq, beq_iff_eq, beq_eq_false_iff_ne, bne_eq_false_iff_eq, bne_iff_ne, bne_self_eq_false, beq_self_eq_true]
  repeat' apply And.intro
  all_goals first
    | exact True.intro
    | rfl
    | omega
    | (rw [rem256]; done)
    | (rw [i64_in] <;> omega)
    | (with_reducible show _ = true; kernel_rfl)
theorem e15_27a (n : Nat) (s : List UInt8) (h : n ≤ 7) : SC Tryz.prog 15 [inV 27 n s] 0 [] (effV (n, 1, true)) 0 [] := by
  refine SC.run hm Tryz.func15 rfl [.dec false, .dec false, .dec false, .dec false, .dec false, .dec false, .dec false, .dec false, .dec false, .dec false, .dec false, .dec false, .dec false, .dec false, .dec false, .dec false, .dec false, .dec false, .dec false, .dec false, .dec true, .dec true, .num ((n : Nat) : Int)] [] rfl rfl ?_ (.inl rfl) (EndOK.plain rfl no_mem rfl rfl)
  simp only [true_and, and_true, and_assoc, decide_eq_true_eq, decide_eq_false_iff_not, ne_eq, beq_iff_eq, beq_eq_false_iff_ne, bne_eq_false_iff_eq, bne_iff_ne, bne_self_eq_false, beq_self_eq_true]
  repeat' apply And.intro
  all_goals first
    | exact True.intro
    | rfl
    | omega
    | (rw [rem256]; done)
    | (rw [i64_in] <;> omega)
    | (with_reducible show _ = true; kernel_rfl)
theorem e15_27b (n : Nat) (s : List UInt8) (h : ¬ n ≤ 7) : SC Tryz.prog 15 [inV 27 n s] 0 [] (effV (0, 0, false)) 0 [] := by
  refine SC.run hm Tryz.func15 rfl [.dec false, .dec false, .dec false, .dec false, .dec false, .dec false, .dec false, .dec false, .dec false, .dec false, .dec false, .dec false, .dec false, .dec false, .dec false, .dec false, .dec false, .dec false, .dec false, .dec false, .dec true, .dec false] [] rfl rfl ?_ (.inl rfl) (EndOK.plain rfl no_mem rfl rfl)
  simp only [true_and, and_true, and_assoc, decide_eq_true_eq, decide_eq_false_iff_not, ne_eq, beq_iff_eq, beq_eq_false_iff_ne, bne_eq_false_iff_eq, bne_iff_ne, bne_self_eq_false, beq_self_eq_true]
  repeat' apply And.intro
  all_goals first
    | exact True.intro
    | rfl
    | omega
    | (rw [rem256]; done)
    | (rw [i64_in] <;> omega)
    | (with_reducible show _ = true; kernel_rfl)
theorem e15_27 (n : Nat) (s : List UInt8) : SC Tryz.prog 15 [inV 27 n s] 0 [] (effV (effT 27 n)) 0 [] := by
  by_cases h : n ≤ 7
  · have := e15_27a n s h; simp only [effT, Nat.ble_eq_true_of_le h]; exact this
  · have := e15_27b n s h; simp only [effT, ble_f h]; exact this
theorem e15_28a (n : Nat) (s : List UInt8) (h : n ≤ 1) : SC Tryz.prog 15 [inV 28 n s] 0 [] (effV (n, 0, true)) 0 [] := by
  refine SC.run hm Tryz.func15 rfl [.dec false, .dec false, .dec false, .dec false, .dec false, .dec false, .dec false, .dec false, .dec false, .dec false, .dec false, .dec false, .dec false, .dec false, .dec false, .dec false, .dec false, .dec false, .dec false, .dec false, .dec false, .dec false, .dec false, .dec false, .dec false, .dec false, .dec false, .dec false, .dec false, .dec false, .dec false, .dec false, .dec false, .dec false, .dec true, .dec true, .num ((n : Nat) : Int)] [] rfl rfl ?_ (.inl rfl) (EndOK.plain rfl no_mem rfl rfl)
  simp only [true_and, and_true, and_assoc, decide_eq_true_eq, decide_eq_false_iff_not, ne_eq, beq_iff_eq, beq_eq_false_iff_ne, bne_eq_false_iff_eq, bne_iff_ne, bne_self_eq_false, beq_self_eq_true]
  repeat' apply And.intro
  all_goals first
    | exact True.intro
    | rfl
    | omega
    | (rw [rem256]; done)
    | (rw [i64_in] <;> omega)
    | (with_reducible show _ = true; kernel_rfl)
theorem e15_28b (n : Nat) (s : List UInt8) (h : ¬ n ≤ 1) : SC Tryz.prog 15 [inV 28 n s] 0 [] (effV (0, 0, false)) 0 [] := by
  refine SC.run hm Tryz.func15 rfl [.dec false, .dec false, .dec false, .dec false, .dec false, .dec false, .dec false, .dec false, .dec false, .dec false, .dec false, .dec false, .dec false, .dec false, .dec false, .dec false, .dec false, .dec false, .dec false, .dec false, .dec false, .dec false, .dec false, .dec false, .dec false, .dec false, .dec false, .dec false, .dec false, .dec false, .dec false, .dec false, .dec false, .dec false, .dec true, .dec false] [] rfl rfl ?_ (.inl rfl) (EndOK.plain rfl no_mem rfl rfl)
  simp only [true_and, and_true, and_assoc, decide_eq_true_eq, decide_eq_false_iff_not, ne_eq, beq_iff_eq, beq_eq_false_iff_ne, bne_eq_false_iff_eq, bne_iff_ne, bne_self_eq_false, beq_self_eq_true]
  repeat' apply And.intro
  all_goals first
    | exact True.intro
    | rfl
    | omega
    | (rw [rem256]; done)
    | (rw [i64_in] <;> omega)
    | (with_reducible show _ = true; kernel_rfl)
theorem e15_28 (n : Nat) (s : List UInt8) : SC Tryz.prog 15 [inV 28 n s] 0 [] (effV (effT 28 n)) 0 [] := by
  by_cases h : n ≤ 1
  · have := e15_28a n s h; simp only [effT, Nat.ble_eq_true_of_le h]; exact this
  · have := e15_28b n s h; simp only [effT, ble_f h]; exact this
theorem e15_29 (n : Nat) (s : List UInt8) : SC Tryz.prog 15 [inV 29 n s] 0 [] (effV (effT 29 n)) 0 [] := by
  refine SC.run hm Tryz.func15 rfl [.dec false, .dec false, .dec false, .dec false, .dec false, .dec false, .dec false, .dec false, .dec false, .dec false, .dec false, .dec false, .dec true] [] rfl rfl ?_ (.inl rfl) (EndOK.plain rfl no_mem rfl rfl)
  simp only [true_and, and_true, and_assoc, decide_eq_true_eq, decide_eq_false_iff_not, ne_eq, beq_iff_eq, beq_eq_false_iff_ne, bne_eq_false_iff_eq, bne_iff_ne, bne_self_eq_false, beq_self_eq_true]
  repeat' apply And.intro
  all_goals first
    | exact True.intro
    | rfl
    | omega
    | (rw [rem256]; done)
    | (rw [i64_in] <;> omega)
    | (with_reducible show _ = true; kernel_rfl)
theorem e15_30 (n : Nat) (s : List UInt8) : SC Tryz.prog 15 [inV 30 n s] 0 [] (effV (effT 30 n)) 0 [] := by
  refine SC.run hm Tryz.func15 rfl [.dec false, .dec false, .dec false, .dec false, .dec false, .dec false, .dec false, .dec false, .dec false, .dec false, .dec false, .dec false, .dec false, .dec false, .dec false, .dec false, .dec false, .dec false, .dec false, .dec false, .dec false, .dec false, .dec false, .dec false, .dec false, .dec false, .dec false, .dec false, .dec false, .dec false, .dec false, .dec true] [] rfl rfl ?_ (.inl rfl) (EndOK.plain rfl no_mem rfl rfl)
  simp only [true_and, and_true, and_assoc, decide_eq_true_eq, decide_eq_false_iff_not, ne_eq, beq_iff_eq, beq_eq_false_iff_ne, bne_eq_false_iff_eq, bne_iff_ne, bne_self_eq_false, beq_self_eq_true]
  repeat' apply And.intro
  all_goals first
    | exact True.intro
    | rfl
    | omega
    | (rw [rem256]; done)
    | (rw [i64_in] <;> omega)
    | (with_reducible show _ = true; kernel_rfl)
theorem e15_31 (n : Nat) (s : List UInt8) : SC Tryz.prog 15 [inV 31 n s] 0 [] (effV (effT 31 n)) 0 [] := by
  refine SC.run hm Tryz.func15 rfl [.dec false, .dec false, .dec false, .dec false, .dec false, .dec false, .dec false, .dec false, .dec false, .dec false, .dec false, .dec false, .dec false, .dec false, .dec false, .dec false, .dec true] [] rfl rfl ?_ (.inl rfl) (EndOK.plain rfl no_mem rfl rfl)
  simp only [true_and, and_true, and_assoc, decide_eq_true_eq, decide_eq_false_iff_not, ne_eq, beq_iff_eq, beq_eq_false_iff_ne, bne_eq_false_iff_eq, bne_iff_ne, bne_self_eq_false, beq_self_eq_true]
  repeat' apply And.intro
  all_goals first
    | exact True.intro
    | rfl
    | omega
    | (rw [rem256]; done)
    | (rw [i64_in] <;> omega)
    | (with_reducible show _ = true; kernel_rfl)
theorem e15_32 (n : Nat) (s : List UInt8) : SC Tryz.prog 15 [inV 32 n s] 0 [] (effV (effT 32 n)) 0 [] := by
  refine SC.run hm Tryz.func15 rfl [.dec false, .dec false, .dec false, .dec false, .dec false, .dec false, .dec false, .dec false, .dec false, .dec false, .dec false, .dec false, .dec false, .dec false, .dec false, .dec false, .dec false, .dec false, .dec false, .dec false, .dec false, .dec false, .dec false, .dec false, .dec false, .dec false, .dec false, .dec false, .dec false, .dec false, .dec false, .dec false, .dec true] [] rfl rfl ?_ (.inl rfl) (EndOK.plain rfl no_mem rfl rfl)
  simp only [true_and, and_true, and_assoc, decide_eq_true_eq, decide_eq_false_iff_not, ne_eq, beq_iff_eq, beq_eq_false_iff_ne, bne_eq_false_iff_eq, bne_iff_ne, bne_self_eq_false, beq_self_eq_true]
  repeat' apply And.intro
  all_goals first
    | exact True.intro
    | rfl
    | omega
    | (rw [rem256]; done)
    | (rw [i64_in] <;> omega)
    | (with_reducible show _ = true; kernel_rfl)
theorem e15_33 (n : Nat) (s : List UInt8) : SC Tryz.prog 15 [inV 33 n s] 0 [] (effV (effT 33 n)) 0 [] := by
  refine SC.run hm Tryz.func15 rfl [.dec false, .dec false, .dec false, .dec false, .dec false, .dec false, .dec false, .dec false, .dec false, .dec false, .dec false, .dec false, .dec false, .dec false, .dec false, .dec false, .dec false, .dec false, .dec false, .dec false, .dec false, .dec false, .dec false, .dec false, .dec false, .dec false, .dec false, .dec false, .dec false, .dec false, .dec false, .dec false, .dec false, .dec true] [] rfl rfl ?_ (.inl rfl) (EndOK.plain rfl no_mem rfl rfl)
  simp only [true_and, and_true, and_assoc, decide_eq_true_eq, decide_eq_false_iff_not, ne_eq, beq_iff_eq, beq_eq_false_iff_ne, bne_eq_false_iff_eq, bne_iff_ne, bne_self_eq_false, beq_self_eq_true]
  repeat' apply And.intro
  all_goals first
    | exact True.intro
    | rfl
    | omega
    | (rw [rem256]; done)
    | (rw [i64_in] <;> omega)
    | (with_reducible show _ = true; kernel_rfl)
theorem e15_34 (n : Nat) (s : List UInt8) : SC Tryz.prog 15 [inV 34 n s] 0 [] (effV (effT 34 n)) 0 [] := by
  refine SC.run hm Tryz.func15 rfl [.dec false, .dec false, .dec false, .dec false, .dec false, .dec false, .dec false, .dec false, .dec false, .dec false, .dec false, .dec false, .dec false, .dec false, .dec false, .dec false, .dec false, .dec false, .dec false, .dec false, .dec false, .dec false, .dec false, .dec false, .dec false, .dec false, .dec false, .dec true] [] rfl rfl ?_ (.inl rfl) (EndOK.plain rfl no_mem rfl rfl)
  simp only [true_and, and_true, and_assoc, decide_eq_true_eq, decide_eq_false_iff_not, ne_eq, beq_iff_eq, beq_eq_false_iff_ne, bne_eq_false_iff_eq, bne_iff_ne, bne_self_eq_false, beq_self_eq_true]
  repeat' apply And.intro
  all_goals first
    | exact True.intro
    | rfl
    | omega
    | (rw [rem256]; done)
    | (rw [i64_in] <;> omega)
    | (with_reducible show _ = true; kernel_rfl)
theorem e15_35 (n : Nat) (s : List UInt8) : SC Tryz.prog 15 [inV 35 n s] 0 [] (effV (effT 35 n)) 0 [] := by
  refine SC.run hm Tryz.func15 rfl [.dec false, .dec false, .dec false, .dec false, .dec false, .dec false, .dec false, .dec false, .dec false, .dec false, .dec false, .dec false, .dec false, .dec false, .dec false, .dec false, .dec false, .dec false, .dec false, .dec false, .dec false, .dec false, .dec false, .dec false, .dec false, .dec false, .dec false, .dec false, .dec true] [] rfl rfl ?_ (.inl rfl) (EndOK.plain rfl no_mem rfl rfl)
  simp only [true_and, and_true, and_assoc, decide_eq_true_eq, decide_eq_false_iff_not, ne_eq, beq_iff_eq, beq_eq_false_iff_ne, bne_eq_false_iff_eq, bne_iff_ne, bne_self_eq_false, beq_self_eq_true]
  repeat' apply And.intro
  all_goals first
    | exact True.intro
    | rfl
    | omega
    | (rw [rem256]; done)
    | (rw [i64_in] <;> omega)
    | (with_reducible show _ = true; kernel_rfl)
theorem e15_x (n : Nat) (s : List UInt8) (z : Int) (h : ¬ (1 ≤ z ∧ z ≤ 35)) : SC Tryz.prog 15 [inV z n s] 0 [] (effV (0, 0, false)) 0 [] := by
  refine SC.run hm Tryz.func15 rfl [.dec false, .dec false, .dec false, .dec false, .dec false, .dec false, .dec false, .dec false, .dec false, .dec false, .dec false, .dec false, .dec false, .dec false, .dec false, .dec false, .dec false, .dec false, .dec false, .dec false, .dec false, .dec false, .dec false, .dec false, .dec false, .dec false, .dec false, .dec false, .dec false, .dec false, .dec false, .dec false, .dec false, .dec false, .dec false] [] rfl rfl ?_ (.inl rfl) (EndOK.plain rfl no_mem rfl rfl)
  simp only [true_and, and_true, and_assoc, decide_eq_true_eq, decide_eq_false_iff_not, ne_eq, beq_iff_eq, beq_eq_false_iff_ne, bne_eq_false_iff_eq, bne_iff_ne, bne_self_eq_false, beq_self_eq_true]
  repeat' apply And.intro
  all_goals first
    | exact True.intro
    | rfl
    | omega
    | (rw [rem256]; done)
    | (rw [i64_in] <;> omega)
    | (with_reducible show _ = true; kernel_rfl)
theorem eff15_s (z : Int) (n : Nat) (s : List UInt8) : SC Tryz.prog 15 [inV z n s] 0 [] (effV (effT (kOf z) n)) 0 [] := by
  by_cases h : 1 ≤ z ∧ z ≤ 35
  · obtain ⟨k, rfl⟩ : ∃ k : Nat, z = (k : Int) := ⟨z.toNat, by omega⟩
    rw [kOf_in (by omega) (by omega)]
    have hk : k = 1 ∨ k = 2 ∨ k = 3 ∨ k = 4 ∨ k = 5 ∨ k = 6 ∨ k = 7 ∨ k = 8 ∨ k = 9 ∨ k = 10 ∨ k = 11 ∨ k = 12 ∨ k = 13 ∨ k = 14 ∨ k = 15 ∨ k = 16 ∨ k = 17 ∨ k = 18 ∨ k = 19 ∨ k = 20 ∨ k = 21 ∨ k = 22 ∨ k = 23 ∨ k = 24 ∨ k = 25 ∨ k = 26 ∨ k = 27 ∨ k = 28 ∨ k = 29 ∨ k = 30 ∨ k = 31 ∨ k = 32 ∨ k = 33 ∨ k = 34 ∨ k = 35 := by omega
    rcases hk with rfl | rfl | rfl | rfl | rfl | rfl | rfl | rfl | rfl | rfl | rfl | rfl | rfl | rfl | rfl | rfl | rfl | rfl | rfl | rfl | rfl | rfl | rfl | rfl | rfl | rfl | rfl | rfl | rfl | rfl | rfl | rfl | rfl | rfl | rfl
    · exact e15_1 n s
    · exact e15_2 n s
    · exact e15_3 n s
    · exact e15_4 n s
    · exact e15_5 n s
    · exact e15_6 n s
    · exact e15_7 n s
    · exact e15_8 n s
    · exact e15_9 n s
    · exact e15_10 n s
    · exact e15_11 n s
    · exact e15_12 n s
    · exact e15_13 n s
    · exact e15_14 n s
    · exact e15_15 n s
    · exact e15_16 n s
    · exact e15_17 n s
    · exact e15_18 n s
    · exact e15_19 n s
    · exact e15_20 n s
    · exact e15_21 n s
    · exact e15_22 n s
    · exact e15_23 n s
    · exact e15_24 n s
    · exact e15_25 n s
    · exact e15_26 n s
    · exact e15_27 n s
    · exact e15_28 n s
    · exact e15_29 n s
    · exact e15_30 n s
    · exact e15_31 n s
    · exact e15_32 n s
    · exact e15_33 n s
    · exact e15_34 n s
    · exact e15_35 n s
  · have : kOf z = 0 := by unfold kOf; rw [if_neg h]
    rw [this]; exact e15_x n s z h

end Go.Proofs.YtbokilgdefkmiaaGreatDoor
