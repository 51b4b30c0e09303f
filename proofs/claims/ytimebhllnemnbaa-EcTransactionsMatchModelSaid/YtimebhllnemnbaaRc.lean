/-
  EcTransactionsMatchModel: states, and the small pieces of its loop.
-/
import Derived.Test.YtimebhllnemnbaaRb
import Derived.Test.YtimebhllnemnbaaQo
import Derived.Test.YtimebhllnemnbaaQm
import Derived.Test.YtimebhllnemnbaaAb15
set_option linter.unusedSimpArgs false
set_option linter.unusedVariables false
namespace Go.Proofs.Ytimebhllnemnbaa
open Go Ab
set_option maxRecDepth 100000

/-- two transactions, the program's and the reference's -/
structure Tx where
  t : Tr
  pe : Nat
  st : Nat
  tm : Nat
def uB (x : Tx) : Bl := bU x.t x.st x.tm (phU x.t x.pe) (erU x.t)
structure Tx.ok (x : Tx) : Prop where
  t : x.t.ok
  ph : x.t.ph ≤ 6
  st : x.st < 2 ^ 64
  tm : x.tm < 2 ^ 64
  dl : x.t.dl = sat x.st x.tm
def ptrs : Nat → Nat → List S
  | _, 0 => []
  | i, n + 1 => .ptr (some (i, 0)) :: ptrs (i + 1) n
def aB (n : Nat) : Bl := { cells := ptrs 8 n, ty := 30, more := true, gh := some (5, 1) }
def bB (n : Nat) : Bl := { cells := ptrs 14 n, ty := 56, more := true, gh := some (7, 1) }
def ecs : Nat → List Tx → Hp
  | _, [] => []
  | i, x :: r => (i, some (bT x.t)) :: ecs (i + 1) r
def rfs : Nat → List Tx → Hp
  | _, [] => []
  | i, x :: r => (i, some (uB x)) :: rfs (i + 1) r
def TH (ts : List Tx) : Hp := match ts with | [] => [] | _ :: _ => (4, some (aB ts.length)) :: (6, some (bB ts.length)) :: (ecs 8 ts ++ rfs 14 ts)
def va (n : Nat) : V := match n with | 0 => .s (.slc none 0 (some 0)) | n + 1 => .s (.sla 4 5 (n + 1))
def vb (n : Nat) : V := match n with | 0 => .s (.slc none 0 (some 0)) | n + 1 => .s (.sla 6 7 (n + 1))
def opB (x : OpV) : Bl := { cells := x.c, ty := 45 }
def coN (c : Cq) (o : Nat) : Hp := [(2, some (bN c)), (3, some (bR c o nilS))]
def coQ (c : Cq) (o : Nat) : Hp := [(2, some (bQ c 20 21)), (20, some (qB c.q 21)), (3, some (bR c o (.sla 22 23 c.q.length))), (22, some (qB c.q 23))]
def e9 (kn : V) (v tm : Nat) (ar a b : V) (now i : Nat) : List V := sp 215 [(1, kn), (2, n8 v), (3, n64 tm), (4, ar), (11, .s (.ptr (some (2, 0)))), (13, .s (.ptr (some (3, 0)))), (14, a), (15, b), (16, n64 now), (17, .s (.int .i64 ((i : Nat) : Int)))]
def f9 (kn : V) (v tm : Nat) (ar a b : V) (now i : Nat) : List V := sp 215 [(1, kn), (2, n8 v), (3, n64 tm), (4, ar), (11, .s (.ptr (some (2, 0)))), (13, .s (.ptr (some (3, 0)))), (14, a), (15, b), (16, n64 now), (17, .s (.int .i64 ((i : Nat) : Int))), (18, .s (.ptr (some (24, 0))))]
theorem cases6 {P : List Tx → Prop} (h0 : P []) (h1 : ∀ a, P [a]) (h2 : ∀ a b, P [a, b]) (h3 : ∀ a b c, P [a, b, c]) (h4 : ∀ a b c d, P [a, b, c, d]) (h5 : ∀ a b c d e, P [a, b, c, d, e]) (h6 : ∀ a b c d e f, P [a, b, c, d, e, f]) : ∀ ts : List Tx, ts.length ≤ 6 → P ts
  | [], _ => h0
  | [a], _ => h1 a
  | [a, b], _ => h2 a b
  | [a, b, c], _ => h3 a b c
  | [a, b, c, d], _ => h4 a b c d
  | [a, b, c, d, e], _ => h5 a b c d e
  | [a, b, c, d, e, f], _ => h6 a b c d e f
  | _ :: _ :: _ :: _ :: _ :: _ :: _ :: _, h => by simp at h
theorem th_ok {ts : List Tx} (h : ts.length ≤ 6) : okH 20 (TH ts) = true := cases6 (P := fun ts => okH 20 (TH ts) = true) rfl (fun _ => rfl) (fun _ _ => rfl) (fun _ _ _ => rfl) (fun _ _ _ _ => rfl) (fun _ _ _ _ _ => rfl) (fun _ _ _ _ _ _ => rfl) ts h
theorem th_keys {ts : List Tx} (h : ts.length ≤ 6) : ∀ i ∈ keys (TH ts), 4 ≤ i ∧ i < 20 := by
  refine cases6 (P := fun ts => ∀ i ∈ keys (TH ts), 4 ≤ i ∧ i < 20) ?_ ?_ ?_ ?_ ?_ ?_ ?_ ts h <;> intros <;> rename_i hm <;> simp [TH, keys, ecs, rfs] at hm <;> omega
theorem th_apart {ts : List Tx} (h : ts.length ≤ 6) {L : Hp} (hL : ∀ i ∈ keys L, i < 4 ∨ 20 ≤ i) : apart L (TH ts) = true := by
  unfold apart
  rw [List.all_eq_true]
  intro i hi
  have := th_keys h i hi
  cases he : (keys L).elem i with
  | false => rfl
  | true => have := hL i (List.elem_iff.1 he); omega
/-! ### constructors -/
def tR (a s t : Nat) : Tr := ⟨128, a, 0, sat s t, 0, 0⟩
def tW (a v s t : Nat) : Tr := ⟨129, a, v, sat s t, 0, 0⟩
def tQ (s t : Nat) : Tr := ⟨132, 0, 0, sat s t, 0, 0⟩
theorem qry_s (s t : Nat) (hs : s < 2 ^ 64) (ht : t < 2 ^ 64) : SC Try.prog 32 [n64 s, n64 t] 0 [] (.s (.ptr (some (0, 0)))) 1 [(0, some (bT (tQ s t)))] := by
  have c1 := add_s s t hs ht
  refine SC.run hm Try.func32 rfl [.call [] [n64 s, n64 t] [] (n64 (sat s t)) 0 []] [0] rfl rfl ?_ (.inl rfl) (EndOK.by rfl ⟨rfl, trivial⟩ rfl rfl rfl rfl)
  simp only [true_and, and_true, and_assoc]
  exact ⟨by kernel_rfl, call0 c1 rfl⟩
theorem rread_s (a s t : Nat) : SC Try.prog 33 [n8 a, n64 s, n64 t] 0 [] (.s (.ptr (some (0, 0)))) 1 [(0, some (uB ⟨tR a s t, 0, s, t⟩))] := by
  refine SC.run hm Try.func33 rfl [] [0] rfl rfl ?_ (.inl rfl) (EndOK.by rfl ⟨rfl, trivial⟩ rfl rfl rfl rfl)
  simp only [true_and, and_true, and_assoc]
theorem rwriteT_s (a v s t : Nat) : SC Try.prog 34 [n8 a, n8 v, n64 s, n64 t] 0 [] (.s (.ptr (some (0, 0)))) 1 [(0, some (uB ⟨tW a v s t, 0, s, t⟩))] := by
  refine SC.run hm Try.func34 rfl [] [0] rfl rfl ?_ (.inl rfl) (EndOK.by rfl ⟨rfl, trivial⟩ rfl rfl rfl rfl)
  simp only [true_and, and_true, and_assoc]
theorem rqry_s (s t : Nat) : SC Try.prog 35 [n64 s, n64 t] 0 [] (.s (.ptr (some (0, 0)))) 1 [(0, some (uB ⟨tQ s t, 0, s, t⟩))] := by
  refine SC.run hm Try.func35 rfl [] [0] rfl rfl ?_ (.inl rfl) (EndOK.by rfl ⟨rfl, trivial⟩ rfl rfl rfl rfl)
  simp only [true_and, and_true, and_assoc]
/-! ### what a step hands back -/
def outR (t : Tr) : Nat := if t.ph = 5 then t.res else 0
def outD (t : Tr) : Bool := decide (t.ph = 5) || decide (t.ph = 6)
def outE (t : Tr) : Nat := if t.ph = 6 then 14 else 0
theorem outT_eq (t : Tr) : outT t = .tup [.s (.int .u8 ((outR t : Nat) : Int)), .s (.bool (outD t)), .s (.int .i64 ((outE t : Nat) : Int))] := by
  unfold outT outR outD outE
  by_cases h5 : t.ph = 5
  · simp [h5]
  · by_cases h6 : t.ph = 6
    · simp [h6]
    · simp [h5, h6]
theorem xa {j m : Nat} (h : j < m) : ((j : Nat) : Int) < ((m : Nat) : Int) := by omega
theorem xb {j : Nat} (h : j < 80) : ((j : Nat) : Int) < 80 := by omega
theorem xc {a b : Nat} (h : a + b < 2 ^ 64) : IntKind.u64.wrap (((a : Nat) : Int) + ((b : Nat) : Int)) = ((a + b : Nat) : Int) := by rw [u64_in] <;> omega
theorem xd {j : Nat} (h : j < 80) : IntKind.i64.wrap (((j : Nat) : Int) + 1) = ((j + 1 : Nat) : Int) := by rw [i64_in] <;> omega
theorem xv (v : Nat) : IntKind.u8.wrap (1 + ((v % 8 : Nat) : Int)) = ((1 + v % 8 : Nat) : Int) := by rw [u8_in] <;> omega

end Go.Proofs.Ytimebhllnemnbaa
