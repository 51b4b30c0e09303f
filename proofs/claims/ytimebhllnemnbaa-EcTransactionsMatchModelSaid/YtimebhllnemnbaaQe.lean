/-
  EcMatchesModel: the states of its loop and the rounds.
-/
import Derived.Test.YtimebhllnemnbaaQn
import Derived.Test.YtimebhllnemnbaaQo
import Derived.Test.YtimebhllnemnbaaAb14
set_option linter.unusedSimpArgs false
set_option linter.unusedVariables false
namespace Go.Proofs.Ytimebhllnemnbaa
open Go Ab
set_option maxRecDepth 100000

/-- the first loop's body -/
def fstLoop : Code → Option Code
  | .loop c => some c
  | .seq a b => match fstLoop a with | some c => some c | none => fstLoop b
  | .block _ c => fstLoop c
  | .cond _ a b => match fstLoop a with | some c => some c | none => fstLoop b
  | _ => none

structure St where
  c : Cq
  o : Nat
  now : Nat
  v : Bool
def stp (s : St) (x : OpV) : St :=
  match modM x.k 10 with
  | 0 => { s with c := wrtq s.c (s.now + x.p % 3) (valM x.v false) false, now := s.now + x.p % 3 }
  | 1 => { s with c := wrtq s.c (s.now + x.p % 3) (valM x.v false) false, now := s.now + x.p % 3 }
  | 2 => { s with c := wrtq s.c (s.now + x.p % 3) (valM x.v false) false, now := s.now + x.p % 3 }
  | 3 => { s with c := wrtq s.c (s.now + x.p % 3) (valM x.v true) true, now := s.now + x.p % 3 }
  | 4 => { s with c := wrtq s.c (s.now + x.p % 3) (valM x.v true) true, now := s.now + x.p % 3 }
  | 5 => { s with c := emtq (advq s.c (s.now + x.p % 3)), o := (advq s.c (s.now + x.p % 3)).ou s.o, now := s.now + x.p % 3 }
  | 6 => { s with c := raiq s.c (x.v % 4), now := s.now + x.p % 3, v := s.v || !Nat.beq (x.v % 4) 0 }
  | 7 => { s with c := { s.c with regs := upd s.c.regs (valM x.r false) x.v }, now := s.now + x.p % 3 }
  | _ => { s with c := advq s.c (s.now + x.p % 3), now := s.now + x.p % 3 }
def runS (s0 : St) (f : Nat → OpV) : Nat → St
  | 0 => s0
  | j + 1 => stp (runS s0 f j) (f j)
structure St.ok (s : St) (j : Nat) : Prop where
  c : s.c.ok
  now : s.now ≤ 2 * j
  q : s.v = false → s.c.q = []
theorem setq_ok {c : Cq} (h : c.ok) {i v : Nat} (hv : v < 256) : ({ c with regs := upd c.regs i v } : Cq).ok := ⟨h.now, h.delay, h.due, h.inp, h.adr, h.out, h.cmd, upd_lt h.regs hv, h.q, h.ql, h.emp⟩
theorem raiq_ok {c : Cq} (h : c.ok) {v : Nat} (hv : v < 256) : (raiq c v).ok := by
  unfold raiq
  split
  · exact h
  · split
    · exact h
    · rename_i hl
      refine ⟨h.now, h.delay, h.due, h.inp, h.adr, h.out, h.cmd, h.regs, fun x hx => ?_, ?_, h.emp⟩
      · rcases List.mem_append.1 hx with hx | hx
        · exact h.q x hx
        · simp at hx; omega
      · have := h.ql
        show (c.q ++ [v]).length ≤ 16
        rw [List.length_append, List.length_singleton]; omega
theorem stp_ok {s : St} {j : Nat} (h : s.ok j) (hj : j < 1000) {x : OpV} (hx : x.ok) : (stp s x).ok (j + 1) := by
  have hn := h.now
  have ht : s.now + x.p % 3 < 2 ^ 64 := by omega
  have hv := hx.v
  unfold stp
  split
  all_goals first
    | exact ⟨wrtq_ok h.c ht (valM_lt hv _), by show s.now + x.p % 3 ≤ _; omega, fun e => wrtq_q0 _ _ _ _ (h.q e)⟩
    | exact ⟨emtq_ok (advq_ok h.c ht), by show s.now + x.p % 3 ≤ _; omega, fun e => advq_q0 _ _ (h.q e)⟩
    | exact ⟨setq_ok h.c hv, by show s.now + x.p % 3 ≤ _; omega, fun e => h.q e⟩
    | exact ⟨advq_ok h.c ht, by show s.now + x.p % 3 ≤ _; omega, fun e => advq_q0 _ _ (h.q e)⟩
    | (refine ⟨raiq_ok h.c (by omega), by show s.now + x.p % 3 ≤ _; omega, fun e => ?_⟩
       have e : (s.v || !Nat.beq (x.v % 4) 0) = false := e
       cases hv : s.v with
       | true => rw [hv] at e; cases e
       | false =>
         rw [hv, Bool.false_or] at e
         have e0 : x.v % 4 = 0 := Nat.eq_of_beq_eq_true (by simpa using e)
         show (raiq s.c (x.v % 4)).q = []
         rw [show raiq s.c (x.v % 4) = s.c by simp [raiq, e0]]
         exact h.q hv)
theorem runS_ok {s0 : St} (h : s0.ok 0) {f : Nat → OpV} {m : Nat} (hf : ∀ i, i < m → (f i).ok) : ∀ j, j ≤ m → j ≤ 90 → (runS s0 f j).ok j
  | 0, _, _ => h
  | j + 1, hj, h9 => stp_ok (runS_ok h hf j (by omega) (by omega)) (by omega) (hf j (by omega))

def e6 (D m : Nat) (now j : Nat) : List V := sp 164 [(0, n64 D), (1, .s (.slc (some (0, 0)) m none)), (5, .s (.ptr (some (1, 0)))), (7, .s (.ptr (some (4, 0)))), (8, n64 now), (9, .s (.int .i64 ((j : Nat) : Int)))]
def h6N (lb : Bl) (c : Cq) (o : Nat) : Hp := [(0, some lb), (1, some (bN c)), (4, some (bR c o nilS))]
def h6Q (lb : Bl) (c : Cq) (o : Nat) : Hp := [(0, some lb), (1, some (bQ c 2 3)), (2, some (qB c.q 3)), (4, some (bR c o (.sla 5 6 c.q.length))), (5, some (qB c.q 6))]
def h6 (lb : Bl) (s : St) : Hp := match s.v with | false => h6N lb s.c s.o | true => h6Q lb s.c s.o
theorem c6a {j m : Nat} (h : j < m) : ((j : Nat) : Int) < ((m : Nat) : Int) := by omega
theorem c6b {j : Nat} (h : j < 90) : ((j : Nat) : Int) < 90 := by omega
theorem c6c {a b : Nat} (h : a + b < 2 ^ 64) : IntKind.u64.wrap (((a : Nat) : Int) + ((b : Nat) : Int)) = ((a + b : Nat) : Int) := by rw [u64_in] <;> omega
theorem c6d {j : Nat} (h : j < 90) : IntKind.i64.wrap (((j : Nat) : Int) + 1) = ((j + 1 : Nat) : Int) := by rw [i64_in] <;> omega

end Go.Proofs.Ytimebhllnemnbaa
