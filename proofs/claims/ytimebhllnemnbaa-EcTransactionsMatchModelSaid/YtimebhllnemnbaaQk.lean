/-
  A query of a controller at rest: what its steps do.
-/
import Derived.Test.YtimebhllnemnbaaQj
set_option linter.unusedSimpArgs false
set_option linter.unusedVariables false
namespace Go.Proofs.Ytimebhllnemnbaa
open Go Ab
set_option maxRecDepth 100000

/-- a controller at rest -/
structure Cq.idle (c : Cq) (now : Nat) : Prop where
  ok : c.ok
  pend : c.pend = false
  full : c.full = false
  nw : c.now = now
  delay : c.delay ≤ 7
  lt : now < 1000
def cP (c : Cq) (now j : Nat) : Cq := { c with now := now + j, pend := true, isC := true, inp := 132, due := now + c.delay }
def cR (c : Cq) (now : Nat) : Cq := { c with now := now + c.delay, pend := false, isC := true, inp := 132, due := now + c.delay, cmd := 0, hasA := false, full := true, out := c.q.headD 0, q := c.q.tail }
def cF (c : Cq) (now : Nat) : Cq := { c with now := now + c.delay, pend := false, isC := true, inp := 132, due := now + c.delay, cmd := 0, hasA := false, full := false, out := 0, q := c.q.tail }
def tq (now ph res : Nat) : Tr := ⟨132, 0, 0, now + 1000, ph, res⟩

theorem cF_idle {c : Cq} {now : Nat} (h : c.idle now) (hlt : now + c.delay < 1000) : (cF c now).idle (now + c.delay) := by
  have hd := h.delay
  have hql := h.ok.ql
  refine ⟨⟨by show now + c.delay < 2 ^ 64; omega, h.ok.delay, by show now + c.delay < 2 ^ 64; omega, (by decide : 132 < 256), h.ok.adr, (by decide : 0 < 256), (by decide : 0 < 256), h.ok.regs, fun x hx => h.ok.q x (List.mem_of_mem_tail hx), ?_, fun _ => rfl⟩, rfl, rfl, rfl, h.delay, hlt⟩
  show c.q.tail.length ≤ 16
  rw [List.length_tail]; omega

theorem idle_adv {c : Cq} {now : Nat} (h : c.idle now) : advq c now = c := advq_rest h.pend (by rw [h.nw]; exact Nat.le_refl _)
theorem idle_wrt {c : Cq} {now : Nat} (h : c.idle now) : wrtq c now 132 true = cP c now 0 := by
  have hd := h.delay
  have hl := h.lt
  unfold wrtq
  rw [idle_adv h, h.pend]
  show ({ c with pend := true, isC := true, inp := 132, due := sat c.now c.delay } : Cq) = cP c now 0
  unfold cP
  rw [h.nw, show sat now c.delay = now + c.delay by unfold sat; omega]
  have e := h.nw
  cases c
  dsimp only at e
  subst e
  rfl
theorem pend_adv (c : Cq) (now j k : Nat) (hjk : j ≤ k) (hk : k < c.delay) : advq (cP c now j) (now + k) = cP c now k := by
  unfold advq
  have e : decide ((cP c now j).due ≤ max (cP c now j).now (now + k)) = false := decide_eq_false (by show ¬ (now + c.delay ≤ max (now + j) (now + k)); omega)
  have e1 : (cP c now j).pend = true := rfl
  rw [e, e1]
  show ({ cP c now j with now := max (now + j) (now + k) } : Cq) = cP c now k
  rw [show max (now + j) (now + k) = now + k by omega]
  rfl
theorem due_adv (c : Cq) (now j : Nat) (hj : j ≤ c.delay) : advq (cP c now j) (now + c.delay) = cR c now := by
  unfold advq
  have e : decide ((cP c now j).due ≤ max (cP c now j).now (now + c.delay)) = true := decide_eq_true (by show now + c.delay ≤ max (now + j) (now + c.delay); omega)
  have e1 : (cP c now j).pend = true := rfl
  have e2 : (cP c now j).isC = true := rfl
  rw [e, e1, e2]
  show tkCq ({ cP c now j with now := max (now + j) (now + c.delay), pend := false } : Cq) 132 = cR c now
  rw [show max (now + j) (now + c.delay) = now + c.delay by omega]
  rfl
theorem read_adv (c : Cq) (now : Nat) : advq (cR c now) (now + c.delay) = cR c now := advq_rest rfl (Nat.le_refl _)
theorem actq_0 {c : Cq} {now : Nat} (h : c.idle now) : actMq (tq now 0 0) c now = (tq now 3 0, cP c now 0, true) := by
  unfold actMq
  rw [idle_adv h, h.pend, h.full]
  show (_, wrtq c now 132 true, true) = _
  rw [idle_wrt h]; rfl
theorem actq_w (c : Cq) (now j k : Nat) (hjk : j ≤ k) (hk : k < c.delay) : actMq (tq now 3 0) (cP c now j) (now + k) = (tq now 3 0, cP c now k, false) := by
  unfold actMq
  rw [pend_adv c now j k hjk hk]
  rfl
theorem actq_d (c : Cq) (now j : Nat) (hj : j ≤ c.delay) : actMq (tq now 3 0) (cP c now j) (now + c.delay) = (tq now 5 (c.q.headD 0), cF c now, false) := by
  unfold actMq
  rw [due_adv c now j hj, read_adv c now]
  rfl
def tqJ (now : Nat) : Nat → Tr
  | 0 => tq now 0 0
  | _ + 1 => tq now 3 0
def cqJ (c : Cq) (now : Nat) : Nat → Cq
  | 0 => c
  | j + 1 => cP c now j
theorem stepq_w {c : Cq} {now : Nat} (h : c.idle now) (j : Nat) (hj : j < c.delay) : stepTq (tqJ now j) (cqJ c now j) (now + j) = (tqJ now (j + 1), cqJ c now (j + 1)) := by
  have hd := h.delay
  have he : endT (tq now 3 0) (now + j) = tq now 3 0 := by
    unfold endT
    rw [if_neg]
    show ¬ (3 ≠ 5 ∧ now + 1000 ≤ now + j); omega
  cases j with
  | zero =>
    have e : stepLq 7 (tq now 0 0) c now = (tq now 3 0, cP c now 0) := by
      unfold stepLq
      rw [actq_0 h]
      show stepLq 6 (tq now 3 0) (cP c now 0) now = _
      unfold stepLq
      rw [show actMq (tq now 3 0) (cP c now 0) now = (tq now 3 0, cP c now 0, false) from actq_w c now 0 0 (Nat.le_refl _) hj]
    show stepTq (tq now 0 0) c now = _
    unfold stepTq
    rw [if_pos (by show 0 ≤ 4; omega), e]
    show (endT (tq now 3 0) (now + 0), cP c now 0) = _
    rw [he]
    rfl
  | succ j =>
    have e : stepLq 7 (tq now 3 0) (cP c now j) (now + (j + 1)) = (tq now 3 0, cP c now (j + 1)) := by
      unfold stepLq
      rw [actq_w c now j (j + 1) (by omega) hj]
    show stepTq (tq now 3 0) (cP c now j) (now + (j + 1)) = _
    unfold stepTq
    rw [if_pos (by show 3 ≤ 4; omega), e, he]
    rfl
theorem stepq_d {c : Cq} {now : Nat} (h : c.idle now) : stepTq (tqJ now c.delay) (cqJ c now c.delay) (now + c.delay) = (tq now 5 (c.q.headD 0), cF c now) := by
  have hd := h.delay
  have he : ∀ k r, endT (tq now 5 r) k = tq now 5 r := by
    intro k r
    unfold endT
    rw [if_neg]
    show ¬ (5 ≠ 5 ∧ _); omega
  cases hj : c.delay with
  | zero =>
    have e : stepLq 7 (tq now 0 0) c now = (tq now 5 (c.q.headD 0), cF c now) := by
      unfold stepLq
      rw [actq_0 h]
      show stepLq 6 (tq now 3 0) (cP c now 0) now = _
      have := actq_d c now 0 (by omega)
      rw [hj] at this
      unfold stepLq
      rw [show actMq (tq now 3 0) (cP c now 0) now = (tq now 5 (c.q.headD 0), cF c now, false) from this]
    show stepTq (tq now 0 0) c now = _
    unfold stepTq
    rw [if_pos (by show 0 ≤ 4; omega), e, he]
  | succ j =>
    have e : stepLq 7 (tq now 3 0) (cP c now j) (now + (j + 1)) = (tq now 5 (c.q.headD 0), cF c now) := by
      have := actq_d c now j (by omega)
      rw [hj] at this
      unfold stepLq
      rw [this]
    show stepTq (tq now 3 0) (cP c now j) (now + (j + 1)) = _
    unfold stepTq
    rw [if_pos (by show 3 ≤ 4; omega), e, he]
theorem cP_ok {c : Cq} {now : Nat} (h : c.idle now) {j : Nat} (hj : j ≤ 7) : (cP c now j).ok := by
  have hd := h.delay
  have hl := h.lt
  exact ⟨by show now + j < 2 ^ 64; omega, h.ok.delay, by show now + c.delay < 2 ^ 64; omega, (by decide : 132 < 256), h.ok.adr, h.ok.out, h.ok.cmd, h.ok.regs, h.ok.q, h.ok.ql, h.ok.emp⟩
theorem cqJ_ok {c : Cq} {now : Nat} (h : c.idle now) {j : Nat} (hj : j ≤ 7) : (cqJ c now j).ok := by
  cases j with
  | zero => exact h.ok
  | succ j => exact cP_ok h (by omega)
theorem cqJ_q (c : Cq) (now j : Nat) : (cqJ c now j).q = c.q := by cases j <;> rfl
theorem tqJ_ok (now j : Nat) : (tqJ now j).ok ∧ (tqJ now j).ph ≤ 6 := by
  cases j with
  | zero => exact ⟨⟨(by decide : 132 < 256), (by decide : 0 < 256), (by decide : 0 < 256)⟩, (by decide : 0 ≤ 6)⟩
  | succ j => exact ⟨⟨(by decide : 132 < 256), (by decide : 0 < 256), (by decide : 0 < 256)⟩, (by decide : 3 ≤ 6)⟩

theorem query_s (now : Nat) (h : now < 1000) : SC Try.prog 32 [n64 now, n64 1000] 0 [] (.s (.ptr (some (0, 0)))) 1 [(0, some (bT (tq now 0 0)))] := by
  have c1 := add_s now 1000 (by omega) (by decide)
  rw [show sat now 1000 = now + 1000 by unfold sat; omega] at c1
  refine SC.run hm Try.func32 rfl [.call [] [n64 now, n64 1000] [] (n64 (now + 1000)) 0 []] [0] rfl rfl ?_ (.inl rfl) (EndOK.by rfl ⟨rfl, trivial⟩ rfl rfl rfl rfl)
  simp only [true_and, and_true, and_assoc]
  exact ⟨by kernel_rfl, call0 c1 rfl⟩

end Go.Proofs.Ytimebhllnemnbaa
