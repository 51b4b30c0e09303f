/-
  The embedded controller with its queue: one action of a transaction.
-/
import Derived.Test.YtimebhllnemnbaaQn
import Derived.Test.YtimebhllnemnbaaEe
set_option linter.unusedSimpArgs false
set_option linter.unusedVariables false
namespace Go.Proofs.Ytimebhllnemnbaa
open Go Ab
set_option maxRecDepth 100000

theorem tkDq_now (c : Cq) (v : Nat) : (tkDq c v).now = c.now ∧ (tkDq c v).pend = c.pend ∧ (tkDq c v).delay = c.delay := by
  unfold tkDq; split
  · exact ⟨rfl, rfl, rfl⟩
  · split
    · split <;> exact ⟨rfl, rfl, rfl⟩
    · exact ⟨rfl, rfl, rfl⟩
theorem tkCq_now (c : Cq) (v : Nat) : (tkCq c v).now = c.now ∧ (tkCq c v).pend = c.pend ∧ (tkCq c v).delay = c.delay := by
  unfold tkCq; split
  · exact ⟨rfl, rfl, rfl⟩
  · split <;> exact ⟨rfl, rfl, rfl⟩
theorem advq_now (c : Cq) (t : Nat) : (advq c t).now = max c.now t ∧ (advq c t).delay = c.delay := by
  unfold advq
  split
  · exact ⟨rfl, rfl⟩
  · split
    · exact ⟨(tkCq_now _ _).1, (tkCq_now _ _).2.2⟩
    · exact ⟨(tkDq_now _ _).1, (tkDq_now _ _).2.2⟩
/-- a controller at rest stays as it is till time goes on -/
theorem advq_rest {c : Cq} {t : Nat} (hp : c.pend = false) (ht : t ≤ c.now) : advq c t = c := by
  have : max c.now t = c.now := Nat.max_eq_left ht
  have e : advq c t = tickq c t := by simp [advq, hp]
  rw [e]; unfold tickq; rw [this]

/-- one action: what becomes of the transaction and of the controller, and whether another may follow -/
def actMq (t : Tr) (c : Cq) (now : Nat) : Tr × Cq × Bool :=
  match (advq c now).pend with
  | true => (t, advq c now, false)
  | false =>
    match t.ph with
    | 0 => (match (advq c now).full with
      | true => (t, emtq (advq (advq c now) now), true)
      | false => ({ t with ph := if t.cmd = 132 then 3 else 1 }, wrtq (advq c now) now t.cmd true, true))
    | 1 => ({ t with ph := if t.cmd = 129 then 2 else 3 }, wrtq (advq c now) now t.adr false, true)
    | 2 => ({ t with ph := 4 }, wrtq (advq c now) now t.val false, true)
    | 3 => (match (advq c now).full with
      | true => ({ t with ph := 5, res := (advq (advq c now) now).out }, emtq (advq (advq c now) now), false)
      | false => (t, advq c now, false))
    | 4 => ({ t with ph := 5 }, advq c now, false)
    | _ => (t, advq c now, true)

theorem st_b2 (d : Cq) : bitV .and .u8 ((stNq d : Nat) : Int) 2 = match d.pend with | true => 2 | false => 0 := by
  unfold stNq
  cases d.full <;> cases d.pend <;> cases decide (0 < d.q.length) <;> rfl
theorem st_b1 (d : Cq) : bitV .and .u8 ((stNq d : Nat) : Int) 1 = match d.full with | true => 1 | false => 0 := by
  unfold stNq
  cases d.full <;> cases d.pend <;> cases decide (0 < d.q.length) <;> rfl
def sTN (t : Tr) (c : Cq) : Hp := [(0, some (bT t)), (1, some (bN c))]
def sTQ (t : Tr) (c : Cq) : Hp := [(0, some (bT t)), (1, some (bQ c 2 3)), (2, some (qB c.q 3))]
def lTQ (t : Tr) (c : Cq) : Hp := [(0, some (bT t)), (1, some (bQ c 4 5)), (4, some (qB c.q 5))]
def eTQ (t : Tr) (c : Cq) : Hp := [(0, some (bT t)), (1, some (bQ c 4 5)), (2, none), (4, some (qB c.q 5))]
theorem actP_N (t : Tr) (c : Cq) (now : Nat) (h : c.ok) (hn : now < 2 ^ 64) (hq : c.q = []) (hp : (advq c now).pend = true) : SC Try.prog 38 [pT, pC1, n64 now] 2 (sTN t c) (.s (.bool false)) 2 (sTN t (advq c now)) := by
  have c1 := status_N c now h hq
  have e1 := st_b2 (advq c now)
  have e2 := st_b1 (advq c now)
  have hq2 := advq_q0 c now hq
  rw [hp] at e1
  generalize advq c now = d at *
  refine SC.run hm Try.func38 rfl [.call [1] [pC, n64 now] [(0, some (bN c))] (n8 (stNq d)) 1 [(0, some (bN d))], .num 2, .dec true] [] rfl rfl ?_ (.inl rfl) (EndOK.by rfl ⟨rfl, rfl, trivial⟩ rfl rfl rfl rfl)
  simp only [true_and, and_true, and_assoc, bne_iff_ne, bne_eq_false_iff_eq, beq_iff_eq, beq_eq_false_iff_ne, ne_eq]
  repeat' apply And.intro
  all_goals first
    | exact True.intro
    | exact ⟨c1, rfl, Fits.of rfl rfl ⟨⟨rfl, _, rfl, rfl, fun h => h⟩, trivial⟩⟩
    | (with_reducible show _ = true; kernel_rfl)
    | (rw [e2]; with_reducible exact rfl)
    | (rw [e1]; with_reducible exact rfl)
    | (with_reducible exact rfl)
    | omega
    | decide
theorem act0e0_N (t : Tr) (c : Cq) (now : Nat) (h : c.ok) (hn : now < 2 ^ 64) (hq : c.q = []) (hp : (advq c now).pend = false) (hf : (advq c now).full = false) (h0 : t.ph = 0) (hc : t.cmd ≠ 132) : SC Try.prog 38 [pT, pC1, n64 now] 2 (sTN t c) (.s (.bool true)) 2 (sTN { t with ph := 1 } (wrtq (advq c now) now t.cmd true)) := by
  have c1 := status_N c now h hq
  have e1 := st_b2 (advq c now)
  have e2 := st_b1 (advq c now)
  have hq2 := advq_q0 c now hq
  have c2 := writeCommand_N (advq c now) now t.cmd (advq_ok h hn) hn hq2
  rw [hp] at e1
  rw [hf] at e2
  generalize advq c now = d at *
  refine SC.run hm Try.func38 rfl [.call [1] [pC, n64 now] [(0, some (bN c))] (n8 (stNq d)) 1 [(0, some (bN d))], .num 0, .dec false, .num 0, .dec false, .dec true, .call [1] [pC, n64 now, n8 t.cmd] [(0, some (bN d))] (.tup []) 1 [(0, some (bN (wrtq d now t.cmd true)))], .dec false] [] rfl rfl ?_ (.inl rfl) (EndOK.by rfl ⟨rfl, rfl, trivial⟩ rfl rfl rfl rfl)
  simp only [true_and, and_true, and_assoc, bne_iff_ne, bne_eq_false_iff_eq, beq_iff_eq, beq_eq_false_iff_ne, ne_eq]
  repeat' apply And.intro
  all_goals first
    | exact True.intro
    | exact ⟨c1, rfl, Fits.of rfl rfl ⟨⟨rfl, _, rfl, rfl, fun h => h⟩, trivial⟩⟩
    | exact ⟨c2, rfl, Fits.of rfl rfl ⟨⟨rfl, _, rfl, rfl, fun h => h⟩, trivial⟩⟩
    | (with_reducible show _ = true; kernel_rfl)
    | (rw [e2]; with_reducible exact rfl)
    | (rw [e1]; with_reducible exact rfl)
    | (with_reducible exact rfl)
    | omega
    | decide
theorem act0e1_N (t : Tr) (c : Cq) (now : Nat) (h : c.ok) (hn : now < 2 ^ 64) (hq : c.q = []) (hp : (advq c now).pend = false) (hf : (advq c now).full = false) (h0 : t.ph = 0) (hc : t.cmd = 132) : SC Try.prog 38 [pT, pC1, n64 now] 2 (sTN t c) (.s (.bool true)) 2 (sTN { t with ph := 3 } (wrtq (advq c now) now t.cmd true)) := by
  have c1 := status_N c now h hq
  have e1 := st_b2 (advq c now)
  have e2 := st_b1 (advq c now)
  have hq2 := advq_q0 c now hq
  have c2 := writeCommand_N (advq c now) now t.cmd (advq_ok h hn) hn hq2
  rw [hp] at e1
  rw [hf] at e2
  generalize advq c now = d at *
  refine SC.run hm Try.func38 rfl [.call [1] [pC, n64 now] [(0, some (bN c))] (n8 (stNq d)) 1 [(0, some (bN d))], .num 0, .dec false, .num 0, .dec false, .dec true, .call [1] [pC, n64 now, n8 t.cmd] [(0, some (bN d))] (.tup []) 1 [(0, some (bN (wrtq d now t.cmd true)))], .dec true] [] rfl rfl ?_ (.inl rfl) (EndOK.by rfl ⟨rfl, rfl, trivial⟩ rfl rfl rfl rfl)
  simp only [true_and, and_true, and_assoc, bne_iff_ne, bne_eq_false_iff_eq, beq_iff_eq, beq_eq_false_iff_ne, ne_eq]
  repeat' apply And.intro
  all_goals first
    | exact True.intro
    | exact ⟨c1, rfl, Fits.of rfl rfl ⟨⟨rfl, _, rfl, rfl, fun h => h⟩, trivial⟩⟩
    | exact ⟨c2, rfl, Fits.of rfl rfl ⟨⟨rfl, _, rfl, rfl, fun h => h⟩, trivial⟩⟩
    | (with_reducible show _ = true; kernel_rfl)
    | (rw [e2]; with_reducible exact rfl)
    | (rw [e1]; with_reducible exact rfl)
    | (with_reducible exact rfl)
    | omega
    | decide
theorem act3e_N (t : Tr) (c : Cq) (now : Nat) (h : c.ok) (hn : now < 2 ^ 64) (hq : c.q = []) (hp : (advq c now).pend = false) (hf : (advq c now).full = false) (h0 : t.ph = 3) : SC Try.prog 38 [pT, pC1, n64 now] 2 (sTN t c) (.s (.bool false)) 2 (sTN t (advq c now)) := by
  have c1 := status_N c now h hq
  have e1 := st_b2 (advq c now)
  have e2 := st_b1 (advq c now)
  have hq2 := advq_q0 c now hq
  rw [hp] at e1
  rw [hf] at e2
  generalize advq c now = d at *
  refine SC.run hm Try.func38 rfl [.call [1] [pC, n64 now] [(0, some (bN c))] (n8 (stNq d)) 1 [(0, some (bN d))], .num 0, .dec false, .num 0, .dec false, .dec false, .dec false, .dec false, .dec true] [] rfl rfl ?_ (.inl rfl) (EndOK.by rfl ⟨rfl, rfl, trivial⟩ rfl rfl rfl rfl)
  simp only [true_and, and_true, and_assoc, bne_iff_ne, bne_eq_false_iff_eq, beq_iff_eq, beq_eq_false_iff_ne, ne_eq]
  repeat' apply And.intro
  all_goals first
    | exact True.intro
    | exact ⟨c1, rfl, Fits.of rfl rfl ⟨⟨rfl, _, rfl, rfl, fun h => h⟩, trivial⟩⟩
    | (with_reducible show _ = true; kernel_rfl)
    | (rw [e2]; with_reducible exact rfl)
    | (rw [e1]; with_reducible exact rfl)
    | (with_reducible exact rfl)
    | omega
    | decide
theorem act1f0_N (t : Tr) (c : Cq) (now : Nat) (h : c.ok) (hn : now < 2 ^ 64) (hq : c.q = []) (hp : (advq c now).pend = false) (hf : (advq c now).full = false) (h0 : t.ph = 1) (hc : t.cmd ≠ 129) : SC Try.prog 38 [pT, pC1, n64 now] 2 (sTN t c) (.s (.bool true)) 2 (sTN { t with ph := 3 } (wrtq (advq c now) now t.adr false)) := by
  have c1 := status_N c now h hq
  have e1 := st_b2 (advq c now)
  have e2 := st_b1 (advq c now)
  have hq2 := advq_q0 c now hq
  have c2 := writeData_N (advq c now) now t.adr (advq_ok h hn) hn hq2
  rw [hp] at e1
  rw [hf] at e2
  generalize advq c now = d at *
  refine SC.run hm Try.func38 rfl [.call [1] [pC, n64 now] [(0, some (bN c))] (n8 (stNq d)) 1 [(0, some (bN d))], .num 0, .dec false, .num 0, .dec false, .dec false, .dec true, .call [1] [pC, n64 now, n8 t.adr] [(0, some (bN d))] (.tup []) 1 [(0, some (bN (wrtq d now t.adr false)))], .dec false] [] rfl rfl ?_ (.inl rfl) (EndOK.by rfl ⟨rfl, rfl, trivial⟩ rfl rfl rfl rfl)
  simp only [true_and, and_true, and_assoc, bne_iff_ne, bne_eq_false_iff_eq, beq_iff_eq, beq_eq_false_iff_ne, ne_eq]
  repeat' apply And.intro
  all_goals first
    | exact True.intro
    | exact ⟨c1, rfl, Fits.of rfl rfl ⟨⟨rfl, _, rfl, rfl, fun h => h⟩, trivial⟩⟩
    | exact ⟨c2, rfl, Fits.of rfl rfl ⟨⟨rfl, _, rfl, rfl, fun h => h⟩, trivial⟩⟩
    | (with_reducible show _ = true; kernel_rfl)
    | (rw [e2]; with_reducible exact rfl)
    | (rw [e1]; with_reducible exact rfl)
    | (with_reducible exact rfl)
    | omega
    | decide
theorem act1f1_N (t : Tr) (c : Cq) (now : Nat) (h : c.ok) (hn : now < 2 ^ 64) (hq : c.q = []) (hp : (advq c now).pend = false) (hf : (advq c now).full = false) (h0 : t.ph = 1) (hc : t.cmd = 129) : SC Try.prog 38 [pT, pC1, n64 now] 2 (sTN t c) (.s (.bool true)) 2 (sTN { t with ph := 2 } (wrtq (advq c now) now t.adr false)) := by
  have c1 := status_N c now h hq
  have e1 := st_b2 (advq c now)
  have e2 := st_b1 (advq c now)
  have hq2 := advq_q0 c now hq
  have c2 := writeData_N (advq c now) now t.adr (advq_ok h hn) hn hq2
  rw [hp] at e1
  rw [hf] at e2
  generalize advq c now = d at *
  refine SC.run hm Try.func38 rfl [.call [1] [pC, n64 now] [(0, some (bN c))] (n8 (stNq d)) 1 [(0, some (bN d))], .num 0, .dec false, .num 0, .dec false, .dec false, .dec true, .call [1] [pC, n64 now, n8 t.adr] [(0, some (bN d))] (.tup []) 1 [(0, some (bN (wrtq d now t.adr false)))], .dec true] [] rfl rfl ?_ (.inl rfl) (EndOK.by rfl ⟨rfl, rfl, trivial⟩ rfl rfl rfl rfl)
  simp only [true_and, and_true, and_assoc, bne_iff_ne, bne_eq_false_iff_eq, beq_iff_eq, beq_eq_false_iff_ne, ne_eq]
  repeat' apply And.intro
  all_goals first
    | exact True.intro
    | exact ⟨c1, rfl, Fits.of rfl rfl ⟨⟨rfl, _, rfl, rfl, fun h => h⟩, trivial⟩⟩
    | exact ⟨c2, rfl, Fits.of rfl rfl ⟨⟨rfl, _, rfl, rfl, fun h => h⟩, trivial⟩⟩
    | (with_reducible show _ = true; kernel_rfl)
    | (rw [e2]; with_reducible exact rfl)
    | (rw [e1]; with_reducible exact rfl)
    | (with_reducible exact rfl)
    | omega
    | decide
theorem act2f_N (t : Tr) (c : Cq) (now : Nat) (h : c.ok) (hn : now < 2 ^ 64) (hq : c.q = []) (hp : (advq c now).pend = false) (hf : (advq c now).full = false) (h0 : t.ph = 2) : SC Try.prog 38 [pT, pC1, n64 now] 2 (sTN t c) (.s (.bool true)) 2 (sTN { t with ph := 4 } (wrtq (advq c now) now t.val false)) := by
  have c1 := status_N c now h hq
  have e1 := st_b2 (advq c now)
  have e2 := st_b1 (advq c now)
  have hq2 := advq_q0 c now hq
  have c2 := writeData_N (advq c now) now t.val (advq_ok h hn) hn hq2
  rw [hp] at e1
  rw [hf] at e2
  generalize advq c now = d at *
  refine SC.run hm Try.func38 rfl [.call [1] [pC, n64 now] [(0, some (bN c))] (n8 (stNq d)) 1 [(0, some (bN d))], .num 0, .dec false, .num 0, .dec false, .dec false, .dec false, .dec true, .call [1] [pC, n64 now, n8 t.val] [(0, some (bN d))] (.tup []) 1 [(0, some (bN (wrtq d now t.val false)))]] [] rfl rfl ?_ (.inl rfl) (EndOK.by rfl ⟨rfl, rfl, trivial⟩ rfl rfl rfl rfl)
  simp only [true_and, and_true, and_assoc, bne_iff_ne, bne_eq_false_iff_eq, beq_iff_eq, beq_eq_false_iff_ne, ne_eq]
  repeat' apply And.intro
  all_goals first
    | exact True.intro
    | exact ⟨c1, rfl, Fits.of rfl rfl ⟨⟨rfl, _, rfl, rfl, fun h => h⟩, trivial⟩⟩
    | exact ⟨c2, rfl, Fits.of rfl rfl ⟨⟨rfl, _, rfl, rfl, fun h => h⟩, trivial⟩⟩
    | (with_reducible show _ = true; kernel_rfl)
    | (rw [e2]; with_reducible exact rfl)
    | (rw [e1]; with_reducible exact rfl)
    | (with_reducible exact rfl)
    | omega
    | decide
theorem act4f_N (t : Tr) (c : Cq) (now : Nat) (h : c.ok) (hn : now < 2 ^ 64) (hq : c.q = []) (hp : (advq c now).pend = false) (hf : (advq c now).full = false) (h0 : t.ph = 4) : SC Try.prog 38 [pT, pC1, n64 now] 2 (sTN t c) (.s (.bool false)) 2 (sTN { t with ph := 5 } (advq c now)) := by
  have c1 := status_N c now h hq
  have e1 := st_b2 (advq c now)
  have e2 := st_b1 (advq c now)
  have hq2 := advq_q0 c now hq
  rw [hp] at e1
  rw [hf] at e2
  generalize advq c now = d at *
  refine SC.run hm Try.func38 rfl [.call [1] [pC, n64 now] [(0, some (bN c))] (n8 (stNq d)) 1 [(0, some (bN d))], .num 0, .dec false, .num 0, .dec false, .dec false, .dec false, .dec false, .dec false, .dec true] [] rfl rfl ?_ (.inl rfl) (EndOK.by rfl ⟨rfl, rfl, trivial⟩ rfl rfl rfl rfl)
  simp only [true_and, and_true, and_assoc, bne_iff_ne, bne_eq_false_iff_eq, beq_iff_eq, beq_eq_false_iff_ne, ne_eq]
  repeat' apply And.intro
  all_goals first
    | exact True.intro
    | exact ⟨c1, rfl, Fits.of rfl rfl ⟨⟨rfl, _, rfl, rfl, fun h => h⟩, trivial⟩⟩
    | (with_reducible show _ = true; kernel_rfl)
    | (rw [e2]; with_reducible exact rfl)
    | (rw [e1]; with_reducible exact rfl)
    | (with_reducible exact rfl)
    | omega
    | decide
theorem act0f_N (t : Tr) (c : Cq) (now : Nat) (h : c.ok) (hn : now < 2 ^ 64) (hq : c.q = []) (hp : (advq c now).pend = false) (hf : (advq c now).full = true) (h0 : t.ph = 0) : SC Try.prog 38 [pT, pC1, n64 now] 2 (sTN t c) (.s (.bool true)) 2 (sTN t (emtq (advq (advq c now) now))) := by
  have c1 := status_N c now h hq
  have e1 := st_b2 (advq c now)
  have e2 := st_b1 (advq c now)
  have hq2 := advq_q0 c now hq
  have c2 := readData_N (advq c now) now (advq_ok h hn) hq2
  rw [hp] at e1
  rw [hf] at e2
  generalize advq c now = d at *
  refine SC.run hm Try.func38 rfl [.call [1] [pC, n64 now] [(0, some (bN c))] (n8 (stNq d)) 1 [(0, some (bN d))], .num 0, .dec false, .num 1, .dec true, .dec true, .call [1] [pC, n64 now] [(0, some (bN d))] (n8 (advq d now).out) 1 [(0, some (bN (emtq (advq d now))))]] [] rfl rfl ?_ (.inl rfl) (EndOK.by rfl ⟨rfl, rfl, trivial⟩ rfl rfl rfl rfl)
  simp only [true_and, and_true, and_assoc, bne_iff_ne, bne_eq_false_iff_eq, beq_iff_eq, beq_eq_false_iff_ne, ne_eq]
  repeat' apply And.intro
  all_goals first
    | exact True.intro
    | exact ⟨c1, rfl, Fits.of rfl rfl ⟨⟨rfl, _, rfl, rfl, fun h => h⟩, trivial⟩⟩
    | exact ⟨c2, rfl, Fits.of rfl rfl ⟨⟨rfl, _, rfl, rfl, fun h => h⟩, trivial⟩⟩
    | (with_reducible show _ = true; kernel_rfl)
    | (rw [e2]; with_reducible exact rfl)
    | (rw [e1]; with_reducible exact rfl)
    | (with_reducible exact rfl)
    | omega
    | decide
theorem act3f_N (t : Tr) (c : Cq) (now : Nat) (h : c.ok) (hn : now < 2 ^ 64) (hq : c.q = []) (hp : (advq c now).pend = false) (hf : (advq c now).full = true) (h0 : t.ph = 3) : SC Try.prog 38 [pT, pC1, n64 now] 2 (sTN t c) (.s (.bool false)) 2 (sTN { t with ph := 5, res := (advq (advq c now) now).out } (emtq (advq (advq c now) now))) := by
  have c1 := status_N c now h hq
  have e1 := st_b2 (advq c now)
  have e2 := st_b1 (advq c now)
  have hq2 := advq_q0 c now hq
  have c2 := readData_N (advq c now) now (advq_ok h hn) hq2
  rw [hp] at e1
  rw [hf] at e2
  generalize advq c now = d at *
  refine SC.run hm Try.func38 rfl [.call [1] [pC, n64 now] [(0, some (bN c))] (n8 (stNq d)) 1 [(0, some (bN d))], .num 0, .dec false, .num 1, .dec true, .dec false, .dec false, .dec false, .dec true, .call [1] [pC, n64 now] [(0, some (bN d))] (n8 (advq d now).out) 1 [(0, some (bN (emtq (advq d now))))]] [] rfl rfl ?_ (.inl rfl) (EndOK.by rfl ⟨rfl, rfl, trivial⟩ rfl rfl rfl rfl)
  simp only [true_and, and_true, and_assoc, bne_iff_ne, bne_eq_false_iff_eq, beq_iff_eq, beq_eq_false_iff_ne, ne_eq]
  repeat' apply And.intro
  all_goals first
    | exact True.intro
    | exact ⟨c1, rfl, Fits.of rfl rfl ⟨⟨rfl, _, rfl, rfl, fun h => h⟩, trivial⟩⟩
    | exact ⟨c2, rfl, Fits.of rfl rfl ⟨⟨rfl, _, rfl, rfl, fun h => h⟩, trivial⟩⟩
    | (with_reducible show _ = true; kernel_rfl)
    | (rw [e2]; with_reducible exact rfl)
    | (rw [e1]; with_reducible exact rfl)
    | (with_reducible exact rfl)
    | omega
    | decide
theorem act1t0_N (t : Tr) (c : Cq) (now : Nat) (h : c.ok) (hn : now < 2 ^ 64) (hq : c.q = []) (hp : (advq c now).pend = false) (hf : (advq c now).full = true) (h0 : t.ph = 1) (hc : t.cmd ≠ 129) : SC Try.prog 38 [pT, pC1, n64 now] 2 (sTN t c) (.s (.bool true)) 2 (sTN { t with ph := 3 } (wrtq (advq c now) now t.adr false)) := by
  have c1 := status_N c now h hq
  have e1 := st_b2 (advq c now)
  have e2 := st_b1 (advq c now)
  have hq2 := advq_q0 c now hq
  have c2 := writeData_N (advq c now) now t.adr (advq_ok h hn) hn hq2
  rw [hp] at e1
  rw [hf] at e2
  generalize advq c now = d at *
  refine SC.run hm Try.func38 rfl [.call [1] [pC, n64 now] [(0, some (bN c))] (n8 (stNq d)) 1 [(0, some (bN d))], .num 0, .dec false, .num 1, .dec true, .dec false, .dec true, .call [1] [pC, n64 now, n8 t.adr] [(0, some (bN d))] (.tup []) 1 [(0, some (bN (wrtq d now t.adr false)))], .dec false] [] rfl rfl ?_ (.inl rfl) (EndOK.by rfl ⟨rfl, rfl, trivial⟩ rfl rfl rfl rfl)
  simp only [true_and, and_true, and_assoc, bne_iff_ne, bne_eq_false_iff_eq, beq_iff_eq, beq_eq_false_iff_ne, ne_eq]
  repeat' apply And.intro
  all_goals first
    | exact True.intro
    | exact ⟨c1, rfl, Fits.of rfl rfl ⟨⟨rfl, _, rfl, rfl, fun h => h⟩, trivial⟩⟩
    | exact ⟨c2, rfl, Fits.of rfl rfl ⟨⟨rfl, _, rfl, rfl, fun h => h⟩, trivial⟩⟩
    | (with_reducible show _ = true; kernel_rfl)
    | (rw [e2]; with_reducible exact rfl)
    | (rw [e1]; with_reducible exact rfl)
    | (with_reducible exact rfl)
    | omega
    | decide
theorem act1t1_N (t : Tr) (c : Cq) (now : Nat) (h : c.ok) (hn : now < 2 ^ 64) (hq : c.q = []) (hp : (advq c now).pend = false) (hf : (advq c now).full = true) (h0 : t.ph = 1) (hc : t.cmd = 129) : SC Try.prog 38 [pT, pC1, n64 now] 2 (sTN t c) (.s (.bool true)) 2 (sTN { t with ph := 2 } (wrtq (advq c now) now t.adr false)) := by
  have c1 := status_N c now h hq
  have e1 := st_b2 (advq c now)
  have e2 := st_b1 (advq c now)
  have hq2 := advq_q0 c now hq
  have c2 := writeData_N (advq c now) now t.adr (advq_ok h hn) hn hq2
  rw [hp] at e1
  rw [hf] at e2
  generalize advq c now = d at *
  refine SC.run hm Try.func38 rfl [.call [1] [pC, n64 now] [(0, some (bN c))] (n8 (stNq d)) 1 [(0, some (bN d))], .num 0, .dec false, .num 1, .dec true, .dec false, .dec true, .call [1] [pC, n64 now, n8 t.adr] [(0, some (bN d))] (.tup []) 1 [(0, some (bN (wrtq d now t.adr false)))], .dec true] [] rfl rfl ?_ (.inl rfl) (EndOK.by rfl ⟨rfl, rfl, trivial⟩ rfl rfl rfl rfl)
  simp only [true_and, and_true, and_assoc, bne_iff_ne, bne_eq_false_iff_eq, beq_iff_eq, beq_eq_false_iff_ne, ne_eq]
  repeat' apply And.intro
  all_goals first
    | exact True.intro
    | exact ⟨c1, rfl, Fits.of rfl rfl ⟨⟨rfl, _, rfl, rfl, fun h => h⟩, trivial⟩⟩
    | exact ⟨c2, rfl, Fits.of rfl rfl ⟨⟨rfl, _, rfl, rfl, fun h => h⟩, trivial⟩⟩
    | (with_reducible show _ = true; kernel_rfl)
    | (rw [e2]; with_reducible exact rfl)
    | (rw [e1]; with_reducible exact rfl)
    | (with_reducible exact rfl)
    | omega
    | decide
theorem act2t_N (t : Tr) (c : Cq) (now : Nat) (h : c.ok) (hn : now < 2 ^ 64) (hq : c.q = []) (hp : (advq c now).pend = false) (hf : (advq c now).full = true) (h0 : t.ph = 2) : SC Try.prog 38 [pT, pC1, n64 now] 2 (sTN t c) (.s (.bool true)) 2 (sTN { t with ph := 4 } (wrtq (advq c now) now t.val false)) := by
  have c1 := status_N c now h hq
  have e1 := st_b2 (advq c now)
  have e2 := st_b1 (advq c now)
  have hq2 := advq_q0 c now hq
  have c2 := writeData_N (advq c now) now t.val (advq_ok h hn) hn hq2
  rw [hp] at e1
  rw [hf] at e2
  generalize advq c now = d at *
  refine SC.run hm Try.func38 rfl [.call [1] [pC, n64 now] [(0, some (bN c))] (n8 (stNq d)) 1 [(0, some (bN d))], .num 0, .dec false, .num 1, .dec true, .dec false, .dec false, .dec true, .call [1] [pC, n64 now, n8 t.val] [(0, some (bN d))] (.tup []) 1 [(0, some (bN (wrtq d now t.val false)))]] [] rfl rfl ?_ (.inl rfl) (EndOK.by rfl ⟨rfl, rfl, trivial⟩ rfl rfl rfl rfl)
  simp only [true_and, and_true, and_assoc, bne_iff_ne, bne_eq_false_iff_eq, beq_iff_eq, beq_eq_false_iff_ne, ne_eq]
  repeat' apply And.intro
  all_goals first
    | exact True.intro
    | exact ⟨c1, rfl, Fits.of rfl rfl ⟨⟨rfl, _, rfl, rfl, fun h => h⟩, trivial⟩⟩
    | exact ⟨c2, rfl, Fits.of rfl rfl ⟨⟨rfl, _, rfl, rfl, fun h => h⟩, trivial⟩⟩
    | (with_reducible show _ = true; kernel_rfl)
    | (rw [e2]; with_reducible exact rfl)
    | (rw [e1]; with_reducible exact rfl)
    | (with_reducible exact rfl)
    | omega
    | decide
theorem act4t_N (t : Tr) (c : Cq) (now : Nat) (h : c.ok) (hn : now < 2 ^ 64) (hq : c.q = []) (hp : (advq c now).pend = false) (hf : (advq c now).full = true) (h0 : t.ph = 4) : SC Try.prog 38 [pT, pC1, n64 now] 2 (sTN t c) (.s (.bool false)) 2 (sTN { t with ph := 5 } (advq c now)) := by
  have c1 := status_N c now h hq
  have e1 := st_b2 (advq c now)
  have e2 := st_b1 (advq c now)
  have hq2 := advq_q0 c now hq
  rw [hp] at e1
  rw [hf] at e2
  generalize advq c now = d at *
  refine SC.run hm Try.func38 rfl [.call [1] [pC, n64 now] [(0, some (bN c))] (n8 (stNq d)) 1 [(0, some (bN d))], .num 0, .dec false, .num 1, .dec true, .dec false, .dec false, .dec false, .dec false, .dec true] [] rfl rfl ?_ (.inl rfl) (EndOK.by rfl ⟨rfl, rfl, trivial⟩ rfl rfl rfl rfl)
  simp only [true_and, and_true, and_assoc, bne_iff_ne, bne_eq_false_iff_eq, beq_iff_eq, beq_eq_false_iff_ne, ne_eq]
  repeat' apply And.intro
  all_goals first
    | exact True.intro
    | exact ⟨c1, rfl, Fits.of rfl rfl ⟨⟨rfl, _, rfl, rfl, fun h => h⟩, trivial⟩⟩
    | (with_reducible show _ = true; kernel_rfl)
    | (rw [e2]; with_reducible exact rfl)
    | (rw [e1]; with_reducible exact rfl)
    | (with_reducible exact rfl)
    | omega
    | decide
theorem act_N (t : Tr) (c : Cq) (now : Nat) (h : c.ok) (hn : now < 2 ^ 64) (hq : c.q = []) (ht : t.ok) (h4 : t.ph ≤ 4) : SC Try.prog 38 [pT, pC1, n64 now] 2 (sTN t c) (.s (.bool (actMq t c now).2.2)) 2 (sTN (actMq t c now).1 (actMq t c now).2.1) := by
  cases hp : (advq c now).pend with
  | true => rw [show actMq t c now = (t, advq c now, false) by simp [actMq, hp]]; exact actP_N t c now h hn hq hp
  | false =>
    have h5 : t.ph = 0 ∨ t.ph = 1 ∨ t.ph = 2 ∨ t.ph = 3 ∨ t.ph = 4 := by omega
    rcases h5 with h0 | h0 | h0 | h0 | h0 <;> cases hf : (advq c now).full
    · by_cases hc : t.cmd = 132
      · rw [show actMq t c now = ({ t with ph := 3 }, wrtq (advq c now) now t.cmd true, true) by simp [actMq, hp, h0, hf, hc]]; exact act0e1_N t c now h hn hq hp hf h0 hc
      · rw [show actMq t c now = ({ t with ph := 1 }, wrtq (advq c now) now t.cmd true, true) by simp [actMq, hp, h0, hf, hc]]; exact act0e0_N t c now h hn hq hp hf h0 hc
    · rw [show actMq t c now = (t, emtq (advq (advq c now) now), true) by simp [actMq, hp, h0, hf]]; exact act0f_N t c now h hn hq hp hf h0
    · by_cases hc : t.cmd = 129
      · rw [show actMq t c now = ({ t with ph := 2 }, wrtq (advq c now) now t.adr false, true) by simp [actMq, hp, h0, hc]]; exact act1f1_N t c now h hn hq hp hf h0 hc
      · rw [show actMq t c now = ({ t with ph := 3 }, wrtq (advq c now) now t.adr false, true) by simp [actMq, hp, h0, hc]]; exact act1f0_N t c now h hn hq hp hf h0 hc
    · by_cases hc : t.cmd = 129
      · rw [show actMq t c now = ({ t with ph := 2 }, wrtq (advq c now) now t.adr false, true) by simp [actMq, hp, h0, hc]]; exact act1t1_N t c now h hn hq hp hf h0 hc
      · rw [show actMq t c now = ({ t with ph := 3 }, wrtq (advq c now) now t.adr false, true) by simp [actMq, hp, h0, hc]]; exact act1t0_N t c now h hn hq hp hf h0 hc
    · rw [show actMq t c now = ({ t with ph := 4 }, wrtq (advq c now) now t.val false, true) by simp [actMq, hp, h0]]; exact act2f_N t c now h hn hq hp hf h0
    · rw [show actMq t c now = ({ t with ph := 4 }, wrtq (advq c now) now t.val false, true) by simp [actMq, hp, h0]]; exact act2t_N t c now h hn hq hp hf h0
    · rw [show actMq t c now = (t, advq c now, false) by simp [actMq, hp, h0, hf]]; exact act3e_N t c now h hn hq hp hf h0
    · rw [show actMq t c now = ({ t with ph := 5, res := (advq (advq c now) now).out }, emtq (advq (advq c now) now), false) by simp [actMq, hp, h0, hf]]; exact act3f_N t c now h hn hq hp hf h0
    · rw [show actMq t c now = ({ t with ph := 5 }, advq c now, false) by simp [actMq, hp, h0]]; exact act4f_N t c now h hn hq hp hf h0
    · rw [show actMq t c now = ({ t with ph := 5 }, advq c now, false) by simp [actMq, hp, h0]]; exact act4t_N t c now h hn hq hp hf h0
theorem actP_Q (t : Tr) (c : Cq) (now : Nat) (h : c.ok) (hn : now < 2 ^ 64) (hp : (advq c now).pend = true) : SC Try.prog 38 [pT, pC1, n64 now] 4 (sTQ t c) (.s (.bool false)) 6 (eTQ t (advq c now)) := by
  have c1 := status_Q c now h
  have e1 := st_b2 (advq c now)
  have e2 := st_b1 (advq c now)
  rw [hp] at e1
  generalize advq c now = d at *
  refine SC.run hm Try.func38 rfl [.call [1, 2, 3] [pC, n64 now] (sQ c) (n8 (stNq d)) 5 (eQ d), .num 2, .dec true] [4, 5] rfl rfl ?_ (.inl rfl) (EndOK.move rfl ⟨rfl, rfl, rfl, trivial⟩ rfl rfl rfl rfl rfl)
  simp only [true_and, and_true, and_assoc, bne_iff_ne, bne_eq_false_iff_eq, beq_iff_eq, beq_eq_false_iff_ne, ne_eq]
  repeat' apply And.intro
  all_goals first
    | exact True.intro
    | exact ⟨c1, rfl, Fits.of rfl rfl ⟨⟨rfl, _, rfl, rfl, fun h => h⟩, ⟨rfl, _, rfl, rfl, fun h => h⟩, trivial⟩⟩
    | (with_reducible show _ = true; kernel_rfl)
    | (rw [e2]; with_reducible exact rfl)
    | (rw [e1]; with_reducible exact rfl)
    | (with_reducible exact rfl)
    | omega
    | decide
theorem act0e0_Q (t : Tr) (c : Cq) (now : Nat) (h : c.ok) (hn : now < 2 ^ 64) (hp : (advq c now).pend = false) (hf : (advq c now).full = false) (h0 : t.ph = 0) (hc : t.cmd ≠ 132) : SC Try.prog 38 [pT, pC1, n64 now] 4 (sTQ t c) (.s (.bool true)) 6 (eTQ { t with ph := 1 } (wrtq (advq c now) now t.cmd true)) := by
  have c1 := status_Q c now h
  have e1 := st_b2 (advq c now)
  have e2 := st_b1 (advq c now)
  have c2 := writeCommand_Q (advq c now) now t.cmd (advq_ok h hn) hn
  rw [hp] at e1
  rw [hf] at e2
  generalize advq c now = d at *
  refine SC.run hm Try.func38 rfl [.call [1, 2, 3] [pC, n64 now] (sQ c) (n8 (stNq d)) 5 (eQ d), .num 0, .dec false, .num 0, .dec false, .dec true, .call [1, 4, 5] [pC, n64 now, n8 t.cmd] (sQ d) (.tup []) 5 (eQ (wrtq d now t.cmd true)), .dec false] [6, 7] rfl rfl ?_ (.inl rfl) (EndOK.move rfl ⟨rfl, rfl, rfl, trivial⟩ rfl rfl rfl rfl rfl)
  simp only [true_and, and_true, and_assoc, bne_iff_ne, bne_eq_false_iff_eq, beq_iff_eq, beq_eq_false_iff_ne, ne_eq]
  repeat' apply And.intro
  all_goals first
    | exact True.intro
    | exact ⟨c1, rfl, Fits.of rfl rfl ⟨⟨rfl, _, rfl, rfl, fun h => h⟩, ⟨rfl, _, rfl, rfl, fun h => h⟩, trivial⟩⟩
    | exact ⟨c2, rfl, Fits.of rfl rfl ⟨⟨rfl, _, rfl, rfl, fun h => h⟩, ⟨rfl, _, rfl, rfl, fun h => h⟩, trivial⟩⟩
    | (with_reducible show _ = true; kernel_rfl)
    | (rw [e2]; with_reducible exact rfl)
    | (rw [e1]; with_reducible exact rfl)
    | (with_reducible exact rfl)
    | omega
    | decide
theorem act0e1_Q (t : Tr) (c : Cq) (now : Nat) (h : c.ok) (hn : now < 2 ^ 64) (hp : (advq c now).pend = false) (hf : (advq c now).full = false) (h0 : t.ph = 0) (hc : t.cmd = 132) : SC Try.prog 38 [pT, pC1, n64 now] 4 (sTQ t c) (.s (.bool true)) 6 (eTQ { t with ph := 3 } (wrtq (advq c now) now t.cmd true)) := by
  have c1 := status_Q c now h
  have e1 := st_b2 (advq c now)
  have e2 := st_b1 (advq c now)
  have c2 := writeCommand_Q (advq c now) now t.cmd (advq_ok h hn) hn
  rw [hp] at e1
  rw [hf] at e2
  generalize advq c now = d at *
  refine SC.run hm Try.func38 rfl [.call [1, 2, 3] [pC, n64 now] (sQ c) (n8 (stNq d)) 5 (eQ d), .num 0, .dec false, .num 0, .dec false, .dec true, .call [1, 4, 5] [pC, n64 now, n8 t.cmd] (sQ d) (.tup []) 5 (eQ (wrtq d now t.cmd true)), .dec true] [6, 7] rfl rfl ?_ (.inl rfl) (EndOK.move rfl ⟨rfl, rfl, rfl, trivial⟩ rfl rfl rfl rfl rfl)
  simp only [true_and, and_true, and_assoc, bne_iff_ne, bne_eq_false_iff_eq, beq_iff_eq, beq_eq_false_iff_ne, ne_eq]
  repeat' apply And.intro
  all_goals first
    | exact True.intro
    | exact ⟨c1, rfl, Fits.of rfl rfl ⟨⟨rfl, _, rfl, rfl, fun h => h⟩, ⟨rfl, _, rfl, rfl, fun h => h⟩, trivial⟩⟩
    | exact ⟨c2, rfl, Fits.of rfl rfl ⟨⟨rfl, _, rfl, rfl, fun h => h⟩, ⟨rfl, _, rfl, rfl, fun h => h⟩, trivial⟩⟩
    | (with_reducible show _ = true; kernel_rfl)
    | (rw [e2]; with_reducible exact rfl)
    | (rw [e1]; with_reducible exact rfl)
    | (with_reducible exact rfl)
    | omega
    | decide
theorem act3e_Q (t : Tr) (c : Cq) (now : Nat) (h : c.ok) (hn : now < 2 ^ 64) (hp : (advq c now).pend = false) (hf : (advq c now).full = false) (h0 : t.ph = 3) : SC Try.prog 38 [pT, pC1, n64 now] 4 (sTQ t c) (.s (.bool false)) 6 (eTQ t (advq c now)) := by
  have c1 := status_Q c now h
  have e1 := st_b2 (advq c now)
  have e2 := st_b1 (advq c now)
  rw [hp] at e1
  rw [hf] at e2
  generalize advq c now = d at *
  refine SC.run hm Try.func38 rfl [.call [1, 2, 3] [pC, n64 now] (sQ c) (n8 (stNq d)) 5 (eQ d), .num 0, .dec false, .num 0, .dec false, .dec false, .dec false, .dec false, .dec true] [4, 5] rfl rfl ?_ (.inl rfl) (EndOK.move rfl ⟨rfl, rfl, rfl, trivial⟩ rfl rfl rfl rfl rfl)
  simp only [true_and, and_true, and_assoc, bne_iff_ne, bne_eq_false_iff_eq, beq_iff_eq, beq_eq_false_iff_ne, ne_eq]
  repeat' apply And.intro
  all_goals first
    | exact True.intro
    | exact ⟨c1, rfl, Fits.of rfl rfl ⟨⟨rfl, _, rfl, rfl, fun h => h⟩, ⟨rfl, _, rfl, rfl, fun h => h⟩, trivial⟩⟩
    | (with_reducible show _ = true; kernel_rfl)
    | (rw [e2]; with_reducible exact rfl)
    | (rw [e1]; with_reducible exact rfl)
    | (with_reducible exact rfl)
    | omega
    | decide
theorem act1f0_Q (t : Tr) (c : Cq) (now : Nat) (h : c.ok) (hn : now < 2 ^ 64) (hp : (advq c now).pend = false) (hf : (advq c now).full = false) (h0 : t.ph = 1) (hc : t.cmd ≠ 129) : SC Try.prog 38 [pT, pC1, n64 now] 4 (sTQ t c) (.s (.bool true)) 6 (eTQ { t with ph := 3 } (wrtq (advq c now) now t.adr false)) := by
  have c1 := status_Q c now h
  have e1 := st_b2 (advq c now)
  have e2 := st_b1 (advq c now)
  have c2 := writeData_Q (advq c now) now t.adr (advq_ok h hn) hn
  rw [hp] at e1
  rw [hf] at e2
  generalize advq c now = d at *
  refine SC.run hm Try.func38 rfl [.call [1, 2, 3] [pC, n64 now] (sQ c) (n8 (stNq d)) 5 (eQ d), .num 0, .dec false, .num 0, .dec false, .dec false, .dec true, .call [1, 4, 5] [pC, n64 now, n8 t.adr] (sQ d) (.tup []) 5 (eQ (wrtq d now t.adr false)), .dec false] [6, 7] rfl rfl ?_ (.inl rfl) (EndOK.move rfl ⟨rfl, rfl, rfl, trivial⟩ rfl rfl rfl rfl rfl)
  simp only [true_and, and_true, and_assoc, bne_iff_ne, bne_eq_false_iff_eq, beq_iff_eq, beq_eq_false_iff_ne, ne_eq]
  repeat' apply And.intro
  all_goals first
    | exact True.intro
    | exact ⟨c1, rfl, Fits.of rfl rfl ⟨⟨rfl, _, rfl, rfl, fun h => h⟩, ⟨rfl, _, rfl, rfl, fun h => h⟩, trivial⟩⟩
    | exact ⟨c2, rfl, Fits.of rfl rfl ⟨⟨rfl, _, rfl, rfl, fun h => h⟩, ⟨rfl, _, rfl, rfl, fun h => h⟩, trivial⟩⟩
    | (with_reducible show _ = true; kernel_rfl)
    | (rw [e2]; with_reducible exact rfl)
    | (rw [e1]; with_reducible exact rfl)
    | (with_reducible exact rfl)
    | omega
    | decide
theorem act1f1_Q (t : Tr) (c : Cq) (now : Nat) (h : c.ok) (hn : now < 2 ^ 64) (hp : (advq c now).pend = false) (hf : (advq c now).full = false) (h0 : t.ph = 1) (hc : t.cmd = 129) : SC Try.prog 38 [pT, pC1, n64 now] 4 (sTQ t c) (.s (.bool true)) 6 (eTQ { t with ph := 2 } (wrtq (advq c now) now t.adr false)) := by
  have c1 := status_Q c now h
  have e1 := st_b2 (advq c now)
  have e2 := st_b1 (advq c now)
  have c2 := writeData_Q (advq c now) now t.adr (advq_ok h hn) hn
  rw [hp] at e1
  rw [hf] at e2
  generalize advq c now = d at *
  refine SC.run hm Try.func38 rfl [.call [1, 2, 3] [pC, n64 now] (sQ c) (n8 (stNq d)) 5 (eQ d), .num 0, .dec false, .num 0, .dec false, .dec false, .dec true, .call [1, 4, 5] [pC, n64 now, n8 t.adr] (sQ d) (.tup []) 5 (eQ (wrtq d now t.adr false)), .dec true] [6, 7] rfl rfl ?_ (.inl rfl) (EndOK.move rfl ⟨rfl, rfl, rfl, trivial⟩ rfl rfl rfl rfl rfl)
  simp only [true_and, and_true, and_assoc, bne_iff_ne, bne_eq_false_iff_eq, beq_iff_eq, beq_eq_false_iff_ne, ne_eq]
  repeat' apply And.intro
  all_goals first
    | exact True.intro
    | exact ⟨c1, rfl, Fits.of rfl rfl ⟨⟨rfl, _, rfl, rfl, fun h => h⟩, ⟨rfl, _, rfl, rfl, fun h => h⟩, trivial⟩⟩
    | exact ⟨c2, rfl, Fits.of rfl rfl ⟨⟨rfl, _, rfl, rfl, fun h => h⟩, ⟨rfl, _, rfl, rfl, fun h => h⟩, trivial⟩⟩
    | (with_reducible show _ = true; kernel_rfl)
    | (rw [e2]; with_reducible exact rfl)
    | (rw [e1]; with_reducible exact rfl)
    | (with_reducible exact rfl)
    | omega
    | decide
theorem act2f_Q (t : Tr) (c : Cq) (now : Nat) (h : c.ok) (hn : now < 2 ^ 64) (hp : (advq c now).pend = false) (hf : (advq c now).full = false) (h0 : t.ph = 2) : SC Try.prog 38 [pT, pC1, n64 now] 4 (sTQ t c) (.s (.bool true)) 6 (eTQ { t with ph := 4 } (wrtq (advq c now) now t.val false)) := by
  have c1 := status_Q c now h
  have e1 := st_b2 (advq c now)
  have e2 := st_b1 (advq c now)
  have c2 := writeData_Q (advq c now) now t.val (advq_ok h hn) hn
  rw [hp] at e1
  rw [hf] at e2
  generalize advq c now = d at *
  refine SC.run hm Try.func38 rfl [.call [1, 2, 3] [pC, n64 now] (sQ c) (n8 (stNq d)) 5 (eQ d), .num 0, .dec false, .num 0, .dec false, .dec false, .dec false, .dec true, .call [1, 4, 5] [pC, n64 now, n8 t.val] (sQ d) (.tup []) 5 (eQ (wrtq d now t.val false))] [6, 7] rfl rfl ?_ (.inl rfl) (EndOK.move rfl ⟨rfl, rfl, rfl, trivial⟩ rfl rfl rfl rfl rfl)
  simp only [true_and, and_true, and_assoc, bne_iff_ne, bne_eq_false_iff_eq, beq_iff_eq, beq_eq_false_iff_ne, ne_eq]
  repeat' apply And.intro
  all_goals first
    | exact True.intro
    | exact ⟨c1, rfl, Fits.of rfl rfl ⟨⟨rfl, _, rfl, rfl, fun h => h⟩, ⟨rfl, _, rfl, rfl, fun h => h⟩, trivial⟩⟩
    | exact ⟨c2, rfl, Fits.of rfl rfl ⟨⟨rfl, _, rfl, rfl, fun h => h⟩, ⟨rfl, _, rfl, rfl, fun h => h⟩, trivial⟩⟩
    | (with_reducible show _ = true; kernel_rfl)
    | (rw [e2]; with_reducible exact rfl)
    | (rw [e1]; with_reducible exact rfl)
    | (with_reducible exact rfl)
    | omega
    | decide
theorem act4f_Q (t : Tr) (c : Cq) (now : Nat) (h : c.ok) (hn : now < 2 ^ 64) (hp : (advq c now).pend = false) (hf : (advq c now).full = false) (h0 : t.ph = 4) : SC Try.prog 38 [pT, pC1, n64 now] 4 (sTQ t c) (.s (.bool false)) 6 (eTQ { t with ph := 5 } (advq c now)) := by
  have c1 := status_Q c now h
  have e1 := st_b2 (advq c now)
  have e2 := st_b1 (advq c now)
  rw [hp] at e1
  rw [hf] at e2
  generalize advq c now = d at *
  refine SC.run hm Try.func38 rfl [.call [1, 2, 3] [pC, n64 now] (sQ c) (n8 (stNq d)) 5 (eQ d), .num 0, .dec false, .num 0, .dec false, .dec false, .dec false, .dec false, .dec false, .dec true] [4, 5] rfl rfl ?_ (.inl rfl) (EndOK.move rfl ⟨rfl, rfl, rfl, trivial⟩ rfl rfl rfl rfl rfl)
  simp only [true_and, and_true, and_assoc, bne_iff_ne, bne_eq_false_iff_eq, beq_iff_eq, beq_eq_false_iff_ne, ne_eq]
  repeat' apply And.intro
  all_goals first
    | exact True.intro
    | exact ⟨c1, rfl, Fits.of rfl rfl ⟨⟨rfl, _, rfl, rfl, fun h => h⟩, ⟨rfl, _, rfl, rfl, fun h => h⟩, trivial⟩⟩
    | (with_reducible show _ = true; kernel_rfl)
    | (rw [e2]; with_reducible exact rfl)
    | (rw [e1]; with_reducible exact rfl)
    | (with_reducible exact rfl)
    | omega
    | decide
theorem act0f_Q (t : Tr) (c : Cq) (now : Nat) (h : c.ok) (hn : now < 2 ^ 64) (hp : (advq c now).pend = false) (hf : (advq c now).full = true) (h0 : t.ph = 0) : SC Try.prog 38 [pT, pC1, n64 now] 4 (sTQ t c) (.s (.bool true)) 6 (eTQ t (emtq (advq (advq c now) now))) := by
  have c1 := status_Q c now h
  have e1 := st_b2 (advq c now)
  have e2 := st_b1 (advq c now)
  have c2 := readData_Q (advq c now) now (advq_ok h hn)
  rw [hp] at e1
  rw [hf] at e2
  generalize advq c now = d at *
  refine SC.run hm Try.func38 rfl [.call [1, 2, 3] [pC, n64 now] (sQ c) (n8 (stNq d)) 5 (eQ d), .num 0, .dec false, .num 1, .dec true, .dec true, .call [1, 4, 5] [pC, n64 now] (sQ d) (n8 (advq d now).out) 5 (eQ (emtq (advq d now)))] [6, 7] rfl rfl ?_ (.inl rfl) (EndOK.move rfl ⟨rfl, rfl, rfl, trivial⟩ rfl rfl rfl rfl rfl)
  simp only [true_and, and_true, and_assoc, bne_iff_ne, bne_eq_false_iff_eq, beq_iff_eq, beq_eq_false_iff_ne, ne_eq]
  repeat' apply And.intro
  all_goals first
    | exact True.intro
    | exact ⟨c1, rfl, Fits.of rfl rfl ⟨⟨rfl, _, rfl, rfl, fun h => h⟩, ⟨rfl, _, rfl, rfl, fun h => h⟩, trivial⟩⟩
    | exact ⟨c2, rfl, Fits.of rfl rfl ⟨⟨rfl, _, rfl, rfl, fun h => h⟩, ⟨rfl, _, rfl, rfl, fun h => h⟩, trivial⟩⟩
    | (with_reducible show _ = true; kernel_rfl)
    | (rw [e2]; with_reducible exact rfl)
    | (rw [e1]; with_reducible exact rfl)
    | (with_reducible exact rfl)
    | omega
    | decide
theorem act3f_Q (t : Tr) (c : Cq) (now : Nat) (h : c.ok) (hn : now < 2 ^ 64) (hp : (advq c now).pend = false) (hf : (advq c now).full = true) (h0 : t.ph = 3) : SC Try.prog 38 [pT, pC1, n64 now] 4 (sTQ t c) (.s (.bool false)) 6 (eTQ { t with ph := 5, res := (advq (advq c now) now).out } (emtq (advq (advq c now) now))) := by
  have c1 := status_Q c now h
  have e1 := st_b2 (advq c now)
  have e2 := st_b1 (advq c now)
  have c2 := readData_Q (advq c now) now (advq_ok h hn)
  rw [hp] at e1
  rw [hf] at e2
  generalize advq c now = d at *
  refine SC.run hm Try.func38 rfl [.call [1, 2, 3] [pC, n64 now] (sQ c) (n8 (stNq d)) 5 (eQ d), .num 0, .dec false, .num 1, .dec true, .dec false, .dec false, .dec false, .dec true, .call [1, 4, 5] [pC, n64 now] (sQ d) (n8 (advq d now).out) 5 (eQ (emtq (advq d now)))] [6, 7] rfl rfl ?_ (.inl rfl) (EndOK.move rfl ⟨rfl, rfl, rfl, trivial⟩ rfl rfl rfl rfl rfl)
  simp only [true_and, and_true, and_assoc, bne_iff_ne, bne_eq_false_iff_eq, beq_iff_eq, beq_eq_false_iff_ne, ne_eq]
  repeat' apply And.intro
  all_goals first
    | exact True.intro
    | exact ⟨c1, rfl, Fits.of rfl rfl ⟨⟨rfl, _, rfl, rfl, fun h => h⟩, ⟨rfl, _, rfl, rfl, fun h => h⟩, trivial⟩⟩
    | exact ⟨c2, rfl, Fits.of rfl rfl ⟨⟨rfl, _, rfl, rfl, fun h => h⟩, ⟨rfl, _, rfl, rfl, fun h => h⟩, trivial⟩⟩
    | (with_reducible show _ = true; kernel_rfl)
    | (rw [e2]; with_reducible exact rfl)
    | (rw [e1]; with_reducible exact rfl)
    | (with_reducible exact rfl)
    | omega
    | decide
theorem act1t0_Q (t : Tr) (c : Cq) (now : Nat) (h : c.ok) (hn : now < 2 ^ 64) (hp : (advq c now).pend = false) (hf : (advq c now).full = true) (h0 : t.ph = 1) (hc : t.cmd ≠ 129) : SC Try.prog 38 [pT, pC1, n64 now] 4 (sTQ t c) (.s (.bool true)) 6 (eTQ { t with ph := 3 } (wrtq (advq c now) now t.adr false)) := by
  have c1 := status_Q c now h
  have e1 := st_b2 (advq c now)
  have e2 := st_b1 (advq c now)
  have c2 := writeData_Q (advq c now) now t.adr (advq_ok h hn) hn
  rw [hp] at e1
  rw [hf] at e2
  generalize advq c now = d at *
  refine SC.run hm Try.func38 rfl [.call [1, 2, 3] [pC, n64 now] (sQ c) (n8 (stNq d)) 5 (eQ d), .num 0, .dec false, .num 1, .dec true, .dec false, .dec true, .call [1, 4, 5] [pC, n64 now, n8 t.adr] (sQ d) (.tup []) 5 (eQ (wrtq d now t.adr false)), .dec false] [6, 7] rfl rfl ?_ (.inl rfl) (EndOK.move rfl ⟨rfl, rfl, rfl, trivial⟩ rfl rfl rfl rfl rfl)
  simp only [true_and, and_true, and_assoc, bne_iff_ne, bne_eq_false_iff_eq, beq_iff_eq, beq_eq_false_iff_ne, ne_eq]
  repeat' apply And.intro
  all_goals first
    | exact True.intro
    | exact ⟨c1, rfl, Fits.of rfl rfl ⟨⟨rfl, _, rfl, rfl, fun h => h⟩, ⟨rfl, _, rfl, rfl, fun h => h⟩, trivial⟩⟩
    | exact ⟨c2, rfl, Fits.of rfl rfl ⟨⟨rfl, _, rfl, rfl, fun h => h⟩, ⟨rfl, _, rfl, rfl, fun h => h⟩, trivial⟩⟩
    | (with_reducible show _ = true; kernel_rfl)
    | (rw [e2]; with_reducible exact rfl)
    | (rw [e1]; with_reducible exact rfl)
    | (with_reducible exact rfl)
    | omega
    | decide
theorem act1t1_Q (t : Tr) (c : Cq) (now : Nat) (h : c.ok) (hn : now < 2 ^ 64) (hp : (advq c now).pend = false) (hf : (advq c now).full = true) (h0 : t.ph = 1) (hc : t.cmd = 129) : SC Try.prog 38 [pT, pC1, n64 now] 4 (sTQ t c) (.s (.bool true)) 6 (eTQ { t with ph := 2 } (wrtq (advq c now) now t.adr false)) := by
  have c1 := status_Q c now h
  have e1 := st_b2 (advq c now)
  have e2 := st_b1 (advq c now)
  have c2 := writeData_Q (advq c now) now t.adr (advq_ok h hn) hn
  rw [hp] at e1
  rw [hf] at e2
  generalize advq c now = d at *
  refine SC.run hm Try.func38 rfl [.call [1, 2, 3] [pC, n64 now] (sQ c) (n8 (stNq d)) 5 (eQ d), .num 0, .dec false, .num 1, .dec true, .dec false, .dec true, .call [1, 4, 5] [pC, n64 now, n8 t.adr] (sQ d) (.tup []) 5 (eQ (wrtq d now t.adr false)), .dec true] [6, 7] rfl rfl ?_ (.inl rfl) (EndOK.move rfl ⟨rfl, rfl, rfl, trivial⟩ rfl rfl rfl rfl rfl)
  simp only [true_and, and_true, and_assoc, bne_iff_ne, bne_eq_false_iff_eq, beq_iff_eq, beq_eq_false_iff_ne, ne_eq]
  repeat' apply And.intro
  all_goals first
    | exact True.intro
    | exact ⟨c1, rfl, Fits.of rfl rfl ⟨⟨rfl, _, rfl, rfl, fun h => h⟩, ⟨rfl, _, rfl, rfl, fun h => h⟩, trivial⟩⟩
    | exact ⟨c2, rfl, Fits.of rfl rfl ⟨⟨rfl, _, rfl, rfl, fun h => h⟩, ⟨rfl, _, rfl, rfl, fun h => h⟩, trivial⟩⟩
    | (with_reducible show _ = true; kernel_rfl)
    | (rw [e2]; with_reducible exact rfl)
    | (rw [e1]; with_reducible exact rfl)
    | (with_reducible exact rfl)
    | omega
    | decide
theorem act2t_Q (t : Tr) (c : Cq) (now : Nat) (h : c.ok) (hn : now < 2 ^ 64) (hp : (advq c now).pend = false) (hf : (advq c now).full = true) (h0 : t.ph = 2) : SC Try.prog 38 [pT, pC1, n64 now] 4 (sTQ t c) (.s (.bool true)) 6 (eTQ { t with ph := 4 } (wrtq (advq c now) now t.val false)) := by
  have c1 := status_Q c now h
  have e1 := st_b2 (advq c now)
  have e2 := st_b1 (advq c now)
  have c2 := writeData_Q (advq c now) now t.val (advq_ok h hn) hn
  rw [hp] at e1
  rw [hf] at e2
  generalize advq c now = d at *
  refine SC.run hm Try.func38 rfl [.call [1, 2, 3] [pC, n64 now] (sQ c) (n8 (stNq d)) 5 (eQ d), .num 0, .dec false, .num 1, .dec true, .dec false, .dec false, .dec true, .call [1, 4, 5] [pC, n64 now, n8 t.val] (sQ d) (.tup []) 5 (eQ (wrtq d now t.val false))] [6, 7] rfl rfl ?_ (.inl rfl) (EndOK.move rfl ⟨rfl, rfl, rfl, trivial⟩ rfl rfl rfl rfl rfl)
  simp only [true_and, and_true, and_assoc, bne_iff_ne, bne_eq_false_iff_eq, beq_iff_eq, beq_eq_false_iff_ne, ne_eq]
  repeat' apply And.intro
  all_goals first
    | exact True.intro
    | exact ⟨c1, rfl, Fits.of rfl rfl ⟨⟨rfl, _, rfl, rfl, fun h => h⟩, ⟨rfl, _, rfl, rfl, fun h => h⟩, trivial⟩⟩
    | exact ⟨c2, rfl, Fits.of rfl rfl ⟨⟨rfl, _, rfl, rfl, fun h => h⟩, ⟨rfl, _, rfl, rfl, fun h => h⟩, trivial⟩⟩
    | (with_reducible show _ = true; kernel_rfl)
    | (rw [e2]; with_reducible exact rfl)
    | (rw [e1]; with_reducible exact rfl)
    | (with_reducible exact rfl)
    | omega
    | decide
theorem act4t_Q (t : Tr) (c : Cq) (now : Nat) (h : c.ok) (hn : now < 2 ^ 64) (hp : (advq c now).pend = false) (hf : (advq c now).full = true) (h0 : t.ph = 4) : SC Try.prog 38 [pT, pC1, n64 now] 4 (sTQ t c) (.s (.bool false)) 6 (eTQ { t with ph := 5 } (advq c now)) := by
  have c1 := status_Q c now h
  have e1 := st_b2 (advq c now)
  have e2 := st_b1 (advq c now)
  rw [hp] at e1
  rw [hf] at e2
  generalize advq c now = d at *
  refine SC.run hm Try.func38 rfl [.call [1, 2, 3] [pC, n64 now] (sQ c) (n8 (stNq d)) 5 (eQ d), .num 0, .dec false, .num 1, .dec true, .dec false, .dec false, .dec false, .dec false, .dec true] [4, 5] rfl rfl ?_ (.inl rfl) (EndOK.move rfl ⟨rfl, rfl, rfl, trivial⟩ rfl rfl rfl rfl rfl)
  simp only [true_and, and_true, and_assoc, bne_iff_ne, bne_eq_false_iff_eq, beq_iff_eq, beq_eq_false_iff_ne, ne_eq]
  repeat' apply And.intro
  all_goals first
    | exact True.intro
    | exact ⟨c1, rfl, Fits.of rfl rfl ⟨⟨rfl, _, rfl, rfl, fun h => h⟩, ⟨rfl, _, rfl, rfl, fun h => h⟩, trivial⟩⟩
    | (with_reducible show _ = true; kernel_rfl)
    | (rw [e2]; with_reducible exact rfl)
    | (rw [e1]; with_reducible exact rfl)
    | (with_reducible exact rfl)
    | omega
    | decide
theorem act_Q (t : Tr) (c : Cq) (now : Nat) (h : c.ok) (hn : now < 2 ^ 64) (ht : t.ok) (h4 : t.ph ≤ 4) : SC Try.prog 38 [pT, pC1, n64 now] 4 (sTQ t c) (.s (.bool (actMq t c now).2.2)) 6 (eTQ (actMq t c now).1 (actMq t c now).2.1) := by
  cases hp : (advq c now).pend with
  | true => rw [show actMq t c now = (t, advq c now, false) by simp [actMq, hp]]; exact actP_Q t c now h hn hp
  | false =>
    have h5 : t.ph = 0 ∨ t.ph = 1 ∨ t.ph = 2 ∨ t.ph = 3 ∨ t.ph = 4 := by omega
    rcases h5 with h0 | h0 | h0 | h0 | h0 <;> cases hf : (advq c now).full
    · by_cases hc : t.cmd = 132
      · rw [show actMq t c now = ({ t with ph := 3 }, wrtq (advq c now) now t.cmd true, true) by simp [actMq, hp, h0, hf, hc]]; exact act0e1_Q t c now h hn hp hf h0 hc
      · rw [show actMq t c now = ({ t with ph := 1 }, wrtq (advq c now) now t.cmd true, true) by simp [actMq, hp, h0, hf, hc]]; exact act0e0_Q t c now h hn hp hf h0 hc
    · rw [show actMq t c now = (t, emtq (advq (advq c now) now), true) by simp [actMq, hp, h0, hf]]; exact act0f_Q t c now h hn hp hf h0
    · by_cases hc : t.cmd = 129
      · rw [show actMq t c now = ({ t with ph := 2 }, wrtq (advq c now) now t.adr false, true) by simp [actMq, hp, h0, hc]]; exact act1f1_Q t c now h hn hp hf h0 hc
      · rw [show actMq t c now = ({ t with ph := 3 }, wrtq (advq c now) now t.adr false, true) by simp [actMq, hp, h0, hc]]; exact act1f0_Q t c now h hn hp hf h0 hc
    · by_cases hc : t.cmd = 129
      · rw [show actMq t c now = ({ t with ph := 2 }, wrtq (advq c now) now t.adr false, true) by simp [actMq, hp, h0, hc]]; exact act1t1_Q t c now h hn hp hf h0 hc
      · rw [show actMq t c now = ({ t with ph := 3 }, wrtq (advq c now) now t.adr false, true) by simp [actMq, hp, h0, hc]]; exact act1t0_Q t c now h hn hp hf h0 hc
    · rw [show actMq t c now = ({ t with ph := 4 }, wrtq (advq c now) now t.val false, true) by simp [actMq, hp, h0]]; exact act2f_Q t c now h hn hp hf h0
    · rw [show actMq t c now = ({ t with ph := 4 }, wrtq (advq c now) now t.val false, true) by simp [actMq, hp, h0]]; exact act2t_Q t c now h hn hp hf h0
    · rw [show actMq t c now = (t, advq c now, false) by simp [actMq, hp, h0, hf]]; exact act3e_Q t c now h hn hp hf h0
    · rw [show actMq t c now = ({ t with ph := 5, res := (advq (advq c now) now).out }, emtq (advq (advq c now) now), false) by simp [actMq, hp, h0, hf]]; exact act3f_Q t c now h hn hp hf h0
    · rw [show actMq t c now = ({ t with ph := 5 }, advq c now, false) by simp [actMq, hp, h0]]; exact act4f_Q t c now h hn hp hf h0
    · rw [show actMq t c now = ({ t with ph := 5 }, advq c now, false) by simp [actMq, hp, h0]]; exact act4t_Q t c now h hn hp hf h0

end Go.Proofs.Ytimebhllnemnbaa
