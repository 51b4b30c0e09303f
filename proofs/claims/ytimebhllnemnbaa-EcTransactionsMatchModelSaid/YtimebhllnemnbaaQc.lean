/-
  The embedded controller with its queue: bytes written and read, Status, Raise.
-/
import Derived.Test.YtimebhllnemnbaaQb
import Derived.Test.YtimebhllnemnbaaEc
set_option linter.unusedSimpArgs false
set_option linter.unusedVariables false
namespace Go.Proofs.Ytimebhllnemnbaa
open Go Ab
set_option maxRecDepth 100000

def emtq (d : Cq) : Cq := { d with full := false, out := 0 }
def wrtq (c : Cq) (t v : Nat) (ic : Bool) : Cq :=
  match (advq c t).pend with
  | true => advq c t
  | false => { advq c t with pend := true, isC := ic, inp := v, due := sat (advq c t).now (advq c t).delay }
def stNq (d : Cq) : Nat := match d.full, d.pend, decide (0 < d.q.length) with
  | false, false, false => 0 | true, false, false => 1 | false, true, false => 2 | true, true, false => 3
  | false, false, true => 32 | true, false, true => 33 | false, true, true => 34 | true, true, true => 35

theorem upd_lt {r : Nat → Nat} {i v : Nat} (hr : ∀ i, r i < 256) (hv : v < 256) (j : Nat) : upd r i v j < 256 := by
  unfold upd; split
  · exact hv
  · exact hr j
theorem head_lt {q : List Nat} (h : ∀ x ∈ q, x < 256) : q.headD 0 < 256 := by
  cases q with
  | nil => decide
  | cons x r => exact h x (by simp)
theorem tkDq_ok {c : Cq} (h : c.ok) {v : Nat} (hv : v < 256) : (tkDq c v).ok := by
  unfold tkDq
  split
  · exact ⟨h.now, h.delay, h.due, h.inp, h.adr, h.regs v, (by decide : 0 < 256), h.regs, h.q, h.ql, (fun e => by cases e)⟩
  · split
    · split
      · exact ⟨h.now, h.delay, h.due, h.inp, hv, h.out, h.cmd, h.regs, h.q, h.ql, h.emp⟩
      · exact ⟨h.now, h.delay, h.due, h.inp, h.adr, h.out, (by decide : 0 < 256), upd_lt h.regs hv, h.q, h.ql, h.emp⟩
    · exact h
theorem tkCq_ok {c : Cq} (h : c.ok) {v : Nat} (hv : v < 256) : (tkCq c v).ok := by
  unfold tkCq
  split
  · exact ⟨h.now, h.delay, h.due, h.inp, h.adr, h.out, hv, h.regs, h.q, h.ql, h.emp⟩
  · split
    · refine ⟨h.now, h.delay, h.due, h.inp, h.adr, head_lt h.q, (by decide : 0 < 256), h.regs, fun x hx => h.q x (List.mem_of_mem_tail hx), ?_, (fun e => by cases e)⟩
      have := h.ql
      show c.q.tail.length ≤ 16
      rw [List.length_tail]; omega
    · exact ⟨h.now, h.delay, h.due, h.inp, h.adr, h.out, (by decide : 0 < 256), h.regs, h.q, h.ql, h.emp⟩
theorem tickq_ok {c : Cq} (h : c.ok) {t : Nat} (ht : t < 2 ^ 64) : (tickq c t).ok := ⟨by have := h.now; show max c.now t < _; omega, h.delay, h.due, h.inp, h.adr, h.out, h.cmd, h.regs, h.q, h.ql, h.emp⟩
theorem idleq_ok {c : Cq} (h : c.ok) (p : Bool) : ({ c with pend := p } : Cq).ok := ⟨h.now, h.delay, h.due, h.inp, h.adr, h.out, h.cmd, h.regs, h.q, h.ql, h.emp⟩
theorem advq_ok {c : Cq} (h : c.ok) {t : Nat} (ht : t < 2 ^ 64) : (advq c t).ok := by
  unfold advq
  split
  · exact tickq_ok h ht
  · split
    · exact tkCq_ok (idleq_ok (tickq_ok h ht) false) h.inp
    · exact tkDq_ok (idleq_ok (tickq_ok h ht) false) h.inp
theorem wrtq_ok {c : Cq} (h : c.ok) {t v : Nat} {ic : Bool} (ht : t < 2 ^ 64) (hv : v < 256) : (wrtq c t v ic).ok := by
  have a := advq_ok h ht
  unfold wrtq
  split
  · exact a
  · exact ⟨a.now, a.delay, by show sat _ _ < _; unfold sat; omega, hv, a.adr, a.out, a.cmd, a.regs, a.q, a.ql, a.emp⟩
theorem emtq_ok {d : Cq} (h : d.ok) : (emtq d).ok := ⟨h.now, h.delay, h.due, h.inp, h.adr, (by decide : 0 < 256), h.cmd, h.regs, h.q, h.ql, fun _ => rfl⟩

theorem write_Q (c : Cq) (t v : Nat) (ic : Bool) (h : c.ok) (ht : t < 2 ^ 64) : SC Try.prog 39 [pC, n64 t, n8 v, .s (.bool ic)] 3 (sQ c) (.tup []) 5 (eQ (wrtq c t v ic)) := by
  have a := advq_ok h ht
  have c1 := advance_Q c t h
  have c2 := add_s (advq c t).now (advq c t).delay a.now a.delay
  cases hp : (advq c t).pend with
  | true =>
    rw [show wrtq c t v ic = advq c t by simp [wrtq, hp]]
    generalize advq c t = d at *
    refine SC.run hm Try.func39 rfl [.call [0, 1, 2] [pC, n64 t] (sQ c) (.tup []) 5 (eQ d), .ldv (.s (.bool true))] [3, 4] rfl rfl ?_ (.inl rfl) (EndOK.move rfl ⟨rfl, rfl, trivial⟩ rfl rfl rfl rfl rfl)
    simp only [true_and, and_true, and_assoc]
    refine ⟨by kernel_rfl, ⟨c1, rfl, Fits.of rfl rfl ⟨⟨rfl, _, rfl, rfl, fun h => h⟩, ⟨rfl, _, rfl, rfl, fun h => h⟩, trivial⟩⟩, ?_⟩
    show some (V.s (S.bool d.pend)) = _; rw [hp]
  | false =>
    rw [show wrtq c t v ic = { advq c t with pend := true, isC := ic, inp := v, due := sat (advq c t).now (advq c t).delay } by simp [wrtq, hp]]
    generalize advq c t = d at *
    refine SC.run hm Try.func39 rfl [.call [0, 1, 2] [pC, n64 t] (sQ c) (.tup []) 5 (eQ d), .ldv (.s (.bool false)), .call [] [n64 d.now, n64 d.delay] [] (n64 (sat d.now d.delay)) 0 []] [3, 4] rfl rfl ?_ (.inr rfl) (EndOK.move rfl ⟨rfl, rfl, trivial⟩ rfl rfl rfl rfl rfl)
    simp only [true_and, and_true, and_assoc]
    refine ⟨by kernel_rfl, ⟨c1, rfl, Fits.of rfl rfl ⟨⟨rfl, _, rfl, rfl, fun h => h⟩, ⟨rfl, _, rfl, rfl, fun h => h⟩, trivial⟩⟩, ?_, by kernel_rfl, call0 c2 rfl, by kernel_rfl⟩
    show some (V.s (S.bool d.pend)) = _; rw [hp]
theorem writeData_Q (c : Cq) (t v : Nat) (h : c.ok) (ht : t < 2 ^ 64) : SC Try.prog 19 [pC, n64 t, n8 v] 3 (sQ c) (.tup []) 5 (eQ (wrtq c t v false)) := by
  have c1 := write_Q c t v false h ht
  generalize wrtq c t v false = d at *
  refine SC.run hm Try.func19 rfl [.call [0, 1, 2] [pC, n64 t, n8 v, .s (.bool false)] (sQ c) (.tup []) 5 (eQ d)] [3, 4] rfl rfl ?_ (.inr rfl) (EndOK.move rfl ⟨rfl, rfl, trivial⟩ rfl rfl rfl rfl rfl)
  simp only [true_and, and_true, and_assoc]
  exact ⟨by kernel_rfl, c1, rfl, Fits.of rfl rfl ⟨⟨rfl, _, rfl, rfl, fun h => h⟩, ⟨rfl, _, rfl, rfl, fun h => h⟩, trivial⟩⟩
theorem writeCommand_Q (c : Cq) (t v : Nat) (h : c.ok) (ht : t < 2 ^ 64) : SC Try.prog 22 [pC, n64 t, n8 v] 3 (sQ c) (.tup []) 5 (eQ (wrtq c t v true)) := by
  have c1 := write_Q c t v true h ht
  generalize wrtq c t v true = d at *
  refine SC.run hm Try.func22 rfl [.call [0, 1, 2] [pC, n64 t, n8 v, .s (.bool true)] (sQ c) (.tup []) 5 (eQ d)] [3, 4] rfl rfl ?_ (.inr rfl) (EndOK.move rfl ⟨rfl, rfl, trivial⟩ rfl rfl rfl rfl rfl)
  simp only [true_and, and_true, and_assoc]
  exact ⟨by kernel_rfl, c1, rfl, Fits.of rfl rfl ⟨⟨rfl, _, rfl, rfl, fun h => h⟩, ⟨rfl, _, rfl, rfl, fun h => h⟩, trivial⟩⟩
theorem readData_Q (c : Cq) (t : Nat) (h : c.ok) : SC Try.prog 24 [pC, n64 t] 3 (sQ c) (n8 (advq c t).out) 5 (eQ (emtq (advq c t))) := by
  have c1 := advance_Q c t h
  generalize advq c t = d at *
  refine SC.run hm Try.func24 rfl [.call [0, 1, 2] [pC, n64 t] (sQ c) (.tup []) 5 (eQ d)] [3, 4] rfl rfl ?_ (.inl rfl) (EndOK.move rfl ⟨rfl, rfl, trivial⟩ rfl rfl rfl rfl rfl)
  simp only [true_and, and_true, and_assoc]
  exact ⟨by kernel_rfl, c1, rfl, Fits.of rfl rfl ⟨⟨rfl, _, rfl, rfl, fun h => h⟩, ⟨rfl, _, rfl, rfl, fun h => h⟩, trivial⟩⟩
theorem pos_dec {n : Nat} {b : Bool} (h : decide (0 < n) = b) : decide (((n : Nat) : Int) > 0) = b := by rw [← h]; apply decide_eq_decide.2; omega
theorem status_Q (c : Cq) (t : Nat) (h : c.ok) : SC Try.prog 29 [pC, n64 t] 3 (sQ c) (n8 (stNq (advq c t))) 5 (eQ (advq c t)) := by
  have c1 := advance_Q c t h
  generalize advq c t = d at *
  cases hf : d.full <;> cases hp : d.pend <;> cases hq : decide (0 < d.q.length)
  · rw [show stNq d = 0 by simp only [stNq, hf, hp, hq]]
    refine SC.run hm Try.func29 rfl [.call [0, 1, 2] [pC, n64 t] (sQ c) (.tup []) 5 (eQ d), .ldv (.s (.bool false)), .ldv (.s (.bool false)), .dec false] [3, 4] rfl rfl ?_ (.inl rfl) (EndOK.move rfl ⟨rfl, rfl, trivial⟩ rfl rfl rfl rfl rfl)
    simp only [true_and, and_true, and_assoc]
    refine ⟨by kernel_rfl, ⟨c1, rfl, Fits.of rfl rfl ⟨⟨rfl, _, rfl, rfl, fun h => h⟩, ⟨rfl, _, rfl, rfl, fun h => h⟩, trivial⟩⟩, ?_, ?_, ?_⟩
    · show some (V.s (S.bool d.full)) = _; rw [hf]
    · show some (V.s (S.bool d.pend)) = _; rw [hp]
    · exact pos_dec hq
  · rw [show stNq d = 32 by simp only [stNq, hf, hp, hq]]
    refine SC.run hm Try.func29 rfl [.call [0, 1, 2] [pC, n64 t] (sQ c) (.tup []) 5 (eQ d), .ldv (.s (.bool false)), .ldv (.s (.bool false)), .dec true, .num ((32 : Nat) : Int)] [3, 4] rfl rfl ?_ (.inl rfl) (EndOK.move rfl ⟨rfl, rfl, trivial⟩ rfl rfl rfl rfl rfl)
    simp only [true_and, and_true, and_assoc]
    refine ⟨by kernel_rfl, ⟨c1, rfl, Fits.of rfl rfl ⟨⟨rfl, _, rfl, rfl, fun h => h⟩, ⟨rfl, _, rfl, rfl, fun h => h⟩, trivial⟩⟩, ?_, ?_, ?_, by decide⟩
    · show some (V.s (S.bool d.full)) = _; rw [hf]
    · show some (V.s (S.bool d.pend)) = _; rw [hp]
    · exact pos_dec hq
  · rw [show stNq d = 2 by simp only [stNq, hf, hp, hq]]
    refine SC.run hm Try.func29 rfl [.call [0, 1, 2] [pC, n64 t] (sQ c) (.tup []) 5 (eQ d), .ldv (.s (.bool false)), .ldv (.s (.bool true)), .num ((2 : Nat) : Int), .dec false] [3, 4] rfl rfl ?_ (.inl rfl) (EndOK.move rfl ⟨rfl, rfl, trivial⟩ rfl rfl rfl rfl rfl)
    simp only [true_and, and_true, and_assoc]
    refine ⟨by kernel_rfl, ⟨c1, rfl, Fits.of rfl rfl ⟨⟨rfl, _, rfl, rfl, fun h => h⟩, ⟨rfl, _, rfl, rfl, fun h => h⟩, trivial⟩⟩, ?_, ?_, by decide, ?_⟩
    · show some (V.s (S.bool d.full)) = _; rw [hf]
    · show some (V.s (S.bool d.pend)) = _; rw [hp]
    · exact pos_dec hq
  · rw [show stNq d = 34 by simp only [stNq, hf, hp, hq]]
    refine SC.run hm Try.func29 rfl [.call [0, 1, 2] [pC, n64 t] (sQ c) (.tup []) 5 (eQ d), .ldv (.s (.bool false)), .ldv (.s (.bool true)), .num ((2 : Nat) : Int), .dec true, .num ((34 : Nat) : Int)] [3, 4] rfl rfl ?_ (.inl rfl) (EndOK.move rfl ⟨rfl, rfl, trivial⟩ rfl rfl rfl rfl rfl)
    simp only [true_and, and_true, and_assoc]
    refine ⟨by kernel_rfl, ⟨c1, rfl, Fits.of rfl rfl ⟨⟨rfl, _, rfl, rfl, fun h => h⟩, ⟨rfl, _, rfl, rfl, fun h => h⟩, trivial⟩⟩, ?_, ?_, by decide, ?_, by decide⟩
    · show some (V.s (S.bool d.full)) = _; rw [hf]
    · show some (V.s (S.bool d.pend)) = _; rw [hp]
    · exact pos_dec hq
  · rw [show stNq d = 1 by simp only [stNq, hf, hp, hq]]
    refine SC.run hm Try.func29 rfl [.call [0, 1, 2] [pC, n64 t] (sQ c) (.tup []) 5 (eQ d), .ldv (.s (.bool true)), .num ((1 : Nat) : Int), .ldv (.s (.bool false)), .dec false] [3, 4] rfl rfl ?_ (.inl rfl) (EndOK.move rfl ⟨rfl, rfl, trivial⟩ rfl rfl rfl rfl rfl)
    simp only [true_and, and_true, and_assoc]
    refine ⟨by kernel_rfl, ⟨c1, rfl, Fits.of rfl rfl ⟨⟨rfl, _, rfl, rfl, fun h => h⟩, ⟨rfl, _, rfl, rfl, fun h => h⟩, trivial⟩⟩, ?_, by decide, ?_, ?_⟩
    · show some (V.s (S.bool d.full)) = _; rw [hf]
    · show some (V.s (S.bool d.pend)) = _; rw [hp]
    · exact pos_dec hq
  · rw [show stNq d = 33 by simp only [stNq, hf, hp, hq]]
    refine SC.run hm Try.func29 rfl [.call [0, 1, 2] [pC, n64 t] (sQ c) (.tup []) 5 (eQ d), .ldv (.s (.bool true)), .num ((1 : Nat) : Int), .ldv (.s (.bool false)), .dec true, .num ((33 : Nat) : Int)] [3, 4] rfl rfl ?_ (.inl rfl) (EndOK.move rfl ⟨rfl, rfl, trivial⟩ rfl rfl rfl rfl rfl)
    simp only [true_and, and_true, and_assoc]
    refine ⟨by kernel_rfl, ⟨c1, rfl, Fits.of rfl rfl ⟨⟨rfl, _, rfl, rfl, fun h => h⟩, ⟨rfl, _, rfl, rfl, fun h => h⟩, trivial⟩⟩, ?_, by decide, ?_, ?_, by decide⟩
    · show some (V.s (S.bool d.full)) = _; rw [hf]
    · show some (V.s (S.bool d.pend)) = _; rw [hp]
    · exact pos_dec hq
  · rw [show stNq d = 3 by simp only [stNq, hf, hp, hq]]
    refine SC.run hm Try.func29 rfl [.call [0, 1, 2] [pC, n64 t] (sQ c) (.tup []) 5 (eQ d), .ldv (.s (.bool true)), .num ((1 : Nat) : Int), .ldv (.s (.bool true)), .num ((3 : Nat) : Int), .dec false] [3, 4] rfl rfl ?_ (.inl rfl) (EndOK.move rfl ⟨rfl, rfl, trivial⟩ rfl rfl rfl rfl rfl)
    simp only [true_and, and_true, and_assoc]
    refine ⟨by kernel_rfl, ⟨c1, rfl, Fits.of rfl rfl ⟨⟨rfl, _, rfl, rfl, fun h => h⟩, ⟨rfl, _, rfl, rfl, fun h => h⟩, trivial⟩⟩, ?_, by decide, ?_, by decide, ?_⟩
    · show some (V.s (S.bool d.full)) = _; rw [hf]
    · show some (V.s (S.bool d.pend)) = _; rw [hp]
    · exact pos_dec hq
  · rw [show stNq d = 35 by simp only [stNq, hf, hp, hq]]
    refine SC.run hm Try.func29 rfl [.call [0, 1, 2] [pC, n64 t] (sQ c) (.tup []) 5 (eQ d), .ldv (.s (.bool true)), .num ((1 : Nat) : Int), .ldv (.s (.bool true)), .num ((3 : Nat) : Int), .dec true, .num ((35 : Nat) : Int)] [3, 4] rfl rfl ?_ (.inl rfl) (EndOK.move rfl ⟨rfl, rfl, trivial⟩ rfl rfl rfl rfl rfl)
    simp only [true_and, and_true, and_assoc]
    refine ⟨by kernel_rfl, ⟨c1, rfl, Fits.of rfl rfl ⟨⟨rfl, _, rfl, rfl, fun h => h⟩, ⟨rfl, _, rfl, rfl, fun h => h⟩, trivial⟩⟩, ?_, by decide, ?_, by decide, ?_, by decide⟩
    · show some (V.s (S.bool d.full)) = _; rw [hf]
    · show some (V.s (S.bool d.pend)) = _; rw [hp]
    · exact pos_dec hq

/-! ### Raise -/
def errS (n : Nat) : V := .s (.int .i64 ((n : Nat) : Int))
theorem raise_z (c : Cq) : SC Try.prog 26 [pC, n8 0] 1 [(0, some (bN c))] (errS 1) 1 [(0, some (bN c))] := by
  refine SC.run hm Try.func26 rfl [.dec true] [] rfl rfl ?_ (.inl rfl) (EndOK.by rfl ⟨rfl, trivial⟩ rfl rfl rfl rfl)
  simp only [true_and, and_true, and_assoc, beq_iff_eq]
  rfl
def raiq (c : Cq) (v : Nat) : Cq := if v = 0 then c else if c.q.length = 16 then c else { c with q := c.q ++ [v] }
def raiE (c : Cq) (v : Nat) : Nat := if v = 0 then 1 else if c.q.length = 16 then 8 else 0
/-- the first query -/
theorem raise_N (c : Cq) (v : Nat) (hv : v ≠ 0) (hq : c.q = []) : SC Try.prog 26 [pC, n8 v] 1 [(0, some (bN c))] (errS 0) 3 [(0, some (bQ { c with q := [v] } 1 2)), (1, some (qB [v] 2))] := by
  refine SC.run hm Try.func26 rfl [.dec false, .dec false, .app 1 [u8 v]] [2, 3] rfl rfl ?_ (.inl rfl) (EndOK.by rfl ⟨rfl, rfl, trivial⟩ rfl rfl rfl rfl)
  simp only [true_and, and_true, and_assoc, beq_eq_false_iff_ne, ne_eq]
  have e1 : Try.prog.types[5].size = 1 := by kernel_rfl
  have e2 : Try.prog.types[5].bytes = 1 := by kernel_rfl
  rw [e1, e2]
  exact ⟨by omega, by decide, Nat.le_refl 1, rfl, rfl, fun _ => Nat.le_refl _, by decide, by decide⟩
theorem raise_Q (c : Cq) (v : Nat) (h : c.q.length ≤ 16) : SC Try.prog 26 [pC, n8 v] 3 (sQ c) (errS (raiE c v)) 5 (eQ (raiq c v)) := by
  by_cases hv : v = 0
  · rw [show raiE c v = 1 by simp [raiE, hv], show raiq c v = c by simp [raiq, hv]]
    refine SC.run hm Try.func26 rfl [.dec true] [1, 2] rfl rfl ?_ (.inl rfl) (EndOK.move rfl ⟨rfl, rfl, trivial⟩ rfl rfl rfl rfl rfl)
    simp only [true_and, and_true, and_assoc, beq_iff_eq]
    omega
  by_cases hl : c.q.length = 16
  · rw [show raiE c v = 8 by simp [raiE, hv, hl], show raiq c v = c by simp [raiq, hv, hl]]
    refine SC.run hm Try.func26 rfl [.dec false, .dec true] [1, 2] rfl rfl ?_ (.inl rfl) (EndOK.move rfl ⟨rfl, rfl, trivial⟩ rfl rfl rfl rfl rfl)
    simp only [true_and, and_true, and_assoc, beq_iff_eq, beq_eq_false_iff_ne, ne_eq]
    omega
  · rw [show raiE c v = 0 by simp [raiE, hv, hl], show raiq c v = { c with q := c.q ++ [v] } by simp [raiq, hv, hl]]
    have hlen : (c.q ++ [v]).length = c.q.length + 1 := by simp
    refine SC.run hm Try.func26 rfl [.dec false, .dec false, .app (c.q ++ [v]).length ((c.q ++ [v]).map u8)] [4, 5] rfl rfl ?_ (.inl rfl) (EndOK.move rfl ⟨rfl, rfl, trivial⟩ rfl rfl rfl rfl rfl)
    simp only [true_and, and_true, and_assoc, beq_eq_false_iff_ne, ne_eq]
    have e1 : Try.prog.types[5].size = 1 := by kernel_rfl
    have e2 : Try.prog.types[5].bytes = 1 := by kernel_rfl
    rw [e1, e2]
    refine ⟨by omega, by omega, ?_, Nat.le_refl 1, hlen, ?_, rfl, (fun e => by cases e), by omega, by omega⟩
    · show c.q.length * 1 ≤ (c.q.map u8).length
      rw [List.length_map]; omega
    · show (c.q ++ [v]).map u8 = (c.q.map u8).take (c.q.length * 1) ++ [u8 v]
      rw [List.map_append, List.take_of_length_le (by rw [List.length_map]; omega)]; rfl

end Go.Proofs.Ytimebhllnemnbaa
