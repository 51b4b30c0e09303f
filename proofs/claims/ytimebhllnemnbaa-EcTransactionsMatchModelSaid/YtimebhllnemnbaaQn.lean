/-
  The embedded controller while its queue is nil, in the terms of the state with a queue; value and Mod.
-/
import Derived.Test.YtimebhllnemnbaaQd
set_option linter.unusedSimpArgs false
set_option linter.unusedVariables false
namespace Go.Proofs.Ytimebhllnemnbaa
open Go Ab
set_option maxRecDepth 100000

def Cq.ct (c : Cq) : Ct := ⟨c.delay, c.now, c.regs, c.pend, c.isC, c.inp, c.due, c.full, c.out, c.cmd, c.hasA, c.adr⟩
theorem bN_ct (c : Cq) : bN c = bC c.ct := rfl
theorem ct_ok {c : Cq} (h : c.ok) : c.ct.ok := ⟨h.now, h.delay, h.due, h.inp, h.adr, h.out, h.cmd, h.regs⟩
theorem tkDq_ct (c : Cq) (v : Nat) : (tkDq c v).ct = tkD c.ct v := by
  unfold tkDq tkD
  by_cases h1 : c.cmd = 128
  · rw [if_pos h1, if_pos (show c.ct.cmd = 128 from h1)]; rfl
  · rw [if_neg h1, if_neg (show ¬ c.ct.cmd = 128 from h1)]
    by_cases h2 : c.cmd = 129
    · rw [if_pos h2, if_pos (show c.ct.cmd = 129 from h2)]
      cases h3 : c.hasA with
      | false => rw [show c.ct.hasA = false from h3]; rfl
      | true => rw [show c.ct.hasA = true from h3]; rfl
    · rw [if_neg h2, if_neg (show ¬ c.ct.cmd = 129 from h2)]
theorem tkCq_ct (c : Cq) (v : Nat) (hq : c.q = []) : (tkCq c v).ct = tkC c.ct v := by
  unfold tkCq tkC
  split
  · rfl
  · split
    · rw [hq]; rfl
    · rfl
theorem advq_ct (c : Cq) (t : Nat) (hq : c.q = []) : (advq c t).ct = adv c.ct t := by
  unfold advq adv
  show _ = match c.pend && decide (c.due ≤ max c.now t) with | false => _ | true => _
  cases c.pend && decide (c.due ≤ max c.now t) with
  | false => rfl
  | true =>
    show _ = match c.isC with | true => _ | false => _
    cases c.isC with
    | true => exact tkCq_ct _ _ hq
    | false => exact tkDq_ct _ _
theorem wrtq_ct (c : Cq) (t v : Nat) (ic : Bool) (hq : c.q = []) : (wrtq c t v ic).ct = wrt c.ct t v ic := by
  unfold wrtq wrt
  rw [← advq_ct c t hq]
  show _ = match (advq c t).pend with | true => _ | false => _
  cases (advq c t).pend <;> rfl
theorem stNq_ct (d : Cq) (hq : d.q = []) : stNq d = stN d.ct := by
  unfold stNq stN
  rw [hq]
  show _ = match d.full, d.pend with | false, false => 0 | true, false => 1 | false, true => 2 | true, true => 3
  cases d.full <;> cases d.pend <;> rfl
theorem wrtq_q0 (c : Cq) (t v : Nat) (ic : Bool) (hq : c.q = []) : (wrtq c t v ic).q = [] := by
  unfold wrtq
  split
  · exact advq_q0 c t hq
  · exact advq_q0 c t hq

theorem register_N (c : Cq) (i : Nat) (h : i < 256) : SC Try.prog 16 [pC, n8 i] 1 [(0, some (bN c))] (n8 (c.regs i)) 1 [(0, some (bN c))] := register_s c.ct i h
theorem setRegister_N (c : Cq) (i v : Nat) (h : i < 256) : SC Try.prog 14 [pC, n8 i, n8 v] 1 [(0, some (bN c))] (.tup []) 1 [(0, some (bN { c with regs := upd c.regs i v }))] := setRegister_s c.ct i v h
theorem writeData_N (c : Cq) (t v : Nat) (h : c.ok) (ht : t < 2 ^ 64) (hq : c.q = []) : SC Try.prog 19 [pC, n64 t, n8 v] 1 [(0, some (bN c))] (.tup []) 1 [(0, some (bN (wrtq c t v false)))] := by
  rw [bN_ct (wrtq c t v false), wrtq_ct c t v false hq]; exact writeData_s c.ct t v (ct_ok h) ht
theorem writeCommand_N (c : Cq) (t v : Nat) (h : c.ok) (ht : t < 2 ^ 64) (hq : c.q = []) : SC Try.prog 22 [pC, n64 t, n8 v] 1 [(0, some (bN c))] (.tup []) 1 [(0, some (bN (wrtq c t v true)))] := by
  rw [bN_ct (wrtq c t v true), wrtq_ct c t v true hq]; exact writeCommand_s c.ct t v (ct_ok h) ht
theorem status_N (c : Cq) (t : Nat) (h : c.ok) (hq : c.q = []) : SC Try.prog 29 [pC, n64 t] 1 [(0, some (bN c))] (n8 (stNq (advq c t))) 1 [(0, some (bN (advq c t)))] := by
  rw [bN_ct (advq c t), stNq_ct _ (advq_q0 c t hq), advq_ct c t hq]; exact status_s c.ct t (ct_ok h)
theorem readData_N (c : Cq) (t : Nat) (h : c.ok) (hq : c.q = []) : SC Try.prog 24 [pC, n64 t] 1 [(0, some (bN c))] (n8 (advq c t).out) 1 [(0, some (bN (emtq (advq c t))))] := by
  have := readData_s c.ct t (ct_ok h)
  rw [← advq_ct c t hq] at this
  exact this

/-! ### value and Mod -/
def valM (v : Nat) (cmd : Bool) : Nat := if v % 8 = 7 then v else match cmd with | true => (match v % 3 with | 0 => 128 | 1 => 129 | _ => 132) | false => v % 4
theorem valM_lt {v : Nat} (h : v < 256) (cmd : Bool) : valM v cmd < 256 := by
  unfold valM
  split
  · exact h
  · cases cmd with
    | true =>
      show (match v % 3 with | 0 => 128 | 1 => 129 | _ => 132) < 256
      split <;> decide
    | false => show v % 4 < 256; omega
theorem value_s (v : Nat) (cmd : Bool) (h : v < 256) : SC Try.prog 20 [n8 v, .s (.bool cmd)] 0 [] (n8 (valM v cmd)) 0 [] := by
  have m8 : Int.tmod ((v : Nat) : Int) 8 = ((v % 8 : Nat) : Int) := rfl
  have m3 : Int.tmod ((v : Nat) : Int) 3 = ((v % 3 : Nat) : Int) := rfl
  have m4 : Int.tmod ((v : Nat) : Int) 4 = ((v % 4 : Nat) : Int) := rfl
  by_cases h7 : v % 8 = 7
  · rw [show valM v cmd = v by simp [valM, h7]]
    refine SC.run hm Try.func20 rfl [.num ((v % 8 : Nat) : Int), .dec true] [] rfl rfl ?_ (.inl rfl) (EndOK.plain rfl no_mem rfl rfl)
    simp only [true_and, and_true, and_assoc, beq_iff_eq]
    rw [m8]
    exact ⟨by decide, rfl, by omega⟩
  cases cmd with
  | false =>
    rw [show valM v false = v % 4 by simp [valM, h7]]
    refine SC.run hm Try.func20 rfl [.num ((v % 8 : Nat) : Int), .dec false, .num ((v % 4 : Nat) : Int)] [] rfl rfl ?_ (.inl rfl) (EndOK.plain rfl no_mem rfl rfl)
    simp only [true_and, and_true, and_assoc, beq_eq_false_iff_ne, ne_eq]
    rw [m8, m4]
    exact ⟨by decide, rfl, by omega, by decide, rfl⟩
  | true =>
    have h3 : v % 3 = 0 ∨ v % 3 = 1 ∨ v % 3 = 2 := by omega
    rcases h3 with h3 | h3 | h3
    · rw [show valM v true = 128 by simp [valM, h7, h3]]
      refine SC.run hm Try.func20 rfl [.num ((v % 8 : Nat) : Int), .dec false, .num 0, .idx 0] [] rfl rfl ?_ (.inl rfl) (EndOK.plain rfl no_mem rfl rfl)
      simp only [true_and, and_true, and_assoc, beq_eq_false_iff_ne, ne_eq]
      rw [m8, m3]
      refine ⟨by decide, rfl, by omega, by decide, by rw [h3]; rfl, ?_⟩
      exact ⟨rfl, by decide⟩
    · rw [show valM v true = 129 by simp [valM, h7, h3]]
      refine SC.run hm Try.func20 rfl [.num ((v % 8 : Nat) : Int), .dec false, .num 1, .idx 1] [] rfl rfl ?_ (.inl rfl) (EndOK.plain rfl no_mem rfl rfl)
      simp only [true_and, and_true, and_assoc, beq_eq_false_iff_ne, ne_eq]
      rw [m8, m3]
      refine ⟨by decide, rfl, by omega, by decide, by rw [h3]; rfl, ?_⟩
      exact ⟨rfl, by decide⟩
    · rw [show valM v true = 132 by simp [valM, h7, h3]]
      refine SC.run hm Try.func20 rfl [.num ((v % 8 : Nat) : Int), .dec false, .num 2, .idx 2] [] rfl rfl ?_ (.inl rfl) (EndOK.plain rfl no_mem rfl rfl)
      simp only [true_and, and_true, and_assoc, beq_eq_false_iff_ne, ne_eq]
      rw [m8, m3]
      refine ⟨by decide, rfl, by omega, by decide, by rw [h3]; rfl, ?_⟩
      exact ⟨rfl, by decide⟩
def modM (z : Int) (n : Nat) : Nat := (z % 18446744073709551616).toNat % n
theorem mod_s (z : Int) (n : Nat) (h : 0 < n) (hn : n < 1000) : SC Try.prog 18 [.s (.int .i64 z), .s (.int .i64 ((n : Nat) : Int))] 0 [] (.s (.int .i64 ((modM z n : Nat) : Int))) 0 [] := by
  have h1 : (((z % 18446744073709551616).toNat : Nat) : Int) = z % 18446744073709551616 := by omega
  have m1 : Int.tmod ((((z % 18446744073709551616).toNat : Nat)) : Int) ((n : Nat) : Int) = ((modM z n : Nat) : Int) := rfl
  have h2 : modM z n < n := Nat.mod_lt _ h
  refine SC.run hm Try.func18 rfl [.num (((z % 18446744073709551616).toNat : Nat) : Int), .num ((n : Nat) : Int), .num ((modM z n : Nat) : Int), .num ((modM z n : Nat) : Int)] [] rfl rfl ?_ (.inl rfl) (EndOK.plain rfl no_mem rfl rfl)
  simp only [true_and, and_true, and_assoc, beq_eq_false_iff_ne, ne_eq]
  rw [m1, u64_wrap, u64_wrap]
  exact ⟨h1.symm, by omega, by omega, rfl, i64_in (by omega) (by omega)⟩

end Go.Proofs.Ytimebhllnemnbaa
