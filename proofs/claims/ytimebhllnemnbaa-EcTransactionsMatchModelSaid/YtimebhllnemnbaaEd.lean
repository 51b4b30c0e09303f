/-
  The embedded controller: one action of a transaction, and a step.
-/
import Derived.Test.YtimebhllnemnbaaEc
set_option linter.unusedSimpArgs false
set_option linter.unusedVariables false
set_option linter.unusedSectionVars false
namespace Go.Proofs.Ytimebhllnemnbaa
open Go Ab
set_option maxRecDepth 100000

structure Tr.ok (t : Tr) : Prop where
  cmd : t.cmd < 256
  adr : t.adr < 256
  val : t.val < 256

/-- one action: what becomes of the transaction and of the controller, and whether another may follow -/
def actM (t : Tr) (c : Ct) (now : Nat) : Tr × Ct × Bool :=
  match (adv c now).pend with
  | true => (t, adv c now, false)
  | false =>
    match t.ph with
    | 0 => (match (adv c now).full with
      | true => (t, emt (adv (adv c now) now), true)
      | false => ({ t with ph := if t.cmd = 132 then 3 else 1 }, wrt (adv c now) now t.cmd true, true))
    | 1 => ({ t with ph := if t.cmd = 129 then 2 else 3 }, wrt (adv c now) now t.adr false, true)
    | 2 => ({ t with ph := 4 }, wrt (adv c now) now t.val false, true)
    | 3 => (match (adv c now).full with
      | true => ({ t with ph := 5, res := (adv (adv c now) now).out }, emt (adv (adv c now) now), false)
      | false => (t, adv c now, false))
    | 4 => ({ t with ph := 5 }, adv c now, false)
    | _ => (t, adv c now, true)

def pT : V := .s (.ptr (some (0, 0)))
def pC1 : V := .s (.ptr (some (1, 0)))

section
variable (t : Tr) (c : Ct) (now : Nat) (h : c.ok) (hn : now < 2 ^ 64)
include h hn
theorem act_pend (hp : (adv c now).pend = true) : SC Try.prog 38 [pT, pC1, n64 now] 2 [(0, some (bT t)), (1, some (bC c))] (.s (.bool false)) 2 [(0, some (bT t)), (1, some (bC (adv c now)))] := by
  have c1 := status_s c now h
  cases hf : (adv c now).full
  · rw [show stN (adv c now) = 2 by simp [stN, hf, hp]] at c1
    generalize adv c now = d at *
    refine SC.run hm Try.func38 rfl [.call [1] [pC, n64 now] [(0, some (bC c))] (n8 2) 1 [(0, some (bC d))], .num 2, .dec true] [] rfl rfl ?_ (.inl rfl) (EndOK.by rfl ⟨rfl, rfl, trivial⟩ rfl rfl rfl rfl)
    simp only [true_and, and_true, and_assoc, bne_iff_ne, ne_eq]
    exact ⟨by kernel_rfl, ⟨c1, rfl, Fits.of rfl rfl ⟨⟨rfl, _, rfl, rfl, fun h => h⟩, trivial⟩⟩, by decide, by decide⟩
  · rw [show stN (adv c now) = 3 by simp [stN, hf, hp]] at c1
    generalize adv c now = d at *
    refine SC.run hm Try.func38 rfl [.call [1] [pC, n64 now] [(0, some (bC c))] (n8 3) 1 [(0, some (bC d))], .num 2, .dec true] [] rfl rfl ?_ (.inl rfl) (EndOK.by rfl ⟨rfl, rfl, trivial⟩ rfl rfl rfl rfl)
    simp only [true_and, and_true, and_assoc, bne_iff_ne, ne_eq]
    exact ⟨by kernel_rfl, ⟨c1, rfl, Fits.of rfl rfl ⟨⟨rfl, _, rfl, rfl, fun h => h⟩, trivial⟩⟩, by decide, by decide⟩

/-- the call of Status, and the two tests on what it says -/
theorem st_0 (hp : (adv c now).pend = false) (hf : (adv c now).full = false) : SC Try.prog 29 [pC, n64 now] 1 [(0, some (bC c))] (n8 0) 1 [(0, some (bC (adv c now)))] := by
  have c1 := status_s c now h
  rwa [show stN (adv c now) = 0 by simp [stN, hf, hp]] at c1
theorem st_1 (hp : (adv c now).pend = false) (hf : (adv c now).full = true) : SC Try.prog 29 [pC, n64 now] 1 [(0, some (bC c))] (n8 1) 1 [(0, some (bC (adv c now)))] := by
  have c1 := status_s c now h
  rwa [show stN (adv c now) = 1 by simp [stN, hf, hp]] at c1

theorem act_0f (hp : (adv c now).pend = false) (hf : (adv c now).full = true) (h0 : t.ph = 0) : SC Try.prog 38 [pT, pC1, n64 now] 2 [(0, some (bT t)), (1, some (bC c))] (.s (.bool true)) 2 [(0, some (bT t)), (1, some (bC (emt (adv (adv c now) now))))] := by
  have c1 := st_1 c now h hn hp hf
  have c2 := readData_s (adv c now) now (adv_ok h hn)
  generalize adv c now = d at *
  refine SC.run hm Try.func38 rfl [.call [1] [pC, n64 now] [(0, some (bC c))] (n8 1) 1 [(0, some (bC d))], .num 0, .dec false, .num 1, .dec true, .dec true, .call [1] [pC, n64 now] [(0, some (bC d))] (n8 (adv d now).out) 1 [(0, some (bC (emt (adv d now))))]] [] rfl rfl ?_ (.inl rfl) (EndOK.by rfl ⟨rfl, rfl, trivial⟩ rfl rfl rfl rfl)
  simp only [true_and, and_true, and_assoc, bne_iff_ne, bne_eq_false_iff_eq, beq_iff_eq, ne_eq]
  exact ⟨by kernel_rfl, ⟨c1, rfl, Fits.of rfl rfl ⟨⟨rfl, _, rfl, rfl, fun h => h⟩, trivial⟩⟩, by decide, by decide, by decide, by omega, by kernel_rfl, c2, rfl, Fits.of rfl rfl ⟨⟨rfl, _, rfl, rfl, fun h => h⟩, trivial⟩⟩

theorem act_0e (hp : (adv c now).pend = false) (hf : (adv c now).full = false) (h0 : t.ph = 0) (ht : t.ok) : SC Try.prog 38 [pT, pC1, n64 now] 2 [(0, some (bT t)), (1, some (bC c))] (.s (.bool true)) 2 [(0, some (bT { t with ph := if t.cmd = 132 then 3 else 1 })), (1, some (bC (wrt (adv c now) now t.cmd true)))] := by
  have c1 := st_0 c now h hn hp hf
  have c2 := writeCommand_s (adv c now) now t.cmd (adv_ok h hn) hn
  generalize adv c now = d at *
  by_cases hq : t.cmd = 132
  · rw [if_pos hq]
    refine SC.run hm Try.func38 rfl [.call [1] [pC, n64 now] [(0, some (bC c))] (n8 0) 1 [(0, some (bC d))], .num 0, .dec false, .num 0, .dec false, .dec true, .call [1] [pC, n64 now, n8 t.cmd] [(0, some (bC d))] (.tup []) 1 [(0, some (bC (wrt d now t.cmd true)))], .dec true] [] rfl rfl ?_ (.inl rfl) (EndOK.by rfl ⟨rfl, rfl, trivial⟩ rfl rfl rfl rfl)
    simp only [true_and, and_true, and_assoc, bne_iff_ne, bne_eq_false_iff_eq, beq_iff_eq, ne_eq]
    exact ⟨by kernel_rfl, ⟨c1, rfl, Fits.of rfl rfl ⟨⟨rfl, _, rfl, rfl, fun h => h⟩, trivial⟩⟩, by decide, by decide, by omega, by kernel_rfl, ⟨c2, rfl, Fits.of rfl rfl ⟨⟨rfl, _, rfl, rfl, fun h => h⟩, trivial⟩⟩, by omega⟩
  · rw [if_neg hq]
    refine SC.run hm Try.func38 rfl [.call [1] [pC, n64 now] [(0, some (bC c))] (n8 0) 1 [(0, some (bC d))], .num 0, .dec false, .num 0, .dec false, .dec true, .call [1] [pC, n64 now, n8 t.cmd] [(0, some (bC d))] (.tup []) 1 [(0, some (bC (wrt d now t.cmd true)))], .dec false] [] rfl rfl ?_ (.inl rfl) (EndOK.by rfl ⟨rfl, rfl, trivial⟩ rfl rfl rfl rfl)
    simp only [true_and, and_true, and_assoc, bne_iff_ne, bne_eq_false_iff_eq, beq_eq_false_iff_ne, beq_iff_eq, ne_eq]
    exact ⟨by kernel_rfl, ⟨c1, rfl, Fits.of rfl rfl ⟨⟨rfl, _, rfl, rfl, fun h => h⟩, trivial⟩⟩, by decide, by decide, by omega, by kernel_rfl, ⟨c2, rfl, Fits.of rfl rfl ⟨⟨rfl, _, rfl, rfl, fun h => h⟩, trivial⟩⟩, by omega⟩
end

/-- what stands behind the Status of a controller at rest: the low bit -/
def fb (d : Ct) : Nat := match d.full with | true => 1 | false => 0
theorem st_r {c : Ct} {now : Nat} (h : c.ok) (hp : (adv c now).pend = false) : SC Try.prog 29 [pC, n64 now] 1 [(0, some (bC c))] (n8 (fb (adv c now))) 1 [(0, some (bC (adv c now)))] := by
  have c1 := status_s c now h
  rwa [show stN (adv c now) = fb (adv c now) by unfold stN fb; cases (adv c now).full <;> simp [hp]] at c1
theorem fb_2 (d : Ct) : bitV .and .u8 ((fb d : Nat) : Int) 2 = 0 := by unfold fb; split <;> decide
theorem fb_1 (d : Ct) : bitV .and .u8 ((fb d : Nat) : Int) 1 = ((fb d : Nat) : Int) := by unfold fb; split <;> decide

section
variable (t : Tr) (c : Ct) (now : Nat) (h : c.ok) (hn : now < 2 ^ 64) (hp : (adv c now).pend = false)
include h hn hp
theorem act_1 (h0 : t.ph = 1) : SC Try.prog 38 [pT, pC1, n64 now] 2 [(0, some (bT t)), (1, some (bC c))] (.s (.bool true)) 2 [(0, some (bT { t with ph := if t.cmd = 129 then 2 else 3 })), (1, some (bC (wrt (adv c now) now t.adr false)))] := by
  have c1 := st_r (now := now) h hp
  have c2 := writeData_s (adv c now) now t.adr (adv_ok h hn) hn
  generalize adv c now = d at *
  have e1 := fb_2 d
  have e2 := fb_1 d
  by_cases hq : t.cmd = 129
  · rw [if_pos hq]
    refine SC.run hm Try.func38 rfl [.call [1] [pC, n64 now] [(0, some (bC c))] (n8 (fb d)) 1 [(0, some (bC d))], .num 0, .dec false, .num ((fb d : Nat) : Int), .keep, .dec false, .dec true, .call [1] [pC, n64 now, n8 t.adr] [(0, some (bC d))] (.tup []) 1 [(0, some (bC (wrt d now t.adr false)))], .dec true] [] rfl rfl ?_ (.inl rfl) (EndOK.by rfl ⟨rfl, rfl, trivial⟩ rfl rfl rfl rfl)
    simp only [true_and, and_true, and_assoc, bne_iff_ne, bne_eq_false_iff_eq, beq_iff_eq, beq_eq_false_iff_ne, ne_eq]
    exact ⟨by kernel_rfl, ⟨c1, rfl, Fits.of rfl rfl ⟨⟨rfl, _, rfl, rfl, fun h => h⟩, trivial⟩⟩, e1, e2, by omega, by omega, by kernel_rfl, ⟨c2, rfl, Fits.of rfl rfl ⟨⟨rfl, _, rfl, rfl, fun h => h⟩, trivial⟩⟩, by omega⟩
  · rw [if_neg hq]
    refine SC.run hm Try.func38 rfl [.call [1] [pC, n64 now] [(0, some (bC c))] (n8 (fb d)) 1 [(0, some (bC d))], .num 0, .dec false, .num ((fb d : Nat) : Int), .keep, .dec false, .dec true, .call [1] [pC, n64 now, n8 t.adr] [(0, some (bC d))] (.tup []) 1 [(0, some (bC (wrt d now t.adr false)))], .dec false] [] rfl rfl ?_ (.inl rfl) (EndOK.by rfl ⟨rfl, rfl, trivial⟩ rfl rfl rfl rfl)
    simp only [true_and, and_true, and_assoc, bne_iff_ne, bne_eq_false_iff_eq, beq_iff_eq, beq_eq_false_iff_ne, ne_eq]
    exact ⟨by kernel_rfl, ⟨c1, rfl, Fits.of rfl rfl ⟨⟨rfl, _, rfl, rfl, fun h => h⟩, trivial⟩⟩, e1, e2, by omega, by omega, by kernel_rfl, ⟨c2, rfl, Fits.of rfl rfl ⟨⟨rfl, _, rfl, rfl, fun h => h⟩, trivial⟩⟩, by omega⟩
theorem act_2 (h0 : t.ph = 2) : SC Try.prog 38 [pT, pC1, n64 now] 2 [(0, some (bT t)), (1, some (bC c))] (.s (.bool true)) 2 [(0, some (bT { t with ph := 4 })), (1, some (bC (wrt (adv c now) now t.val false)))] := by
  have c1 := st_r (now := now) h hp
  have c2 := writeData_s (adv c now) now t.val (adv_ok h hn) hn
  generalize adv c now = d at *
  have e1 := fb_2 d
  have e2 := fb_1 d
  refine SC.run hm Try.func38 rfl [.call [1] [pC, n64 now] [(0, some (bC c))] (n8 (fb d)) 1 [(0, some (bC d))], .num 0, .dec false, .num ((fb d : Nat) : Int), .keep, .dec false, .dec false, .dec true, .call [1] [pC, n64 now, n8 t.val] [(0, some (bC d))] (.tup []) 1 [(0, some (bC (wrt d now t.val false)))]] [] rfl rfl ?_ (.inl rfl) (EndOK.by rfl ⟨rfl, rfl, trivial⟩ rfl rfl rfl rfl)
  simp only [true_and, and_true, and_assoc, bne_iff_ne, bne_eq_false_iff_eq, beq_iff_eq, beq_eq_false_iff_ne, ne_eq]
  exact ⟨by kernel_rfl, ⟨c1, rfl, Fits.of rfl rfl ⟨⟨rfl, _, rfl, rfl, fun h => h⟩, trivial⟩⟩, e1, e2, by omega, by omega, by omega, by kernel_rfl, ⟨c2, rfl, Fits.of rfl rfl ⟨⟨rfl, _, rfl, rfl, fun h => h⟩, trivial⟩⟩⟩
theorem act_3e (hf : (adv c now).full = false) (h0 : t.ph = 3) : SC Try.prog 38 [pT, pC1, n64 now] 2 [(0, some (bT t)), (1, some (bC c))] (.s (.bool false)) 2 [(0, some (bT t)), (1, some (bC (adv c now)))] := by
  have c1 := st_0 c now h hn hp hf
  generalize adv c now = d at *
  refine SC.run hm Try.func38 rfl [.call [1] [pC, n64 now] [(0, some (bC c))] (n8 0) 1 [(0, some (bC d))], .num 0, .dec false, .num 0, .dec false, .dec false, .dec false, .dec false, .dec true] [] rfl rfl ?_ (.inl rfl) (EndOK.by rfl ⟨rfl, rfl, trivial⟩ rfl rfl rfl rfl)
  simp only [true_and, and_true, and_assoc, bne_iff_ne, bne_eq_false_iff_eq, beq_iff_eq, beq_eq_false_iff_ne, ne_eq]
  exact ⟨by kernel_rfl, ⟨c1, rfl, Fits.of rfl rfl ⟨⟨rfl, _, rfl, rfl, fun h => h⟩, trivial⟩⟩, by decide, by decide, by omega, by omega, by omega, by omega⟩
theorem act_3f (hf : (adv c now).full = true) (h0 : t.ph = 3) : SC Try.prog 38 [pT, pC1, n64 now] 2 [(0, some (bT t)), (1, some (bC c))] (.s (.bool false)) 2 [(0, some (bT { t with ph := 5, res := (adv (adv c now) now).out })), (1, some (bC (emt (adv (adv c now) now))))] := by
  have c1 := st_1 c now h hn hp hf
  have c2 := readData_s (adv c now) now (adv_ok h hn)
  generalize adv c now = d at *
  refine SC.run hm Try.func38 rfl [.call [1] [pC, n64 now] [(0, some (bC c))] (n8 1) 1 [(0, some (bC d))], .num 0, .dec false, .num 1, .dec true, .dec false, .dec false, .dec false, .dec true, .call [1] [pC, n64 now] [(0, some (bC d))] (n8 (adv d now).out) 1 [(0, some (bC (emt (adv d now))))]] [] rfl rfl ?_ (.inl rfl) (EndOK.by rfl ⟨rfl, rfl, trivial⟩ rfl rfl rfl rfl)
  simp only [true_and, and_true, and_assoc, bne_iff_ne, bne_eq_false_iff_eq, beq_iff_eq, beq_eq_false_iff_ne, ne_eq]
  exact ⟨by kernel_rfl, ⟨c1, rfl, Fits.of rfl rfl ⟨⟨rfl, _, rfl, rfl, fun h => h⟩, trivial⟩⟩, by decide, by decide, by decide, by omega, by omega, by omega, by omega, by kernel_rfl, ⟨c2, rfl, Fits.of rfl rfl ⟨⟨rfl, _, rfl, rfl, fun h => h⟩, trivial⟩⟩⟩
theorem act_4 (h0 : t.ph = 4) : SC Try.prog 38 [pT, pC1, n64 now] 2 [(0, some (bT t)), (1, some (bC c))] (.s (.bool false)) 2 [(0, some (bT { t with ph := 5 })), (1, some (bC (adv c now)))] := by
  have c1 := st_r (now := now) h hp
  generalize adv c now = d at *
  have e1 := fb_2 d
  have e2 := fb_1 d
  refine SC.run hm Try.func38 rfl [.call [1] [pC, n64 now] [(0, some (bC c))] (n8 (fb d)) 1 [(0, some (bC d))], .num 0, .dec false, .num ((fb d : Nat) : Int), .keep, .dec false, .dec false, .dec false, .dec false, .dec true] [] rfl rfl ?_ (.inl rfl) (EndOK.by rfl ⟨rfl, rfl, trivial⟩ rfl rfl rfl rfl)
  simp only [true_and, and_true, and_assoc, bne_iff_ne, bne_eq_false_iff_eq, beq_iff_eq, beq_eq_false_iff_ne, ne_eq]
  exact ⟨by kernel_rfl, ⟨c1, rfl, Fits.of rfl rfl ⟨⟨rfl, _, rfl, rfl, fun h => h⟩, trivial⟩⟩, e1, e2, by omega, by omega, by omega, by omega, by omega⟩
end

theorem act_s (t : Tr) (c : Ct) (now : Nat) (h : c.ok) (hn : now < 2 ^ 64) (ht : t.ok) (h4 : t.ph ≤ 4) : SC Try.prog 38 [pT, pC1, n64 now] 2 [(0, some (bT t)), (1, some (bC c))] (.s (.bool (actM t c now).2.2)) 2 [(0, some (bT (actM t c now).1)), (1, some (bC (actM t c now).2.1))] := by
  cases hp : (adv c now).pend with
  | true => rw [show actM t c now = (t, adv c now, false) by simp [actM, hp]]; exact act_pend t c now h hn hp
  | false =>
    have h5 : t.ph = 0 ∨ t.ph = 1 ∨ t.ph = 2 ∨ t.ph = 3 ∨ t.ph = 4 := by omega
    rcases h5 with h0 | h0 | h0 | h0 | h0
    · cases hf : (adv c now).full with
      | true => rw [show actM t c now = (t, emt (adv (adv c now) now), true) by simp [actM, hp, h0, hf]]; exact act_0f t c now h hn hp hf h0
      | false => rw [show actM t c now = ({ t with ph := if t.cmd = 132 then 3 else 1 }, wrt (adv c now) now t.cmd true, true) by simp [actM, hp, h0, hf]]; exact act_0e t c now h hn hp hf h0 ht
    · rw [show actM t c now = ({ t with ph := if t.cmd = 129 then 2 else 3 }, wrt (adv c now) now t.adr false, true) by simp [actM, hp, h0]]; exact act_1 t c now h hn hp h0
    · rw [show actM t c now = ({ t with ph := 4 }, wrt (adv c now) now t.val false, true) by simp [actM, hp, h0]]; exact act_2 t c now h hn hp h0
    · cases hf : (adv c now).full with
      | true => rw [show actM t c now = ({ t with ph := 5, res := (adv (adv c now) now).out }, emt (adv (adv c now) now), false) by simp [actM, hp, h0, hf]]; exact act_3f t c now h hn hp hf h0
      | false => rw [show actM t c now = (t, adv c now, false) by simp [actM, hp, h0, hf]]; exact act_3e t c now h hn hp hf h0
    · rw [show actM t c now = ({ t with ph := 5 }, adv c now, false) by simp [actM, hp, h0]]; exact act_4 t c now h hn hp h0

end Go.Proofs.Ytimebhllnemnbaa
