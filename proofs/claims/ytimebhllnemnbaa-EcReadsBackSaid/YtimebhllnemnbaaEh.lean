/-
  The way of a read or a write transaction: the plain laws.
-/
import Derived.Test.YtimebhllnemnbaaEf
set_option linter.unusedSimpArgs false
set_option linter.unusedVariables false
namespace Go.Proofs.Ytimebhllnemnbaa
open Go Ab
set_option maxRecDepth 100000

/-- where a transaction stands: w: it writes; a, v: where and what; R: the registers ahead of it; d: the delay -/
inductive Pr (w : Bool) (a v : Nat) (R : Nat → Nat) (d : Nat) (t : Tr) (c : Ct) : Prop
  | p0 (ph : t.ph = 0) (pe : c.pend = false) (fu : c.full = false) (re : c.regs = R)
  | p1 (ph : t.ph = 1) (pe : c.pend = true) (ic : c.isC = true) (ip : c.inp = t.cmd) (fu : c.full = false) (re : c.regs = R)
  | p2 (ph : t.ph = 2) (wt : w = true) (pe : c.pend = true) (ic : c.isC = false) (ip : c.inp = a) (cm : c.cmd = 129) (ha : c.hasA = false) (fu : c.full = false) (re : c.regs = R)
  | p3 (ph : t.ph = 3) (wt : w = false) (pe : c.pend = true) (ic : c.isC = false) (ip : c.inp = a) (cm : c.cmd = 128) (fu : c.full = false) (re : c.regs = R)
  | p4 (ph : t.ph = 4) (wt : w = true) (pe : c.pend = true) (ic : c.isC = false) (ip : c.inp = v) (cm : c.cmd = 129) (ha : c.hasA = true) (ad : c.adr = a) (fu : c.full = false) (re : c.regs = R)
  | p5 (ph : t.ph = 5) (pe : c.pend = false) (fu : c.full = false) (re : c.regs = if w then upd R a v else R) (rs : w = false → t.res = R a)

structure Fx (w : Bool) (a v d : Nat) (t : Tr) (c : Ct) : Prop where
  cmd : t.cmd = if w then 129 else 128
  adr : t.adr = a
  val : t.val = v
  dl : c.delay = d

/-- how far it still is -/
def rk (t : Tr) : Nat := match t.ph with | 0 => 4 | 1 => 3 | 2 => 2 | 3 => 1 | 4 => 1 | _ => 0

variable {w : Bool} {a v : Nat} {R : Nat → Nat} {d : Nat}

theorem adv_wait {c : Ct} {now : Nat} (h : c.pend = true) (hd : ¬ c.due ≤ max c.now now) : adv c now = tick c now := by simp [adv, h, hd]
theorem adv_due {c : Ct} {now : Nat} (h : c.pend = true) (hd : c.due ≤ max c.now now) : adv c now = match c.isC with | true => tkC { tick c now with pend := false } c.inp | false => tkD { tick c now with pend := false } c.inp := by
  unfold adv; rw [h, decide_eq_true hd]; rfl
theorem sat_small {x y : Nat} (h : x + y < 2 ^ 64) : sat x y = x + y := by unfold sat; omega
/-- a byte written to a controller at rest -/
theorem wrt_rest {c : Ct} {now x : Nat} {ic : Bool} (hp : c.pend = false) (hn : now ≤ c.now) : wrt c now x ic = { c with pend := true, isC := ic, inp := x, due := sat c.now c.delay } := by
  have e := adv_rest hp hn
  unfold wrt; rw [e, hp]

/-- one action: it waits, or it goes a phase on -/
theorem act_pr {t : Tr} {c : Ct} {now : Nat} (f : Fx w a v d t c) (p : Pr w a v R d t c) (h4 : t.ph ≤ 4) (hs : now + d < 2 ^ 64) (hm : c.now ≤ now) :
    Fx w a v d (actM t c now).1 (actM t c now).2.1 ∧ Pr w a v R d (actM t c now).1 (actM t c now).2.1 ∧ (actM t c now).2.1.now = now ∧ (actM t c now).1.dl = t.dl ∧
    (((actM t c now).2.2 = false ∧ (actM t c now).1.ph = t.ph ∧ 1 ≤ t.ph ∧ (actM t c now).2.1.pend = true ∧ now < (actM t c now).2.1.due ∧ (actM t c now).2.1.due = c.due) ∨
     ((actM t c now).2.2 = true ∧ rk (actM t c now).1 < rk t ∧ (actM t c now).1.ph ≤ 4 ∧ (actM t c now).2.1.due = now + d) ∨
     ((actM t c now).2.2 = false ∧ (actM t c now).1.ph = 5)) := by
  have hmx : max c.now now = now := Nat.max_eq_right hm
  have hsat : sat now d = now + d := sat_small hs
  -- waiting is alike in every phase
  have wait : c.pend = true → ¬ c.due ≤ max c.now now → 1 ≤ t.ph → Pr w a v R d t (tick c now) →
      Fx w a v d (actM t c now).1 (actM t c now).2.1 ∧ Pr w a v R d (actM t c now).1 (actM t c now).2.1 ∧ (actM t c now).2.1.now = now ∧ (actM t c now).1.dl = t.dl ∧
      (((actM t c now).2.2 = false ∧ (actM t c now).1.ph = t.ph ∧ 1 ≤ t.ph ∧ (actM t c now).2.1.pend = true ∧ now < (actM t c now).2.1.due ∧ (actM t c now).2.1.due = c.due) ∨
       ((actM t c now).2.2 = true ∧ rk (actM t c now).1 < rk t ∧ (actM t c now).1.ph ≤ 4 ∧ (actM t c now).2.1.due = now + d) ∨
       ((actM t c now).2.2 = false ∧ (actM t c now).1.ph = 5)) := by
    intro hp hd h1 hP
    have e := adv_wait hp hd
    have hpd : (adv c now).pend = true := by rw [e]; exact hp
    have ea : actM t c now = (t, tick c now, false) := by rw [← e]; simp [actM, hpd]
    rw [ea]
    exact ⟨⟨f.cmd, f.adr, f.val, f.dl⟩, hP, hmx, rfl, .inl ⟨rfl, rfl, h1, hp, by show now < c.due; omega, rfl⟩⟩
  cases p with
  | p0 ph pe fu re =>
    have e : adv c now = tick c now := by simp [adv, pe]
    have hf : (adv c now).full = false := by rw [e]; exact fu
    have hp : (adv c now).pend = false := by rw [e]; exact pe
    have hq : ¬ t.cmd = 132 := by rw [f.cmd]; split <;> decide
    have ea : actM t c now = ({ t with ph := 1 }, { tick c now with pend := true, isC := true, inp := t.cmd, due := sat (tick c now).now (tick c now).delay }, true) := by
      have e2 : actM t c now = ({ t with ph := if t.cmd = 132 then 3 else 1 }, wrt (adv c now) now t.cmd true, true) := by simp [actM, hp, ph, hf]
      rw [e2, if_neg hq, e, wrt_rest (by show c.pend = false; exact pe) (by show now ≤ max c.now now; omega)]
    rw [ea]
    have h1 : sat (tick c now).now (tick c now).delay = now + d := by
      show sat (max c.now now) c.delay = _
      rw [hmx, f.dl, hsat]
    refine ⟨⟨f.cmd, f.adr, f.val, f.dl⟩, .p1 rfl rfl rfl rfl fu re, hmx, rfl, .inr (.inl ⟨rfl, ?_, by show 1 ≤ 4; omega, h1⟩)⟩
    show rk { t with ph := 1 } < rk t
    unfold rk; rw [ph]; show (3 : Nat) < 4; decide
  | p1 ph pe ic ip fu re =>
    by_cases hd : c.due ≤ max c.now now
    · have e := adv_due pe hd
      rw [ic] at e
      have e2 : tkC { tick c now with pend := false } c.inp = { tick c now with pend := false, cmd := t.cmd, hasA := false } := by
        unfold tkC
        rw [ip, if_pos (by rw [f.cmd]; split <;> simp)]
      have e := e.trans e2
      have hp : (adv c now).pend = false := by rw [e]
      have ea : actM t c now = ({ t with ph := if t.cmd = 129 then 2 else 3 }, { adv c now with pend := true, isC := false, inp := t.adr, due := sat (adv c now).now (adv c now).delay }, true) := by
        have e3 : actM t c now = ({ t with ph := if t.cmd = 129 then 2 else 3 }, wrt (adv c now) now t.adr false, true) := by simp [actM, hp, ph]
        rw [e3, wrt_rest hp (by rw [(adv_now c now).1]; omega)]
      rw [ea, e]
      have h1 : sat ({ tick c now with pend := false, cmd := t.cmd, hasA := false } : Ct).now ({ tick c now with pend := false, cmd := t.cmd, hasA := false } : Ct).delay = now + d := by
        show sat (max c.now now) c.delay = _
        rw [hmx, f.dl, hsat]
      cases w with
      | true =>
        have hc : t.cmd = 129 := f.cmd
        rw [if_pos hc]
        refine ⟨⟨f.cmd, f.adr, f.val, f.dl⟩, .p2 rfl rfl rfl rfl f.adr hc rfl fu re, hmx, rfl, .inr (.inl ⟨rfl, ?_, by show 2 ≤ 4; omega, h1⟩)⟩
        show rk { t with ph := 2 } < rk t
        unfold rk; rw [ph]; show (2 : Nat) < 3; decide
      | false =>
        have hc : t.cmd = 128 := f.cmd
        rw [if_neg (by omega)]
        refine ⟨⟨f.cmd, f.adr, f.val, f.dl⟩, .p3 rfl rfl rfl rfl f.adr hc fu re, hmx, rfl, .inr (.inl ⟨rfl, ?_, by show 3 ≤ 4; omega, h1⟩)⟩
        show rk { t with ph := 3 } < rk t
        unfold rk; rw [ph]; show (1 : Nat) < 3; decide
    · exact wait pe hd (by omega) (.p1 ph pe ic ip fu re)
  | p2 ph wt pe ic ip cm ha fu re =>
    by_cases hd : c.due ≤ max c.now now
    · have e := adv_due pe hd
      rw [ic] at e
      have e2 : tkD { tick c now with pend := false } c.inp = { tick c now with pend := false, adr := a, hasA := true } := by
        unfold tkD
        rw [if_neg (by show ¬ c.cmd = 128; omega), if_pos (by show c.cmd = 129; exact cm)]
        show (match c.hasA with | false => _ | true => _) = _
        rw [ha, ip]
      have e := e.trans e2
      have hp : (adv c now).pend = false := by rw [e]
      have ea : actM t c now = ({ t with ph := 4 }, { adv c now with pend := true, isC := false, inp := t.val, due := sat (adv c now).now (adv c now).delay }, true) := by
        have e3 : actM t c now = ({ t with ph := 4 }, wrt (adv c now) now t.val false, true) := by simp [actM, hp, ph]
        rw [e3, wrt_rest hp (by rw [(adv_now c now).1]; omega)]
      rw [ea, e]
      have h1 : sat ({ tick c now with pend := false, adr := a, hasA := true } : Ct).now ({ tick c now with pend := false, adr := a, hasA := true } : Ct).delay = now + d := by
        show sat (max c.now now) c.delay = _
        rw [hmx, f.dl, hsat]
      refine ⟨⟨f.cmd, f.adr, f.val, f.dl⟩, .p4 rfl wt rfl rfl f.val cm rfl rfl fu re, hmx, rfl, .inr (.inl ⟨rfl, ?_, by show 4 ≤ 4; omega, h1⟩)⟩
      show rk { t with ph := 4 } < rk t
      unfold rk; rw [ph]; show (1 : Nat) < 2; decide
    · exact wait pe hd (by omega) (.p2 ph wt pe ic ip cm ha fu re)
  | p3 ph wt pe ic ip cm fu re =>
    by_cases hd : c.due ≤ max c.now now
    · have e := adv_due pe hd
      rw [ic] at e
      have e2 : tkD { tick c now with pend := false } c.inp = { tick c now with pend := false, full := true, out := R a, cmd := 0 } := by
        unfold tkD
        rw [if_pos (by show c.cmd = 128; exact cm)]
        show ({ tick c now with pend := false, full := true, out := c.regs c.inp, cmd := 0 } : Ct) = _
        rw [ip, re]
      have e := e.trans e2
      have hp : (adv c now).pend = false := by rw [e]
      have hf : (adv c now).full = true := by rw [e]
      have hr : adv (adv c now) now = adv c now := adv_rest hp (by rw [(adv_now c now).1]; omega)
      have ea : actM t c now = ({ t with ph := 5, res := (adv c now).out }, emt (adv c now), false) := by
        have e3 : actM t c now = ({ t with ph := 5, res := (adv (adv c now) now).out }, emt (adv (adv c now) now), false) := by simp [actM, hp, ph, hf]
        rw [e3, hr]
      rw [ea, e]
      refine ⟨⟨f.cmd, f.adr, f.val, f.dl⟩, .p5 rfl rfl rfl ?_ fun _ => rfl, hmx, rfl, .inr (.inr ⟨rfl, rfl⟩)⟩
      show c.regs = _
      rw [wt, re]; rfl
    · exact wait pe hd (by omega) (.p3 ph wt pe ic ip cm fu re)
  | p4 ph wt pe ic ip cm ha ad fu re =>
    by_cases hd : c.due ≤ max c.now now
    · have e := adv_due pe hd
      rw [ic] at e
      have e2 : tkD { tick c now with pend := false } c.inp = { tick c now with pend := false, regs := upd R a v, cmd := 0, hasA := false } := by
        unfold tkD
        rw [if_neg (by show ¬ c.cmd = 128; omega), if_pos (by show c.cmd = 129; exact cm)]
        show (match c.hasA with | false => _ | true => ({ tick c now with pend := false, regs := upd c.regs c.adr c.inp, cmd := 0, hasA := false } : Ct)) = _
        rw [ha, ip, ad, re]
      have e := e.trans e2
      have hp : (adv c now).pend = false := by rw [e]
      have ea : actM t c now = ({ t with ph := 5 }, adv c now, false) := by simp [actM, hp, ph]
      rw [ea, e]
      refine ⟨⟨f.cmd, f.adr, f.val, f.dl⟩, .p5 rfl rfl fu ?_ (fun h => by rw [wt] at h; cases h), hmx, rfl, .inr (.inr ⟨rfl, rfl⟩)⟩
      rw [wt]; rfl
    · exact wait pe hd (by omega) (.p4 ph wt pe ic ip cm ha ad fu re)
  | p5 ph pe fu re rs => omega

end Go.Proofs.Ytimebhllnemnbaa
