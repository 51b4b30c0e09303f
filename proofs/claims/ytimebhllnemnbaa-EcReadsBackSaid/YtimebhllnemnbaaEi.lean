/-
  A transaction goes on, step by step, till it ends: the plain laws.
-/
import Derived.Test.YtimebhllnemnbaaEh
set_option linter.unusedSimpArgs false
set_option linter.unusedVariables false
namespace Go.Proofs.Ytimebhllnemnbaa
open Go Ab
set_option maxRecDepth 100000

variable {w : Bool} {a v : Nat} {R : Nat → Nat} {d : Nat}

theorem rk_pos {t : Tr} (h : t.ph ≤ 4) : 1 ≤ rk t := by
  unfold rk
  have : t.ph = 0 ∨ t.ph = 1 ∨ t.ph = 2 ∨ t.ph = 3 ∨ t.ph = 4 := by omega
  rcases this with e | e | e | e | e <;> rw [e] <;> decide
theorem rk_le (t : Tr) : rk t ≤ 4 := by unfold rk; split <;> omega
theorem rk_one {t : Tr} (h : 1 ≤ t.ph) : rk t ≤ 3 := by
  unfold rk; split
  · omega
  all_goals omega

theorem stepL_pr {now : Nat} (hs : now + d < 2 ^ 64) : ∀ (k : Nat) (t : Tr) (c : Ct), Fx w a v d t c → Pr w a v R d t c → t.ph ≤ 4 → c.now ≤ now → rk t < k →
    Fx w a v d (stepL k t c now).1 (stepL k t c now).2 ∧ Pr w a v R d (stepL k t c now).1 (stepL k t c now).2 ∧ (stepL k t c now).2.now = now ∧ (stepL k t c now).1.dl = t.dl ∧
    ((stepL k t c now).1.ph = 5 ∨ ((stepL k t c now).1.ph ≤ 4 ∧ 1 ≤ (stepL k t c now).1.ph ∧ (stepL k t c now).2.pend = true ∧ now < (stepL k t c now).2.due ∧
      (((stepL k t c now).1.ph = t.ph ∧ (stepL k t c now).2.due = c.due) ∨ (rk (stepL k t c now).1 < rk t ∧ (stepL k t c now).2.due = now + d))))
  | 0, t, c, _, _, _, _, h => by omega
  | k + 1, t, c, f, p, h4, hm, hk => by
    obtain ⟨f', p', n', l', cs⟩ := act_pr f p h4 hs hm
    have e : stepL (k + 1) t c now = (match (actM t c now).2.2 with | true => stepL k (actM t c now).1 (actM t c now).2.1 now | false => ((actM t c now).1, (actM t c now).2.1)) := rfl
    rcases cs with ⟨r, q1, q2, q3, q4, q5⟩ | ⟨r, q1, q2, q3⟩ | ⟨r, q1⟩
    · rw [e, r]
      exact ⟨f', p', n', l', .inr ⟨by show (actM t c now).1.ph ≤ 4; omega, by show 1 ≤ (actM t c now).1.ph; omega, q3, q4, .inl ⟨q1, q5⟩⟩⟩
    · rw [e, r]
      obtain ⟨g1, g2, g3, g4, g5⟩ := stepL_pr hs k _ _ f' p' q2 (by omega) (by omega)
      refine ⟨g1, g2, g3, g4.trans l', ?_⟩
      rcases g5 with g | ⟨g, g0, gp, gd, ⟨u1, u2⟩ | ⟨u1, u2⟩⟩
      · exact .inl g
      · refine .inr ⟨g, g0, gp, gd, .inr ⟨?_, by rw [u2, q3]⟩⟩
        have : rk (stepL k (actM t c now).1 (actM t c now).2.1 now).1 = rk (actM t c now).1 := by unfold rk; rw [u1]
        show rk (stepL k (actM t c now).1 (actM t c now).2.1 now).1 < rk t
        omega
      · exact .inr ⟨g, g0, gp, gd, .inr ⟨by show rk (stepL k (actM t c now).1 (actM t c now).2.1 now).1 < rk t; omega, u2⟩⟩
    · rw [e, r]
      exact ⟨f', p', n', l', .inl q1⟩

/-- ahead of step i of a transaction that began at s -/
structure Fi (w : Bool) (a v : Nat) (R : Nat → Nat) (d s i : Nat) (t : Tr) (c : Ct) (now : Nat) : Prop where
  fx : Fx w a v d t c
  pr : Pr w a v R d t c
  p4 : t.ph ≤ 4
  nw : c.now ≤ now
  tb : now ≤ s + 4 * i
  dl : t.dl = s + 1000
  bb : (i = 0 ∧ t.ph = 0) ∨ (1 ≤ i ∧ 1 ≤ t.ph ∧ c.now < c.due ∧ c.due ≤ c.now + d ∧ rk t * 8 + (c.due - c.now) + (i - 41) ≤ 31 ∧ (41 ≤ i → c.now + 1 ≤ now))
theorem Fi.i_le {s i : Nat} {t : Tr} {c : Ct} {now : Nat} (h : Fi w a v R d s i t c now) : i ≤ 63 := by
  have := rk_pos h.p4
  rcases h.bb with ⟨h1, _⟩ | ⟨_, _, h3, _, h5, _⟩ <;> omega

theorem step_fi {s i : Nat} {t : Tr} {c : Ct} {now wt : Nat} (h : Fi w a v R d s i t c now) (hd : d ≤ 7) (hs : s + 2000 < 2 ^ 64) (hw : wt ≤ 4) (hw1 : 40 ≤ i → wt = 1) :
    Fx w a v d (stepT t c now).1 (stepT t c now).2 ∧ (stepT t c now).2.now = now ∧
    (((stepT t c now).1.ph = 5 ∧ Pr w a v R d (stepT t c now).1 (stepT t c now).2) ∨ ((stepT t c now).1.ph ≤ 4 ∧ Fi w a v R d s (i + 1) (stepT t c now).1 (stepT t c now).2 (now + wt))) := by
  have hi := h.i_le
  have htb := h.tb
  obtain ⟨g1, g2, g3, g4, g5⟩ := stepL_pr (now := now) (by omega) 7 t c h.fx h.pr h.p4 h.nw (by have := rk_le t; omega)
  have hdl := h.dl
  have e : stepT t c now = stepL 7 t c now := by
    unfold stepT endT
    rw [if_pos h.p4, if_neg (by rintro ⟨_, q⟩; omega)]
  rw [e]
  refine ⟨g1, g3, ?_⟩
  rcases g5 with g | ⟨g, g0, gp, gd, cs⟩
  · exact .inl ⟨g, g2⟩
  · refine .inr ⟨g, g1, g2, g, by omega, by omega, by omega, .inr ⟨by omega, g0, by omega, ?_, ?_, fun h41 => ?_⟩⟩
    · rcases cs with ⟨u1, u2⟩ | ⟨_, u2⟩
      · rcases h.bb with ⟨_, b1⟩ | ⟨b0, b1, b2, b3, b4, b5⟩
        · omega
        · have := h.nw; omega
      · omega
    · rcases cs with ⟨u1, u2⟩ | ⟨u1, u2⟩
      · have hr : rk (stepL 7 t c now).1 = rk t := by unfold rk; rw [u1]
        rcases h.bb with ⟨_, b1⟩ | ⟨b0, b1, b2, b3, b4, b5⟩
        · omega
        · have := h.nw
          rw [hr, g3, u2]
          by_cases h41 : 41 ≤ i
          · have := b5 h41; omega
          · omega
      · have hr3 := rk_one g0
        rw [g3, u2]
        rcases h.bb with ⟨b0, b1⟩ | ⟨b0, b1, b2, b3, b4, b5⟩
        · omega
        · omega
    · have := hw1 (by omega); omega

/-- the whole way: k: how many steps at most -/
def fnM (wt : Nat → Nat) : Nat → Tr → Ct → Nat → Nat → Tr × Ct × Nat
  | 0, t, c, now, _ => (t, c, now)
  | k + 1, t, c, now, i => if (stepT t c now).1.ph = 5 then ((stepT t c now).1, (stepT t c now).2, now) else fnM wt k (stepT t c now).1 (stepT t c now).2 (now + wt i) (i + 1)
theorem fn_end {wt : Nat → Nat} (hd : d ≤ 7) {s : Nat} (hs : s + 2000 < 2 ^ 64) (hw : ∀ i, wt i ≤ 4) (hw1 : ∀ i, 40 ≤ i → wt i = 1) : ∀ (k i : Nat) (t : Tr) (c : Ct) (now : Nat), Fi w a v R d s i t c now → 70 ≤ k + i →
    (fnM wt k t c now i).1.ph = 5 ∧ Fx w a v d (fnM wt k t c now i).1 (fnM wt k t c now i).2.1 ∧ Pr w a v R d (fnM wt k t c now i).1 (fnM wt k t c now i).2.1 ∧ (fnM wt k t c now i).2.1.now = (fnM wt k t c now i).2.2 ∧ (fnM wt k t c now i).2.2 ≤ s + 300
  | 0, i, t, c, now, h, hk => by have := h.i_le; omega
  | k + 1, i, t, c, now, h, hk => by
    obtain ⟨f, n, cs⟩ := step_fi h hd hs (hw i) (hw1 i)
    have hi := h.i_le
    have htb := h.tb
    simp only [fnM]
    rcases cs with ⟨p5, pr⟩ | ⟨p4, hF⟩
    · rw [if_pos p5]; exact ⟨p5, f, pr, n, by show now ≤ _; omega⟩
    · rw [if_neg (by omega)]; exact fn_end hd hs hw hw1 k (i + 1) _ _ _ hF (by omega)

end Go.Proofs.Ytimebhllnemnbaa
