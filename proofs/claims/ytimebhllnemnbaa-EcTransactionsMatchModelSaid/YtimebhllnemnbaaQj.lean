/-
  The embedded controller with its queue: Step.
-/
import Derived.Test.YtimebhllnemnbaaQi
import Derived.Test.YtimebhllnemnbaaQe
import Derived.Test.YtimebhllnemnbaaAb14
set_option linter.unusedSimpArgs false
set_option linter.unusedVariables false
namespace Go.Proofs.Ytimebhllnemnbaa
open Go Ab
set_option maxRecDepth 100000

def stepLq : Nat → Tr → Cq → Nat → Tr × Cq
  | 0, t, c, _ => (t, c)
  | k + 1, t, c, now => match (actMq t c now).2.2 with | true => stepLq k (actMq t c now).1 (actMq t c now).2.1 now | false => ((actMq t c now).1, (actMq t c now).2.1)

/-- how many actions may still follow -/
def muq (t : Tr) (c : Cq) (now : Nat) : Nat :=
  match t.ph with
  | 0 => (match (advq c now).full with | true => 6 | false => 5)
  | 1 => 4
  | 2 => 3
  | _ => 0
theorem actMq_ok {t : Tr} {c : Cq} {now : Nat} (h : c.ok) (hn : now < 2 ^ 64) (ht : t.ok) : (actMq t c now).1.ok ∧ (actMq t c now).2.1.ok := by
  have a := advq_ok h hn
  have a2 := advq_ok a hn
  unfold actMq
  split
  · exact ⟨ht, a⟩
  · split
    · split
      · exact ⟨ht, emtq_ok a2⟩
      · exact ⟨⟨ht.cmd, ht.adr, ht.val⟩, wrtq_ok a hn ht.cmd⟩
    · exact ⟨⟨ht.cmd, ht.adr, ht.val⟩, wrtq_ok a hn ht.adr⟩
    · exact ⟨⟨ht.cmd, ht.adr, ht.val⟩, wrtq_ok a hn ht.val⟩
    · split
      · exact ⟨⟨ht.cmd, ht.adr, ht.val⟩, emtq_ok a2⟩
      · exact ⟨ht, a⟩
    · exact ⟨⟨ht.cmd, ht.adr, ht.val⟩, a⟩
    · exact ⟨ht, a⟩
theorem actMq_mu {t : Tr} {c : Cq} {now : Nat} (h4 : t.ph ≤ 4) (hr : (actMq t c now).2.2 = true) : (actMq t c now).1.ph ≤ 4 ∧ muq (actMq t c now).1 (actMq t c now).2.1 now < muq t c now := by
  have hnow := (advq_now c now).1
  cases hp : (advq c now).pend with
  | true => rw [show actMq t c now = (t, advq c now, false) by simp [actMq, hp]] at hr; cases hr
  | false =>
    have hrest : advq (advq c now) now = advq c now := advq_rest hp (by omega)
    have h5 : t.ph = 0 ∨ t.ph = 1 ∨ t.ph = 2 ∨ t.ph = 3 ∨ t.ph = 4 := by omega
    rcases h5 with h0 | h0 | h0 | h0 | h0
    · cases hf : (advq c now).full with
      | true =>
        rw [show actMq t c now = (t, emtq (advq (advq c now) now), true) by simp [actMq, hp, h0, hf], hrest]
        refine ⟨h4, ?_⟩
        have e : advq (emtq (advq c now)) now = emtq (advq c now) := advq_rest (by show (advq c now).pend = false; exact hp) (by show now ≤ (advq c now).now; omega)
        simp only [muq, h0, e, hf]
        show 5 < 6; decide
      | false =>
        rw [show actMq t c now = ({ t with ph := if t.cmd = 132 then 3 else 1 }, wrtq (advq c now) now t.cmd true, true) by simp [actMq, hp, h0, hf]]
        by_cases hq : t.cmd = 132 <;> simp [muq, h0, hf, hq]
    · rw [show actMq t c now = ({ t with ph := if t.cmd = 129 then 2 else 3 }, wrtq (advq c now) now t.adr false, true) by simp [actMq, hp, h0]]
      by_cases hq : t.cmd = 129 <;> simp [muq, h0, hq]
    · rw [show actMq t c now = ({ t with ph := 4 }, wrtq (advq c now) now t.val false, true) by simp [actMq, hp, h0]]
      simp [muq, h0]
    · cases hf : (advq c now).full with
      | true => rw [show actMq t c now = ({ t with ph := 5, res := (advq (advq c now) now).out }, emtq (advq (advq c now) now), false) by simp [actMq, hp, h0, hf]] at hr; cases hr
      | false => rw [show actMq t c now = (t, advq c now, false) by simp [actMq, hp, h0, hf]] at hr; cases hr
    · rw [show actMq t c now = ({ t with ph := 5 }, advq c now, false) by simp [actMq, hp, h0]] at hr; cases hr
theorem muq_le (t : Tr) (c : Cq) (now : Nat) : muq t c now ≤ 6 := by
  unfold muq
  split
  · split <;> omega
  · omega
  · omega
  · omega
/-- enough rounds -/
theorem stepLq_more {now : Nat} : ∀ (k : Nat) (t : Tr) (c : Cq), t.ph ≤ 4 → muq t c now ≤ k → stepLq (k + 1) t c now = stepLq 7 t c now := by
  have key : ∀ (k : Nat) (t : Tr) (c : Cq), t.ph ≤ 4 → muq t c now ≤ k → ∀ j, stepLq (k + 1 + j) t c now = stepLq (k + 1) t c now := by
    intro k
    induction k with
    | zero =>
      intro t c h4 hmu j
      rw [Nat.zero_add, Nat.add_comm]
      simp only [stepLq]
      cases hr : (actMq t c now).2.2 with
      | false => rfl
      | true => have := (actMq_mu h4 hr).2; omega
    | succ k ih =>
      intro t c h4 hmu j
      rw [show k + 1 + 1 + j = (k + 1 + j) + 1 by omega]
      simp only [stepLq]
      cases hr : (actMq t c now).2.2 with
      | false => rfl
      | true =>
        obtain ⟨q1, q2⟩ := actMq_mu h4 hr
        exact ih _ _ q1 (by omega) j
  intro k t c h4 hmu
  have h6 := muq_le t c now
  by_cases hk : k ≤ 6
  · have := key k t c h4 hmu (6 - k)
    rw [show k + 1 + (6 - k) = 7 by omega] at this
    exact this.symm
  · have := key 6 t c h4 h6 (k - 6)
    rw [show 6 + 1 + (k - 6) = k + 1 by omega] at this
    exact this

def stepTq (t : Tr) (c : Cq) (now : Nat) : Tr × Cq := if t.ph ≤ 4 then (endT (stepLq 7 t c now).1 now, (stepLq 7 t c now).2) else (t, c)
theorem stepLq_ph {now : Nat} : ∀ (k : Nat) (t : Tr) (c : Cq), t.ph ≤ 4 → (stepLq k t c now).1.ph ≤ 5 ∧ (stepLq k t c now).1.dl = t.dl := by
  have one : ∀ (t : Tr) (c : Cq), t.ph ≤ 4 → (actMq t c now).1.ph ≤ 5 ∧ (actMq t c now).1.dl = t.dl ∧ ((actMq t c now).2.2 = true → (actMq t c now).1.ph ≤ 4) := by
    intro t c h4
    refine ⟨?_, ?_, fun hr => (actMq_mu h4 hr).1⟩
    · unfold actMq
      split
      · show t.ph ≤ 5; omega
      · split
        · split
          · show t.ph ≤ 5; omega
          · show (if t.cmd = 132 then 3 else 1) ≤ 5; split <;> omega
        · show (if t.cmd = 129 then 2 else 3) ≤ 5; split <;> omega
        · show 4 ≤ 5; omega
        · split
          · show 5 ≤ 5; omega
          · show t.ph ≤ 5; omega
        · show 5 ≤ 5; omega
        · show t.ph ≤ 5; omega
    · unfold actMq
      split
      · rfl
      · split
        · split <;> rfl
        · rfl
        · rfl
        · split <;> rfl
        · rfl
        · rfl
  intro k
  induction k with
  | zero => intro t c h4; exact ⟨by show t.ph ≤ 5; omega, rfl⟩
  | succ k ih =>
    intro t c h4
    obtain ⟨q1, q2, q3⟩ := one t c h4
    simp only [stepLq]
    cases hr : (actMq t c now).2.2 with
    | false => exact ⟨q1, q2⟩
    | true =>
      obtain ⟨g1, g2⟩ := ih _ (actMq t c now).2.1 (q3 hr)
      exact ⟨g1, g2.trans q2⟩

theorem actMq_q0 (t : Tr) (c : Cq) (now : Nat) (hq : c.q = []) : (actMq t c now).2.1.q = [] := by
  have a := advq_q0 c now hq
  have a2 := advq_q0 (advq c now) now a
  unfold actMq
  split
  · exact a
  · split
    · split
      · exact a2
      · exact wrtq_q0 _ _ _ _ a
    · exact wrtq_q0 _ _ _ _ a
    · exact wrtq_q0 _ _ _ _ a
    · split
      · exact a2
      · exact a
    · exact a
    · exact a
theorem sround_N (t : Tr) (c : Cq) (now : Nat) (h : c.ok) (hn : now < 2 ^ 64) (hq : c.q = []) (ht : t.ok) (h4 : t.ph ≤ 4) (hr : (actMq t c now).2.2 = true) :
    Rnd Try.prog 2 ((Try.f13.body.bind fstLoop).getD .skip) [0, 1] [0, 1, 2] (sp 53 [(0, pT), (1, pC1), (2, n64 now)]) 2 (sTN t c) (sp 53 [(0, pT), (1, pC1), (2, n64 now)]) (sTN (actMq t c now).1 (actMq t c now).2.1) := by
  have hb := act_N t c now h hn hq ht h4
  rw [hr] at hb
  refine ⟨[.call [0, 1] [pT, pC1, n64 now] (sTN t c) (.s (.bool true)) 2 (sTN (actMq t c now).1 (actMq t c now).2.1)], _, _, _, _, _, rfl, ?_, rfl, ⟨rfl, rfl, trivial⟩⟩
  simp only [true_and, and_true, and_assoc]
  exact ⟨by kernel_rfl, hb, rfl, Fits.of rfl rfl ⟨⟨rfl, _, rfl, rfl, fun h => h⟩, ⟨rfl, _, rfl, rfl, fun h => h⟩, trivial⟩⟩
theorem slast_N (t : Tr) (c : Cq) (now : Nat) (h : c.ok) (hn : now < 2 ^ 64) (hq : c.q = []) (ht : t.ok) (h4 : t.ph ≤ 4) (hr : (actMq t c now).2.2 = false) :
    Lst Try.prog 2 ((Try.f13.body.bind fstLoop).getD .skip) [0, 1] [0, 1, 2] (sp 53 [(0, pT), (1, pC1), (2, n64 now)]) 2 (sTN t c) (.exit 0) (sp 53 [(0, pT), (1, pC1), (2, n64 now)]) (sTN (actMq t c now).1 (actMq t c now).2.1) := by
  have hb := act_N t c now h hn hq ht h4
  rw [hr] at hb
  refine ⟨[.call [0, 1] [pT, pC1, n64 now] (sTN t c) (.s (.bool false)) 2 (sTN (actMq t c now).1 (actMq t c now).2.1)], _, _, _, _, _, rfl, ?_, rfl, ⟨rfl, rfl, trivial⟩⟩
  simp only [true_and, and_true, and_assoc]
  exact ⟨by kernel_rfl, hb, rfl, Fits.of rfl rfl ⟨⟨rfl, _, rfl, rfl, fun h => h⟩, ⟨rfl, _, rfl, rfl, fun h => h⟩, trivial⟩⟩
theorem sloop_N (t : Tr) (c : Cq) (now : Nat) (h : c.ok) (hn : now < 2 ^ 64) (hq : c.q = []) (ht : t.ok) (h4 : t.ph ≤ 4) {env : List V} (he : wkE [0, 1, 2] 0 env = sp 53 [(0, pT), (1, pC1), (2, n64 now)]) :
    Ex Try.prog 2 (.loop ((Try.f13.body.bind fstLoop).getD .skip)) env 2 (sTN t c) (One (.exit 0) (sp 53 [(0, pT), (1, pC1), (2, n64 now)]) 2 (sTN (stepLq 7 t c now).1 (stepLq 7 t c now).2)) := by
  refine Ex.whiles hm (σ := Tr × Cq) (fun _ => sp 53 [(0, pT), (1, pC1), (2, n64 now)]) (fun s => (sTN s.1 s.2)) (fun s => s.1.ok ∧ s.2.ok ∧ s.1.ph ≤ 4 ∧ stepLq 7 s.1 s.2 now = stepLq 7 t c now ∧ s.2.q = []) (fun s => muq s.1 s.2 now) (t, c) [0, 1, 2] [0, 1] [0, 1] rfl rfl he ⟨rfl, rfl, trivial⟩ rfl (fun s => rfl) ⟨ht, h, h4, rfl, hq⟩ [0, 1, 2] [0, 1] rfl (by simp) rfl ?_
  rintro ⟨t', c'⟩ ⟨i1, i2, i3, i4, i5⟩
  dsimp only at *
  cases hr : (actMq t' c' now).2.2 with
  | true =>
    obtain ⟨o1, o2⟩ := actMq_ok (now := now) i2 hn i1
    obtain ⟨m1, m2⟩ := actMq_mu i3 hr
    refine .inl ⟨(_, _), ⟨o1, o2, m1, ?_, actMq_q0 _ _ _ i5⟩, m2, sround_N t' c' now i2 hn i5 i1 i3 hr⟩
    rw [← i4]
    rw [← stepLq_more (muq t' c' now) t' c' i3 (Nat.le_refl _)]
    obtain ⟨k, hk⟩ : ∃ k, muq t' c' now = k + 1 := ⟨muq t' c' now - 1, by omega⟩
    rw [hk]
    show _ = (match (actMq t' c' now).2.2 with | true => stepLq (k + 1) (actMq t' c' now).1 (actMq t' c' now).2.1 now | false => _)
    rw [hr]
    exact (stepLq_more k _ _ m1 (by show muq (actMq t' c' now).1 (actMq t' c' now).2.1 now ≤ k; omega)).symm
  | false =>
    refine .inr ?_
    rw [← i4]
    have e : stepLq 7 t' c' now = ((actMq t' c' now).1, (actMq t' c' now).2.1) := by
      show (match (actMq t' c' now).2.2 with | true => _ | false => _) = _
      rw [hr]
    rw [e]
    exact slast_N t' c' now i2 hn i5 i1 i3 hr
theorem step5_N (t : Tr) (c : Cq) (now : Nat) (h5 : t.ph = 5) : SC Try.prog 13 [pT, pC1, n64 now] 2 (sTN t c) (outT t) 2 (sTN t c) := by
  rw [show outT t = .tup [.s (.int .u8 ((t.res : Nat) : Int)), .s (.bool true), .s (.int .i64 0)] by simp [outT, h5]]
  refine SC.run hm Try.func13 rfl [.dec false, .dec true] [] rfl rfl ?_ (.inl rfl) (EndOK.by rfl ⟨rfl, rfl, trivial⟩ rfl rfl rfl rfl)
  simp only [true_and, and_true, and_assoc, bne_eq_false_iff_eq, beq_iff_eq]
  omega
theorem step6_N (t : Tr) (c : Cq) (now : Nat) (h6 : t.ph = 6) : SC Try.prog 13 [pT, pC1, n64 now] 2 (sTN t c) (outT t) 2 (sTN t c) := by
  rw [show outT t = .tup [.s (.int .u8 0), .s (.bool true), .s (.int .i64 14)] by simp [outT, h6]]
  refine SC.run hm Try.func13 rfl [.dec true, .dec false, .dec false, .dec true] [] rfl rfl ?_ (.inl rfl) (EndOK.by rfl ⟨rfl, rfl, trivial⟩ rfl rfl rfl rfl)
  simp only [true_and, and_true, and_assoc, bne_eq_false_iff_eq, bne_iff_ne, beq_iff_eq, beq_eq_false_iff_ne, ne_eq]
  omega
theorem step4_N (t : Tr) (c : Cq) (now : Nat) (h : c.ok) (hn : now < 2 ^ 64) (hq : c.q = []) (ht : t.ok) (h4 : t.ph ≤ 4) : SC Try.prog 13 [pT, pC1, n64 now] 2 (sTN t c) (outT (endT (stepLq 7 t c now).1 now)) 2 (sTN (endT (stepLq 7 t c now).1 now) (stepLq 7 t c now).2) := by
  obtain ⟨hph, _⟩ := stepLq_ph (now := now) 7 t c h4
  have hloop := fun env he => sloop_N t c now h hn hq ht h4 (env := env) he
  generalize stepLq 7 t c now = st at *
  obtain ⟨t1, c1⟩ := st
  dsimp only at hph hloop ⊢
  by_cases h5 : t1.ph = 5
  · rw [show endT t1 now = t1 by simp [endT, h5], show outT t1 = .tup [.s (.int .u8 ((t1.res : Nat) : Int)), .s (.bool true), .s (.int .i64 0)] by simp [outT, h5]]
    refine SC.run hm Try.func13 rfl [.dec true, .dec true, .loop (.exit 0) (sp 53 [(0, pT), (1, pC1), (2, n64 now)]) 2 (sTN t1 c1), .dec false, .dec true] [] rfl rfl ?_ (.inl rfl) (EndOK.by rfl ⟨rfl, rfl, trivial⟩ rfl rfl rfl rfl)
    simp only [true_and, and_true, and_assoc, bne_eq_false_iff_eq, bne_iff_ne, beq_iff_eq, beq_eq_false_iff_ne, ne_eq]
    exact ⟨by omega, by omega, hloop _ rfl, by omega, by omega⟩
  · by_cases hd : t1.dl ≤ now
    · rw [show endT t1 now = { t1 with ph := 6 } by simp [endT, h5, hd], show outT { t1 with ph := 6 } = .tup [.s (.int .u8 0), .s (.bool true), .s (.int .i64 14)] by simp [outT]]
      refine SC.run hm Try.func13 rfl [.dec true, .dec true, .loop (.exit 0) (sp 53 [(0, pT), (1, pC1), (2, n64 now)]) 2 (sTN t1 c1), .dec true, .dec true, .dec false, .dec true] [] rfl rfl ?_ (.inl rfl) (EndOK.by rfl ⟨rfl, rfl, trivial⟩ rfl rfl rfl rfl)
      simp only [true_and, and_true, and_assoc, bne_eq_false_iff_eq, bne_iff_ne, beq_iff_eq, beq_eq_false_iff_ne, ne_eq, decide_eq_true_eq]
      exact ⟨by omega, by omega, hloop _ rfl, by omega, by omega, by omega⟩
    · rw [show endT t1 now = t1 by simp [endT, hd], show outT t1 = .tup [.s (.int .u8 0), .s (.bool false), .s (.int .i64 0)] by simp [outT, h5]; omega]
      refine SC.run hm Try.func13 rfl [.dec true, .dec true, .loop (.exit 0) (sp 53 [(0, pT), (1, pC1), (2, n64 now)]) 2 (sTN t1 c1), .dec true, .dec false, .dec false, .dec false] [] rfl rfl ?_ (.inl rfl) (EndOK.by rfl ⟨rfl, rfl, trivial⟩ rfl rfl rfl rfl)
      simp only [true_and, and_true, and_assoc, bne_eq_false_iff_eq, bne_iff_ne, beq_iff_eq, beq_eq_false_iff_ne, ne_eq, decide_eq_false_iff_not]
      exact ⟨by omega, by omega, hloop _ rfl, by omega, by omega, by omega, by omega⟩
theorem step_N (t : Tr) (c : Cq) (now : Nat) (h : c.ok) (hn : now < 2 ^ 64) (hq : c.q = []) (ht : t.ok) (h6 : t.ph ≤ 6) : SC Try.prog 13 [pT, pC1, n64 now] 2 (sTN t c) (outT (stepTq t c now).1) 2 (sTN (stepTq t c now).1 (stepTq t c now).2) := by
  by_cases h4 : t.ph ≤ 4
  · rw [show stepTq t c now = (endT (stepLq 7 t c now).1 now, (stepLq 7 t c now).2) by simp [stepTq, h4]]
    exact step4_N t c now h hn hq ht h4
  · rw [show stepTq t c now = (t, c) by simp [stepTq, h4]]
    by_cases h5 : t.ph = 5
    · exact step5_N t c now h5
    · exact step6_N t c now (by omega)
theorem sround_Q (t : Tr) (c : Cq) (now : Nat) (h : c.ok) (hn : now < 2 ^ 64) (ht : t.ok) (h4 : t.ph ≤ 4) (hr : (actMq t c now).2.2 = true) :
    Rnd Try.prog 4 ((Try.f13.body.bind fstLoop).getD .skip) [0, 1, 2, 3, 6, 7] [0, 1, 2] (sp 53 [(0, pT), (1, pC1), (2, n64 now)]) 6 (lTQ t c) (sp 53 [(0, pT), (1, pC1), (2, n64 now)]) (lTQ (actMq t c now).1 (actMq t c now).2.1) := by
  have hb := act_Q t c now h hn ht h4
  rw [hr] at hb
  refine ⟨[.call [0, 1, 4, 5] [pT, pC1, n64 now] (sTQ t c) (.s (.bool true)) 6 (eTQ (actMq t c now).1 (actMq t c now).2.1)], _, _, _, _, _, rfl, ?_, rfl, ⟨rfl, rfl, rfl, trivial⟩⟩
  simp only [true_and, and_true, and_assoc]
  exact ⟨by kernel_rfl, hb, rfl, Fits.of rfl rfl ⟨⟨rfl, _, rfl, rfl, fun h => h⟩, ⟨rfl, _, rfl, rfl, fun h => h⟩, ⟨rfl, _, rfl, rfl, fun h => h⟩, trivial⟩⟩
theorem slast_Q (t : Tr) (c : Cq) (now : Nat) (h : c.ok) (hn : now < 2 ^ 64) (ht : t.ok) (h4 : t.ph ≤ 4) (hr : (actMq t c now).2.2 = false) :
    Lst Try.prog 4 ((Try.f13.body.bind fstLoop).getD .skip) [0, 1, 2, 3, 6, 7] [0, 1, 2] (sp 53 [(0, pT), (1, pC1), (2, n64 now)]) 6 (lTQ t c) (.exit 0) (sp 53 [(0, pT), (1, pC1), (2, n64 now)]) (lTQ (actMq t c now).1 (actMq t c now).2.1) := by
  have hb := act_Q t c now h hn ht h4
  rw [hr] at hb
  refine ⟨[.call [0, 1, 4, 5] [pT, pC1, n64 now] (sTQ t c) (.s (.bool false)) 6 (eTQ (actMq t c now).1 (actMq t c now).2.1)], _, _, _, _, _, rfl, ?_, rfl, ⟨rfl, rfl, rfl, trivial⟩⟩
  simp only [true_and, and_true, and_assoc]
  exact ⟨by kernel_rfl, hb, rfl, Fits.of rfl rfl ⟨⟨rfl, _, rfl, rfl, fun h => h⟩, ⟨rfl, _, rfl, rfl, fun h => h⟩, ⟨rfl, _, rfl, rfl, fun h => h⟩, trivial⟩⟩
theorem sloop_Q (t : Tr) (c : Cq) (now : Nat) (h : c.ok) (hn : now < 2 ^ 64) (ht : t.ok) (h4 : t.ph ≤ 4) {env : List V} (he : wkE [0, 1, 2] 0 env = sp 53 [(0, pT), (1, pC1), (2, n64 now)]) :
    Ex Try.prog 4 (.loop ((Try.f13.body.bind fstLoop).getD .skip)) env 4 (sTQ t c) (One (.exit 0) (sp 53 [(0, pT), (1, pC1), (2, n64 now)]) 6 (lTQ (stepLq 7 t c now).1 (stepLq 7 t c now).2)) := by
  refine Ex.whiles hm (σ := Tr × Cq) (fun _ => sp 53 [(0, pT), (1, pC1), (2, n64 now)]) (fun s => (lTQ s.1 s.2)) (fun s => s.1.ok ∧ s.2.ok ∧ s.1.ph ≤ 4 ∧ stepLq 7 s.1 s.2 now = stepLq 7 t c now) (fun s => muq s.1 s.2 now) (t, c) [0, 1, 2] [0, 1, 2, 3, 2, 3] [0, 1, 2, 3, 6, 7] rfl rfl he ⟨rfl, rfl, rfl, trivial⟩ rfl (fun s => rfl) ⟨ht, h, h4, rfl⟩ [0, 1, 2] [0, 1, 2, 3, 6, 7] rfl (by simp) rfl ?_
  rintro ⟨t', c'⟩ ⟨i1, i2, i3, i4⟩
  dsimp only at *
  cases hr : (actMq t' c' now).2.2 with
  | true =>
    obtain ⟨o1, o2⟩ := actMq_ok (now := now) i2 hn i1
    obtain ⟨m1, m2⟩ := actMq_mu i3 hr
    refine .inl ⟨(_, _), ⟨o1, o2, m1, ?_⟩, m2, sround_Q t' c' now i2 hn i1 i3 hr⟩
    rw [← i4]
    rw [← stepLq_more (muq t' c' now) t' c' i3 (Nat.le_refl _)]
    obtain ⟨k, hk⟩ : ∃ k, muq t' c' now = k + 1 := ⟨muq t' c' now - 1, by omega⟩
    rw [hk]
    show _ = (match (actMq t' c' now).2.2 with | true => stepLq (k + 1) (actMq t' c' now).1 (actMq t' c' now).2.1 now | false => _)
    rw [hr]
    exact (stepLq_more k _ _ m1 (by show muq (actMq t' c' now).1 (actMq t' c' now).2.1 now ≤ k; omega)).symm
  | false =>
    refine .inr ?_
    rw [← i4]
    have e : stepLq 7 t' c' now = ((actMq t' c' now).1, (actMq t' c' now).2.1) := by
      show (match (actMq t' c' now).2.2 with | true => _ | false => _) = _
      rw [hr]
    rw [e]
    exact slast_Q t' c' now i2 hn i1 i3 hr
theorem step5_Q (t : Tr) (c : Cq) (now : Nat) (h5 : t.ph = 5) : SC Try.prog 13 [pT, pC1, n64 now] 4 (sTQ t c) (outT t) 6 (eTQ t c) := by
  rw [show outT t = .tup [.s (.int .u8 ((t.res : Nat) : Int)), .s (.bool true), .s (.int .i64 0)] by simp [outT, h5]]
  refine SC.run hm Try.func13 rfl [.dec false, .dec true] [2, 3] rfl rfl ?_ (.inl rfl) (EndOK.move rfl ⟨rfl, rfl, rfl, trivial⟩ rfl rfl rfl rfl rfl)
  simp only [true_and, and_true, and_assoc, bne_eq_false_iff_eq, beq_iff_eq]
  omega
theorem step6_Q (t : Tr) (c : Cq) (now : Nat) (h6 : t.ph = 6) : SC Try.prog 13 [pT, pC1, n64 now] 4 (sTQ t c) (outT t) 6 (eTQ t c) := by
  rw [show outT t = .tup [.s (.int .u8 0), .s (.bool true), .s (.int .i64 14)] by simp [outT, h6]]
  refine SC.run hm Try.func13 rfl [.dec true, .dec false, .dec false, .dec true] [2, 3] rfl rfl ?_ (.inl rfl) (EndOK.move rfl ⟨rfl, rfl, rfl, trivial⟩ rfl rfl rfl rfl rfl)
  simp only [true_and, and_true, and_assoc, bne_eq_false_iff_eq, bne_iff_ne, beq_iff_eq, beq_eq_false_iff_ne, ne_eq]
  omega
theorem step4_Q (t : Tr) (c : Cq) (now : Nat) (h : c.ok) (hn : now < 2 ^ 64) (ht : t.ok) (h4 : t.ph ≤ 4) : SC Try.prog 13 [pT, pC1, n64 now] 4 (sTQ t c) (outT (endT (stepLq 7 t c now).1 now)) 6 (eTQ (endT (stepLq 7 t c now).1 now) (stepLq 7 t c now).2) := by
  obtain ⟨hph, _⟩ := stepLq_ph (now := now) 7 t c h4
  have hloop := fun env he => sloop_Q t c now h hn ht h4 (env := env) he
  generalize stepLq 7 t c now = st at *
  obtain ⟨t1, c1⟩ := st
  dsimp only at hph hloop ⊢
  by_cases h5 : t1.ph = 5
  · rw [show endT t1 now = t1 by simp [endT, h5], show outT t1 = .tup [.s (.int .u8 ((t1.res : Nat) : Int)), .s (.bool true), .s (.int .i64 0)] by simp [outT, h5]]
    refine SC.run hm Try.func13 rfl [.dec true, .dec true, .loop (.exit 0) (sp 53 [(0, pT), (1, pC1), (2, n64 now)]) 6 (lTQ t1 c1), .dec false, .dec true] [4, 5] rfl rfl ?_ (.inl rfl) (EndOK.move rfl ⟨rfl, rfl, rfl, trivial⟩ rfl rfl rfl rfl rfl)
    simp only [true_and, and_true, and_assoc, bne_eq_false_iff_eq, bne_iff_ne, beq_iff_eq, beq_eq_false_iff_ne, ne_eq]
    exact ⟨by omega, by omega, hloop _ rfl, by omega, by omega⟩
  · by_cases hd : t1.dl ≤ now
    · rw [show endT t1 now = { t1 with ph := 6 } by simp [endT, h5, hd], show outT { t1 with ph := 6 } = .tup [.s (.int .u8 0), .s (.bool true), .s (.int .i64 14)] by simp [outT]]
      refine SC.run hm Try.func13 rfl [.dec true, .dec true, .loop (.exit 0) (sp 53 [(0, pT), (1, pC1), (2, n64 now)]) 6 (lTQ t1 c1), .dec true, .dec true, .dec false, .dec true] [4, 5] rfl rfl ?_ (.inl rfl) (EndOK.move rfl ⟨rfl, rfl, rfl, trivial⟩ rfl rfl rfl rfl rfl)
      simp only [true_and, and_true, and_assoc, bne_eq_false_iff_eq, bne_iff_ne, beq_iff_eq, beq_eq_false_iff_ne, ne_eq, decide_eq_true_eq]
      exact ⟨by omega, by omega, hloop _ rfl, by omega, by omega, by omega⟩
    · rw [show endT t1 now = t1 by simp [endT, hd], show outT t1 = .tup [.s (.int .u8 0), .s (.bool false), .s (.int .i64 0)] by simp [outT, h5]; omega]
      refine SC.run hm Try.func13 rfl [.dec true, .dec true, .loop (.exit 0) (sp 53 [(0, pT), (1, pC1), (2, n64 now)]) 6 (lTQ t1 c1), .dec true, .dec false, .dec false, .dec false] [4, 5] rfl rfl ?_ (.inl rfl) (EndOK.move rfl ⟨rfl, rfl, rfl, trivial⟩ rfl rfl rfl rfl rfl)
      simp only [true_and, and_true, and_assoc, bne_eq_false_iff_eq, bne_iff_ne, beq_iff_eq, beq_eq_false_iff_ne, ne_eq, decide_eq_false_iff_not]
      exact ⟨by omega, by omega, hloop _ rfl, by omega, by omega, by omega, by omega⟩
theorem step_Q (t : Tr) (c : Cq) (now : Nat) (h : c.ok) (hn : now < 2 ^ 64) (ht : t.ok) (h6 : t.ph ≤ 6) : SC Try.prog 13 [pT, pC1, n64 now] 4 (sTQ t c) (outT (stepTq t c now).1) 6 (eTQ (stepTq t c now).1 (stepTq t c now).2) := by
  by_cases h4 : t.ph ≤ 4
  · rw [show stepTq t c now = (endT (stepLq 7 t c now).1 now, (stepLq 7 t c now).2) by simp [stepTq, h4]]
    exact step4_Q t c now h hn ht h4
  · rw [show stepTq t c now = (t, c) by simp [stepTq, h4]]
    by_cases h5 : t.ph = 5
    · exact step5_Q t c now h5
    · exact step6_Q t c now (by omega)

end Go.Proofs.Ytimebhllnemnbaa
