/-
  The embedded controller: Step.
-/
import Derived.Test.YtimebhllnemnbaaEd
import Derived.Test.YtimebhllnemnbaaAb14
set_option linter.unusedSimpArgs false
set_option linter.unusedVariables false
namespace Go.Proofs.Ytimebhllnemnbaa
open Go Ab
set_option maxRecDepth 100000

def stepL : Nat → Tr → Ct → Nat → Tr × Ct
  | 0, t, c, _ => (t, c)
  | k + 1, t, c, now => match (actM t c now).2.2 with | true => stepL k (actM t c now).1 (actM t c now).2.1 now | false => ((actM t c now).1, (actM t c now).2.1)

/-- how many actions may still follow -/
def mu (t : Tr) (c : Ct) (now : Nat) : Nat :=
  match t.ph with
  | 0 => (match (adv c now).full with | true => 6 | false => 5)
  | 1 => 4
  | 2 => 3
  | _ => 0
theorem actM_ok {t : Tr} {c : Ct} {now : Nat} (h : c.ok) (hn : now < 2 ^ 64) (ht : t.ok) : (actM t c now).1.ok ∧ (actM t c now).2.1.ok := by
  have a := adv_ok h hn
  have a2 := adv_ok a hn
  unfold actM
  split
  · exact ⟨ht, a⟩
  · split
    · split
      · exact ⟨ht, emt_ok a2⟩
      · exact ⟨⟨ht.cmd, ht.adr, ht.val⟩, wrt_ok a hn ht.cmd⟩
    · exact ⟨⟨ht.cmd, ht.adr, ht.val⟩, wrt_ok a hn ht.adr⟩
    · exact ⟨⟨ht.cmd, ht.adr, ht.val⟩, wrt_ok a hn ht.val⟩
    · split
      · exact ⟨⟨ht.cmd, ht.adr, ht.val⟩, emt_ok a2⟩
      · exact ⟨ht, a⟩
    · exact ⟨⟨ht.cmd, ht.adr, ht.val⟩, a⟩
    · exact ⟨ht, a⟩
theorem actM_mu {t : Tr} {c : Ct} {now : Nat} (h4 : t.ph ≤ 4) (hr : (actM t c now).2.2 = true) : (actM t c now).1.ph ≤ 4 ∧ mu (actM t c now).1 (actM t c now).2.1 now < mu t c now := by
  have hnow := (adv_now c now).1
  cases hp : (adv c now).pend with
  | true => rw [show actM t c now = (t, adv c now, false) by simp [actM, hp]] at hr; cases hr
  | false =>
    have hrest : adv (adv c now) now = adv c now := adv_rest hp (by omega)
    have h5 : t.ph = 0 ∨ t.ph = 1 ∨ t.ph = 2 ∨ t.ph = 3 ∨ t.ph = 4 := by omega
    rcases h5 with h0 | h0 | h0 | h0 | h0
    · cases hf : (adv c now).full with
      | true =>
        rw [show actM t c now = (t, emt (adv (adv c now) now), true) by simp [actM, hp, h0, hf], hrest]
        refine ⟨h4, ?_⟩
        have e : adv (emt (adv c now)) now = emt (adv c now) := adv_rest (by show (adv c now).pend = false; exact hp) (by show now ≤ (adv c now).now; omega)
        simp only [mu, h0, e, hf]
        show 5 < 6; decide
      | false =>
        rw [show actM t c now = ({ t with ph := if t.cmd = 132 then 3 else 1 }, wrt (adv c now) now t.cmd true, true) by simp [actM, hp, h0, hf]]
        by_cases hq : t.cmd = 132 <;> simp [mu, h0, hf, hq]
    · rw [show actM t c now = ({ t with ph := if t.cmd = 129 then 2 else 3 }, wrt (adv c now) now t.adr false, true) by simp [actM, hp, h0]]
      by_cases hq : t.cmd = 129 <;> simp [mu, h0, hq]
    · rw [show actM t c now = ({ t with ph := 4 }, wrt (adv c now) now t.val false, true) by simp [actM, hp, h0]]
      simp [mu, h0]
    · cases hf : (adv c now).full with
      | true => rw [show actM t c now = ({ t with ph := 5, res := (adv (adv c now) now).out }, emt (adv (adv c now) now), false) by simp [actM, hp, h0, hf]] at hr; cases hr
      | false => rw [show actM t c now = (t, adv c now, false) by simp [actM, hp, h0, hf]] at hr; cases hr
    · rw [show actM t c now = ({ t with ph := 5 }, adv c now, false) by simp [actM, hp, h0]] at hr; cases hr
theorem mu_le (t : Tr) (c : Ct) (now : Nat) : mu t c now ≤ 6 := by
  unfold mu
  split
  · split <;> omega
  · omega
  · omega
  · omega
/-- enough rounds -/
theorem stepL_more {now : Nat} : ∀ (k : Nat) (t : Tr) (c : Ct), t.ph ≤ 4 → mu t c now ≤ k → stepL (k + 1) t c now = stepL 7 t c now := by
  have key : ∀ (k : Nat) (t : Tr) (c : Ct), t.ph ≤ 4 → mu t c now ≤ k → ∀ j, stepL (k + 1 + j) t c now = stepL (k + 1) t c now := by
    intro k
    induction k with
    | zero =>
      intro t c h4 hmu j
      rw [Nat.zero_add, Nat.add_comm]
      simp only [stepL]
      cases hr : (actM t c now).2.2 with
      | false => rfl
      | true => have := (actM_mu h4 hr).2; omega
    | succ k ih =>
      intro t c h4 hmu j
      rw [show k + 1 + 1 + j = (k + 1 + j) + 1 by omega]
      simp only [stepL]
      cases hr : (actM t c now).2.2 with
      | false => rfl
      | true =>
        obtain ⟨q1, q2⟩ := actM_mu h4 hr
        exact ih _ _ q1 (by omega) j
  intro k t c h4 hmu
  have h6 := mu_le t c now
  by_cases hk : k ≤ 6
  · have := key k t c h4 hmu (6 - k)
    rw [show k + 1 + (6 - k) = 7 by omega] at this
    exact this.symm
  · have := key 6 t c h4 h6 (k - 6)
    rw [show 6 + 1 + (k - 6) = k + 1 by omega] at this
    exact this

/-- a step: the transaction, the controller, the byte, is it done, the error -/
def endT (t : Tr) (now : Nat) : Tr := if t.ph ≠ 5 ∧ t.dl ≤ now then { t with ph := 6 } else t
def stepT (t : Tr) (c : Ct) (now : Nat) : Tr × Ct := if t.ph ≤ 4 then (endT (stepL 7 t c now).1 now, (stepL 7 t c now).2) else (t, c)
def outT (t : Tr) : V := if t.ph = 5 then .tup [.s (.int .u8 ((t.res : Nat) : Int)), .s (.bool true), .s (.int .i64 0)] else if t.ph = 6 then .tup [.s (.int .u8 0), .s (.bool true), .s (.int .i64 14)] else .tup [.s (.int .u8 0), .s (.bool false), .s (.int .i64 0)]

theorem stepL_ph {now : Nat} : ∀ (k : Nat) (t : Tr) (c : Ct), t.ph ≤ 4 → (stepL k t c now).1.ph ≤ 5 ∧ (stepL k t c now).1.dl = t.dl := by
  have one : ∀ (t : Tr) (c : Ct), t.ph ≤ 4 → (actM t c now).1.ph ≤ 5 ∧ (actM t c now).1.dl = t.dl ∧ ((actM t c now).2.2 = true → (actM t c now).1.ph ≤ 4) := by
    intro t c h4
    refine ⟨?_, ?_, fun hr => (actM_mu h4 hr).1⟩
    · unfold actM
      split
      · show t.ph ≤ 5; omega
      · split
        · split
          · show t.ph ≤ 5; omega
          · show (if t.cmd = 132 then 3 else 1) ≤ 5; split <;> omega
        · show (if t.cmd = 129 then 2 else 3) ≤ 5; split <;> omega
        · show 4 ≤ 5; omega
        · split
          · show 5 ≤ 5; omega
          · show t.ph ≤ 5; omega
        · show 5 ≤ 5; omega
        · show t.ph ≤ 5; omega
    · unfold actM
      split
      · rfl
      · split
        · split <;> rfl
        · rfl
        · rfl
        · split <;> rfl
        · rfl
        · rfl
  intro k
  induction k with
  | zero => intro t c h4; exact ⟨by show t.ph ≤ 5; omega, rfl⟩
  | succ k ih =>
    intro t c h4
    obtain ⟨q1, q2, q3⟩ := one t c h4
    simp only [stepL]
    cases hr : (actM t c now).2.2 with
    | false => exact ⟨q1, q2⟩
    | true =>
      obtain ⟨g1, g2⟩ := ih _ (actM t c now).2.1 (q3 hr)
      exact ⟨g1, g2.trans q2⟩

theorem step_loop (t : Tr) (c : Ct) (now : Nat) (h : c.ok) (hn : now < 2 ^ 64) (ht : t.ok) (h4 : t.ph ≤ 4) {env : List V} (he : wkE [0, 1, 2] 0 env = sp 53 [(0, pT), (1, pC1), (2, n64 now)]) :
    ∀ code, (∀ (s : Tr × Ct), s.1.ok → s.2.ok → s.1.ph ≤ 4 → ∀ r : Bool, (actM s.1 s.2 now).2.2 = r → match r with
      | true => Rnd Try.prog 2 code [0, 1] [0, 1, 2] (sp 53 [(0, pT), (1, pC1), (2, n64 now)]) 2 [(0, some (bT s.1)), (1, some (bC s.2))] (sp 53 [(0, pT), (1, pC1), (2, n64 now)]) [(0, some (bT (actM s.1 s.2 now).1)), (1, some (bC (actM s.1 s.2 now).2.1))]
      | false => Lst Try.prog 2 code [0, 1] [0, 1, 2] (sp 53 [(0, pT), (1, pC1), (2, n64 now)]) 2 [(0, some (bT s.1)), (1, some (bC s.2))] (.exit 0) (sp 53 [(0, pT), (1, pC1), (2, n64 now)]) [(0, some (bT (actM s.1 s.2 now).1)), (1, some (bC (actM s.1 s.2 now).2.1))]) →
    Ex Try.prog 2 (.loop code) env 2 [(0, some (bT t)), (1, some (bC c))] (One (.exit 0) (sp 53 [(0, pT), (1, pC1), (2, n64 now)]) 2 [(0, some (bT (stepL 7 t c now).1)), (1, some (bC (stepL 7 t c now).2))]) := by
  intro code hstep
  refine Ex.whiles hm (σ := Tr × Ct) (fun _ => sp 53 [(0, pT), (1, pC1), (2, n64 now)]) (fun s => [(0, some (bT s.1)), (1, some (bC s.2))]) (fun s => s.1.ok ∧ s.2.ok ∧ s.1.ph ≤ 4 ∧ stepL 7 s.1 s.2 now = stepL 7 t c now) (fun s => mu s.1 s.2 now) (t, c) [0, 1, 2] [0, 1] [0, 1] rfl rfl he ⟨rfl, rfl, trivial⟩ rfl (fun s => rfl) ⟨ht, h, h4, rfl⟩ [0, 1, 2] [0, 1] rfl (by simp) rfl ?_
  rintro ⟨t', c'⟩ ⟨i1, i2, i3, i4⟩
  dsimp only at *
  have q := hstep (t', c') i1 i2 i3
  cases hr : (actM t' c' now).2.2 with
  | true =>
    have q := q true hr
    obtain ⟨o1, o2⟩ := actM_ok (now := now) i2 hn i1
    obtain ⟨m1, m2⟩ := actM_mu i3 hr
    refine .inl ⟨(_, _), ⟨o1, o2, m1, ?_⟩, m2, q⟩
    rw [← i4]
    rw [← stepL_more (mu t' c' now) t' c' i3 (Nat.le_refl _)]
    obtain ⟨k, hk⟩ : ∃ k, mu t' c' now = k + 1 := ⟨mu t' c' now - 1, by omega⟩
    rw [hk]
    show _ = (match (actM t' c' now).2.2 with | true => stepL (k + 1) (actM t' c' now).1 (actM t' c' now).2.1 now | false => _)
    rw [hr]
    exact (stepL_more k _ _ m1 (by show mu (actM t' c' now).1 (actM t' c' now).2.1 now ≤ k; omega)).symm
  | false =>
    have q := q false hr
    refine .inr ?_
    rw [← i4]
    have e : stepL 7 t' c' now = ((actM t' c' now).1, (actM t' c' now).2.1) := by
      show (match (actM t' c' now).2.2 with | true => _ | false => _) = _
      rw [hr]
    rw [e]
    exact q

theorem loop_body (now : Nat) (hn : now < 2 ^ 64) (s : Tr × Ct) (i1 : s.1.ok) (i2 : s.2.ok) (i3 : s.1.ph ≤ 4) {r : Bool} (hr : (actM s.1 s.2 now).2.2 = r) :
    SC Try.prog 38 [pT, pC1, n64 now] 2 [(0, some (bT s.1)), (1, some (bC s.2))] (.s (.bool r)) 2 [(0, some (bT (actM s.1 s.2 now).1)), (1, some (bC (actM s.1 s.2 now).2.1))] := by
  have c1 := act_s s.1 s.2 now i2 hn i1 i3
  rw [hr] at c1; exact c1

theorem step_5 (t : Tr) (c : Ct) (now : Nat) (h5 : t.ph = 5) : SC Try.prog 13 [pT, pC1, n64 now] 2 [(0, some (bT t)), (1, some (bC c))] (outT t) 2 [(0, some (bT t)), (1, some (bC c))] := by
  rw [show outT t = .tup [.s (.int .u8 ((t.res : Nat) : Int)), .s (.bool true), .s (.int .i64 0)] by simp [outT, h5]]
  refine SC.run hm Try.func13 rfl [.dec false, .dec true] [] rfl rfl ?_ (.inl rfl) (EndOK.by rfl ⟨rfl, rfl, trivial⟩ rfl rfl rfl rfl)
  simp only [true_and, and_true, and_assoc, bne_eq_false_iff_eq, beq_iff_eq]
  omega
theorem step_6 (t : Tr) (c : Ct) (now : Nat) (h6 : t.ph = 6) : SC Try.prog 13 [pT, pC1, n64 now] 2 [(0, some (bT t)), (1, some (bC c))] (outT t) 2 [(0, some (bT t)), (1, some (bC c))] := by
  rw [show outT t = .tup [.s (.int .u8 0), .s (.bool true), .s (.int .i64 14)] by simp [outT, h6]]
  refine SC.run hm Try.func13 rfl [.dec true, .dec false, .dec false, .dec true] [] rfl rfl ?_ (.inl rfl) (EndOK.by rfl ⟨rfl, rfl, trivial⟩ rfl rfl rfl rfl)
  simp only [true_and, and_true, and_assoc, bne_eq_false_iff_eq, bne_iff_ne, beq_iff_eq, beq_eq_false_iff_ne, ne_eq]
  omega

set_option maxHeartbeats 1000000 in
theorem step_4 (t : Tr) (c : Ct) (now : Nat) (h : c.ok) (hn : now < 2 ^ 64) (ht : t.ok) (h4 : t.ph ≤ 4) : SC Try.prog 13 [pT, pC1, n64 now] 2 [(0, some (bT t)), (1, some (bC c))] (outT (endT (stepL 7 t c now).1 now)) 2 [(0, some (bT (endT (stepL 7 t c now).1 now))), (1, some (bC (stepL 7 t c now).2))] := by
  obtain ⟨hph, _⟩ := stepL_ph (now := now) 7 t c h4
  have hloop := fun env he code hs => step_loop t c now h hn ht h4 (env := env) he code hs
  have hbody := fun (s : Tr × Ct) i1 i2 i3 (r : Bool) hr => loop_body now hn s i1 i2 i3 (r := r) hr
  generalize stepL 7 t c now = st at *
  obtain ⟨t1, c1⟩ := st
  dsimp only at hph ⊢
  by_cases h5 : t1.ph = 5
  · rw [show endT t1 now = t1 by simp [endT, h5], show outT t1 = .tup [.s (.int .u8 ((t1.res : Nat) : Int)), .s (.bool true), .s (.int .i64 0)] by simp [outT, h5]]
    refine SC.run hm Try.func13 rfl [.dec true, .dec true, .loop (.exit 0) (sp 53 [(0, pT), (1, pC1), (2, n64 now)]) 2 [(0, some (bT t1)), (1, some (bC c1))], .dec false, .dec true] [] rfl rfl ?_ (.inl rfl) (EndOK.by rfl ⟨rfl, rfl, trivial⟩ rfl rfl rfl rfl)
    simp only [true_and, and_true, and_assoc, bne_eq_false_iff_eq, bne_iff_ne, beq_iff_eq, beq_eq_false_iff_ne, ne_eq]
    refine ⟨by omega, by omega, ?_, by omega, by omega⟩
    refine hloop _ rfl _ fun s i1 i2 i3 r hr => ?_
    have hb := hbody s i1 i2 i3 r hr
    cases r with
    | true =>
      refine ⟨[.call [0, 1] [pT, pC1, n64 now] [(0, some (bT s.1)), (1, some (bC s.2))] (.s (.bool true)) 2 [(0, some (bT (actM s.1 s.2 now).1)), (1, some (bC (actM s.1 s.2 now).2.1))]], _, _, _, _, _, rfl, ?_, rfl, ⟨rfl, rfl, trivial⟩⟩
      simp only [true_and, and_true, and_assoc]
      exact ⟨by kernel_rfl, hb, rfl, Fits.of rfl rfl ⟨⟨rfl, _, rfl, rfl, fun h => h⟩, ⟨rfl, _, rfl, rfl, fun h => h⟩, trivial⟩⟩
    | false =>
      refine ⟨[.call [0, 1] [pT, pC1, n64 now] [(0, some (bT s.1)), (1, some (bC s.2))] (.s (.bool false)) 2 [(0, some (bT (actM s.1 s.2 now).1)), (1, some (bC (actM s.1 s.2 now).2.1))]], _, _, _, _, _, rfl, ?_, rfl, ⟨rfl, rfl, trivial⟩⟩
      simp only [true_and, and_true, and_assoc]
      exact ⟨by kernel_rfl, hb, rfl, Fits.of rfl rfl ⟨⟨rfl, _, rfl, rfl, fun h => h⟩, ⟨rfl, _, rfl, rfl, fun h => h⟩, trivial⟩⟩
  · by_cases hd : t1.dl ≤ now
    · rw [show endT t1 now = { t1 with ph := 6 } by simp [endT, h5, hd], show outT { t1 with ph := 6 } = .tup [.s (.int .u8 0), .s (.bool true), .s (.int .i64 14)] by simp [outT]]
      refine SC.run hm Try.func13 rfl [.dec true, .dec true, .loop (.exit 0) (sp 53 [(0, pT), (1, pC1), (2, n64 now)]) 2 [(0, some (bT t1)), (1, some (bC c1))], .dec true, .dec true, .dec false, .dec true] [] rfl rfl ?_ (.inl rfl) (EndOK.by rfl ⟨rfl, rfl, trivial⟩ rfl rfl rfl rfl)
      simp only [true_and, and_true, and_assoc, bne_eq_false_iff_eq, bne_iff_ne, beq_iff_eq, beq_eq_false_iff_ne, ne_eq, decide_eq_true_eq]
      refine ⟨by omega, by omega, ?_, by omega, by omega, by omega⟩
      refine hloop _ rfl _ fun s i1 i2 i3 r hr => ?_
      have hb := hbody s i1 i2 i3 r hr
      cases r with
      | true =>
        refine ⟨[.call [0, 1] [pT, pC1, n64 now] [(0, some (bT s.1)), (1, some (bC s.2))] (.s (.bool true)) 2 [(0, some (bT (actM s.1 s.2 now).1)), (1, some (bC (actM s.1 s.2 now).2.1))]], _, _, _, _, _, rfl, ?_, rfl, ⟨rfl, rfl, trivial⟩⟩
        simp only [true_and, and_true, and_assoc]
        exact ⟨by kernel_rfl, hb, rfl, Fits.of rfl rfl ⟨⟨rfl, _, rfl, rfl, fun h => h⟩, ⟨rfl, _, rfl, rfl, fun h => h⟩, trivial⟩⟩
      | false =>
        refine ⟨[.call [0, 1] [pT, pC1, n64 now] [(0, some (bT s.1)), (1, some (bC s.2))] (.s (.bool false)) 2 [(0, some (bT (actM s.1 s.2 now).1)), (1, some (bC (actM s.1 s.2 now).2.1))]], _, _, _, _, _, rfl, ?_, rfl, ⟨rfl, rfl, trivial⟩⟩
        simp only [true_and, and_true, and_assoc]
        exact ⟨by kernel_rfl, hb, rfl, Fits.of rfl rfl ⟨⟨rfl, _, rfl, rfl, fun h => h⟩, ⟨rfl, _, rfl, rfl, fun h => h⟩, trivial⟩⟩
    · rw [show endT t1 now = t1 by simp [endT, hd], show outT t1 = .tup [.s (.int .u8 0), .s (.bool false), .s (.int .i64 0)] by simp [outT, h5]; omega]
      refine SC.run hm Try.func13 rfl [.dec true, .dec true, .loop (.exit 0) (sp 53 [(0, pT), (1, pC1), (2, n64 now)]) 2 [(0, some (bT t1)), (1, some (bC c1))], .dec true, .dec false, .dec false, .dec false] [] rfl rfl ?_ (.inl rfl) (EndOK.by rfl ⟨rfl, rfl, trivial⟩ rfl rfl rfl rfl)
      simp only [true_and, and_true, and_assoc, bne_eq_false_iff_eq, bne_iff_ne, beq_iff_eq, beq_eq_false_iff_ne, ne_eq, decide_eq_false_iff_not]
      refine ⟨by omega, by omega, ?_, by omega, by omega, by omega, by omega⟩
      refine hloop _ rfl _ fun s i1 i2 i3 r hr => ?_
      have hb := hbody s i1 i2 i3 r hr
      cases r with
      | true =>
        refine ⟨[.call [0, 1] [pT, pC1, n64 now] [(0, some (bT s.1)), (1, some (bC s.2))] (.s (.bool true)) 2 [(0, some (bT (actM s.1 s.2 now).1)), (1, some (bC (actM s.1 s.2 now).2.1))]], _, _, _, _, _, rfl, ?_, rfl, ⟨rfl, rfl, trivial⟩⟩
        simp only [true_and, and_true, and_assoc]
        exact ⟨by kernel_rfl, hb, rfl, Fits.of rfl rfl ⟨⟨rfl, _, rfl, rfl, fun h => h⟩, ⟨rfl, _, rfl, rfl, fun h => h⟩, trivial⟩⟩
      | false =>
        refine ⟨[.call [0, 1] [pT, pC1, n64 now] [(0, some (bT s.1)), (1, some (bC s.2))] (.s (.bool false)) 2 [(0, some (bT (actM s.1 s.2 now).1)), (1, some (bC (actM s.1 s.2 now).2.1))]], _, _, _, _, _, rfl, ?_, rfl, ⟨rfl, rfl, trivial⟩⟩
        simp only [true_and, and_true, and_assoc]
        exact ⟨by kernel_rfl, hb, rfl, Fits.of rfl rfl ⟨⟨rfl, _, rfl, rfl, fun h => h⟩, ⟨rfl, _, rfl, rfl, fun h => h⟩, trivial⟩⟩

theorem step_s (t : Tr) (c : Ct) (now : Nat) (h : c.ok) (hn : now < 2 ^ 64) (ht : t.ok) (h6 : t.ph ≤ 6) : SC Try.prog 13 [pT, pC1, n64 now] 2 [(0, some (bT t)), (1, some (bC c))] (outT (stepT t c now).1) 2 [(0, some (bT (stepT t c now).1)), (1, some (bC (stepT t c now).2))] := by
  by_cases h4 : t.ph ≤ 4
  · rw [show stepT t c now = (endT (stepL 7 t c now).1 now, (stepL 7 t c now).2) by simp [stepT, h4]]
    exact step_4 t c now h hn ht h4
  · rw [show stepT t c now = (t, c) by simp [stepT, h4]]
    by_cases h5 : t.ph = 5
    · exact step_5 t c now h5
    · exact step_6 t c now (by omega)

end Go.Proofs.Ytimebhllnemnbaa
