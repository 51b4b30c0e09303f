/-
  The reference transaction: Step.
-/
import Derived.Test.YtimebhllnemnbaaRa
set_option linter.unusedSimpArgs false
set_option linter.unusedVariables false
namespace Go.Proofs.Ytimebhllnemnbaa
open Go Ab
set_option maxRecDepth 100000

def stepR : Nat → Tr → Cq → Nat → Nat → Tr × Cq × Nat
  | 0, t, c, o, _ => (t, c, o)
  | k + 1, t, c, o, now => match (actMq t c now).2.2 with | true => stepR k (actMq t c now).1 (actMq t c now).2.1 (actO t c o now) now | false => ((actMq t c now).1, (actMq t c now).2.1, actO t c o now)
theorem stepR_q {now : Nat} : ∀ (k : Nat) (t : Tr) (c : Cq) (o : Nat), (stepR k t c o now).1 = (stepLq k t c now).1 ∧ (stepR k t c o now).2.1 = (stepLq k t c now).2
  | 0, _, _, _ => ⟨rfl, rfl⟩
  | k + 1, t, c, o => by
    simp only [stepR, stepLq]
    cases (actMq t c now).2.2 with
    | true => exact stepR_q k _ _ _
    | false => exact ⟨rfl, rfl⟩
theorem stepR_more {now : Nat} : ∀ (k : Nat) (t : Tr) (c : Cq) (o : Nat), t.ph ≤ 4 → muq t c now ≤ k → stepR (k + 1) t c o now = stepR 7 t c o now := by
  have key : ∀ (k : Nat) (t : Tr) (c : Cq) (o : Nat), t.ph ≤ 4 → muq t c now ≤ k → ∀ j, stepR (k + 1 + j) t c o now = stepR (k + 1) t c o now := by
    intro k
    induction k with
    | zero =>
      intro t c o h4 hmu j
      rw [Nat.zero_add, Nat.add_comm]
      simp only [stepR]
      cases hr : (actMq t c now).2.2 with
      | false => rfl
      | true => have := (actMq_mu h4 hr).2; omega
    | succ k ih =>
      intro t c o h4 hmu j
      rw [show k + 1 + 1 + j = (k + 1 + j) + 1 by omega]
      simp only [stepR]
      cases hr : (actMq t c now).2.2 with
      | false => rfl
      | true =>
        obtain ⟨q1, q2⟩ := actMq_mu h4 hr
        exact ih _ _ _ q1 (by omega) j
  intro k t c o h4 hmu
  have h6 := muq_le t c now
  by_cases hk : k ≤ 6
  · have := key k t c o h4 hmu (6 - k)
    rw [show k + 1 + (6 - k) = 7 by omega] at this
    exact this.symm
  · have := key 6 t c o h4 h6 (k - 6)
    rw [show 6 + 1 + (k - 6) = k + 1 by omega] at this
    exact this
def phU (t : Tr) (pe : Nat) : Nat := if t.ph = 6 then pe else t.ph
def erU (t : Tr) : Nat := if t.ph = 6 then 14 else 0
def stepO (t : Tr) (c : Cq) (o now : Nat) : Nat := if t.ph ≤ 4 then (stepR 7 t c o now).2.2 else o
def stepE (t : Tr) (c : Cq) (pe now : Nat) : Nat := if t.ph ≤ 4 then (stepLq 7 t c now).1.ph else pe

theorem rsround_N (t : Tr) (st tm : Nat) (c : Cq) (o now : Nat) (h : c.ok) (hn : now < 2 ^ 64) (hq : c.q = []) (h4 : t.ph ≤ 4) (hr : (actMq t c now).2.2 = true) :
    Rnd Try.prog 2 ((Try.f36.body.bind fstLoop).getD .skip) [0, 1] [0, 1, 2] (sp 56 [(0, pT), (1, pC1), (2, n64 now)]) 2 (sUN t st tm t.ph 0 c o) (sp 56 [(0, pT), (1, pC1), (2, n64 now)]) (sUN (actMq t c now).1 st tm (actMq t c now).1.ph 0 (actMq t c now).2.1 (actO t c o now)) := by
  have hb := ract_N t st tm c o now h hn hq h4
  rw [hr] at hb
  refine ⟨[.dec true, .call [0, 1] [pT, pC1, n64 now] (sUN t st tm t.ph 0 c o) (.s (.bool true)) 2 (sUN (actMq t c now).1 st tm (actMq t c now).1.ph 0 (actMq t c now).2.1 (actO t c o now))], _, _, _, _, _, rfl, ?_, rfl, ⟨rfl, rfl, trivial⟩⟩
  simp only [true_and, and_true, and_assoc, bne_eq_false_iff_eq, bne_iff_ne, beq_iff_eq, beq_eq_false_iff_ne, ne_eq, decide_eq_true_eq, decide_eq_false_iff_not]
  exact ⟨by omega, by kernel_rfl, hb, rfl, Fits.of rfl rfl ⟨⟨rfl, _, rfl, rfl, fun h => h⟩, ⟨rfl, _, rfl, rfl, fun h => h⟩, trivial⟩⟩
theorem rslast_N (t : Tr) (st tm : Nat) (c : Cq) (o now : Nat) (h : c.ok) (hn : now < 2 ^ 64) (hq : c.q = []) (h4 : t.ph ≤ 4) (hr : (actMq t c now).2.2 = false) :
    Lst Try.prog 2 ((Try.f36.body.bind fstLoop).getD .skip) [0, 1] [0, 1, 2] (sp 56 [(0, pT), (1, pC1), (2, n64 now)]) 2 (sUN t st tm t.ph 0 c o) (.exit 0) (sp 56 [(0, pT), (1, pC1), (2, n64 now)]) (sUN (actMq t c now).1 st tm (actMq t c now).1.ph 0 (actMq t c now).2.1 (actO t c o now)) := by
  have hb := ract_N t st tm c o now h hn hq h4
  rw [hr] at hb
  refine ⟨[.dec true, .call [0, 1] [pT, pC1, n64 now] (sUN t st tm t.ph 0 c o) (.s (.bool false)) 2 (sUN (actMq t c now).1 st tm (actMq t c now).1.ph 0 (actMq t c now).2.1 (actO t c o now))], _, _, _, _, _, rfl, ?_, rfl, ⟨rfl, rfl, trivial⟩⟩
  simp only [true_and, and_true, and_assoc, bne_eq_false_iff_eq, bne_iff_ne, beq_iff_eq, beq_eq_false_iff_ne, ne_eq, decide_eq_true_eq, decide_eq_false_iff_not]
  exact ⟨by omega, by kernel_rfl, hb, rfl, Fits.of rfl rfl ⟨⟨rfl, _, rfl, rfl, fun h => h⟩, ⟨rfl, _, rfl, rfl, fun h => h⟩, trivial⟩⟩
theorem rsloop_N (t : Tr) (st tm : Nat) (c : Cq) (o now : Nat) (h : c.ok) (hn : now < 2 ^ 64) (hq : c.q = []) (ht : t.ok) (h4 : t.ph ≤ 4) {env : List V} (he : wkE [0, 1, 2] 0 env = (sp 56 [(0, pT), (1, pC1), (2, n64 now)])) :
    Ex Try.prog 2 (.loop ((Try.f36.body.bind fstLoop).getD .skip)) env 2 (sUN t st tm t.ph 0 c o) (One (.exit 0) (sp 56 [(0, pT), (1, pC1), (2, n64 now)]) 2 (sUN (stepR 7 t c o now).1 st tm (stepR 7 t c o now).1.ph 0 (stepR 7 t c o now).2.1 (stepR 7 t c o now).2.2)) := by
  refine Ex.whiles hm (σ := Tr × Cq × Nat) (fun _ => (sp 56 [(0, pT), (1, pC1), (2, n64 now)])) (fun s => (sUN s.1 st tm s.1.ph 0 s.2.1 s.2.2)) (fun s => s.1.ok ∧ s.2.1.ok ∧ s.1.ph ≤ 4 ∧ stepR 7 s.1 s.2.1 s.2.2 now = stepR 7 t c o now ∧ s.2.1.q = []) (fun s => muq s.1 s.2.1 now) (t, c, o) [0, 1, 2] [0, 1] [0, 1] rfl rfl he ⟨rfl, rfl, trivial⟩ rfl (fun s => rfl) ⟨ht, h, h4, rfl, hq⟩ [0, 1, 2] [0, 1] rfl (by simp) rfl ?_
  rintro ⟨t', c', o'⟩ ⟨i1, i2, i3, i4, i5⟩
  dsimp only at *
  cases hr : (actMq t' c' now).2.2 with
  | true =>
    obtain ⟨o1, o2⟩ := actMq_ok (now := now) i2 hn i1
    obtain ⟨m1, m2⟩ := actMq_mu i3 hr
    refine .inl ⟨(_, _, _), ⟨o1, o2, m1, ?_, actMq_q0 _ _ _ i5⟩, m2, rsround_N t' st tm c' o' now i2 hn i5 i3 hr⟩
    rw [← i4]
    rw [← stepR_more (muq t' c' now) t' c' o' i3 (Nat.le_refl _)]
    obtain ⟨k, hk⟩ : ∃ k, muq t' c' now = k + 1 := ⟨muq t' c' now - 1, by omega⟩
    rw [hk]
    show _ = (match (actMq t' c' now).2.2 with | true => stepR (k + 1) (actMq t' c' now).1 (actMq t' c' now).2.1 (actO t' c' o' now) now | false => _)
    rw [hr]
    exact (stepR_more k _ _ _ m1 (by show muq (actMq t' c' now).1 (actMq t' c' now).2.1 now ≤ k; omega)).symm
  | false =>
    refine .inr ?_
    rw [← i4]
    have e : stepR 7 t' c' o' now = ((actMq t' c' now).1, (actMq t' c' now).2.1, actO t' c' o' now) := by
      show (match (actMq t' c' now).2.2 with | true => _ | false => _) = _
      rw [hr]
    rw [e]
    exact rslast_N t' st tm c' o' now i2 hn i5 i3 hr
theorem rstep6_N (t : Tr) (st tm pe : Nat) (c : Cq) (o now : Nat) : SC Try.prog 36 [pT, pC1, n64 now] 2 (sUN t st tm pe 14 c o) (.tup [.s (.int .u8 0), .s (.bool true), .s (.int .i64 14)]) 2 (sUN t st tm pe 14 c o) := by
  refine SC.run hm Try.func36 rfl [.dec true] [] rfl rfl ?_ (.inl rfl) (EndOK.by rfl ⟨rfl, rfl, trivial⟩ rfl rfl rfl rfl)
  simp only [true_and, and_true, and_assoc, bne_eq_false_iff_eq, bne_iff_ne, beq_iff_eq, beq_eq_false_iff_ne, ne_eq, decide_eq_true_eq, decide_eq_false_iff_not]
  exact ⟨by decide, by kernel_rfl⟩
theorem rstep5_N (t : Tr) (st tm : Nat) (c : Cq) (o now : Nat) : SC Try.prog 36 [pT, pC1, n64 now] 2 (sUN t st tm 5 0 c o) (.tup [.s (.int .u8 ((t.res : Nat) : Int)), .s (.bool true), .s (.int .i64 0)]) 2 (sUN t st tm 5 0 c o) := by
  refine SC.run hm Try.func36 rfl [.dec false, .loop (.exit 0) (sp 56 [(0, pT), (1, pC1), (2, n64 now)]) 2 (sUN t st tm 5 0 c o), .dec true] [] rfl rfl ?_ (.inl rfl) (EndOK.by rfl ⟨rfl, rfl, trivial⟩ rfl rfl rfl rfl)
  simp only [true_and, and_true, and_assoc, bne_eq_false_iff_eq, bne_iff_ne, beq_iff_eq, beq_eq_false_iff_ne, ne_eq, decide_eq_true_eq, decide_eq_false_iff_not]
  refine ⟨by decide, ?_, by decide⟩
  refine Ex.movesT hm [0, 1, 2] 0 (fun _ => (sp 56 [(0, pT), (1, pC1), (2, n64 now)])) (fun _ => (sUN t st tm 5 0 c o)) [0, 1] (fun _ => [0, 1]) rfl (fun _ => rfl) rfl ⟨rfl, rfl, trivial⟩ rfl (fun _ => rfl) (fun j hj => absurd hj (Nat.not_lt_zero _)) [0, 1, 2] [0, 1] rfl (fun e => by cases e) rfl ?_
  refine ⟨[.dec false], _, _, _, _, _, rfl, ?_, rfl, ⟨rfl, rfl, trivial⟩⟩
  simp only [true_and, and_true, and_assoc, bne_eq_false_iff_eq, bne_iff_ne, beq_iff_eq, beq_eq_false_iff_ne, ne_eq, decide_eq_true_eq, decide_eq_false_iff_not]
  rfl
theorem rstep4_N (t : Tr) (st tm : Nat) (c : Cq) (o now : Nat) (h : c.ok) (hn : now < 2 ^ 64) (hq : c.q = []) (ht : t.ok) (h4 : t.ph ≤ 4) (hst : st < 2 ^ 64) (htm : tm < 2 ^ 64) (hdl : t.dl = sat st tm) :
    SC Try.prog 36 [pT, pC1, n64 now] 2 (sUN t st tm t.ph 0 c o) (outT (endT (stepLq 7 t c now).1 now)) 2 (sUN (endT (stepLq 7 t c now).1 now) st tm (stepLq 7 t c now).1.ph (erU (endT (stepLq 7 t c now).1 now)) (stepLq 7 t c now).2 (stepR 7 t c o now).2.2) := by
  obtain ⟨hph, hdl1⟩ := stepLq_ph (now := now) 7 t c h4
  have hloop := fun env he => rsloop_N t st tm c o now h hn hq ht h4 (env := env) he
  obtain ⟨r1, r2⟩ := stepR_q (now := now) 7 t c o
  rw [hdl] at hdl1
  have gs := sum_s st tm hst htm
  rw [r1, r2] at hloop
  generalize (stepR 7 t c o now).2.2 = o1 at *
  clear r1 r2
  generalize stepLq 7 t c now = sr at *
  obtain ⟨t1, c1⟩ := sr
  dsimp only at hph hloop hdl1 ⊢
  by_cases h5 : t1.ph = 5
  · rw [show endT t1 now = t1 by simp [endT, h5], show erU t1 = 0 by simp [erU, h5], show outT t1 = .tup [.s (.int .u8 ((t1.res : Nat) : Int)), .s (.bool true), .s (.int .i64 0)] by simp [outT, h5]]
    refine SC.run hm Try.func36 rfl [.dec false, .loop (.exit 0) (sp 56 [(0, pT), (1, pC1), (2, n64 now)]) 2 (sUN t1 st tm t1.ph 0 c1 o1), .dec true] [] rfl rfl ?_ (.inl rfl) (EndOK.by rfl ⟨rfl, rfl, trivial⟩ rfl rfl rfl rfl)
    simp only [true_and, and_true, and_assoc, bne_eq_false_iff_eq, bne_iff_ne, beq_iff_eq, beq_eq_false_iff_ne, ne_eq, decide_eq_true_eq, decide_eq_false_iff_not]
    exact ⟨by decide, hloop _ rfl, by omega⟩
  · by_cases hd : t1.dl ≤ now
    · rw [show endT t1 now = { t1 with ph := 6 } by simp [endT, h5, hd], show erU { t1 with ph := 6 } = 14 by simp [erU], show outT { t1 with ph := 6 } = .tup [.s (.int .u8 0), .s (.bool true), .s (.int .i64 14)] by simp [outT]]
      refine SC.run hm Try.func36 rfl [.dec false, .loop (.exit 0) (sp 56 [(0, pT), (1, pC1), (2, n64 now)]) 2 (sUN t1 st tm t1.ph 0 c1 o1), .dec false, .call [] [n64 st, n64 tm] [] (n64 (sat st tm)) 0 [], .dec true] [] rfl rfl ?_ (.inl rfl) (EndOK.by rfl ⟨rfl, rfl, trivial⟩ rfl rfl rfl rfl)
      simp only [true_and, and_true, and_assoc, bne_eq_false_iff_eq, bne_iff_ne, beq_iff_eq, beq_eq_false_iff_ne, ne_eq, decide_eq_true_eq, decide_eq_false_iff_not]
      repeat' apply And.intro
      all_goals first
        | exact True.intro
        | exact hloop _ rfl
        | exact call0 gs rfl
        | (with_reducible show _ = true; kernel_rfl)
        | omega
        | decide
    · rw [show endT t1 now = t1 by simp [endT, hd], show erU t1 = 0 by simp only [erU]; rw [if_neg (by omega)], show outT t1 = .tup [.s (.int .u8 0), .s (.bool false), .s (.int .i64 0)] by simp [outT, h5]; omega]
      refine SC.run hm Try.func36 rfl [.dec false, .loop (.exit 0) (sp 56 [(0, pT), (1, pC1), (2, n64 now)]) 2 (sUN t1 st tm t1.ph 0 c1 o1), .dec false, .call [] [n64 st, n64 tm] [] (n64 (sat st tm)) 0 [], .dec false] [] rfl rfl ?_ (.inl rfl) (EndOK.by rfl ⟨rfl, rfl, trivial⟩ rfl rfl rfl rfl)
      simp only [true_and, and_true, and_assoc, bne_eq_false_iff_eq, bne_iff_ne, beq_iff_eq, beq_eq_false_iff_ne, ne_eq, decide_eq_true_eq, decide_eq_false_iff_not]
      repeat' apply And.intro
      all_goals first
        | exact True.intro
        | exact hloop _ rfl
        | exact call0 gs rfl
        | (with_reducible show _ = true; kernel_rfl)
        | omega
        | decide
theorem rstep_N (t : Tr) (pe st tm : Nat) (c : Cq) (o now : Nat) (h : c.ok) (hn : now < 2 ^ 64) (hq : c.q = []) (ht : t.ok) (h6 : t.ph ≤ 6) (hst : st < 2 ^ 64) (htm : tm < 2 ^ 64) (hdl : t.dl = sat st tm) :
    SC Try.prog 36 [pT, pC1, n64 now] 2 (sUN t st tm (phU t pe) (erU t) c o) (outT (stepTq t c now).1) 2 (sUN (stepTq t c now).1 st tm (phU (stepTq t c now).1 (stepE t c pe now)) (erU (stepTq t c now).1) (stepTq t c now).2 (stepO t c o now)) := by
  by_cases h4 : t.ph ≤ 4
  · rw [show stepTq t c now = (endT (stepLq 7 t c now).1 now, (stepLq 7 t c now).2) by simp [stepTq, h4], show stepO t c o now = (stepR 7 t c o now).2.2 by simp [stepO, h4], show stepE t c pe now = (stepLq 7 t c now).1.ph by simp [stepE, h4], show phU t pe = t.ph by simp only [phU]; rw [if_neg (by omega)], show erU t = 0 by simp only [erU]; rw [if_neg (by omega)]]
    have hph : phU (endT (stepLq 7 t c now).1 now) (stepLq 7 t c now).1.ph = (stepLq 7 t c now).1.ph := by
      obtain ⟨hph, _⟩ := stepLq_ph (now := now) 7 t c h4
      unfold phU endT
      split
      · rfl
      · split <;> rfl
    dsimp only
    rw [hph]
    exact rstep4_N t st tm c o now h hn hq ht h4 hst htm hdl
  · rw [show stepTq t c now = (t, c) by simp [stepTq, h4], show stepO t c o now = o by simp [stepO, h4], show stepE t c pe now = pe by simp [stepE, h4]]
    by_cases h5 : t.ph = 5
    · rw [show phU t pe = 5 by simp [phU, h5], show erU t = 0 by simp [erU, h5], show outT t = .tup [.s (.int .u8 ((t.res : Nat) : Int)), .s (.bool true), .s (.int .i64 0)] by simp [outT, h5]]
      exact rstep5_N t st tm c o now
    · have h6' : t.ph = 6 := by omega
      rw [show phU t pe = pe by simp [phU, h6'], show erU t = 14 by simp [erU, h6'], show outT t = .tup [.s (.int .u8 0), .s (.bool true), .s (.int .i64 14)] by simp [outT, h6']]
      exact rstep6_N t st tm pe c o now

theorem rsround_Q (t : Tr) (st tm : Nat) (c : Cq) (o now : Nat) (h : c.ok) (hn : now < 2 ^ 64) (h4 : t.ph ≤ 4) (hr : (actMq t c now).2.2 = true) :
    Rnd Try.prog 4 ((Try.f36.body.bind fstLoop).getD .skip) [0, 1, 2, 3, 6, 7] [0, 1, 2] (sp 56 [(0, pT), (1, pC1), (2, n64 now)]) 6 (lUQ t st tm t.ph 0 c o) (sp 56 [(0, pT), (1, pC1), (2, n64 now)]) (lUQ (actMq t c now).1 st tm (actMq t c now).1.ph 0 (actMq t c now).2.1 (actO t c o now)) := by
  have hb := ract_Q t st tm c o now h hn h4
  rw [hr] at hb
  refine ⟨[.dec true, .call [0, 1, 4, 5] [pT, pC1, n64 now] (sUQ t st tm t.ph 0 c o) (.s (.bool true)) 6 (eUQ (actMq t c now).1 st tm (actMq t c now).1.ph 0 (actMq t c now).2.1 (actO t c o now))], _, _, _, _, _, rfl, ?_, rfl, ⟨rfl, rfl, rfl, trivial⟩⟩
  simp only [true_and, and_true, and_assoc, bne_eq_false_iff_eq, bne_iff_ne, beq_iff_eq, beq_eq_false_iff_ne, ne_eq, decide_eq_true_eq, decide_eq_false_iff_not]
  exact ⟨by omega, by kernel_rfl, hb, rfl, Fits.of rfl rfl ⟨⟨rfl, _, rfl, rfl, fun h => h⟩, ⟨rfl, _, rfl, rfl, fun h => h⟩, ⟨rfl, _, rfl, rfl, fun h => h⟩, trivial⟩⟩
theorem rslast_Q (t : Tr) (st tm : Nat) (c : Cq) (o now : Nat) (h : c.ok) (hn : now < 2 ^ 64) (h4 : t.ph ≤ 4) (hr : (actMq t c now).2.2 = false) :
    Lst Try.prog 4 ((Try.f36.body.bind fstLoop).getD .skip) [0, 1, 2, 3, 6, 7] [0, 1, 2] (sp 56 [(0, pT), (1, pC1), (2, n64 now)]) 6 (lUQ t st tm t.ph 0 c o) (.exit 0) (sp 56 [(0, pT), (1, pC1), (2, n64 now)]) (lUQ (actMq t c now).1 st tm (actMq t c now).1.ph 0 (actMq t c now).2.1 (actO t c o now)) := by
  have hb := ract_Q t st tm c o now h hn h4
  rw [hr] at hb
  refine ⟨[.dec true, .call [0, 1, 4, 5] [pT, pC1, n64 now] (sUQ t st tm t.ph 0 c o) (.s (.bool false)) 6 (eUQ (actMq t c now).1 st tm (actMq t c now).1.ph 0 (actMq t c now).2.1 (actO t c o now))], _, _, _, _, _, rfl, ?_, rfl, ⟨rfl, rfl, rfl, trivial⟩⟩
  simp only [true_and, and_true, and_assoc, bne_eq_false_iff_eq, bne_iff_ne, beq_iff_eq, beq_eq_false_iff_ne, ne_eq, decide_eq_true_eq, decide_eq_false_iff_not]
  exact ⟨by omega, by kernel_rfl, hb, rfl, Fits.of rfl rfl ⟨⟨rfl, _, rfl, rfl, fun h => h⟩, ⟨rfl, _, rfl, rfl, fun h => h⟩, ⟨rfl, _, rfl, rfl, fun h => h⟩, trivial⟩⟩
theorem rsloop_Q (t : Tr) (st tm : Nat) (c : Cq) (o now : Nat) (h : c.ok) (hn : now < 2 ^ 64) (ht : t.ok) (h4 : t.ph ≤ 4) {env : List V} (he : wkE [0, 1, 2] 0 env = (sp 56 [(0, pT), (1, pC1), (2, n64 now)])) :
    Ex Try.prog 4 (.loop ((Try.f36.body.bind fstLoop).getD .skip)) env 4 (sUQ t st tm t.ph 0 c o) (One (.exit 0) (sp 56 [(0, pT), (1, pC1), (2, n64 now)]) 6 (lUQ (stepR 7 t c o now).1 st tm (stepR 7 t c o now).1.ph 0 (stepR 7 t c o now).2.1 (stepR 7 t c o now).2.2)) := by
  refine Ex.whiles hm (σ := Tr × Cq × Nat) (fun _ => (sp 56 [(0, pT), (1, pC1), (2, n64 now)])) (fun s => (lUQ s.1 st tm s.1.ph 0 s.2.1 s.2.2)) (fun s => s.1.ok ∧ s.2.1.ok ∧ s.1.ph ≤ 4 ∧ stepR 7 s.1 s.2.1 s.2.2 now = stepR 7 t c o now) (fun s => muq s.1 s.2.1 now) (t, c, o) [0, 1, 2] [0, 1, 2, 3, 2, 3] [0, 1, 2, 3, 6, 7] rfl rfl he ⟨rfl, rfl, rfl, trivial⟩ rfl (fun s => rfl) ⟨ht, h, h4, rfl⟩ [0, 1, 2] [0, 1, 2, 3, 6, 7] rfl (by simp) rfl ?_
  rintro ⟨t', c', o'⟩ ⟨i1, i2, i3, i4⟩
  dsimp only at *
  cases hr : (actMq t' c' now).2.2 with
  | true =>
    obtain ⟨o1, o2⟩ := actMq_ok (now := now) i2 hn i1
    obtain ⟨m1, m2⟩ := actMq_mu i3 hr
    refine .inl ⟨(_, _, _), ⟨o1, o2, m1, ?_⟩, m2, rsround_Q t' st tm c' o' now i2 hn i3 hr⟩
    rw [← i4]
    rw [← stepR_more (muq t' c' now) t' c' o' i3 (Nat.le_refl _)]
    obtain ⟨k, hk⟩ : ∃ k, muq t' c' now = k + 1 := ⟨muq t' c' now - 1, by omega⟩
    rw [hk]
    show _ = (match (actMq t' c' now).2.2 with | true => stepR (k + 1) (actMq t' c' now).1 (actMq t' c' now).2.1 (actO t' c' o' now) now | false => _)
    rw [hr]
    exact (stepR_more k _ _ _ m1 (by show muq (actMq t' c' now).1 (actMq t' c' now).2.1 now ≤ k; omega)).symm
  | false =>
    refine .inr ?_
    rw [← i4]
    have e : stepR 7 t' c' o' now = ((actMq t' c' now).1, (actMq t' c' now).2.1, actO t' c' o' now) := by
      show (match (actMq t' c' now).2.2 with | true => _ | false => _) = _
      rw [hr]
    rw [e]
    exact rslast_Q t' st tm c' o' now i2 hn i3 hr
theorem rstep6_Q (t : Tr) (st tm pe : Nat) (c : Cq) (o now : Nat) : SC Try.prog 36 [pT, pC1, n64 now] 4 (sUQ t st tm pe 14 c o) (.tup [.s (.int .u8 0), .s (.bool true), .s (.int .i64 14)]) 6 (eUQ t st tm pe 14 c o) := by
  refine SC.run hm Try.func36 rfl [.dec true] [2, 3] rfl rfl ?_ (.inl rfl) (EndOK.move rfl ⟨rfl, rfl, rfl, trivial⟩ rfl rfl rfl rfl rfl)
  simp only [true_and, and_true, and_assoc, bne_eq_false_iff_eq, bne_iff_ne, beq_iff_eq, beq_eq_false_iff_ne, ne_eq, decide_eq_true_eq, decide_eq_false_iff_not]
  exact ⟨by decide, by kernel_rfl⟩
theorem rstep5_Q (t : Tr) (st tm : Nat) (c : Cq) (o now : Nat) : SC Try.prog 36 [pT, pC1, n64 now] 4 (sUQ t st tm 5 0 c o) (.tup [.s (.int .u8 ((t.res : Nat) : Int)), .s (.bool true), .s (.int .i64 0)]) 6 (eUQ t st tm 5 0 c o) := by
  refine SC.run hm Try.func36 rfl [.dec false, .loop (.exit 0) (sp 56 [(0, pT), (1, pC1), (2, n64 now)]) 6 (lUQ t st tm 5 0 c o), .dec true] [4, 5] rfl rfl ?_ (.inl rfl) (EndOK.move rfl ⟨rfl, rfl, rfl, trivial⟩ rfl rfl rfl rfl rfl)
  simp only [true_and, and_true, and_assoc, bne_eq_false_iff_eq, bne_iff_ne, beq_iff_eq, beq_eq_false_iff_ne, ne_eq, decide_eq_true_eq, decide_eq_false_iff_not]
  refine ⟨by decide, ?_, by decide⟩
  refine Ex.movesT hm [0, 1, 2] 0 (fun _ => (sp 56 [(0, pT), (1, pC1), (2, n64 now)])) (fun _ => (lUQ t st tm 5 0 c o)) [0, 1, 2, 3, 2, 3] (fun _ => [0, 1, 2, 3, 6, 7]) rfl (fun _ => rfl) rfl ⟨rfl, rfl, rfl, trivial⟩ rfl (fun _ => rfl) (fun j hj => absurd hj (Nat.not_lt_zero _)) [0, 1, 2] [0, 1, 2, 3, 4, 5] rfl (fun e => by cases e) rfl ?_
  refine ⟨[.dec false], _, _, _, _, _, rfl, ?_, rfl, ⟨rfl, rfl, rfl, trivial⟩⟩
  simp only [true_and, and_true, and_assoc, bne_eq_false_iff_eq, bne_iff_ne, beq_iff_eq, beq_eq_false_iff_ne, ne_eq, decide_eq_true_eq, decide_eq_false_iff_not]
  rfl
theorem rstep4_Q (t : Tr) (st tm : Nat) (c : Cq) (o now : Nat) (h : c.ok) (hn : now < 2 ^ 64) (ht : t.ok) (h4 : t.ph ≤ 4) (hst : st < 2 ^ 64) (htm : tm < 2 ^ 64) (hdl : t.dl = sat st tm) :
    SC Try.prog 36 [pT, pC1, n64 now] 4 (sUQ t st tm t.ph 0 c o) (outT (endT (stepLq 7 t c now).1 now)) 6 (eUQ (endT (stepLq 7 t c now).1 now) st tm (stepLq 7 t c now).1.ph (erU (endT (stepLq 7 t c now).1 now)) (stepLq 7 t c now).2 (stepR 7 t c o now).2.2) := by
  obtain ⟨hph, hdl1⟩ := stepLq_ph (now := now) 7 t c h4
  have hloop := fun env he => rsloop_Q t st tm c o now h hn ht h4 (env := env) he
  obtain ⟨r1, r2⟩ := stepR_q (now := now) 7 t c o
  rw [hdl] at hdl1
  have gs := sum_s st tm hst htm
  rw [r1, r2] at hloop
  generalize (stepR 7 t c o now).2.2 = o1 at *
  clear r1 r2
  generalize stepLq 7 t c now = sr at *
  obtain ⟨t1, c1⟩ := sr
  dsimp only at hph hloop hdl1 ⊢
  by_cases h5 : t1.ph = 5
  · rw [show endT t1 now = t1 by simp [endT, h5], show erU t1 = 0 by simp [erU, h5], show outT t1 = .tup [.s (.int .u8 ((t1.res : Nat) : Int)), .s (.bool true), .s (.int .i64 0)] by simp [outT, h5]]
    refine SC.run hm Try.func36 rfl [.dec false, .loop (.exit 0) (sp 56 [(0, pT), (1, pC1), (2, n64 now)]) 6 (lUQ t1 st tm t1.ph 0 c1 o1), .dec true] [4, 5] rfl rfl ?_ (.inl rfl) (EndOK.move rfl ⟨rfl, rfl, rfl, trivial⟩ rfl rfl rfl rfl rfl)
    simp only [true_and, and_true, and_assoc, bne_eq_false_iff_eq, bne_iff_ne, beq_iff_eq, beq_eq_false_iff_ne, ne_eq, decide_eq_true_eq, decide_eq_false_iff_not]
    exact ⟨by decide, hloop _ rfl, by omega⟩
  · by_cases hd : t1.dl ≤ now
    · rw [show endT t1 now = { t1 with ph := 6 } by simp [endT, h5, hd], show erU { t1 with ph := 6 } = 14 by simp [erU], show outT { t1 with ph := 6 } = .tup [.s (.int .u8 0), .s (.bool true), .s (.int .i64 14)] by simp [outT]]
      refine SC.run hm Try.func36 rfl [.dec false, .loop (.exit 0) (sp 56 [(0, pT), (1, pC1), (2, n64 now)]) 6 (lUQ t1 st tm t1.ph 0 c1 o1), .dec false, .call [] [n64 st, n64 tm] [] (n64 (sat st tm)) 0 [], .dec true] [4, 5] rfl rfl ?_ (.inl rfl) (EndOK.move rfl ⟨rfl, rfl, rfl, trivial⟩ rfl rfl rfl rfl rfl)
      simp only [true_and, and_true, and_assoc, bne_eq_false_iff_eq, bne_iff_ne, beq_iff_eq, beq_eq_false_iff_ne, ne_eq, decide_eq_true_eq, decide_eq_false_iff_not]
      repeat' apply And.intro
      all_goals first
        | exact True.intro
        | exact hloop _ rfl
        | exact call0 gs rfl
        | (with_reducible show _ = true; kernel_rfl)
        | omega
        | decide
    · rw [show endT t1 now = t1 by simp [endT, hd], show erU t1 = 0 by simp only [erU]; rw [if_neg (by omega)], show outT t1 = .tup [.s (.int .u8 0), .s (.bool false), .s (.int .i64 0)] by simp [outT, h5]; omega]
      refine SC.run hm Try.func36 rfl [.dec false, .loop (.exit 0) (sp 56 [(0, pT), (1, pC1), (2, n64 now)]) 6 (lUQ t1 st tm t1.ph 0 c1 o1), .dec false, .call [] [n64 st, n64 tm] [] (n64 (sat st tm)) 0 [], .dec false] [4, 5] rfl rfl ?_ (.inl rfl) (EndOK.move rfl ⟨rfl, rfl, rfl, trivial⟩ rfl rfl rfl rfl rfl)
      simp only [true_and, and_true, and_assoc, bne_eq_false_iff_eq, bne_iff_ne, beq_iff_eq, beq_eq_false_iff_ne, ne_eq, decide_eq_true_eq, decide_eq_false_iff_not]
      repeat' apply And.intro
      all_goals first
        | exact True.intro
        | exact hloop _ rfl
        | exact call0 gs rfl
        | (with_reducible show _ = true; kernel_rfl)
        | omega
        | decide
theorem rstep_Q (t : Tr) (pe st tm : Nat) (c : Cq) (o now : Nat) (h : c.ok) (hn : now < 2 ^ 64) (ht : t.ok) (h6 : t.ph ≤ 6) (hst : st < 2 ^ 64) (htm : tm < 2 ^ 64) (hdl : t.dl = sat st tm) :
    SC Try.prog 36 [pT, pC1, n64 now] 4 (sUQ t st tm (phU t pe) (erU t) c o) (outT (stepTq t c now).1) 6 (eUQ (stepTq t c now).1 st tm (phU (stepTq t c now).1 (stepE t c pe now)) (erU (stepTq t c now).1) (stepTq t c now).2 (stepO t c o now)) := by
  by_cases h4 : t.ph ≤ 4
  · rw [show stepTq t c now = (endT (stepLq 7 t c now).1 now, (stepLq 7 t c now).2) by simp [stepTq, h4], show stepO t c o now = (stepR 7 t c o now).2.2 by simp [stepO, h4], show stepE t c pe now = (stepLq 7 t c now).1.ph by simp [stepE, h4], show phU t pe = t.ph by simp only [phU]; rw [if_neg (by omega)], show erU t = 0 by simp only [erU]; rw [if_neg (by omega)]]
    have hph : phU (endT (stepLq 7 t c now).1 now) (stepLq 7 t c now).1.ph = (stepLq 7 t c now).1.ph := by
      obtain ⟨hph, _⟩ := stepLq_ph (now := now) 7 t c h4
      unfold phU endT
      split
      · rfl
      · split <;> rfl
    dsimp only
    rw [hph]
    exact rstep4_Q t st tm c o now h hn ht h4 hst htm hdl
  · rw [show stepTq t c now = (t, c) by simp [stepTq, h4], show stepO t c o now = o by simp [stepO, h4], show stepE t c pe now = pe by simp [stepE, h4]]
    by_cases h5 : t.ph = 5
    · rw [show phU t pe = 5 by simp [phU, h5], show erU t = 0 by simp [erU, h5], show outT t = .tup [.s (.int .u8 ((t.res : Nat) : Int)), .s (.bool true), .s (.int .i64 0)] by simp [outT, h5]]
      exact rstep5_Q t st tm c o now
    · have h6' : t.ph = 6 := by omega
      rw [show phU t pe = pe by simp [phU, h6'], show erU t = 14 by simp [erU, h6'], show outT t = .tup [.s (.int .u8 0), .s (.bool true), .s (.int .i64 14)] by simp [outT, h6']]
      exact rstep6_Q t st tm pe c o now

end Go.Proofs.Ytimebhllnemnbaa
