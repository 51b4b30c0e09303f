/-
  EcTimeout: it returns true.
-/
import Derived.Test.YtimebhllnemnbaaEf
set_option linter.unusedSimpArgs false
set_option linter.unusedVariables false
namespace Go.Proofs.Ytimebhllnemnbaa
open Go Ab
set_option maxRecDepth 100000

/-- a block of bytes that came in -/
def w0 : Nat → Nat := fun _ => 0
def wB (gi : Nat → Nat) (m : Nat) : Nat → Nat := fun i => if i < m then gi i % 5 else 0
def bRo (ty : TypeId) (mr : Bool) (C : List S) : Bl := { cells := C, ty, more := mr, ro := true, sym := true, flat := true }

/-- the transaction, the controller and the time ahead of round k; w: the waits -/
def tmo (t0 : Tr) (w : Nat → Nat) : Nat → Tr × Ct × Nat
  | 0 => (t0, ct0 1000, 0)
  | k + 1 => ((stepT (tmo t0 w k).1 (tmo t0 w k).2.1 (tmo t0 w k).2.2).1, (stepT (tmo t0 w k).1 (tmo t0 w k).2.1 (tmo t0 w k).2.2).2, (tmo t0 w k).2.2 + 1 + w k)

structure Tmo (T : Nat) (t : Tr) (c : Ct) (now : Nat) : Prop where
  pend : c.pend = true
  due : c.due = 1000
  nw : c.now < now
  dl : t.dl = T
  ph : (t.ph = 1 ∧ c.now < T) ∨ (t.ph = 6 ∧ T ≤ now)

theorem wait_adv {c : Ct} {now : Nat} (h1 : c.pend = true) (h2 : c.due = 1000) (h3 : c.now < 1000) (h4 : now < 1000) : adv c now = tick c now := by
  have : ¬ (c.due ≤ max c.now now) := by omega
  simp [adv, h1, this]
/-- a step while the controller is busy -/
theorem wait_step {t : Tr} {c : Ct} {now : Nat} (h1 : c.pend = true) (h2 : c.due = 1000) (h3 : c.now < 1000) (h4 : now < 1000) (hp : t.ph ≤ 4) : stepT t c now = (endT t now, tick c now) := by
  have e := wait_adv h1 h2 h3 h4
  have a : actM t c now = (t, tick c now, false) := by
    have : (adv c now).pend = true := by rw [e]; exact h1
    rw [← e]; simp [actM, this]
  have l : stepL 7 t c now = (t, tick c now) := by
    have e7 : stepL 7 t c now = (match (actM t c now).2.2 with | true => stepL 6 (actM t c now).1 (actM t c now).2.1 now | false => ((actM t c now).1, (actM t c now).2.1)) := rfl
    rw [e7, a]
  simp [stepT, hp, l]
theorem first_step {t : Tr} (h0 : t.ph = 0) (hc : t.cmd ≠ 132) : stepT t (ct0 1000) 0 = (endT { t with ph := 1 } 0, { ct0 1000 with pend := true, isC := true, inp := t.cmd, due := 1000 }) := by
  have a1 : adv (ct0 1000) 0 = ct0 1000 := rfl
  have w1 : wrt (ct0 1000) 0 t.cmd true = { ct0 1000 with pend := true, isC := true, inp := t.cmd, due := 1000 } := rfl
  have act1 : actM t (ct0 1000) 0 = ({ t with ph := 1 }, { ct0 1000 with pend := true, isC := true, inp := t.cmd, due := 1000 }, true) := by
    unfold actM
    rw [a1, h0, w1]
    show ({ t with ph := if t.cmd = 132 then 3 else 1 }, _, true) = _
    rw [if_neg hc]
  have act2 : actM { t with ph := 1 } { ct0 1000 with pend := true, isC := true, inp := t.cmd, due := 1000 } 0 = ({ t with ph := 1 }, { ct0 1000 with pend := true, isC := true, inp := t.cmd, due := 1000 }, false) := rfl
  have l : stepL 7 t (ct0 1000) 0 = ({ t with ph := 1 }, { ct0 1000 with pend := true, isC := true, inp := t.cmd, due := 1000 }) := by
    have e7 : stepL 7 t (ct0 1000) 0 = (match (actM t (ct0 1000) 0).2.2 with | true => stepL 6 (actM t (ct0 1000) 0).1 (actM t (ct0 1000) 0).2.1 0 | false => ((actM t (ct0 1000) 0).1, (actM t (ct0 1000) 0).2.1)) := rfl
    rw [e7, act1]
    rfl
  simp [stepT, h0, l]

theorem tmo_now (t0 : Tr) (w : Nat → Nat) (hw : ∀ i, w i < 5) : ∀ k, (tmo t0 w k).2.2 ≤ 5 * k
  | 0 => Nat.le_refl _
  | k + 1 => by
    have := tmo_now t0 w hw k
    have := hw k
    show (tmo t0 w k).2.2 + 1 + w k ≤ _
    omega
theorem tmo_inv {T : Nat} {t0 : Tr} {w : Nat → Nat} (hw : ∀ i, w i < 5) (h0 : t0.ph = 0) (hc : t0.cmd ≠ 132) (hd : t0.dl = T) : ∀ k, k < 100 → Tmo T (tmo t0 w (k + 1)).1 (tmo t0 w (k + 1)).2.1 (tmo t0 w (k + 1)).2.2
  | 0, _ => by
    have e := first_step h0 hc
    refine ⟨?_, ?_, ?_, ?_, ?_⟩
    · show (stepT t0 (ct0 1000) 0).2.pend = true; rw [e]
    · show (stepT t0 (ct0 1000) 0).2.due = 1000; rw [e]
    · show (stepT t0 (ct0 1000) 0).2.now < 0 + 1 + w 0; rw [e]; show 0 < _; omega
    · show (stepT t0 (ct0 1000) 0).1.dl = T; rw [e]; unfold endT; split <;> exact hd
    · show ((stepT t0 (ct0 1000) 0).1.ph = 1 ∧ (stepT t0 (ct0 1000) 0).2.now < T) ∨ ((stepT t0 (ct0 1000) 0).1.ph = 6 ∧ T ≤ 0 + 1 + w 0)
      rw [e]
      show ((endT { t0 with ph := 1 } 0).ph = 1 ∧ 0 < T) ∨ ((endT { t0 with ph := 1 } 0).ph = 6 ∧ T ≤ 0 + 1 + w 0)
      unfold endT
      by_cases hT : t0.dl ≤ 0
      · rw [if_pos ⟨(by decide : (1 : Nat) ≠ 5), hT⟩]; right; exact ⟨rfl, by omega⟩
      · rw [if_neg (by rintro ⟨_, h⟩; exact hT h)]; left; exact ⟨rfl, by omega⟩
  | k + 1, hk => by
    have i := tmo_inv hw h0 hc hd k (by omega)
    have hn := tmo_now t0 w hw (k + 1)
    generalize hs : tmo t0 w (k + 1) = s at *
    obtain ⟨t, c, now⟩ := s
    dsimp only at *
    have e1 : tmo t0 w (k + 1 + 1) = ((stepT t c now).1, (stepT t c now).2, now + 1 + w (k + 1)) := by
      show ((stepT (tmo t0 w (k + 1)).1 _ _).1, _, _) = _
      rw [hs]
    rw [e1]
    dsimp only
    have hc1 := i.nw
    rcases i.ph with ⟨p, hT⟩ | ⟨p, hT⟩
    · rw [wait_step i.pend i.due (by omega) (by omega) (by omega)]
      refine ⟨i.pend, i.due, ?_, ?_, ?_⟩
      · show max c.now now < now + 1 + w (k + 1); omega
      · unfold endT; split <;> exact i.dl
      · show ((endT t now).ph = 1 ∧ max c.now now < T) ∨ ((endT t now).ph = 6 ∧ T ≤ now + 1 + w (k + 1))
        have hdl := i.dl
        unfold endT
        by_cases hq : t.dl ≤ now
        · rw [if_pos ⟨by omega, hq⟩]; right; exact ⟨rfl, by omega⟩
        · rw [if_neg (by rintro ⟨_, h⟩; exact hq h)]; left; exact ⟨p, by omega⟩
    · rw [show stepT t c now = (t, c) by unfold stepT; rw [if_neg (by omega)]]
      exact ⟨i.pend, i.due, by show c.now < now + 1 + w (k + 1); omega, i.dl, .inr ⟨p, by show T ≤ now + 1 + w (k + 1); omega⟩⟩
/-- what Step says in round k -/
theorem tmo_out {T : Nat} {t0 : Tr} {w : Nat → Nat} (hw : ∀ i, w i < 5) (h0 : t0.ph = 0) (hc : t0.cmd ≠ 132) (hd : t0.dl = T) (k : Nat) (hk : k < 100) :
    outT (stepT (tmo t0 w k).1 (tmo t0 w k).2.1 (tmo t0 w k).2.2).1 = if T ≤ (tmo t0 w k).2.2 then .tup [.s (.int .u8 0), .s (.bool true), .s (.int .i64 14)] else .tup [.s (.int .u8 0), .s (.bool false), .s (.int .i64 0)] := by
  cases k with
  | zero =>
    show outT (stepT t0 (ct0 1000) 0).1 = if T ≤ 0 then _ else _
    rw [first_step h0 hc]
    show outT (endT { t0 with ph := 1 } 0) = _
    unfold endT
    by_cases hT : T ≤ 0
    · rw [if_pos ⟨(by decide : (1 : Nat) ≠ 5), by show t0.dl ≤ 0; omega⟩, if_pos hT]; simp [outT]
    · rw [if_neg (by rintro ⟨_, h⟩; exact hT (by rw [← hd]; exact h)), if_neg hT]; simp [outT]
  | succ k =>
    have i := tmo_inv hw h0 hc hd k (by omega)
    have hn := tmo_now t0 w hw (k + 1)
    generalize tmo t0 w (k + 1) = s at *
    obtain ⟨t, c, now⟩ := s
    dsimp only at *
    have hc1 := i.nw
    have hdl := i.dl
    rcases i.ph with ⟨p, hT⟩ | ⟨p, hT⟩
    · rw [wait_step i.pend i.due (by omega) (by omega) (by omega)]
      dsimp only
      unfold endT
      by_cases hq : T ≤ now
      · rw [if_pos ⟨by omega, by omega⟩, if_pos hq]; simp [outT]
      · rw [if_neg (by rintro ⟨_, h⟩; omega), if_neg hq]; simp [outT, p]
    · rw [show stepT t c now = (t, c) by unfold stepT; rw [if_neg (by omega)], if_pos hT]
      simp [outT, p]
theorem tmo_ok {t0 : Tr} {w : Nat → Nat} (hw : ∀ i, w i < 5) (ht : t0.ok) (h0 : t0.ph = 0) : ∀ k, k ≤ 100 → (tmo t0 w k).1.ok ∧ (tmo t0 w k).2.1.ok ∧ (tmo t0 w k).1.ph ≤ 6
  | 0, _ => ⟨ht, ct0_ok (by decide), by show t0.ph ≤ 6; omega⟩
  | k + 1, h => by
    obtain ⟨a, b, c⟩ := tmo_ok hw ht h0 k (by omega)
    have := tmo_now t0 w hw k
    exact stepT_ok b (by omega) a c

set_option maxHeartbeats 4000000 in
theorem timeout_Ar (D : Nat) (hD : D < 2 ^ 64)  : SC Try.prog 4 [n64 D, .s (.slc none 0 (some 0)), .s (.bool false)] 0 [] (.s (.bool true)) 0 [] := by
  have eT : Int.tmod ((D : Nat) : Int) 40 = ((D % 40 : Nat) : Int) := rfl
  have hT : D % 40 < 40 := Nat.mod_lt _ (by decide)
  generalize D % 40 = T at *
  have c1 := new_s 1000 (by decide)
  have c2 := read_s 1 0 T (by decide) (by omega)
  have c3 := writeT_s 1 2 0 T (by decide) (by omega)
  have hw : ∀ i, w0 i < 5 := fun i => by unfold w0; omega
  have hsat : sat 0 T = T := by unfold sat; omega
  have ht0 : (⟨128, 1, 0, sat 0 T, 0, 0⟩ : Tr).ok := ⟨(by decide : 128 < 256), (by decide : 1 < 256), (by decide : 0 < 256)⟩
  have hout := fun k hk => tmo_out (T := T) (t0 := ⟨128, 1, 0, sat 0 T, 0, 0⟩) (w := w0) hw rfl (by show 128 ≠ 132; decide) hsat k hk
  have hok := fun k hk => tmo_ok (t0 := ⟨128, 1, 0, sat 0 T, 0, 0⟩) (w := w0) hw ht0 rfl k hk
  have hnow := tmo_now ⟨128, 1, 0, sat 0 T, 0, 0⟩ w0 hw
  refine SC.run hm Try.func4 rfl [.num ((T : Nat) : Int), .call [] [n64 1000] [] (.tup [.s (.ptr (some (0, 0))), .s (.int .i64 0)]) 1 [(0, some (bC (ct0 1000)))], .call [] [] [] (.s (.bool true)) 0 [], .dec false, .dec false, .call [] [n8 1, n64 0, n64 T] [] (.s (.ptr (some (0, 0)))) 1 [(0, some (bT ⟨128, 1, 0, sat 0 T, 0, 0⟩))],
    .loop (.exit 0) (sp 78 []) 2 []] [] rfl rfl ?_ (.inl rfl) (EndOK.plain rfl no_mem rfl rfl)
  simp only [true_and, and_true, and_assoc, bne_self_eq_false, eT, ne_eq]
  repeat' apply And.intro
  all_goals first
    | exact True.intro
    | exact call0 c1 rfl
    | exact call0 c2 rfl
    | exact call0 c3 rfl
    | exact call0 awake_s rfl
    | omega
    | (with_reducible show _ = true; kernel_rfl)
    | refine Ex.turns hm [0, 1, 7, 9, 10, 11] [0, 1] 100 (fun k => sp 78 [(0, n64 T), (1, .s (.slc none 0 (some 0))), (7, .s (.ptr (some (0, 0)))), (9, .s (.ptr (some (1, 0)))), (10, n64 (tmo ⟨128, 1, 0, sat 0 T, 0, 0⟩ w0 k).2.2), (11, .s (.int .i64 ((k : Nat) : Int)))])
        (fun k => [(0, some (bC (tmo ⟨128, 1, 0, sat 0 T, 0, 0⟩ w0 k).2.1)), (1, some (bT (tmo ⟨128, 1, 0, sat 0 T, 0, 0⟩ w0 k).1))]) (by omega) rfl rfl (fun k => ⟨rfl, rfl⟩) ?_ [] [] (by simp) ⟨rfl, rfl⟩ ⟨[.dec false], _, _, _, _, _, rfl, ?_, rfl, rfl⟩
  · intro k hk
    obtain ⟨o1, o2, o3⟩ := hok k (by omega)
    have hn := hnow k
    have ho := hout k hk
    generalize hst : tmo ⟨128, 1, 0, sat 0 T, 0, 0⟩ w0 k = s at *
    obtain ⟨t, c, now⟩ := s
    dsimp only at *
    have hs := step_s t c now o2 (by omega) o1 o3
    rw [ho] at hs
    have e5 : (0 : Int) = 0 := rfl
    have hld : True := trivial
    have hnx : tmo ⟨128, 1, 0, sat 0 T, 0, 0⟩ w0 (k + 1) = ((stepT t c now).1, (stepT t c now).2, now + 1 + 0) := by
      show ((stepT (tmo _ _ k).1 _ _).1, _, _ + 1 + w0 k) = _
      rw [hst]; rfl
    by_cases hd : T ≤ now
    · rw [if_pos hd] at hs
      refine ⟨[.dec true, .call [1, 0] [pT, pC1, n64 now] [(0, some (bT t)), (1, some (bC c))] (.tup [.s (.int .u8 0), .s (.bool true), .s (.int .i64 14)]) 2 [(0, some (bT (stepT t c now).1)), (1, some (bC (stepT t c now).2))], .dec true, .dec false, .dec false, .dec false, .num ((now + 1 : Nat) : Int), .dec false, .num ((k + 1 : Nat) : Int)], _, _, _, _, _, rfl, ?_, ?_, ?_⟩
      · simp only [true_and, and_true, and_assoc, decide_eq_true_eq, decide_eq_false_iff_not, bne_self_eq_false, bne_eq_false_iff_eq, beq_self_eq_true, Bool.not_true, ne_eq, u64_wrap, i64_wrap, e5]
        repeat' apply And.intro
        all_goals first
          | exact True.intro
          | exact ⟨hs, rfl, Fits.of rfl rfl ⟨⟨rfl, _, rfl, rfl, fun h => h⟩, ⟨rfl, _, rfl, rfl, fun h => h⟩, trivial⟩⟩
          | omega
          | exact hld
          | (with_reducible show _ = true; kernel_rfl)
          | rfl
      · rw [hnx]; rfl
      · rw [hnx]; rfl
    · rw [if_neg hd] at hs
      refine ⟨[.dec true, .call [1, 0] [pT, pC1, n64 now] [(0, some (bT t)), (1, some (bC c))] (.tup [.s (.int .u8 0), .s (.bool false), .s (.int .i64 0)]) 2 [(0, some (bT (stepT t c now).1)), (1, some (bC (stepT t c now).2))], .dec false, .dec false, .num ((now + 1 : Nat) : Int), .dec false, .num ((k + 1 : Nat) : Int)], _, _, _, _, _, rfl, ?_, ?_, ?_⟩
      · simp only [true_and, and_true, and_assoc, decide_eq_true_eq, decide_eq_false_iff_not, bne_self_eq_false, bne_eq_false_iff_eq, beq_self_eq_true, Bool.not_true, ne_eq, u64_wrap, i64_wrap, e5]
        repeat' apply And.intro
        all_goals first
          | exact True.intro
          | exact ⟨hs, rfl, Fits.of rfl rfl ⟨⟨rfl, _, rfl, rfl, fun h => h⟩, ⟨rfl, _, rfl, rfl, fun h => h⟩, trivial⟩⟩
          | omega
          | exact hld
          | (with_reducible show _ = true; kernel_rfl)
          | rfl
      · rw [hnx]; rfl
      · rw [hnx]; rfl
  · simp only [decide_eq_false_iff_not, and_true, true_and]; omega

set_option maxHeartbeats 4000000 in
theorem timeout_Aw (D : Nat) (hD : D < 2 ^ 64)  : SC Try.prog 4 [n64 D, .s (.slc none 0 (some 0)), .s (.bool true)] 0 [] (.s (.bool true)) 0 [] := by
  have eT : Int.tmod ((D : Nat) : Int) 40 = ((D % 40 : Nat) : Int) := rfl
  have hT : D % 40 < 40 := Nat.mod_lt _ (by decide)
  generalize D % 40 = T at *
  have c1 := new_s 1000 (by decide)
  have c2 := read_s 1 0 T (by decide) (by omega)
  have c3 := writeT_s 1 2 0 T (by decide) (by omega)
  have hw : ∀ i, w0 i < 5 := fun i => by unfold w0; omega
  have hsat : sat 0 T = T := by unfold sat; omega
  have ht0 : (⟨129, 1, 2, sat 0 T, 0, 0⟩ : Tr).ok := ⟨(by decide : 129 < 256), (by decide : 1 < 256), (by decide : 2 < 256)⟩
  have hout := fun k hk => tmo_out (T := T) (t0 := ⟨129, 1, 2, sat 0 T, 0, 0⟩) (w := w0) hw rfl (by show 129 ≠ 132; decide) hsat k hk
  have hok := fun k hk => tmo_ok (t0 := ⟨129, 1, 2, sat 0 T, 0, 0⟩) (w := w0) hw ht0 rfl k hk
  have hnow := tmo_now ⟨129, 1, 2, sat 0 T, 0, 0⟩ w0 hw
  refine SC.run hm Try.func4 rfl [.num ((T : Nat) : Int), .call [] [n64 1000] [] (.tup [.s (.ptr (some (0, 0))), .s (.int .i64 0)]) 1 [(0, some (bC (ct0 1000)))], .call [] [] [] (.s (.bool true)) 0 [], .dec false, .dec false, .call [] [n8 1, n64 0, n64 T] [] (.s (.ptr (some (0, 0)))) 1 [(0, some (bT ⟨128, 1, 0, sat 0 T, 0, 0⟩))], .call [] [n8 1, n8 2, n64 0, n64 T] [] (.s (.ptr (some (0, 0)))) 1 [(0, some (bT ⟨129, 1, 2, sat 0 T, 0, 0⟩))],
    .loop (.exit 0) (sp 78 []) 3 []] [] rfl rfl ?_ (.inl rfl) (EndOK.plain rfl no_mem rfl rfl)
  simp only [true_and, and_true, and_assoc, bne_self_eq_false, eT, ne_eq]
  repeat' apply And.intro
  all_goals first
    | exact True.intro
    | exact call0 c1 rfl
    | exact call0 c2 rfl
    | exact call0 c3 rfl
    | exact call0 awake_s rfl
    | omega
    | (with_reducible show _ = true; kernel_rfl)
    | refine Ex.turns hm [0, 1, 7, 9, 10, 11] [0, 2] 100 (fun k => sp 78 [(0, n64 T), (1, .s (.slc none 0 (some 0))), (7, .s (.ptr (some (0, 0)))), (9, .s (.ptr (some (2, 0)))), (10, n64 (tmo ⟨129, 1, 2, sat 0 T, 0, 0⟩ w0 k).2.2), (11, .s (.int .i64 ((k : Nat) : Int)))])
        (fun k => [(0, some (bC (tmo ⟨129, 1, 2, sat 0 T, 0, 0⟩ w0 k).2.1)), (2, some (bT (tmo ⟨129, 1, 2, sat 0 T, 0, 0⟩ w0 k).1))]) (by omega) rfl rfl (fun k => ⟨rfl, rfl⟩) ?_ [] [] (by simp) ⟨rfl, rfl⟩ ⟨[.dec false], _, _, _, _, _, rfl, ?_, rfl, rfl⟩
  · intro k hk
    obtain ⟨o1, o2, o3⟩ := hok k (by omega)
    have hn := hnow k
    have ho := hout k hk
    generalize hst : tmo ⟨129, 1, 2, sat 0 T, 0, 0⟩ w0 k = s at *
    obtain ⟨t, c, now⟩ := s
    dsimp only at *
    have hs := step_s t c now o2 (by omega) o1 o3
    rw [ho] at hs
    have e5 : (0 : Int) = 0 := rfl
    have hld : True := trivial
    have hnx : tmo ⟨129, 1, 2, sat 0 T, 0, 0⟩ w0 (k + 1) = ((stepT t c now).1, (stepT t c now).2, now + 1 + 0) := by
      show ((stepT (tmo _ _ k).1 _ _).1, _, _ + 1 + w0 k) = _
      rw [hst]; rfl
    by_cases hd : T ≤ now
    · rw [if_pos hd] at hs
      refine ⟨[.dec true, .call [2, 0] [pT, pC1, n64 now] [(0, some (bT t)), (1, some (bC c))] (.tup [.s (.int .u8 0), .s (.bool true), .s (.int .i64 14)]) 2 [(0, some (bT (stepT t c now).1)), (1, some (bC (stepT t c now).2))], .dec true, .dec false, .dec false, .dec false, .num ((now + 1 : Nat) : Int), .dec false, .num ((k + 1 : Nat) : Int)], _, _, _, _, _, rfl, ?_, ?_, ?_⟩
      · simp only [true_and, and_true, and_assoc, decide_eq_true_eq, decide_eq_false_iff_not, bne_self_eq_false, bne_eq_false_iff_eq, beq_self_eq_true, Bool.not_true, ne_eq, u64_wrap, i64_wrap, e5]
        repeat' apply And.intro
        all_goals first
          | exact True.intro
          | exact ⟨hs, rfl, Fits.of rfl rfl ⟨⟨rfl, _, rfl, rfl, fun h => h⟩, ⟨rfl, _, rfl, rfl, fun h => h⟩, trivial⟩⟩
          | omega
          | exact hld
          | (with_reducible show _ = true; kernel_rfl)
          | rfl
      · rw [hnx]; rfl
      · rw [hnx]; rfl
    · rw [if_neg hd] at hs
      refine ⟨[.dec true, .call [2, 0] [pT, pC1, n64 now] [(0, some (bT t)), (1, some (bC c))] (.tup [.s (.int .u8 0), .s (.bool false), .s (.int .i64 0)]) 2 [(0, some (bT (stepT t c now).1)), (1, some (bC (stepT t c now).2))], .dec false, .dec false, .num ((now + 1 : Nat) : Int), .dec false, .num ((k + 1 : Nat) : Int)], _, _, _, _, _, rfl, ?_, ?_, ?_⟩
      · simp only [true_and, and_true, and_assoc, decide_eq_true_eq, decide_eq_false_iff_not, bne_self_eq_false, bne_eq_false_iff_eq, beq_self_eq_true, Bool.not_true, ne_eq, u64_wrap, i64_wrap, e5]
        repeat' apply And.intro
        all_goals first
          | exact True.intro
          | exact ⟨hs, rfl, Fits.of rfl rfl ⟨⟨rfl, _, rfl, rfl, fun h => h⟩, ⟨rfl, _, rfl, rfl, fun h => h⟩, trivial⟩⟩
          | omega
          | exact hld
          | (with_reducible show _ = true; kernel_rfl)
          | rfl
      · rw [hnx]; rfl
      · rw [hnx]; rfl
  · simp only [decide_eq_false_iff_not, and_true, true_and]; omega

set_option maxHeartbeats 4000000 in
theorem timeout_Er (D : Nat) (hD : D < 2 ^ 64)  : SC Try.prog 4 [n64 D, .s .emp, .s (.bool false)] 0 [] (.s (.bool true)) 0 [] := by
  have eT : Int.tmod ((D : Nat) : Int) 40 = ((D % 40 : Nat) : Int) := rfl
  have hT : D % 40 < 40 := Nat.mod_lt _ (by decide)
  generalize D % 40 = T at *
  have c1 := new_s 1000 (by decide)
  have c2 := read_s 1 0 T (by decide) (by omega)
  have c3 := writeT_s 1 2 0 T (by decide) (by omega)
  have hw : ∀ i, w0 i < 5 := fun i => by unfold w0; omega
  have hsat : sat 0 T = T := by unfold sat; omega
  have ht0 : (⟨128, 1, 0, sat 0 T, 0, 0⟩ : Tr).ok := ⟨(by decide : 128 < 256), (by decide : 1 < 256), (by decide : 0 < 256)⟩
  have hout := fun k hk => tmo_out (T := T) (t0 := ⟨128, 1, 0, sat 0 T, 0, 0⟩) (w := w0) hw rfl (by show 128 ≠ 132; decide) hsat k hk
  have hok := fun k hk => tmo_ok (t0 := ⟨128, 1, 0, sat 0 T, 0, 0⟩) (w := w0) hw ht0 rfl k hk
  have hnow := tmo_now ⟨128, 1, 0, sat 0 T, 0, 0⟩ w0 hw
  refine SC.run hm Try.func4 rfl [.num ((T : Nat) : Int), .call [] [n64 1000] [] (.tup [.s (.ptr (some (0, 0))), .s (.int .i64 0)]) 1 [(0, some (bC (ct0 1000)))], .call [] [] [] (.s (.bool true)) 0 [], .dec false, .dec false, .call [] [n8 1, n64 0, n64 T] [] (.s (.ptr (some (0, 0)))) 1 [(0, some (bT ⟨128, 1, 0, sat 0 T, 0, 0⟩))],
    .loop (.exit 0) (sp 78 []) 2 []] [] rfl rfl ?_ (.inl rfl) (EndOK.plain rfl no_mem rfl rfl)
  simp only [true_and, and_true, and_assoc, bne_self_eq_false, eT, ne_eq]
  repeat' apply And.intro
  all_goals first
    | exact True.intro
    | exact call0 c1 rfl
    | exact call0 c2 rfl
    | exact call0 c3 rfl
    | exact call0 awake_s rfl
    | omega
    | (with_reducible show _ = true; kernel_rfl)
    | refine Ex.turns hm [0, 1, 7, 9, 10, 11] [0, 1] 100 (fun k => sp 78 [(0, n64 T), (1, .s .emp), (7, .s (.ptr (some (0, 0)))), (9, .s (.ptr (some (1, 0)))), (10, n64 (tmo ⟨128, 1, 0, sat 0 T, 0, 0⟩ w0 k).2.2), (11, .s (.int .i64 ((k : Nat) : Int)))])
        (fun k => [(0, some (bC (tmo ⟨128, 1, 0, sat 0 T, 0, 0⟩ w0 k).2.1)), (1, some (bT (tmo ⟨128, 1, 0, sat 0 T, 0, 0⟩ w0 k).1))]) (by omega) rfl rfl (fun k => ⟨rfl, rfl⟩) ?_ [] [] (by simp) ⟨rfl, rfl⟩ ⟨[.dec false], _, _, _, _, _, rfl, ?_, rfl, rfl⟩
  · intro k hk
    obtain ⟨o1, o2, o3⟩ := hok k (by omega)
    have hn := hnow k
    have ho := hout k hk
    generalize hst : tmo ⟨128, 1, 0, sat 0 T, 0, 0⟩ w0 k = s at *
    obtain ⟨t, c, now⟩ := s
    dsimp only at *
    have hs := step_s t c now o2 (by omega) o1 o3
    rw [ho] at hs
    have e5 : (0 : Int) = 0 := rfl
    have hld : True := trivial
    have hnx : tmo ⟨128, 1, 0, sat 0 T, 0, 0⟩ w0 (k + 1) = ((stepT t c now).1, (stepT t c now).2, now + 1 + 0) := by
      show ((stepT (tmo _ _ k).1 _ _).1, _, _ + 1 + w0 k) = _
      rw [hst]; rfl
    by_cases hd : T ≤ now
    · rw [if_pos hd] at hs
      refine ⟨[.dec true, .call [1, 0] [pT, pC1, n64 now] [(0, some (bT t)), (1, some (bC c))] (.tup [.s (.int .u8 0), .s (.bool true), .s (.int .i64 14)]) 2 [(0, some (bT (stepT t c now).1)), (1, some (bC (stepT t c now).2))], .dec true, .dec false, .dec false, .dec false, .num ((now + 1 : Nat) : Int), .dec false, .num ((k + 1 : Nat) : Int)], _, _, _, _, _, rfl, ?_, ?_, ?_⟩
      · simp only [true_and, and_true, and_assoc, decide_eq_true_eq, decide_eq_false_iff_not, bne_self_eq_false, bne_eq_false_iff_eq, beq_self_eq_true, Bool.not_true, ne_eq, u64_wrap, i64_wrap, e5]
        repeat' apply And.intro
        all_goals first
          | exact True.intro
          | exact ⟨hs, rfl, Fits.of rfl rfl ⟨⟨rfl, _, rfl, rfl, fun h => h⟩, ⟨rfl, _, rfl, rfl, fun h => h⟩, trivial⟩⟩
          | omega
          | exact hld
          | (with_reducible show _ = true; kernel_rfl)
          | rfl
      · rw [hnx]; rfl
      · rw [hnx]; rfl
    · rw [if_neg hd] at hs
      refine ⟨[.dec true, .call [1, 0] [pT, pC1, n64 now] [(0, some (bT t)), (1, some (bC c))] (.tup [.s (.int .u8 0), .s (.bool false), .s (.int .i64 0)]) 2 [(0, some (bT (stepT t c now).1)), (1, some (bC (stepT t c now).2))], .dec false, .dec false, .num ((now + 1 : Nat) : Int), .dec false, .num ((k + 1 : Nat) : Int)], _, _, _, _, _, rfl, ?_, ?_, ?_⟩
      · simp only [true_and, and_true, and_assoc, decide_eq_true_eq, decide_eq_false_iff_not, bne_self_eq_false, bne_eq_false_iff_eq, beq_self_eq_true, Bool.not_true, ne_eq, u64_wrap, i64_wrap, e5]
        repeat' apply And.intro
        all_goals first
          | exact True.intro
          | exact ⟨hs, rfl, Fits.of rfl rfl ⟨⟨rfl, _, rfl, rfl, fun h => h⟩, ⟨rfl, _, rfl, rfl, fun h => h⟩, trivial⟩⟩
          | omega
          | exact hld
          | (with_reducible show _ = true; kernel_rfl)
          | rfl
      · rw [hnx]; rfl
      · rw [hnx]; rfl
  · simp only [decide_eq_false_iff_not, and_true, true_and]; omega

set_option maxHeartbeats 4000000 in
theorem timeout_Ew (D : Nat) (hD : D < 2 ^ 64)  : SC Try.prog 4 [n64 D, .s .emp, .s (.bool true)] 0 [] (.s (.bool true)) 0 [] := by
  have eT : Int.tmod ((D : Nat) : Int) 40 = ((D % 40 : Nat) : Int) := rfl
  have hT : D % 40 < 40 := Nat.mod_lt _ (by decide)
  generalize D % 40 = T at *
  have c1 := new_s 1000 (by decide)
  have c2 := read_s 1 0 T (by decide) (by omega)
  have c3 := writeT_s 1 2 0 T (by decide) (by omega)
  have hw : ∀ i, w0 i < 5 := fun i => by unfold w0; omega
  have hsat : sat 0 T = T := by unfold sat; omega
  have ht0 : (⟨129, 1, 2, sat 0 T, 0, 0⟩ : Tr).ok := ⟨(by decide : 129 < 256), (by decide : 1 < 256), (by decide : 2 < 256)⟩
  have hout := fun k hk => tmo_out (T := T) (t0 := ⟨129, 1, 2, sat 0 T, 0, 0⟩) (w := w0) hw rfl (by show 129 ≠ 132; decide) hsat k hk
  have hok := fun k hk => tmo_ok (t0 := ⟨129, 1, 2, sat 0 T, 0, 0⟩) (w := w0) hw ht0 rfl k hk
  have hnow := tmo_now ⟨129, 1, 2, sat 0 T, 0, 0⟩ w0 hw
  refine SC.run hm Try.func4 rfl [.num ((T : Nat) : Int), .call [] [n64 1000] [] (.tup [.s (.ptr (some (0, 0))), .s (.int .i64 0)]) 1 [(0, some (bC (ct0 1000)))], .call [] [] [] (.s (.bool true)) 0 [], .dec false, .dec false, .call [] [n8 1, n64 0, n64 T] [] (.s (.ptr (some (0, 0)))) 1 [(0, some (bT ⟨128, 1, 0, sat 0 T, 0, 0⟩))], .call [] [n8 1, n8 2, n64 0, n64 T] [] (.s (.ptr (some (0, 0)))) 1 [(0, some (bT ⟨129, 1, 2, sat 0 T, 0, 0⟩))],
    .loop (.exit 0) (sp 78 []) 3 []] [] rfl rfl ?_ (.inl rfl) (EndOK.plain rfl no_mem rfl rfl)
  simp only [true_and, and_true, and_assoc, bne_self_eq_false, eT, ne_eq]
  repeat' apply And.intro
  all_goals first
    | exact True.intro
    | exact call0 c1 rfl
    | exact call0 c2 rfl
    | exact call0 c3 rfl
    | exact call0 awake_s rfl
    | omega
    | (with_reducible show _ = true; kernel_rfl)
    | refine Ex.turns hm [0, 1, 7, 9, 10, 11] [0, 2] 100 (fun k => sp 78 [(0, n64 T), (1, .s .emp), (7, .s (.ptr (some (0, 0)))), (9, .s (.ptr (some (2, 0)))), (10, n64 (tmo ⟨129, 1, 2, sat 0 T, 0, 0⟩ w0 k).2.2), (11, .s (.int .i64 ((k : Nat) : Int)))])
        (fun k => [(0, some (bC (tmo ⟨129, 1, 2, sat 0 T, 0, 0⟩ w0 k).2.1)), (2, some (bT (tmo ⟨129, 1, 2, sat 0 T, 0, 0⟩ w0 k).1))]) (by omega) rfl rfl (fun k => ⟨rfl, rfl⟩) ?_ [] [] (by simp) ⟨rfl, rfl⟩ ⟨[.dec false], _, _, _, _, _, rfl, ?_, rfl, rfl⟩
  · intro k hk
    obtain ⟨o1, o2, o3⟩ := hok k (by omega)
    have hn := hnow k
    have ho := hout k hk
    generalize hst : tmo ⟨129, 1, 2, sat 0 T, 0, 0⟩ w0 k = s at *
    obtain ⟨t, c, now⟩ := s
    dsimp only at *
    have hs := step_s t c now o2 (by omega) o1 o3
    rw [ho] at hs
    have e5 : (0 : Int) = 0 := rfl
    have hld : True := trivial
    have hnx : tmo ⟨129, 1, 2, sat 0 T, 0, 0⟩ w0 (k + 1) = ((stepT t c now).1, (stepT t c now).2, now + 1 + 0) := by
      show ((stepT (tmo _ _ k).1 _ _).1, _, _ + 1 + w0 k) = _
      rw [hst]; rfl
    by_cases hd : T ≤ now
    · rw [if_pos hd] at hs
      refine ⟨[.dec true, .call [2, 0] [pT, pC1, n64 now] [(0, some (bT t)), (1, some (bC c))] (.tup [.s (.int .u8 0), .s (.bool true), .s (.int .i64 14)]) 2 [(0, some (bT (stepT t c now).1)), (1, some (bC (stepT t c now).2))], .dec true, .dec false, .dec false, .dec false, .num ((now + 1 : Nat) : Int), .dec false, .num ((k + 1 : Nat) : Int)], _, _, _, _, _, rfl, ?_, ?_, ?_⟩
      · simp only [true_and, and_true, and_assoc, decide_eq_true_eq, decide_eq_false_iff_not, bne_self_eq_false, bne_eq_false_iff_eq, beq_self_eq_true, Bool.not_true, ne_eq, u64_wrap, i64_wrap, e5]
        repeat' apply And.intro
        all_goals first
          | exact True.intro
          | exact ⟨hs, rfl, Fits.of rfl rfl ⟨⟨rfl, _, rfl, rfl, fun h => h⟩, ⟨rfl, _, rfl, rfl, fun h => h⟩, trivial⟩⟩
          | omega
          | exact hld
          | (with_reducible show _ = true; kernel_rfl)
          | rfl
      · rw [hnx]; rfl
      · rw [hnx]; rfl
    · rw [if_neg hd] at hs
      refine ⟨[.dec true, .call [2, 0] [pT, pC1, n64 now] [(0, some (bT t)), (1, some (bC c))] (.tup [.s (.int .u8 0), .s (.bool false), .s (.int .i64 0)]) 2 [(0, some (bT (stepT t c now).1)), (1, some (bC (stepT t c now).2))], .dec false, .dec false, .num ((now + 1 : Nat) : Int), .dec false, .num ((k + 1 : Nat) : Int)], _, _, _, _, _, rfl, ?_, ?_, ?_⟩
      · simp only [true_and, and_true, and_assoc, decide_eq_true_eq, decide_eq_false_iff_not, bne_self_eq_false, bne_eq_false_iff_eq, beq_self_eq_true, Bool.not_true, ne_eq, u64_wrap, i64_wrap, e5]
        repeat' apply And.intro
        all_goals first
          | exact True.intro
          | exact ⟨hs, rfl, Fits.of rfl rfl ⟨⟨rfl, _, rfl, rfl, fun h => h⟩, ⟨rfl, _, rfl, rfl, fun h => h⟩, trivial⟩⟩
          | omega
          | exact hld
          | (with_reducible show _ = true; kernel_rfl)
          | rfl
      · rw [hnx]; rfl
      · rw [hnx]; rfl
  · simp only [decide_eq_false_iff_not, and_true, true_and]; omega

set_option maxHeartbeats 4000000 in
theorem timeout_Br (D : Nat) (hD : D < 2 ^ 64) (ty : TypeId) (mr : Bool) (C : List S) (gi : Nat → Nat) (hgi : ∀ i, gi i < 256) (oo m : Nat) (cc : Option Nat) (hC : ∀ i, i < m → C[oo + i]? = some (.int .u8 ((gi i : Nat) : Int))) : SC Try.prog 4 [n64 D, .s (.slc (some (0, oo)) m cc), .s (.bool false)] 1 [(0, some (bRo ty mr C))] (.s (.bool true)) 1 [(0, some (bRo ty mr C))] := by
  have eT : Int.tmod ((D : Nat) : Int) 40 = ((D % 40 : Nat) : Int) := rfl
  have hT : D % 40 < 40 := Nat.mod_lt _ (by decide)
  generalize D % 40 = T at *
  have c1 := new_s 1000 (by decide)
  have c2 := read_s 1 0 T (by decide) (by omega)
  have c3 := writeT_s 1 2 0 T (by decide) (by omega)
  have hw : ∀ i, (wB gi m) i < 5 := fun i => by unfold wB; split <;> omega
  have hsat : sat 0 T = T := by unfold sat; omega
  have ht0 : (⟨128, 1, 0, sat 0 T, 0, 0⟩ : Tr).ok := ⟨(by decide : 128 < 256), (by decide : 1 < 256), (by decide : 0 < 256)⟩
  have hout := fun k hk => tmo_out (T := T) (t0 := ⟨128, 1, 0, sat 0 T, 0, 0⟩) (w := (wB gi m)) hw rfl (by show 128 ≠ 132; decide) hsat k hk
  have hok := fun k hk => tmo_ok (t0 := ⟨128, 1, 0, sat 0 T, 0, 0⟩) (w := (wB gi m)) hw ht0 rfl k hk
  have hnow := tmo_now ⟨128, 1, 0, sat 0 T, 0, 0⟩ (wB gi m) hw
  refine SC.run hm Try.func4 rfl [.num ((T : Nat) : Int), .call [] [n64 1000] [] (.tup [.s (.ptr (some (0, 0))), .s (.int .i64 0)]) 1 [(0, some (bC (ct0 1000)))], .call [] [] [] (.s (.bool true)) 0 [], .dec false, .dec false, .call [] [n8 1, n64 0, n64 T] [] (.s (.ptr (some (0, 0)))) 1 [(0, some (bT ⟨128, 1, 0, sat 0 T, 0, 0⟩))],
    .loop (.exit 0) (sp 78 []) 3 [(0, some (bRo ty mr C))]] [] rfl rfl ?_ (.inl rfl) (EndOK.by rfl ⟨rfl, trivial⟩ rfl rfl rfl rfl)
  simp only [true_and, and_true, and_assoc, bne_self_eq_false, eT, ne_eq]
  repeat' apply And.intro
  all_goals first
    | exact True.intro
    | exact call0 c1 rfl
    | exact call0 c2 rfl
    | exact call0 c3 rfl
    | exact call0 awake_s rfl
    | omega
    | (with_reducible show _ = true; kernel_rfl)
    | refine Ex.turns hm [0, 1, 7, 9, 10, 11] [0, 1, 2] 100 (fun k => sp 78 [(0, n64 T), (1, .s (.slc (some (0, oo)) m cc)), (7, .s (.ptr (some (1, 0)))), (9, .s (.ptr (some (2, 0)))), (10, n64 (tmo ⟨128, 1, 0, sat 0 T, 0, 0⟩ (wB gi m) k).2.2), (11, .s (.int .i64 ((k : Nat) : Int)))])
        (fun k => [(0, some (bRo ty mr C)), (1, some (bC (tmo ⟨128, 1, 0, sat 0 T, 0, 0⟩ (wB gi m) k).2.1)), (2, some (bT (tmo ⟨128, 1, 0, sat 0 T, 0, 0⟩ (wB gi m) k).1))]) (by omega) rfl rfl (fun k => ⟨rfl, rfl⟩) ?_ [] [0] (by simp) ⟨rfl, rfl⟩ ⟨[.dec false], _, _, _, _, _, rfl, ?_, rfl, rfl⟩
  · intro k hk
    obtain ⟨o1, o2, o3⟩ := hok k (by omega)
    have hn := hnow k
    have ho := hout k hk
    generalize hst : tmo ⟨128, 1, 0, sat 0 T, 0, 0⟩ (wB gi m) k = s at *
    obtain ⟨t, c, now⟩ := s
    dsimp only at *
    have hs := step_s t c now o2 (by omega) o1 o3
    rw [ho] at hs
    have e5 : Int.tmod ((gi k : Nat) : Int) 5 = ((gi k % 5 : Nat) : Int) := rfl
    by_cases hlt : k < m
    · have hld : ldAt false 1 (bRo ty mr C) (plus oo k) = some (.s (.int .u8 ((gi k : Nat) : Int))) := by rw [plus_eq]; simp only [ldAt, bRo, hC k hlt]
      have hgk := hgi k
      have hnx : tmo ⟨128, 1, 0, sat 0 T, 0, 0⟩ (wB gi m) (k + 1) = ((stepT t c now).1, (stepT t c now).2, now + 1 + gi k % 5) := by
        show ((stepT (tmo _ _ k).1 _ _).1, _, _ + 1 + wB gi m k) = _
        rw [hst, show wB gi m k = gi k % 5 by unfold wB; rw [if_pos hlt]]
      by_cases hd : T ≤ now
      · rw [if_pos hd] at hs
        refine ⟨[.dec true, .call [2, 1] [pT, pC1, n64 now] [(0, some (bT t)), (1, some (bC c))] (.tup [.s (.int .u8 0), .s (.bool true), .s (.int .i64 14)]) 2 [(0, some (bT (stepT t c now).1)), (1, some (bC (stepT t c now).2))], .dec true, .dec false, .dec false, .dec false, .num ((now + 1 : Nat) : Int), .dec true, .idx k, .val (.s (.int .u8 ((gi k : Nat) : Int))), .num ((gi k % 5 : Nat) : Int), .num ((gi k % 5 : Nat) : Int), .num ((now + 1 + gi k % 5 : Nat) : Int), .num ((k + 1 : Nat) : Int)], _, _, _, _, _, rfl, ?_, ?_, ?_⟩
        · simp only [true_and, and_true, and_assoc, decide_eq_true_eq, decide_eq_false_iff_not, bne_self_eq_false, bne_eq_false_iff_eq, beq_self_eq_true, Bool.not_true, ne_eq, u64_wrap, i64_wrap, e5]
          repeat' apply And.intro
          all_goals first
            | exact True.intro
            | exact ⟨hs, rfl, Fits.of rfl rfl ⟨⟨rfl, _, rfl, rfl, fun h => h⟩, ⟨rfl, _, rfl, rfl, fun h => h⟩, trivial⟩⟩
            | omega
            | exact hld
            | (with_reducible show _ = true; kernel_rfl)
            | rfl
        · rw [hnx]; rfl
        · rw [hnx]; rfl
      · rw [if_neg hd] at hs
        refine ⟨[.dec true, .call [2, 1] [pT, pC1, n64 now] [(0, some (bT t)), (1, some (bC c))] (.tup [.s (.int .u8 0), .s (.bool false), .s (.int .i64 0)]) 2 [(0, some (bT (stepT t c now).1)), (1, some (bC (stepT t c now).2))], .dec false, .dec false, .num ((now + 1 : Nat) : Int), .dec true, .idx k, .val (.s (.int .u8 ((gi k : Nat) : Int))), .num ((gi k % 5 : Nat) : Int), .num ((gi k % 5 : Nat) : Int), .num ((now + 1 + gi k % 5 : Nat) : Int), .num ((k + 1 : Nat) : Int)], _, _, _, _, _, rfl, ?_, ?_, ?_⟩
        · simp only [true_and, and_true, and_assoc, decide_eq_true_eq, decide_eq_false_iff_not, bne_self_eq_false, bne_eq_false_iff_eq, beq_self_eq_true, Bool.not_true, ne_eq, u64_wrap, i64_wrap, e5]
          repeat' apply And.intro
          all_goals first
            | exact True.intro
            | exact ⟨hs, rfl, Fits.of rfl rfl ⟨⟨rfl, _, rfl, rfl, fun h => h⟩, ⟨rfl, _, rfl, rfl, fun h => h⟩, trivial⟩⟩
            | omega
            | exact hld
            | (with_reducible show _ = true; kernel_rfl)
            | rfl
        · rw [hnx]; rfl
        · rw [hnx]; rfl
    · have hld : True := trivial
      have hnx : tmo ⟨128, 1, 0, sat 0 T, 0, 0⟩ (wB gi m) (k + 1) = ((stepT t c now).1, (stepT t c now).2, now + 1 + 0) := by
        show ((stepT (tmo _ _ k).1 _ _).1, _, _ + 1 + wB gi m k) = _
        rw [hst, show wB gi m k = 0 by unfold wB; rw [if_neg hlt]]
      by_cases hd : T ≤ now
      · rw [if_pos hd] at hs
        refine ⟨[.dec true, .call [2, 1] [pT, pC1, n64 now] [(0, some (bT t)), (1, some (bC c))] (.tup [.s (.int .u8 0), .s (.bool true), .s (.int .i64 14)]) 2 [(0, some (bT (stepT t c now).1)), (1, some (bC (stepT t c now).2))], .dec true, .dec false, .dec false, .dec false, .num ((now + 1 : Nat) : Int), .dec false, .num ((k + 1 : Nat) : Int)], _, _, _, _, _, rfl, ?_, ?_, ?_⟩
        · simp only [true_and, and_true, and_assoc, decide_eq_true_eq, decide_eq_false_iff_not, bne_self_eq_false, bne_eq_false_iff_eq, beq_self_eq_true, Bool.not_true, ne_eq, u64_wrap, i64_wrap, e5]
          repeat' apply And.intro
          all_goals first
            | exact True.intro
            | exact ⟨hs, rfl, Fits.of rfl rfl ⟨⟨rfl, _, rfl, rfl, fun h => h⟩, ⟨rfl, _, rfl, rfl, fun h => h⟩, trivial⟩⟩
            | omega
            | exact hld
            | (with_reducible show _ = true; kernel_rfl)
            | rfl
        · rw [hnx]; rfl
        · rw [hnx]; rfl
      · rw [if_neg hd] at hs
        refine ⟨[.dec true, .call [2, 1] [pT, pC1, n64 now] [(0, some (bT t)), (1, some (bC c))] (.tup [.s (.int .u8 0), .s (.bool false), .s (.int .i64 0)]) 2 [(0, some (bT (stepT t c now).1)), (1, some (bC (stepT t c now).2))], .dec false, .dec false, .num ((now + 1 : Nat) : Int), .dec false, .num ((k + 1 : Nat) : Int)], _, _, _, _, _, rfl, ?_, ?_, ?_⟩
        · simp only [true_and, and_true, and_assoc, decide_eq_true_eq, decide_eq_false_iff_not, bne_self_eq_false, bne_eq_false_iff_eq, beq_self_eq_true, Bool.not_true, ne_eq, u64_wrap, i64_wrap, e5]
          repeat' apply And.intro
          all_goals first
            | exact True.intro
            | exact ⟨hs, rfl, Fits.of rfl rfl ⟨⟨rfl, _, rfl, rfl, fun h => h⟩, ⟨rfl, _, rfl, rfl, fun h => h⟩, trivial⟩⟩
            | omega
            | exact hld
            | (with_reducible show _ = true; kernel_rfl)
            | rfl
        · rw [hnx]; rfl
        · rw [hnx]; rfl
  · simp only [decide_eq_false_iff_not, and_true, true_and]; omega

set_option maxHeartbeats 4000000 in
theorem timeout_Bw (D : Nat) (hD : D < 2 ^ 64) (ty : TypeId) (mr : Bool) (C : List S) (gi : Nat → Nat) (hgi : ∀ i, gi i < 256) (oo m : Nat) (cc : Option Nat) (hC : ∀ i, i < m → C[oo + i]? = some (.int .u8 ((gi i : Nat) : Int))) : SC Try.prog 4 [n64 D, .s (.slc (some (0, oo)) m cc), .s (.bool true)] 1 [(0, some (bRo ty mr C))] (.s (.bool true)) 1 [(0, some (bRo ty mr C))] := by
  have eT : Int.tmod ((D : Nat) : Int) 40 = ((D % 40 : Nat) : Int) := rfl
  have hT : D % 40 < 40 := Nat.mod_lt _ (by decide)
  generalize D % 40 = T at *
  have c1 := new_s 1000 (by decide)
  have c2 := read_s 1 0 T (by decide) (by omega)
  have c3 := writeT_s 1 2 0 T (by decide) (by omega)
  have hw : ∀ i, (wB gi m) i < 5 := fun i => by unfold wB; split <;> omega
  have hsat : sat 0 T = T := by unfold sat; omega
  have ht0 : (⟨129, 1, 2, sat 0 T, 0, 0⟩ : Tr).ok := ⟨(by decide : 129 < 256), (by decide : 1 < 256), (by decide : 2 < 256)⟩
  have hout := fun k hk => tmo_out (T := T) (t0 := ⟨129, 1, 2, sat 0 T, 0, 0⟩) (w := (wB gi m)) hw rfl (by show 129 ≠ 132; decide) hsat k hk
  have hok := fun k hk => tmo_ok (t0 := ⟨129, 1, 2, sat 0 T, 0, 0⟩) (w := (wB gi m)) hw ht0 rfl k hk
  have hnow := tmo_now ⟨129, 1, 2, sat 0 T, 0, 0⟩ (wB gi m) hw
  refine SC.run hm Try.func4 rfl [.num ((T : Nat) : Int), .call [] [n64 1000] [] (.tup [.s (.ptr (some (0, 0))), .s (.int .i64 0)]) 1 [(0, some (bC (ct0 1000)))], .call [] [] [] (.s (.bool true)) 0 [], .dec false, .dec false, .call [] [n8 1, n64 0, n64 T] [] (.s (.ptr (some (0, 0)))) 1 [(0, some (bT ⟨128, 1, 0, sat 0 T, 0, 0⟩))], .call [] [n8 1, n8 2, n64 0, n64 T] [] (.s (.ptr (some (0, 0)))) 1 [(0, some (bT ⟨129, 1, 2, sat 0 T, 0, 0⟩))],
    .loop (.exit 0) (sp 78 []) 4 [(0, some (bRo ty mr C))]] [] rfl rfl ?_ (.inl rfl) (EndOK.by rfl ⟨rfl, trivial⟩ rfl rfl rfl rfl)
  simp only [true_and, and_true, and_assoc, bne_self_eq_false, eT, ne_eq]
  repeat' apply And.intro
  all_goals first
    | exact True.intro
    | exact call0 c1 rfl
    | exact call0 c2 rfl
    | exact call0 c3 rfl
    | exact call0 awake_s rfl
    | omega
    | (with_reducible show _ = true; kernel_rfl)
    | refine Ex.turns hm [0, 1, 7, 9, 10, 11] [0, 1, 3] 100 (fun k => sp 78 [(0, n64 T), (1, .s (.slc (some (0, oo)) m cc)), (7, .s (.ptr (some (1, 0)))), (9, .s (.ptr (some (3, 0)))), (10, n64 (tmo ⟨129, 1, 2, sat 0 T, 0, 0⟩ (wB gi m) k).2.2), (11, .s (.int .i64 ((k : Nat) : Int)))])
        (fun k => [(0, some (bRo ty mr C)), (1, some (bC (tmo ⟨129, 1, 2, sat 0 T, 0, 0⟩ (wB gi m) k).2.1)), (3, some (bT (tmo ⟨129, 1, 2, sat 0 T, 0, 0⟩ (wB gi m) k).1))]) (by omega) rfl rfl (fun k => ⟨rfl, rfl⟩) ?_ [] [0] (by simp) ⟨rfl, rfl⟩ ⟨[.dec false], _, _, _, _, _, rfl, ?_, rfl, rfl⟩
  · intro k hk
    obtain ⟨o1, o2, o3⟩ := hok k (by omega)
    have hn := hnow k
    have ho := hout k hk
    generalize hst : tmo ⟨129, 1, 2, sat 0 T, 0, 0⟩ (wB gi m) k = s at *
    obtain ⟨t, c, now⟩ := s
    dsimp only at *
    have hs := step_s t c now o2 (by omega) o1 o3
    rw [ho] at hs
    have e5 : Int.tmod ((gi k : Nat) : Int) 5 = ((gi k % 5 : Nat) : Int) := rfl
    by_cases hlt : k < m
    · have hld : ldAt false 1 (bRo ty mr C) (plus oo k) = some (.s (.int .u8 ((gi k : Nat) : Int))) := by rw [plus_eq]; simp only [ldAt, bRo, hC k hlt]
      have hgk := hgi k
      have hnx : tmo ⟨129, 1, 2, sat 0 T, 0, 0⟩ (wB gi m) (k + 1) = ((stepT t c now).1, (stepT t c now).2, now + 1 + gi k % 5) := by
        show ((stepT (tmo _ _ k).1 _ _).1, _, _ + 1 + wB gi m k) = _
        rw [hst, show wB gi m k = gi k % 5 by unfold wB; rw [if_pos hlt]]
      by_cases hd : T ≤ now
      · rw [if_pos hd] at hs
        refine ⟨[.dec true, .call [3, 1] [pT, pC1, n64 now] [(0, some (bT t)), (1, some (bC c))] (.tup [.s (.int .u8 0), .s (.bool true), .s (.int .i64 14)]) 2 [(0, some (bT (stepT t c now).1)), (1, some (bC (stepT t c now).2))], .dec true, .dec false, .dec false, .dec false, .num ((now + 1 : Nat) : Int), .dec true, .idx k, .val (.s (.int .u8 ((gi k : Nat) : Int))), .num ((gi k % 5 : Nat) : Int), .num ((gi k % 5 : Nat) : Int), .num ((now + 1 + gi k % 5 : Nat) : Int), .num ((k + 1 : Nat) : Int)], _, _, _, _, _, rfl, ?_, ?_, ?_⟩
        · simp only [true_and, and_true, and_assoc, decide_eq_true_eq, decide_eq_false_iff_not, bne_self_eq_false, bne_eq_false_iff_eq, beq_self_eq_true, Bool.not_true, ne_eq, u64_wrap, i64_wrap, e5]
          repeat' apply And.intro
          all_goals first
            | exact True.intro
            | exact ⟨hs, rfl, Fits.of rfl rfl ⟨⟨rfl, _, rfl, rfl, fun h => h⟩, ⟨rfl, _, rfl, rfl, fun h => h⟩, trivial⟩⟩
            | omega
            | exact hld
            | (with_reducible show _ = true; kernel_rfl)
            | rfl
        · rw [hnx]; rfl
        · rw [hnx]; rfl
      · rw [if_neg hd] at hs
        refine ⟨[.dec true, .call [3, 1] [pT, pC1, n64 now] [(0, some (bT t)), (1, some (bC c))] (.tup [.s (.int .u8 0), .s (.bool false), .s (.int .i64 0)]) 2 [(0, some (bT (stepT t c now).1)), (1, some (bC (stepT t c now).2))], .dec false, .dec false, .num ((now + 1 : Nat) : Int), .dec true, .idx k, .val (.s (.int .u8 ((gi k : Nat) : Int))), .num ((gi k % 5 : Nat) : Int), .num ((gi k % 5 : Nat) : Int), .num ((now + 1 + gi k % 5 : Nat) : Int), .num ((k + 1 : Nat) : Int)], _, _, _, _, _, rfl, ?_, ?_, ?_⟩
        · simp only [true_and, and_true, and_assoc, decide_eq_true_eq, decide_eq_false_iff_not, bne_self_eq_false, bne_eq_false_iff_eq, beq_self_eq_true, Bool.not_true, ne_eq, u64_wrap, i64_wrap, e5]
          repeat' apply And.intro
          all_goals first
            | exact True.intro
            | exact ⟨hs, rfl, Fits.of rfl rfl ⟨⟨rfl, _, rfl, rfl, fun h => h⟩, ⟨rfl, _, rfl, rfl, fun h => h⟩, trivial⟩⟩
            | omega
            | exact hld
            | (with_reducible show _ = true; kernel_rfl)
            | rfl
        · rw [hnx]; rfl
        · rw [hnx]; rfl
    · have hld : True := trivial
      have hnx : tmo ⟨129, 1, 2, sat 0 T, 0, 0⟩ (wB gi m) (k + 1) = ((stepT t c now).1, (stepT t c now).2, now + 1 + 0) := by
        show ((stepT (tmo _ _ k).1 _ _).1, _, _ + 1 + wB gi m k) = _
        rw [hst, show wB gi m k = 0 by unfold wB; rw [if_neg hlt]]
      by_cases hd : T ≤ now
      · rw [if_pos hd] at hs
        refine ⟨[.dec true, .call [3, 1] [pT, pC1, n64 now] [(0, some (bT t)), (1, some (bC c))] (.tup [.s (.int .u8 0), .s (.bool true), .s (.int .i64 14)]) 2 [(0, some (bT (stepT t c now).1)), (1, some (bC (stepT t c now).2))], .dec true, .dec false, .dec false, .dec false, .num ((now + 1 : Nat) : Int), .dec false, .num ((k + 1 : Nat) : Int)], _, _, _, _, _, rfl, ?_, ?_, ?_⟩
        · simp only [true_and, and_true, and_assoc, decide_eq_true_eq, decide_eq_false_iff_not, bne_self_eq_false, bne_eq_false_iff_eq, beq_self_eq_true, Bool.not_true, ne_eq, u64_wrap, i64_wrap, e5]
          repeat' apply And.intro
          all_goals first
            | exact True.intro
            | exact ⟨hs, rfl, Fits.of rfl rfl ⟨⟨rfl, _, rfl, rfl, fun h => h⟩, ⟨rfl, _, rfl, rfl, fun h => h⟩, trivial⟩⟩
            | omega
            | exact hld
            | (with_reducible show _ = true; kernel_rfl)
            | rfl
        · rw [hnx]; rfl
        · rw [hnx]; rfl
      · rw [if_neg hd] at hs
        refine ⟨[.dec true, .call [3, 1] [pT, pC1, n64 now] [(0, some (bT t)), (1, some (bC c))] (.tup [.s (.int .u8 0), .s (.bool false), .s (.int .i64 0)]) 2 [(0, some (bT (stepT t c now).1)), (1, some (bC (stepT t c now).2))], .dec false, .dec false, .num ((now + 1 : Nat) : Int), .dec false, .num ((k + 1 : Nat) : Int)], _, _, _, _, _, rfl, ?_, ?_, ?_⟩
        · simp only [true_and, and_true, and_assoc, decide_eq_true_eq, decide_eq_false_iff_not, bne_self_eq_false, bne_eq_false_iff_eq, beq_self_eq_true, Bool.not_true, ne_eq, u64_wrap, i64_wrap, e5]
          repeat' apply And.intro
          all_goals first
            | exact True.intro
            | exact ⟨hs, rfl, Fits.of rfl rfl ⟨⟨rfl, _, rfl, rfl, fun h => h⟩, ⟨rfl, _, rfl, rfl, fun h => h⟩, trivial⟩⟩
            | omega
            | exact hld
            | (with_reducible show _ = true; kernel_rfl)
            | rfl
        · rw [hnx]; rfl
        · rw [hnx]; rfl
  · simp only [decide_eq_false_iff_not, and_true, true_and]; omega

end Go.Proofs.Ytimebhllnemnbaa
