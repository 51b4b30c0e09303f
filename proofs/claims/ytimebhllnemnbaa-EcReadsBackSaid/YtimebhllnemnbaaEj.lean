/-
  finish: what it computes; EcReadsBack: it returns true.
-/
import Derived.Test.YtimebhllnemnbaaEi
import Derived.Test.YtimebhllnemnbaaEg
set_option linter.unusedSimpArgs false
set_option linter.unusedVariables false
namespace Go.Proofs.Ytimebhllnemnbaa
open Go Ab
set_option maxRecDepth 100000

def v1 : Nat → Nat := fun _ => 1
def vB (gi : Nat → Nat) (m : Nat) : Nat → Nat := fun i => if i < m ∧ i < 40 then gi i % 5 else 1
theorem vB_le (gi : Nat → Nat) (m i : Nat) : vB gi m i ≤ 4 := by unfold vB; split <;> omega
theorem vB_40 (gi : Nat → Nat) (m i : Nat) (h : 40 ≤ i) : vB gi m i = 1 := by unfold vB; rw [if_neg (by omega)]

structure Sg where
  i : Nat
  t : Tr
  c : Ct
  now : Nat

set_option maxHeartbeats 2000000 in
theorem finish_A {w : Bool} {a v : Nat} {R : Nat → Nat} {d : Nat} (t0 : Tr) (c0 : Ct) (s : Nat) (hF0 : Fi w a v R d s 0 t0 c0 s) (h : c0.ok) (ht : t0.ok) (hd : d ≤ 7) (hs2 : s + 2000 < 2 ^ 64)  :
    SC Try.prog 15 [pT, pC1, n64 s, .s (.slc none 0 (some 0))] 2 [(0, some (bT t0)), (1, some (bC c0))] (.tup [.s (.int .u8 (((fnM v1 200 t0 c0 s 0).1.res : Nat) : Int)), .s (.int .i64 0), .s (.int .u64 (((fnM v1 200 t0 c0 s 0).2.2 : Nat) : Int)), .s (.bool true)]) 2 [(0, some (bT (fnM v1 200 t0 c0 s 0).1)), (1, some (bC (fnM v1 200 t0 c0 s 0).2.1))] := by
  generalize hF : fnM v1 200 t0 c0 s 0 = F
  obtain ⟨tF, cF, nF⟩ := F
  dsimp only
  refine SC.run hm Try.func15 rfl [.loop .ret (sp 51 [(8, .s (.int .u8 ((tF.res : Nat) : Int))), (9, .s (.int .i64 0)), (10, .s (.int .u64 ((nF : Nat) : Int))), (11, .s (.bool true))]) 2 [(0, some (bT tF)), (1, some (bC cF))]] [] rfl rfl ?_ (.inl rfl) (EndOK.by rfl ⟨rfl, rfl, trivial⟩ rfl rfl rfl rfl)
  simp only [true_and, and_true, and_assoc]
  refine Ex.whiles hm (σ := Sg) (fun x => sp 51 [(0, pT), (1, pC1), (2, n64 x.now), (3, .s (.slc none 0 (some 0))), (12, .s (.int .i64 ((x.i : Nat) : Int)))]) (fun x => [(0, some (bT x.t)), (1, some (bC x.c))]) (fun x => Fi w a v R d s x.i x.t x.c x.now ∧ x.t.ok ∧ x.c.ok ∧ fnM v1 (200 - x.i) x.t x.c x.now x.i = (tF, cF, nF)) (fun x => 200 - x.i) ⟨0, t0, c0, s⟩ [0, 1, 2, 3, 12] [0, 1] [0, 1] rfl rfl rfl ⟨rfl, rfl, trivial⟩ rfl (fun x => rfl) ⟨hF0, ht, h, hF⟩ [8, 9, 10, 11] [0, 1] rfl (by simp) rfl ?_
  rintro ⟨i, t, c, now⟩ ⟨i1, i2, i3, i4⟩
  dsimp only at i1 i2 i3 i4 ⊢
  have hi := i1.i_le
  have htb := i1.tb
  obtain ⟨_, _, cs⟩ := step_fi i1 hd hs2 ((fun _ => (by decide : 1 ≤ 4)) i) ((fun _ _ => rfl) i)
  obtain ⟨q1, q2, q3⟩ := stepT_ok (t := t) (c := c) (now := now) i3 (by omega) i2 (by have := i1.p4; omega)
  have hs := step_s t c now i3 (by omega) i2 (by have := i1.p4; omega)
  have e200 : 200 - i = (200 - i - 1) + 1 := by omega
  rcases cs with ⟨p5, pr⟩ | ⟨p4, hF⟩
  · rw [show outT (stepT t c now).1 = .tup [.s (.int .u8 (((stepT t c now).1.res : Nat) : Int)), .s (.bool true), .s (.int .i64 0)] by simp [outT, p5]] at hs
    have e : ((stepT t c now).1, (stepT t c now).2, now) = (tF, cF, nF) := by
      rw [← i4, e200]
      simp only [fnM]
      rw [if_pos p5]
    simp only [Prod.mk.injEq] at e
    obtain ⟨e1, e2, e3⟩ := e
    rw [e1, e2] at hs
    subst e3
    refine .inr ⟨[.dec true, .call [0, 1] [pT, pC1, n64 now] [(0, some (bT t)), (1, some (bC c))] (.tup [.s (.int .u8 ((tF.res : Nat) : Int)), .s (.bool true), .s (.int .i64 0)]) 2 [(0, some (bT tF)), (1, some (bC cF))]], _, _, _, _, _, rfl, ?_, rfl, ⟨rfl, rfl, trivial⟩⟩
    simp only [true_and, and_true, and_assoc, decide_eq_true_eq]
    exact ⟨by omega, by kernel_rfl, hs, rfl, Fits.of rfl rfl ⟨⟨rfl, _, rfl, rfl, fun h => h⟩, ⟨rfl, _, rfl, rfl, fun h => h⟩, trivial⟩⟩
  · have hnow := hF.tb
    rw [show outT (stepT t c now).1 = .tup [.s (.int .u8 0), .s (.bool false), .s (.int .i64 0)] by unfold outT; rw [if_neg (by omega), if_neg (by omega)]] at hs
    have e5 : (0 : Int) = 0 := rfl
    have hld : True := trivial
    have ewt : v1 i = 1 := rfl
    refine .inl ⟨⟨i + 1, (stepT t c now).1, (stepT t c now).2, now + 1⟩, ⟨by first | exact hF | (have h := hF; rw [ewt] at h; exact h), q1, q2, ?_⟩, by show 200 - (i + 1) < 200 - i; omega, [.dec true, .call [0, 1] [pT, pC1, n64 now] [(0, some (bT t)), (1, some (bC c))] (.tup [.s (.int .u8 0), .s (.bool false), .s (.int .i64 0)]) 2 [(0, some (bT (stepT t c now).1)), (1, some (bC (stepT t c now).2))], .dec false, .num ((now + 1 : Nat) : Int), .num ((i + 1 : Nat) : Int)], _, _, _, _, _, rfl, ?_, rfl, ⟨rfl, rfl, trivial⟩⟩
    · rw [← i4, e200]
      simp only [fnM]
      rw [if_neg (by omega), ewt]
      congr 1
    · simp only [true_and, and_true, and_assoc, decide_eq_true_eq, decide_eq_false_iff_not, ne_eq, u64_wrap, i64_wrap, e5]
      repeat' apply And.intro
      all_goals first
        | exact True.intro
        | exact ⟨hs, rfl, Fits.of rfl rfl ⟨⟨rfl, _, rfl, rfl, fun h => h⟩, ⟨rfl, _, rfl, rfl, fun h => h⟩, trivial⟩⟩
        | omega
        | exact hld
        | (with_reducible show _ = true; kernel_rfl)

set_option maxHeartbeats 2000000 in
theorem finish_E {w : Bool} {a v : Nat} {R : Nat → Nat} {d : Nat} (t0 : Tr) (c0 : Ct) (s : Nat) (hF0 : Fi w a v R d s 0 t0 c0 s) (h : c0.ok) (ht : t0.ok) (hd : d ≤ 7) (hs2 : s + 2000 < 2 ^ 64)  :
    SC Try.prog 15 [pT, pC1, n64 s, .s .emp] 2 [(0, some (bT t0)), (1, some (bC c0))] (.tup [.s (.int .u8 (((fnM v1 200 t0 c0 s 0).1.res : Nat) : Int)), .s (.int .i64 0), .s (.int .u64 (((fnM v1 200 t0 c0 s 0).2.2 : Nat) : Int)), .s (.bool true)]) 2 [(0, some (bT (fnM v1 200 t0 c0 s 0).1)), (1, some (bC (fnM v1 200 t0 c0 s 0).2.1))] := by
  generalize hF : fnM v1 200 t0 c0 s 0 = F
  obtain ⟨tF, cF, nF⟩ := F
  dsimp only
  refine SC.run hm Try.func15 rfl [.loop .ret (sp 51 [(8, .s (.int .u8 ((tF.res : Nat) : Int))), (9, .s (.int .i64 0)), (10, .s (.int .u64 ((nF : Nat) : Int))), (11, .s (.bool true))]) 2 [(0, some (bT tF)), (1, some (bC cF))]] [] rfl rfl ?_ (.inl rfl) (EndOK.by rfl ⟨rfl, rfl, trivial⟩ rfl rfl rfl rfl)
  simp only [true_and, and_true, and_assoc]
  refine Ex.whiles hm (σ := Sg) (fun x => sp 51 [(0, pT), (1, pC1), (2, n64 x.now), (3, .s .emp), (12, .s (.int .i64 ((x.i : Nat) : Int)))]) (fun x => [(0, some (bT x.t)), (1, some (bC x.c))]) (fun x => Fi w a v R d s x.i x.t x.c x.now ∧ x.t.ok ∧ x.c.ok ∧ fnM v1 (200 - x.i) x.t x.c x.now x.i = (tF, cF, nF)) (fun x => 200 - x.i) ⟨0, t0, c0, s⟩ [0, 1, 2, 3, 12] [0, 1] [0, 1] rfl rfl rfl ⟨rfl, rfl, trivial⟩ rfl (fun x => rfl) ⟨hF0, ht, h, hF⟩ [8, 9, 10, 11] [0, 1] rfl (by simp) rfl ?_
  rintro ⟨i, t, c, now⟩ ⟨i1, i2, i3, i4⟩
  dsimp only at i1 i2 i3 i4 ⊢
  have hi := i1.i_le
  have htb := i1.tb
  obtain ⟨_, _, cs⟩ := step_fi i1 hd hs2 ((fun _ => (by decide : 1 ≤ 4)) i) ((fun _ _ => rfl) i)
  obtain ⟨q1, q2, q3⟩ := stepT_ok (t := t) (c := c) (now := now) i3 (by omega) i2 (by have := i1.p4; omega)
  have hs := step_s t c now i3 (by omega) i2 (by have := i1.p4; omega)
  have e200 : 200 - i = (200 - i - 1) + 1 := by omega
  rcases cs with ⟨p5, pr⟩ | ⟨p4, hF⟩
  · rw [show outT (stepT t c now).1 = .tup [.s (.int .u8 (((stepT t c now).1.res : Nat) : Int)), .s (.bool true), .s (.int .i64 0)] by simp [outT, p5]] at hs
    have e : ((stepT t c now).1, (stepT t c now).2, now) = (tF, cF, nF) := by
      rw [← i4, e200]
      simp only [fnM]
      rw [if_pos p5]
    simp only [Prod.mk.injEq] at e
    obtain ⟨e1, e2, e3⟩ := e
    rw [e1, e2] at hs
    subst e3
    refine .inr ⟨[.dec true, .call [0, 1] [pT, pC1, n64 now] [(0, some (bT t)), (1, some (bC c))] (.tup [.s (.int .u8 ((tF.res : Nat) : Int)), .s (.bool true), .s (.int .i64 0)]) 2 [(0, some (bT tF)), (1, some (bC cF))]], _, _, _, _, _, rfl, ?_, rfl, ⟨rfl, rfl, trivial⟩⟩
    simp only [true_and, and_true, and_assoc, decide_eq_true_eq]
    exact ⟨by omega, by kernel_rfl, hs, rfl, Fits.of rfl rfl ⟨⟨rfl, _, rfl, rfl, fun h => h⟩, ⟨rfl, _, rfl, rfl, fun h => h⟩, trivial⟩⟩
  · have hnow := hF.tb
    rw [show outT (stepT t c now).1 = .tup [.s (.int .u8 0), .s (.bool false), .s (.int .i64 0)] by unfold outT; rw [if_neg (by omega), if_neg (by omega)]] at hs
    have e5 : (0 : Int) = 0 := rfl
    have hld : True := trivial
    have ewt : v1 i = 1 := rfl
    refine .inl ⟨⟨i + 1, (stepT t c now).1, (stepT t c now).2, now + 1⟩, ⟨by first | exact hF | (have h := hF; rw [ewt] at h; exact h), q1, q2, ?_⟩, by show 200 - (i + 1) < 200 - i; omega, [.dec true, .call [0, 1] [pT, pC1, n64 now] [(0, some (bT t)), (1, some (bC c))] (.tup [.s (.int .u8 0), .s (.bool false), .s (.int .i64 0)]) 2 [(0, some (bT (stepT t c now).1)), (1, some (bC (stepT t c now).2))], .dec false, .num ((now + 1 : Nat) : Int), .num ((i + 1 : Nat) : Int)], _, _, _, _, _, rfl, ?_, rfl, ⟨rfl, rfl, trivial⟩⟩
    · rw [← i4, e200]
      simp only [fnM]
      rw [if_neg (by omega), ewt]
      congr 1
    · simp only [true_and, and_true, and_assoc, decide_eq_true_eq, decide_eq_false_iff_not, ne_eq, u64_wrap, i64_wrap, e5]
      repeat' apply And.intro
      all_goals first
        | exact True.intro
        | exact ⟨hs, rfl, Fits.of rfl rfl ⟨⟨rfl, _, rfl, rfl, fun h => h⟩, ⟨rfl, _, rfl, rfl, fun h => h⟩, trivial⟩⟩
        | omega
        | exact hld
        | (with_reducible show _ = true; kernel_rfl)

set_option maxHeartbeats 2000000 in
theorem finish_B {w : Bool} {a v : Nat} {R : Nat → Nat} {d : Nat} (t0 : Tr) (c0 : Ct) (s : Nat) (hF0 : Fi w a v R d s 0 t0 c0 s) (h : c0.ok) (ht : t0.ok) (hd : d ≤ 7) (hs2 : s + 2000 < 2 ^ 64) (ty : TypeId) (mr : Bool) (C : List S) (gi : Nat → Nat) (hgi : ∀ i, gi i < 256) (oo m : Nat) (cc : Option Nat) (hC : ∀ i, i < m → C[oo + i]? = some (.int .u8 ((gi i : Nat) : Int))) :
    SC Try.prog 15 [pT, pC1, n64 s, .s (.slc (some (2, oo)) m cc)] 3 [(0, some (bT t0)), (1, some (bC c0)), (2, some (bRo ty mr C))] (.tup [.s (.int .u8 (((fnM (vB gi m) 200 t0 c0 s 0).1.res : Nat) : Int)), .s (.int .i64 0), .s (.int .u64 (((fnM (vB gi m) 200 t0 c0 s 0).2.2 : Nat) : Int)), .s (.bool true)]) 3 [(0, some (bT (fnM (vB gi m) 200 t0 c0 s 0).1)), (1, some (bC (fnM (vB gi m) 200 t0 c0 s 0).2.1)), (2, some (bRo ty mr C))] := by
  generalize hF : fnM (vB gi m) 200 t0 c0 s 0 = F
  obtain ⟨tF, cF, nF⟩ := F
  dsimp only
  refine SC.run hm Try.func15 rfl [.loop .ret (sp 51 [(8, .s (.int .u8 ((tF.res : Nat) : Int))), (9, .s (.int .i64 0)), (10, .s (.int .u64 ((nF : Nat) : Int))), (11, .s (.bool true))]) 3 [(0, some (bT tF)), (1, some (bC cF)), (2, some (bRo ty mr C))]] [] rfl rfl ?_ (.inl rfl) (EndOK.by rfl ⟨rfl, rfl, rfl, trivial⟩ rfl rfl rfl rfl)
  simp only [true_and, and_true, and_assoc]
  refine Ex.whiles hm (σ := Sg) (fun x => sp 51 [(0, pT), (1, pC1), (2, n64 x.now), (3, .s (.slc (some (2, oo)) m cc)), (12, .s (.int .i64 ((x.i : Nat) : Int)))]) (fun x => [(0, some (bT x.t)), (1, some (bC x.c)), (2, some (bRo ty mr C))]) (fun x => Fi w a v R d s x.i x.t x.c x.now ∧ x.t.ok ∧ x.c.ok ∧ fnM (vB gi m) (200 - x.i) x.t x.c x.now x.i = (tF, cF, nF)) (fun x => 200 - x.i) ⟨0, t0, c0, s⟩ [0, 1, 2, 3, 12] [0, 1, 2] [0, 1, 2] rfl rfl rfl ⟨rfl, rfl, rfl, trivial⟩ rfl (fun x => rfl) ⟨hF0, ht, h, hF⟩ [8, 9, 10, 11] [0, 1, 2] rfl (by simp) rfl ?_
  rintro ⟨i, t, c, now⟩ ⟨i1, i2, i3, i4⟩
  dsimp only at i1 i2 i3 i4 ⊢
  have hi := i1.i_le
  have htb := i1.tb
  obtain ⟨_, _, cs⟩ := step_fi i1 hd hs2 ((vB_le gi m) i) ((vB_40 gi m) i)
  obtain ⟨q1, q2, q3⟩ := stepT_ok (t := t) (c := c) (now := now) i3 (by omega) i2 (by have := i1.p4; omega)
  have hs := step_s t c now i3 (by omega) i2 (by have := i1.p4; omega)
  have e200 : 200 - i = (200 - i - 1) + 1 := by omega
  rcases cs with ⟨p5, pr⟩ | ⟨p4, hF⟩
  · rw [show outT (stepT t c now).1 = .tup [.s (.int .u8 (((stepT t c now).1.res : Nat) : Int)), .s (.bool true), .s (.int .i64 0)] by simp [outT, p5]] at hs
    have e : ((stepT t c now).1, (stepT t c now).2, now) = (tF, cF, nF) := by
      rw [← i4, e200]
      simp only [fnM]
      rw [if_pos p5]
    simp only [Prod.mk.injEq] at e
    obtain ⟨e1, e2, e3⟩ := e
    rw [e1, e2] at hs
    subst e3
    refine .inr ⟨[.dec true, .call [0, 1] [pT, pC1, n64 now] [(0, some (bT t)), (1, some (bC c))] (.tup [.s (.int .u8 ((tF.res : Nat) : Int)), .s (.bool true), .s (.int .i64 0)]) 2 [(0, some (bT tF)), (1, some (bC cF))]], _, _, _, _, _, rfl, ?_, rfl, ⟨rfl, rfl, rfl, trivial⟩⟩
    simp only [true_and, and_true, and_assoc, decide_eq_true_eq]
    exact ⟨by omega, by kernel_rfl, hs, rfl, Fits.of rfl rfl ⟨⟨rfl, _, rfl, rfl, fun h => h⟩, ⟨rfl, _, rfl, rfl, fun h => h⟩, trivial⟩⟩
  · have hnow := hF.tb
    rw [show outT (stepT t c now).1 = .tup [.s (.int .u8 0), .s (.bool false), .s (.int .i64 0)] by unfold outT; rw [if_neg (by omega), if_neg (by omega)]] at hs
    have e5 : Int.tmod ((gi i : Nat) : Int) 5 = ((gi i % 5 : Nat) : Int) := rfl
    by_cases hlt : i < m
    · have hld : ldAt false 1 (bRo ty mr C) (plus oo i) = some (.s (.int .u8 ((gi i : Nat) : Int))) := by rw [plus_eq]; simp only [ldAt, bRo, hC i hlt]
      have hgk := hgi i
      by_cases h40 : i < 40
      · have ewt : vB gi m i = gi i % 5 := by unfold vB; rw [if_pos ⟨hlt, h40⟩]
        refine .inl ⟨⟨i + 1, (stepT t c now).1, (stepT t c now).2, now + gi i % 5⟩, ⟨by first | exact hF | (have h := hF; rw [ewt] at h; exact h), q1, q2, ?_⟩, by show 200 - (i + 1) < 200 - i; omega, [.dec true, .call [0, 1] [pT, pC1, n64 now] [(0, some (bT t)), (1, some (bC c))] (.tup [.s (.int .u8 0), .s (.bool false), .s (.int .i64 0)]) 2 [(0, some (bT (stepT t c now).1)), (1, some (bC (stepT t c now).2))], .dec true, .dec true, .idx i, .val (.s (.int .u8 ((gi i : Nat) : Int))), .num ((gi i % 5 : Nat) : Int), .num ((gi i % 5 : Nat) : Int), .num ((now + gi i % 5 : Nat) : Int), .num ((i + 1 : Nat) : Int)], _, _, _, _, _, rfl, ?_, rfl, ⟨rfl, rfl, rfl, trivial⟩⟩
        · rw [← i4, e200]
          simp only [fnM]
          rw [if_neg (by omega), ewt]
          congr 1
        · simp only [true_and, and_true, and_assoc, decide_eq_true_eq, decide_eq_false_iff_not, ne_eq, u64_wrap, i64_wrap, e5]
          repeat' apply And.intro
          all_goals first
            | exact True.intro
            | exact ⟨hs, rfl, Fits.of rfl rfl ⟨⟨rfl, _, rfl, rfl, fun h => h⟩, ⟨rfl, _, rfl, rfl, fun h => h⟩, trivial⟩⟩
            | omega
            | exact hld
            | (with_reducible show _ = true; kernel_rfl)
      · have ewt : vB gi m i = 1 := vB_40 gi m i (by omega)
        refine .inl ⟨⟨i + 1, (stepT t c now).1, (stepT t c now).2, now + 1⟩, ⟨by first | exact hF | (have h := hF; rw [ewt] at h; exact h), q1, q2, ?_⟩, by show 200 - (i + 1) < 200 - i; omega, [.dec true, .call [0, 1] [pT, pC1, n64 now] [(0, some (bT t)), (1, some (bC c))] (.tup [.s (.int .u8 0), .s (.bool false), .s (.int .i64 0)]) 2 [(0, some (bT (stepT t c now).1)), (1, some (bC (stepT t c now).2))], .dec true, .dec false, .num ((now + 1 : Nat) : Int), .num ((i + 1 : Nat) : Int)], _, _, _, _, _, rfl, ?_, rfl, ⟨rfl, rfl, rfl, trivial⟩⟩
        · rw [← i4, e200]
          simp only [fnM]
          rw [if_neg (by omega), ewt]
          congr 1
        · simp only [true_and, and_true, and_assoc, decide_eq_true_eq, decide_eq_false_iff_not, ne_eq, u64_wrap, i64_wrap, e5]
          repeat' apply And.intro
          all_goals first
            | exact True.intro
            | exact ⟨hs, rfl, Fits.of rfl rfl ⟨⟨rfl, _, rfl, rfl, fun h => h⟩, ⟨rfl, _, rfl, rfl, fun h => h⟩, trivial⟩⟩
            | omega
            | exact hld
            | (with_reducible show _ = true; kernel_rfl)
    · have hld : True := trivial
      have ewt : vB gi m i = 1 := by unfold vB; rw [if_neg (by omega)]
      refine .inl ⟨⟨i + 1, (stepT t c now).1, (stepT t c now).2, now + 1⟩, ⟨by first | exact hF | (have h := hF; rw [ewt] at h; exact h), q1, q2, ?_⟩, by show 200 - (i + 1) < 200 - i; omega, [.dec true, .call [0, 1] [pT, pC1, n64 now] [(0, some (bT t)), (1, some (bC c))] (.tup [.s (.int .u8 0), .s (.bool false), .s (.int .i64 0)]) 2 [(0, some (bT (stepT t c now).1)), (1, some (bC (stepT t c now).2))], .dec false, .num ((now + 1 : Nat) : Int), .num ((i + 1 : Nat) : Int)], _, _, _, _, _, rfl, ?_, rfl, ⟨rfl, rfl, rfl, trivial⟩⟩
      · rw [← i4, e200]
        simp only [fnM]
        rw [if_neg (by omega), ewt]
        congr 1
      · simp only [true_and, and_true, and_assoc, decide_eq_true_eq, decide_eq_false_iff_not, ne_eq, u64_wrap, i64_wrap, e5]
        repeat' apply And.intro
        all_goals first
          | exact True.intro
          | exact ⟨hs, rfl, Fits.of rfl rfl ⟨⟨rfl, _, rfl, rfl, fun h => h⟩, ⟨rfl, _, rfl, rfl, fun h => h⟩, trivial⟩⟩
          | omega
          | exact hld
          | (with_reducible show _ = true; kernel_rfl)

theorem fi_start {w : Bool} {a v : Nat} {R : Nat → Nat} {d s : Nat} {t : Tr} {c : Ct} (hc : t.cmd = if w then 129 else 128) (ha : t.adr = a) (hv : t.val = v) (hdl : t.dl = s + 1000) (hp : t.ph = 0) (hd : c.delay = d) (h1 : c.pend = false) (h2 : c.full = false) (h3 : c.regs = R) (h4 : c.now ≤ s) : Fi w a v R d s 0 t c s :=
  ⟨⟨hc, ha, hv, hd⟩, .p0 hp h1 h2 h3, by omega, h4, by omega, hdl, .inl ⟨rfl, hp⟩⟩
theorem pr5 {w : Bool} {a v : Nat} {R : Nat → Nat} {d : Nat} {t : Tr} {c : Ct} (h : Pr w a v R d t c) (h5 : t.ph = 5) : c.pend = false ∧ c.full = false ∧ c.regs = (if w then upd R a v else R) ∧ (w = false → t.res = R a) := by
  cases h with
  | p5 ph pe fu re rs => exact ⟨pe, fu, re, rs⟩
  | p0 ph | p1 ph | p2 ph | p3 ph | p4 ph => omega
theorem fn_ok {wt : Nat → Nat} (hw : ∀ i, wt i ≤ 4) : ∀ (k : Nat) (t : Tr) (c : Ct) (now i : Nat), c.ok → t.ok → t.ph ≤ 6 → now + 4 * k < 2 ^ 64 → (fnM wt k t c now i).1.ok ∧ (fnM wt k t c now i).2.1.ok
  | 0, t, c, now, i, h, ht, _, _ => ⟨ht, h⟩
  | k + 1, t, c, now, i, h, ht, h6, hn => by
    obtain ⟨q1, q2, q3⟩ := stepT_ok (t := t) (c := c) (now := now) h (by omega) ht h6
    simp only [fnM]
    split
    · exact ⟨q1, q2⟩
    · exact fn_ok hw k _ _ _ _ q2 q1 q3 (by have := hw i; omega)

theorem sat_a {n : Nat} (h : n ≤ 1000) : sat n 1000 = n + 1000 := sat_small (by omega)
set_option maxHeartbeats 4000000 in
theorem back_A (D ad vv oth : Nat) (hD : D < 2 ^ 64) (ha : ad < 256) (hv : vv < 256) (ho : oth < 256)  : SC Try.prog 5 [n64 D, n8 ad, n8 vv, n8 oth, .s (.slc none 0 (some 0))] 0 [] (.s (.bool true)) 0 [] := by
  have eD : Int.tmod ((D : Nat) : Int) 8 = ((D % 8 : Nat) : Int) := rfl
  have hd : D % 8 ≤ 7 := by omega
  generalize D % 8 = d at *
  have k1 := new_s d (by omega)
  have o0 : (ct0 d).ok := ct0_ok (by omega)
  have k2 := setRegister_s (ct0 d) oth 77 ho
  have o1 : ({ ct0 d with regs := upd (ct0 d).regs oth 77 } : Ct).ok := ⟨o0.now, o0.delay, o0.due, o0.inp, o0.adr, o0.out, o0.cmd, fun i => by show upd _ _ _ i < 256; unfold upd; split <;> first | decide | exact (by decide : (0 : Nat) < 256)⟩
  have r1 : ({ ct0 d with regs := upd (ct0 d).regs oth 77 } : Ct).regs = upd (fun _ => 0) oth 77 := rfl
  have z1 : ({ ct0 d with regs := upd (ct0 d).regs oth 77 } : Ct).delay = d ∧ ({ ct0 d with regs := upd (ct0 d).regs oth 77 } : Ct).pend = false ∧ ({ ct0 d with regs := upd (ct0 d).regs oth 77 } : Ct).full = false ∧ ({ ct0 d with regs := upd (ct0 d).regs oth 77 } : Ct).now = 0 := ⟨rfl, rfl, rfl, rfl⟩
  generalize ({ ct0 d with regs := upd (ct0 d).regs oth 77 } : Ct) = c1 at *
  have k3 := writeT_s ad vv 0 1000 (by decide) (by decide)
  have w1 : Fi true ad vv (upd (fun _ => 0) oth 77) d 0 0 ⟨129, ad, vv, sat 0 1000, 0, 0⟩ c1 0 := fi_start rfl rfl rfl rfl rfl z1.1 z1.2.1 z1.2.2.1 r1 (by omega)
  have tw : (⟨129, ad, vv, sat 0 1000, 0, 0⟩ : Tr).ok := ⟨(by decide : 129 < 256), ha, hv⟩
  have f1 := finish_A ⟨129, ad, vv, sat 0 1000, 0, 0⟩ c1 0 w1 o1 tw hd (by omega)
  obtain ⟨g1, g2, g3, g4, g5⟩ := fn_end (wt := v1) hd (by omega) (fun _ => (by decide : 1 ≤ 4)) (fun _ _ => rfl) 200 0 _ _ _ w1 (by omega)
  obtain ⟨y1, o2⟩ := fn_ok (wt := v1) (fun _ => (by decide : 1 ≤ 4)) 200 ⟨129, ad, vv, sat 0 1000, 0, 0⟩ c1 0 0 o1 tw (by show 0 ≤ 6; omega) (by omega)
  obtain ⟨x1, x2, x3, _⟩ := pr5 g3 g1
  have x0 := g2.dl
  generalize hfa : fnM v1 200 ⟨129, ad, vv, sat 0 1000, 0, 0⟩ c1 0 0 = Fa at *
  obtain ⟨t1, c2, n1⟩ := Fa
  dsimp only at *
  generalize (⟨129, ad, vv, sat 0 1000, 0, 0⟩ : Tr) = tW at *
  have k4 := read_s ad n1 1000 (by omega) (by decide)
  have b2 : n1 ≤ 1000 := Nat.le_trans g5 (by decide)
  have e2 : sat n1 1000 = n1 + 1000 := sat_a b2
  have w2 : Fi false ad 0 (upd (upd (fun _ => 0) oth 77) ad vv) d n1 0 ⟨128, ad, 0, sat n1 1000, 0, 0⟩ c2 n1 := fi_start rfl rfl rfl e2 rfl x0 x1 x2 x3 (by omega)
  have tr : (⟨128, ad, 0, sat n1 1000, 0, 0⟩ : Tr).ok := ⟨(by decide : 128 < 256), ha, (by decide : 0 < 256)⟩
  have f2 := finish_A ⟨128, ad, 0, sat n1 1000, 0, 0⟩ c2 n1 w2 o2 tr hd (by omega)
  obtain ⟨g1', g2', g3', g4', g5'⟩ := fn_end (wt := v1) hd (by omega) (fun _ => (by decide : 1 ≤ 4)) (fun _ _ => rfl) 200 0 _ _ _ w2 (by omega)
  obtain ⟨y2, o3⟩ := fn_ok (wt := v1) (fun _ => (by decide : 1 ≤ 4)) 200 ⟨128, ad, 0, sat n1 1000, 0, 0⟩ c2 n1 0 o2 tr (by show 0 ≤ 6; omega) (by omega)
  obtain ⟨x1', x2', x3', x4'⟩ := pr5 g3' g1'
  have x0' := g2'.dl
  generalize hfb : fnM v1 200 ⟨128, ad, 0, sat n1 1000, 0, 0⟩ c2 n1 0 = Fb at *
  obtain ⟨t2, c3, n2⟩ := Fb
  dsimp only at *
  generalize (⟨128, ad, 0, sat n1 1000, 0, 0⟩ : Tr) = tR at *
  have k5 := read_s oth n2 1000 (by omega) (by decide)
  have b3 : n2 ≤ 1000 := Nat.le_trans g5' (Nat.le_trans (Nat.add_le_add_right g5 300) (by decide))
  have e3 : sat n2 1000 = n2 + 1000 := sat_a b3
  have w3 : Fi false oth 0 (upd (upd (fun _ => 0) oth 77) ad vv) d n2 0 ⟨128, oth, 0, sat n2 1000, 0, 0⟩ c3 n2 := fi_start rfl rfl rfl e3 rfl x0' x1' x2' x3' (by omega)
  have to : (⟨128, oth, 0, sat n2 1000, 0, 0⟩ : Tr).ok := ⟨(by decide : 128 < 256), ho, (by decide : 0 < 256)⟩
  have f3 := finish_A ⟨128, oth, 0, sat n2 1000, 0, 0⟩ c3 n2 w3 o3 to hd (by omega)
  obtain ⟨g1'', g2'', g3'', g4'', g5''⟩ := fn_end (wt := v1) hd (by omega) (fun _ => (by decide : 1 ≤ 4)) (fun _ _ => rfl) 200 0 _ _ _ w3 (by omega)
  obtain ⟨x1'', x2'', x3'', x4''⟩ := pr5 g3'' g1''
  generalize hfc : fnM v1 200 ⟨128, oth, 0, sat n2 1000, 0, 0⟩ c3 n2 0 = Fc at *
  obtain ⟨t3, c4, n3⟩ := Fc
  dsimp only at *
  generalize (⟨128, oth, 0, sat n2 1000, 0, 0⟩ : Tr) = tO at *
  have k6 := register_s c4 ad ha
  have a1 : t2.res = vv := by rw [x4' rfl]; unfold upd; rw [if_pos rfl]
  have a2 : c4.regs ad = vv := by rw [x3'']; show upd (upd (fun _ => 0) oth 77) ad vv ad = vv; unfold upd; rw [if_pos rfl]
  have a3 : ¬ oth = ad → t3.res = 77 := fun hne => by rw [x4'' rfl]; unfold upd; rw [if_neg hne, if_pos rfl]
  by_cases he : oth = ad
  · skip
    refine SC.run hm Try.func5 rfl [.num ((d : Nat) : Int), .call [] [n64 d] [] (.tup [.s (.ptr (some (0, 0))), .s (.int .i64 0)]) 1 [(0, some (bC (ct0 d)))], .call [] [] [] (.s (.bool true)) 0 [], .dec false, .dec false,
      .call [0] [pC, n8 oth, n8 77] [(0, some (bC (ct0 d)))] (.tup []) 1 [(0, some (bC c1))], .call [] [n8 ad, n8 vv, n64 0, n64 1000] [] (.s (.ptr (some (0, 0)))) 1 [(0, some (bT tW))],
      .call [1, 0] [pT, pC1, n64 0, .s (.slc none 0 (some 0))] [(0, some (bT tW)), (1, some (bC c1))] (.tup [.s (.int .u8 ((t1.res : Nat) : Int)), .s (.int .i64 0), .s (.int .u64 ((n1 : Nat) : Int)), .s (.bool true)]) 2 [(0, some (bT t1)), (1, some (bC c2))], .dec false,
      .call [] [n8 ad, n64 n1, n64 1000] [] (.s (.ptr (some (0, 0)))) 1 [(0, some (bT tR))],
      .call [2, 0] [pT, pC1, n64 n1, .s (.slc none 0 (some 0))] [(0, some (bT tR)), (1, some (bC c2))] (.tup [.s (.int .u8 ((t2.res : Nat) : Int)), .s (.int .i64 0), .s (.int .u64 ((n2 : Nat) : Int)), .s (.bool true)]) 2 [(0, some (bT t2)), (1, some (bC c3))],
      .call [] [n8 oth, n64 n2, n64 1000] [] (.s (.ptr (some (0, 0)))) 1 [(0, some (bT tO))],
      .call [3, 0] [pT, pC1, n64 n2, .s (.slc none 0 (some 0))] [(0, some (bT tO)), (1, some (bC c3))] (.tup [.s (.int .u8 ((t3.res : Nat) : Int)), .s (.int .i64 0), .s (.int .u64 ((n3 : Nat) : Int)), .s (.bool true)]) 2 [(0, some (bT t3)), (1, some (bC c4))],
      .dec true, .dec true, .dec true, .dec true, .call [0] [pC, n8 ad] [(0, some (bC c4))] (n8 (c4.regs ad)) 1 [(0, some (bC c4))], .dec true] [] rfl rfl ?_ (.inl rfl) (EndOK.plain rfl no_mem rfl rfl)
    simp only [true_and, and_true, and_assoc, bne_self_eq_false, beq_self_eq_true, beq_iff_eq, beq_eq_false_iff_ne, ne_eq, eD]
    repeat' apply And.intro
    all_goals first
      | exact True.intro
      | exact call0 k1 rfl
      | exact call0 awake_s rfl
      | exact ⟨k2, rfl, Fits.of rfl rfl ⟨⟨rfl, _, rfl, rfl, fun h => h⟩, trivial⟩⟩
      | exact call0 k3 rfl
      | exact ⟨f1, rfl, Fits.of rfl rfl ⟨⟨rfl, _, rfl, rfl, fun h => h⟩, ⟨rfl, _, rfl, rfl, fun h => h⟩, trivial⟩⟩
      | exact call0 k4 rfl
      | exact ⟨f2, rfl, Fits.of rfl rfl ⟨⟨rfl, _, rfl, rfl, fun h => h⟩, ⟨rfl, _, rfl, rfl, fun h => h⟩, trivial⟩⟩
      | exact call0 k5 rfl
      | exact ⟨f3, rfl, Fits.of rfl rfl ⟨⟨rfl, _, rfl, rfl, fun h => h⟩, ⟨rfl, _, rfl, rfl, fun h => h⟩, trivial⟩⟩
      | exact ⟨k6, rfl, Fits.of rfl rfl ⟨⟨rfl, _, rfl, rfl, fun h => h⟩, trivial⟩⟩
      | omega
      | (with_reducible show _ = true; kernel_rfl)
      | rfl
  · have a3 := a3 he
    refine SC.run hm Try.func5 rfl [.num ((d : Nat) : Int), .call [] [n64 d] [] (.tup [.s (.ptr (some (0, 0))), .s (.int .i64 0)]) 1 [(0, some (bC (ct0 d)))], .call [] [] [] (.s (.bool true)) 0 [], .dec false, .dec false,
      .call [0] [pC, n8 oth, n8 77] [(0, some (bC (ct0 d)))] (.tup []) 1 [(0, some (bC c1))], .call [] [n8 ad, n8 vv, n64 0, n64 1000] [] (.s (.ptr (some (0, 0)))) 1 [(0, some (bT tW))],
      .call [1, 0] [pT, pC1, n64 0, .s (.slc none 0 (some 0))] [(0, some (bT tW)), (1, some (bC c1))] (.tup [.s (.int .u8 ((t1.res : Nat) : Int)), .s (.int .i64 0), .s (.int .u64 ((n1 : Nat) : Int)), .s (.bool true)]) 2 [(0, some (bT t1)), (1, some (bC c2))], .dec false,
      .call [] [n8 ad, n64 n1, n64 1000] [] (.s (.ptr (some (0, 0)))) 1 [(0, some (bT tR))],
      .call [2, 0] [pT, pC1, n64 n1, .s (.slc none 0 (some 0))] [(0, some (bT tR)), (1, some (bC c2))] (.tup [.s (.int .u8 ((t2.res : Nat) : Int)), .s (.int .i64 0), .s (.int .u64 ((n2 : Nat) : Int)), .s (.bool true)]) 2 [(0, some (bT t2)), (1, some (bC c3))],
      .call [] [n8 oth, n64 n2, n64 1000] [] (.s (.ptr (some (0, 0)))) 1 [(0, some (bT tO))],
      .call [3, 0] [pT, pC1, n64 n2, .s (.slc none 0 (some 0))] [(0, some (bT tO)), (1, some (bC c3))] (.tup [.s (.int .u8 ((t3.res : Nat) : Int)), .s (.int .i64 0), .s (.int .u64 ((n3 : Nat) : Int)), .s (.bool true)]) 2 [(0, some (bT t3)), (1, some (bC c4))],
      .dec true, .dec true, .dec true, .dec false, .dec true, .call [0] [pC, n8 ad] [(0, some (bC c4))] (n8 (c4.regs ad)) 1 [(0, some (bC c4))], .dec true] [] rfl rfl ?_ (.inl rfl) (EndOK.plain rfl no_mem rfl rfl)
    simp only [true_and, and_true, and_assoc, bne_self_eq_false, beq_self_eq_true, beq_iff_eq, beq_eq_false_iff_ne, ne_eq, eD]
    repeat' apply And.intro
    all_goals first
      | exact True.intro
      | exact call0 k1 rfl
      | exact call0 awake_s rfl
      | exact ⟨k2, rfl, Fits.of rfl rfl ⟨⟨rfl, _, rfl, rfl, fun h => h⟩, trivial⟩⟩
      | exact call0 k3 rfl
      | exact ⟨f1, rfl, Fits.of rfl rfl ⟨⟨rfl, _, rfl, rfl, fun h => h⟩, ⟨rfl, _, rfl, rfl, fun h => h⟩, trivial⟩⟩
      | exact call0 k4 rfl
      | exact ⟨f2, rfl, Fits.of rfl rfl ⟨⟨rfl, _, rfl, rfl, fun h => h⟩, ⟨rfl, _, rfl, rfl, fun h => h⟩, trivial⟩⟩
      | exact call0 k5 rfl
      | exact ⟨f3, rfl, Fits.of rfl rfl ⟨⟨rfl, _, rfl, rfl, fun h => h⟩, ⟨rfl, _, rfl, rfl, fun h => h⟩, trivial⟩⟩
      | exact ⟨k6, rfl, Fits.of rfl rfl ⟨⟨rfl, _, rfl, rfl, fun h => h⟩, trivial⟩⟩
      | omega
      | (with_reducible show _ = true; kernel_rfl)
      | rfl

set_option maxHeartbeats 4000000 in
theorem back_E (D ad vv oth : Nat) (hD : D < 2 ^ 64) (ha : ad < 256) (hv : vv < 256) (ho : oth < 256)  : SC Try.prog 5 [n64 D, n8 ad, n8 vv, n8 oth, .s .emp] 0 [] (.s (.bool true)) 0 [] := by
  have eD : Int.tmod ((D : Nat) : Int) 8 = ((D % 8 : Nat) : Int) := rfl
  have hd : D % 8 ≤ 7 := by omega
  generalize D % 8 = d at *
  have k1 := new_s d (by omega)
  have o0 : (ct0 d).ok := ct0_ok (by omega)
  have k2 := setRegister_s (ct0 d) oth 77 ho
  have o1 : ({ ct0 d with regs := upd (ct0 d).regs oth 77 } : Ct).ok := ⟨o0.now, o0.delay, o0.due, o0.inp, o0.adr, o0.out, o0.cmd, fun i => by show upd _ _ _ i < 256; unfold upd; split <;> first | decide | exact (by decide : (0 : Nat) < 256)⟩
  have r1 : ({ ct0 d with regs := upd (ct0 d).regs oth 77 } : Ct).regs = upd (fun _ => 0) oth 77 := rfl
  have z1 : ({ ct0 d with regs := upd (ct0 d).regs oth 77 } : Ct).delay = d ∧ ({ ct0 d with regs := upd (ct0 d).regs oth 77 } : Ct).pend = false ∧ ({ ct0 d with regs := upd (ct0 d).regs oth 77 } : Ct).full = false ∧ ({ ct0 d with regs := upd (ct0 d).regs oth 77 } : Ct).now = 0 := ⟨rfl, rfl, rfl, rfl⟩
  generalize ({ ct0 d with regs := upd (ct0 d).regs oth 77 } : Ct) = c1 at *
  have k3 := writeT_s ad vv 0 1000 (by decide) (by decide)
  have w1 : Fi true ad vv (upd (fun _ => 0) oth 77) d 0 0 ⟨129, ad, vv, sat 0 1000, 0, 0⟩ c1 0 := fi_start rfl rfl rfl rfl rfl z1.1 z1.2.1 z1.2.2.1 r1 (by omega)
  have tw : (⟨129, ad, vv, sat 0 1000, 0, 0⟩ : Tr).ok := ⟨(by decide : 129 < 256), ha, hv⟩
  have f1 := finish_E ⟨129, ad, vv, sat 0 1000, 0, 0⟩ c1 0 w1 o1 tw hd (by omega)
  obtain ⟨g1, g2, g3, g4, g5⟩ := fn_end (wt := v1) hd (by omega) (fun _ => (by decide : 1 ≤ 4)) (fun _ _ => rfl) 200 0 _ _ _ w1 (by omega)
  obtain ⟨y1, o2⟩ := fn_ok (wt := v1) (fun _ => (by decide : 1 ≤ 4)) 200 ⟨129, ad, vv, sat 0 1000, 0, 0⟩ c1 0 0 o1 tw (by show 0 ≤ 6; omega) (by omega)
  obtain ⟨x1, x2, x3, _⟩ := pr5 g3 g1
  have x0 := g2.dl
  generalize hfa : fnM v1 200 ⟨129, ad, vv, sat 0 1000, 0, 0⟩ c1 0 0 = Fa at *
  obtain ⟨t1, c2, n1⟩ := Fa
  dsimp only at *
  generalize (⟨129, ad, vv, sat 0 1000, 0, 0⟩ : Tr) = tW at *
  have k4 := read_s ad n1 1000 (by omega) (by decide)
  have b2 : n1 ≤ 1000 := Nat.le_trans g5 (by decide)
  have e2 : sat n1 1000 = n1 + 1000 := sat_a b2
  have w2 : Fi false ad 0 (upd (upd (fun _ => 0) oth 77) ad vv) d n1 0 ⟨128, ad, 0, sat n1 1000, 0, 0⟩ c2 n1 := fi_start rfl rfl rfl e2 rfl x0 x1 x2 x3 (by omega)
  have tr : (⟨128, ad, 0, sat n1 1000, 0, 0⟩ : Tr).ok := ⟨(by decide : 128 < 256), ha, (by decide : 0 < 256)⟩
  have f2 := finish_E ⟨128, ad, 0, sat n1 1000, 0, 0⟩ c2 n1 w2 o2 tr hd (by omega)
  obtain ⟨g1', g2', g3', g4', g5'⟩ := fn_end (wt := v1) hd (by omega) (fun _ => (by decide : 1 ≤ 4)) (fun _ _ => rfl) 200 0 _ _ _ w2 (by omega)
  obtain ⟨y2, o3⟩ := fn_ok (wt := v1) (fun _ => (by decide : 1 ≤ 4)) 200 ⟨128, ad, 0, sat n1 1000, 0, 0⟩ c2 n1 0 o2 tr (by show 0 ≤ 6; omega) (by omega)
  obtain ⟨x1', x2', x3', x4'⟩ := pr5 g3' g1'
  have x0' := g2'.dl
  generalize hfb : fnM v1 200 ⟨128, ad, 0, sat n1 1000, 0, 0⟩ c2 n1 0 = Fb at *
  obtain ⟨t2, c3, n2⟩ := Fb
  dsimp only at *
  generalize (⟨128, ad, 0, sat n1 1000, 0, 0⟩ : Tr) = tR at *
  have k5 := read_s oth n2 1000 (by omega) (by decide)
  have b3 : n2 ≤ 1000 := Nat.le_trans g5' (Nat.le_trans (Nat.add_le_add_right g5 300) (by decide))
  have e3 : sat n2 1000 = n2 + 1000 := sat_a b3
  have w3 : Fi false oth 0 (upd (upd (fun _ => 0) oth 77) ad vv) d n2 0 ⟨128, oth, 0, sat n2 1000, 0, 0⟩ c3 n2 := fi_start rfl rfl rfl e3 rfl x0' x1' x2' x3' (by omega)
  have to : (⟨128, oth, 0, sat n2 1000, 0, 0⟩ : Tr).ok := ⟨(by decide : 128 < 256), ho, (by decide : 0 < 256)⟩
  have f3 := finish_A ⟨128, oth, 0, sat n2 1000, 0, 0⟩ c3 n2 w3 o3 to hd (by omega)
  obtain ⟨g1'', g2'', g3'', g4'', g5''⟩ := fn_end (wt := v1) hd (by omega) (fun _ => (by decide : 1 ≤ 4)) (fun _ _ => rfl) 200 0 _ _ _ w3 (by omega)
  obtain ⟨x1'', x2'', x3'', x4''⟩ := pr5 g3'' g1''
  generalize hfc : fnM v1 200 ⟨128, oth, 0, sat n2 1000, 0, 0⟩ c3 n2 0 = Fc at *
  obtain ⟨t3, c4, n3⟩ := Fc
  dsimp only at *
  generalize (⟨128, oth, 0, sat n2 1000, 0, 0⟩ : Tr) = tO at *
  have k6 := register_s c4 ad ha
  have a1 : t2.res = vv := by rw [x4' rfl]; unfold upd; rw [if_pos rfl]
  have a2 : c4.regs ad = vv := by rw [x3'']; show upd (upd (fun _ => 0) oth 77) ad vv ad = vv; unfold upd; rw [if_pos rfl]
  have a3 : ¬ oth = ad → t3.res = 77 := fun hne => by rw [x4'' rfl]; unfold upd; rw [if_neg hne, if_pos rfl]
  by_cases he : oth = ad
  · skip
    refine SC.run hm Try.func5 rfl [.num ((d : Nat) : Int), .call [] [n64 d] [] (.tup [.s (.ptr (some (0, 0))), .s (.int .i64 0)]) 1 [(0, some (bC (ct0 d)))], .call [] [] [] (.s (.bool true)) 0 [], .dec false, .dec false,
      .call [0] [pC, n8 oth, n8 77] [(0, some (bC (ct0 d)))] (.tup []) 1 [(0, some (bC c1))], .call [] [n8 ad, n8 vv, n64 0, n64 1000] [] (.s (.ptr (some (0, 0)))) 1 [(0, some (bT tW))],
      .call [1, 0] [pT, pC1, n64 0, .s .emp] [(0, some (bT tW)), (1, some (bC c1))] (.tup [.s (.int .u8 ((t1.res : Nat) : Int)), .s (.int .i64 0), .s (.int .u64 ((n1 : Nat) : Int)), .s (.bool true)]) 2 [(0, some (bT t1)), (1, some (bC c2))], .dec false,
      .call [] [n8 ad, n64 n1, n64 1000] [] (.s (.ptr (some (0, 0)))) 1 [(0, some (bT tR))],
      .call [2, 0] [pT, pC1, n64 n1, .s .emp] [(0, some (bT tR)), (1, some (bC c2))] (.tup [.s (.int .u8 ((t2.res : Nat) : Int)), .s (.int .i64 0), .s (.int .u64 ((n2 : Nat) : Int)), .s (.bool true)]) 2 [(0, some (bT t2)), (1, some (bC c3))],
      .call [] [n8 oth, n64 n2, n64 1000] [] (.s (.ptr (some (0, 0)))) 1 [(0, some (bT tO))],
      .call [3, 0] [pT, pC1, n64 n2, .s (.slc none 0 (some 0))] [(0, some (bT tO)), (1, some (bC c3))] (.tup [.s (.int .u8 ((t3.res : Nat) : Int)), .s (.int .i64 0), .s (.int .u64 ((n3 : Nat) : Int)), .s (.bool true)]) 2 [(0, some (bT t3)), (1, some (bC c4))],
      .dec true, .dec true, .dec true, .dec true, .call [0] [pC, n8 ad] [(0, some (bC c4))] (n8 (c4.regs ad)) 1 [(0, some (bC c4))], .dec true] [] rfl rfl ?_ (.inl rfl) (EndOK.plain rfl no_mem rfl rfl)
    simp only [true_and, and_true, and_assoc, bne_self_eq_false, beq_self_eq_true, beq_iff_eq, beq_eq_false_iff_ne, ne_eq, eD]
    repeat' apply And.intro
    all_goals first
      | exact True.intro
      | exact call0 k1 rfl
      | exact call0 awake_s rfl
      | exact ⟨k2, rfl, Fits.of rfl rfl ⟨⟨rfl, _, rfl, rfl, fun h => h⟩, trivial⟩⟩
      | exact call0 k3 rfl
      | exact ⟨f1, rfl, Fits.of rfl rfl ⟨⟨rfl, _, rfl, rfl, fun h => h⟩, ⟨rfl, _, rfl, rfl, fun h => h⟩, trivial⟩⟩
      | exact call0 k4 rfl
      | exact ⟨f2, rfl, Fits.of rfl rfl ⟨⟨rfl, _, rfl, rfl, fun h => h⟩, ⟨rfl, _, rfl, rfl, fun h => h⟩, trivial⟩⟩
      | exact call0 k5 rfl
      | exact ⟨f3, rfl, Fits.of rfl rfl ⟨⟨rfl, _, rfl, rfl, fun h => h⟩, ⟨rfl, _, rfl, rfl, fun h => h⟩, trivial⟩⟩
      | exact ⟨k6, rfl, Fits.of rfl rfl ⟨⟨rfl, _, rfl, rfl, fun h => h⟩, trivial⟩⟩
      | omega
      | (with_reducible show _ = true; kernel_rfl)
      | rfl
  · have a3 := a3 he
    refine SC.run hm Try.func5 rfl [.num ((d : Nat) : Int), .call [] [n64 d] [] (.tup [.s (.ptr (some (0, 0))), .s (.int .i64 0)]) 1 [(0, some (bC (ct0 d)))], .call [] [] [] (.s (.bool true)) 0 [], .dec false, .dec false,
      .call [0] [pC, n8 oth, n8 77] [(0, some (bC (ct0 d)))] (.tup []) 1 [(0, some (bC c1))], .call [] [n8 ad, n8 vv, n64 0, n64 1000] [] (.s (.ptr (some (0, 0)))) 1 [(0, some (bT tW))],
      .call [1, 0] [pT, pC1, n64 0, .s .emp] [(0, some (bT tW)), (1, some (bC c1))] (.tup [.s (.int .u8 ((t1.res : Nat) : Int)), .s (.int .i64 0), .s (.int .u64 ((n1 : Nat) : Int)), .s (.bool true)]) 2 [(0, some (bT t1)), (1, some (bC c2))], .dec false,
      .call [] [n8 ad, n64 n1, n64 1000] [] (.s (.ptr (some (0, 0)))) 1 [(0, some (bT tR))],
      .call [2, 0] [pT, pC1, n64 n1, .s .emp] [(0, some (bT tR)), (1, some (bC c2))] (.tup [.s (.int .u8 ((t2.res : Nat) : Int)), .s (.int .i64 0), .s (.int .u64 ((n2 : Nat) : Int)), .s (.bool true)]) 2 [(0, some (bT t2)), (1, some (bC c3))],
      .call [] [n8 oth, n64 n2, n64 1000] [] (.s (.ptr (some (0, 0)))) 1 [(0, some (bT tO))],
      .call [3, 0] [pT, pC1, n64 n2, .s (.slc none 0 (some 0))] [(0, some (bT tO)), (1, some (bC c3))] (.tup [.s (.int .u8 ((t3.res : Nat) : Int)), .s (.int .i64 0), .s (.int .u64 ((n3 : Nat) : Int)), .s (.bool true)]) 2 [(0, some (bT t3)), (1, some (bC c4))],
      .dec true, .dec true, .dec true, .dec false, .dec true, .call [0] [pC, n8 ad] [(0, some (bC c4))] (n8 (c4.regs ad)) 1 [(0, some (bC c4))], .dec true] [] rfl rfl ?_ (.inl rfl) (EndOK.plain rfl no_mem rfl rfl)
    simp only [true_and, and_true, and_assoc, bne_self_eq_false, beq_self_eq_true, beq_iff_eq, beq_eq_false_iff_ne, ne_eq, eD]
    repeat' apply And.intro
    all_goals first
      | exact True.intro
      | exact call0 k1 rfl
      | exact call0 awake_s rfl
      | exact ⟨k2, rfl, Fits.of rfl rfl ⟨⟨rfl, _, rfl, rfl, fun h => h⟩, trivial⟩⟩
      | exact call0 k3 rfl
      | exact ⟨f1, rfl, Fits.of rfl rfl ⟨⟨rfl, _, rfl, rfl, fun h => h⟩, ⟨rfl, _, rfl, rfl, fun h => h⟩, trivial⟩⟩
      | exact call0 k4 rfl
      | exact ⟨f2, rfl, Fits.of rfl rfl ⟨⟨rfl, _, rfl, rfl, fun h => h⟩, ⟨rfl, _, rfl, rfl, fun h => h⟩, trivial⟩⟩
      | exact call0 k5 rfl
      | exact ⟨f3, rfl, Fits.of rfl rfl ⟨⟨rfl, _, rfl, rfl, fun h => h⟩, ⟨rfl, _, rfl, rfl, fun h => h⟩, trivial⟩⟩
      | exact ⟨k6, rfl, Fits.of rfl rfl ⟨⟨rfl, _, rfl, rfl, fun h => h⟩, trivial⟩⟩
      | omega
      | (with_reducible show _ = true; kernel_rfl)
      | rfl

set_option maxHeartbeats 4000000 in
theorem back_B (D ad vv oth : Nat) (hD : D < 2 ^ 64) (ha : ad < 256) (hv : vv < 256) (ho : oth < 256) (ty : TypeId) (mr : Bool) (C : List S) (gi : Nat → Nat) (hgi : ∀ i, gi i < 256) (oo m : Nat) (cc : Option Nat) (hC : ∀ i, i < m → C[oo + i]? = some (.int .u8 ((gi i : Nat) : Int))) : SC Try.prog 5 [n64 D, n8 ad, n8 vv, n8 oth, .s (.slc (some (0, oo)) m cc)] 1 [(0, some (bRo ty mr C))] (.s (.bool true)) 1 [(0, some (bRo ty mr C))] := by
  have eD : Int.tmod ((D : Nat) : Int) 8 = ((D % 8 : Nat) : Int) := rfl
  have hd : D % 8 ≤ 7 := by omega
  generalize D % 8 = d at *
  have k1 := new_s d (by omega)
  have o0 : (ct0 d).ok := ct0_ok (by omega)
  have k2 := setRegister_s (ct0 d) oth 77 ho
  have o1 : ({ ct0 d with regs := upd (ct0 d).regs oth 77 } : Ct).ok := ⟨o0.now, o0.delay, o0.due, o0.inp, o0.adr, o0.out, o0.cmd, fun i => by show upd _ _ _ i < 256; unfold upd; split <;> first | decide | exact (by decide : (0 : Nat) < 256)⟩
  have r1 : ({ ct0 d with regs := upd (ct0 d).regs oth 77 } : Ct).regs = upd (fun _ => 0) oth 77 := rfl
  have z1 : ({ ct0 d with regs := upd (ct0 d).regs oth 77 } : Ct).delay = d ∧ ({ ct0 d with regs := upd (ct0 d).regs oth 77 } : Ct).pend = false ∧ ({ ct0 d with regs := upd (ct0 d).regs oth 77 } : Ct).full = false ∧ ({ ct0 d with regs := upd (ct0 d).regs oth 77 } : Ct).now = 0 := ⟨rfl, rfl, rfl, rfl⟩
  generalize ({ ct0 d with regs := upd (ct0 d).regs oth 77 } : Ct) = c1 at *
  have k3 := writeT_s ad vv 0 1000 (by decide) (by decide)
  have w1 : Fi true ad vv (upd (fun _ => 0) oth 77) d 0 0 ⟨129, ad, vv, sat 0 1000, 0, 0⟩ c1 0 := fi_start rfl rfl rfl rfl rfl z1.1 z1.2.1 z1.2.2.1 r1 (by omega)
  have tw : (⟨129, ad, vv, sat 0 1000, 0, 0⟩ : Tr).ok := ⟨(by decide : 129 < 256), ha, hv⟩
  have f1 := finish_B ⟨129, ad, vv, sat 0 1000, 0, 0⟩ c1 0 w1 o1 tw hd (by omega) ty mr C gi hgi oo m cc hC
  obtain ⟨g1, g2, g3, g4, g5⟩ := fn_end (wt := (vB gi m)) hd (by omega) (vB_le gi m) (vB_40 gi m) 200 0 _ _ _ w1 (by omega)
  obtain ⟨y1, o2⟩ := fn_ok (wt := (vB gi m)) (vB_le gi m) 200 ⟨129, ad, vv, sat 0 1000, 0, 0⟩ c1 0 0 o1 tw (by show 0 ≤ 6; omega) (by omega)
  obtain ⟨x1, x2, x3, _⟩ := pr5 g3 g1
  have x0 := g2.dl
  generalize hfa : fnM (vB gi m) 200 ⟨129, ad, vv, sat 0 1000, 0, 0⟩ c1 0 0 = Fa at *
  obtain ⟨t1, c2, n1⟩ := Fa
  dsimp only at *
  generalize (⟨129, ad, vv, sat 0 1000, 0, 0⟩ : Tr) = tW at *
  have k4 := read_s ad n1 1000 (by omega) (by decide)
  have b2 : n1 ≤ 1000 := Nat.le_trans g5 (by decide)
  have e2 : sat n1 1000 = n1 + 1000 := sat_a b2
  have w2 : Fi false ad 0 (upd (upd (fun _ => 0) oth 77) ad vv) d n1 0 ⟨128, ad, 0, sat n1 1000, 0, 0⟩ c2 n1 := fi_start rfl rfl rfl e2 rfl x0 x1 x2 x3 (by omega)
  have tr : (⟨128, ad, 0, sat n1 1000, 0, 0⟩ : Tr).ok := ⟨(by decide : 128 < 256), ha, (by decide : 0 < 256)⟩
  have f2 := finish_B ⟨128, ad, 0, sat n1 1000, 0, 0⟩ c2 n1 w2 o2 tr hd (by omega) ty mr C gi hgi oo m cc hC
  obtain ⟨g1', g2', g3', g4', g5'⟩ := fn_end (wt := (vB gi m)) hd (by omega) (vB_le gi m) (vB_40 gi m) 200 0 _ _ _ w2 (by omega)
  obtain ⟨y2, o3⟩ := fn_ok (wt := (vB gi m)) (vB_le gi m) 200 ⟨128, ad, 0, sat n1 1000, 0, 0⟩ c2 n1 0 o2 tr (by show 0 ≤ 6; omega) (by omega)
  obtain ⟨x1', x2', x3', x4'⟩ := pr5 g3' g1'
  have x0' := g2'.dl
  generalize hfb : fnM (vB gi m) 200 ⟨128, ad, 0, sat n1 1000, 0, 0⟩ c2 n1 0 = Fb at *
  obtain ⟨t2, c3, n2⟩ := Fb
  dsimp only at *
  generalize (⟨128, ad, 0, sat n1 1000, 0, 0⟩ : Tr) = tR at *
  have k5 := read_s oth n2 1000 (by omega) (by decide)
  have b3 : n2 ≤ 1000 := Nat.le_trans g5' (Nat.le_trans (Nat.add_le_add_right g5 300) (by decide))
  have e3 : sat n2 1000 = n2 + 1000 := sat_a b3
  have w3 : Fi false oth 0 (upd (upd (fun _ => 0) oth 77) ad vv) d n2 0 ⟨128, oth, 0, sat n2 1000, 0, 0⟩ c3 n2 := fi_start rfl rfl rfl e3 rfl x0' x1' x2' x3' (by omega)
  have to : (⟨128, oth, 0, sat n2 1000, 0, 0⟩ : Tr).ok := ⟨(by decide : 128 < 256), ho, (by decide : 0 < 256)⟩
  have f3 := finish_A ⟨128, oth, 0, sat n2 1000, 0, 0⟩ c3 n2 w3 o3 to hd (by omega)
  obtain ⟨g1'', g2'', g3'', g4'', g5''⟩ := fn_end (wt := v1) hd (by omega) (fun _ => (by decide : 1 ≤ 4)) (fun _ _ => rfl) 200 0 _ _ _ w3 (by omega)
  obtain ⟨x1'', x2'', x3'', x4''⟩ := pr5 g3'' g1''
  generalize hfc : fnM v1 200 ⟨128, oth, 0, sat n2 1000, 0, 0⟩ c3 n2 0 = Fc at *
  obtain ⟨t3, c4, n3⟩ := Fc
  dsimp only at *
  generalize (⟨128, oth, 0, sat n2 1000, 0, 0⟩ : Tr) = tO at *
  have k6 := register_s c4 ad ha
  have a1 : t2.res = vv := by rw [x4' rfl]; unfold upd; rw [if_pos rfl]
  have a2 : c4.regs ad = vv := by rw [x3'']; show upd (upd (fun _ => 0) oth 77) ad vv ad = vv; unfold upd; rw [if_pos rfl]
  have a3 : ¬ oth = ad → t3.res = 77 := fun hne => by rw [x4'' rfl]; unfold upd; rw [if_neg hne, if_pos rfl]
  by_cases he : oth = ad
  · skip
    refine SC.run hm Try.func5 rfl [.num ((d : Nat) : Int), .call [] [n64 d] [] (.tup [.s (.ptr (some (0, 0))), .s (.int .i64 0)]) 1 [(0, some (bC (ct0 d)))], .call [] [] [] (.s (.bool true)) 0 [], .dec false, .dec false,
      .call [1] [pC, n8 oth, n8 77] [(0, some (bC (ct0 d)))] (.tup []) 1 [(0, some (bC c1))], .call [] [n8 ad, n8 vv, n64 0, n64 1000] [] (.s (.ptr (some (0, 0)))) 1 [(0, some (bT tW))],
      .call [2, 1, 0] [pT, pC1, n64 0, .s (.slc (some (2, oo)) m cc)] [(0, some (bT tW)), (1, some (bC c1)), (2, some (bRo ty mr C))] (.tup [.s (.int .u8 ((t1.res : Nat) : Int)), .s (.int .i64 0), .s (.int .u64 ((n1 : Nat) : Int)), .s (.bool true)]) 3 [(0, some (bT t1)), (1, some (bC c2)), (2, some (bRo ty mr C))], .dec false,
      .call [] [n8 ad, n64 n1, n64 1000] [] (.s (.ptr (some (0, 0)))) 1 [(0, some (bT tR))],
      .call [3, 1, 0] [pT, pC1, n64 n1, .s (.slc (some (2, oo)) m cc)] [(0, some (bT tR)), (1, some (bC c2)), (2, some (bRo ty mr C))] (.tup [.s (.int .u8 ((t2.res : Nat) : Int)), .s (.int .i64 0), .s (.int .u64 ((n2 : Nat) : Int)), .s (.bool true)]) 3 [(0, some (bT t2)), (1, some (bC c3)), (2, some (bRo ty mr C))],
      .call [] [n8 oth, n64 n2, n64 1000] [] (.s (.ptr (some (0, 0)))) 1 [(0, some (bT tO))],
      .call [4, 1] [pT, pC1, n64 n2, .s (.slc none 0 (some 0))] [(0, some (bT tO)), (1, some (bC c3))] (.tup [.s (.int .u8 ((t3.res : Nat) : Int)), .s (.int .i64 0), .s (.int .u64 ((n3 : Nat) : Int)), .s (.bool true)]) 2 [(0, some (bT t3)), (1, some (bC c4))],
      .dec true, .dec true, .dec true, .dec true, .call [1] [pC, n8 ad] [(0, some (bC c4))] (n8 (c4.regs ad)) 1 [(0, some (bC c4))], .dec true] [] rfl rfl ?_ (.inl rfl) (EndOK.by rfl ⟨rfl, trivial⟩ rfl rfl rfl rfl)
    simp only [true_and, and_true, and_assoc, bne_self_eq_false, beq_self_eq_true, beq_iff_eq, beq_eq_false_iff_ne, ne_eq, eD]
    repeat' apply And.intro
    all_goals first
      | exact True.intro
      | exact call0 k1 rfl
      | exact call0 awake_s rfl
      | exact ⟨k2, rfl, Fits.of rfl rfl ⟨⟨rfl, _, rfl, rfl, fun h => h⟩, trivial⟩⟩
      | exact call0 k3 rfl
      | exact ⟨f1, rfl, Fits.of rfl rfl ⟨⟨rfl, _, rfl, rfl, fun h => h⟩, ⟨rfl, _, rfl, rfl, fun h => h⟩, ⟨rfl, _, rfl, rfl, fun h => h⟩, trivial⟩⟩
      | exact call0 k4 rfl
      | exact ⟨f2, rfl, Fits.of rfl rfl ⟨⟨rfl, _, rfl, rfl, fun h => h⟩, ⟨rfl, _, rfl, rfl, fun h => h⟩, ⟨rfl, _, rfl, rfl, fun h => h⟩, trivial⟩⟩
      | exact call0 k5 rfl
      | exact ⟨f3, rfl, Fits.of rfl rfl ⟨⟨rfl, _, rfl, rfl, fun h => h⟩, ⟨rfl, _, rfl, rfl, fun h => h⟩, trivial⟩⟩
      | exact ⟨k6, rfl, Fits.of rfl rfl ⟨⟨rfl, _, rfl, rfl, fun h => h⟩, trivial⟩⟩
      | omega
      | (with_reducible show _ = true; kernel_rfl)
      | rfl
  · have a3 := a3 he
    refine SC.run hm Try.func5 rfl [.num ((d : Nat) : Int), .call [] [n64 d] [] (.tup [.s (.ptr (some (0, 0))), .s (.int .i64 0)]) 1 [(0, some (bC (ct0 d)))], .call [] [] [] (.s (.bool true)) 0 [], .dec false, .dec false,
      .call [1] [pC, n8 oth, n8 77] [(0, some (bC (ct0 d)))] (.tup []) 1 [(0, some (bC c1))], .call [] [n8 ad, n8 vv, n64 0, n64 1000] [] (.s (.ptr (some (0, 0)))) 1 [(0, some (bT tW))],
      .call [2, 1, 0] [pT, pC1, n64 0, .s (.slc (some (2, oo)) m cc)] [(0, some (bT tW)), (1, some (bC c1)), (2, some (bRo ty mr C))] (.tup [.s (.int .u8 ((t1.res : Nat) : Int)), .s (.int .i64 0), .s (.int .u64 ((n1 : Nat) : Int)), .s (.bool true)]) 3 [(0, some (bT t1)), (1, some (bC c2)), (2, some (bRo ty mr C))], .dec false,
      .call [] [n8 ad, n64 n1, n64 1000] [] (.s (.ptr (some (0, 0)))) 1 [(0, some (bT tR))],
      .call [3, 1, 0] [pT, pC1, n64 n1, .s (.slc (some (2, oo)) m cc)] [(0, some (bT tR)), (1, some (bC c2)), (2, some (bRo ty mr C))] (.tup [.s (.int .u8 ((t2.res : Nat) : Int)), .s (.int .i64 0), .s (.int .u64 ((n2 : Nat) : Int)), .s (.bool true)]) 3 [(0, some (bT t2)), (1, some (bC c3)), (2, some (bRo ty mr C))],
      .call [] [n8 oth, n64 n2, n64 1000] [] (.s (.ptr (some (0, 0)))) 1 [(0, some (bT tO))],
      .call [4, 1] [pT, pC1, n64 n2, .s (.slc none 0 (some 0))] [(0, some (bT tO)), (1, some (bC c3))] (.tup [.s (.int .u8 ((t3.res : Nat) : Int)), .s (.int .i64 0), .s (.int .u64 ((n3 : Nat) : Int)), .s (.bool true)]) 2 [(0, some (bT t3)), (1, some (bC c4))],
      .dec true, .dec true, .dec true, .dec false, .dec true, .call [1] [pC, n8 ad] [(0, some (bC c4))] (n8 (c4.regs ad)) 1 [(0, some (bC c4))], .dec true] [] rfl rfl ?_ (.inl rfl) (EndOK.by rfl ⟨rfl, trivial⟩ rfl rfl rfl rfl)
    simp only [true_and, and_true, and_assoc, bne_self_eq_false, beq_self_eq_true, beq_iff_eq, beq_eq_false_iff_ne, ne_eq, eD]
    repeat' apply And.intro
    all_goals first
      | exact True.intro
      | exact call0 k1 rfl
      | exact call0 awake_s rfl
      | exact ⟨k2, rfl, Fits.of rfl rfl ⟨⟨rfl, _, rfl, rfl, fun h => h⟩, trivial⟩⟩
      | exact call0 k3 rfl
      | exact ⟨f1, rfl, Fits.of rfl rfl ⟨⟨rfl, _, rfl, rfl, fun h => h⟩, ⟨rfl, _, rfl, rfl, fun h => h⟩, ⟨rfl, _, rfl, rfl, fun h => h⟩, trivial⟩⟩
      | exact call0 k4 rfl
      | exact ⟨f2, rfl, Fits.of rfl rfl ⟨⟨rfl, _, rfl, rfl, fun h => h⟩, ⟨rfl, _, rfl, rfl, fun h => h⟩, ⟨rfl, _, rfl, rfl, fun h => h⟩, trivial⟩⟩
      | exact call0 k5 rfl
      | exact ⟨f3, rfl, Fits.of rfl rfl ⟨⟨rfl, _, rfl, rfl, fun h => h⟩, ⟨rfl, _, rfl, rfl, fun h => h⟩, trivial⟩⟩
      | exact ⟨k6, rfl, Fits.of rfl rfl ⟨⟨rfl, _, rfl, rfl, fun h => h⟩, trivial⟩⟩
      | omega
      | (with_reducible show _ = true; kernel_rfl)
      | rfl

end Go.Proofs.Ytimebhllnemnbaa
