/-
  EcTransactionsMatchModel: the states of its loop, and what keeps them in order.
-/
import Derived.Test.YtimebhllnemnbaaRc
set_option linter.unusedSimpArgs false
set_option linter.unusedVariables false
namespace Go.Proofs.Ytimebhllnemnbaa
namespace Ab
open Go
theorem Ex.perm {P : Program} {b : Nat} {c : Code} {env : List V} {n : Nat} {L L' : Hp} {x : Exit} {e : List V} {m : Nat} {M M' : Hp} (h : Ex P b c env n L (One x e m M)) (hL : ∀ i, lk L i = lk L' i) (hM : ∀ i, lk M i = lk M' i) : Ex P b c env n L' (One x e m M') := by
  intro φ a w h1 h2 h3 h4
  refine wp_mono (h φ a w h1 (h2.congr hL) h3 h4) ?_
  rintro x' a' w' ⟨φ', e', m', N, ⟨rfl, rfl, rfl, rfl⟩, g1, g2, g3, g4, g5, g6⟩
  refine ⟨φ', _, _, _, ⟨rfl, rfl, rfl, rfl⟩, g1, g2.congr fun i => (hM i).symm, g3, g4, ⟨g5.os, g5.tape, g5.output, g5.size, fun k hk hn => g5.keep k hk ?_, fun j bl d hj hd hlt => ?_⟩, g6⟩
  · rintro ⟨i, bl, d, hi, hp, hd, hro⟩
    exact hn ⟨i, bl, d, by rw [← hL i]; exact hi, hp, hd, hro⟩
  · obtain ⟨k, bk, d', hk, r⟩ := g5.fresh j bl d (by rw [hM j]; exact hj) hd hlt
    exact ⟨k, bk, d', by rw [← hL k]; exact hk, r⟩
theorem lk_swap {A B T : Hp} (h : apart A B = true) (i : Nat) : lk (A ++ (B ++ T)) i = lk (B ++ (A ++ T)) i := by
  have hd : i ∈ keys A → i ∉ keys B := by
    intro ha hb
    have := List.all_eq_true.1 h i hb
    rw [List.elem_eq_true_of_mem ha] at this; cases this
  rcases Classical.em (i ∈ keys A) with ha | ha
  · rw [lk_app_in ha, lk_app (hd ha), lk_app_in ha]
  · rw [lk_app ha]
    rcases Classical.em (i ∈ keys B) with hb | hb
    · rw [lk_app_in hb, lk_app_in hb]
    · rw [lk_app hb, lk_app hb, lk_app ha]
theorem okH_app {b : Nat} : ∀ {L F : Hp}, okH b L = true → okH b F = true → okH b (L ++ F) = true
  | [], F, _, h => h
  | (i, some bl) :: t, F, h, k => by
    simp only [okH, Bool.and_eq_true] at h
    simp only [List.cons_append, okH, Bool.and_eq_true]
    exact ⟨h.1, okH_app h.2 k⟩
  | (_, none) :: t, F, h, k => by
    simp only [okH] at h
    simp only [List.cons_append, okH]
    exact okH_app h k
end Ab
open Go Ab
set_option maxRecDepth 100000

theorem okS_up {a b : Nat} (h : a ≤ b) {x : S} (k : okS a x = true) : okS b x = true := by
  cases x with
  | ptr p =>
    cases p with
    | none => rfl
    | some q => simp only [okS, blt_iff] at *; omega
  | slc p _ _ =>
    cases p with
    | none => rfl
    | some q => simp only [okS, blt_iff] at *; omega
  | sla i g n => simp only [okS, Bool.and_eq_true, blt_iff] at *; omega
  | _ => rfl
theorem okH_up {a b : Nat} (h : a ≤ b) : ∀ {L : Hp}, okH a L = true → okH b L = true
  | [], _ => rfl
  | (i, some bl) :: t, k => by
    simp only [okH, Bool.and_eq_true, blt_iff] at k ⊢
    refine ⟨⟨by omega, ?_⟩, okH_up h k.2⟩
    have k2 := k.1.2
    unfold okB at k2 ⊢
    simp only [Bool.and_eq_true] at k2 ⊢
    refine ⟨?_, ?_⟩
    · cases hg : bl.gh with
      | none => rfl
      | some p => rw [hg] at k2; simp only [okG, blt_iff] at k2 ⊢; omega
    · cases hf : bl.flat with
      | true => rfl
      | false =>
        rw [hf] at k2
        simp only [List.all_eq_true] at k2 ⊢
        exact fun x hx => okS_up h (k2.2 x hx)
  | (_, none) :: t, k => okH_up h (L := t) k

structure Sx where
  c : Cq
  o : Nat
  now : Nat
  v : Bool
  ts : List Tx
structure Sx.ok (s : Sx) (j : Nat) : Prop where
  c : s.c.ok
  now : s.now ≤ 2 * j
  q : s.v = false → s.c.q = []
  len : s.ts.length ≤ 6
  ts : ∀ y ∈ s.ts, y.ok
def co (s : Sx) : Hp := match s.v with | false => coN s.c s.o | true => coQ s.c s.o
def mk1 (now tm kd : Nat) (x : OpV) : Tx := match kd / 3 % 3 with
  | 0 => ⟨tR (valM x.r false) now tm, 0, now, tm⟩
  | 1 => ⟨tW (valM x.r false) x.v now tm, 0, now, tm⟩
  | _ => ⟨tQ now tm, 0, now, tm⟩
def s0F (s : Sx) (x : OpV) : Sx := { s with now := s.now + x.p % 3 }
def s1F (s : Sx) (x : OpV) (tm nk i kd : Nat) : Sx := if i < nk ∧ kd % 3 = 0 ∧ s.ts.length < 6 then { s with ts := s.ts ++ [mk1 s.now tm kd x] } else s
def s2F (s : Sx) (x : OpV) (v : Nat) : Sx := if Int.tmod x.k 7 = 6 then { s with c := wrtq s.c s.now (v % 4) false } else s
def s3F (s : Sx) (x : OpV) (v : Nat) : Sx := if Int.tmod x.k 5 = 4 then { s with c := raiq s.c (1 + v % 8), v := true } else s
def nxT (s : Sx) (y : Tx) : Tx := ⟨(stepTq y.t s.c s.now).1, stepE y.t s.c y.pe s.now, y.st, y.tm⟩
def s4F (s : Sx) (x : OpV) : Sx := match s.ts[modM x.k s.ts.length]? with
  | some y => { s with ts := s.ts.set (modM x.k s.ts.length) (nxT s y), c := (stepTq y.t s.c s.now).2, o := stepO y.t s.c s.o s.now }
  | none => s
def rdF (s : Sx) (x : OpV) (v tm nk i kd : Nat) : Sx := s4F (s3F (s2F (s1F (s0F s x) x tm nk i kd) x v) x v) x

theorem stepLq_ok {now : Nat} (hn : now < 2 ^ 64) : ∀ (k : Nat) (t : Tr) (c : Cq), c.ok → t.ok → (stepLq k t c now).1.ok ∧ (stepLq k t c now).2.ok
  | 0, t, c, h, ht => ⟨ht, h⟩
  | k + 1, t, c, h, ht => by
    obtain ⟨o1, o2⟩ := actMq_ok (now := now) h hn ht
    simp only [stepLq]
    split
    · exact stepLq_ok hn k _ _ o2 o1
    · exact ⟨o1, o2⟩
theorem stepLq_q0 {now : Nat} : ∀ (k : Nat) (t : Tr) (c : Cq), c.q = [] → (stepLq k t c now).2.q = []
  | 0, t, c, h => h
  | k + 1, t, c, h => by
    simp only [stepLq]
    split
    · exact stepLq_q0 k _ _ (actMq_q0 t c now h)
    · exact actMq_q0 t c now h
theorem stepTq_ok {t : Tr} {c : Cq} {now : Nat} (h : c.ok) (hn : now < 2 ^ 64) (ht : t.ok) (h6 : t.ph ≤ 6) : (stepTq t c now).1.ok ∧ (stepTq t c now).2.ok ∧ (stepTq t c now).1.ph ≤ 6 ∧ (stepTq t c now).1.dl = t.dl := by
  unfold stepTq
  split
  · rename_i h4
    obtain ⟨o1, o2⟩ := stepLq_ok hn 7 t c h ht
    have hp := stepLq_ph (now := now) 7 t c h4
    refine ⟨?_, o2, ?_, ?_⟩
    · show (endT _ _).ok
      unfold endT; split
      · exact ⟨o1.cmd, o1.adr, o1.val⟩
      · exact o1
    · show (endT _ _).ph ≤ 6
      unfold endT; split
      · show 6 ≤ 6; omega
      · omega
    · show (endT _ _).dl = t.dl
      unfold endT; split
      · exact hp.2
      · exact hp.2
  · exact ⟨ht, h, h6, rfl⟩
theorem stepTq_q0 {t : Tr} {c : Cq} {now : Nat} (h : c.q = []) : (stepTq t c now).2.q = [] := by
  unfold stepTq
  split
  · exact stepLq_q0 7 t c h
  · exact h
theorem nxT_ok {s : Sx} {j : Nat} (h : s.ok j) (hj : j < 1000) {y : Tx} (hy : y.ok) : (nxT s y).ok := by
  have hn := h.now
  obtain ⟨q1, q2, q3, q4⟩ := stepTq_ok (now := s.now) h.c (by omega) hy.t hy.ph
  exact ⟨q1, q3, hy.st, hy.tm, q4.trans hy.dl⟩
theorem s0_ok {s : Sx} {j : Nat} (h : s.ok j) {x : OpV} : (s0F s x).ok (j + 1) := ⟨h.c, by have := h.now; show s.now + x.p % 3 ≤ _; omega, h.q, h.len, h.ts⟩
theorem mk1_ok {now tm kd : Nat} {x : OpV} (hx : x.ok) (hn : now < 2 ^ 64) (ht : tm < 2 ^ 64) : (mk1 now tm kd x).ok := by
  unfold mk1
  split
  · exact ⟨⟨(by decide : 128 < 256), valM_lt hx.r false, (by decide : 0 < 256)⟩, (by decide : 0 ≤ 6), hn, ht, rfl⟩
  · exact ⟨⟨(by decide : 129 < 256), valM_lt hx.r false, hx.v⟩, (by decide : 0 ≤ 6), hn, ht, rfl⟩
  · exact ⟨⟨(by decide : 132 < 256), (by decide : 0 < 256), (by decide : 0 < 256)⟩, (by decide : 0 ≤ 6), hn, ht, rfl⟩
theorem s1_ok {s : Sx} {j : Nat} (h : s.ok j) (hj : j < 1000) {x : OpV} (hx : x.ok) {tm nk i kd : Nat} (ht : tm < 2 ^ 64) : (s1F s x tm nk i kd).ok j := by
  have hn := h.now
  unfold s1F
  split
  · rename_i hc
    refine ⟨h.c, h.now, h.q, ?_, fun y hy => ?_⟩
    · show (s.ts ++ [_]).length ≤ 6
      rw [List.length_append, List.length_singleton]; omega
    · rcases List.mem_append.1 hy with hy | hy
      · exact h.ts y hy
      · simp at hy; rw [hy]; exact mk1_ok hx (by omega) ht
  · exact h
theorem s2_ok {s : Sx} {j : Nat} (h : s.ok j) (hj : j < 1000) {x : OpV} {v : Nat} : (s2F s x v).ok j := by
  have hn := h.now
  unfold s2F
  split
  · exact ⟨wrtq_ok h.c (by omega) (by omega), h.now, fun e => wrtq_q0 _ _ _ _ (h.q e), h.len, h.ts⟩
  · exact h
theorem s3_ok {s : Sx} {j : Nat} (h : s.ok j) {x : OpV} {v : Nat} : (s3F s x v).ok j := by
  unfold s3F
  split
  · exact ⟨raiq_ok h.c (by omega), h.now, (fun e => by cases e), h.len, h.ts⟩
  · exact h
theorem s4_ok {s : Sx} {j : Nat} (h : s.ok j) (hj : j < 1000) {x : OpV} : (s4F s x).ok j := by
  have hn := h.now
  unfold s4F
  split
  · rename_i y hy
    have hym := List.mem_of_getElem? hy
    have hyo := h.ts y hym
    obtain ⟨q1, q2, q3, q4⟩ := stepTq_ok (now := s.now) h.c (by omega) hyo.t hyo.ph
    refine ⟨q2, h.now, fun e => stepTq_q0 (h.q e), ?_, fun z hz => ?_⟩
    · show (s.ts.set _ _).length ≤ 6
      rw [List.length_set]; exact h.len
    · rcases List.mem_or_eq_of_mem_set hz with hz | hz
      · exact h.ts z hz
      · rw [hz]; exact nxT_ok h hj hyo
  · exact h

end Go.Proofs.Ytimebhllnemnbaa
