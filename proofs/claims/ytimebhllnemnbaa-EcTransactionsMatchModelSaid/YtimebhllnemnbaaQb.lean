/-
  The embedded controller with its queue: bytes take effect, time passes.
-/
import Derived.Test.YtimebhllnemnbaaQa
set_option linter.unusedSimpArgs false
set_option linter.unusedVariables false
namespace Go.Proofs.Ytimebhllnemnbaa
open Go Ab
set_option maxRecDepth 100000

theorem reg_ldq (c : Cq) (s : S) {i : Nat} (h : i < 256) {t : TypeId} : ldAt false 1 { cells := c.c s, ty := t } (plus 2 i) = some (.s (.int .u8 ((c.regs i : Nat) : Int))) := by
  rw [plus_eq]
  simp only [ldAt, Cq.c]
  have : (u64 c.delay :: u64 c.now :: (mkL (fun i => .int .u8 ((c.regs i : Nat) : Int)) 0 256 ++ [s, .bool c.pend, .bool c.isC, .int .u8 ((c.inp : Nat) : Int), .int .u64 ((c.due : Nat) : Int), .bool c.full, .int .u8 ((c.out : Nat) : Int), .int .u8 ((c.cmd : Nat) : Int), .bool c.hasA, .int .u8 ((c.adr : Nat) : Int)]))[2 + i]? = some (.int .u8 ((c.regs i : Nat) : Int)) := by
    rw [show 2 + i = i + 1 + 1 by omega, List.getElem?_cons_succ, List.getElem?_cons_succ, List.getElem?_append_left (by rw [mkL_len]; exact h), mkL_get _ _ _ _ h, Nat.zero_add]
  rw [this]
theorem reg_stq (c : Cq) (s : S) {i v : Nat} (h : i < 256) : ({ c with regs := upd c.regs i v } : Cq).c s = setL (c.c s) (plus 2 i) [.int .u8 ((v : Nat) : Int)] := by
  rw [plus_eq]
  simp only [Cq.c, setL]
  rw [show 2 + i = i + 1 + 1 by omega, List.set_cons_succ, List.set_cons_succ, List.set_append_left _ _ (by rw [mkL_len]; exact h), mkL_set _ _ _ _ _ h]
  congr 4
  funext j
  simp only [upd, Nat.zero_add]
  split <;> rfl
theorem cq_len (c : Cq) (s : S) : (c.c s).length = 268 := by simp [Cq.c, mkL_len]

def tkDq (c : Cq) (v : Nat) : Cq :=
  if c.cmd = 128 then { c with full := true, out := c.regs v, cmd := 0 }
  else if c.cmd = 129 then (match c.hasA with | false => { c with adr := v, hasA := true } | true => { c with regs := upd c.regs c.adr v, cmd := 0, hasA := false })
  else c
def tkCq (c : Cq) (v : Nat) : Cq :=
  if v = 128 ∨ v = 129 then { c with cmd := v, hasA := false }
  else if v = 132 then { c with cmd := 0, hasA := false, full := true, out := c.q.headD 0, q := c.q.tail }
  else { c with cmd := 0, hasA := false }
def tickq (c : Cq) (t : Nat) : Cq := { c with now := max c.now t }
def advq (c : Cq) (t : Nat) : Cq :=
  match c.pend && decide (c.due ≤ max c.now t) with
  | false => tickq c t
  | true => (match c.isC with | true => tkCq { tickq c t with pend := false } c.inp | false => tkDq { tickq c t with pend := false } c.inp)
structure Cq.ok (c : Cq) : Prop where
  now : c.now < 2 ^ 64
  delay : c.delay < 2 ^ 64
  due : c.due < 2 ^ 64
  inp : c.inp < 256
  adr : c.adr < 256
  out : c.out < 256
  cmd : c.cmd < 256
  regs : ∀ i, c.regs i < 256
  q : ∀ x ∈ c.q, x < 256
  ql : c.q.length ≤ 16
  emp : c.full = false → c.out = 0

theorem register_Q (c : Cq) (i : Nat) (h : i < 256) : SC Try.prog 16 [pC, n8 i] 3 [(0, some (bQ c 1 2))] (n8 (c.regs i)) 3 [(0, some (bQ c 1 2))] := by
  refine SC.run hm Try.func16 rfl [.idx i, .ldv (n8 (c.regs i))] [] rfl rfl ?_ (.inl rfl) (EndOK.by rfl ⟨rfl, trivial⟩ rfl rfl rfl rfl)
  simp only [true_and, and_true, and_assoc]
  exact ⟨by omega, reg_ldq c _ h⟩
theorem setRegister_Q (c : Cq) (i v : Nat) (h : i < 256) : SC Try.prog 14 [pC, n8 i, n8 v] 3 [(0, some (bQ c 1 2))] (.tup []) 3 [(0, some (bQ { c with regs := upd c.regs i v } 1 2))] := by
  refine SC.run hm Try.func14 rfl [.idx i, .stc (({ c with regs := upd c.regs i v } : Cq).c (.sla 1 2 c.q.length))] [] rfl rfl ?_ (.inr rfl) (EndOK.by rfl ⟨rfl, trivial⟩ rfl rfl rfl rfl)
  simp only [true_and, and_true, and_assoc]
  refine ⟨by omega, ?_, reg_stq c _ h⟩
  show plus 2 i + 1 ≤ (c.c _).length
  rw [cq_len, plus_eq]; omega

theorem takeData_Q (c : Cq) (v : Nat) (h : v < 256) (ha : c.adr < 256) : SC Try.prog 47 [pC, n8 v] 3 [(0, some (bQ c 1 2))] (.tup []) 3 [(0, some (bQ (tkDq c v) 1 2))] := by
  by_cases h1 : c.cmd = 128
  · rw [show tkDq c v = { c with full := true, out := c.regs v, cmd := 0 } by simp [tkDq, h1]]
    refine SC.run hm Try.func47 rfl [.dec true, .idx v, .ldv (n8 (c.regs v)), .call [0, 1, 2] [pC, n8 (c.regs v)] [(0, some (bQ c 1 2))] (.tup []) 3 [(0, some (bQ { c with full := true, out := c.regs v } 1 2))]] [] rfl rfl ?_ (.inr rfl) (EndOK.by rfl ⟨rfl, trivial⟩ rfl rfl rfl rfl)
    simp only [true_and, and_true, and_assoc, beq_iff_eq]
    exact ⟨by omega, by omega, reg_ldq c _ h, by kernel_rfl, put_Q c (c.regs v), rfl, Fits.of rfl rfl ⟨⟨rfl, _, rfl, rfl, fun h => h⟩, trivial⟩⟩
  by_cases h2 : c.cmd = 129
  · cases h3 : c.hasA with
    | false =>
      rw [show tkDq c v = { c with adr := v, hasA := true } by simp [tkDq, h1, h2, h3]]
      refine SC.run hm Try.func47 rfl [.dec false, .dec true, .ldv (.s (.bool false))] [] rfl rfl ?_ (.inr rfl) (EndOK.by rfl ⟨rfl, trivial⟩ rfl rfl rfl rfl)
      simp only [true_and, and_true, and_assoc, beq_eq_false_iff_ne, beq_iff_eq, ne_eq]
      refine ⟨by omega, by omega, ?_⟩
      show some (V.s (S.bool c.hasA)) = _; rw [h3]
    | true =>
      rw [show tkDq c v = { c with regs := upd c.regs c.adr v, cmd := 0, hasA := false } by simp [tkDq, h1, h2, h3]]
      refine SC.run hm Try.func47 rfl [.dec false, .dec true, .ldv (.s (.bool true)), .dec true, .idx c.adr, .stc (({ c with regs := upd c.regs c.adr v } : Cq).c (.sla 1 2 c.q.length))] [] rfl rfl ?_ (.inr rfl) (EndOK.by rfl ⟨rfl, trivial⟩ rfl rfl rfl rfl)
      simp only [true_and, and_true, and_assoc, beq_eq_false_iff_ne, beq_iff_eq, ne_eq]
      refine ⟨by omega, by omega, ?_, by omega, by omega, ?_, reg_stq c _ ha, by kernel_rfl⟩
      · show some (V.s (S.bool c.hasA)) = _; rw [h3]
      · show plus 2 c.adr + 1 ≤ (c.c _).length
        rw [cq_len, plus_eq]; omega
  · rw [show tkDq c v = c by simp [tkDq, h1, h2]]
    refine SC.run hm Try.func47 rfl [.dec false, .dec false, .dec false] [] rfl rfl ?_ (.inr rfl) (EndOK.by rfl ⟨rfl, trivial⟩ rfl rfl rfl rfl)
    simp only [true_and, and_true, and_assoc, beq_eq_false_iff_ne, ne_eq]
    omega

/-- what a call hands back that may take from the queue or put into it -/
def eQ (c : Cq) : Hp := [(0, some (bQ c 3 4)), (1, none), (3, some (qB c.q 4))]
def sQ (c : Cq) : Hp := [(0, some (bQ c 1 2)), (1, some (qB c.q 2))]

theorem takeCommand_Q (c : Cq) (v : Nat) : SC Try.prog 46 [pC, n8 v] 3 (sQ c) (.tup []) 5 (eQ (tkCq c v)) := by
  by_cases h1 : v = 128
  · rw [show tkCq c v = { c with cmd := v, hasA := false } by simp [tkCq, h1]]
    refine SC.run hm Try.func46 rfl [.dec true] [1, 2] rfl rfl ?_ (.inr rfl) (EndOK.move rfl ⟨rfl, rfl, trivial⟩ rfl rfl rfl rfl rfl)
    simp only [true_and, and_true, and_assoc, beq_iff_eq]
    omega
  by_cases h2 : v = 129
  · rw [show tkCq c v = { c with cmd := v, hasA := false } by simp [tkCq, h2]]
    refine SC.run hm Try.func46 rfl [.dec false, .dec true] [1, 2] rfl rfl ?_ (.inr rfl) (EndOK.move rfl ⟨rfl, rfl, trivial⟩ rfl rfl rfl rfl rfl)
    simp only [true_and, and_true, and_assoc, beq_eq_false_iff_ne, beq_iff_eq, ne_eq]
    omega
  by_cases h3 : v = 132
  · rw [show tkCq c v = { c with cmd := 0, hasA := false, full := true, out := c.q.headD 0, q := c.q.tail } by simp [tkCq, h3]]
    cases hq : c.q with
    | nil =>
      have h0 : c.q.length = 0 := by rw [hq]; rfl
      have e : ({ c with cmd := 0, hasA := false, full := true, out := ([] : List Nat).headD 0, q := ([] : List Nat).tail } : Cq) = { c with cmd := 0, hasA := false, full := true, out := 0 } := by rw [← hq]; rw [hq]; cases c; dsimp only at hq; subst hq; rfl
      rw [e]
      refine SC.run hm Try.func46 rfl [.dec false, .dec false, .dec true, .dec false, .call [0, 1, 2] [pC, n8 0] [(0, some (bQ { c with cmd := 0, hasA := false } 1 2))] (.tup []) 3 [(0, some (bQ { c with cmd := 0, hasA := false, full := true, out := 0 } 1 2))]] [1, 2] rfl rfl ?_ (.inr rfl) (EndOK.move rfl ⟨rfl, rfl, trivial⟩ rfl rfl rfl rfl rfl)
      simp only [true_and, and_true, and_assoc, beq_eq_false_iff_ne, beq_iff_eq, ne_eq, decide_eq_false_iff_not]
      exact ⟨by omega, by omega, by omega, by omega, by kernel_rfl, put_Q { c with cmd := 0, hasA := false } 0, rfl, Fits.of rfl rfl ⟨⟨rfl, _, rfl, rfl, fun h => h⟩, trivial⟩⟩
    | cons x r =>
      subst h3
      have := takeQuery_Q c x r hq
      exact this
  · rw [show tkCq c v = { c with cmd := 0, hasA := false } by simp [tkCq, h1, h2, h3]]
    refine SC.run hm Try.func46 rfl [.dec false, .dec false, .dec false] [1, 2] rfl rfl ?_ (.inr rfl) (EndOK.move rfl ⟨rfl, rfl, trivial⟩ rfl rfl rfl rfl rfl)
    simp only [true_and, and_true, and_assoc, beq_eq_false_iff_ne, ne_eq]
    omega

theorem tkDq_q (c : Cq) (v : Nat) : (tkDq c v).q = c.q := by
  unfold tkDq
  split
  · rfl
  · split
    · split <;> rfl
    · rfl

theorem advance_Q (c : Cq) (t : Nat) (h : c.ok) : SC Try.prog 41 [pC, n64 t] 3 (sQ c) (.tup []) 5 (eQ (advq c t)) := by
  have hmx := max_nat c.now t
  cases hp : c.pend with
  | false =>
    rw [show advq c t = tickq c t by simp [advq, hp]]
    refine SC.run hm Try.func41 rfl [.num ((max c.now t : Nat) : Int), .ldv (.s (.bool false))] [1, 2] rfl rfl ?_ (.inl rfl) (EndOK.move rfl ⟨rfl, rfl, trivial⟩ rfl rfl rfl rfl rfl)
    simp only [true_and, and_true, and_assoc]
    refine ⟨hmx, ?_, by kernel_rfl⟩
    show some (V.s (S.bool c.pend)) = _; rw [hp]
  | true =>
    by_cases hd : c.due ≤ max c.now t
    · cases hc : c.isC with
      | true =>
        rw [show advq c t = tkCq { tickq c t with pend := false } c.inp by simp [advq, hp, hd, hc]]
        refine SC.run hm Try.func41 rfl [.num ((max c.now t : Nat) : Int), .ldv (.s (.bool true)), .dec false, .ldv (.s (.bool true)), .call [0, 1, 2] [pC, n8 c.inp] (sQ { tickq c t with pend := false }) (.tup []) 5 (eQ (tkCq { tickq c t with pend := false } c.inp))] [3, 4] rfl rfl ?_ (.inr rfl) (EndOK.move rfl ⟨rfl, rfl, trivial⟩ rfl rfl rfl rfl rfl)
        simp only [true_and, and_true, and_assoc, decide_eq_false_iff_not]
        refine ⟨hmx, ?_, by omega, by kernel_rfl, ?_, by kernel_rfl, takeCommand_Q _ _, rfl, Fits.of rfl rfl ⟨⟨rfl, _, rfl, rfl, fun h => h⟩, ⟨rfl, _, rfl, rfl, fun h => h⟩, trivial⟩⟩
        · show some (V.s (S.bool c.pend)) = _; rw [hp]
        · show some (V.s (S.bool c.isC)) = _; rw [hc]
      | false =>
        rw [show advq c t = tkDq { tickq c t with pend := false } c.inp by simp [advq, hp, hd, hc]]
        have hqq : (tkDq { tickq c t with pend := false } c.inp).q = c.q := tkDq_q _ _
        have hb : qB c.q 2 = qB (tkDq { tickq c t with pend := false } c.inp).q 2 := by rw [hqq]
        refine SC.run hm Try.func41 rfl [.num ((max c.now t : Nat) : Int), .ldv (.s (.bool true)), .dec false, .ldv (.s (.bool false)), .call [0, 1, 2] [pC, n8 c.inp] [(0, some (bQ { tickq c t with pend := false } 1 2))] (.tup []) 3 [(0, some (bQ (tkDq { tickq c t with pend := false } c.inp) 1 2))]] [1, 2] rfl rfl ?_ (.inr rfl) (EndOK.move rfl ⟨rfl, congrArg some hb, trivial⟩ rfl rfl rfl rfl rfl)
        simp only [true_and, and_true, and_assoc, decide_eq_false_iff_not]
        refine ⟨hmx, ?_, by omega, by kernel_rfl, ?_, by kernel_rfl, takeData_Q _ _ h.inp h.adr, rfl, Fits.of rfl rfl ⟨⟨rfl, _, rfl, rfl, fun h => h⟩, trivial⟩⟩
        · show some (V.s (S.bool c.pend)) = _; rw [hp]
        · show some (V.s (S.bool c.isC)) = _; rw [hc]
    · rw [show advq c t = tickq c t by simp [advq, hp, hd]]
      refine SC.run hm Try.func41 rfl [.num ((max c.now t : Nat) : Int), .ldv (.s (.bool true)), .dec true] [1, 2] rfl rfl ?_ (.inl rfl) (EndOK.move rfl ⟨rfl, rfl, trivial⟩ rfl rfl rfl rfl rfl)
      simp only [true_and, and_true, and_assoc, decide_eq_true_eq]
      refine ⟨hmx, ?_, by omega, by kernel_rfl⟩
      show some (V.s (S.bool c.pend)) = _; rw [hp]

end Go.Proofs.Ytimebhllnemnbaa
