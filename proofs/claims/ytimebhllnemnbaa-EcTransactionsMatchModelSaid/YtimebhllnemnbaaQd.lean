/-
  The reference controller: its state and its functions, with an empty queue that is nil (N) and with a queue (Q).
-/
import Derived.Test.YtimebhllnemnbaaQc
set_option linter.unusedSimpArgs false
set_option linter.unusedVariables false
namespace Go.Proofs.Ytimebhllnemnbaa
open Go Ab
set_option maxRecDepth 100000

/-- the address, or -1 -/
def Cq.adI (c : Cq) : Int := match c.hasA with | true => ((c.adr : Nat) : Int) | false => -1
/-- the output byte; o is one that has been read -/
def Cq.ou (c : Cq) (o : Nat) : Nat := match c.full with | true => c.out | false => o
/-- the cells of the reference controller -/
def Cq.r (c : Cq) (o : Nat) (s : S) : List S := u64 c.delay :: u64 c.now :: (mkL (fun i => .int .u8 ((c.regs i : Nat) : Int)) 0 256 ++ [.bool c.pend, .int .u8 ((c.inp : Nat) : Int), .bool c.isC, .int .u64 ((c.due : Nat) : Int), .bool c.full, .int .u8 ((c.ou o : Nat) : Int), s, .int .u8 ((c.cmd : Nat) : Int), .int .i64 c.adI])
def bR (c : Cq) (o : Nat) (s : S) : Bl := { cells := c.r o s, ty := 70 }
def sR (c : Cq) (o : Nat) : Hp := [(0, some (bR c o (.sla 1 2 c.q.length))), (1, some (qB c.q 2))]
def eR (c : Cq) (o : Nat) : Hp := [(0, some (bR c o (.sla 3 4 c.q.length))), (1, none), (3, some (qB c.q 4))]
theorem reg_ldr (c : Cq) (o : Nat) (s : S) {i : Nat} (h : i < 256) {t : TypeId} : ldAt false 1 { cells := c.r o s, ty := t } (plus 2 i) = some (.s (.int .u8 ((c.regs i : Nat) : Int))) := by
  rw [plus_eq]
  simp only [ldAt, Cq.r]
  have : (u64 c.delay :: u64 c.now :: (mkL (fun i => .int .u8 ((c.regs i : Nat) : Int)) 0 256 ++ [.bool c.pend, .int .u8 ((c.inp : Nat) : Int), .bool c.isC, .int .u64 ((c.due : Nat) : Int), .bool c.full, .int .u8 ((c.ou o : Nat) : Int), s, .int .u8 ((c.cmd : Nat) : Int), .int .i64 c.adI]))[2 + i]? = some (.int .u8 ((c.regs i : Nat) : Int)) := by
    rw [show 2 + i = i + 1 + 1 by omega, List.getElem?_cons_succ, List.getElem?_cons_succ, List.getElem?_append_left (by rw [mkL_len]; exact h), mkL_get _ _ _ _ h, Nat.zero_add]
  rw [this]
theorem reg_str (c : Cq) (o : Nat) (s : S) {i v : Nat} (h : i < 256) : ({ c with regs := upd c.regs i v } : Cq).r o s = setL (c.r o s) (plus 2 i) [.int .u8 ((v : Nat) : Int)] := by
  rw [plus_eq]
  simp only [Cq.r, setL]
  rw [show 2 + i = i + 1 + 1 by omega, List.set_cons_succ, List.set_cons_succ, List.set_append_left _ _ (by rw [mkL_len]; exact h), mkL_set _ _ _ _ _ h]
  congr 4
  funext j
  simp only [upd, Nat.zero_add]
  split <;> rfl
theorem cr_len (c : Cq) (o : Nat) (s : S) : (c.r o s).length = 267 := by simp [Cq.r, mkL_len]

theorem sum_s (a b : Nat) (ha : a < 2 ^ 64) (hb : b < 2 ^ 64) : SC Try.prog 44 [n64 a, n64 b] 0 [] (n64 (sat a b)) 0 [] := by
  by_cases h : a + b < 2 ^ 64
  · rw [show sat a b = a + b by unfold sat; omega]
    refine SC.run hm Try.func44 rfl [.num ((18446744073709551615 - b : Nat) : Int), .dec false, .num ((a + b : Nat) : Int)] [] rfl rfl ?_ (.inl rfl) (EndOK.plain rfl no_mem rfl rfl)
    simp only [true_and, and_true, and_assoc, decide_eq_false_iff_not]
    refine ⟨?_, by omega, ?_⟩
    · rw [u64_in] <;> omega
    · rw [u64_in] <;> omega
  · rw [show sat a b = 18446744073709551615 by unfold sat; omega]
    refine SC.run hm Try.func44 rfl [.num ((18446744073709551615 - b : Nat) : Int), .dec true] [] rfl rfl ?_ (.inl rfl) (EndOK.plain rfl no_mem rfl rfl)
    simp only [true_and, and_true, and_assoc, decide_eq_true_eq]
    refine ⟨?_, by omega⟩
    rw [u64_in] <;> omega
theorem newC_s (d : Nat) : SC Try.prog 17 [n64 d] 0 [] (.s (.ptr (some (0, 0)))) 1 [(0, some (bR ⟨d, 0, fun _ => 0, false, false, 0, 0, false, 0, 0, false, 0, []⟩ 0 nilS))] := by
  refine SC.run hm Try.func17 rfl [] [0] rfl rfl ?_ (.inl rfl) (EndOK.by rfl ⟨rfl, trivial⟩ rfl rfl rfl rfl)
  simp only [true_and, and_true]

/-! ### variant N -/
theorem rput_N (c : Cq) (o v : Nat) : SC Try.prog 49 [pC, n8 v] 1 [(0, some (bR c o nilS))] (.tup []) 1 [(0, some (bR ({ c with full := true, out := v } : Cq) o nilS))] := by
  refine SC.run hm Try.func49 rfl [] [] rfl rfl ?_ (.inr rfl) (EndOK.by rfl ⟨rfl, trivial⟩ rfl rfl rfl rfl)
  simp only [true_and, and_true]
theorem rregister_N (c : Cq) (o i : Nat) (h : i < 256) : SC Try.prog 31 [pC, n8 i] 1 [(0, some (bR c o nilS))] (n8 (c.regs i)) 1 [(0, some (bR c o nilS))] := by
  refine SC.run hm Try.func31 rfl [.idx i, .ldv (n8 (c.regs i))] [] rfl rfl ?_ (.inl rfl) (EndOK.by rfl ⟨rfl, trivial⟩ rfl rfl rfl rfl)
  simp only [true_and, and_true, and_assoc]
  exact ⟨by omega, reg_ldr c o _ h⟩
theorem rsetRegister_N (c : Cq) (o i v : Nat) (h : i < 256) : SC Try.prog 28 [pC, n8 i, n8 v] 1 [(0, some (bR c o nilS))] (.tup []) 1 [(0, some (bR ({ c with regs := upd c.regs i v } : Cq) o nilS))] := by
  refine SC.run hm Try.func28 rfl [.idx i, .stc (({ c with regs := upd c.regs i v } : Cq).r o nilS)] [] rfl rfl ?_ (.inr rfl) (EndOK.by rfl ⟨rfl, trivial⟩ rfl rfl rfl rfl)
  simp only [true_and, and_true, and_assoc]
  refine ⟨by omega, ?_, reg_str c o _ h⟩
  show plus 2 i + 1 ≤ (c.r o _).length
  rw [cr_len, plus_eq]; omega
theorem rstart_N (c : Cq) (o : Nat) (hq : c.q = []) : SC Try.prog 48 [pC] 1 [(0, some (bR c o nilS))] (.tup []) 1 [(0, some (bR (tkCq c c.inp) o nilS))] := by
  by_cases h1 : c.inp = 128
  · rw [show tkCq c c.inp = { c with cmd := c.inp, hasA := false } by simp [tkCq, h1]]
    refine SC.run hm Try.func48 rfl [.dec true] [] rfl rfl ?_ (.inr rfl) (EndOK.by rfl ⟨rfl, trivial⟩ rfl rfl rfl rfl)
    simp only [true_and, and_true, and_assoc, beq_iff_eq]
    omega
  by_cases h2 : c.inp = 129
  · rw [show tkCq c c.inp = { c with cmd := c.inp, hasA := false } by simp [tkCq, h2]]
    refine SC.run hm Try.func48 rfl [.dec false, .dec true] [] rfl rfl ?_ (.inr rfl) (EndOK.by rfl ⟨rfl, trivial⟩ rfl rfl rfl rfl)
    simp only [true_and, and_true, and_assoc, beq_eq_false_iff_ne, beq_iff_eq, ne_eq]
    omega
  by_cases h3 : c.inp = 132
  · have e : tkCq c c.inp = ({ c with cmd := 0, hasA := false, full := true, out := 0 } : Cq) := by
      cases c; dsimp only at hq h3; subst hq; subst h3; rfl
    rw [e]
    refine SC.run hm Try.func48 rfl [.dec false, .dec false, .dec true, .dec false, .call [0] [pC, n8 0] [(0, some (bR ({ c with cmd := 0, hasA := false } : Cq) o nilS))] (.tup []) 1 [(0, some (bR ({ c with cmd := 0, hasA := false, full := true, out := 0 } : Cq) o nilS))]] [] rfl rfl ?_ (.inr rfl) (EndOK.by rfl ⟨rfl, trivial⟩ rfl rfl rfl rfl)
    simp only [true_and, and_true, and_assoc, beq_eq_false_iff_ne, beq_iff_eq, ne_eq, decide_eq_false_iff_not]
    exact ⟨by omega, by omega, by omega, by omega, by kernel_rfl, rput_N ({ c with cmd := 0, hasA := false } : Cq) o 0, rfl, Fits.of rfl rfl ⟨⟨rfl, _, rfl, rfl, fun h => h⟩, trivial⟩⟩
  · rw [show tkCq c c.inp = { c with cmd := 0, hasA := false } by simp [tkCq, h1, h2, h3]]
    refine SC.run hm Try.func48 rfl [.dec false, .dec false, .dec false] [] rfl rfl ?_ (.inr rfl) (EndOK.by rfl ⟨rfl, trivial⟩ rfl rfl rfl rfl)
    simp only [true_and, and_true, and_assoc, beq_eq_false_iff_ne, ne_eq]
    omega
set_option maxHeartbeats 2000000 in
theorem radvance_N (c : Cq) (o t : Nat) (h : c.ok) (hq : c.q = []) : SC Try.prog 42 [pC, n64 t] 1 [(0, some (bR c o nilS))] (.tup []) 1 [(0, some (bR (advq c t) o nilS))] := by
  have hmx := max_nat c.now t
  cases hp : c.pend with
  | false =>
    rw [show advq c t = tickq c t by simp [advq, hp]]
    refine SC.run hm Try.func42 rfl [.num ((max c.now t : Nat) : Int), .ldv (.s (.bool false))] [] rfl rfl ?_ (.inl rfl) (EndOK.by rfl ⟨rfl, trivial⟩ rfl rfl rfl rfl)
    simp only [true_and, and_true, and_assoc]
    refine ⟨hmx, ?_, by kernel_rfl⟩
    show some (V.s (S.bool c.pend)) = _; rw [hp]
  | true =>
    by_cases hd : c.due ≤ max c.now t
    · cases hc : c.isC with
      | true =>
        rw [show advq c t = tkCq ({ tickq c t with pend := false } : Cq) c.inp by simp [advq, hp, hd, hc]]
        have hst := rstart_N ({ tickq c t with pend := false } : Cq) o (by exact hq)
        refine SC.run hm Try.func42 rfl [.num ((max c.now t : Nat) : Int), .ldv (.s (.bool true)), .dec false, .ldv (.s (.bool true)), .call [0] [pC] [(0, some (bR ({ tickq c t with pend := false } : Cq) o nilS))] (.tup []) 1 [(0, some (bR (tkCq ({ tickq c t with pend := false } : Cq) c.inp) o nilS))]] [] rfl rfl ?_ (.inr rfl) (EndOK.by rfl ⟨rfl, trivial⟩ rfl rfl rfl rfl)
        simp only [true_and, and_true, and_assoc, decide_eq_false_iff_not]
        refine ⟨hmx, ?_, by omega, by kernel_rfl, ?_, by kernel_rfl, hst, rfl, Fits.of rfl rfl ⟨⟨rfl, _, rfl, rfl, fun h => h⟩, trivial⟩⟩
        · show some (V.s (S.bool c.pend)) = _; rw [hp]
        · show some (V.s (S.bool c.isC)) = _; rw [hc]
      | false =>
        rw [show advq c t = tkDq ({ tickq c t with pend := false } : Cq) c.inp by simp [advq, hp, hd, hc]]
        by_cases h1 : c.cmd = 128
        · rw [show tkDq ({ tickq c t with pend := false } : Cq) c.inp = ({ tickq c t with pend := false, full := true, out := c.regs c.inp, cmd := 0 } : Cq) by simp [tkDq, tickq, h1]]
          refine SC.run hm Try.func42 rfl [.num ((max c.now t : Nat) : Int), .ldv (.s (.bool true)), .dec false, .ldv (.s (.bool false)), .dec true, .idx c.inp, .ldv (n8 (c.regs c.inp)), .call [0] [pC, n8 (c.regs c.inp)] [(0, some (bR ({ tickq c t with pend := false } : Cq) o nilS))] (.tup []) 1 [(0, some (bR ({ tickq c t with pend := false, full := true, out := c.regs c.inp } : Cq) o nilS))]] [] rfl rfl ?_ (.inr rfl) (EndOK.by rfl ⟨rfl, trivial⟩ rfl rfl rfl rfl)
          simp only [true_and, and_true, and_assoc, decide_eq_false_iff_not, beq_iff_eq]
          refine ⟨hmx, ?_, by omega, by kernel_rfl, ?_, by omega, by have := h.inp; omega, reg_ldr ({ tickq c t with pend := false } : Cq) o _ h.inp, by kernel_rfl, ⟨rput_N ({ tickq c t with pend := false } : Cq) o (c.regs c.inp), rfl, Fits.of rfl rfl ⟨⟨rfl, _, rfl, rfl, fun h => h⟩, trivial⟩⟩, by kernel_rfl⟩
          · show some (V.s (S.bool c.pend)) = _; rw [hp]
          · show some (V.s (S.bool c.isC)) = _; rw [hc]
        by_cases h2 : c.cmd = 129
        · cases h3 : c.hasA with
          | false =>
            rw [show tkDq ({ tickq c t with pend := false } : Cq) c.inp = ({ tickq c t with pend := false, adr := c.inp, hasA := true } : Cq) by simp [tkDq, tickq, h1, h2, h3]]
            refine SC.run hm Try.func42 rfl [.num ((max c.now t : Nat) : Int), .ldv (.s (.bool true)), .dec false, .ldv (.s (.bool false)), .dec false, .dec true, .dec true, .num ((c.inp : Nat) : Int)] [] rfl rfl ?_ (.inr rfl) (EndOK.by rfl ⟨rfl, trivial⟩ rfl rfl rfl rfl)
            simp only [true_and, and_true, and_assoc, decide_eq_false_iff_not, beq_iff_eq, beq_eq_false_iff_ne, ne_eq]
            have ha : c.adI < 0 := by simp only [Cq.adI, h3]; decide
            refine ⟨hmx, ?_, by omega, by kernel_rfl, ?_, by omega, by omega, decide_eq_true ha, ?_⟩
            · show some (V.s (S.bool c.pend)) = _; rw [hp]
            · show some (V.s (S.bool c.isC)) = _; rw [hc]
            · have := h.inp
              rw [i64_in] <;> omega
          | true =>
            rw [show tkDq ({ tickq c t with pend := false } : Cq) c.inp = ({ tickq c t with pend := false, regs := upd c.regs c.adr c.inp, cmd := 0, hasA := false } : Cq) by simp [tkDq, tickq, h1, h2, h3]]
            refine SC.run hm Try.func42 rfl [.num ((max c.now t : Nat) : Int), .ldv (.s (.bool true)), .dec false, .ldv (.s (.bool false)), .dec false, .dec true, .dec false, .dec true, .idx c.adr, .stc ((({ tickq c t with pend := false, regs := upd c.regs c.adr c.inp } : Cq)).r o nilS)] [] rfl rfl ?_ (.inr rfl) (EndOK.by rfl ⟨rfl, trivial⟩ rfl rfl rfl rfl)
            simp only [true_and, and_true, and_assoc, decide_eq_false_iff_not, beq_iff_eq, beq_eq_false_iff_ne, ne_eq]
            have ha : c.adI = ((c.adr : Nat) : Int) := by simp only [Cq.adI, h3]
            have ha2 : ¬ c.adI < 0 := by omega
            have hadr := h.adr
            refine ⟨hmx, ?_, by omega, by kernel_rfl, ?_, by omega, by omega, ha2, by omega, ha, by omega, ?_, reg_str ({ tickq c t with pend := false } : Cq) o _ h.adr, by kernel_rfl⟩
            · show some (V.s (S.bool c.pend)) = _; rw [hp]
            · show some (V.s (S.bool c.isC)) = _; rw [hc]
            · show plus 2 c.adr + 1 ≤ ((({ tickq c t with pend := false } : Cq)).r o _).length
              rw [cr_len, plus_eq]; omega
        · rw [show tkDq ({ tickq c t with pend := false } : Cq) c.inp = ({ tickq c t with pend := false } : Cq) by simp [tkDq, tickq, h1, h2]]
          refine SC.run hm Try.func42 rfl [.num ((max c.now t : Nat) : Int), .ldv (.s (.bool true)), .dec false, .ldv (.s (.bool false)), .dec false, .dec false, .dec false] [] rfl rfl ?_ (.inr rfl) (EndOK.by rfl ⟨rfl, trivial⟩ rfl rfl rfl rfl)
          simp only [true_and, and_true, and_assoc, decide_eq_false_iff_not, beq_eq_false_iff_ne, ne_eq]
          refine ⟨hmx, ?_, by omega, by kernel_rfl, ?_, by omega, by omega, by omega⟩
          · show some (V.s (S.bool c.pend)) = _; rw [hp]
          · show some (V.s (S.bool c.isC)) = _; rw [hc]
    · rw [show advq c t = tickq c t by simp [advq, hp, hd]]
      refine SC.run hm Try.func42 rfl [.num ((max c.now t : Nat) : Int), .ldv (.s (.bool true)), .dec true] [] rfl rfl ?_ (.inl rfl) (EndOK.by rfl ⟨rfl, trivial⟩ rfl rfl rfl rfl)
      simp only [true_and, and_true, and_assoc, decide_eq_true_eq]
      refine ⟨hmx, ?_, by omega, by kernel_rfl⟩
      show some (V.s (S.bool c.pend)) = _; rw [hp]
theorem rwrite_N (c : Cq) (o t v : Nat) (ic : Bool) (h : c.ok) (ht : t < 2 ^ 64) (hq : c.q = []) : SC Try.prog 40 [pC, n64 t, n8 v, .s (.bool ic)] 1 [(0, some (bR c o nilS))] (.tup []) 1 [(0, some (bR (wrtq c t v ic) o nilS))] := by
  have a := advq_ok h ht
  have c1 := radvance_N c o t h hq
  have c2 := sum_s (advq c t).now (advq c t).delay a.now a.delay
  cases hp : (advq c t).pend with
  | true =>
    rw [show wrtq c t v ic = advq c t by simp [wrtq, hp]]
    generalize advq c t = d at *
    refine SC.run hm Try.func40 rfl [.call [0] [pC, n64 t] [(0, some (bR c o nilS))] (.tup []) 1 [(0, some (bR d o nilS))], .ldv (.s (.bool true))] [] rfl rfl ?_ (.inr rfl) (EndOK.by rfl ⟨rfl, trivial⟩ rfl rfl rfl rfl)
    simp only [true_and, and_true, and_assoc]
    refine ⟨by kernel_rfl, ⟨c1, rfl, Fits.of rfl rfl ⟨⟨rfl, _, rfl, rfl, fun h => h⟩, trivial⟩⟩, ?_⟩
    show some (V.s (S.bool d.pend)) = _; rw [hp]
  | false =>
    rw [show wrtq c t v ic = { advq c t with pend := true, isC := ic, inp := v, due := sat (advq c t).now (advq c t).delay } by simp [wrtq, hp]]
    generalize advq c t = d at *
    refine SC.run hm Try.func40 rfl [.call [0] [pC, n64 t] [(0, some (bR c o nilS))] (.tup []) 1 [(0, some (bR d o nilS))], .ldv (.s (.bool false)), .call [] [n64 d.now, n64 d.delay] [] (n64 (sat d.now d.delay)) 0 []] [] rfl rfl ?_ (.inr rfl) (EndOK.by rfl ⟨rfl, trivial⟩ rfl rfl rfl rfl)
    simp only [true_and, and_true, and_assoc]
    refine ⟨by kernel_rfl, ⟨c1, rfl, Fits.of rfl rfl ⟨⟨rfl, _, rfl, rfl, fun h => h⟩, trivial⟩⟩, ?_, by kernel_rfl, call0 c2 rfl, by kernel_rfl⟩
    show some (V.s (S.bool d.pend)) = _; rw [hp]
theorem rwriteData_N (c : Cq) (o t v : Nat) (h : c.ok) (ht : t < 2 ^ 64) (hq : c.q = []) : SC Try.prog 21 [pC, n64 t, n8 v] 1 [(0, some (bR c o nilS))] (.tup []) 1 [(0, some (bR (wrtq c t v false) o nilS))] := by
  have c1 := rwrite_N c o t v false h ht hq
  generalize wrtq c t v false = d at *
  refine SC.run hm Try.func21 rfl [.call [0] [pC, n64 t, n8 v, .s (.bool false)] [(0, some (bR c o nilS))] (.tup []) 1 [(0, some (bR d o nilS))]] [] rfl rfl ?_ (.inr rfl) (EndOK.by rfl ⟨rfl, trivial⟩ rfl rfl rfl rfl)
  simp only [true_and, and_true, and_assoc]
  exact ⟨by kernel_rfl, c1, rfl, Fits.of rfl rfl ⟨⟨rfl, _, rfl, rfl, fun h => h⟩, trivial⟩⟩
theorem rwriteCommand_N (c : Cq) (o t v : Nat) (h : c.ok) (ht : t < 2 ^ 64) (hq : c.q = []) : SC Try.prog 23 [pC, n64 t, n8 v] 1 [(0, some (bR c o nilS))] (.tup []) 1 [(0, some (bR (wrtq c t v true) o nilS))] := by
  have c1 := rwrite_N c o t v true h ht hq
  generalize wrtq c t v true = d at *
  refine SC.run hm Try.func23 rfl [.call [0] [pC, n64 t, n8 v, .s (.bool true)] [(0, some (bR c o nilS))] (.tup []) 1 [(0, some (bR d o nilS))]] [] rfl rfl ?_ (.inr rfl) (EndOK.by rfl ⟨rfl, trivial⟩ rfl rfl rfl rfl)
  simp only [true_and, and_true, and_assoc]
  exact ⟨by kernel_rfl, c1, rfl, Fits.of rfl rfl ⟨⟨rfl, _, rfl, rfl, fun h => h⟩, trivial⟩⟩
theorem rreadData_N (c : Cq) (o t : Nat) (h : c.ok) (ht : t < 2 ^ 64) (hq : c.q = []) : SC Try.prog 25 [pC, n64 t] 1 [(0, some (bR c o nilS))] (n8 (advq c t).out) 1 [(0, some (bR (emtq (advq c t)) ((advq c t).ou o) nilS))] := by
  have c1 := radvance_N c o t h hq
  have a := advq_ok h ht
  generalize advq c t = d at *
  cases hf : d.full with
  | false =>
    have e0 : d.out = 0 := a.emp hf
    have e1 : emtq d = d := by cases d; dsimp only at hf e0; subst hf; subst e0; rfl
    have e2 : d.ou o = o := by simp only [Cq.ou, hf]
    rw [e0, e1, e2]
    refine SC.run hm Try.func25 rfl [.call [0] [pC, n64 t] [(0, some (bR c o nilS))] (.tup []) 1 [(0, some (bR d o nilS))], .ldv (.s (.bool false))] [] rfl rfl ?_ (.inl rfl) (EndOK.by rfl ⟨rfl, trivial⟩ rfl rfl rfl rfl)
    simp only [true_and, and_true, and_assoc]
    refine ⟨by kernel_rfl, ⟨c1, rfl, Fits.of rfl rfl ⟨⟨rfl, _, rfl, rfl, fun h => h⟩, trivial⟩⟩, ?_⟩
    show some (V.s (S.bool d.full)) = _; rw [hf]
  | true =>
    have e2 : d.ou o = d.out := by simp only [Cq.ou, hf]
    rw [← e2]
    refine SC.run hm Try.func25 rfl [.call [0] [pC, n64 t] [(0, some (bR c o nilS))] (.tup []) 1 [(0, some (bR d o nilS))], .ldv (.s (.bool true))] [] rfl rfl ?_ (.inl rfl) (EndOK.by rfl ⟨rfl, trivial⟩ rfl rfl rfl rfl)
    simp only [true_and, and_true, and_assoc]
    refine ⟨by kernel_rfl, ⟨c1, rfl, Fits.of rfl rfl ⟨⟨rfl, _, rfl, rfl, fun h => h⟩, trivial⟩⟩, ?_⟩
    show some (V.s (S.bool d.full)) = _; rw [hf]
theorem advq_q0 (c : Cq) (t : Nat) (hq : c.q = []) : (advq c t).q = [] := by
  unfold advq
  split
  · exact hq
  · split
    · unfold tkCq
      split
      · exact hq
      · split
        · show c.q.tail = []; rw [hq]; rfl
        · exact hq
    · rw [tkDq_q]; exact hq
theorem rstatus_N (c : Cq) (o t : Nat) (h : c.ok) (hq : c.q = []) : SC Try.prog 30 [pC, n64 t] 1 [(0, some (bR c o nilS))] (n8 (stNq (advq c t))) 1 [(0, some (bR (advq c t) o nilS))] := by
  have c1 := radvance_N c o t h hq
  have hdq := advq_q0 c t hq
  have hq2 : decide (0 < (advq c t).q.length) = false := by rw [hdq]; rfl
  generalize advq c t = d at *
  cases hf : d.full <;> cases hp : d.pend
  · rw [show stNq d = 0 by simp only [stNq, hf, hp, hq2]]
    refine SC.run hm Try.func30 rfl [.call [0] [pC, n64 t] [(0, some (bR c o nilS))] (.tup []) 1 [(0, some (bR d o nilS))], .ldv (.s (.bool false)), .ldv (.s (.bool false)), .dec false] [] rfl rfl ?_ (.inl rfl) (EndOK.by rfl ⟨rfl, trivial⟩ rfl rfl rfl rfl)
    simp only [true_and, and_true, and_assoc]
    refine ⟨by kernel_rfl, ⟨c1, rfl, Fits.of rfl rfl ⟨⟨rfl, _, rfl, rfl, fun h => h⟩, trivial⟩⟩, ?_, ?_, rfl⟩
    · show some (V.s (S.bool d.full)) = _; rw [hf]
    · show some (V.s (S.bool d.pend)) = _; rw [hp]
  · rw [show stNq d = 2 by simp only [stNq, hf, hp, hq2]]
    refine SC.run hm Try.func30 rfl [.call [0] [pC, n64 t] [(0, some (bR c o nilS))] (.tup []) 1 [(0, some (bR d o nilS))], .ldv (.s (.bool false)), .ldv (.s (.bool true)), .num ((2 : Nat) : Int), .dec false] [] rfl rfl ?_ (.inl rfl) (EndOK.by rfl ⟨rfl, trivial⟩ rfl rfl rfl rfl)
    simp only [true_and, and_true, and_assoc]
    refine ⟨by kernel_rfl, ⟨c1, rfl, Fits.of rfl rfl ⟨⟨rfl, _, rfl, rfl, fun h => h⟩, trivial⟩⟩, ?_, ?_, by decide, rfl⟩
    · show some (V.s (S.bool d.full)) = _; rw [hf]
    · show some (V.s (S.bool d.pend)) = _; rw [hp]
  · rw [show stNq d = 1 by simp only [stNq, hf, hp, hq2]]
    refine SC.run hm Try.func30 rfl [.call [0] [pC, n64 t] [(0, some (bR c o nilS))] (.tup []) 1 [(0, some (bR d o nilS))], .ldv (.s (.bool true)), .num ((1 : Nat) : Int), .ldv (.s (.bool false)), .dec false] [] rfl rfl ?_ (.inl rfl) (EndOK.by rfl ⟨rfl, trivial⟩ rfl rfl rfl rfl)
    simp only [true_and, and_true, and_assoc]
    refine ⟨by kernel_rfl, ⟨c1, rfl, Fits.of rfl rfl ⟨⟨rfl, _, rfl, rfl, fun h => h⟩, trivial⟩⟩, ?_, by decide, ?_, rfl⟩
    · show some (V.s (S.bool d.full)) = _; rw [hf]
    · show some (V.s (S.bool d.pend)) = _; rw [hp]
  · rw [show stNq d = 3 by simp only [stNq, hf, hp, hq2]]
    refine SC.run hm Try.func30 rfl [.call [0] [pC, n64 t] [(0, some (bR c o nilS))] (.tup []) 1 [(0, some (bR d o nilS))], .ldv (.s (.bool true)), .num ((1 : Nat) : Int), .ldv (.s (.bool true)), .num ((3 : Nat) : Int), .dec false] [] rfl rfl ?_ (.inl rfl) (EndOK.by rfl ⟨rfl, trivial⟩ rfl rfl rfl rfl)
    simp only [true_and, and_true, and_assoc]
    refine ⟨by kernel_rfl, ⟨c1, rfl, Fits.of rfl rfl ⟨⟨rfl, _, rfl, rfl, fun h => h⟩, trivial⟩⟩, ?_, by decide, ?_, by decide, rfl⟩
    · show some (V.s (S.bool d.full)) = _; rw [hf]
    · show some (V.s (S.bool d.pend)) = _; rw [hp]

/-! ### variant Q -/
theorem rput_Q (c : Cq) (o v : Nat) : SC Try.prog 49 [pC, n8 v] 3 [(0, some (bR c o (.sla 1 2 c.q.length)))] (.tup []) 3 [(0, some (bR ({ c with full := true, out := v } : Cq) o (.sla 1 2 ({ c with full := true, out := v } : Cq).q.length)))] := by
  refine SC.run hm Try.func49 rfl [] [] rfl rfl ?_ (.inr rfl) (EndOK.by rfl ⟨rfl, trivial⟩ rfl rfl rfl rfl)
  simp only [true_and, and_true]
theorem rregister_Q (c : Cq) (o i : Nat) (h : i < 256) : SC Try.prog 31 [pC, n8 i] 3 [(0, some (bR c o (.sla 1 2 c.q.length)))] (n8 (c.regs i)) 3 [(0, some (bR c o (.sla 1 2 c.q.length)))] := by
  refine SC.run hm Try.func31 rfl [.idx i, .ldv (n8 (c.regs i))] [] rfl rfl ?_ (.inl rfl) (EndOK.by rfl ⟨rfl, trivial⟩ rfl rfl rfl rfl)
  simp only [true_and, and_true, and_assoc]
  exact ⟨by omega, reg_ldr c o _ h⟩
theorem rsetRegister_Q (c : Cq) (o i v : Nat) (h : i < 256) : SC Try.prog 28 [pC, n8 i, n8 v] 3 [(0, some (bR c o (.sla 1 2 c.q.length)))] (.tup []) 3 [(0, some (bR ({ c with regs := upd c.regs i v } : Cq) o (.sla 1 2 ({ c with regs := upd c.regs i v } : Cq).q.length)))] := by
  refine SC.run hm Try.func28 rfl [.idx i, .stc (({ c with regs := upd c.regs i v } : Cq).r o (.sla 1 2 c.q.length))] [] rfl rfl ?_ (.inr rfl) (EndOK.by rfl ⟨rfl, trivial⟩ rfl rfl rfl rfl)
  simp only [true_and, and_true, and_assoc]
  refine ⟨by omega, ?_, reg_str c o _ h⟩
  show plus 2 i + 1 ≤ (c.r o _).length
  rw [cr_len, plus_eq]; omega
theorem rstart_Q (c : Cq) (o : Nat) : SC Try.prog 48 [pC] 3 (sR c o) (.tup []) 5 (eR (tkCq c c.inp) o) := by
  by_cases h1 : c.inp = 128
  · rw [show tkCq c c.inp = { c with cmd := c.inp, hasA := false } by simp [tkCq, h1]]
    refine SC.run hm Try.func48 rfl [.dec true] [1, 2] rfl rfl ?_ (.inr rfl) (EndOK.move rfl ⟨rfl, rfl, trivial⟩ rfl rfl rfl rfl rfl)
    simp only [true_and, and_true, and_assoc, beq_iff_eq]
    omega
  by_cases h2 : c.inp = 129
  · rw [show tkCq c c.inp = { c with cmd := c.inp, hasA := false } by simp [tkCq, h2]]
    refine SC.run hm Try.func48 rfl [.dec false, .dec true] [1, 2] rfl rfl ?_ (.inr rfl) (EndOK.move rfl ⟨rfl, rfl, trivial⟩ rfl rfl rfl rfl rfl)
    simp only [true_and, and_true, and_assoc, beq_eq_false_iff_ne, beq_iff_eq, ne_eq]
    omega
  by_cases h3 : c.inp = 132
  · cases hq : c.q with
    | nil =>
     have h0 : c.q.length = 0 := by rw [hq]; rfl
     have e : tkCq c c.inp = ({ c with cmd := 0, hasA := false, full := true, out := 0 } : Cq) := by
       cases c; dsimp only at hq h3; subst hq; subst h3; rfl
     rw [e]
     refine SC.run hm Try.func48 rfl [.dec false, .dec false, .dec true, .dec false, .call [0, 1, 2] [pC, n8 0] [(0, some (bR ({ c with cmd := 0, hasA := false } : Cq) o (.sla 1 2 ({ c with cmd := 0, hasA := false } : Cq).q.length)))] (.tup []) 3 [(0, some (bR ({ c with cmd := 0, hasA := false, full := true, out := 0 } : Cq) o (.sla 1 2 ({ c with cmd := 0, hasA := false, full := true, out := 0 } : Cq).q.length)))]] [1, 2] rfl rfl ?_ (.inr rfl) (EndOK.move rfl ⟨rfl, rfl, trivial⟩ rfl rfl rfl rfl rfl)
     simp only [true_and, and_true, and_assoc, beq_eq_false_iff_ne, beq_iff_eq, ne_eq, decide_eq_false_iff_not]
     exact ⟨by omega, by omega, by omega, by omega, by kernel_rfl, rput_Q ({ c with cmd := 0, hasA := false } : Cq) o 0, rfl, Fits.of rfl rfl ⟨⟨rfl, _, rfl, rfl, fun h => h⟩, trivial⟩⟩

    | cons x r =>
     have hl : c.q.length = r.length + 1 := by rw [hq]; rfl
     rw [show tkCq c c.inp = ({ c with cmd := 0, hasA := false, full := true, out := x, q := r } : Cq) by simp [tkCq, h3, hq]]
     refine SC.run hm Try.func48 rfl [.dec false, .dec false, .dec true, .dec true, .idx 0, .val (n8 x), .wlz 1 (r.length + 1), .stw (r.map u8) ((({ c with cmd := 0, hasA := false, q := r } : Cq)).r o (.sla 3 4 r.length)), .call [0, 3, 4] [pC, n8 x] [(0, some (bR ({ c with cmd := 0, hasA := false, q := r } : Cq) o (.sla 1 2 ({ c with cmd := 0, hasA := false, q := r } : Cq).q.length)))] (.tup []) 3 [(0, some (bR ({ c with cmd := 0, hasA := false, full := true, out := x, q := r } : Cq) o (.sla 1 2 ({ c with cmd := 0, hasA := false, full := true, out := x, q := r } : Cq).q.length)))]] [3, 4] rfl rfl ?_ (.inr rfl) (EndOK.move rfl ⟨rfl, rfl, trivial⟩ rfl rfl rfl rfl rfl)
     simp only [true_and, and_true, and_assoc, beq_eq_false_iff_ne, beq_iff_eq, ne_eq, decide_eq_false_iff_not]
     have e1 : Try.prog.types[5].size = 1 := by kernel_rfl
     rw [e1]
     refine ⟨by omega, by omega, by omega, by rw [hl]; exact decide_eq_true (by omega), rfl, by omega, ?_, rfl, hl.symm, by omega, by omega, ?_, ?_, ?_, ?_, by kernel_rfl, by kernel_rfl, rput_Q ({ c with cmd := 0, hasA := false, q := r } : Cq) o x, rfl, Fits.of rfl rfl ⟨⟨rfl, _, rfl, rfl, fun h => h⟩, trivial⟩⟩
     · show (match (c.q.map u8)[0]? with | some x => some (V.s x) | none => none) = _
       rw [hq]; rfl
     · show (1 + (r.length + 1 - 1)) * 1 ≤ (c.q.map u8).length
       rw [List.length_map, hl]; omega
     · show r.map u8 = ((c.q.map u8).drop (1 * 1)).take ((r.length + 1 - 1) * 1)
       rw [hq, Nat.mul_one, Nat.add_sub_cancel]
       show r.map u8 = (r.map u8).take r.length
       rw [List.take_of_length_le (by rw [List.length_map]; exact Nat.le_refl _)]
     · show 264 + 1 ≤ ((({ c with cmd := 0, hasA := false } : Cq)).r o _).length
       rw [cr_len]; decide
     · rfl
  · rw [show tkCq c c.inp = { c with cmd := 0, hasA := false } by simp [tkCq, h1, h2, h3]]
    refine SC.run hm Try.func48 rfl [.dec false, .dec false, .dec false] [1, 2] rfl rfl ?_ (.inr rfl) (EndOK.move rfl ⟨rfl, rfl, trivial⟩ rfl rfl rfl rfl rfl)
    simp only [true_and, and_true, and_assoc, beq_eq_false_iff_ne, ne_eq]
    omega
set_option maxHeartbeats 2000000 in
theorem radvance_Q (c : Cq) (o t : Nat) (h : c.ok) : SC Try.prog 42 [pC, n64 t] 3 (sR c o) (.tup []) 5 (eR (advq c t) o) := by
  have hmx := max_nat c.now t
  cases hp : c.pend with
  | false =>
    rw [show advq c t = tickq c t by simp [advq, hp]]
    refine SC.run hm Try.func42 rfl [.num ((max c.now t : Nat) : Int), .ldv (.s (.bool false))] [1, 2] rfl rfl ?_ (.inl rfl) (EndOK.move rfl ⟨rfl, rfl, trivial⟩ rfl rfl rfl rfl rfl)
    simp only [true_and, and_true, and_assoc]
    refine ⟨hmx, ?_, by kernel_rfl⟩
    show some (V.s (S.bool c.pend)) = _; rw [hp]
  | true =>
    by_cases hd : c.due ≤ max c.now t
    · cases hc : c.isC with
      | true =>
        rw [show advq c t = tkCq ({ tickq c t with pend := false } : Cq) c.inp by simp [advq, hp, hd, hc]]
        have hst := rstart_Q ({ tickq c t with pend := false } : Cq) o
        refine SC.run hm Try.func42 rfl [.num ((max c.now t : Nat) : Int), .ldv (.s (.bool true)), .dec false, .ldv (.s (.bool true)), .call [0, 1, 2] [pC] (sR ({ tickq c t with pend := false } : Cq) o) (.tup []) 5 (eR (tkCq ({ tickq c t with pend := false } : Cq) c.inp) o)] [3, 4] rfl rfl ?_ (.inr rfl) (EndOK.move rfl ⟨rfl, rfl, trivial⟩ rfl rfl rfl rfl rfl)
        simp only [true_and, and_true, and_assoc, decide_eq_false_iff_not]
        refine ⟨hmx, ?_, by omega, by kernel_rfl, ?_, by kernel_rfl, hst, rfl, Fits.of rfl rfl ⟨⟨rfl, _, rfl, rfl, fun h => h⟩, ⟨rfl, _, rfl, rfl, fun h => h⟩, trivial⟩⟩
        · show some (V.s (S.bool c.pend)) = _; rw [hp]
        · show some (V.s (S.bool c.isC)) = _; rw [hc]
      | false =>
        rw [show advq c t = tkDq ({ tickq c t with pend := false } : Cq) c.inp by simp [advq, hp, hd, hc]]
        by_cases h1 : c.cmd = 128
        · rw [show tkDq ({ tickq c t with pend := false } : Cq) c.inp = ({ tickq c t with pend := false, full := true, out := c.regs c.inp, cmd := 0 } : Cq) by simp [tkDq, tickq, h1]]
          refine SC.run hm Try.func42 rfl [.num ((max c.now t : Nat) : Int), .ldv (.s (.bool true)), .dec false, .ldv (.s (.bool false)), .dec true, .idx c.inp, .ldv (n8 (c.regs c.inp)), .call [0, 1, 2] [pC, n8 (c.regs c.inp)] [(0, some (bR ({ tickq c t with pend := false } : Cq) o (.sla 1 2 ({ tickq c t with pend := false } : Cq).q.length)))] (.tup []) 3 [(0, some (bR ({ tickq c t with pend := false, full := true, out := c.regs c.inp } : Cq) o (.sla 1 2 ({ tickq c t with pend := false, full := true, out := c.regs c.inp } : Cq).q.length)))]] [1, 2] rfl rfl ?_ (.inr rfl) (EndOK.move rfl ⟨rfl, rfl, trivial⟩ rfl rfl rfl rfl rfl)
          simp only [true_and, and_true, and_assoc, decide_eq_false_iff_not, beq_iff_eq]
          refine ⟨hmx, ?_, by omega, by kernel_rfl, ?_, by omega, by have := h.inp; omega, reg_ldr ({ tickq c t with pend := false } : Cq) o _ h.inp, by kernel_rfl, ⟨rput_Q ({ tickq c t with pend := false } : Cq) o (c.regs c.inp), rfl, Fits.of rfl rfl ⟨⟨rfl, _, rfl, rfl, fun h => h⟩, trivial⟩⟩, by kernel_rfl⟩
          · show some (V.s (S.bool c.pend)) = _; rw [hp]
          · show some (V.s (S.bool c.isC)) = _; rw [hc]
        by_cases h2 : c.cmd = 129
        · cases h3 : c.hasA with
          | false =>
            rw [show tkDq ({ tickq c t with pend := false } : Cq) c.inp = ({ tickq c t with pend := false, adr := c.inp, hasA := true } : Cq) by simp [tkDq, tickq, h1, h2, h3]]
            refine SC.run hm Try.func42 rfl [.num ((max c.now t : Nat) : Int), .ldv (.s (.bool true)), .dec false, .ldv (.s (.bool false)), .dec false, .dec true, .dec true, .num ((c.inp : Nat) : Int)] [1, 2] rfl rfl ?_ (.inr rfl) (EndOK.move rfl ⟨rfl, rfl, trivial⟩ rfl rfl rfl rfl rfl)
            simp only [true_and, and_true, and_assoc, decide_eq_false_iff_not, beq_iff_eq, beq_eq_false_iff_ne, ne_eq]
            have ha : c.adI < 0 := by simp only [Cq.adI, h3]; decide
            refine ⟨hmx, ?_, by omega, by kernel_rfl, ?_, by omega, by omega, decide_eq_true ha, ?_⟩
            · show some (V.s (S.bool c.pend)) = _; rw [hp]
            · show some (V.s (S.bool c.isC)) = _; rw [hc]
            · have := h.inp
              rw [i64_in] <;> omega
          | true =>
            rw [show tkDq ({ tickq c t with pend := false } : Cq) c.inp = ({ tickq c t with pend := false, regs := upd c.regs c.adr c.inp, cmd := 0, hasA := false } : Cq) by simp [tkDq, tickq, h1, h2, h3]]
            refine SC.run hm Try.func42 rfl [.num ((max c.now t : Nat) : Int), .ldv (.s (.bool true)), .dec false, .ldv (.s (.bool false)), .dec false, .dec true, .dec false, .dec true, .idx c.adr, .stc ((({ tickq c t with pend := false, regs := upd c.regs c.adr c.inp } : Cq)).r o (.sla 1 2 c.q.length))] [1, 2] rfl rfl ?_ (.inr rfl) (EndOK.move rfl ⟨rfl, rfl, trivial⟩ rfl rfl rfl rfl rfl)
            simp only [true_and, and_true, and_assoc, decide_eq_false_iff_not, beq_iff_eq, beq_eq_false_iff_ne, ne_eq]
            have ha : c.adI = ((c.adr : Nat) : Int) := by simp only [Cq.adI, h3]
            have ha2 : ¬ c.adI < 0 := by omega
            have hadr := h.adr
            refine ⟨hmx, ?_, by omega, by kernel_rfl, ?_, by omega, by omega, ha2, by omega, ha, by omega, ?_, reg_str ({ tickq c t with pend := false } : Cq) o _ h.adr, by kernel_rfl⟩
            · show some (V.s (S.bool c.pend)) = _; rw [hp]
            · show some (V.s (S.bool c.isC)) = _; rw [hc]
            · show plus 2 c.adr + 1 ≤ ((({ tickq c t with pend := false } : Cq)).r o _).length
              rw [cr_len, plus_eq]; omega
        · rw [show tkDq ({ tickq c t with pend := false } : Cq) c.inp = ({ tickq c t with pend := false } : Cq) by simp [tkDq, tickq, h1, h2]]
          refine SC.run hm Try.func42 rfl [.num ((max c.now t : Nat) : Int), .ldv (.s (.bool true)), .dec false, .ldv (.s (.bool false)), .dec false, .dec false, .dec false] [1, 2] rfl rfl ?_ (.inr rfl) (EndOK.move rfl ⟨rfl, rfl, trivial⟩ rfl rfl rfl rfl rfl)
          simp only [true_and, and_true, and_assoc, decide_eq_false_iff_not, beq_eq_false_iff_ne, ne_eq]
          refine ⟨hmx, ?_, by omega, by kernel_rfl, ?_, by omega, by omega, by omega⟩
          · show some (V.s (S.bool c.pend)) = _; rw [hp]
          · show some (V.s (S.bool c.isC)) = _; rw [hc]
    · rw [show advq c t = tickq c t by simp [advq, hp, hd]]
      refine SC.run hm Try.func42 rfl [.num ((max c.now t : Nat) : Int), .ldv (.s (.bool true)), .dec true] [1, 2] rfl rfl ?_ (.inl rfl) (EndOK.move rfl ⟨rfl, rfl, trivial⟩ rfl rfl rfl rfl rfl)
      simp only [true_and, and_true, and_assoc, decide_eq_true_eq]
      refine ⟨hmx, ?_, by omega, by kernel_rfl⟩
      show some (V.s (S.bool c.pend)) = _; rw [hp]
theorem rwrite_Q (c : Cq) (o t v : Nat) (ic : Bool) (h : c.ok) (ht : t < 2 ^ 64) : SC Try.prog 40 [pC, n64 t, n8 v, .s (.bool ic)] 3 (sR c o) (.tup []) 5 (eR (wrtq c t v ic) o) := by
  have a := advq_ok h ht
  have c1 := radvance_Q c o t h
  have c2 := sum_s (advq c t).now (advq c t).delay a.now a.delay
  cases hp : (advq c t).pend with
  | true =>
    rw [show wrtq c t v ic = advq c t by simp [wrtq, hp]]
    generalize advq c t = d at *
    refine SC.run hm Try.func40 rfl [.call [0, 1, 2] [pC, n64 t] (sR c o) (.tup []) 5 (eR d o), .ldv (.s (.bool true))] [3, 4] rfl rfl ?_ (.inr rfl) (EndOK.move rfl ⟨rfl, rfl, trivial⟩ rfl rfl rfl rfl rfl)
    simp only [true_and, and_true, and_assoc]
    refine ⟨by kernel_rfl, ⟨c1, rfl, Fits.of rfl rfl ⟨⟨rfl, _, rfl, rfl, fun h => h⟩, ⟨rfl, _, rfl, rfl, fun h => h⟩, trivial⟩⟩, ?_⟩
    show some (V.s (S.bool d.pend)) = _; rw [hp]
  | false =>
    rw [show wrtq c t v ic = { advq c t with pend := true, isC := ic, inp := v, due := sat (advq c t).now (advq c t).delay } by simp [wrtq, hp]]
    generalize advq c t = d at *
    refine SC.run hm Try.func40 rfl [.call [0, 1, 2] [pC, n64 t] (sR c o) (.tup []) 5 (eR d o), .ldv (.s (.bool false)), .call [] [n64 d.now, n64 d.delay] [] (n64 (sat d.now d.delay)) 0 []] [3, 4] rfl rfl ?_ (.inr rfl) (EndOK.move rfl ⟨rfl, rfl, trivial⟩ rfl rfl rfl rfl rfl)
    simp only [true_and, and_true, and_assoc]
    refine ⟨by kernel_rfl, ⟨c1, rfl, Fits.of rfl rfl ⟨⟨rfl, _, rfl, rfl, fun h => h⟩, ⟨rfl, _, rfl, rfl, fun h => h⟩, trivial⟩⟩, ?_, by kernel_rfl, call0 c2 rfl, by kernel_rfl⟩
    show some (V.s (S.bool d.pend)) = _; rw [hp]
theorem rwriteData_Q (c : Cq) (o t v : Nat) (h : c.ok) (ht : t < 2 ^ 64) : SC Try.prog 21 [pC, n64 t, n8 v] 3 (sR c o) (.tup []) 5 (eR (wrtq c t v false) o) := by
  have c1 := rwrite_Q c o t v false h ht
  generalize wrtq c t v false = d at *
  refine SC.run hm Try.func21 rfl [.call [0, 1, 2] [pC, n64 t, n8 v, .s (.bool false)] (sR c o) (.tup []) 5 (eR d o)] [3, 4] rfl rfl ?_ (.inr rfl) (EndOK.move rfl ⟨rfl, rfl, trivial⟩ rfl rfl rfl rfl rfl)
  simp only [true_and, and_true, and_assoc]
  exact ⟨by kernel_rfl, c1, rfl, Fits.of rfl rfl ⟨⟨rfl, _, rfl, rfl, fun h => h⟩, ⟨rfl, _, rfl, rfl, fun h => h⟩, trivial⟩⟩
theorem rwriteCommand_Q (c : Cq) (o t v : Nat) (h : c.ok) (ht : t < 2 ^ 64) : SC Try.prog 23 [pC, n64 t, n8 v] 3 (sR c o) (.tup []) 5 (eR (wrtq c t v true) o) := by
  have c1 := rwrite_Q c o t v true h ht
  generalize wrtq c t v true = d at *
  refine SC.run hm Try.func23 rfl [.call [0, 1, 2] [pC, n64 t, n8 v, .s (.bool true)] (sR c o) (.tup []) 5 (eR d o)] [3, 4] rfl rfl ?_ (.inr rfl) (EndOK.move rfl ⟨rfl, rfl, trivial⟩ rfl rfl rfl rfl rfl)
  simp only [true_and, and_true, and_assoc]
  exact ⟨by kernel_rfl, c1, rfl, Fits.of rfl rfl ⟨⟨rfl, _, rfl, rfl, fun h => h⟩, ⟨rfl, _, rfl, rfl, fun h => h⟩, trivial⟩⟩
theorem rreadData_Q (c : Cq) (o t : Nat) (h : c.ok) (ht : t < 2 ^ 64) : SC Try.prog 25 [pC, n64 t] 3 (sR c o) (n8 (advq c t).out) 5 (eR (emtq (advq c t)) ((advq c t).ou o)) := by
  have c1 := radvance_Q c o t h
  have a := advq_ok h ht
  generalize advq c t = d at *
  cases hf : d.full with
  | false =>
    have e0 : d.out = 0 := a.emp hf
    have e1 : emtq d = d := by cases d; dsimp only at hf e0; subst hf; subst e0; rfl
    have e2 : d.ou o = o := by simp only [Cq.ou, hf]
    rw [e0, e1, e2]
    refine SC.run hm Try.func25 rfl [.call [0, 1, 2] [pC, n64 t] (sR c o) (.tup []) 5 (eR d o), .ldv (.s (.bool false))] [3, 4] rfl rfl ?_ (.inl rfl) (EndOK.move rfl ⟨rfl, rfl, trivial⟩ rfl rfl rfl rfl rfl)
    simp only [true_and, and_true, and_assoc]
    refine ⟨by kernel_rfl, ⟨c1, rfl, Fits.of rfl rfl ⟨⟨rfl, _, rfl, rfl, fun h => h⟩, ⟨rfl, _, rfl, rfl, fun h => h⟩, trivial⟩⟩, ?_⟩
    show some (V.s (S.bool d.full)) = _; rw [hf]
  | true =>
    have e2 : d.ou o = d.out := by simp only [Cq.ou, hf]
    rw [← e2]
    refine SC.run hm Try.func25 rfl [.call [0, 1, 2] [pC, n64 t] (sR c o) (.tup []) 5 (eR d o), .ldv (.s (.bool true))] [3, 4] rfl rfl ?_ (.inl rfl) (EndOK.move rfl ⟨rfl, rfl, trivial⟩ rfl rfl rfl rfl rfl)
    simp only [true_and, and_true, and_assoc]
    refine ⟨by kernel_rfl, ⟨c1, rfl, Fits.of rfl rfl ⟨⟨rfl, _, rfl, rfl, fun h => h⟩, ⟨rfl, _, rfl, rfl, fun h => h⟩, trivial⟩⟩, ?_⟩
    show some (V.s (S.bool d.full)) = _; rw [hf]
theorem rstatus_Q (c : Cq) (o t : Nat) (h : c.ok) : SC Try.prog 30 [pC, n64 t] 3 (sR c o) (n8 (stNq (advq c t))) 5 (eR (advq c t) o) := by
  have c1 := radvance_Q c o t h
  generalize advq c t = d at *
  cases hf : d.full <;> cases hp : d.pend <;> cases hq : decide (0 < d.q.length)
  · rw [show stNq d = 0 by simp only [stNq, hf, hp, hq]]
    refine SC.run hm Try.func30 rfl [.call [0, 1, 2] [pC, n64 t] (sR c o) (.tup []) 5 (eR d o), .ldv (.s (.bool false)), .ldv (.s (.bool false)), .dec false] [3, 4] rfl rfl ?_ (.inl rfl) (EndOK.move rfl ⟨rfl, rfl, trivial⟩ rfl rfl rfl rfl rfl)
    simp only [true_and, and_true, and_assoc]
    refine ⟨by kernel_rfl, ⟨c1, rfl, Fits.of rfl rfl ⟨⟨rfl, _, rfl, rfl, fun h => h⟩, ⟨rfl, _, rfl, rfl, fun h => h⟩, trivial⟩⟩, ?_, ?_, ?_⟩
    · show some (V.s (S.bool d.full)) = _; rw [hf]
    · show some (V.s (S.bool d.pend)) = _; rw [hp]
    · exact pos_dec hq
  · rw [show stNq d = 32 by simp only [stNq, hf, hp, hq]]
    refine SC.run hm Try.func30 rfl [.call [0, 1, 2] [pC, n64 t] (sR c o) (.tup []) 5 (eR d o), .ldv (.s (.bool false)), .ldv (.s (.bool false)), .dec true, .num ((32 : Nat) : Int)] [3, 4] rfl rfl ?_ (.inl rfl) (EndOK.move rfl ⟨rfl, rfl, trivial⟩ rfl rfl rfl rfl rfl)
    simp only [true_and, and_true, and_assoc]
    refine ⟨by kernel_rfl, ⟨c1, rfl, Fits.of rfl rfl ⟨⟨rfl, _, rfl, rfl, fun h => h⟩, ⟨rfl, _, rfl, rfl, fun h => h⟩, trivial⟩⟩, ?_, ?_, ?_, by decide⟩
    · show some (V.s (S.bool d.full)) = _; rw [hf]
    · show some (V.s (S.bool d.pend)) = _; rw [hp]
    · exact pos_dec hq
  · rw [show stNq d = 2 by simp only [stNq, hf, hp, hq]]
    refine SC.run hm Try.func30 rfl [.call [0, 1, 2] [pC, n64 t] (sR c o) (.tup []) 5 (eR d o), .ldv (.s (.bool false)), .ldv (.s (.bool true)), .num ((2 : Nat) : Int), .dec false] [3, 4] rfl rfl ?_ (.inl rfl) (EndOK.move rfl ⟨rfl, rfl, trivial⟩ rfl rfl rfl rfl rfl)
    simp only [true_and, and_true, and_assoc]
    refine ⟨by kernel_rfl, ⟨c1, rfl, Fits.of rfl rfl ⟨⟨rfl, _, rfl, rfl, fun h => h⟩, ⟨rfl, _, rfl, rfl, fun h => h⟩, trivial⟩⟩, ?_, ?_, by decide, ?_⟩
    · show some (V.s (S.bool d.full)) = _; rw [hf]
    · show some (V.s (S.bool d.pend)) = _; rw [hp]
    · exact pos_dec hq
  · rw [show stNq d = 34 by simp only [stNq, hf, hp, hq]]
    refine SC.run hm Try.func30 rfl [.call [0, 1, 2] [pC, n64 t] (sR c o) (.tup []) 5 (eR d o), .ldv (.s (.bool false)), .ldv (.s (.bool true)), .num ((2 : Nat) : Int), .dec true, .num ((34 : Nat) : Int)] [3, 4] rfl rfl ?_ (.inl rfl) (EndOK.move rfl ⟨rfl, rfl, trivial⟩ rfl rfl rfl rfl rfl)
    simp only [true_and, and_true, and_assoc]
    refine ⟨by kernel_rfl, ⟨c1, rfl, Fits.of rfl rfl ⟨⟨rfl, _, rfl, rfl, fun h => h⟩, ⟨rfl, _, rfl, rfl, fun h => h⟩, trivial⟩⟩, ?_, ?_, by decide, ?_, by decide⟩
    · show some (V.s (S.bool d.full)) = _; rw [hf]
    · show some (V.s (S.bool d.pend)) = _; rw [hp]
    · exact pos_dec hq
  · rw [show stNq d = 1 by simp only [stNq, hf, hp, hq]]
    refine SC.run hm Try.func30 rfl [.call [0, 1, 2] [pC, n64 t] (sR c o) (.tup []) 5 (eR d o), .ldv (.s (.bool true)), .num ((1 : Nat) : Int), .ldv (.s (.bool false)), .dec false] [3, 4] rfl rfl ?_ (.inl rfl) (EndOK.move rfl ⟨rfl, rfl, trivial⟩ rfl rfl rfl rfl rfl)
    simp only [true_and, and_true, and_assoc]
    refine ⟨by kernel_rfl, ⟨c1, rfl, Fits.of rfl rfl ⟨⟨rfl, _, rfl, rfl, fun h => h⟩, ⟨rfl, _, rfl, rfl, fun h => h⟩, trivial⟩⟩, ?_, by decide, ?_, ?_⟩
    · show some (V.s (S.bool d.full)) = _; rw [hf]
    · show some (V.s (S.bool d.pend)) = _; rw [hp]
    · exact pos_dec hq
  · rw [show stNq d = 33 by simp only [stNq, hf, hp, hq]]
    refine SC.run hm Try.func30 rfl [.call [0, 1, 2] [pC, n64 t] (sR c o) (.tup []) 5 (eR d o), .ldv (.s (.bool true)), .num ((1 : Nat) : Int), .ldv (.s (.bool false)), .dec true, .num ((33 : Nat) : Int)] [3, 4] rfl rfl ?_ (.inl rfl) (EndOK.move rfl ⟨rfl, rfl, trivial⟩ rfl rfl rfl rfl rfl)
    simp only [true_and, and_true, and_assoc]
    refine ⟨by kernel_rfl, ⟨c1, rfl, Fits.of rfl rfl ⟨⟨rfl, _, rfl, rfl, fun h => h⟩, ⟨rfl, _, rfl, rfl, fun h => h⟩, trivial⟩⟩, ?_, by decide, ?_, ?_, by decide⟩
    · show some (V.s (S.bool d.full)) = _; rw [hf]
    · show some (V.s (S.bool d.pend)) = _; rw [hp]
    · exact pos_dec hq
  · rw [show stNq d = 3 by simp only [stNq, hf, hp, hq]]
    refine SC.run hm Try.func30 rfl [.call [0, 1, 2] [pC, n64 t] (sR c o) (.tup []) 5 (eR d o), .ldv (.s (.bool true)), .num ((1 : Nat) : Int), .ldv (.s (.bool true)), .num ((3 : Nat) : Int), .dec false] [3, 4] rfl rfl ?_ (.inl rfl) (EndOK.move rfl ⟨rfl, rfl, trivial⟩ rfl rfl rfl rfl rfl)
    simp only [true_and, and_true, and_assoc]
    refine ⟨by kernel_rfl, ⟨c1, rfl, Fits.of rfl rfl ⟨⟨rfl, _, rfl, rfl, fun h => h⟩, ⟨rfl, _, rfl, rfl, fun h => h⟩, trivial⟩⟩, ?_, by decide, ?_, by decide, ?_⟩
    · show some (V.s (S.bool d.full)) = _; rw [hf]
    · show some (V.s (S.bool d.pend)) = _; rw [hp]
    · exact pos_dec hq
  · rw [show stNq d = 35 by simp only [stNq, hf, hp, hq]]
    refine SC.run hm Try.func30 rfl [.call [0, 1, 2] [pC, n64 t] (sR c o) (.tup []) 5 (eR d o), .ldv (.s (.bool true)), .num ((1 : Nat) : Int), .ldv (.s (.bool true)), .num ((3 : Nat) : Int), .dec true, .num ((35 : Nat) : Int)] [3, 4] rfl rfl ?_ (.inl rfl) (EndOK.move rfl ⟨rfl, rfl, trivial⟩ rfl rfl rfl rfl rfl)
    simp only [true_and, and_true, and_assoc]
    refine ⟨by kernel_rfl, ⟨c1, rfl, Fits.of rfl rfl ⟨⟨rfl, _, rfl, rfl, fun h => h⟩, ⟨rfl, _, rfl, rfl, fun h => h⟩, trivial⟩⟩, ?_, by decide, ?_, by decide, ?_, by decide⟩
    · show some (V.s (S.bool d.full)) = _; rw [hf]
    · show some (V.s (S.bool d.pend)) = _; rw [hp]
    · exact pos_dec hq

/-! ### Raise -/
theorem fits_u8 (q : List Nat) : fitsIn { cells := [], ty := 5, flat := [S.int IntKind.u8 0].all plainS } (q.map u8) = true := by
  show ((q.map u8).all _) = true
  rw [List.all_map, List.all_eq_true]
  intro x _; rfl
theorem rraise_z (c : Cq) (o : Nat) : SC Try.prog 27 [pC, n8 0] 1 [(0, some (bR c o nilS))] (errS 1) 1 [(0, some (bR c o nilS))] := by
  refine SC.run hm Try.func27 rfl [.dec true] [] rfl rfl ?_ (.inl rfl) (EndOK.by rfl ⟨rfl, trivial⟩ rfl rfl rfl rfl)
  simp only [true_and, and_true, and_assoc, beq_iff_eq]
  rfl
theorem rraise_N (c : Cq) (o v : Nat) (hv : v ≠ 0) : SC Try.prog 27 [pC, n8 v] 1 [(0, some (bR c o nilS))] (errS 0) 3 [(0, some (bR { c with q := [v] } o (.sla 1 2 1))), (1, some (qB [v] 2))] := by
  refine SC.run hm Try.func27 rfl [.dec false, .dec false, .keep, .app 1 [u8 v]] [2, 3] rfl rfl ?_ (.inl rfl) (EndOK.by rfl ⟨rfl, rfl, trivial⟩ rfl rfl rfl rfl)
  simp only [true_and, and_true, and_assoc, beq_eq_false_iff_ne, ne_eq]
  have e1 : Try.prog.types[5].size = 1 := by kernel_rfl
  have e2 : Try.prog.types[5].bytes = 1 := by kernel_rfl
  rw [e1, e2]
  exact ⟨by omega, by decide, Nat.le_refl 1, rfl, rfl, fun _ => Nat.le_refl _, by decide, by decide⟩
theorem rraise_Q (c : Cq) (o v : Nat) (h : c.q.length ≤ 16) : SC Try.prog 27 [pC, n8 v] 3 (sR c o) (errS (raiE c v)) 5 (eR (raiq c v) o) := by
  by_cases hv : v = 0
  · rw [show raiE c v = 1 by simp [raiE, hv], show raiq c v = c by simp [raiq, hv]]
    refine SC.run hm Try.func27 rfl [.dec true] [1, 2] rfl rfl ?_ (.inl rfl) (EndOK.move rfl ⟨rfl, rfl, trivial⟩ rfl rfl rfl rfl rfl)
    simp only [true_and, and_true, and_assoc, beq_iff_eq]
    omega
  by_cases hl : c.q.length = 16
  · rw [show raiE c v = 8 by simp [raiE, hv, hl], show raiq c v = c by simp [raiq, hv, hl]]
    refine SC.run hm Try.func27 rfl [.dec false, .dec true] [1, 2] rfl rfl ?_ (.inl rfl) (EndOK.move rfl ⟨rfl, rfl, trivial⟩ rfl rfl rfl rfl rfl)
    simp only [true_and, and_true, and_assoc, beq_iff_eq, beq_eq_false_iff_ne, ne_eq, decide_eq_true_eq]
    omega
  · rw [show raiE c v = 0 by simp [raiE, hv, hl], show raiq c v = { c with q := c.q ++ [v] } by simp [raiq, hv, hl]]
    have hlen : (c.q ++ [v]).length = c.q.length + 1 := by simp
    by_cases hq : c.q = []
    · have h0 : c.q.length = 0 := by rw [hq]; rfl
      rw [show c.q ++ [v] = [v] by rw [hq]; rfl]
      refine SC.run hm Try.func27 rfl [.dec false, .dec false, .keep, .app 1 [u8 v]] [4, 5] rfl rfl ?_ (.inl rfl) (EndOK.move rfl ⟨rfl, rfl, trivial⟩ rfl rfl rfl rfl rfl)
      simp only [true_and, and_true, and_assoc, beq_eq_false_iff_ne, ne_eq]
      have e1 : Try.prog.types[5].size = 1 := by kernel_rfl
      have e2 : Try.prog.types[5].bytes = 1 := by kernel_rfl
      rw [e1, e2]
      exact ⟨by omega, decide_eq_false (by omega), by omega, h0, Nat.le_refl 1, rfl, rfl, fun _ => Nat.le_refl _, by decide, by decide⟩
    · have h0 : c.q.length ≠ 0 := fun e => hq (List.eq_nil_of_length_eq_zero e)
      refine SC.run hm Try.func27 rfl [.dec false, .dec false, .app c.q.length (c.q.map u8), .app (c.q ++ [v]).length ((c.q ++ [v]).map u8)] [6, 7] rfl rfl ?_ (.inl rfl) (EndOK.move rfl ⟨rfl, rfl, trivial⟩ rfl rfl rfl rfl rfl)
      simp only [true_and, and_true, and_assoc, beq_eq_false_iff_ne, ne_eq]
      have e1 : Try.prog.types[5].size = 1 := by kernel_rfl
      have e2 : Try.prog.types[5].bytes = 1 := by kernel_rfl
      rw [e1, e2, Nat.mul_one, Nat.mul_one]
      have hl1 : (c.q.map u8).length = c.q.length := List.length_map _
      have ht1 : (c.q.map u8).take c.q.length = c.q.map u8 := List.take_of_length_le (by rw [hl1]; exact Nat.le_refl _)
      have e3 : (qB c.q 2).cells = c.q.map u8 := rfl
      rw [e3, List.drop_zero, ht1]
      refine ⟨by omega, decide_eq_false (by omega), by omega, by omega, rfl, ?_, fun _ => by omega, by omega, by omega, by omega, Nat.le_refl 1, hlen, by rw [List.map_append]; rfl, rfl, (fun e => by cases e), by omega, by omega⟩
      exact fits_u8 _
end Go.Proofs.Ytimebhllnemnbaa
