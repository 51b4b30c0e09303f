/-
  The embedded controller: times added, bytes written, Status, ReadData, New, transactions made.
-/
import Derived.Test.YtimebhllnemnbaaEb
set_option linter.unusedSimpArgs false
set_option linter.unusedVariables false
namespace Go.Proofs.Ytimebhllnemnbaa
open Go Ab
set_option maxRecDepth 100000

theorem tkD_ok {c : Ct} (h : c.ok) {v : Nat} (hv : v < 256) : (tkD c v).ok := by
  unfold tkD
  split
  · exact ⟨h.now, h.delay, h.due, h.inp, h.adr, h.regs v, (by decide : 0 < 256), h.regs⟩
  · split
    · split
      · exact ⟨h.now, h.delay, h.due, h.inp, hv, h.out, h.cmd, h.regs⟩
      · refine ⟨h.now, h.delay, h.due, h.inp, h.adr, h.out, (by decide : 0 < 256), fun i => ?_⟩
        show upd c.regs c.adr v i < 256
        unfold upd; split
        · exact hv
        · exact h.regs i
    · exact h
theorem tkC_ok {c : Ct} (h : c.ok) {v : Nat} (hv : v < 256) : (tkC c v).ok := by
  unfold tkC
  split
  · exact ⟨h.now, h.delay, h.due, h.inp, h.adr, h.out, hv, h.regs⟩
  · split
    · exact ⟨h.now, h.delay, h.due, h.inp, h.adr, (by decide : 0 < 256), (by decide : 0 < 256), h.regs⟩
    · exact ⟨h.now, h.delay, h.due, h.inp, h.adr, h.out, (by decide : 0 < 256), h.regs⟩
theorem tick_ok {c : Ct} (h : c.ok) {t : Nat} (ht : t < 2 ^ 64) : (tick c t).ok := ⟨by have := h.now; show max c.now t < _; omega, h.delay, h.due, h.inp, h.adr, h.out, h.cmd, h.regs⟩
theorem idle_ok {c : Ct} (h : c.ok) (p : Bool) : ({ c with pend := p } : Ct).ok := ⟨h.now, h.delay, h.due, h.inp, h.adr, h.out, h.cmd, h.regs⟩
theorem adv_ok {c : Ct} (h : c.ok) {t : Nat} (ht : t < 2 ^ 64) : (adv c t).ok := by
  unfold adv
  split
  · exact tick_ok h ht
  · split
    · exact tkC_ok (idle_ok (tick_ok h ht) false) h.inp
    · exact tkD_ok (idle_ok (tick_ok h ht) false) h.inp
theorem tkD_now (c : Ct) (v : Nat) : (tkD c v).now = c.now ∧ (tkD c v).pend = c.pend ∧ (tkD c v).delay = c.delay := by
  unfold tkD; split
  · exact ⟨rfl, rfl, rfl⟩
  · split
    · split <;> exact ⟨rfl, rfl, rfl⟩
    · exact ⟨rfl, rfl, rfl⟩
theorem tkC_now (c : Ct) (v : Nat) : (tkC c v).now = c.now ∧ (tkC c v).pend = c.pend ∧ (tkC c v).delay = c.delay := by
  unfold tkC; split
  · exact ⟨rfl, rfl, rfl⟩
  · split <;> exact ⟨rfl, rfl, rfl⟩
theorem adv_now (c : Ct) (t : Nat) : (adv c t).now = max c.now t ∧ (adv c t).delay = c.delay := by
  unfold adv
  split
  · exact ⟨rfl, rfl⟩
  · split
    · exact ⟨(tkC_now _ _).1, (tkC_now _ _).2.2⟩
    · exact ⟨(tkD_now _ _).1, (tkD_now _ _).2.2⟩
/-- a controller at rest stays as it is till time goes on -/
theorem adv_rest {c : Ct} {t : Nat} (hp : c.pend = false) (ht : t ≤ c.now) : adv c t = c := by
  have : max c.now t = c.now := Nat.max_eq_left ht
  have e : adv c t = tick c t := by simp [adv, hp]
  rw [e]; unfold tick; rw [this]

/-! ### sums of times -/
def sat (a b : Nat) : Nat := min (a + b) 18446744073709551615
theorem add64_x (a b : Nat) (ha : a < 2 ^ 64) (hb : b < 2 ^ 64) : XT Try.prog 45 [n64 a, n64 b, .s (.int .u64 0)] (.tup [.s (.int .u64 (((a + b) % 2 ^ 64 : Nat) : Int)), .s (.int .u64 (((a + b) / 2 ^ 64 : Nat) : Int))]) := by
  intro φ xs w h
  match xs, h with
  | [x, y, z], ⟨h1, h2, h3, _⟩ =>
    have h1 : x = .int .u64 ((a : Nat) : Int) := h1
    have h2 : y = .int .u64 ((b : Nat) : Int) := h2
    have h3 : z = .int .u64 0 := h3
    subst h1; subst h2; subst h3
    refine ⟨_, ?_, [.int .u64 (((a + b) % 2 ^ 64 : Nat) : Int), .int .u64 (((a + b) / 2 ^ 64 : Nat) : Int)], rfl, rfl, rfl, trivial⟩
    rw [run_callFunc_extern (e := add64Entry) Try.func45 (by kernel_rfl) rfl (by rfl) (by rfl)]
    rw [run_add64 _ _ _ (by omega) (by omega) (by omega) (by omega)]
    simp only [Result.andThen_ok, Int.add_zero]
    congr 4
theorem add_s (a b : Nat) (ha : a < 2 ^ 64) (hb : b < 2 ^ 64) : SC Try.prog 37 [n64 a, n64 b] 0 [] (n64 (sat a b)) 0 [] := by
  have hx := add64_x a b ha hb
  by_cases h : a + b < 2 ^ 64
  · rw [show sat a b = (a + b) % 2 ^ 64 by unfold sat; rw [Nat.mod_eq_of_lt h]; omega]
    refine SC.run hm Try.func37 rfl [.ext [n64 a, n64 b, .s (.int .u64 0)] (.tup [.s (.int .u64 (((a + b) % 2 ^ 64 : Nat) : Int)), .s (.int .u64 (((a + b) / 2 ^ 64 : Nat) : Int))]), .dec false] [] rfl rfl ?_ (.inl rfl) (EndOK.plain rfl no_mem rfl rfl)
    simp only [true_and, and_true, and_assoc, bne_eq_false_iff_eq]
    exact ⟨rfl, hx, by rw [Nat.div_eq_of_lt h]; rfl⟩
  · rw [show sat a b = 18446744073709551615 by unfold sat; omega]
    refine SC.run hm Try.func37 rfl [.ext [n64 a, n64 b, .s (.int .u64 0)] (.tup [.s (.int .u64 (((a + b) % 2 ^ 64 : Nat) : Int)), .s (.int .u64 (((a + b) / 2 ^ 64 : Nat) : Int))]), .dec true] [] rfl rfl ?_ (.inl rfl) (EndOK.plain rfl no_mem rfl rfl)
    simp only [true_and, and_true, and_assoc, bne_iff_ne, ne_eq]
    exact ⟨rfl, hx, by omega⟩

/-! ### bytes written and read -/
def wrt (c : Ct) (t v : Nat) (ic : Bool) : Ct :=
  match (adv c t).pend with
  | true => adv c t
  | false => { adv c t with pend := true, isC := ic, inp := v, due := sat (adv c t).now (adv c t).delay }
theorem wrt_ok {c : Ct} (h : c.ok) {t v : Nat} {ic : Bool} (ht : t < 2 ^ 64) (hv : v < 256) : (wrt c t v ic).ok := by
  have a := adv_ok h ht
  unfold wrt
  split
  · exact a
  · exact ⟨a.now, a.delay, by show sat _ _ < _; unfold sat; omega, hv, a.adr, a.out, a.cmd, a.regs⟩
theorem cl {P : Program} {f : FuncId} {args args0 : List V} {n : Nat} {L : Hp} {tbl : List Nat} {L0 : Hp} {v0 : V} {n0' : Nat} {L0' : Hp} (h : SC P f args0 tbl.length L0 v0 n0' L0') (ha : args = args0.map (renV (rn tbl n))) (hf : Fits tbl n n0' L0 (res tbl L)) : callC P f args n L tbl args0 L0 v0 n0' L0' := ⟨h, ha, hf⟩

theorem write_s (c : Ct) (t v : Nat) (ic : Bool) (h : c.ok) (ht : t < 2 ^ 64) : SC Try.prog 39 [pC, n64 t, n8 v, .s (.bool ic)] 1 [(0, some (bC c))] (.tup []) 1 [(0, some (bC (wrt c t v ic)))] := by
  have a := adv_ok h ht
  have c1 := advance_s c t h
  have c2 := add_s (adv c t).now (adv c t).delay a.now a.delay
  cases hp : (adv c t).pend with
  | true =>
    rw [show wrt c t v ic = adv c t by simp [wrt, hp]]
    generalize adv c t = d at *
    refine SC.run hm Try.func39 rfl [.call [0] [pC, n64 t] [(0, some (bC c))] (.tup []) 1 [(0, some (bC d))], .ldv (.s (.bool true))] [] rfl rfl ?_ (.inl rfl) (EndOK.by rfl ⟨rfl, trivial⟩ rfl rfl rfl rfl)
    simp only [true_and, and_true, and_assoc]
    refine ⟨by kernel_rfl, ⟨c1, rfl, Fits.of rfl rfl ⟨⟨rfl, _, rfl, rfl, fun h => h⟩, trivial⟩⟩, ?_⟩
    show some (V.s (S.bool d.pend)) = _; rw [hp]
  | false =>
    rw [show wrt c t v ic = { adv c t with pend := true, isC := ic, inp := v, due := sat (adv c t).now (adv c t).delay } by simp [wrt, hp]]
    generalize adv c t = d at *
    refine SC.run hm Try.func39 rfl [.call [0] [pC, n64 t] [(0, some (bC c))] (.tup []) 1 [(0, some (bC d))], .ldv (.s (.bool false)), .call [] [n64 d.now, n64 d.delay] [] (n64 (sat d.now d.delay)) 0 []] [] rfl rfl ?_ (.inr rfl) (EndOK.by rfl ⟨rfl, trivial⟩ rfl rfl rfl rfl)
    simp only [true_and, and_true, and_assoc]
    refine ⟨by kernel_rfl, ⟨c1, rfl, Fits.of rfl rfl ⟨⟨rfl, _, rfl, rfl, fun h => h⟩, trivial⟩⟩, ?_, by kernel_rfl, call0 c2 rfl, by kernel_rfl⟩
    show some (V.s (S.bool d.pend)) = _; rw [hp]
theorem writeData_s (c : Ct) (t v : Nat) (h : c.ok) (ht : t < 2 ^ 64) : SC Try.prog 19 [pC, n64 t, n8 v] 1 [(0, some (bC c))] (.tup []) 1 [(0, some (bC (wrt c t v false)))] := by
  have c1 := write_s c t v false h ht
  refine SC.run hm Try.func19 rfl [.call [0] [pC, n64 t, n8 v, .s (.bool false)] [(0, some (bC c))] (.tup []) 1 [(0, some (bC (wrt c t v false)))]] [] rfl rfl ?_ (.inr rfl) (EndOK.by rfl ⟨rfl, trivial⟩ rfl rfl rfl rfl)
  simp only [true_and, and_true, and_assoc]
  exact ⟨by kernel_rfl, c1, rfl, Fits.of rfl rfl ⟨⟨rfl, _, rfl, rfl, fun h => h⟩, trivial⟩⟩
theorem writeCommand_s (c : Ct) (t v : Nat) (h : c.ok) (ht : t < 2 ^ 64) : SC Try.prog 22 [pC, n64 t, n8 v] 1 [(0, some (bC c))] (.tup []) 1 [(0, some (bC (wrt c t v true)))] := by
  have c1 := write_s c t v true h ht
  refine SC.run hm Try.func22 rfl [.call [0] [pC, n64 t, n8 v, .s (.bool true)] [(0, some (bC c))] (.tup []) 1 [(0, some (bC (wrt c t v true)))]] [] rfl rfl ?_ (.inr rfl) (EndOK.by rfl ⟨rfl, trivial⟩ rfl rfl rfl rfl)
  simp only [true_and, and_true, and_assoc]
  exact ⟨by kernel_rfl, c1, rfl, Fits.of rfl rfl ⟨⟨rfl, _, rfl, rfl, fun h => h⟩, trivial⟩⟩

def stN (d : Ct) : Nat := match d.full, d.pend with | false, false => 0 | true, false => 1 | false, true => 2 | true, true => 3
theorem status_s (c : Ct) (t : Nat) (h : c.ok) : SC Try.prog 29 [pC, n64 t] 1 [(0, some (bC c))] (n8 (stN (adv c t))) 1 [(0, some (bC (adv c t)))] := by
  have c1 := advance_s c t h
  generalize adv c t = d at *
  cases hf : d.full <;> cases hp : d.pend
  · rw [show stN d = 0 by simp [stN, hf, hp]]
    refine SC.run hm Try.func29 rfl [.call [0] [pC, n64 t] [(0, some (bC c))] (.tup []) 1 [(0, some (bC d))], .ldv (.s (.bool false)), .ldv (.s (.bool false)), .dec false] [] rfl rfl ?_ (.inl rfl) (EndOK.by rfl ⟨rfl, trivial⟩ rfl rfl rfl rfl)
    simp only [true_and, and_true, and_assoc, decide_eq_false_iff_not]
    refine ⟨by kernel_rfl, ⟨c1, rfl, Fits.of rfl rfl ⟨⟨rfl, _, rfl, rfl, fun h => h⟩, trivial⟩⟩, ?_, ?_, by omega⟩
    · show some (V.s (S.bool d.full)) = _; rw [hf]
    · show some (V.s (S.bool d.pend)) = _; rw [hp]
  · rw [show stN d = 2 by simp [stN, hf, hp]]
    refine SC.run hm Try.func29 rfl [.call [0] [pC, n64 t] [(0, some (bC c))] (.tup []) 1 [(0, some (bC d))], .ldv (.s (.bool false)), .ldv (.s (.bool true)), .num ((2 : Nat) : Int), .dec false] [] rfl rfl ?_ (.inl rfl) (EndOK.by rfl ⟨rfl, trivial⟩ rfl rfl rfl rfl)
    simp only [true_and, and_true, and_assoc, decide_eq_false_iff_not]
    refine ⟨by kernel_rfl, ⟨c1, rfl, Fits.of rfl rfl ⟨⟨rfl, _, rfl, rfl, fun h => h⟩, trivial⟩⟩, ?_, ?_, by decide, by omega⟩
    · show some (V.s (S.bool d.full)) = _; rw [hf]
    · show some (V.s (S.bool d.pend)) = _; rw [hp]
  · rw [show stN d = 1 by simp [stN, hf, hp]]
    refine SC.run hm Try.func29 rfl [.call [0] [pC, n64 t] [(0, some (bC c))] (.tup []) 1 [(0, some (bC d))], .ldv (.s (.bool true)), .num ((1 : Nat) : Int), .ldv (.s (.bool false)), .dec false] [] rfl rfl ?_ (.inl rfl) (EndOK.by rfl ⟨rfl, trivial⟩ rfl rfl rfl rfl)
    simp only [true_and, and_true, and_assoc, decide_eq_false_iff_not]
    refine ⟨by kernel_rfl, ⟨c1, rfl, Fits.of rfl rfl ⟨⟨rfl, _, rfl, rfl, fun h => h⟩, trivial⟩⟩, ?_, by decide, ?_, by omega⟩
    · show some (V.s (S.bool d.full)) = _; rw [hf]
    · show some (V.s (S.bool d.pend)) = _; rw [hp]
  · rw [show stN d = 3 by simp [stN, hf, hp]]
    refine SC.run hm Try.func29 rfl [.call [0] [pC, n64 t] [(0, some (bC c))] (.tup []) 1 [(0, some (bC d))], .ldv (.s (.bool true)), .num ((1 : Nat) : Int), .ldv (.s (.bool true)), .num ((3 : Nat) : Int), .dec false] [] rfl rfl ?_ (.inl rfl) (EndOK.by rfl ⟨rfl, trivial⟩ rfl rfl rfl rfl)
    simp only [true_and, and_true, and_assoc, decide_eq_false_iff_not]
    refine ⟨by kernel_rfl, ⟨c1, rfl, Fits.of rfl rfl ⟨⟨rfl, _, rfl, rfl, fun h => h⟩, trivial⟩⟩, ?_, by decide, ?_, by decide, by omega⟩
    · show some (V.s (S.bool d.full)) = _; rw [hf]
    · show some (V.s (S.bool d.pend)) = _; rw [hp]

def emt (d : Ct) : Ct := { d with full := false, out := 0 }
theorem readData_s (c : Ct) (t : Nat) (h : c.ok) : SC Try.prog 24 [pC, n64 t] 1 [(0, some (bC c))] (n8 (adv c t).out) 1 [(0, some (bC (emt (adv c t))))] := by
  have c1 := advance_s c t h
  generalize adv c t = d at *
  refine SC.run hm Try.func24 rfl [.call [0] [pC, n64 t] [(0, some (bC c))] (.tup []) 1 [(0, some (bC d))]] [] rfl rfl ?_ (.inl rfl) (EndOK.by rfl ⟨rfl, trivial⟩ rfl rfl rfl rfl)
  simp only [true_and, and_true, and_assoc]
  exact ⟨by kernel_rfl, c1, rfl, Fits.of rfl rfl ⟨⟨rfl, _, rfl, rfl, fun h => h⟩, trivial⟩⟩
theorem emt_ok {d : Ct} (h : d.ok) : (emt d).ok := ⟨h.now, h.delay, h.due, h.inp, h.adr, (by decide : 0 < 256), h.cmd, h.regs⟩

/-! ### New -/
def ct0 (d : Nat) : Ct := ⟨d, 0, fun _ => 0, false, false, 0, 0, false, 0, 0, false, 0⟩
theorem ct0_ok {d : Nat} (h : d < 2 ^ 64) : (ct0 d).ok := ⟨(by decide : 0 < 2 ^ 64), h, (by decide : 0 < 2 ^ 64), (by decide : 0 < 256), (by decide : 0 < 256), (by decide : 0 < 256), (by decide : 0 < 256), fun _ => (by decide : 0 < 256)⟩
theorem new_s (d : Nat) (h : d ≤ 4294967296) : SC Try.prog 9 [n64 d] 0 [] (.tup [.s (.ptr (some (0, 0))), .s (.int .i64 0)]) 1 [(0, some (bC (ct0 d)))] := by
  refine SC.run hm Try.func9 rfl [.dec false] [0] rfl rfl ?_ (.inl rfl) (EndOK.by rfl ⟨rfl, trivial⟩ rfl rfl rfl rfl)
  simp only [true_and, and_true, decide_eq_false_iff_not]; omega
theorem new_no (d : Nat) (h : ¬ d ≤ 4294967296) : SC Try.prog 9 [n64 d] 0 [] (.tup [.s (.ptr none), .s (.int .i64 1)]) 0 [] := by
  refine SC.run hm Try.func9 rfl [.dec true] [] rfl rfl ?_ (.inl rfl) (EndOK.plain rfl no_mem rfl rfl)
  simp only [true_and, and_true, decide_eq_true_eq]; omega

/-! ### transactions -/
structure Tr where
  cmd : Nat
  adr : Nat
  val : Nat
  dl : Nat
  ph : Nat
  res : Nat
def Tr.c (t : Tr) : List S := [.int .u8 ((t.cmd : Nat) : Int), .int .u8 ((t.adr : Nat) : Int), .int .u8 ((t.val : Nat) : Int), .int .u64 ((t.dl : Nat) : Int), .int .i64 ((t.ph : Nat) : Int), .int .u8 ((t.res : Nat) : Int)]
def bT (t : Tr) : Bl := { cells := t.c, ty := 67 }
theorem read_s (a s t : Nat) (hs : s < 2 ^ 64) (ht : t < 2 ^ 64) : SC Try.prog 11 [n8 a, n64 s, n64 t] 0 [] (.s (.ptr (some (0, 0)))) 1 [(0, some (bT ⟨128, a, 0, sat s t, 0, 0⟩))] := by
  have c1 := add_s s t hs ht
  refine SC.run hm Try.func11 rfl [.call [] [n64 s, n64 t] [] (n64 (sat s t)) 0 []] [0] rfl rfl ?_ (.inl rfl) (EndOK.by rfl ⟨rfl, trivial⟩ rfl rfl rfl rfl)
  simp only [true_and, and_true, and_assoc]
  exact ⟨by kernel_rfl, call0 c1 rfl⟩
theorem writeT_s (a v s t : Nat) (hs : s < 2 ^ 64) (ht : t < 2 ^ 64) : SC Try.prog 12 [n8 a, n8 v, n64 s, n64 t] 0 [] (.s (.ptr (some (0, 0)))) 1 [(0, some (bT ⟨129, a, v, sat s t, 0, 0⟩))] := by
  have c1 := add_s s t hs ht
  refine SC.run hm Try.func12 rfl [.call [] [n64 s, n64 t] [] (n64 (sat s t)) 0 []] [0] rfl rfl ?_ (.inl rfl) (EndOK.by rfl ⟨rfl, trivial⟩ rfl rfl rfl rfl)
  simp only [true_and, and_true, and_assoc]
  exact ⟨by kernel_rfl, call0 c1 rfl⟩

end Go.Proofs.Ytimebhllnemnbaa
