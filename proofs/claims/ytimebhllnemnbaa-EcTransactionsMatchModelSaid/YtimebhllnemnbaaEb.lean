/-
  The embedded controller: advance, write, Status, ReadData, registers, while no query is raised.
-/
import Derived.Test.YtimebhllnemnbaaEa
set_option linter.unusedSimpArgs false
set_option linter.unusedVariables false
namespace Go.Proofs.Ytimebhllnemnbaa
open Go Ab
set_option maxRecDepth 100000

theorem mkL_len (f : Nat → S) : ∀ n i, (mkL f i n).length = n
  | 0, _ => rfl
  | n + 1, i => by simp [mkL, mkL_len f n]
theorem mkL_get (f : Nat → S) : ∀ n i k, k < n → (mkL f i n)[k]? = some (f (i + k))
  | n + 1, i, 0, _ => rfl
  | n + 1, i, k + 1, h => by simp only [mkL, List.getElem?_cons_succ]; rw [mkL_get f n (i + 1) k (by omega)]; congr 2; omega
theorem mkL_set (f : Nat → S) (v : S) : ∀ n i k, k < n → (mkL f i n).set k v = mkL (fun j => if j = i + k then v else f j) i n
  | n + 1, i, 0, _ => by
    simp only [mkL, List.set_cons_zero, Nat.add_zero, if_true]
    congr 1
    have : ∀ m j, i < j → mkL f j m = mkL (fun k => if k = i then v else f k) j m := by
      intro m
      induction m with
      | zero => intro j _; rfl
      | succ m ih => intro j hj; simp only [mkL]; rw [ih (j + 1) (by omega), if_neg (by omega)]
    exact this n (i + 1) (by omega)
  | n + 1, i, k + 1, h => by
    simp only [mkL, List.set_cons_succ]
    rw [mkL_set f v n (i + 1) k (by omega), if_neg (by omega)]
    congr 2
    funext j
    rw [show i + 1 + k = i + (k + 1) by omega]

def upd (r : Nat → Nat) (i v : Nat) : Nat → Nat := fun j => if j = i then v else r j
theorem reg_ld (c : Ct) {i : Nat} (h : i < 256) {t : TypeId} : ldAt false 1 { cells := c.c, ty := t } (plus 2 i) = some (.s (.int .u8 ((c.regs i : Nat) : Int))) := by
  rw [plus_eq]
  simp only [ldAt, Ct.c]
  have : (u64 c.delay :: u64 c.now :: (mkL (fun i => .int .u8 ((c.regs i : Nat) : Int)) 0 256 ++ [.slc none 0 (some 0), .bool c.pend, .bool c.isC, .int .u8 ((c.inp : Nat) : Int), .int .u64 ((c.due : Nat) : Int), .bool c.full, .int .u8 ((c.out : Nat) : Int), .int .u8 ((c.cmd : Nat) : Int), .bool c.hasA, .int .u8 ((c.adr : Nat) : Int)]))[2 + i]? = some (.int .u8 ((c.regs i : Nat) : Int)) := by
    rw [show 2 + i = i + 1 + 1 by omega, List.getElem?_cons_succ, List.getElem?_cons_succ, List.getElem?_append_left (by rw [mkL_len]; exact h), mkL_get _ _ _ _ h, Nat.zero_add]
  rw [this]
theorem reg_st (c : Ct) {i v : Nat} (h : i < 256) : ({ c with regs := upd c.regs i v } : Ct).c = setL c.c (plus 2 i) [.int .u8 ((v : Nat) : Int)] := by
  rw [plus_eq]
  simp only [Ct.c, setL]
  rw [show 2 + i = i + 1 + 1 by omega, List.set_cons_succ, List.set_cons_succ, List.set_append_left _ _ (by rw [mkL_len]; exact h), mkL_set _ _ _ _ _ h]
  congr 4
  funext j
  simp only [upd, Nat.zero_add]
  split <;> rfl
theorem c_len (c : Ct) : c.c.length = 268 := by simp [Ct.c, mkL_len]

/-- the arguments that every method has -/
def pC : V := .s (.ptr (some (0, 0)))
def n8 (v : Nat) : V := .s (.int .u8 ((v : Nat) : Int))
def n64 (v : Nat) : V := .s (.int .u64 ((v : Nat) : Int))

theorem register_s (c : Ct) (i : Nat) (h : i < 256) : SC Try.prog 16 [pC, n8 i] 1 [(0, some (bC c))] (n8 (c.regs i)) 1 [(0, some (bC c))] := by
  refine SC.run hm Try.func16 rfl [.idx i, .ldv (n8 (c.regs i))] [] rfl rfl ?_ (.inl rfl) (EndOK.by rfl ⟨rfl, trivial⟩ rfl rfl rfl rfl)
  simp only [true_and, and_true, and_assoc]
  exact ⟨by omega, reg_ld c h⟩
theorem setRegister_s (c : Ct) (i v : Nat) (h : i < 256) : SC Try.prog 14 [pC, n8 i, n8 v] 1 [(0, some (bC c))] (.tup []) 1 [(0, some (bC { c with regs := upd c.regs i v }))] := by
  refine SC.run hm Try.func14 rfl [.idx i, .stc ({ c with regs := upd c.regs i v } : Ct).c] [] rfl rfl ?_ (.inr rfl) (EndOK.by rfl ⟨rfl, trivial⟩ rfl rfl rfl rfl)
  simp only [true_and, and_true, and_assoc]
  refine ⟨by omega, ?_, reg_st c h⟩
  show plus 2 i + 1 ≤ c.c.length
  rw [c_len, plus_eq]; omega

/-! ### what a byte does -/
def tkD (c : Ct) (v : Nat) : Ct :=
  if c.cmd = 128 then { c with full := true, out := c.regs v, cmd := 0 }
  else if c.cmd = 129 then (match c.hasA with | false => { c with adr := v, hasA := true } | true => { c with regs := upd c.regs c.adr v, cmd := 0, hasA := false })
  else c
theorem takeData_s (c : Ct) (v : Nat) (h : v < 256) (ha : c.adr < 256) : SC Try.prog 47 [pC, n8 v] 1 [(0, some (bC c))] (.tup []) 1 [(0, some (bC (tkD c v)))] := by
  by_cases h1 : c.cmd = 128
  · rw [show tkD c v = { c with full := true, out := c.regs v, cmd := 0 } by simp [tkD, h1]]
    refine SC.run hm Try.func47 rfl [.dec true, .idx v, .ldv (n8 (c.regs v)), .call [0] [pC, n8 (c.regs v)] [(0, some (bC c))] (.tup []) 1 [(0, some (bC { c with full := true, out := c.regs v }))]] [] rfl rfl ?_ (.inr rfl) (EndOK.by rfl ⟨rfl, trivial⟩ rfl rfl rfl rfl)
    simp only [true_and, and_true, and_assoc, beq_iff_eq]
    exact ⟨by omega, by omega, reg_ld c h, by kernel_rfl, put_s c (c.regs v), rfl, Fits.of rfl rfl ⟨⟨rfl, _, rfl, rfl, fun h => h⟩, trivial⟩⟩
  by_cases h2 : c.cmd = 129
  · cases h3 : c.hasA with
    | false =>
      rw [show tkD c v = { c with adr := v, hasA := true } by simp [tkD, h1, h2, h3]]
      refine SC.run hm Try.func47 rfl [.dec false, .dec true, .ldv (.s (.bool false))] [] rfl rfl ?_ (.inr rfl) (EndOK.by rfl ⟨rfl, trivial⟩ rfl rfl rfl rfl)
      simp only [true_and, and_true, and_assoc, beq_eq_false_iff_ne, beq_iff_eq, ne_eq]
      refine ⟨by omega, by omega, ?_⟩
      show some (V.s (S.bool c.hasA)) = _; rw [h3]
    | true =>
      rw [show tkD c v = { c with regs := upd c.regs c.adr v, cmd := 0, hasA := false } by simp [tkD, h1, h2, h3]]
      refine SC.run hm Try.func47 rfl [.dec false, .dec true, .ldv (.s (.bool true)), .dec true, .idx c.adr, .stc ({ c with regs := upd c.regs c.adr v } : Ct).c] [] rfl rfl ?_ (.inr rfl) (EndOK.by rfl ⟨rfl, trivial⟩ rfl rfl rfl rfl)
      simp only [true_and, and_true, and_assoc, beq_eq_false_iff_ne, beq_iff_eq, ne_eq]
      refine ⟨by omega, by omega, ?_, by omega, by omega, ?_, reg_st c ha, by kernel_rfl⟩
      · show some (V.s (S.bool c.hasA)) = _; rw [h3]
      · show plus 2 c.adr + 1 ≤ c.c.length
        rw [c_len, plus_eq]; omega
  · rw [show tkD c v = c by simp [tkD, h1, h2]]
    refine SC.run hm Try.func47 rfl [.dec false, .dec false, .dec false] [] rfl rfl ?_ (.inr rfl) (EndOK.by rfl ⟨rfl, trivial⟩ rfl rfl rfl rfl)
    simp only [true_and, and_true, and_assoc, beq_eq_false_iff_ne, ne_eq]
    omega

def tkC (c : Ct) (v : Nat) : Ct :=
  if v = 128 ∨ v = 129 then { c with cmd := v, hasA := false }
  else if v = 132 then { c with cmd := 0, hasA := false, full := true, out := 0 }
  else { c with cmd := 0, hasA := false }
theorem takeCommand_s (c : Ct) (v : Nat) : SC Try.prog 46 [pC, n8 v] 1 [(0, some (bC c))] (.tup []) 1 [(0, some (bC (tkC c v)))] := by
  by_cases h1 : v = 128
  · rw [show tkC c v = { c with cmd := v, hasA := false } by simp [tkC, h1]]
    refine SC.run hm Try.func46 rfl [.dec true] [] rfl rfl ?_ (.inr rfl) (EndOK.by rfl ⟨rfl, trivial⟩ rfl rfl rfl rfl)
    simp only [true_and, and_true, and_assoc, beq_iff_eq]
    omega
  by_cases h2 : v = 129
  · rw [show tkC c v = { c with cmd := v, hasA := false } by simp [tkC, h2]]
    refine SC.run hm Try.func46 rfl [.dec false, .dec true] [] rfl rfl ?_ (.inr rfl) (EndOK.by rfl ⟨rfl, trivial⟩ rfl rfl rfl rfl)
    simp only [true_and, and_true, and_assoc, beq_eq_false_iff_ne, beq_iff_eq, ne_eq]
    omega
  by_cases h3 : v = 132
  · rw [show tkC c v = { c with cmd := 0, hasA := false, full := true, out := 0 } by simp [tkC, h3]]
    refine SC.run hm Try.func46 rfl [.dec false, .dec false, .dec true, .dec false, .call [0] [pC, n8 0] [(0, some (bC { c with cmd := 0, hasA := false }))] (.tup []) 1 [(0, some (bC { c with cmd := 0, hasA := false, full := true, out := 0 }))]] [] rfl rfl ?_ (.inr rfl) (EndOK.by rfl ⟨rfl, trivial⟩ rfl rfl rfl rfl)
    simp only [true_and, and_true, and_assoc, beq_eq_false_iff_ne, beq_iff_eq, ne_eq, decide_eq_false_iff_not]
    exact ⟨by omega, by omega, by omega, by omega, by kernel_rfl, put_s { c with cmd := 0, hasA := false } 0, rfl, Fits.of rfl rfl ⟨⟨rfl, _, rfl, rfl, fun h => h⟩, trivial⟩⟩
  · rw [show tkC c v = { c with cmd := 0, hasA := false } by simp [tkC, h1, h2, h3]]
    refine SC.run hm Try.func46 rfl [.dec false, .dec false, .dec false] [] rfl rfl ?_ (.inr rfl) (EndOK.by rfl ⟨rfl, trivial⟩ rfl rfl rfl rfl)
    simp only [true_and, and_true, and_assoc, beq_eq_false_iff_ne, ne_eq]
    omega

/-! ### time passes -/
def tick (c : Ct) (t : Nat) : Ct := { c with now := max c.now t }
def adv (c : Ct) (t : Nat) : Ct :=
  match c.pend && decide (c.due ≤ max c.now t) with
  | false => tick c t
  | true => (match c.isC with | true => tkC { tick c t with pend := false } c.inp | false => tkD { tick c t with pend := false } c.inp)
structure Ct.ok (c : Ct) : Prop where
  now : c.now < 2 ^ 64
  delay : c.delay < 2 ^ 64
  due : c.due < 2 ^ 64
  inp : c.inp < 256
  adr : c.adr < 256
  out : c.out < 256
  cmd : c.cmd < 256
  regs : ∀ i, c.regs i < 256

theorem max_nat (a b : Nat) : (if (b : Int) > (a : Int) then (b : Int) else (a : Int)) = ((max a b : Nat) : Int) := by split <;> omega
theorem advance_s (c : Ct) (t : Nat) (h : c.ok) : SC Try.prog 41 [pC, n64 t] 1 [(0, some (bC c))] (.tup []) 1 [(0, some (bC (adv c t)))] := by
  have hmx := max_nat c.now t
  cases hp : c.pend with
  | false =>
    rw [show adv c t = tick c t by simp [adv, hp]]
    refine SC.run hm Try.func41 rfl [.num ((max c.now t : Nat) : Int), .ldv (.s (.bool false))] [] rfl rfl ?_ (.inl rfl) (EndOK.by rfl ⟨rfl, trivial⟩ rfl rfl rfl rfl)
    simp only [true_and, and_true, and_assoc]
    refine ⟨hmx, ?_, by kernel_rfl⟩
    show some (V.s (S.bool c.pend)) = _; rw [hp]
  | true =>
    by_cases hd : c.due ≤ max c.now t
    · cases hc : c.isC with
      | true =>
        rw [show adv c t = tkC { tick c t with pend := false } c.inp by simp [adv, hp, hd, hc]]
        refine SC.run hm Try.func41 rfl [.num ((max c.now t : Nat) : Int), .ldv (.s (.bool true)), .dec false, .ldv (.s (.bool true)), .call [0] [pC, n8 c.inp] [(0, some (bC { tick c t with pend := false }))] (.tup []) 1 [(0, some (bC (tkC { tick c t with pend := false } c.inp)))]] [] rfl rfl ?_ (.inr rfl) (EndOK.by rfl ⟨rfl, trivial⟩ rfl rfl rfl rfl)
        simp only [true_and, and_true, and_assoc, decide_eq_false_iff_not]
        refine ⟨hmx, ?_, by omega, by kernel_rfl, ?_, by kernel_rfl, takeCommand_s _ _, rfl, Fits.of rfl rfl ⟨⟨rfl, _, rfl, rfl, fun h => h⟩, trivial⟩⟩
        · show some (V.s (S.bool c.pend)) = _; rw [hp]
        · show some (V.s (S.bool c.isC)) = _; rw [hc]
      | false =>
        rw [show adv c t = tkD { tick c t with pend := false } c.inp by simp [adv, hp, hd, hc]]
        refine SC.run hm Try.func41 rfl [.num ((max c.now t : Nat) : Int), .ldv (.s (.bool true)), .dec false, .ldv (.s (.bool false)), .call [0] [pC, n8 c.inp] [(0, some (bC { tick c t with pend := false }))] (.tup []) 1 [(0, some (bC (tkD { tick c t with pend := false } c.inp)))]] [] rfl rfl ?_ (.inr rfl) (EndOK.by rfl ⟨rfl, trivial⟩ rfl rfl rfl rfl)
        simp only [true_and, and_true, and_assoc, decide_eq_false_iff_not]
        refine ⟨hmx, ?_, by omega, by kernel_rfl, ?_, by kernel_rfl, takeData_s _ _ h.inp h.adr, rfl, Fits.of rfl rfl ⟨⟨rfl, _, rfl, rfl, fun h => h⟩, trivial⟩⟩
        · show some (V.s (S.bool c.pend)) = _; rw [hp]
        · show some (V.s (S.bool c.isC)) = _; rw [hc]
    · rw [show adv c t = tick c t by simp [adv, hp, hd]]
      refine SC.run hm Try.func41 rfl [.num ((max c.now t : Nat) : Int), .ldv (.s (.bool true)), .dec true] [] rfl rfl ?_ (.inl rfl) (EndOK.by rfl ⟨rfl, trivial⟩ rfl rfl rfl rfl)
      simp only [true_and, and_true, and_assoc, decide_eq_true_eq]
      refine ⟨hmx, ?_, by omega, by kernel_rfl⟩
      show some (V.s (S.bool c.pend)) = _; rw [hp]

end Go.Proofs.Ytimebhllnemnbaa
