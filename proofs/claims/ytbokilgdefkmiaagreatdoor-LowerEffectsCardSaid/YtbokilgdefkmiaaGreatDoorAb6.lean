/-
  The frame, part 6: the operations that only compute.
-/
import Derived.Test.YtbokilgdefkmiaaGreatDoorAb5
set_option linter.unusedSimpArgs false
set_option linter.unusedVariables false
namespace Go.Proofs.YtbokilgdefkmiaaGreatDoor
namespace Ab
open Go

theorem wrap_in {k : IntKind} {z : Int} (h1 : k.min ≤ z) (h2 : z ≤ k.max) : k.wrap z = z := by
  cases k <;> simp [IntKind.min, IntKind.max, IntKind.bits, IntKind.signed] at h1 h2 <;> simp [IntKind.wrap, IntKind.bits, IntKind.signed] <;> omega
theorem i64_in {z : Int} (h1 : -9223372036854775808 ≤ z) (h2 : z ≤ 9223372036854775807) : IntKind.i64.wrap z = z := wrap_in (by simpa [IntKind.min, IntKind.bits, IntKind.signed] using h1) (by simpa [IntKind.max, IntKind.bits, IntKind.signed] using h2)
theorem u64_in {z : Int} (h1 : 0 ≤ z) (h2 : z ≤ 18446744073709551615) : IntKind.u64.wrap z = z := wrap_in (by simpa [IntKind.min, IntKind.bits, IntKind.signed] using h1) (by simpa [IntKind.max, IntKind.bits, IntKind.signed] using h2)
theorem u8_in {z : Int} (h1 : 0 ≤ z) (h2 : z ≤ 255) : IntKind.u8.wrap z = z := wrap_in (by simpa [IntKind.min, IntKind.bits, IntKind.signed] using h1) (by simpa [IntKind.max, IntKind.bits, IntKind.signed] using h2)
theorem u64_wrap (z : Int) : IntKind.u64.wrap z = z % 18446744073709551616 := by simp [IntKind.wrap, IntKind.bits, IntKind.signed]

/-- what a run is told: how a comparison comes out, what a number comes to, which place an index is, what a symbolic block holds .. -/
inductive Ans where
  | dec (d : Bool)
  | keep
  | num (z : Int)
  | idx (k : Nat)
  | mk (k : Nat)
  | val (v : V)
  | cells (l : List S)
  | call (tbl : List Nat) (args0 : List V) (L0 : Hp) (v0 : V) (n0' : Nat) (L0' : Hp)
  | loop (x : Exit) (env : List V) (n : Nat) (L : Hp)
  | app (r : Nat) (cs : List S)
  | callw (tbl : List Nat) (args0 : List V) (L0 : Hp) (v0 : V) (n0' : Nat) (L0' : Hp)
  | lazy (l : List Ans) (fin : List (Nat × Bool))
  | eager
  | ldv (v : V)
  | stc (l : List S)
  | ext (args0 : List V) (v : V)
  | join (as1 as2 : List Ans) (z : Exit) (e : List V) (m : Nat) (M : Hp)
  | win (k h : Nat) (cs : List S)
  | wlz (k h : Nat)
  | stw (cs cells : List S)

structure Out where
  r : R
  ans : List Ans
  C : Prop

def finI (k : IntKind) (raw : Int) : List Ans → Int × List Ans × Prop
  | .num z :: as => (z, as, k.wrap raw = z)
  | as => (raw, as, k.wrap raw = raw)
def finE (raw : Int) : List Ans → Int × List Ans × Prop
  | .num z :: as => (z, as, raw = z)
  | as => (raw, as, True)
def finB (b : Bool) : List Ans → Bool × List Ans × Prop
  | .dec d :: as => (d, as, b = d)
  | .keep :: as => (b, as, True)
  | as => (b, as, True)

theorem finI_ok {k : IntKind} {raw : Int} {ans : List Ans} (h : (finI k raw ans).2.2) : k.wrap raw = (finI k raw ans).1 := by
  unfold finI at h ⊢; split at h <;> exact h
theorem finE_ok {raw : Int} {ans : List Ans} (h : (finE raw ans).2.2) : raw = (finE raw ans).1 := by
  unfold finE at h ⊢; split at h
  · exact h
  · rfl
theorem finB_ok {b : Bool} {ans : List Ans} (h : (finB b ans).2.2) : b = (finB b ans).1 := by
  unfold finB at h ⊢; split at h
  · exact h
  · rfl
  · rfl

abbrev SO := Option (S × List Ans × Prop)
def outI (k : IntKind) (t : Int × List Ans × Prop) (C : Prop) : SO := match t with | (z, as, D) => some (.int k z, as, C ∧ D)
def outB (t : Bool × List Ans × Prop) : SO := match t with | (z, as, D) => some (.bool z, as, D)
theorem outI_eq (k : IntKind) (t : Int × List Ans × Prop) (C : Prop) : outI k t C = some (.int k t.1, t.2.1, C ∧ t.2.2) := rfl
theorem outB_eq (t : Bool × List Ans × Prop) : outB t = some (.bool t.1, t.2.1, t.2.2) := rfl

def bitV (op : BinOp) (k : IntKind) (x y : Int) : Int :=
  match op with
  | .and => k.wrap (BitVec.ofInt k.bits x &&& BitVec.ofInt k.bits y).toNat
  | .or => k.wrap (BitVec.ofInt k.bits x ||| BitVec.ofInt k.bits y).toNat
  | .xor => k.wrap (BitVec.ofInt k.bits x ^^^ BitVec.ofInt k.bits y).toNat
  | _ => k.wrap (BitVec.ofInt k.bits x &&& ~~~(BitVec.ofInt k.bits y)).toNat

def binI (op : BinOp) (k : IntKind) (a b : Int) (ans : List Ans) : SO :=
  match op with
  | .add => outI k (finI k (a + b) ans) True
  | .sub => outI k (finI k (a - b) ans) True
  | .mul => outI k (finI k (a * b) ans) True
  | .quo => outI k (finI k (a.tdiv b) ans) (b ≠ 0)
  | .rem => outI k (finE (a.tmod b) ans) (b ≠ 0)
  | .and => outI k (finE (bitV .and k a b) ans) True
  | .or => outI k (finE (bitV .or k a b) ans) True
  | .xor => outI k (finE (bitV .xor k a b) ans) True
  | .andNot => outI k (finE (bitV .andNot k a b) ans) True
  | .eql => outB (finB (a == b) ans)
  | .neq => outB (finB (a != b) ans)
  | .lss => outB (finB (decide (a < b)) ans)
  | .leq => outB (finB (decide (a ≤ b)) ans)
  | .gtr => outB (finB (decide (a > b)) ans)
  | .geq => outB (finB (decide (a ≥ b)) ans)
  | _ => none

def kEq : IntKind → IntKind → Bool
  | .i8, .i8 => true | .i16, .i16 => true | .i32, .i32 => true | .i64, .i64 => true
  | .u8, .u8 => true | .u16, .u16 => true | .u32, .u32 => true | .u64, .u64 => true
  | _, _ => false
theorem kEq_eq {a b : IntKind} (h : kEq a b = true) : a = b := by cases a <;> cases b <;> simp [kEq] at h <;> rfl

def aBinI (op : BinOp) (k : IntKind) (a : Int) (k' : IntKind) (b : Int) (ans : List Ans) : SO :=
  match op with
  | .shl => outI k (finI k (a * 2 ^ (min b.toNat k.bits)) ans) (0 ≤ b)
  | .shr => outI k (finE (a.fdiv (2 ^ (min b.toNat k.bits))) ans) (0 ≤ b)
  | op => match kEq k k' with | true => binI op k a b ans | false => none

/-- 'binOp' yields a value that fits s, whatever the world -/
def Yld (P : Program) (m : Sem Value) (s : S) : Prop := ∀ (φ : Ph) (w : World), ∃ v, m.run P w = .ok v w ∧ Sr φ s v

theorem binI_ok {P : Program} {op : BinOp} {k : IntKind} {a b : Int} {t : TypeId} {ans : List Ans} {s : S} {as : List Ans} {C : Prop} (h : binI op k a b ans = some (s, as, C)) (hC : C) :
    Yld P (binOp op t (.int k a) (.int k b)) s := by
  intro φ w
  cases op <;> simp only [binI, outI_eq, outB_eq, Option.some.injEq, Prod.mk.injEq, reduceCtorEq] at h
  all_goals obtain ⟨rfl, rfl, rfl⟩ := h
  case add => exact ⟨_, by simp [binOp, Op.intArith, finI_ok hC.2], rfl⟩
  case sub => exact ⟨_, by simp [binOp, Op.intArith, finI_ok hC.2], rfl⟩
  case mul => exact ⟨_, by simp [binOp, Op.intArith, finI_ok hC.2], rfl⟩
  case quo => exact ⟨_, by simp [binOp, Op.intDiv, hC.1, finI_ok hC.2], rfl⟩
  case rem => exact ⟨_, by simp [binOp, Op.intDiv, hC.1, ← finE_ok hC.2], rfl⟩
  case and => exact ⟨_, by rw [← finE_ok hC.2]; simp only [binOp, Op.intBits, bitV, ne_eq, not_true_eq_false, if_false]; rfl, rfl⟩
  case or => exact ⟨_, by rw [← finE_ok hC.2]; simp only [binOp, Op.intBits, bitV, ne_eq, not_true_eq_false, if_false]; rfl, rfl⟩
  case xor => exact ⟨_, by rw [← finE_ok hC.2]; simp only [binOp, Op.intBits, bitV, ne_eq, not_true_eq_false, if_false]; rfl, rfl⟩
  case andNot => exact ⟨_, by rw [← finE_ok hC.2]; simp only [binOp, Op.intBits, bitV, ne_eq, not_true_eq_false, if_false]; rfl, rfl⟩
  all_goals exact ⟨_, by simp [binOp, Op.intCmp, ← finB_ok hC], rfl⟩

theorem aBinI_ok {P : Program} {op : BinOp} {k k' : IntKind} {a b : Int} {t : TypeId} {ans : List Ans} {s : S} {as : List Ans} {C : Prop} (h : aBinI op k a k' b ans = some (s, as, C)) (hC : C) :
    Yld P (binOp op t (.int k a) (.int k' b)) s := by
  unfold aBinI at h
  split at h
  · intro φ w
    simp only [outI_eq, Option.some.injEq, Prod.mk.injEq] at h
    obtain ⟨rfl, rfl, rfl⟩ := h
    obtain ⟨h1, h2⟩ := hC
    have h1' : ¬ b < 0 := by omega
    exact ⟨_, by simp only [binOp, Op.shift, if_neg h1', finI_ok h2, Sem.run_pure], rfl⟩
  · intro φ w
    simp only [outI_eq, Option.some.injEq, Prod.mk.injEq] at h
    obtain ⟨rfl, rfl, rfl⟩ := h
    obtain ⟨h1, h2⟩ := hC
    have h1' : ¬ b < 0 := by omega
    exact ⟨_, by simp only [binOp, Op.shift, if_neg h1', ← finE_ok h2, Sem.run_pure], rfl⟩
  · split at h
    · rename_i hk
      have := kEq_eq hk; subst this
      exact binI_ok h hC
    · cases h

/-! ### strings -/
theorem toList_mk (l : List UInt8) : (⟨l.toArray⟩ : ByteArray).toList = l := by
  rw [ByteArray.toList_eq]
theorem mk_append (l l' : List UInt8) : (⟨l.toArray⟩ : ByteArray) ++ ⟨l'.toArray⟩ = ⟨(l ++ l').toArray⟩ := by
  apply ByteArray.ext; simp

def aBinStr (op : BinOp) (x y : List UInt8) (ans : List Ans) : SO :=
  match op with
  | .add => some (.str (x ++ y), ans, ((x.length + y.length : Nat) : Int) ≤ 9223372036854775807)
  | .eql => outB (finB (decide (x = y)) ans)
  | .neq => outB (finB (!decide (x = y)) ans)
  | .lss => outB (finB (Op.bytesLess x y) ans)
  | .leq => outB (finB (Op.bytesLess x y || decide (x = y)) ans)
  | .gtr => outB (finB (!(Op.bytesLess x y || decide (x = y))) ans)
  | .geq => outB (finB (!Op.bytesLess x y) ans)
  | _ => none

theorem aBinStr_ok {P : Program} {op : BinOp} {x y : List UInt8} {t : TypeId} {ans : List Ans} {s : S} {as : List Ans} {C : Prop} (h : aBinStr op x y ans = some (s, as, C)) (hC : C) :
    Yld P (binOp op t (.string ⟨x.toArray⟩) (.string ⟨y.toArray⟩)) s := by
  intro φ w
  have hb : (x == y) = decide (x = y) := by
    by_cases e : x = y
    · simp [e]
    · simp [e]
  cases op <;> simp only [aBinStr, outB_eq, Option.some.injEq, Prod.mk.injEq, reduceCtorEq] at h
  all_goals obtain ⟨rfl, rfl, rfl⟩ := h
  case add =>
    refine ⟨.string ⟨(x ++ y).toArray⟩, ?_, rfl⟩
    have hs : ¬ (((⟨x.toArray⟩ : ByteArray).size + (⟨y.toArray⟩ : ByteArray).size : Nat) : Int) > IntKind.i64.max := by
      have e1 : (⟨x.toArray⟩ : ByteArray).size = x.length := by simp [ByteArray.size]
      have e2 : (⟨y.toArray⟩ : ByteArray).size = y.length := by simp [ByteArray.size]
      rw [e1, e2]
      have : IntKind.i64.max = 9223372036854775807 := by decide
      omega
    simp only [binOp, Op.stringOp, if_neg hs, Sem.run_pure, mk_append]
  all_goals exact ⟨_, by simp only [binOp, Op.stringOp, toList_mk, hb, ← finB_ok hC, Sem.run_pure], rfl⟩

/-! ### bools, nil pointers and slices -/
def aEqB (op : BinOp) (b : Bool) (ans : List Ans) : SO :=
  match op with
  | .eql => outB (finB b ans)
  | .neq => outB (finB (!b) ans)
  | _ => none

theorem aEqB_ok {P : Program} {op : BinOp} {b : Bool} {t : TypeId} {x y : Value} {ans : List Ans} {s : S} {as : List Ans} {C : Prop} (h : aEqB op b ans = some (s, as, C)) (hC : C)
    (he : ∀ w, (Op.equal t x y).run P w = .ok b w)
    (h1 : ∀ w, (binOp .eql t x y).run P w = (do pure (.bool (← Op.equal t x y)) : Sem Value).run P w) (h2 : ∀ w, (binOp .neq t x y).run P w = (do pure (.bool (!(← Op.equal t x y))) : Sem Value).run P w) :
    Yld P (binOp op t x y) s := by
  intro φ w
  cases op <;> simp only [aEqB, outB_eq, Option.some.injEq, Prod.mk.injEq, reduceCtorEq] at h
  all_goals obtain ⟨rfl, rfl, rfl⟩ := h
  case eql => exact ⟨_, by rw [h1]; simp only [Sem.run_bind, he, Result.andThen_ok, Sem.run_pure, ← finB_ok hC], rfl⟩
  case neq => exact ⟨_, by rw [h2]; simp only [Sem.run_bind, he, Result.andThen_ok, Sem.run_pure, ← finB_ok hC], rfl⟩

def isBoolTy (P : Program) (t : TypeId) : Bool := match P.underlying t with | some .bool => true | _ => false
def isPtrTy (P : Program) (t : TypeId) : Bool := match P.underlying t with | some (.pointer _) => true | _ => false
def isSliceTy (P : Program) (t : TypeId) : Bool := match P.underlying t with | some (.slice _) => true | _ => false

theorem run_underlying {P : Program} {w : World} {t : TypeId} {d : TypeDesc} (h : P.underlying t = some d) : (underlying t).run P w = .ok d w := by
  simp only [underlying, Sem.run_bind, run_program, Result.andThen_ok, h, Sem.run_pure]

def aBin (P : Program) (op : BinOp) (t : TypeId) (x y : V) (ans : List Ans) : SO :=
  match x, y with
  | .s (.int k a), .s (.int k' b) => aBinI op k a k' b ans
  | .s (.str a), .s (.str b) => aBinStr op a b ans
  | .s (.bool a), .s (.bool b) => match isBoolTy P t with | true => aEqB op (a == b) ans | false => none
  | .s (.ptr none), .s (.ptr q) => match isPtrTy P t with | true => aEqB op q.isNone ans | false => none
  | .s (.ptr (some _)), .s (.ptr none) => match isPtrTy P t with | true => aEqB op false ans | false => none
  | .s (.slc none _ _), .s (.slc q _ _) => match isSliceTy P t with | true => aEqB op q.isNone ans | false => none
  | .s (.slc (some _) _ _), .s (.slc none _ _) => match isSliceTy P t with | true => aEqB op false ans | false => none
  | _, _ => none

def YldR (P : Program) (φ : Ph) (m : Sem Value) (s : S) : Prop := ∀ w, ∃ v, m.run P w = .ok v w ∧ Sr φ s v

section
variable {P : Program} {w : World} {t : TypeId} (d : Nat)
theorem eqIn_bool (hty : P.underlying t = some .bool) (a b : Bool) : (Op.equalIn (d + 1) t (.bool a) (.bool b)).run P w = .ok (a == b) w := by
  simp only [Op.equalIn, Sem.run_bind, run_underlying hty, Result.andThen_ok, Sem.run_pure]
theorem eqIn_nilPtr {e : TypeId} (hty : P.underlying t = some (.pointer e)) (b : Option Addr) : (Op.equalIn (d + 1) t (.pointer none) (.pointer b)).run P w = .ok b.isNone w := by
  simp only [Op.equalIn, Sem.run_bind, run_underlying hty, Result.andThen_ok, Sem.run_pure]
theorem eqIn_ptrNil {e : TypeId} (hty : P.underlying t = some (.pointer e)) (a : Addr) : (Op.equalIn (d + 1) t (.pointer (some a)) (.pointer none)).run P w = .ok false w := by
  simp only [Op.equalIn, Sem.run_bind, run_underlying hty, Result.andThen_ok, Sem.run_pure]
theorem eqIn_nilSlice {e : TypeId} (hty : P.underlying t = some (.slice e)) (b : Option Addr) (n m k l : Nat) : (Op.equalIn (d + 1) t (.slice none n m) (.slice b k l)).run P w = .ok b.isNone w := by
  simp only [Op.equalIn, Sem.run_bind, run_underlying hty, Result.andThen_ok, Sem.run_pure]
theorem eqIn_sliceNil {e : TypeId} (hty : P.underlying t = some (.slice e)) (a : Addr) (n m k l : Nat) : (Op.equalIn (d + 1) t (.slice (some a) n m) (.slice none k l)).run P w = .ok false w := by
  simp only [Op.equalIn, Sem.run_bind, run_underlying hty, Result.andThen_ok, Sem.run_pure]
end

theorem equal_of {P : Program} {w : World} {t : TypeId} {x y : Value} {b : Bool} (h : ∀ d, (Op.equalIn (d + 1) t x y).run P w = .ok b w) : (Op.equal t x y).run P w = .ok b w := h 9999

theorem equal_of2 {P : Program} {w : World} {t : TypeId} {x y : Value} {b : Bool} (h : ∀ d, (Op.equalIn (d + 2) t x y).run P w = .ok b w) : (Op.equal t x y).run P w = .ok b w := h 9998

theorem aBin_ok {P : Program} {φ : Ph} {op : BinOp} {t : TypeId} {x y : V} {ans : List Ans} {s : S} {as : List Ans} {C : Prop} (h : aBin P op t x y ans = some (s, as, C)) (hC : C)
    {ox oy : Operand} {u v : Value} (hu : Vr φ x u) (hv : Vr φ y v) : YldR P φ (do eqGuard op t ox oy u v; binOp op t u v) s := by
  have guard : ∀ (m : Sem Value), (∀ w, (eqGuard op t ox oy u v).run P w = .ok () w) → Yld P m s → YldR P φ (do eqGuard op t ox oy u v; m) s := by
    intro m hg hy w
    obtain ⟨r, h1, h2⟩ := hy φ w
    exact ⟨r, by simp only [Sem.run_bind, hg, Result.andThen_ok, h1], h2⟩
  unfold aBin at h
  split at h
  · simp only [Vr, Sr] at hu hv; subst hu; subst hv
    exact guard _ (fun w => by unfold eqGuard; split <;> simp) (aBinI_ok h hC)
  · simp only [Vr, Sr] at hu hv; subst hu; subst hv
    exact guard _ (fun w => by unfold eqGuard; split <;> simp) (aBinStr_ok h hC)
  · simp only [Vr, Sr] at hu hv; subst hu; subst hv
    split at h
    · rename_i hb
      unfold isBoolTy at hb
      split at hb
      · rename_i hty
        exact guard _ (fun w => by unfold eqGuard; split <;> simp) (aEqB_ok h hC (fun w => equal_of fun d => eqIn_bool d hty _ _) (fun w => by simp only [binOp]) (fun w => by simp only [binOp]))
      · cases hb
    · cases h
  · rename_i q
    simp only [Vr, Sr] at hu; subst hu
    have hq : ∃ b, v = .pointer b ∧ b.isNone = q.isNone := by
      rcases q with _ | ⟨i, o⟩
      · exact ⟨none, hv, rfl⟩
      · obtain ⟨b, _, hv⟩ := hv; exact ⟨_, hv, rfl⟩
    obtain ⟨b, rfl, hbq⟩ := hq
    split at h
    · rename_i hb
      unfold isPtrTy at hb
      split at hb
      · rename_i hty
        rw [← hbq] at h
        exact guard _ (fun w => by unfold eqGuard; split <;> simp) (aEqB_ok h hC (fun w => equal_of fun d => eqIn_nilPtr d hty _) (fun w => by cases b <;> simp only [binOp]) (fun w => by cases b <;> simp only [binOp]))
      · cases hb
    · cases h
  · rename_i p
    obtain ⟨i, o⟩ := p
    obtain ⟨b, _, rfl⟩ := hu
    simp only [Vr, Sr] at hv; subst hv
    split at h
    · rename_i hb
      unfold isPtrTy at hb
      split at hb
      · rename_i hty
        exact guard _ (fun w => by unfold eqGuard; split <;> simp) (aEqB_ok h hC (fun w => equal_of fun d => eqIn_ptrNil d hty _) (fun w => by simp only [binOp]) (fun w => by simp only [binOp]))
      · cases hb
    · cases h
  · rename_i n1 c1 q n2 c2
    obtain ⟨_, _, rfl⟩ := hu
    have hq : ∃ b k l, v = .slice b k l ∧ b.isNone = q.isNone := by
      rcases q with _ | ⟨i, o⟩
      · obtain ⟨_, _, hv⟩ := hv; exact ⟨none, _, _, hv, rfl⟩
      · obtain ⟨b, k, _, hv, _⟩ := hv; exact ⟨_, _, _, hv, rfl⟩
    obtain ⟨b, k, l, rfl, hbq⟩ := hq
    split at h
    · rename_i hb
      unfold isSliceTy at hb
      split at hb
      · rename_i hty
        rw [← hbq] at h
        exact guard _ (fun w => by unfold eqGuard; split <;> simp) (aEqB_ok h hC (fun w => equal_of fun d => eqIn_nilSlice d hty _ _ _ _ _) (fun w => by simp only [binOp]) (fun w => by simp only [binOp]))
      · cases hb
    · cases h
  · rename_i p n1 c1 n2 c2
    obtain ⟨i, o⟩ := p
    obtain ⟨b, k, _, rfl, _⟩ := hu
    obtain ⟨_, _, rfl⟩ := hv
    split at h
    · rename_i hb
      unfold isSliceTy at hb
      split at hb
      · rename_i hty
        exact guard _ (fun w => by unfold eqGuard; split <;> simp) (aEqB_ok h hC (fun w => equal_of fun d => eqIn_sliceNil d hty _ _ _ _ _) (fun w => by simp only [binOp]) (fun w => by simp only [binOp]))
      · cases hb
    · cases h
  · cases h

/-! ### unary operations, conversions of integers, tuples, len, min, max -/
def aUn (op : UnOp) (x : V) (ans : List Ans) : SO :=
  match op, x with
  | .not, .s (.bool b) => some (.bool (match b with | true => false | false => true), ans, True)
  | .neg, .s (.int k n) => outI k (finI k (0 - n) ans) True
  | .xor, .s (.int k n) => outI k (finE (bitV .xor k (if k.signed then -1 else k.max) n) ans) True
  | _, _ => none
theorem aUn_ok {P : Program} {φ : Ph} {op : UnOp} {x : V} {ans : List Ans} {s : S} {as : List Ans} {C : Prop} (h : aUn op x ans = some (s, as, C)) (hC : C) {u : Value} (hu : Vr φ x u) : YldR P φ (Op.unary op u) s := by
  intro w
  unfold aUn at h
  split at h
  · simp only [Vr, Sr] at hu; subst hu
    simp only [Option.some.injEq, Prod.mk.injEq] at h
    obtain ⟨rfl, rfl, rfl⟩ := h
    rename_i b
    exact ⟨.bool !b, by simp only [Op.unary, Sem.run_pure], by cases b <;> rfl⟩
  · simp only [Vr, Sr] at hu; subst hu
    simp only [outI_eq, Option.some.injEq, Prod.mk.injEq] at h
    obtain ⟨rfl, rfl, rfl⟩ := h
    exact ⟨_, by simp only [Op.unary, Op.intArith, finI_ok hC.2, Sem.run_pure], rfl⟩
  · simp only [Vr, Sr] at hu; subst hu
    simp only [outI_eq, Option.some.injEq, Prod.mk.injEq] at h
    obtain ⟨rfl, rfl, rfl⟩ := h
    exact ⟨_, by rw [← finE_ok hC.2]; simp only [Op.unary, Op.intBits, bitV]; rfl, rfl⟩
  · cases h

def aConvI (P : Program) (src dst : TypeId) (x : V) (ans : List Ans) : SO :=
  match x with
  | .s (.int _ n) =>
    match P.underlying src, P.underlying dst with
    | some _, some (.int k) => outI k (finI k n ans) True
    | _, _ => none
  | .s (.str l) =>
    match P.underlying src, P.underlying dst with
    | some .string, some .string => some (.str l, ans, True)
    | _, _ => none
  | _ => none
theorem aConvI_ok {P : Program} {φ : Ph} {src dst : TypeId} {x : V} {ans : List Ans} {s : S} {as : List Ans} {C : Prop} (h : aConvI P src dst x ans = some (s, as, C)) (hC : C) {u : Value} (hu : Vr φ x u) : YldR P φ (convert src dst u) s := by
  intro w
  unfold aConvI at h
  split at h
  · simp only [Vr, Sr] at hu; subst hu
    split at h
    · rename_i h1 h2
      simp only [outI_eq, Option.some.injEq, Prod.mk.injEq] at h
      obtain ⟨rfl, rfl, rfl⟩ := h
      exact ⟨_, by simp only [convert, Sem.run_bind, run_underlying h1, run_underlying h2, Result.andThen_ok, Conv.intToInt, Sem.run_pure, finI_ok hC.2], rfl⟩
    · cases h
  · simp only [Vr, Sr] at hu; subst hu
    split at h
    · rename_i h1 h2
      simp only [Option.some.injEq, Prod.mk.injEq] at h
      obtain ⟨rfl, rfl, rfl⟩ := h
      exact ⟨_, by simp only [convert, Sem.run_bind, run_underlying h1, run_underlying h2, Result.andThen_ok, Sem.run_pure], rfl⟩
    · cases h
  · cases h

def aExt (x : V) (i : Nat) : Option V := match x with | .tup l => (match l[i]? with | some u => some (ofU u) | none => none) | _ => none
theorem aExt_ok {P : Program} {φ : Ph} {x v : V} {i : Nat} (h : aExt x i = some v) {u : Value} (hu : Vr φ x u) (w : World) : ∃ y, (Instr.extract u i).run P w = .ok y w ∧ Vr φ v y := by
  unfold aExt at h
  split at h
  · obtain ⟨xs, rfl, hall⟩ := hu
    split at h
    · rename_i q hq
      cases h
      obtain ⟨y, hy, hr⟩ := hall.get hq
      exact ⟨y, by simp [Instr.extract, hy], ofU_r hr⟩
    · cases h
  · cases h

def aLen (P : Program) (t : TypeId) (x : V) : Option S :=
  match P.underlying t, x with
  | some .string, .s (.str l) => some (.int .i64 l.length)
  | some (.slice _), .s (.slc _ n _) => some (.int .i64 n)
  | some (.slice _), .s (.sla _ _ n) => some (.int .i64 n)
  | some (.slice _), .s .emp => some (.int .i64 0)
  | some (.array n _), _ => some (.int .i64 n)
  | _, _ => none
theorem aLen_ok {P : Program} {φ : Ph} {t : TypeId} {x : V} {s : S} (h : aLen P t x = some s) {u : Value} (hu : Vr φ x u) {ts : Array TypeId} {ty : TypeId} (hts : ts[0]? = some t) : YldR P φ (Builtin.len_ ts ty #[u]) s := by
  intro w
  unfold aLen at h
  split at h
  · rename_i hty
    simp only [Vr, Sr] at hu; subst hu
    cases h
    rename_i l
    have e : (⟨l.toArray⟩ : ByteArray).size = l.length := rfl
    exact ⟨.int .i64 l.length, by simp [Builtin.len_, hts, run_underlying hty, goInt, e], rfl⟩
  · rename_i q n c hty
    cases h
    have : ∃ b k, u = .slice b n k := by
      rcases q with _ | ⟨i, o⟩
      · obtain ⟨rfl, _, hv⟩ := hu; exact ⟨_, _, hv⟩
      · obtain ⟨b, k, _, hv, _⟩ := hu; exact ⟨_, _, hv⟩
    obtain ⟨b, k, rfl⟩ := this
    exact ⟨.int .i64 n, by simp [Builtin.len_, hts, run_underlying hty, goInt], rfl⟩
  · rename_i i g n hty
    cases h
    obtain ⟨b, k, _, _, rfl, _⟩ := hu
    exact ⟨.int .i64 n, by simp [Builtin.len_, hts, run_underlying hty, goInt], rfl⟩
  · rename_i hty
    cases h
    obtain ⟨a, rfl⟩ := hu
    exact ⟨.int .i64 0, by simp [Builtin.len_, hts, run_underlying hty, goInt], rfl⟩
  · rename_i n e hty
    cases h
    exact ⟨.int .i64 n, by simp [Builtin.len_, hts, run_underlying hty, goInt], rfl⟩
  · cases h

def aMinMax (mx : Bool) (x y : V) (ans : List Ans) : SO :=
  match x, y with
  | .s (.int k a), .s (.int _ b) => outI k (finE (match mx with | true => if b > a then b else a | false => if b < a then b else a) ans) True
  | _, _ => none

theorem aMin_ok {P : Program} {φ : Ph} {x y : V} {ans : List Ans} {s : S} {as : List Ans} {C : Prop} (h : aMinMax false x y ans = some (s, as, C)) (hC : C) {u v : Value} (hu : Vr φ x u) (hv : Vr φ y v) {ts : Array TypeId} {ty : TypeId} :
    YldR P φ (Builtin.min_ ts ty #[u, v]) s := by
  intro w
  unfold aMinMax at h
  split at h
  · simp only [Vr, Sr] at hu hv; subst hu; subst hv
    simp only [outI_eq, Option.some.injEq, Prod.mk.injEq] at h
    obtain ⟨rfl, rfl, rfl⟩ := h
    exact ⟨_, by rw [← finE_ok hC.2]; simp [Builtin.min_, Builtin.min2], rfl⟩
  · cases h
theorem aMax_ok {P : Program} {φ : Ph} {x y : V} {ans : List Ans} {s : S} {as : List Ans} {C : Prop} (h : aMinMax true x y ans = some (s, as, C)) (hC : C) {u v : Value} (hu : Vr φ x u) (hv : Vr φ y v) {ts : Array TypeId} {ty : TypeId} :
    YldR P φ (Builtin.max_ ts ty #[u, v]) s := by
  intro w
  unfold aMinMax at h
  split at h
  · simp only [Vr, Sr] at hu hv; subst hu; subst hv
    simp only [outI_eq, Option.some.injEq, Prod.mk.injEq] at h
    obtain ⟨rfl, rfl, rfl⟩ := h
    exact ⟨_, by rw [← finE_ok hC.2]; simp [Builtin.max_, Builtin.max2], rfl⟩
  · cases h

end Ab
end Go.Proofs.YtbokilgdefkmiaaGreatDoor
