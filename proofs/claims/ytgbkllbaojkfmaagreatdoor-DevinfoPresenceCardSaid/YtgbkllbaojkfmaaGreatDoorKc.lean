/-
  The quick machine, part 3: the operations of which the frame knows already, decided.
-/
import Derived.Test.YtgbkllbaojkfmaaGreatDoorKa
set_option linter.unusedSimpArgs false
set_option linter.unusedVariables false
namespace Go.Proofs.YtgbkllbaojkfmaaGreatDoor
namespace Ab
open Go

/-- what is to be shown of an operation -/
def OutR (P : Program) (o : Oper) (env : List V) (n : Nat) (L : Hp) (r : R) : Prop :=
  OpL P o env n (res r.foot L) r.v r.n' (puts (res r.foot L) r.wr) ∧ n ≤ r.n'
theorem OutR.of {P : Program} {o : Oper} {env : List V} {n : Nat} {L : Hp} {r : R} {ans as : List Ans} {C : Prop} (h : aop P o env n L ans = some ⟨r, as, C⟩) (hC : C) : OutR P o env n L r := aop_ok h hC

/-! ### numbers -/
def notB (b : Bool) : Bool := match b with | true => false | false => true
theorem notB_eq (b : Bool) : notB b = !b := by cases b <;> rfl
def inR (k : IntKind) (z : Int) : Bool :=
  match k with
  | .i64 => match z with | .ofNat n => Nat.ble n 9223372036854775807 | .negSucc n => Nat.ble n 9223372036854775807
  | .u64 => match z with | .ofNat n => Nat.ble n 18446744073709551615 | .negSucc _ => false
  | .u8 => match z with | .ofNat n => Nat.ble n 255 | .negSucc _ => false
  | .u32 => match z with | .ofNat n => Nat.ble n 4294967295 | .negSucc _ => false
  | .i32 => match z with | .ofNat n => Nat.ble n 2147483647 | .negSucc n => Nat.ble n 2147483647
  | _ => false
def wrapF (k : IntKind) (z : Int) : Int := match inR k z with | true => z | false => k.wrap z
theorem wrapF_eq (k : IntKind) (z : Int) : wrapF k z = k.wrap z := by
  unfold wrapF
  split
  · rename_i h
    symm
    cases k <;> simp only [inR, Bool.false_eq_true] at h
    all_goals
      refine wrap_in ?_ ?_ <;> simp only [IntKind.min, IntKind.max, IntKind.bits, IntKind.signed, Bool.false_eq_true, if_false, if_true] <;> cases z <;> first | (simp only [Bool.false_eq_true] at h; done) | (have := Nat.le_of_ble_eq_true h; simp; try omega)
  · rfl
def ltI (a b : Int) : Bool :=
  match a with
  | .ofNat m => match b with | .ofNat n => Nat.blt m n | .negSucc _ => false
  | .negSucc m => match b with | .ofNat _ => true | .negSucc n => Nat.blt n m
theorem blt_dec (m n : Nat) : Nat.blt m n = decide (m < n) := by
  cases h : Nat.blt m n with
  | true => have := blt_iff.1 h; simp [this]
  | false =>
    have : ¬ m < n := fun e => by rw [blt_iff.2 e] at h; cases h
    simp [this]
theorem ltI_eq (a b : Int) : ltI a b = decide (a < b) := by
  cases a <;> cases b <;> simp only [ltI, blt_dec] <;> first | (congr 1; apply propext; constructor <;> intro h <;> omega) | (symm; simp; done) | (symm; simp; omega)
def eqI (a b : Int) : Bool :=
  match a with
  | .ofNat m => match b with | .ofNat n => Nat.beq m n | .negSucc _ => false
  | .negSucc m => match b with | .ofNat _ => false | .negSucc n => Nat.beq m n
theorem eqI_eq (a b : Int) : eqI a b = (a == b) := by
  have key : ∀ m n : Nat, Nat.beq m n = decide (m = n) := fun m n => by
    by_cases h : m = n
    · subst h; simp
    · simp [h, beq_no h]
  cases a <;> cases b <;> simp only [eqI, key]
  · rename_i m n; by_cases h : m = n
    · subst h; simp
    · have : ¬ ((Int.ofNat m : Int) = Int.ofNat n) := fun e => h (by injection e)
      simp only [h, decide_false]; symm; rw [beq_eq_false_iff_ne]; exact this
  · symm; rw [beq_eq_false_iff_ne]; intro h; cases h
  · symm; rw [beq_eq_false_iff_ne]; intro h; cases h
  · rename_i m n; by_cases h : m = n
    · subst h; simp
    · have : ¬ ((Int.negSucc m : Int) = Int.negSucc n) := fun e => h (by injection e)
      simp only [h, decide_false]; symm; rw [beq_eq_false_iff_ne]; exact this
def natOf (z : Int) : Option Nat := match z with | .ofNat n => some n | .negSucc _ => none
theorem natOf_eq {z : Int} {n : Nat} (h : natOf z = some n) : z = (n : Int) := by cases z <;> simp [natOf] at h; subst h; rfl

def kIntE (op : BinOp) (k : IntKind) (a b : Int) : Option S :=
  match op with
  | .add => some (.int k (wrapF k (a + b)))
  | .sub => some (.int k (wrapF k (a - b)))
  | .mul => some (.int k (wrapF k (a * b)))
  | .quo => match eqI b 0 with | true => none | false => some (.int k (wrapF k (a.tdiv b)))
  | .rem => match eqI b 0 with | true => none | false => some (.int k (a.tmod b))
  | .and => some (.int k (bitV .and k a b))
  | .or => some (.int k (bitV .or k a b))
  | .xor => some (.int k (bitV .xor k a b))
  | .andNot => some (.int k (bitV .andNot k a b))
  | .eql => some (.bool (eqI a b))
  | .neq => some (.bool (notB (eqI a b)))
  | .lss => some (.bool (ltI a b))
  | .leq => some (.bool (notB (ltI b a)))
  | .gtr => some (.bool (ltI b a))
  | .geq => some (.bool (notB (ltI a b)))
  | _ => none
def kInt (op : BinOp) (k : IntKind) (a : Int) (k' : IntKind) (b : Int) : Option S :=
  match op with
  | .shl => match natOf b with | some m => some (.int k (wrapF k (a * 2 ^ (min m k.bits)))) | none => none
  | .shr => match natOf b with | some m => some (.int k (a.fdiv (2 ^ (min m k.bits)))) | none => none
  | op => match kEq k k' with | true => kIntE op k a b | false => none

theorem kIntE_ok {op : BinOp} {k : IntKind} {a b : Int} {s : S} (h : kIntE op k a b = some s) : ∃ ans as C, binI op k a b ans = some (s, as, C) ∧ C := by
  have nz : eqI b 0 = false → b ≠ 0 := fun h => by rw [eqI_eq] at h; simpa using h
  cases op <;> simp only [kIntE, Option.some.injEq, reduceCtorEq] at h
  case add => subst h; exact ⟨[.num (wrapF k (a + b))], [], _, rfl, trivial, (wrapF_eq _ _).symm⟩
  case sub => subst h; exact ⟨[.num (wrapF k (a - b))], [], _, rfl, trivial, (wrapF_eq _ _).symm⟩
  case mul => subst h; exact ⟨[.num (wrapF k (a * b))], [], _, rfl, trivial, (wrapF_eq _ _).symm⟩
  case quo =>
    split at h
    · cases h
    · rename_i hb; cases h; exact ⟨[.num (wrapF k (a.tdiv b))], [], _, rfl, nz hb, (wrapF_eq _ _).symm⟩
  case rem =>
    split at h
    · cases h
    · rename_i hb; cases h; exact ⟨[], [], _, rfl, nz hb, trivial⟩
  case and => subst h; exact ⟨[], [], _, rfl, trivial, trivial⟩
  case or => subst h; exact ⟨[], [], _, rfl, trivial, trivial⟩
  case xor => subst h; exact ⟨[], [], _, rfl, trivial, trivial⟩
  case andNot => subst h; exact ⟨[], [], _, rfl, trivial, trivial⟩
  case eql => subst h; exact ⟨[], [], True, by rw [eqI_eq]; rfl, trivial⟩
  case neq => subst h; exact ⟨[], [], True, by rw [eqI_eq, notB_eq]; rfl, trivial⟩
  case lss => subst h; exact ⟨[], [], True, by rw [ltI_eq]; rfl, trivial⟩
  case leq =>
    subst h; refine ⟨[], [], True, ?_, trivial⟩
    rw [show notB (ltI b a) = decide (a ≤ b) by rw [ltI_eq, notB_eq]; by_cases e : b < a <;> simp [e] <;> omega]; rfl
  case gtr => subst h; exact ⟨[], [], True, by rw [ltI_eq]; rfl, trivial⟩
  case geq =>
    subst h; refine ⟨[], [], True, ?_, trivial⟩
    rw [show notB (ltI a b) = decide (a ≥ b) by rw [ltI_eq, notB_eq]; by_cases e : a < b <;> simp [e] <;> omega]; rfl

theorem kInt_ok {op : BinOp} {k : IntKind} {a : Int} {k' : IntKind} {b : Int} {s : S} (h : kInt op k a k' b = some s) : ∃ ans as C, aBinI op k a k' b ans = some (s, as, C) ∧ C := by
  unfold kInt at h
  split at h
  · split at h
    · rename_i m hm; cases h
      have := natOf_eq hm; subst this
      exact ⟨[.num (wrapF k (a * 2 ^ (min m k.bits)))], [], _, rfl, by simp [wrapF_eq]⟩
    · cases h
  · split at h
    · rename_i m hm; cases h
      have := natOf_eq hm; subst this
      exact ⟨[], [], _, rfl, by simp⟩
    · cases h
  · rename_i h1 h2
    split at h
    · rename_i hk
      obtain ⟨ans, as, C, g1, g2⟩ := kIntE_ok h
      refine ⟨ans, as, C, ?_, g2⟩
      unfold aBinI
      split
      · exact absurd rfl h1
      · exact absurd rfl h2
      · simp only [hk]; exact g1
    · cases h

/-! ### strings -/
def eqB : List UInt8 → List UInt8 → Bool
  | [], [] => true
  | a :: s, b :: t => match Nat.beq a.toNat b.toNat with | true => eqB s t | false => false
  | _, _ => false
theorem eqB_eq : ∀ (s t : List UInt8), eqB s t = decide (s = t)
  | [], [] => rfl
  | [], _ :: _ => by simp [eqB]
  | _ :: _, [] => by simp [eqB]
  | a :: s, b :: t => by
    simp only [eqB]
    by_cases h : a.toNat = b.toNat
    · have hab : a = b := UInt8.toNat_inj.1 h
      subst hab
      simp [eqB_eq s t]
    · rw [beq_no h]
      have hab : ¬ a = b := fun e => h (by rw [e])
      simp [hab]
def kStr (op : BinOp) (x y : List UInt8) : Option S :=
  match op with
  | .add => match Nat.ble (x.length + y.length) 9223372036854775807 with | true => some (.str (x ++ y)) | false => none
  | .eql => some (.bool (eqB x y))
  | .neq => some (.bool (notB (eqB x y)))
  | .lss => some (.bool (Op.bytesLess x y))
  | .leq => some (.bool (Op.bytesLess x y || eqB x y))
  | .gtr => some (.bool (notB (Op.bytesLess x y || eqB x y)))
  | .geq => some (.bool (notB (Op.bytesLess x y)))
  | _ => none
theorem kStr_ok {op : BinOp} {x y : List UInt8} {s : S} (h : kStr op x y = some s) : ∃ ans as C, aBinStr op x y ans = some (s, as, C) ∧ C := by
  cases op <;> simp only [kStr, notB_eq, eqB_eq, Option.some.injEq, reduceCtorEq] at h
  case add =>
    split at h
    · rename_i hb; cases h; exact ⟨[], [], _, rfl, by have := Nat.le_of_ble_eq_true hb; omega⟩
    · cases h
  all_goals subst h; exact ⟨[], [], _, rfl, trivial⟩

def kBin (P : Program) (op : BinOp) (t : TypeId) (x y : V) : Option S :=
  match x, y with
  | .s (.int k a), .s (.int k' b) => kInt op k a k' b
  | .s (.str a), .s (.str b) => kStr op a b
  | .agg l, .agg l' =>
    match P.underlying t with
    | some (.struct fs) =>
      match eqFs P l l' fs.toList with
      | some b =>
        match notB (P.stoodInHeld t) && notB (P.eqGuardType P.depth t) with
        | true => match op with | .eql => some (.bool b) | .neq => some (.bool (notB b)) | _ => none
        | false => none
      | none => none
    | _ => none
  | .s (.bool a), .s (.bool b) =>
    match isBoolTy P t with
    | true => match op with | .eql => some (.bool (a == b)) | .neq => some (.bool (notB (a == b))) | _ => none
    | false => none
  | .s (.ptr none), .s (.ptr q) =>
    match isPtrTy P t with
    | true => match op with | .eql => some (.bool q.isNone) | .neq => some (.bool (notB q.isNone)) | _ => none
    | false => none
  | .s (.ptr (some _)), .s (.ptr none) =>
    match isPtrTy P t with
    | true => match op with | .eql => some (.bool false) | .neq => some (.bool true) | _ => none
    | false => none
  | .s (.slc none _ _), .s (.slc q _ _) =>
    match isSliceTy P t with
    | true => match op with | .eql => some (.bool q.isNone) | .neq => some (.bool (notB q.isNone)) | _ => none
    | false => none
  | .s (.slc (some _) _ _), .s (.slc none _ _) =>
    match isSliceTy P t with
    | true => match op with | .eql => some (.bool false) | .neq => some (.bool true) | _ => none
    | false => none
  | _, _ => none

theorem kBin_ok {P : Program} {op : BinOp} {t : TypeId} {x y : V} {s : S} (h : kBin P op t x y = some s) : ∃ ans as C, aBin2 P op t x y ans = some (s, as, C) ∧ C := by
  unfold kBin at h
  split at h
  · obtain ⟨ans, as, C, h1, h2⟩ := kInt_ok h
    exact ⟨ans, as, C, h1, h2⟩
  · obtain ⟨ans, as, C, h1, h2⟩ := kStr_ok h
    exact ⟨ans, as, C, h1, h2⟩
  · split at h
    · rename_i fs hty
      split at h
      · rename_i b hb
        split at h
        · rename_i hg
          simp only [Bool.and_eq_true, notB_eq, Bool.not_eq_true'] at hg
          split at h
          · cases h; exact ⟨[], [], ((P.stoodInHeld t = false ∧ P.eqGuardType P.depth t = false) ∧ True), by simp only [aBin2, aEqAgg, hty, hb]; rfl, hg, trivial⟩
          · cases h; exact ⟨[], [], ((P.stoodInHeld t = false ∧ P.eqGuardType P.depth t = false) ∧ True), by simp only [aBin2, aEqAgg, hty, hb, notB_eq]; rfl, hg, trivial⟩
          · cases h
        · cases h
      · cases h
    · cases h
  all_goals first | (cases h; done) | skip
  all_goals
    split at h
    case h_2 => cases h
    rename_i hty
    split at h
    · cases h; exact ⟨[], [], True, by simp only [aBin2, aBin, hty]; rfl, trivial⟩
    · cases h; exact ⟨[], [], True, by simp only [aBin2, aBin, hty, notB_eq]; rfl, trivial⟩
    · cases h

def kUn (op : UnOp) (x : V) : Option S :=
  match op, x with
  | .not, .s (.bool b) => some (.bool (notB b))
  | .neg, .s (.int k n) => some (.int k (wrapF k (0 - n)))
  | .xor, .s (.int k n) => some (.int k (bitV .xor k (if k.signed then -1 else k.max) n))
  | _, _ => none
theorem kUn_ok {op : UnOp} {x : V} {s : S} (h : kUn op x = some s) : ∃ ans as C, aUn op x ans = some (s, as, C) ∧ C := by
  unfold kUn at h
  split at h
  · cases h; exact ⟨[], [], True, rfl, trivial⟩
  · rename_i k n; cases h; exact ⟨[.num (wrapF k (0 - n))], [], _, rfl, trivial, (wrapF_eq _ _).symm⟩
  · cases h; exact ⟨[], [], _, rfl, trivial, trivial⟩
  · cases h

def kConv (P : Program) (src dst : TypeId) (x : V) : Option S :=
  match x with
  | .s (.int _ n) =>
    match P.underlying src, P.underlying dst with
    | some _, some (.int k) => some (.int k (wrapF k n))
    | _, _ => none
  | .s (.str l) =>
    match P.underlying src, P.underlying dst with
    | some .string, some .string => some (.str l)
    | _, _ => none
  | _ => none
theorem kConv_ok {P : Program} {src dst : TypeId} {x : V} {s : S} (h : kConv P src dst x = some s) : ∃ ans as C, aConvI P src dst x ans = some (s, as, C) ∧ C := by
  unfold kConv at h
  split at h
  · rename_i kk n
    split at h
    · rename_i d k h1 h2; cases h; exact ⟨[.num (wrapF k n)], [], (True ∧ k.wrap n = wrapF k n), by simp only [aConvI, h1, h2]; rfl, trivial, (wrapF_eq _ _).symm⟩
    · cases h
  · split at h
    · rename_i h1 h2; cases h; exact ⟨[], [], True, by simp only [aConvI, h1, h2], trivial⟩
    · cases h
  · cases h

end Ab
end Go.Proofs.YtgbkllbaojkfmaaGreatDoor
