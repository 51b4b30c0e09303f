/-
  The quick machine, part 1: tries; terms laid out. No program in sight.
-/
import Derived.Test.YtgbkllbaojkfmaaGreatDoorFc
set_option linter.unusedSimpArgs false
set_option linter.unusedVariables false
namespace Go.Proofs.YtgbkllbaojkfmaaGreatDoor
namespace Ab
open Go

/-! ### tries keyed by numbers -/
inductive T (α : Type) where
  | nil
  | node (v : Option α) (a b c d : T α)

def T.get {α : Type} : T α → Nat → Option α
  | .nil, _ => none
  | .node v a b c d, i =>
    match i with
    | 0 => v
    | j + 1 =>
      match Nat.beq (Nat.land j 1) 0 with
      | true => (match Nat.beq (Nat.land j 2) 0 with | true => a.get (Nat.div j 4) | false => c.get (Nat.div j 4))
      | false => (match Nat.beq (Nat.land j 2) 0 with | true => b.get (Nat.div j 4) | false => d.get (Nat.div j 4))

def T.one {α β : Type} (x : Option α) : Nat → Nat → (T α → β) → β
  | 0, _, k => k .nil
  | f + 1, i, k =>
    match i with
    | 0 => k (.node x .nil .nil .nil .nil)
    | j + 1 =>
      match Nat.beq (Nat.land j 1) 0 with
      | true => (match Nat.beq (Nat.land j 2) 0 with | true => T.one x f (Nat.div j 4) fun t => k (.node none t .nil .nil .nil) | false => T.one x f (Nat.div j 4) fun t => k (.node none .nil .nil t .nil))
      | false => (match Nat.beq (Nat.land j 2) 0 with | true => T.one x f (Nat.div j 4) fun t => k (.node none .nil t .nil .nil) | false => T.one x f (Nat.div j 4) fun t => k (.node none .nil .nil .nil t))
def T.putK {α β : Type} (x : Option α) : T α → Nat → (T α → β) → β
  | .nil, i, k => T.one x (Nat.succ i) i k
  | .node v a b c d, i, k =>
    match i with
    | 0 => k (.node x a b c d)
    | j + 1 =>
      match Nat.beq (Nat.land j 1) 0 with
      | true => (match Nat.beq (Nat.land j 2) 0 with | true => T.putK x a (Nat.div j 4) fun t => k (.node v t b c d) | false => T.putK x c (Nat.div j 4) fun t => k (.node v a b t d))
      | false => (match Nat.beq (Nat.land j 2) 0 with | true => T.putK x b (Nat.div j 4) fun t => k (.node v a t c d) | false => T.putK x d (Nat.div j 4) fun t => k (.node v a b c t))
def T.put {α : Type} (t : T α) (i : Nat) (x : Option α) : T α := T.putK x t i id

theorem land_one (i : Nat) : Nat.beq (Nat.land i 1) 0 = decide (i % 2 = 0) := by
  have : Nat.land i 1 = i % 2 := Nat.and_one_is_mod i
  rw [this]
  rcases Nat.mod_two_eq_zero_or_one i with h | h <;> rw [h] <;> rfl
theorem beq_dec (i j : Nat) : Nat.beq i j = decide (i = j) := by
  by_cases h : i = j
  · subst h; simp
  · simp [h, beq_no h]
theorem land_two (i : Nat) : Nat.beq (Nat.land i 2) 0 = decide (i / 2 % 2 = 0) := by
  have h : Nat.land i 2 = 2 * (i / 2 % 2) := by
    show i &&& 2 = _
    have e : i &&& 2 = 2 * ((i / 2) &&& 1) := by
      apply Nat.eq_of_testBit_eq
      intro k
      rw [Nat.testBit_and]
      cases k with
      | zero => simp
      | succ k =>
        rw [show (2 : Nat) * ((i / 2) &&& 1) = 2 ^ 1 * ((i / 2) &&& 1) by simp, Nat.testBit_two_pow_mul]
        simp only [Nat.testBit_and, Nat.testBit_div_two, ge_iff_le, Nat.le_add_left, decide_true, Bool.true_and, Nat.add_sub_cancel]
        congr 1
        rw [show (2 : Nat) = 2 ^ 1 by rfl, Nat.testBit_two_pow]
        cases k with
        | zero => simp
        | succ k => simp [Nat.testBit_succ]
    rw [e, Nat.and_one_is_mod]
  rw [h, beq_dec]
  congr 1
  apply propext
  omega
theorem T.get_nil {α : Type} (j : Nat) : (T.nil : T α).get j = none := by cases j <;> rfl
def T.sel {α : Type} (j : Nat) (a b c d : α) : α := if j % 2 = 0 then (if j / 2 % 2 = 0 then a else c) else (if j / 2 % 2 = 0 then b else d)
theorem T.get_node {α : Type} (v : Option α) (a b c d : T α) (j : Nat) : (T.node v a b c d).get j = if j = 0 then v else (T.sel (j - 1) a b c d).get ((j - 1) / 4) := by
  cases j with
  | zero => rfl
  | succ j =>
    show (match Nat.beq (Nat.land j 1) 0 with
      | true => (match Nat.beq (Nat.land j 2) 0 with | true => a.get (Nat.div j 4) | false => c.get (Nat.div j 4))
      | false => (match Nat.beq (Nat.land j 2) 0 with | true => b.get (Nat.div j 4) | false => d.get (Nat.div j 4))) = _
    rw [land_one, land_two]
    have e : Nat.div j 4 = j / 4 := rfl
    rw [e]
    simp only [Nat.add_one_ne_zero, if_false, Nat.add_sub_cancel, T.sel]
    by_cases h1 : j % 2 = 0 <;> by_cases h2 : j / 2 % 2 = 0 <;> simp [h1, h2]

theorem T.one_eq {α β : Type} (x : Option α) : ∀ (f i : Nat) (k : T α → β), T.one x f i k = k (T.one x f i id)
  | 0, _, k => rfl
  | f + 1, 0, k => rfl
  | f + 1, j + 1, k => by
    simp only [T.one]
    split <;> split
    · exact (T.one_eq x f _ (fun t => k (T.node none t .nil .nil .nil))).trans (congrArg k (T.one_eq x f _ (fun t => id (T.node none t .nil .nil .nil))).symm)
    · exact (T.one_eq x f _ (fun t => k (T.node none .nil .nil t .nil))).trans (congrArg k (T.one_eq x f _ (fun t => id (T.node none .nil .nil t .nil))).symm)
    · exact (T.one_eq x f _ (fun t => k (T.node none .nil t .nil .nil))).trans (congrArg k (T.one_eq x f _ (fun t => id (T.node none .nil t .nil .nil))).symm)
    · exact (T.one_eq x f _ (fun t => k (T.node none .nil .nil .nil t))).trans (congrArg k (T.one_eq x f _ (fun t => id (T.node none .nil .nil .nil t))).symm)
theorem T.putK_eq {α β : Type} (x : Option α) : ∀ (t : T α) (i : Nat) (k : T α → β), T.putK x t i k = k (t.put i x)
  | .nil, i, k => T.one_eq x _ i k
  | .node v a b c d, 0, k => rfl
  | .node v a b c d, j + 1, k => by
    simp only [T.put, T.putK]
    split <;> split
    · exact (T.putK_eq x a _ (fun t => k (T.node v t b c d))).trans (congrArg k (T.putK_eq x a _ (fun t => id (T.node v t b c d))).symm)
    · exact (T.putK_eq x c _ (fun t => k (T.node v a b t d))).trans (congrArg k (T.putK_eq x c _ (fun t => id (T.node v a b t d))).symm)
    · exact (T.putK_eq x b _ (fun t => k (T.node v a t c d))).trans (congrArg k (T.putK_eq x b _ (fun t => id (T.node v a t c d))).symm)
    · exact (T.putK_eq x d _ (fun t => k (T.node v a b c t))).trans (congrArg k (T.putK_eq x d _ (fun t => id (T.node v a b c t))).symm)

theorem T.get_one {α : Type} (x : Option α) : ∀ (f i j : Nat), i < f → (T.one x f i id).get j = if i = j then x else none
  | 0, i, _, h => by omega
  | f + 1, 0, j, h => by
    show (T.node x .nil .nil .nil .nil).get j = _
    rw [T.get_node]
    cases j with
    | zero => rfl
    | succ j => simp only [Nat.add_one_ne_zero, if_false, T.sel]; (repeat' split) <;> simp_all [T.get_nil]
  | f + 1, i + 1, j, h => by
    simp only [T.one]
    rw [land_one, land_two]
    have e : Nat.div i 4 = i / 4 := rfl
    rw [e]
    have ih := T.get_one x f (i / 4) ((j - 1) / 4) (by omega)
    by_cases h1 : i % 2 = 0 <;> by_cases h2 : i / 2 % 2 = 0 <;> simp only [h1, h2, decide_true, decide_false] <;> rw [T.one_eq] <;> simp only [id, T.get_node] <;> cases j with
    | zero => simp
    | succ j =>
      simp only [Nat.add_one_ne_zero, if_false, Nat.add_sub_cancel, T.sel] at ih ⊢
      by_cases g1 : j % 2 = 0 <;> by_cases g2 : j / 2 % 2 = 0 <;> simp only [g1, g2, if_true, if_false, T.get_nil] <;> first
        | (rw [if_neg (by omega)]; done)
        | (rw [show (T.one x f (i / 4) fun a => a) = T.one x f (i / 4) id from rfl, ih]
           have : i / 4 = j / 4 ↔ i + 1 = j + 1 := by omega
           simp only [this])
        | (rw [ih]
           have : i / 4 = j / 4 ↔ i + 1 = j + 1 := by omega
           simp only [this])

theorem T.get_put {α : Type} : ∀ (t : T α) (i : Nat) (x : Option α) (j : Nat), (t.put i x).get j = if i = j then x else t.get j
  | .nil, i, x, j => by
    show (T.one x (Nat.succ i) i id).get j = _
    rw [T.get_one x _ _ _ (Nat.lt_succ_self _), T.get_nil]
  | .node v a b c d, 0, x, j => by
    show (T.node x a b c d).get j = _
    rw [T.get_node, T.get_node]
    cases j with
    | zero => rfl
    | succ j => simp
  | .node v a b c d, i + 1, x, j => by
    simp only [T.put, T.putK]
    rw [land_one, land_two]
    have e : Nat.div i 4 = i / 4 := rfl
    rw [e]
    have iha := T.get_put a (i / 4) x ((j - 1) / 4)
    have ihb := T.get_put b (i / 4) x ((j - 1) / 4)
    have ihc := T.get_put c (i / 4) x ((j - 1) / 4)
    have ihd := T.get_put d (i / 4) x ((j - 1) / 4)
    by_cases h1 : i % 2 = 0 <;> by_cases h2 : i / 2 % 2 = 0 <;> simp only [h1, h2, decide_true, decide_false] <;> rw [T.putK_eq] <;> simp only [id, T.get_node] <;> cases j with
    | zero => simp
    | succ j =>
      simp only [Nat.add_one_ne_zero, if_false, Nat.add_sub_cancel, T.sel] at iha ihb ihc ihd ⊢
      by_cases g1 : j % 2 = 0 <;> by_cases g2 : j / 2 % 2 = 0 <;> simp only [g1, g2, if_true, if_false] <;> first
        | (rw [if_neg (by omega)]; done)
        | (first | rw [iha] | rw [ihb] | rw [ihc] | rw [ihd]
           have : i / 4 = j / 4 ↔ i + 1 = j + 1 := by omega
           simp only [this])

def T.puts {α : Type} : T α → List (Nat × Option α) → T α
  | t, [] => t
  | t, (i, x) :: r => T.puts (t.put i x) r

/-! ### terms laid out -/
def frcN {β : Type} (n : Nat) (k : Nat → β) : β := match n with | 0 => k 0 | m + 1 => k (Nat.succ m)
theorem frcN_eq {β : Type} (n : Nat) (k : Nat → β) : frcN n k = k n := by cases n <;> rfl
def frcI {β : Type} (z : Int) (k : Int → β) : β := match z with | .ofNat n => frcN n fun n => k (.ofNat n) | .negSucc n => frcN n fun n => k (.negSucc n)
theorem frcI_eq {β : Type} (z : Int) (k : Int → β) : frcI z k = k z := by cases z <;> simp only [frcI, frcN_eq]
def frcA {β : Type} (a : Option (Nat × Nat)) (k : Option (Nat × Nat) → β) : β := match a with | none => k none | some (i, o) => frcN i fun i => frcN o fun o => k (some (i, o))
theorem frcA_eq {β : Type} (a : Option (Nat × Nat)) (k : Option (Nat × Nat) → β) : frcA a k = k a := by rcases a with _ | ⟨i, o⟩ <;> simp only [frcA, frcN_eq]
def frcC {β : Type} (a : Option Nat) (k : Option Nat → β) : β := match a with | none => k none | some i => frcN i fun i => k (some i)
theorem frcC_eq {β : Type} (a : Option Nat) (k : Option Nat → β) : frcC a k = k a := by cases a <;> simp only [frcC, frcN_eq]
def frcTm {β : Type} (t : Tm) (k : Tm → β) : β :=
  match t with
  | .v i => frcN i fun i => k (.v i)
  | .c z => frcN z fun z => k (.c z)
  | .bin o kd a b => frcTm a fun a => frcTm b fun b => match o with | .add => k (.bin .add kd a b) | o => k (.bin o kd a b)
theorem frcTm_eq {β : Type} : ∀ (t : Tm) (k : Tm → β), frcTm t k = k t
  | .v i, k => by simp only [frcTm, frcN_eq]
  | .c z, k => by simp only [frcTm, frcN_eq]
  | .bin o kd a b, k => by
    simp only [frcTm, frcTm_eq a, frcTm_eq b]
    cases o <;> rfl
def frcKn {β : Type} (K : Kn) (k : Kn → β) : β := match K with | ⟨lo, hi, m⟩ => frcN lo fun lo => frcN hi fun hi => k ⟨lo, hi, m⟩
theorem frcKn_eq {β : Type} (K : Kn) (k : Kn → β) : frcKn K k = k K := by cases K; simp only [frcKn, frcN_eq]
def frcS {β : Type} (x : S) (k : S → β) : β :=
  match x with
  | .int kd z => frcI z fun z => k (.int kd z)
  | .bool b => match b with | true => k (.bool true) | false => k (.bool false)
  | .str l => frc l [] fun l => k (.str l)
  | .ptr a => frcA a fun a => k (.ptr a)
  | .slc a n c => frcA a fun a => frcN n fun n => frcC c fun c => k (.slc a n c)
  | .sla i g n => frcN i fun i => frcN g fun g => frcN n fun n => k (.sla i g n)
  | .itr i m => frcN i fun i => frcN m fun m => k (.itr i m)
  | .clo f ps => frc ps [] fun ps => k (.clo f ps)
  | .opq kd t K => frcTm t fun t => frcKn K fun K => k (.opq kd t K)
  | x => k x
theorem frcS_eq {β : Type} (x : S) (k : S → β) : frcS x k = k x := by
  cases x <;> simp only [frcS, frcI_eq, frc_eq, frcA_eq, frcN_eq, frcC_eq, frcTm_eq, frcKn_eq]
  split <;> rfl
def frcW {β : Type} (v : V) (k : V → β) : β :=
  match v with
  | .s x => frcS x fun x => k (.s x)
  | .agg l => frc l [] fun l => k (.agg l)
  | .tup l => frc l [] fun l => k (.tup l)
  | v => k v
theorem frcW_eq {β : Type} (v : V) (k : V → β) : frcW v k = k v := by cases v <;> simp only [frcW, frcS_eq, frc_eq]

/-! ### slots -/
def evT (env : T V) : Operand → V
  | .tmp t => match env.get t with | some v => v | none => .undef
  | .const v => ofConst v
  | .func f => .s (.fn f)
  | .global g => .s (.gp g 0)

end Ab
end Go.Proofs.YtgbkllbaojkfmaaGreatDoor
