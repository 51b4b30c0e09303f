/-
  The quick machine, part 1: tries; terms laid out. No program in sight.
-/
import Derived.Test.YtbokilgdefkmiaaGreatDoorAb15
set_option linter.unusedSimpArgs false
set_option linter.unusedVariables false
namespace Go.Proofs.YtbokilgdefkmiaaGreatDoor
namespace Ab
open Go

/-! ### tries keyed by numbers -/
inductive T (α : Type) where
  | nil
  | node (v : Option α) (l r : T α)

def T.get {α : Type} : T α → Nat → Option α
  | .nil, _ => none
  | .node v l r, i =>
    match i with
    | 0 => v
    | j + 1 => match Nat.beq (Nat.land j 1) 0 with | true => l.get (Nat.div j 2) | false => r.get (Nat.div j 2)

def T.one {α β : Type} (x : Option α) : Nat → Nat → (T α → β) → β
  | 0, _, k => k .nil
  | f + 1, i, k =>
    match i with
    | 0 => k (.node x .nil .nil)
    | j + 1 => match Nat.beq (Nat.land j 1) 0 with | true => T.one x f (Nat.div j 2) fun t => k (.node none t .nil) | false => T.one x f (Nat.div j 2) fun t => k (.node none .nil t)
def T.putK {α β : Type} (x : Option α) : T α → Nat → (T α → β) → β
  | .nil, i, k => T.one x (Nat.succ i) i k
  | .node v l r, i, k =>
    match i with
    | 0 => k (.node x l r)
    | j + 1 => match Nat.beq (Nat.land j 1) 0 with | true => T.putK x l (Nat.div j 2) fun t => k (.node v t r) | false => T.putK x r (Nat.div j 2) fun t => k (.node v l t)
def T.put {α : Type} (t : T α) (i : Nat) (x : Option α) : T α := T.putK x t i id

theorem land_one (i : Nat) : Nat.beq (Nat.land i 1) 0 = decide (i % 2 = 0) := by
  have : Nat.land i 1 = i % 2 := Nat.and_one_is_mod i
  rw [this]
  rcases Nat.mod_two_eq_zero_or_one i with h | h <;> rw [h] <;> rfl
theorem beq_dec (i j : Nat) : Nat.beq i j = decide (i = j) := by
  by_cases h : i = j
  · subst h; simp
  · simp [h, beq_no h]
theorem T.get_nil {α : Type} (j : Nat) : (T.nil : T α).get j = none := by cases j <;> rfl
theorem T.get_node {α : Type} (v : Option α) (l r : T α) (j : Nat) : (T.node v l r).get j = if j = 0 then v else if (j - 1) % 2 = 0 then l.get ((j - 1) / 2) else r.get ((j - 1) / 2) := by
  cases j with
  | zero => rfl
  | succ j =>
    show (match Nat.beq (Nat.land j 1) 0 with | true => l.get (Nat.div j 2) | false => r.get (Nat.div j 2)) = _
    rw [land_one]
    have e : Nat.div j 2 = j / 2 := rfl
    rw [e]
    simp only [Nat.add_one_ne_zero, if_false, Nat.add_sub_cancel]
    by_cases h2 : j % 2 = 0 <;> simp [h2]

theorem T.one_eq {α β : Type} (x : Option α) : ∀ (f i : Nat) (k : T α → β), T.one x f i k = k (T.one x f i id)
  | 0, _, k => rfl
  | f + 1, 0, k => rfl
  | f + 1, j + 1, k => by
    simp only [T.one]
    split
    · exact (T.one_eq x f _ (fun t => k (T.node none t T.nil))).trans (congrArg k (T.one_eq x f _ (fun t => id (T.node none t T.nil))).symm)
    · exact (T.one_eq x f _ (fun t => k (T.node none T.nil t))).trans (congrArg k (T.one_eq x f _ (fun t => id (T.node none T.nil t))).symm)
theorem T.putK_eq {α β : Type} (x : Option α) : ∀ (t : T α) (i : Nat) (k : T α → β), T.putK x t i k = k (t.put i x)
  | .nil, i, k => T.one_eq x _ i k
  | .node v l r, 0, k => rfl
  | .node v l r, j + 1, k => by
    simp only [T.put, T.putK]
    split
    · exact (T.putK_eq x l _ (fun t => k (T.node v t r))).trans (congrArg k (T.putK_eq x l _ (fun t => id (T.node v t r))).symm)
    · exact (T.putK_eq x r _ (fun t => k (T.node v l t))).trans (congrArg k (T.putK_eq x r _ (fun t => id (T.node v l t))).symm)

theorem T.get_one {α : Type} (x : Option α) : ∀ (f i j : Nat), i < f → (T.one x f i id).get j = if i = j then x else none
  | 0, i, _, h => by omega
  | f + 1, 0, j, h => by
    show (T.node x .nil .nil).get j = _
    rw [T.get_node]
    cases j with
    | zero => rfl
    | succ j => simp [T.get_nil]
  | f + 1, i + 1, j, h => by
    simp only [T.one]
    rw [land_one]
    have e : Nat.div i 2 = i / 2 := rfl
    rw [e]
    by_cases h2 : i % 2 = 0
    · simp only [h2, decide_true]
      rw [T.one_eq]
      simp only [id, T.get_node, T.get_nil]
      cases j with
      | zero => simp
      | succ j =>
        simp only [Nat.add_one_ne_zero, if_false, Nat.add_sub_cancel]
        split
        · rw [T.get_one x f _ _ (by omega)]
          have : i / 2 = j / 2 ↔ i + 1 = j + 1 := by omega
          simp only [this]
        · rw [if_neg (by omega)]
    · simp only [h2, decide_false]
      rw [T.one_eq]
      simp only [id, T.get_node, T.get_nil]
      cases j with
      | zero => simp
      | succ j =>
        simp only [Nat.add_one_ne_zero, if_false, Nat.add_sub_cancel]
        split
        · rw [if_neg (by omega)]
        · rw [T.get_one x f _ _ (by omega)]
          have : i / 2 = j / 2 ↔ i + 1 = j + 1 := by omega
          simp only [this]

theorem T.get_put {α : Type} : ∀ (t : T α) (i : Nat) (x : Option α) (j : Nat), (t.put i x).get j = if i = j then x else t.get j
  | .nil, i, x, j => by
    show (T.one x (Nat.succ i) i id).get j = _
    rw [T.get_one x _ _ _ (Nat.lt_succ_self _), T.get_nil]
  | .node v l r, 0, x, j => by
    show (T.node x l r).get j = _
    rw [T.get_node, T.get_node]
    cases j with
    | zero => rfl
    | succ j => simp
  | .node v l r, i + 1, x, j => by
    simp only [T.put, T.putK]
    rw [land_one]
    have e : Nat.div i 2 = i / 2 := rfl
    rw [e]
    by_cases h2 : i % 2 = 0
    · simp only [h2, decide_true]
      rw [T.putK_eq]
      simp only [id, T.get_node]
      cases j with
      | zero => simp
      | succ j =>
        simp only [Nat.add_one_ne_zero, if_false, Nat.add_sub_cancel]
        split
        · rw [T.get_put l]
          have : i / 2 = j / 2 ↔ i + 1 = j + 1 := by omega
          simp only [this]
        · rw [if_neg (by omega)]
    · simp only [h2, decide_false]
      rw [T.putK_eq]
      simp only [id, T.get_node]
      cases j with
      | zero => simp
      | succ j =>
        simp only [Nat.add_one_ne_zero, if_false, Nat.add_sub_cancel]
        split
        · rw [if_neg (by omega)]
        · rw [T.get_put r]
          have : i / 2 = j / 2 ↔ i + 1 = j + 1 := by omega
          simp only [this]

def T.puts {α : Type} : T α → List (Nat × Option α) → T α
  | t, [] => t
  | t, (i, x) :: r => T.puts (t.put i x) r

/-! ### terms laid out -/
def frcN {β : Type} (n : Nat) (k : Nat → β) : β := match n with | 0 => k 0 | m + 1 => k (Nat.succ m)
theorem frcN_eq {β : Type} (n : Nat) (k : Nat → β) : frcN n k = k n := by cases n <;> rfl
def frcI {β : Type} (z : Int) (k : Int → β) : β := match z with | .ofNat n => frcN n fun n => k (.ofNat n) | .negSucc n => frcN n fun n => k (.negSucc n)
theorem frcI_eq {β : Type} (z : Int) (k : Int → β) : frcI z k = k z := by cases z <;> simp only [frcI, frcN_eq]
def frcA {β : Type} (a : Option (Nat × Nat)) (k : Option (Nat × Nat) → β) : β := match a with | none => k none | some (i, o) => frcN i fun i => frcN o fun o => k (some (i, o))
theorem frcA_eq {β : Type} (a : Option (Nat × Nat)) (k : Option (Nat × Nat) → β) : frcA a k = k a := by rcases a with _ | ⟨i, o⟩ <;> simp only [frcA, frcN_eq]
def frcC {β : Type} (a : Option Nat) (k : Option Nat → β) : β := match a with | none => k none | some i => frcN i fun i => k (some i)
theorem frcC_eq {β : Type} (a : Option Nat) (k : Option Nat → β) : frcC a k = k a := by cases a <;> simp only [frcC, frcN_eq]
def frcS {β : Type} (x : S) (k : S → β) : β :=
  match x with
  | .int kd z => frcI z fun z => k (.int kd z)
  | .bool b => match b with | true => k (.bool true) | false => k (.bool false)
  | .str l => frc l [] fun l => k (.str l)
  | .ptr a => frcA a fun a => k (.ptr a)
  | .slc a n c => frcA a fun a => frcN n fun n => frcC c fun c => k (.slc a n c)
  | .sla i g n => frcN i fun i => frcN g fun g => frcN n fun n => k (.sla i g n)
  | x => k x
theorem frcS_eq {β : Type} (x : S) (k : S → β) : frcS x k = k x := by
  cases x <;> simp only [frcS, frcI_eq, frc_eq, frcA_eq, frcN_eq, frcC_eq]
  split <;> rfl
def frcW {β : Type} (v : V) (k : V → β) : β :=
  match v with
  | .s x => frcS x fun x => k (.s x)
  | .agg l => frc l [] fun l => k (.agg l)
  | .tup l => frc l [] fun l => k (.tup l)
  | v => k v
theorem frcW_eq {β : Type} (v : V) (k : V → β) : frcW v k = k v := by cases v <;> simp only [frcW, frcS_eq, frc_eq]

/-! ### slots -/
def evT (env : T V) : Operand → V
  | .tmp t => match env.get t with | some v => v | none => .undef
  | .const v => ofConst v
  | .func f => .s (.fn f)
  | .global g => .s (.gp g 0)

end Ab
end Go.Proofs.YtbokilgdefkmiaaGreatDoor
