/-
  The frame, part 2: one operation, a region in whatever order its edges allow, code, calls.
-/
import Derived.Test.YtbokilgdefkmiaaGreatDoorAb1
set_option linter.unusedSimpArgs false
set_option linter.unusedVariables false
namespace Go.Proofs.YtbokilgdefkmiaaGreatDoor
namespace Ab
open Go

/-! ### slots -/
def ofConst : Value → V
  | .bool b => .s (.bool b)
  | .int k n => .s (.int k n)
  | .string s => .s (.str s.data.toList)
  | .pointer none => .s (.ptr none)
  | .slice none 0 0 => .s (.slc none 0 (some 0))
  | _ => .any

theorem ofConst_r (φ : Ph) (v : Value) : Vr φ (ofConst v) v := by
  unfold ofConst
  split <;> simp [Vr, Sr]

def ev (env : List V) : Operand → V
  | .tmp t => env.getD t .undef
  | .const v => ofConst v
  | .func f => .s (.fn f)
  | .global g => .s (.gp g 0)

def EnvR (φ : Ph) (env : List V) (a : Act) : Prop := a.defers = [] ∧ All2 (Vr φ) env a.tmps.toList

theorem EnvR.mono {φ φ' : Ph} (hl : φ.le φ') {env : List V} {a : Act} (h : EnvR φ env a) : EnvR φ' env a := ⟨h.1, h.2.mono fun _ _ => Vr.mono hl⟩

theorem EnvR.slot {φ : Ph} {env : List V} {a : Act} (h : EnvR φ env a) (t : Nat) : Vr φ (env.getD t .undef) (a.tmps.getD t Go.undef) := by
  have hl := h.2.len
  rcases Nat.lt_or_ge t env.length with hi | hi
  · obtain ⟨b, hb, hr⟩ := h.2.get (i := t) (a := env[t]) (by simp [hi])
    have e1 : env.getD t .undef = env[t] := by simp [List.getD, hi]
    have e2 : a.tmps.getD t Go.undef = b := by simp [Array.getD_eq_getD_getElem?, ← Array.getElem?_toList, hb]
    rw [e1, e2]; exact hr
  · have e1 : env.getD t .undef = .undef := by simp [List.getD, hi]
    have e2 : a.tmps.getD t Go.undef = Go.undef := by
      have : a.tmps.size ≤ t := by rw [← Array.length_toList]; omega
      simp [Array.getD_eq_getD_getElem?, this]
    rw [e1, e2]; rfl

theorem EnvR.ev {φ : Ph} {env : List V} {a : Act} (h : EnvR φ env a) (x : Operand) : Vr φ (ev env x) (a.eval x) := by
  cases x with
  | tmp t => exact h.slot t
  | const v => exact ofConst_r φ v
  | global g => rfl
  | func f => rfl

def setD (env : List V) : Option Tmp → V → List V
  | none, _ => env
  | some d, v => env.set d v

theorem setD_length (env : List V) (d : Option Tmp) (v : V) : (setD env d v).length = env.length := by cases d <;> simp [setD]
theorem setD_get (env : List V) (d : Option Tmp) (v : V) (t : Nat) : (setD env d v)[t]? = if d = some t then (if t < env.length then some v else none) else env[t]? := by
  cases d with
  | none => simp [setD]
  | some d =>
    simp only [setD, Option.some.injEq]
    by_cases h : d = t
    · subst h; simp [List.getElem?_set]
    · simp [h, List.getElem?_set_ne h]

theorem EnvR.put {φ : Ph} {env : List V} {a : Act} (h : EnvR φ env a) (d : Option Tmp) {v : V} {x : Value} (hv : Vr φ v x) : EnvR φ (setD env d v) (a.put d x) := by
  cases d with
  | none => exact h
  | some d => exact ⟨h.1, by simpa [setD, Act.put] using h.2.set hv⟩

/-! ### one operation -/
def OpL (P : Program) (o : Oper) (env : List V) (n : Nat) (L : Hp) (v : V) (n' : Nat) (L' : Hp) : Prop :=
  ∀ (φ : Ph) (a : Act) (w : World) (Q : Exit → Act → World → Prop),
    (∀ x ∈ o.op.operands, Vr φ (ev env x) (a.eval x)) → Good φ L w → (∀ i, n ≤ i → i < n' → φ i = none) →
    o.wp P a w (fun a' w' => ∃ φ' x, a' = a.put o.dst x ∧ Vr φ' v x ∧ Good φ' L' w' ∧ Stp φ L w φ' L' w' ∧ (∀ i, ¬ (n ≤ i ∧ i < n') → φ' i = φ i)) Q

theorem le_of_agree {φ φ' : Ph} {n n' : Nat} (h0 : ∀ i, n ≤ i → i < n' → φ i = none) (h : ∀ i, ¬ (n ≤ i ∧ i < n') → φ' i = φ i) : φ.le φ' := by
  intro i b hb
  by_cases hi : n ≤ i ∧ i < n'
  · rw [h0 i hi.1 hi.2] at hb; cases hb
  · rw [h i hi]; exact hb

/-- what the text-order run says of one operation: which blocks it touches, its value, what it writes, the next free number -/
structure R where
  foot : List Nat
  v : V
  wr : Hp
  n' : Nat

def res (foot : List Nat) (L : Hp) : Hp := foot.map fun i => (i, lk L i)
theorem lk_res (foot : List Nat) (L : Hp) (i : Nat) : lk (res foot L) i = if i ∈ foot then lk L i else none := by
  induction foot with
  | nil => simp [res, lk]
  | cons j t ih =>
    have : res (j :: t) L = (j, lk L j) :: res t L := rfl
    rw [this, lk_cons, ih]
    by_cases h : j = i
    · subst h; simp
    · simp [h, Ne.symm h]

def keys (W : Hp) : List Nat := W.map (·.1)
theorem lk_puts_out (W : Hp) : ∀ (L : Hp) (i : Nat), i ∉ keys W → lk (puts L W) i = lk L i := by
  induction W with
  | nil => intro L i _; rfl
  | cons x t ih =>
    intro L i h
    obtain ⟨j, b⟩ := x
    simp only [keys, List.map_cons, List.mem_cons, not_or] at h
    simp only [puts]
    rw [ih _ _ h.2, lk_put, if_neg (fun e => h.1 e.symm)]
theorem lk_puts_in (W : Hp) : ∀ (L M : Hp) (i : Nat), i ∈ keys W → lk (puts L W) i = lk (puts M W) i := by
  induction W with
  | nil => intro L M i h; simp [keys] at h
  | cons x t ih =>
    intro L M i h
    obtain ⟨j, b⟩ := x
    simp only [puts]
    by_cases ht : i ∈ keys t
    · exact ih _ _ _ ht
    · simp only [keys, List.map_cons, List.mem_cons] at h
      have hj : i = j := h.resolve_right ht
      rw [lk_puts_out _ _ _ ht, lk_puts_out _ _ _ ht, lk_put, lk_put, if_pos hj.symm, if_pos hj.symm]
theorem lk_puts_congr (W : Hp) (L M : Hp) (i : Nat) (h : lk L i = lk M i) : lk (puts L W) i = lk (puts M W) i := by
  by_cases hi : i ∈ keys W
  · exact lk_puts_in W L M i hi
  · rw [lk_puts_out _ _ _ hi, lk_puts_out _ _ _ hi, h]

/-- An operation that is known over the blocks that it touches, done in a state that agrees there. -/
theorem OpL.step {P : Program} {o : Oper} {env envD : List V} {n : Nat} {L LD : Hp} {r : R} (h : OpL P o env n (res r.foot L) r.v r.n' (puts (res r.foot L) r.wr))
    (he : ∀ x ∈ o.op.operands, ev envD x = ev env x) (hL : ∀ i ∈ r.foot, lk LD i = lk L i)
    {φ : Ph} {a : Act} {w : World} (Q : Exit → Act → World → Prop) (ha : EnvR φ envD a) (hg : Good φ LD w) (hf : ∀ i, n ≤ i → i < r.n' → φ i = none) :
    o.wp P a w (fun a' w' => ∃ φ', EnvR φ' (setD envD o.dst r.v) a' ∧ Good φ' (puts LD r.wr) w' ∧ Stp φ LD w φ' (puts LD r.wr) w' ∧ (∀ i, ¬ (n ≤ i ∧ i < r.n') → φ' i = φ i)) Q := by
  have hs : Sub (res r.foot L) LD := by
    intro i bl hi
    rw [lk_res] at hi
    split at hi
    · rename_i hm; rw [hL i hm]; exact hi
    · cases hi
  refine Oper.wp_mono ?_ (h φ a w Q (fun x hx => he x hx ▸ ha.ev x) (hg.sub hs) hf)
  rintro a' w' ⟨φ', x, rfl, hv, hg', st, hag⟩
  have hl := le_of_agree hf hag
  obtain ⟨g2, s2⟩ := frame (M' := puts LD r.wr) hg hs hg' st hl (by
    intro i bl hi
    by_cases hk : i ∈ keys r.wr
    · exact .inl (by rw [lk_puts_in r.wr _ LD i hk]; exact hi)
    · rw [lk_puts_out _ _ _ hk] at hi ⊢
      by_cases hm : i ∈ r.foot
      · exact .inl (by rw [lk_res, if_pos hm, ← hL i hm]; exact hi)
      · exact .inr ⟨by rw [lk_res, if_neg hm], hi⟩)
  exact ⟨φ', (ha.mono hl).put o.dst hv, g2, s2, hag⟩

/-! ### guards -/
def want (ops : Array Oper) (env : List V) (o : Oper) : Option Bool :=
  match o.guard with
  | none => some true
  | some (j, b) =>
    match (ops[j]?).bind (·.dst) with
    | none => some false
    | some t =>
      match env.getD t .undef with
      | .s (.bool c) => some (c == b)
      | .undef => some false
      | _ => none

theorem want_r {φ : Ph} {ops : Array Oper} {env : List V} {o : Oper} {a : Act} {b : Bool} (h : EnvR φ env a) (hw : want ops env o = some b) :
    Region.wanted o (yielded ops a.tmps) = b := by
  unfold want at hw
  unfold Region.wanted
  cases hg : o.guard with
  | none => simp [hg] at hw; simp [← hw]
  | some g =>
    obtain ⟨j, c⟩ := g
    simp only [hg] at hw
    simp only [yielded]
    cases hd : (ops[j]?).bind (·.dst) with
    | none => simp [hd] at hw; simp [← hw]
    | some t =>
      simp only [hd] at hw
      simp only [Option.bind_some]
      have hs := h.slot t
      have e : a.tmps.getD t Go.undef = (a.tmps[t]?).getD Go.undef := by simp [Array.getD_eq_getD_getElem?]
      generalize env.getD t .undef = x at hw hs
      cases x with
      | any => simp at hw
      | agg _ => simp at hw
      | tup _ => simp at hw
      | w => simp at hw
      | undef =>
        simp at hw; subst hw
        simp only [Vr] at hs
        rw [e] at hs
        cases ht : a.tmps[t]? with
        | none => rfl
        | some y => rw [ht] at hs; simp at hs; subst hs; rfl
      | s y =>
        cases y with
        | bool d =>
          simp at hw; subst hw
          simp only [Vr, Sr] at hs
          rw [e] at hs
          cases ht : a.tmps[t]? with
          | none => rw [ht] at hs; simp [Go.undef] at hs
          | some y => rw [ht] at hs; simp at hs; subst hs; cases d <;> cases c <;> rfl
        | _ => simp at hw

/-- one operation of the text-order run -/
def StepOK (P : Program) (ops : Array Oper) (o : Oper) (r : R) (env : List V) (n : Nat) (L : Hp) : Prop :=
  (want ops env o = some true ∧ OpL P o env n (res r.foot L) r.v r.n' (puts (res r.foot L) r.wr) ∧ n ≤ r.n') ∨
  (want ops env o = some false ∧ r.v = .undef ∧ r.wr = [] ∧ r.n' = n)

theorem StepOK.n_le {P : Program} {ops : Array Oper} {o : Oper} {r : R} {env : List V} {n : Nat} {L : Hp} (h : StepOK P ops o r env n L) : n ≤ r.n' := by
  rcases h with ⟨_, _, h⟩ | ⟨_, _, _, h⟩ <;> omega

/-- the slots whose content an operation looks at -/
def looks (ops : Array Oper) (o : Oper) : List Tmp := o.looksAt ops

theorem want_congr {ops : Array Oper} {o : Oper} {env env' : List V} (h : ∀ t ∈ looks ops o, env.getD t .undef = env'.getD t .undef) : want ops env o = want ops env' o := by
  unfold want
  cases hg : o.guard with
  | none => rfl
  | some g =>
    obtain ⟨j, c⟩ := g
    simp only []
    cases hd : (ops[j]?).bind (·.dst) with
    | none => rfl
    | some t => simp only []; rw [h t (by simp [looks, Oper.looksAt, hg, hd])]

theorem ev_congr {ops : Array Oper} {o : Oper} {env env' : List V} (h : ∀ t ∈ looks ops o, env.getD t .undef = env'.getD t .undef) : ∀ x ∈ o.op.operands, ev env x = ev env' x := by
  intro x hx
  cases x with
  | tmp t => exact h t (List.mem_append_left _ (List.mem_filterMap.2 ⟨.tmp t, by simpa using hx, rfl⟩))
  | _ => rfl

/-- The step of a region's run, in a state that agrees with the text order's where the operation looks. -/
theorem StepOK.wpOp {P : Program} {ops : Array Oper} {o : Oper} {r : R} {env envD : List V} {n : Nat} {L LD : Hp} (h : StepOK P ops o r env n L) {i : Nat} (hi : ops[i]? = some o)
    (he : ∀ t ∈ looks ops o, envD.getD t .undef = env.getD t .undef) (hL : ∀ i ∈ r.foot, lk LD i = lk L i)
    {φ : Ph} {a : Act} {w : World} {Q : Exit → Act → World → Prop} (ha : EnvR φ envD a) (hg : Good φ LD w) (hf : ∀ i, n ≤ i → i < r.n' → φ i = none)
    {K : Act → World → Prop} (hK : ∀ φ' a' w', EnvR φ' (setD envD o.dst r.v) a' → Good φ' (puts LD r.wr) w' → Stp φ LD w φ' (puts LD r.wr) w' → (∀ i, ¬ (n ≤ i ∧ i < r.n') → φ' i = φ i) → K a' w') :
    Go.wpOp P ops Q i K a w := by
  unfold Go.wpOp
  simp only [hi]
  rcases h with ⟨hw, hop, _⟩ | ⟨hw, hv, hwr, hn⟩
  · rw [← want_congr he] at hw
    rw [want_r ha hw]
    simp only [if_true]
    refine .inl (Oper.wp_mono ?_ (hop.step (ev_congr he) hL Q ha hg hf))
    rintro a' w' ⟨φ', h1, h2, h3, h4⟩
    exact hK φ' a' w' h1 h2 h3 h4
  · rw [← want_congr he] at hw
    rw [want_r ha hw]
    simp only [Bool.false_eq_true, if_false]
    rw [hv, hwr] at hK
    exact hK φ _ w (ha.put o.dst (show Vr φ .undef Go.undef from rfl)) hg (Stp.refl _ _ _) (fun _ _ => rfl)

end Ab
end Go.Proofs.YtbokilgdefkmiaaGreatDoor
