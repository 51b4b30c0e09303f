/-
  The frame, part 9: an operation, a region, a piece of code: run, with answers; what the run says is true.
-/
import Derived.Test.YtgnidbokllmhhaaAb8c
set_option linter.unusedSimpArgs false
set_option linter.unusedVariables false
namespace Go.Proofs.Ytgnidbokllmhhaa
namespace Ab
open Go

/-! ### calls -/
def renO (r : Nat → Nat) : Option Bl → Option Bl
  | some bl => some (renB r bl)
  | none => none
/-- what a call writes, in the caller's numbers -/
def callWr (tbl : List Nat) (new : Nat) (L0 : Hp) : Hp → Hp
  | [] => []
  | (i, c) :: t =>
    match Nat.blt i tbl.length with
    | true =>
      match lk L0 i with
      | some b => match b.ro with | true => callWr tbl new L0 t | false => (rn tbl new i, renO (rn tbl new) c) :: callWr tbl new L0 t
      | none => callWr tbl new L0 t
    | false => (rn tbl new i, renO (rn tbl new) c) :: callWr tbl new L0 t

/-- is every block that the callee was handed still spoken of? (else it would seem unchanged) -/
def allSaid (L0 L0' : Hp) : Bool := L0.all fun x => (keys L0').elem x.1
def nodupB : List Nat → Bool
  | [] => true
  | x :: t => !t.elem x && nodupB t

structure callC (P : Program) (f : FuncId) (args : List V) (n : Nat) (L : Hp) (tbl : List Nat) (args0 : List V) (L0 : Hp) (v0 : V) (n0' : Nat) (L0' : Hp) : Prop where
  sc : SC P f args0 tbl.length L0 v0 n0' L0'
  ar : args = args0.map (renV (rn tbl n))
  ft : Fits tbl n n0' L0 (res tbl L)

def fnOK (P : Program) (f : FuncId) : Bool := match P.funcs[f]? with | some fn => fn.body.isSome && !(fn.name == "runtime.NumGoroutine") | none => false

def aCall (P : Program) (f : FuncId) (args : List V) (n : Nat) (L : Hp) (ans : List Ans) : Option Out :=
  match ans with
  | .call tbl args0 L0 v0 n0' L0' :: as =>
    match args0.all (okV tbl.length) && okH tbl.length L0 && allSaid L0 L0' && nodupB (keys L0') && Nat.ble tbl.length n0' with
    | true =>
      frcV (renV (rn tbl n) v0) fun v => frc (callWr tbl n L0 L0') [] fun wr =>
        some ⟨⟨tbl, v, wr, n + (n0' - tbl.length)⟩, as, fnOK P f = true ∧ callC P f args n L tbl args0 L0 v0 n0' L0'⟩
    | false => none
  | _ => none

theorem lk_mem : ∀ {L : Hp} {i : Nat} {bl : Bl}, lk L i = some bl → (i, some bl) ∈ L
  | [], _, _, h => by simp [lk] at h
  | (j, c) :: t, i, bl, h => by
    rw [lk_cons] at h
    split at h
    · rename_i e; subst e; subst h; exact .head _
    · exact .tail _ (lk_mem h)
theorem lk_of_mem : ∀ {L : Hp} {i : Nat} {c : Option Bl}, nodupB (keys L) = true → (i, c) ∈ L → lk L i = c
  | (j, d) :: t, i, c, hn, h => by
    simp only [keys, List.map_cons, nodupB, Bool.and_eq_true, Bool.not_eq_true'] at hn
    rw [lk_cons]
    cases h with
    | head => simp
    | tail _ h =>
      split
      · rename_i e; subst e
        have : j ∈ t.map (·.1) := List.mem_map.2 ⟨(j, c), h, rfl⟩
        have h2 : (t.map (·.1)).elem j = true := List.elem_eq_true_of_mem this
        rw [h2] at hn; cases hn.1
      · exact lk_of_mem hn.2 h
theorem lk_puts_mem : ∀ (W L : Hp) (x : Nat), x ∈ keys W → ∃ c, (x, c) ∈ W ∧ lk (puts L W) x = c
  | (j, d) :: t, L, x, h => by
    simp only [puts]
    by_cases ht : x ∈ keys t
    · obtain ⟨c, hc, he⟩ := lk_puts_mem t (put L j d) x ht
      exact ⟨c, .tail _ hc, he⟩
    · simp only [keys, List.map_cons, List.mem_cons] at h
      have hj : x = j := h.resolve_right ht
      subst hj
      exact ⟨d, .head _, by rw [lk_puts_out _ _ _ ht, lk_put, if_pos rfl]⟩
theorem mem_callWr {tbl : List Nat} {new : Nat} {L0 : Hp} : ∀ {L0' : Hp} {x : Nat} {c : Option Bl}, (x, c) ∈ callWr tbl new L0 L0' →
    ∃ i d, (i, d) ∈ L0' ∧ rn tbl new i = x ∧ c = d.map (renB (rn tbl new)) ∧ (tbl.length ≤ i ∨ ∃ b, lk L0 i = some b ∧ b.ro = false)
  | (j, d) :: t, x, c, h => by
    simp only [callWr] at h
    have rest : (x, c) ∈ callWr tbl new L0 t → ∃ i d', (i, d') ∈ (j, d) :: t ∧ rn tbl new i = x ∧ c = d'.map (renB (rn tbl new)) ∧ (tbl.length ≤ i ∨ ∃ b, lk L0 i = some b ∧ b.ro = false) := fun h => by
      obtain ⟨i, d', h1, h2⟩ := mem_callWr h
      exact ⟨i, d', .tail _ h1, h2⟩
    have here : (tbl.length ≤ j ∨ ∃ b, lk L0 j = some b ∧ b.ro = false) → (x, c) ∈ (rn tbl new j, renO (rn tbl new) d) :: callWr tbl new L0 t →
        ∃ i d', (i, d') ∈ (j, d) :: t ∧ rn tbl new i = x ∧ c = d'.map (renB (rn tbl new)) ∧ (tbl.length ≤ i ∨ ∃ b, lk L0 i = some b ∧ b.ro = false) := by
      intro hc h
      rcases List.mem_cons.1 h with e | h
      · simp only [Prod.mk.injEq] at e
        exact ⟨j, d, .head _, e.1.symm, by rw [e.2]; cases d <;> rfl, hc⟩
      · exact rest h
    split at h
    · rename_i hlt
      split at h
      · rename_i b hb
        split at h
        · exact rest h
        · rename_i hro; exact here (.inr ⟨b, hb, hro⟩) h
      · exact rest h
    · rename_i hge
      refine here (.inl ?_) h
      rcases Nat.lt_or_ge j tbl.length with hl | hl
      · rw [blt_iff.2 hl] at hge; cases hge
      · exact hl
theorem callWr_has {tbl : List Nat} {new : Nat} {L0 : Hp} {i : Nat} {b : Bl} (hb : lk L0 i = some b) (hro : b.ro = false) (hi : i < tbl.length) : ∀ {L0' : Hp}, i ∈ keys L0' → rn tbl new i ∈ keys (callWr tbl new L0 L0')
  | (j, d) :: t, h => by
    simp only [keys, List.map_cons, List.mem_cons] at h
    simp only [callWr]
    rcases h with rfl | h
    · rw [blt_iff.2 hi]
      simp only [hb, hro, keys, List.map_cons, List.mem_cons, true_or]
    · have ih := callWr_has (new := new) hb hro hi (L0' := t) h
      split
      · split
        · split
          · exact ih
          · simp only [keys, List.map_cons, List.mem_cons]; exact .inr ih
        · exact ih
      · simp only [keys, List.map_cons, List.mem_cons]; exact .inr ih

theorem after_callWr {tbl : List Nat} {new : Nat} {L0 L0' M : Hp} (hs : allSaid L0 L0' = true) (hn : nodupB (keys L0') = true) : After tbl new L0 L0' M (puts M (callWr tbl new L0 L0')) := by
  intro x bl hx
  by_cases hk : x ∈ keys (callWr tbl new L0 L0')
  · left
    obtain ⟨c, hc, he⟩ := lk_puts_mem _ M x hk
    rw [he] at hx
    subst hx
    obtain ⟨i, d, h1, h2, h3, h4⟩ := mem_callWr hc
    cases d with
    | none => simp at h3
    | some bl0 => exact ⟨i, bl0, h2, lk_of_mem hn h1, by simpa using h3, h4⟩
  · right
    rw [lk_puts_out _ _ _ hk] at hx
    refine ⟨hx, fun i hi e b hb => ?_⟩
    cases hro : b.ro with
    | true => rfl
    | false =>
      exfalso
      have h1 := List.all_eq_true.1 hs _ (lk_mem hb)
      have h2 : i ∈ keys L0' := by simpa using h1
      have := callWr_has (tbl := tbl) (new := new) hb hro hi h2
      rw [rn_lt hi, e] at this
      exact hk this

theorem aCall_ok {P : Program} {f : FuncId} {env : List V} {n : Nat} {L : Hp} {ans : List Ans} {out : Out} {o : Oper} {c : Call} (ho : o.op = .call c) (hc : c.callee = .value (.func f))
    (h : aCall P f (c.args.toList.map (ev env)) n L ans = some out) (hC : out.C) : OutOK P o env n L out := by
  unfold aCall at h
  split at h
  · rename_i tbl args0 L0 v0 n0' L0' as
    split at h
    · rename_i hchk
      rw [frcV_eq, frc_eq] at h
      cases h
      simp only [Bool.and_eq_true] at hchk
      obtain ⟨⟨⟨⟨k1, k2⟩, k3⟩, k4⟩, k5⟩ := hchk
      obtain ⟨hf, hsc, hargs, ft⟩ := hC
      unfold fnOK at hf
      split at hf
      · rename_i fn hfn
        simp only [Bool.and_eq_true, Bool.not_eq_true'] at hf
        exact ⟨hsc.op k1 k2 ho hc hfn hf.1 hf.2 hargs ft (after_callWr k3 k4), Nat.le_add_right _ _⟩
      · cases hf
    · cases h
  · cases h

/-! ### all operations -/
def aBuiltin (P : Program) (b : Builtin) (ts : Array TypeId) (n : Nat) (L : Hp) (args : List V) (ans : List Ans) : Option Out :=
  match b, args with
  | .len, [x] => match ts[0]? with | some t => (match aLen P t x with | some s => ofSO n (some (s, ans, True)) | none => none) | none => none
  | .min, [x, y] => ofSO n (aMinMax false x y ans)
  | .max, [x, y] => ofSO n (aMinMax true x y ans)
  | .copy, [x, y] => aCopy P ts n L x y ans
  | _, _ => none

def aop (P : Program) (o : Oper) (env : List V) (n : Nat) (L : Hp) (ans : List Ans) : Option Out :=
  match o.op with
  | .move x => lt n (ev env x) ans True
  | .assign x => lt n (ev env x) ans True
  | .pick c a b =>
    match ev env c with
    | .s (.bool t) => match t with | true => lt n (ev env a) ans True | false => lt n (ev env b) ans True
    | _ => none
  | .binOp op t x y _ => ofSO n (aBin2 P op t (ev env x) (ev env y) ans)
  | .unOp op _ x => ofSO n (aUn op (ev env x) ans)
  | .convert src dst x =>
    match P.underlying src, P.underlying dst with
    | some (.slice _), some .string => aToStr P n L src dst (ev env x) ans
    | some .string, some (.slice _) => aToBytes P n src dst (ev env x) ans
    | _, _ => ofSO n (aConvI P src dst (ev env x) ans)
  | .makeSlice t l c => aMake P n t (ev env l) (ev env c) ans
  | .slice t x lo hi mx => aSlice P n t (ev env x) (lo.map (ev env)) (hi.map (ev env)) (mx.map (ev env)) ans
  | .build t parts => aBuild P n t (partsOf env parts) ans
  | .buildSlice t len parts => aBuildSlice P n t len (partsOf env parts) ans
  | .field t x f => aFieldV P n t (ev env x) f ans
  | .extract x i => match aExt (ev env x) i with | some v => lt n v ans True | none => none
  | .load t a => aLoad P n L t (ev env a) ans
  | .store t a x => aStore P n L t (ev env a) (ev env x) ans
  | .alloc t => aAlloc P n t ans
  | .box t x => aBox n t (ev env x) ans
  | .fieldAddr s x f => aField P n s (ev env x) f ans
  | .indexAddr t x ix => aIndexAddr P n t (ev env x) (ev env ix) ans
  | .index t x ix => aIndex P n t (ev env x) (ev env ix) ans
  | .call c =>
    match c.callee with
    | .value (.func f) => aCall P f (c.args.toList.map (ev env)) n L ans
    | .builtin b => aBuiltin P b c.argTypes n L (c.args.toList.map (ev env)) ans
    | _ => none
  | _ => none

theorem aBuiltin_ok {P : Program} {b : Builtin} {env : List V} {n : Nat} {L : Hp} {ans : List Ans} {out : Out} {o : Oper} {c : Call} (ho : o.op = .call c) (hc : c.callee = .builtin b)
    (h : aBuiltin P b c.argTypes n L (c.args.toList.map (ev env)) ans = some out) (hC : out.C) : OutOK P o env n L out := by
  have ops : ∀ x ∈ c.args.toList, x ∈ o.op.operands := fun x hx => by
    rw [ho]; simp only [Op.operands, Call.operands, hc]; simpa using hx
  unfold aBuiltin at h
  split at h
  · rename_i x hargs
    obtain ⟨x0, hx0, rfl⟩ : ∃ x0, c.args.toList = [x0] ∧ ev env x0 = x := by
      match hl : c.args.toList, hargs with
      | [x0], hargs => exact ⟨x0, rfl, by simpa [hl] using hargs⟩
    split at h
    · rename_i t ht
      split at h
      · rename_i s hs
        refine ofSO_ok h hC fun s' as C e _ φ a w hop => ?_
        cases e
        have g := hop x0 (ops x0 (by rw [hx0]; exact .head _))
        obtain ⟨y, hy, hr⟩ := aLen_ok (P := P) hs g (ty := o.type) ht w
        have ea : c.args.map a.eval = #[a.eval x0] := by apply Array.ext'; simp [hx0]
        exact ⟨y, by simp only [execOp, ho, resolve, hc, Sem.run_bind, Sem.run_pure, Result.andThen_ok, invoke, builtin, ea, hy], hr⟩
      · cases h
    · cases h
  · rename_i x y hargs
    obtain ⟨x0, y0, hx0, rfl, rfl⟩ : ∃ x0 y0, c.args.toList = [x0, y0] ∧ ev env x0 = x ∧ ev env y0 = y := by
      match hl : c.args.toList, hargs with
      | [x0, y0], hargs => exact ⟨x0, y0, rfl, by simpa [hl] using hargs⟩
    refine ofSO_ok h hC fun s' as C e hC φ a w hop => ?_
    have g1 := hop x0 (ops x0 (by rw [hx0]; exact .head _))
    have g2 := hop y0 (ops y0 (by rw [hx0]; exact .tail _ (.head _)))
    obtain ⟨v, hv, hr⟩ := aMin_ok (P := P) e hC g1 g2 (ts := c.argTypes) (ty := o.type) w
    have ea : c.args.map a.eval = #[a.eval x0, a.eval y0] := by apply Array.ext'; simp [hx0]
    exact ⟨v, by simp only [execOp, ho, resolve, hc, Sem.run_bind, Sem.run_pure, Result.andThen_ok, invoke, builtin, ea, hv], hr⟩
  · rename_i x y hargs
    obtain ⟨x0, y0, hx0, rfl, rfl⟩ : ∃ x0 y0, c.args.toList = [x0, y0] ∧ ev env x0 = x ∧ ev env y0 = y := by
      match hl : c.args.toList, hargs with
      | [x0, y0], hargs => exact ⟨x0, y0, rfl, by simpa [hl] using hargs⟩
    refine ofSO_ok h hC fun s' as C e hC φ a w hop => ?_
    have g1 := hop x0 (ops x0 (by rw [hx0]; exact .head _))
    have g2 := hop y0 (ops y0 (by rw [hx0]; exact .tail _ (.head _)))
    obtain ⟨v, hv, hr⟩ := aMax_ok (P := P) e hC g1 g2 (ts := c.argTypes) (ty := o.type) w
    have ea : c.args.map a.eval = #[a.eval x0, a.eval y0] := by apply Array.ext'; simp [hx0]
    exact ⟨v, by simp only [execOp, ho, resolve, hc, Sem.run_bind, Sem.run_pure, Result.andThen_ok, invoke, builtin, ea, hv], hr⟩
  · rename_i x y hargs
    obtain ⟨x0, y0, hx0, rfl, rfl⟩ : ∃ x0 y0, c.args.toList = [x0, y0] ∧ ev env x0 = x ∧ ev env y0 = y := by
      match hl : c.args.toList, hargs with
      | [x0, y0], hargs => exact ⟨x0, y0, rfl, by simpa [hl] using hargs⟩
    exact aCopy_ok ho hc hx0 h hC
  · cases h

theorem aop_ok {P : Program} {o : Oper} {env : List V} {n : Nat} {L : Hp} {ans : List Ans} {out : Out} (h : aop P o env n L ans = some out) (hC : out.C) : OutOK P o env n L out := by
  unfold aop at h
  split at h
  · rename_i x ho
    exact lt_ok h fun φ a w hop => ⟨_, by simp only [execOp, ho, Sem.run_pure], hop x (by simp [ho, Op.operands])⟩
  · rename_i x ho
    exact lt_ok h fun φ a w hop => ⟨_, by simp only [execOp, ho, Sem.run_pure], hop x (by simp [ho, Op.operands])⟩
  · rename_i c x y ho
    split at h
    · rename_i t hc
      split at h
      · exact lt_ok h fun φ a w hop => by
          have g := hop c (by simp [ho, Op.operands])
          rw [hc] at g; simp only [Vr, Sr] at g
          exact ⟨_, by simp only [execOp, ho, g, asBool, Sem.run_bind, Sem.run_pure, Result.andThen_ok, if_true], hop x (by simp [ho, Op.operands])⟩
      · exact lt_ok h fun φ a w hop => by
          have g := hop c (by simp [ho, Op.operands])
          rw [hc] at g; simp only [Vr, Sr] at g
          exact ⟨_, by simp only [execOp, ho, g, asBool, Sem.run_bind, Sem.run_pure, Result.andThen_ok, Bool.false_eq_true, if_false], hop y (by simp [ho, Op.operands])⟩
    · cases h
  · rename_i op t x y ty ho
    refine ofSO_ok h hC fun s as C e hC φ a w hop => ?_
    obtain ⟨v, hv, hr⟩ := aBin2_ok (P := P) (ox := x) (oy := y) e hC (hop x (by simp [ho, Op.operands])) (hop y (by simp [ho, Op.operands])) w
    exact ⟨v, by simp only [execOp, ho]; rw [Sem.run_bind, hv]; rfl, hr⟩
  · rename_i op t x ho
    refine ofSO_ok h hC fun s as C e hC φ a w hop => ?_
    obtain ⟨v, hv, hr⟩ := aUn_ok (P := P) e hC (hop x (by simp [ho, Op.operands])) w
    exact ⟨v, by simp only [execOp, ho]; rw [Sem.run_bind, hv]; rfl, hr⟩
  · rename_i src dst x ho
    split at h
    · exact aToStr_ok ho h hC
    · exact aToBytes_ok ho h
    · refine ofSO_ok h hC fun s as C e hC φ a w hop => ?_
      obtain ⟨v, hv, hr⟩ := aConvI_ok (P := P) e hC (hop x (by simp [ho, Op.operands])) w
      exact ⟨v, by simp only [execOp, ho]; rw [Sem.run_bind, hv]; rfl, hr⟩
  · rename_i t l c ho; exact aMake_ok ho h hC
  · rename_i t x lo hi mx ho; exact aSlice_ok ho h hC
  · rename_i t parts ho; exact aBuild_ok ho h
  · rename_i t len parts ho; exact aBuildSlice_ok ho h
  · rename_i t x f ho; exact aFieldV_ok ho h
  · rename_i x i ho
    split at h
    · rename_i v hv
      exact lt_ok h fun φ a w hop => by
        obtain ⟨y, hy, hr⟩ := aExt_ok (P := P) hv (hop x (by simp [ho, Op.operands])) w
        exact ⟨y, by simp only [execOp, ho]; rw [Sem.run_bind, hy]; rfl, hr⟩
    · cases h
  · rename_i t a ho; exact aLoad_ok ho h hC
  · rename_i t a x ho; exact aStore_ok ho h hC
  · rename_i t ho; exact aAlloc_ok ho h
  · rename_i t x ho; exact aBox_ok ho h
  · rename_i s x f ho; exact aField_ok ho h
  · rename_i t x ix ho; exact aIndexAddr_ok ho h hC
  · rename_i t x ix ho; exact aIndex_ok ho h hC
  · rename_i c ho
    split at h
    · rename_i f hc; exact aCall_ok ho hc h hC
    · rename_i b hc; exact aBuiltin_ok ho hc h hC
    · cases h
  · cases h

/-! ### a region -/
def runOps (P : Program) (ops : Array Oper) : List Oper → List V → Nat → Hp → List Ans → Option (List Row × List V × Nat × Hp × List Ans × Prop)
  | [], env, n, L, ans => some ([], env, n, L, ans, True)
  | o :: os, env, n, L, ans =>
    match want ops env o with
    | some true =>
      match aop P o env n L ans with
      | some ⟨⟨foot, v, wr, n'⟩, as, C⟩ =>
        frc (setD env o.dst v) [] fun env' => frc (puts L wr) [] fun L' =>
          match runOps P ops os env' n' L' as with
          | some (rows, e, m, M, as', D) => some ((o, ⟨foot, v, wr, n'⟩) :: rows, e, m, M, as', C ∧ D)
          | none => none
      | none => none
    | some false =>
      frc (setD env o.dst .undef) [] fun env' =>
        match runOps P ops os env' n L ans with
        | some (rows, e, m, M, as', D) => some ((o, ⟨[], .undef, [], n⟩) :: rows, e, m, M, as', D)
        | none => none
    | none => none

theorem runOps_ok {P : Program} {ops : Array Oper} : ∀ (l : List Oper) (k : Nat) (env : List V) (n : Nat) (L : Hp) (ans : List Ans) (rows : List Row) (e : List V) (m : Nat) (M : Hp) (as : List Ans) (C : Prop),
    runOps P ops l env n L ans = some (rows, e, m, M, as, C) → C → RunOK P ops rows env n L ∧ rows.map (·.1) = l ∧ e = eD (fun _ => true) k rows env ∧ m = nAt rows n rows.length ∧ M = hD (fun _ => true) k rows L
  | [], k, env, n, L, ans, rows, e, m, M, as, C, h, _ => by
    simp only [runOps, Option.some.injEq, Prod.mk.injEq] at h
    obtain ⟨rfl, rfl, rfl, rfl, rfl, rfl⟩ := h
    exact ⟨trivial, rfl, rfl, rfl, rfl⟩
  | o :: os, k, env, n, L, ans, rows, e, m, M, as, C, h, hC => by
    simp only [runOps] at h
    split at h
    · rename_i hw
      split at h
      · rename_i foot v wr n' as1 C1 hop
        rw [frc_eq, frc_eq] at h
        split at h
        · rename_i rows' e' m' M' as' D hrec
          simp only [Option.some.injEq, Prod.mk.injEq] at h
          obtain ⟨rfl, rfl, rfl, rfl, rfl, rfl⟩ := h
          obtain ⟨g1, g2, g3, g4, g5⟩ := runOps_ok os (k + 1) _ _ _ _ _ _ _ _ _ _ hrec hC.2
          obtain ⟨q1, q2⟩ := aop_ok hop hC.1
          exact ⟨⟨.inl ⟨hw, q1, q2⟩, g1⟩, by simp [g2], g3, by simpa [nAt] using g4, g5⟩
        · cases h
      · cases h
    · rename_i hw
      rw [frc_eq] at h
      split at h
      · rename_i rows' e' m' M' as' D hrec
        simp only [Option.some.injEq, Prod.mk.injEq] at h
        obtain ⟨rfl, rfl, rfl, rfl, rfl, rfl⟩ := h
        obtain ⟨g1, g2, g3, g4, g5⟩ := runOps_ok os (k + 1) _ _ _ _ _ _ _ _ _ _ hrec hC
        exact ⟨⟨.inr ⟨hw, rfl, rfl, rfl⟩, g1⟩, by simp [g2], g3, by simpa [nAt] using g4, g5⟩
      · cases h
    · cases h

/-! ### is the region fit to be drawn? -/
def maskOf (acc : List Nat) (o : Oper) : Nat := o.after.toList.foldl (fun s e => match Region.binds .any e with | true => s ||| (2 ^ e.on ||| acc.getD e.on 0) | false => s) 0
def masks : List Oper → List Nat → List Nat
  | [], acc => acc
  | o :: t, acc => masks t (acc ++ [maskOf acc o])
def disj (a b : List Nat) : Bool := a.all fun x => !b.elem x
def confB (ops : Array Oper) (x y : Row) : Bool :=
  !(disj x.1.dst.toList (y.1.dst.toList ++ looks ops y.1) && disj y.1.dst.toList (looks ops x.1) && disj (keys x.2.wr) (keys y.2.wr ++ y.2.foot) && disj (keys y.2.wr) x.2.foot)
def regB (ops : Array Oper) (rows : List Row) : Bool :=
  let ms := masks ops.toList []
  (ops.toList.zipIdx.all fun (o, i) => o.after.toList.all fun e => !Region.binds .any e || Nat.blt e.on i) &&
  rows.zipIdx.all fun (y, j) => rows.zipIdx.all fun (x, i) => !Nat.blt i j || !confB ops x y || (ms.getD j 0).testBit i

theorem maskOf_bit {ops : Array Oper} {D : Nat → Bool} {acc : List Nat} {o : Oper} {i : Nat} (hacc : ∀ k, k < acc.length → ∀ i, (acc.getD k 0).testBit i = true → D k = true → D i = true) (hlen : ∀ e ∈ o.after.toList, Region.binds .any e = true → e.on < acc.length)
    (hD : ∀ e ∈ o.after.toList, Region.binds .any e = true → D e.on = true) (h : (maskOf acc o).testBit i = true) : D i = true := by
  have key : ∀ (l : List Edge) (s : Nat), (∀ e ∈ l, e ∈ o.after.toList) → (s.testBit i = true → D i = true) →
      ((l.foldl (fun s e => match Region.binds .any e with | true => s ||| (2 ^ e.on ||| acc.getD e.on 0) | false => s) s).testBit i = true → D i = true) := by
    intro l
    induction l with
    | nil => intro s _ hs; exact hs
    | cons e t ih =>
      intro s hm hs
      simp only [List.foldl_cons]
      refine ih _ (fun e' he' => hm e' (.tail _ he')) ?_
      cases hb : Region.binds .any e with
      | false => exact hs
      | true =>
        intro hbit
        simp only [Nat.testBit_or, Bool.or_eq_true, Nat.testBit_two_pow, decide_eq_true_eq] at hbit
        rcases hbit with h | rfl | h
        · exact hs h
        · exact hD e (hm e (.head _)) hb
        · exact hacc _ (hlen e (hm e (.head _)) hb) i h (hD e (hm e (.head _)) hb)
  exact key _ 0 (fun _ h => h) (by simp) h

theorem masks_ok {ops : Array Oper} {D : Nat → Bool} (hc : Closed ops D) (down : ∀ (i : Nat) o, ops[i]? = some o → ∀ e ∈ o.after.toList, Region.binds .any e = true → e.on < i) :
    ∀ (l : List Oper) (acc : List Nat), (∀ j, ops[acc.length + j]? = l[j]?) → (∀ k, k < acc.length → ∀ i, (acc.getD k 0).testBit i = true → D k = true → D i = true) →
      ∀ k, k < (masks l acc).length → ∀ i, ((masks l acc).getD k 0).testBit i = true → D k = true → D i = true
  | [], acc, _, h => h
  | o :: t, acc, ho, h => by
    simp only [masks]
    have hmem : ops[acc.length]? = some o := by simpa using ho 0
    refine masks_ok hc down t (acc ++ [maskOf acc o]) (fun j => by
      have := ho (j + 1)
      simp only [List.length_append, List.length_cons, List.length_nil, Nat.zero_add]
      rw [show acc.length + 1 + j = acc.length + (j + 1) by omega, this]; simp) ?_
    intro k hk i hbit hDk
    simp only [List.length_append, List.length_cons, List.length_nil, Nat.zero_add] at hk
    rcases Nat.lt_or_ge k acc.length with hlt | hge
    · refine h k hlt i ?_ hDk
      rwa [List.getD_eq_getElem?_getD, List.getElem?_append_left hlt, ← List.getD_eq_getElem?_getD] at hbit
    · obtain rfl : k = acc.length := by omega
      have e : (acc ++ [maskOf acc o]).getD acc.length 0 = maskOf acc o := by simp [List.getD_eq_getElem?_getD]
      rw [e] at hbit
      exact maskOf_bit (ops := ops) h (fun e he hb => down _ _ hmem e he hb) (fun e he hb => hc _ _ hmem hDk e he hb) hbit

theorem masks_length : ∀ (l : List Oper) (acc : List Nat), (masks l acc).length = acc.length + l.length
  | [], acc => by simp [masks]
  | o :: t, acc => by simp only [masks]; rw [masks_length t]; simp; omega

theorem disj_no {a b : List Nat} {x : Nat} (h : disj a b = true) (ha : x ∈ a) (hb : x ∈ b) : False := by
  have := List.all_eq_true.1 h x ha
  simp [hb] at this

theorem regB_ok {ops : Array Oper} {rows : List Row} (hops : rows.map (·.1) = ops.toList) (h : regB ops rows = true) : RegOK ops rows := by
  unfold regB at h
  simp only [Bool.and_eq_true] at h
  obtain ⟨h1, h2⟩ := h
  have down : ∀ (i : Nat) o, ops[i]? = some o → ∀ e ∈ o.after.toList, Region.binds .any e = true → e.on < i := by
    intro i o hi e he hb
    have := List.all_eq_true.1 h1 (o, i) (List.mem_zipIdx_iff_getElem?.2 (by simpa using hi))
    have := List.all_eq_true.1 this e he
    simp only [hb, Bool.not_true, Bool.false_or] at this
    exact blt_iff.1 this
  have hlen : rows.length = ops.size := by rw [← Array.length_toList, ← hops, List.length_map]
  have bef : ∀ (i j : Nat) (x y : Row), i < j → rows[i]? = some x → rows[j]? = some y → confB ops x y = true → Bef ops i j := by
    intro i j x y hij hi hj hcf D hc hD
    have g1 := List.all_eq_true.1 h2 (y, j) (List.mem_zipIdx_iff_getElem?.2 hj)
    have g2 := List.all_eq_true.1 g1 (x, i) (List.mem_zipIdx_iff_getElem?.2 hi)
    simp only [blt_iff.2 hij, hcf, Bool.not_true, Bool.false_or] at g2
    have hjl : j < rows.length := by
      rcases Nat.lt_or_ge j rows.length with h | h
      · exact h
      · simp [List.getElem?_eq_none h] at hj
    exact masks_ok hc down ops.toList [] (fun j => by simp) (fun k hk => by simp at hk) j (by rw [masks_length]; simp; omega) i g2 hD
  refine ⟨hops, down, ?_, ?_⟩
  · intro i j oi ri oj rj t hij hi hj hcase
    refine bef i j _ _ hij hi hj ?_
    unfold confB
    cases hcf : (disj oi.dst.toList (oj.dst.toList ++ looks ops oj) && disj oj.dst.toList (looks ops oi) && disj (keys ri.wr) (keys rj.wr ++ rj.foot) && disj (keys rj.wr) ri.foot) with
    | false => rfl
    | true =>
      exfalso
      simp only [Bool.and_eq_true] at hcf
      obtain ⟨⟨⟨c1, c2⟩, c3⟩, c4⟩ := hcf
      rcases hcase with ⟨e1, e2 | e2⟩ | ⟨e1, e2⟩
      · exact disj_no c1 (x := t) (by simp [e1]) (by simp [e2])
      · exact disj_no c1 (x := t) (by simp [e1]) (by simp [e2])
      · exact disj_no c2 (x := t) (by simp [e1]) e2
  · intro i j oi ri oj rj t hij hi hj hcase
    refine bef i j _ _ hij hi hj ?_
    unfold confB
    cases hcf : (disj oi.dst.toList (oj.dst.toList ++ looks ops oj) && disj oj.dst.toList (looks ops oi) && disj (keys ri.wr) (keys rj.wr ++ rj.foot) && disj (keys rj.wr) ri.foot) with
    | false => rfl
    | true =>
      exfalso
      simp only [Bool.and_eq_true] at hcf
      obtain ⟨⟨⟨c1, c2⟩, c3⟩, c4⟩ := hcf
      rcases hcase with ⟨e1, e2 | e2⟩ | ⟨e1, e2⟩
      · exact disj_no c3 e1 (by simp [e2])
      · exact disj_no c3 e1 (by simp [e2])
      · exact disj_no c4 e1 e2

/-! ### code -/
def One (x : Exit) (e : List V) (m : Nat) (M : Hp) : Post := fun x' e' m' M' => x' = x ∧ e' = e ∧ m' = m ∧ M' = M

abbrev CO := Option (Exit × List V × Nat × Hp × List Ans × Prop)

def runC (P : Program) (b : Nat) : Code → List V → Nat → Hp → List Ans → CO
  | .skip, env, n, L, ans => some (.normal, env, n, L, ans, True)
  | .ret, env, n, L, ans => some (.ret, env, n, L, ans, True)
  | .exit id, env, n, L, ans => some (.exit id, env, n, L, ans, True)
  | .seq x y, env, n, L, ans =>
    match runC P b x env n L ans with
    | some (.normal, e, m, M, as, C) => match runC P b y e m M as with | some (z, e', m', M', as', D) => some (z, e', m', M', as', C ∧ D) | none => none
    | r => r
  | .cond c x y, env, n, L, ans =>
    match ev env c with
    | .s (.bool t) => match t with | true => runC P b x env n L ans | false => runC P b y env n L ans
    | _ => none
  | .block id c, env, n, L, ans =>
    match runC P b c env n L ans with
    | some (.exit id', e, m, M, as, C) => match Nat.beq id' id with | true => some (.normal, e, m, M, as, C) | false => some (.exit id', e, m, M, as, C)
    | r => r
  | .loop c, env, n, L, ans =>
    match ans with
    | .loop x e m M :: as => some (x, e, m, M, as, Ex P b (.loop c) env n L (One x e m M))
    | _ => none
  | .region _ ops d, env, n, L, ans =>
    match runOps P ops ops.toList env n L ans with
    | some (rows, e, m, M, as, C) => match d with | true => some (.normal, e, m, M, as, C ∧ regB ops rows = true) | false => some (.normal, e, m, M, as, C)
    | none => none
  | _, _, _, _, _ => none

theorem runC_ok {P : Program} {b : Nat} (hm : P.follows .mixedOrders = true) : ∀ (c : Code) (env : List V) (n : Nat) (L : Hp) (ans : List Ans) (x : Exit) (e : List V) (m : Nat) (M : Hp) (as : List Ans) (C : Prop),
    runC P b c env n L ans = some (x, e, m, M, as, C) → C → Ex P b c env n L (One x e m M) := by
  intro c
  induction c with
  | skip => intro env n L ans x e m M as C h _; simp only [runC, Option.some.injEq, Prod.mk.injEq] at h; obtain ⟨rfl, rfl, rfl, rfl, _, _⟩ := h; exact Ex.skip ⟨rfl, rfl, rfl, rfl⟩
  | ret => intro env n L ans x e m M as C h _; simp only [runC, Option.some.injEq, Prod.mk.injEq] at h; obtain ⟨rfl, rfl, rfl, rfl, _, _⟩ := h; exact Ex.ret ⟨rfl, rfl, rfl, rfl⟩
  | exit id => intro env n L ans x e m M as C h _; simp only [runC, Option.some.injEq, Prod.mk.injEq] at h; obtain ⟨rfl, rfl, rfl, rfl, _, _⟩ := h; exact Ex.exit ⟨rfl, rfl, rfl, rfl⟩
  | seq p q ihp ihq =>
    intro env n L ans x e m M as C h hC
    simp only [runC] at h
    split at h
    · rename_i e1 m1 M1 as1 C1 h1
      split at h
      · rename_i z e' m' M' as' D h2
        simp only [Option.some.injEq, Prod.mk.injEq] at h
        obtain ⟨rfl, rfl, rfl, rfl, rfl, rfl⟩ := h
        refine Ex.seq ((ihp _ _ _ _ _ _ _ _ _ _ h1 hC.1).mono ?_)
        rintro x e m M ⟨rfl, rfl, rfl, rfl⟩
        exact ihq _ _ _ _ _ _ _ _ _ _ h2 hC.2
      · cases h
    · rename_i hne
      refine Ex.seq ((ihp _ _ _ _ _ _ _ _ _ _ h hC).mono ?_)
      rintro x' e' m' M' ⟨rfl, rfl, rfl, rfl⟩
      cases x' with
      | normal => exact absurd h (hne _ _ _ _ _)
      | _ => exact ⟨rfl, rfl, rfl, rfl⟩
  | cond c p q ihp ihq =>
    intro env n L ans x e m M as C h hC
    simp only [runC] at h
    split at h
    · rename_i t ht
      split at h
      · exact Ex.cond ht (ihp _ _ _ _ _ _ _ _ _ _ h hC)
      · exact Ex.cond ht (ihq _ _ _ _ _ _ _ _ _ _ h hC)
    · cases h
  | block id c ih =>
    intro env n L ans x e m M as C h hC
    simp only [runC] at h
    split at h
    · rename_i id' e1 m1 M1 as1 C1 h1
      split at h
      · rename_i hb
        have := Nat.eq_of_beq_eq_true hb; subst this
        simp only [Option.some.injEq, Prod.mk.injEq] at h
        obtain ⟨rfl, rfl, rfl, rfl, rfl, rfl⟩ := h
        refine Ex.block ((ih _ _ _ _ _ _ _ _ _ _ h1 hC).mono ?_)
        rintro x' e' m' M' ⟨rfl, rfl, rfl, rfl⟩
        simp only [InBlock, Nat.beq_refl]; exact ⟨rfl, rfl, rfl, rfl⟩
      · rename_i hb
        simp only [Option.some.injEq, Prod.mk.injEq] at h
        obtain ⟨rfl, rfl, rfl, rfl, rfl, rfl⟩ := h
        refine Ex.block ((ih _ _ _ _ _ _ _ _ _ _ h1 hC).mono ?_)
        rintro x' e' m' M' ⟨rfl, rfl, rfl, rfl⟩
        simp only [InBlock, hb]; exact ⟨rfl, rfl, rfl, rfl⟩
    · rename_i hne
      refine Ex.block ((ih _ _ _ _ _ _ _ _ _ _ h hC).mono ?_)
      rintro x' e' m' M' ⟨rfl, rfl, rfl, rfl⟩
      cases x' with
      | exit id' => exact absurd h (hne _ _ _ _ _ _)
      | _ => exact ⟨rfl, rfl, rfl, rfl⟩
  | loop c ih =>
    intro env n L ans x e m M as C h hC
    simp only [runC] at h
    split at h
    · simp only [Option.some.injEq, Prod.mk.injEq] at h
      obtain ⟨rfl, rfl, rfl, rfl, rfl, rfl⟩ := h
      exact hC
    · cases h
  | region id ops d =>
    intro env n L ans x e m M as C h hC
    simp only [runC] at h
    split at h
    · rename_i rows e1 m1 M1 as1 C1 h1
      split at h
      · simp only [Option.some.injEq, Prod.mk.injEq] at h
        obtain ⟨rfl, rfl, rfl, rfl, rfl, rfl⟩ := h
        obtain ⟨g1, g2, rfl, rfl, rfl⟩ := runOps_ok ops.toList 0 _ _ _ _ _ _ _ _ _ _ h1 hC.1
        exact Ex.regionDraw hm (regB_ok g2 hC.2) g1 ⟨rfl, rfl, rfl, rfl⟩
      · simp only [Option.some.injEq, Prod.mk.injEq] at h
        obtain ⟨rfl, rfl, rfl, rfl, rfl, rfl⟩ := h
        obtain ⟨g1, g2, rfl, rfl, rfl⟩ := runOps_ok ops.toList 0 _ _ _ _ _ _ _ _ _ _ h1 hC
        exact Ex.regionText g2 g1 ⟨rfl, rfl, rfl, rfl⟩
    · cases h
  | rangeFunc f ps a c _ _ => intro env n L ans x e m M as C h; simp [runC] at h
  | scope c _ => intro env n L ans x e m M as C h; simp [runC] at h
  | label l => intro env n L ans x e m M as C h; simp [runC] at h
  | goto l => intro env n L ans x e m M as C h; simp [runC] at h
  | refuse w => intro env n L ans x e m M as C h; simp [runC] at h

end Ab
end Go.Proofs.Ytgnidbokllmhhaa
