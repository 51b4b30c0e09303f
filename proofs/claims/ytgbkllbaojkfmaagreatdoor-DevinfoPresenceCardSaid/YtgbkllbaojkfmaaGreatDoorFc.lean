import Derived.Test.YtgbkllbaojkfmaaGreatDoorFb
/-
  The frame, part 9: an operation, a region, a piece of code: run, with answers; what the run says is true.
-/
set_option linter.unusedSimpArgs false
set_option linter.unusedVariables false
namespace Go.Proofs.YtgbkllbaojkfmaaGreatDoor
namespace Ab
open Go

/-! ### calls -/
def renO (r : Nat → Nat) : Option Bl → Option Bl
  | some bl => some (renB r bl)
  | none => none
/-- what a call writes, in the caller's numbers -/
def callWr (tbl : List Nat) (new : Nat) (L0 : Hp) : Hp → Hp
  | [] => []
  | (i, c) :: t =>
    match Nat.blt i tbl.length with
    | true =>
      match lk L0 i with
      | some b => match b.ro with | true => callWr tbl new L0 t | false => (rn tbl new i, renO (rn tbl new) c) :: callWr tbl new L0 t
      | none => callWr tbl new L0 t
    | false => (rn tbl new i, renO (rn tbl new) c) :: callWr tbl new L0 t

/-- is every block that the callee was handed still spoken of? (else it would seem unchanged) -/
def allSaid (L0 L0' : Hp) : Bool := L0.all fun x => (keys L0').elem x.1
def nodupB : List Nat → Bool
  | [] => true
  | x :: t => !t.elem x && nodupB t

structure callC (P : Program) (f : FuncId) (args : List V) (n : Nat) (L : Hp) (tbl : List Nat) (args0 : List V) (L0 : Hp) (v0 : V) (n0' : Nat) (L0' : Hp) : Prop where
  sc : SC P f args0 tbl.length L0 v0 n0' L0'
  ar : args = args0.map (renV (rn tbl n))
  ft : Fits tbl n n0' L0 (res tbl L)

def fnOK (P : Program) (f : FuncId) : Bool := match P.funcs[f]? with | some fn => fn.body.isSome && !(fn.name == "runtime.NumGoroutine") | none => false

def aCall (P : Program) (f : FuncId) (args : List V) (n : Nat) (L : Hp) (ans : List Ans) : Option Out :=
  match ans with
  | .call tbl args0 L0 v0 n0' L0' :: as =>
    match args0.all (okV tbl.length) && okH tbl.length L0 && allSaid L0 L0' && nodupB (keys L0') && Nat.ble tbl.length n0' with
    | true =>
      frcV (renV (rn tbl n) v0) fun v => frc (callWr tbl n L0 L0') [] fun wr =>
        some ⟨⟨tbl, v, wr, n + (n0' - tbl.length)⟩, as, fnOK P f = true ∧ callC P f args n L tbl args0 L0 v0 n0' L0'⟩
    | false => none
  | _ => none

theorem lk_mem : ∀ {L : Hp} {i : Nat} {bl : Bl}, lk L i = some bl → (i, some bl) ∈ L
  | [], _, _, h => by simp [lk] at h
  | (j, c) :: t, i, bl, h => by
    rw [lk_cons] at h
    split at h
    · rename_i e; subst e; subst h; exact .head _
    · exact .tail _ (lk_mem h)
theorem lk_of_mem : ∀ {L : Hp} {i : Nat} {c : Option Bl}, nodupB (keys L) = true → (i, c) ∈ L → lk L i = c
  | (j, d) :: t, i, c, hn, h => by
    simp only [keys, List.map_cons, nodupB, Bool.and_eq_true, Bool.not_eq_true'] at hn
    rw [lk_cons]
    cases h with
    | head => simp
    | tail _ h =>
      split
      · rename_i e; subst e
        have : j ∈ t.map (·.1) := List.mem_map.2 ⟨(j, c), h, rfl⟩
        have h2 : (t.map (·.1)).elem j = true := List.elem_eq_true_of_mem this
        rw [h2] at hn; cases hn.1
      · exact lk_of_mem hn.2 h
theorem lk_puts_mem : ∀ (W L : Hp) (x : Nat), x ∈ keys W → ∃ c, (x, c) ∈ W ∧ lk (puts L W) x = c
  | (j, d) :: t, L, x, h => by
    simp only [puts]
    by_cases ht : x ∈ keys t
    · obtain ⟨c, hc, he⟩ := lk_puts_mem t (put L j d) x ht
      exact ⟨c, .tail _ hc, he⟩
    · simp only [keys, List.map_cons, List.mem_cons] at h
      have hj : x = j := h.resolve_right ht
      subst hj
      exact ⟨d, .head _, by rw [lk_puts_out _ _ _ ht, lk_put, if_pos rfl]⟩
theorem mem_callWr {tbl : List Nat} {new : Nat} {L0 : Hp} : ∀ {L0' : Hp} {x : Nat} {c : Option Bl}, (x, c) ∈ callWr tbl new L0 L0' →
    ∃ i d, (i, d) ∈ L0' ∧ rn tbl new i = x ∧ c = d.map (renB (rn tbl new)) ∧ (tbl.length ≤ i ∨ ∃ b, lk L0 i = some b ∧ b.ro = false)
  | (j, d) :: t, x, c, h => by
    simp only [callWr] at h
    have rest : (x, c) ∈ callWr tbl new L0 t → ∃ i d', (i, d') ∈ (j, d) :: t ∧ rn tbl new i = x ∧ c = d'.map (renB (rn tbl new)) ∧ (tbl.length ≤ i ∨ ∃ b, lk L0 i = some b ∧ b.ro = false) := fun h => by
      obtain ⟨i, d', h1, h2⟩ := mem_callWr h
      exact ⟨i, d', .tail _ h1, h2⟩
    have here : (tbl.length ≤ j ∨ ∃ b, lk L0 j = some b ∧ b.ro = false) → (x, c) ∈ (rn tbl new j, renO (rn tbl new) d) :: callWr tbl new L0 t →
        ∃ i d', (i, d') ∈ (j, d) :: t ∧ rn tbl new i = x ∧ c = d'.map (renB (rn tbl new)) ∧ (tbl.length ≤ i ∨ ∃ b, lk L0 i = some b ∧ b.ro = false) := by
      intro hc h
      rcases List.mem_cons.1 h with e | h
      · simp only [Prod.mk.injEq] at e
        exact ⟨j, d, .head _, e.1.symm, by rw [e.2]; cases d <;> rfl, hc⟩
      · exact rest h
    split at h
    · rename_i hlt
      split at h
      · rename_i b hb
        split at h
        · exact rest h
        · rename_i hro; exact here (.inr ⟨b, hb, hro⟩) h
      · exact rest h
    · rename_i hge
      refine here (.inl ?_) h
      rcases Nat.lt_or_ge j tbl.length with hl | hl
      · rw [blt_iff.2 hl] at hge; cases hge
      · exact hl
theorem callWr_has {tbl : List Nat} {new : Nat} {L0 : Hp} {i : Nat} {b : Bl} (hb : lk L0 i = some b) (hro : b.ro = false) (hi : i < tbl.length) : ∀ {L0' : Hp}, i ∈ keys L0' → rn tbl new i ∈ keys (callWr tbl new L0 L0')
  | (j, d) :: t, h => by
    simp only [keys, List.map_cons, List.mem_cons] at h
    simp only [callWr]
    rcases h with rfl | h
    · rw [blt_iff.2 hi]
      simp only [hb, hro, keys, List.map_cons, List.mem_cons, true_or]
    · have ih := callWr_has (new := new) hb hro hi (L0' := t) h
      split
      · split
        · split
          · exact ih
          · simp only [keys, List.map_cons, List.mem_cons]; exact .inr ih
        · exact ih
      · simp only [keys, List.map_cons, List.mem_cons]; exact .inr ih

theorem after_callWr {tbl : List Nat} {new : Nat} {L0 L0' M : Hp} (hs : allSaid L0 L0' = true) (hn : nodupB (keys L0') = true) : After tbl new L0 L0' M (puts M (callWr tbl new L0 L0')) := by
  intro x bl hx
  by_cases hk : x ∈ keys (callWr tbl new L0 L0')
  · left
    obtain ⟨c, hc, he⟩ := lk_puts_mem _ M x hk
    rw [he] at hx
    subst hx
    obtain ⟨i, d, h1, h2, h3, h4⟩ := mem_callWr hc
    cases d with
    | none => simp at h3
    | some bl0 => exact ⟨i, bl0, h2, lk_of_mem hn h1, by simpa using h3, h4⟩
  · right
    rw [lk_puts_out _ _ _ hk] at hx
    refine ⟨hx, fun i hi e b hb => ?_⟩
    cases hro : b.ro with
    | true => rfl
    | false =>
      exfalso
      have h1 := List.all_eq_true.1 hs _ (lk_mem hb)
      have h2 : i ∈ keys L0' := by simpa using h1
      have := callWr_has (tbl := tbl) (new := new) hb hro hi h2
      rw [rn_lt hi, e] at this
      exact hk this

theorem aCall_ok {P : Program} {f : FuncId} {env : List V} {n : Nat} {L : Hp} {ans : List Ans} {out : Out} {o : Oper} {c : Call} (ho : o.op = .call c) (hc : c.callee = .value (.func f))
    (h : aCall P f (c.args.toList.map (ev env)) n L ans = some out) (hC : out.C) : OutOK P o env n L out := by
  unfold aCall at h
  split at h
  · rename_i tbl args0 L0 v0 n0' L0' as
    split at h
    · rename_i hchk
      rw [frcV_eq, frc_eq] at h
      cases h
      simp only [Bool.and_eq_true] at hchk
      obtain ⟨⟨⟨⟨k1, k2⟩, k3⟩, k4⟩, k5⟩ := hchk
      obtain ⟨hf, hsc, hargs, ft⟩ := hC
      unfold fnOK at hf
      split at hf
      · rename_i fn hfn
        simp only [Bool.and_eq_true, Bool.not_eq_true'] at hf
        exact ⟨hsc.op k1 k2 ho hc hfn hf.1 hf.2 hargs ft (after_callWr k3 k4), Nat.le_add_right _ _⟩
      · cases hf
    · cases h
  · cases h

/-! ### a function without a body, by what it is known to yield; a pointer that is not nil -/
def XT (P : Program) (f : FuncId) (args : List V) (v : V) : Prop := ∀ (φ : Ph) (xs : List Value) (w : World), All2 (Vr φ) args xs → ∃ y, (callFunc f xs.toArray).run P w = .ok (.value y) w ∧ Vr φ v y
theorem XT.op {P : Program} {f : FuncId} {v : V} {o : Oper} {c : Call} {env : List V} {n : Nat} {L : Hp} (ho : o.op = .call c) (hc : c.callee = .value (.func f)) (h : XT P f (c.args.toList.map (ev env)) v) : OpL P o env n L v n L := by
  refine OpL.light fun φ a w hop _ => ?_
  have hxs : All2 (Vr φ) (c.args.toList.map (ev env)) (c.args.toList.map a.eval) := by
    have key : ∀ l : List Operand, (∀ x ∈ l, Vr φ (ev env x) (a.eval x)) → All2 (Vr φ) (l.map (ev env)) (l.map a.eval) := by
      intro l
      induction l with
      | nil => intro _; trivial
      | cons y t ih => intro hl; exact ⟨hl y (.head _), ih fun x hx => hl x (.tail _ hx)⟩
    refine key _ fun x hm => hop x ?_
    rw [ho]
    simp only [Op.operands, Call.operands, hc]
    simp at hm ⊢
    exact .inr hm
  obtain ⟨y, hy, hv⟩ := h φ _ w hxs
  refine ⟨y, ?_, hv⟩
  have e : (c.args.toList.map a.eval).toArray = c.args.map a.eval := by apply Array.ext'; simp
  rw [e] at hy
  simp only [execOp, ho, resolve, hc, Deferred.ofValue, Act.eval, invoke, Sem.run_bind, Sem.run_pure, Result.andThen_ok]
  simpa using hy
def aNil (n : Nat) (x : V) (ans : List Ans) : Option Out := match x with | .s (.ptr (some p)) => lt n (.s (.ptr (some p))) ans True | _ => none
theorem aNil_ok {P : Program} {env : List V} {n : Nat} {L : Hp} {x : Operand} {ans : List Ans} {out : Out} {o : Oper} (ho : o.op = .nilCheck x) (h : aNil n (ev env x) ans = some out) : OutOK P o env n L out := by
  unfold aNil at h
  split at h
  · rename_i p hx
    refine lt_ok h fun φ a w hop => ?_
    have g := hop x (by simp [ho, Op.operands])
    rw [hx] at g
    refine ⟨a.eval x, ?_, g⟩
    obtain ⟨i, q⟩ := p
    obtain ⟨b, _, hv⟩ := g
    simp only [execOp, ho, hv, Sem.run_pure]
  · cases h

/-! ### all operations -/
def aBuiltin (P : Program) (b : Builtin) (ts : Array TypeId) (n : Nat) (L : Hp) (args : List V) (ans : List Ans) : Option Out :=
  match b, args with
  | .len, [x] => match ts[0]? with | some t => (match aLen P t x with | some s => ofSO n (some (s, ans, True)) | none => none) | none => none
  | .min, [x, y] => ofSO n (aMinMax false x y ans)
  | .max, [x, y] => ofSO n (aMinMax true x y ans)
  | .copy, [x, y] => aCopy P ts n L (wkV x) (wkV y) ans
  | .append, [x, y] => match ans with | .keep :: as => aApp0 P ts n L x (wkV y) as | .eager :: as => aAppend P ts n L false x (wkV y) as | ans => aAppend P ts n L true x (wkV y) ans
  | _, _ => none

def aop (P : Program) (o : Oper) (env : List V) (n : Nat) (L : Hp) (ans : List Ans) : Option Out :=
  match o.op with
  | .move x => lt n (ev env x) ans True
  | .assign x => lt n (ev env x) ans True
  | .pick c a b =>
    match ev env c with
    | .s (.bool t) => match t with | true => lt n (ev env a) ans True | false => lt n (ev env b) ans True
    | _ => none
  | .binOp op t x y _ => ofSO n (aBin2 P op t (wkV (ev env x)) (wkV (ev env y)) ans)
  | .unOp op _ x => ofSO n (aUn op (ev env x) ans)
  | .convert src dst x =>
    match P.underlying src, P.underlying dst with
    | some (.slice _), some .string => aToStr P n L src dst (wkV (ev env x)) ans
    | some .string, some (.slice _) => aToBytes P n src dst (ev env x) ans
    | _, _ => ofSO n (aConvI P src dst (ev env x) ans)
  | .makeSlice t l c => aMake P n t (ev env l) (ev env c) ans
  | .slice t x lo hi mx =>
    match ans with
    | .win k h cs :: as => aWin P n L t (ev env x) (lo.map (ev env)) (hi.map (ev env)) (mx.map (ev env)) k h cs as
    | .wlz k h :: as => aWinL P n t (ev env x) (lo.map (ev env)) (hi.map (ev env)) (mx.map (ev env)) k h as
    | ans => aSlice P n t (wkV (ev env x)) (lo.map fun y => wkV (ev env y)) (hi.map fun y => wkV (ev env y)) (mx.map fun y => wkV (ev env y)) ans
  | .build t parts => aBuild P n t (partsOf env parts) ans
  | .buildSlice t len parts => aBuildSlice P n t len (partsOf env parts) ans
  | .field t x f => aFieldV P n t (ev env x) f ans
  | .extract x i => match aExt (ev env x) i with | some v => lt n v ans True | none => none
  | .load t a => aLoad P n L t (ev env a) ans
  | .store t a x =>
    match ans with
    | .stw cs cells :: as => aStoreW P n L t (ev env a) (ev env x) cs cells as
    | ans => aStore P n L t (ev env a) (ev env x) ans
  | .alloc t => aAlloc P n t ans
  | .box t x => aBox n t (ev env x) ans
  | .fieldAddr s x f => aField P n s (ev env x) f ans
  | .indexAddr t x ix => aIndexAddr P n t (wkV (ev env x)) (wkV (ev env ix)) ans
  | .index t x ix => aIndex P n t (ev env x) (ev env ix) ans
  | .nilCheck x => aNil n (ev env x) ans
  | .call c =>
    match c.callee with
    | .value (.func f) =>
      match ans with
      | .ext args0 v :: as => frcV v fun v => some ⟨⟨[], v, [], n⟩, as, c.args.toList.map (ev env) = args0 ∧ XT P f args0 v⟩
      | .callw tbl args0 L0 v0 n0' L0' :: as => aCall P f (c.args.toList.map fun y => wkV (ev env y)) n L (.call tbl args0 L0 v0 n0' L0' :: as)
      | ans => aCall P f (c.args.toList.map (ev env)) n L ans
    | .builtin b => aBuiltin P b c.argTypes n L (c.args.toList.map (ev env)) ans
    | _ => none
  | _ => none

theorem aBuiltin_ok {P : Program} {b : Builtin} {env : List V} {n : Nat} {L : Hp} {ans : List Ans} {out : Out} {o : Oper} {c : Call} (ho : o.op = .call c) (hc : c.callee = .builtin b)
    (h : aBuiltin P b c.argTypes n L (c.args.toList.map (ev env)) ans = some out) (hC : out.C) : OutOK P o env n L out := by
  have ops : ∀ x ∈ c.args.toList, x ∈ o.op.operands := fun x hx => by
    rw [ho]; simp only [Op.operands, Call.operands, hc]; simpa using hx
  unfold aBuiltin at h
  split at h
  · rename_i x hargs
    obtain ⟨x0, hx0, rfl⟩ : ∃ x0, c.args.toList = [x0] ∧ ev env x0 = x := by
      match hl : c.args.toList, hargs with
      | [x0], hargs => exact ⟨x0, rfl, by simpa [hl] using hargs⟩
    split at h
    · rename_i t ht
      split at h
      · rename_i s hs
        refine ofSO_ok h hC fun s' as C e _ φ a w hop => ?_
        cases e
        have g := hop x0 (ops x0 (by rw [hx0]; exact .head _))
        obtain ⟨y, hy, hr⟩ := aLen_ok (P := P) hs g (ty := o.type) ht w
        have ea : c.args.map a.eval = #[a.eval x0] := by apply Array.ext'; simp [hx0]
        exact ⟨y, by simp only [execOp, ho, resolve, hc, Sem.run_bind, Sem.run_pure, Result.andThen_ok, invoke, builtin, ea, hy], hr⟩
      · cases h
    · cases h
  · rename_i x y hargs
    obtain ⟨x0, y0, hx0, rfl, rfl⟩ : ∃ x0 y0, c.args.toList = [x0, y0] ∧ ev env x0 = x ∧ ev env y0 = y := by
      match hl : c.args.toList, hargs with
      | [x0, y0], hargs => exact ⟨x0, y0, rfl, by simpa [hl] using hargs⟩
    refine ofSO_ok h hC fun s' as C e hC φ a w hop => ?_
    have g1 := hop x0 (ops x0 (by rw [hx0]; exact .head _))
    have g2 := hop y0 (ops y0 (by rw [hx0]; exact .tail _ (.head _)))
    obtain ⟨v, hv, hr⟩ := aMin_ok (P := P) e hC g1 g2 (ts := c.argTypes) (ty := o.type) w
    have ea : c.args.map a.eval = #[a.eval x0, a.eval y0] := by apply Array.ext'; simp [hx0]
    exact ⟨v, by simp only [execOp, ho, resolve, hc, Sem.run_bind, Sem.run_pure, Result.andThen_ok, invoke, builtin, ea, hv], hr⟩
  · rename_i x y hargs
    obtain ⟨x0, y0, hx0, rfl, rfl⟩ : ∃ x0 y0, c.args.toList = [x0, y0] ∧ ev env x0 = x ∧ ev env y0 = y := by
      match hl : c.args.toList, hargs with
      | [x0, y0], hargs => exact ⟨x0, y0, rfl, by simpa [hl] using hargs⟩
    refine ofSO_ok h hC fun s' as C e hC φ a w hop => ?_
    have g1 := hop x0 (ops x0 (by rw [hx0]; exact .head _))
    have g2 := hop y0 (ops y0 (by rw [hx0]; exact .tail _ (.head _)))
    obtain ⟨v, hv, hr⟩ := aMax_ok (P := P) e hC g1 g2 (ts := c.argTypes) (ty := o.type) w
    have ea : c.args.map a.eval = #[a.eval x0, a.eval y0] := by apply Array.ext'; simp [hx0]
    exact ⟨v, by simp only [execOp, ho, resolve, hc, Sem.run_bind, Sem.run_pure, Result.andThen_ok, invoke, builtin, ea, hv], hr⟩
  · rename_i x y hargs
    obtain ⟨x0, y0, hx0, rfl, rfl⟩ : ∃ x0 y0, c.args.toList = [x0, y0] ∧ ev env x0 = x ∧ ev env y0 = y := by
      match hl : c.args.toList, hargs with
      | [x0, y0], hargs => exact ⟨x0, y0, rfl, by simpa [hl] using hargs⟩
    rw [← ev_wk, ← ev_wk] at h
    exact OutOK.wk (aCopy_ok ho hc hx0 h hC)
  · rename_i x y hargs
    obtain ⟨x0, y0, hx0, rfl, rfl⟩ : ∃ x0 y0, c.args.toList = [x0, y0] ∧ ev env x0 = x ∧ ev env y0 = y := by
      match hl : c.args.toList, hargs with
      | [x0, y0], hargs => exact ⟨x0, y0, rfl, by simpa [hl] using hargs⟩
    split at h
    · exact aApp0_ok ho hc hx0 h hC
    · exact aAppend_ok ho hc hx0 h hC
    · exact aAppend_ok ho hc hx0 h hC
  · cases h

theorem aop_ok {P : Program} {o : Oper} {env : List V} {n : Nat} {L : Hp} {ans : List Ans} {out : Out} (h : aop P o env n L ans = some out) (hC : out.C) : OutOK P o env n L out := by
  unfold aop at h
  split at h
  · rename_i x ho
    exact lt_ok h fun φ a w hop => ⟨_, by simp only [execOp, ho, Sem.run_pure], hop x (by simp [ho, Op.operands])⟩
  · rename_i x ho
    exact lt_ok h fun φ a w hop => ⟨_, by simp only [execOp, ho, Sem.run_pure], hop x (by simp [ho, Op.operands])⟩
  · rename_i c x y ho
    split at h
    · rename_i t hc
      split at h
      · exact lt_ok h fun φ a w hop => by
          have g := hop c (by simp [ho, Op.operands])
          rw [hc] at g; simp only [Vr, Sr] at g
          exact ⟨_, by simp only [execOp, ho, g, asBool, Sem.run_bind, Sem.run_pure, Result.andThen_ok, if_true], hop x (by simp [ho, Op.operands])⟩
      · exact lt_ok h fun φ a w hop => by
          have g := hop c (by simp [ho, Op.operands])
          rw [hc] at g; simp only [Vr, Sr] at g
          exact ⟨_, by simp only [execOp, ho, g, asBool, Sem.run_bind, Sem.run_pure, Result.andThen_ok, Bool.false_eq_true, if_false], hop y (by simp [ho, Op.operands])⟩
    · cases h
  · rename_i op t x y ty ho
    refine ofSO_ok h hC fun s as C e hC φ a w hop => ?_
    obtain ⟨v, hv, hr⟩ := aBin2_ok (P := P) (ox := x) (oy := y) e hC (wkV_r (hop x (by simp [ho, Op.operands]))) (wkV_r (hop y (by simp [ho, Op.operands]))) w
    exact ⟨v, by simp only [execOp, ho]; rw [Sem.run_bind, hv]; rfl, hr⟩
  · rename_i op t x ho
    refine ofSO_ok h hC fun s as C e hC φ a w hop => ?_
    obtain ⟨v, hv, hr⟩ := aUn_ok (P := P) e hC (hop x (by simp [ho, Op.operands])) w
    exact ⟨v, by simp only [execOp, ho]; rw [Sem.run_bind, hv]; rfl, hr⟩
  · rename_i src dst x ho
    split at h
    · rw [← ev_wk] at h; exact OutOK.wk (aToStr_ok ho h hC)
    · exact aToBytes_ok ho h
    · refine ofSO_ok h hC fun s as C e hC φ a w hop => ?_
      obtain ⟨v, hv, hr⟩ := aConvI_ok (P := P) e hC (hop x (by simp [ho, Op.operands])) w
      exact ⟨v, by simp only [execOp, ho]; rw [Sem.run_bind, hv]; rfl, hr⟩
  · rename_i t l c ho; exact aMake_ok ho h hC
  · rename_i t x lo hi mx ho
    split at h
    · exact aWin_ok ho h hC
    · exact aWinL_ok ho h hC
    · simp only [← ev_wk] at h
      exact OutOK.wk (aSlice_ok ho h hC)
  · rename_i t parts ho; exact aBuild_ok ho h
  · rename_i t len parts ho; exact aBuildSlice_ok ho h
  · rename_i t x f ho; exact aFieldV_ok ho h
  · rename_i x i ho
    split at h
    · rename_i v hv
      exact lt_ok h fun φ a w hop => by
        obtain ⟨y, hy, hr⟩ := aExt_ok (P := P) hv (hop x (by simp [ho, Op.operands])) w
        exact ⟨y, by simp only [execOp, ho]; rw [Sem.run_bind, hy]; rfl, hr⟩
    · cases h
  · rename_i t a ho; exact aLoad_ok ho h hC
  · rename_i t a x ho
    split at h
    · exact aStoreW_ok ho h hC
    · exact aStore_ok ho h hC
  · rename_i t ho; exact aAlloc_ok ho h
  · rename_i t x ho; exact aBox_ok ho h
  · rename_i s x f ho; exact aField_ok ho h
  · rename_i t x ix ho
    rw [← ev_wk, ← ev_wk] at h
    exact OutOK.wk (aIndexAddr_ok ho h hC)
  · rename_i t x ix ho; exact aIndex_ok ho h hC
  · rename_i x ho; exact aNil_ok ho h
  · rename_i c ho
    split at h
    · rename_i f hc
      split at h
      · rw [frcV_eq] at h
        cases h
        obtain ⟨e, hx⟩ := hC
        exact ⟨XT.op ho hc (e ▸ hx), Nat.le_refl _⟩
      · simp only [← ev_wk] at h
        exact OutOK.wk (aCall_ok ho hc h hC)
      · exact aCall_ok ho hc h hC
    · rename_i b hc; exact aBuiltin_ok ho hc h hC
    · cases h
  · cases h

/-! ### a region -/
def runOps (P : Program) (ops : Array Oper) : List Oper → List V → Nat → Hp → List Ans → Option (List Row × List V × Nat × Hp × List Ans × Prop)
  | [], env, n, L, ans => some ([], env, n, L, ans, True)
  | o :: os, env, n, L, ans =>
    match want ops env o with
    | some true =>
      match aop P o env n L ans with
      | some ⟨⟨foot, v, wr, n'⟩, as, C⟩ =>
        frc (setD env o.dst v) [] fun env' => frc (puts L wr) [] fun L' =>
          match runOps P ops os env' n' L' as with
          | some (rows, e, m, M, as', D) => some ((o, ⟨foot, v, wr, n'⟩) :: rows, e, m, M, as', C ∧ D)
          | none => none
      | none => none
    | some false =>
      frc (setD env o.dst .undef) [] fun env' =>
        match runOps P ops os env' n L ans with
        | some (rows, e, m, M, as', D) => some ((o, ⟨[], .undef, [], n⟩) :: rows, e, m, M, as', D)
        | none => none
    | none => none

theorem runOps_ok {P : Program} {ops : Array Oper} : ∀ (l : List Oper) (k : Nat) (env : List V) (n : Nat) (L : Hp) (ans : List Ans) (rows : List Row) (e : List V) (m : Nat) (M : Hp) (as : List Ans) (C : Prop),
    runOps P ops l env n L ans = some (rows, e, m, M, as, C) → C → RunOK P ops rows env n L ∧ rows.map (·.1) = l ∧ e = eD (fun _ => true) k rows env ∧ m = nAt rows n rows.length ∧ M = hD (fun _ => true) k rows L
  | [], k, env, n, L, ans, rows, e, m, M, as, C, h, _ => by
    simp only [runOps, Option.some.injEq, Prod.mk.injEq] at h
    obtain ⟨rfl, rfl, rfl, rfl, rfl, rfl⟩ := h
    exact ⟨trivial, rfl, rfl, rfl, rfl⟩
  | o :: os, k, env, n, L, ans, rows, e, m, M, as, C, h, hC => by
    simp only [runOps] at h
    split at h
    · rename_i hw
      split at h
      · rename_i foot v wr n' as1 C1 hop
        rw [frc_eq, frc_eq] at h
        split at h
        · rename_i rows' e' m' M' as' D hrec
          simp only [Option.some.injEq, Prod.mk.injEq] at h
          obtain ⟨rfl, rfl, rfl, rfl, rfl, rfl⟩ := h
          obtain ⟨g1, g2, g3, g4, g5⟩ := runOps_ok os (k + 1) _ _ _ _ _ _ _ _ _ _ hrec hC.2
          obtain ⟨q1, q2⟩ := aop_ok hop hC.1
          exact ⟨⟨.inl ⟨hw, q1, q2⟩, g1⟩, by simp [g2], g3, by simpa [nAt] using g4, g5⟩
        · cases h
      · cases h
    · rename_i hw
      rw [frc_eq] at h
      split at h
      · rename_i rows' e' m' M' as' D hrec
        simp only [Option.some.injEq, Prod.mk.injEq] at h
        obtain ⟨rfl, rfl, rfl, rfl, rfl, rfl⟩ := h
        obtain ⟨g1, g2, g3, g4, g5⟩ := runOps_ok os (k + 1) _ _ _ _ _ _ _ _ _ _ hrec hC
        exact ⟨⟨.inr ⟨hw, rfl, rfl, rfl⟩, g1⟩, by simp [g2], g3, by simpa [nAt] using g4, g5⟩
      · cases h
    · cases h

/-! ### a region whose guards are not decided -/
abbrev Gs := List (Nat × Option Bool)
/-- the guard that a slot is under -/
def gFind : Gs → Nat → Option Bool
  | [], _ => none
  | (j, c) :: t, i => match Nat.beq j i with | true => c | false => gFind t i
def gSet (gs : Gs) (d : Option Tmp) (c : Option Bool) : Gs := match d with | some t => (t, c) :: gs | none => gs
def gBad (gs : Gs) (t : Nat) : Prop := gFind gs t = some false
def ndL (gs : Gs) : List Operand → List Bool
  | [] => []
  | .tmp t :: r => match gFind gs t with | some c => c :: ndL gs r | none => ndL gs r
  | _ :: r => ndL gs r
def allT : List Bool → Prop → Prop
  | [], C => C
  | c :: t, C => c = true ∧ allT t C
def mkC {β : Type} : List Bool → Prop → (Prop → β) → β
  | [], C, k => k C
  | c :: t, C, k => mkC t (c = true ∧ C) k
theorem mkC_eq {β : Type} (k : Prop → β) : ∀ (l : List Bool) (C : Prop), ∃ D, mkC l C k = k D ∧ (D → C ∧ ∀ c ∈ l, c = true)
  | [], C => ⟨C, rfl, fun h => ⟨h, fun _ h => by simp at h⟩⟩
  | c :: t, C => by
    obtain ⟨D, h1, h2⟩ := mkC_eq k t (c = true ∧ C)
    refine ⟨D, h1, fun h => ?_⟩
    obtain ⟨⟨g1, g2⟩, g3⟩ := h2 h
    exact ⟨g2, fun x hx => by rcases List.mem_cons.1 hx with rfl | hx; exact g1; exact g3 x hx⟩
/-- an operand that is there -/
def opG (gs : Gs) : Operand → Prop
  | .tmp t => ¬ gBad gs t
  | _ => True
theorem ndL_at {gs : Gs} : ∀ {l : List Operand} {x : Operand}, (∀ c ∈ ndL gs l, c = true) → x ∈ l → opG gs x
  | y :: l, x, h, hm => by
    have ht : ∀ c ∈ ndL gs l, c = true := by
      intro c hc
      refine h c ?_
      unfold ndL
      split
      · rename_i he; cases he
      · rename_i he; cases he
        split
        · exact .tail _ hc
        · exact hc
      · rename_i he; cases he; exact hc
    rcases List.mem_cons.1 hm with rfl | hm
    · cases x with
      | tmp t =>
        intro hb
        have := h false (by unfold ndL; rw [show gFind gs t = some false from hb]; exact .head _)
        cases this
      | _ => trivial
    · exact ndL_at ht hm

def guardL (ops : Array Oper) (env : List V) (gs : Gs) (o : Oper) : Option (Option Bool) :=
  match o.guard with
  | none => some none
  | some (j, b) =>
    match (ops[j]?).bind (·.dst) with
    | none => none
    | some t =>
      match env.getD t .undef with
      | .s (.bool c) =>
        match gFind gs t with
        | some g => match b with | true => some (some (g && c)) | false => some (some (g && !c))
        | none => match b with | true => some (some c) | false => some (some (!c))
      | _ => none

def pickV (t : Bool) (a b : Operand) (x y : V) : Option V :=
  match x, y with
  | .s (.bool p), .s (.bool q) =>
    match a, b with
    | .const (.bool true), _ => some (.s (.bool (t || q)))
    | _, .const (.bool false) => some (.s (.bool (t && p)))
    | _, _ => some (.s (.bool (match t with | true => p | false => q)))
  | .s (.int k p), .s (.int k' q) => match kEq k k' with | true => some (.s (.int k (match t with | true => p | false => q))) | false => none
  | _, _ => none

def aopL (P : Program) (o : Oper) (env : List V) (gs : Gs) (n : Nat) (L : Hp) (ans : List Ans) : Option Out :=
  match o.op with
  | .pick c a b =>
    match ev env c with
    | .s (.bool t) =>
      match pickV t a b (ev env a) (ev env b) with
      | some v =>
        frc (ndL gs [c]) [] fun lc => frc (ndL gs [a]) [] fun la => frc (ndL gs [b]) [] fun lb =>
          mkC la True fun A => mkC lb True fun B => mkC lc ((t = true → A) ∧ (t = false → B)) fun C => some ⟨⟨[], v, [], n⟩, ans, C⟩
      | none => none
    | _ => none
  | _ => match aop P o env n L ans with | some ⟨r, as, C⟩ => frc (ndL gs o.op.operands.toList) [] fun l => mkC l C fun C => some ⟨r, as, C⟩ | none => none

/-- what is known (envS), the guards (gs), what is so (envA) -/
def LR (envS : List V) (gs : Gs) (envA : List V) : Prop := envA.length = envS.length ∧ ∀ t, envA.getD t .undef = match gFind gs t with | some false => .undef | _ => envS.getD t .undef

theorem LR.ev {envS : List V} {gs : Gs} {envA : List V} (h : LR envS gs envA) {x : Operand} (hx : opG gs x) : ev envA x = ev envS x := by
  cases x with
  | tmp t =>
    have := h.2 t
    split at this
    · rename_i e; exact absurd e hx
    · exact this
  | _ => rfl
theorem getD_setD (env : List V) (d t : Nat) (v : V) (hd : d < env.length) : (env.set d v).getD t .undef = if d = t then v else env.getD t .undef := by
  simp only [List.getD_eq_getElem?_getD, List.getElem?_set]
  by_cases h : d = t
  · subst h; simp [hd]
  · simp [h]
theorem gFind_cons (j : Nat) (c : Option Bool) (gs : Gs) (i : Nat) : gFind ((j, c) :: gs) i = if j = i then c else gFind gs i := by
  simp only [gFind]
  by_cases h : j = i
  · simp [h]
  · simp [h, beq_no h]
theorem LR.set {envS : List V} {gs : Gs} {envA : List V} (h : LR envS gs envA) (d : Option Tmp) (c : Option Bool) (v : V) {u : V} (hu : u = match c with | some false => .undef | _ => v) : LR (setD envS d v) (gSet gs d c) (setD envA d u) := by
  subst hu
  cases d with
  | none => exact h
  | some d =>
    refine ⟨by simp [setD, h.1], fun t => ?_⟩
    simp only [setD, gSet]
    rw [gFind_cons]
    by_cases hd : d < envS.length
    · rw [getD_setD _ _ _ _ (by rw [h.1]; exact hd), getD_setD _ _ _ _ hd]
      by_cases e : d = t
      · simp only [if_pos e]
      · simp only [if_neg e]; exact h.2 t
    · have hd := Nat.not_lt.1 hd
      have e1 : envA.set d (match c with | some false => .undef | _ => v) = envA := List.set_eq_of_length_le (by rw [h.1]; exact hd)
      have e2 : envS.set d v = envS := List.set_eq_of_length_le hd
      rw [e1, e2]
      by_cases e : d = t
      · subst e
        have n1 : envA.getD d .undef = .undef := by simp [List.getD_eq_getElem?_getD, List.getElem?_eq_none (show envA.length ≤ d by rw [h.1]; exact hd)]
        have n2 : envS.getD d .undef = .undef := by simp [List.getD_eq_getElem?_getD, List.getElem?_eq_none hd]
        rw [n1, n2]; split <;> rfl
      · simp only [if_neg e]; exact h.2 t

theorem pickV_r {φ : Ph} {t : Bool} {a b : Operand} {env : List V} {v : V} {act : Act} (h : pickV t a b (ev env a) (ev env b) = some v) :
    (t = true → ∀ y, Vr φ (ev env a) y → Vr φ v y) ∧ (t = false → ∀ y, Vr φ (ev env b) y → Vr φ v y) := by
  unfold pickV at h
  split at h
  · rename_i p q ha hb
    rw [ha, hb]
    split at h
    · cases h
      have hp : p = true := by simp [ev, ofConst] at ha; exact ha
      subst hp
      constructor
      · intro e y hy; subst e; exact hy
      · intro e y hy; subst e; exact hy
    · cases h
      have hq : q = false := by simp [ev, ofConst] at hb; exact hb
      subst hq
      constructor
      · intro e y hy; subst e; exact hy
      · intro e y hy; subst e; exact hy
    · cases h
      constructor
      · intro e y hy; subst e; exact hy
      · intro e y hy; subst e; exact hy
  · rename_i k p k' q ha hb
    rw [ha, hb]
    split at h
    · rename_i hk
      have := kEq_eq hk; subst this
      cases h
      constructor
      · intro e y hy; subst e; exact hy
      · intro e y hy; subst e; exact hy
    · cases h
  · cases h

theorem aopL_ok {P : Program} {o : Oper} {envS envA : List V} {gs : Gs} {n : Nat} {L : Hp} {ans : List Ans} {out : Out} (hl : LR envS gs envA) (h : aopL P o envS gs n L ans = some out) (hC : out.C) : OutOK P o envA n L out := by
  unfold aopL at h
  split at h
  · rename_i c a b ho
    split at h
    · rename_i t hc
      split at h
      · rename_i v hv
        rw [frc_eq, frc_eq, frc_eq] at h
        obtain ⟨A, eA, hA⟩ := mkC_eq (fun A => mkC (ndL gs [b]) True fun B => mkC (ndL gs [c]) ((t = true → A) ∧ (t = false → B)) fun C => some (⟨⟨[], v, [], n⟩, ans, C⟩ : Out)) (ndL gs [a]) True
        rw [eA] at h
        obtain ⟨B, eB, hB⟩ := mkC_eq (fun B => mkC (ndL gs [c]) ((t = true → A) ∧ (t = false → B)) fun C => some (⟨⟨[], v, [], n⟩, ans, C⟩ : Out)) (ndL gs [b]) True
        rw [eB] at h
        obtain ⟨D, eD, hD⟩ := mkC_eq (fun C => some (⟨⟨[], v, [], n⟩, ans, C⟩ : Out)) (ndL gs [c]) ((t = true → A) ∧ (t = false → B))
        rw [eD] at h
        cases h
        obtain ⟨⟨hA', hB'⟩, hc'⟩ := hD hC
        have g1 : opG gs c := ndL_at hc' (.head _)
        have g2 : t = true → opG gs a := fun e => ndL_at (hA (hA' e)).2 (.head _)
        have g3 : t = false → opG gs b := fun e => ndL_at (hB (hB' e)).2 (.head _)
        refine ⟨OpL.light fun φ act w hop _ => ?_, Nat.le_refl _⟩
        have k1 := hop c (by simp [ho, Op.operands])
        rw [hl.ev g1, hc] at k1
        simp only [Vr, Sr] at k1
        have hp := pickV_r (φ := φ) (act := act) hv
        cases t with
        | true =>
          have k2 := hop a (by simp [ho, Op.operands])
          rw [hl.ev (g2 rfl)] at k2
          exact ⟨_, by simp only [execOp, ho, k1, asBool, Sem.run_bind, Sem.run_pure, Result.andThen_ok, if_true], hp.1 rfl _ k2⟩
        | false =>
          have k2 := hop b (by simp [ho, Op.operands])
          rw [hl.ev (g3 rfl)] at k2
          exact ⟨_, by simp only [execOp, ho, k1, asBool, Sem.run_bind, Sem.run_pure, Result.andThen_ok, Bool.false_eq_true, if_false], hp.2 rfl _ k2⟩
      · cases h
    · cases h
  · split at h
    · rename_i r as C hop
      rw [frc_eq] at h
      obtain ⟨D, eD, hD⟩ := mkC_eq (fun C => some (⟨r, as, C⟩ : Out)) (ndL gs o.op.operands.toList) C
      rw [eD] at h
      cases h
      obtain ⟨hC1, hC2⟩ := hD hC
      obtain ⟨q1, q2⟩ := aop_ok hop hC1
      exact ⟨q1.env fun x hx φ y hy => by rw [← hl.ev (ndL_at hC2 (Array.mem_toList_iff.2 hx))]; exact hy, q2⟩
    · cases h

def runLazy (P : Program) (ops : Array Oper) : List Oper → List V → Gs → Nat → Hp → List Ans → Option (List Row × List V × Gs × Nat × Hp × List Ans × Prop)
  | [], env, gs, n, L, ans => some ([], env, gs, n, L, ans, True)
  | o :: os, env, gs, n, L, ans =>
    match guardL ops env gs o with
    | some none =>
      match aopL P o env gs n L ans with
      | some ⟨⟨foot, v, wr, n'⟩, as, C⟩ =>
        frc (setD env o.dst v) [] fun env' => frc (puts L wr) [] fun L' =>
          match runLazy P ops os env' (gSet gs o.dst none) n' L' as with
          | some (rows, e, g, m, M, as', D) => some ((o, ⟨foot, v, wr, n'⟩) :: rows, e, g, m, M, as', C ∧ D)
          | none => none
      | none => none
    | some (some c) =>
      match aopL P o env gs n L ans with
      | some ⟨⟨foot, v, [], n'⟩, as, C⟩ =>
        match Nat.beq n' n with
        | true =>
          frc (setD env o.dst v) [] fun env' =>
            match runLazy P ops os env' (gSet gs o.dst (some c)) n L as with
            | some (rows, e, g, m, M, as', D) => some ((o, ⟨foot, match c with | true => v | false => .undef, [], n⟩) :: rows, e, g, m, M, as', (c = true → C) ∧ D)
            | none => none
        | false => none
      | _ => none
    | none => none

theorem guardL_want {ops : Array Oper} {envS envA : List V} {gs : Gs} {o : Oper} {c : Bool} (hl : LR envS gs envA) (h : guardL ops envS gs o = some (some c)) : want ops envA o = some c := by
  unfold guardL at h
  unfold want
  split at h
  · cases h
  · rename_i j b hg
    simp only [hg]
    split at h
    · cases h
    · rename_i t ht
      simp only [ht]
      split at h
      · rename_i d hd
        have hs := hl.2 t
        rw [hd] at hs
        split at h
        · rename_i g hi
          rw [hi] at hs
          cases g with
          | true =>
            simp only at hs
            rw [hs]
            split at h
            · simp only [Option.some.injEq] at h; subst h; cases d <;> rfl
            · simp only [Option.some.injEq] at h; subst h; cases d <;> rfl
          | false =>
            simp only at hs
            rw [hs]
            split at h
            · simp only [Option.some.injEq, Bool.false_and] at h; subst h; rfl
            · simp only [Option.some.injEq, Bool.false_and] at h; subst h; rfl
        · rename_i hi
          rw [hi] at hs
          simp only at hs
          rw [hs]
          split at h
          · simp only [Option.some.injEq] at h; subst h; cases d <;> rfl
          · simp only [Option.some.injEq] at h; subst h; cases d <;> rfl
      · cases h
theorem guardL_none {ops : Array Oper} {envS envA : List V} {gs : Gs} {o : Oper} (h : guardL ops envS gs o = some none) : want ops envA o = some true := by
  unfold guardL at h
  unfold want
  split at h
  · rename_i hg; simp only [hg]
  · split at h
    · cases h
    · split at h
      · split at h <;> split at h <;> cases h
      · cases h

theorem runLazy_ok {P : Program} {ops : Array Oper} : ∀ (l : List Oper) (k : Nat) (envS envA : List V) (gs : Gs) (n : Nat) (L : Hp) (ans : List Ans) (rows : List Row) (e : List V) (g : Gs) (m : Nat) (M : Hp) (as : List Ans) (C : Prop), LR envS gs envA →
    runLazy P ops l envS gs n L ans = some (rows, e, g, m, M, as, C) → C → RunOK P ops rows envA n L ∧ rows.map (·.1) = l ∧ LR e g (eD (fun _ => true) k rows envA) ∧ m = nAt rows n rows.length ∧ M = hD (fun _ => true) k rows L
  | [], k, envS, envA, gs, n, L, ans, rows, e, g, m, M, as, C, hl, h, _ => by
    simp only [runLazy, Option.some.injEq, Prod.mk.injEq] at h
    obtain ⟨rfl, rfl, rfl, rfl, rfl, rfl, rfl⟩ := h
    exact ⟨trivial, rfl, hl, rfl, rfl⟩
  | o :: os, k, envS, envA, gs, n, L, ans, rows, e, g, m, M, as, C, hl, h, hC => by
    simp only [runLazy] at h
    split at h
    · rename_i hgd
      split at h
      · rename_i foot v wr n' as1 C1 hop
        rw [frc_eq, frc_eq] at h
        split at h
        · rename_i rows' e' g' m' M' as' D hrec
          simp only [Option.some.injEq, Prod.mk.injEq] at h
          obtain ⟨rfl, rfl, rfl, rfl, rfl, rfl, rfl⟩ := h
          obtain ⟨g1, g2, g3, g4, g5⟩ := runLazy_ok os (k + 1) _ (setD envA o.dst v) _ _ _ _ _ _ _ _ _ _ _ (hl.set o.dst none v rfl) hrec hC.2
          obtain ⟨q1, q2⟩ := aopL_ok hl hop hC.1
          exact ⟨⟨.inl ⟨guardL_none hgd, q1, q2⟩, g1⟩, by simp [g2], g3, by simpa [nAt] using g4, g5⟩
        · cases h
      · cases h
    · rename_i c hgd
      have hw := guardL_want hl hgd
      split at h
      · rename_i foot v n' as1 C1 hop
        split at h
        · rename_i hnn
          have hnn := Nat.eq_of_beq_eq_true hnn
          subst hnn
          rw [frc_eq] at h
          split at h
          · rename_i rows' e' g' m' M' as' D hrec
            simp only [Option.some.injEq, Prod.mk.injEq] at h
            obtain ⟨rfl, rfl, rfl, rfl, rfl, rfl, rfl⟩ := h
            cases c with
            | true =>
              obtain ⟨g1, g2, g3, g4, g5⟩ := runLazy_ok os (k + 1) _ (setD envA o.dst v) _ _ _ _ _ _ _ _ _ _ _ (hl.set o.dst (some true) v rfl) hrec hC.2
              obtain ⟨q1, q2⟩ := aopL_ok hl hop (hC.1 rfl)
              exact ⟨⟨.inl ⟨hw, q1, q2⟩, g1⟩, by simp [g2], g3, by simpa [nAt] using g4, g5⟩
            | false =>
              obtain ⟨g1, g2, g3, g4, g5⟩ := runLazy_ok os (k + 1) _ (setD envA o.dst .undef) _ _ _ _ _ _ _ _ _ _ _ (hl.set o.dst (some false) v rfl) hrec hC.2
              exact ⟨⟨.inr ⟨hw, rfl, rfl, rfl⟩, g1⟩, by simp [g2], g3, by simpa [nAt] using g4, g5⟩
          · cases h
        · cases h
      · cases h
    · cases h

/-- what is under a guard is forgotten -/
def maskE (gs : Gs) : Nat → List V → List V
  | _, [] => []
  | i, v :: t => (match gFind gs i with | some _ => .any | none => v) :: maskE gs (i + 1) t
theorem maskE_r {φ : Ph} {gs : Gs} : ∀ {e eA : List V} {i : Nat} {xs : List Value}, eA.length = e.length → (∀ t, gFind gs (i + t) = none → eA.getD t .undef = e.getD t .undef) → All2 (Vr φ) eA xs → All2 (Vr φ) (maskE gs i e) xs
  | [], [], _, [], _, _, _ => trivial
  | [], [], _, _ :: _, _, _, h => h.elim
  | v :: e, u :: eA, i, x :: xs, hl, hg, h => by
    simp only [maskE]
    refine ⟨?_, maskE_r (by simpa using hl) (fun t ht => by have := hg (t + 1) (by rw [← ht]; congr 1; omega); simpa using this) h.2⟩
    split
    · trivial
    · rename_i hi
      have := hg 0 hi
      simp at this; subst this; exact h.1
  | v :: e, u :: eA, i, [], _, _, h => h.elim
  | [], _ :: _, _, _, hl, _, _ => by simp at hl
  | _ :: _, [], _, _, hl, _, _ => by simp at hl
theorem LR.mask {e eA : List V} {g : Gs} (h : LR e g eA) {φ : Ph} {xs : List Value} (ha : All2 (Vr φ) eA xs) : All2 (Vr φ) (maskE g 0 e) xs :=
  maskE_r h.1 (fun t ht => by have := h.2 t; rw [Nat.zero_add] at ht; rw [ht] at this; exact this) ha

/-- what some bools come to -/
def setB : List V → List (Nat × Bool) → Option (List V × Prop)
  | e, [] => some (e, True)
  | e, (s, d) :: t =>
    match e.getD s .undef with
    | .s (.bool x) => frc (e.set s (.s (.bool d))) [] fun e1 => (match setB e1 t with | some (e', D) => some (e', x = d ∧ D) | none => none)
    | _ => none
theorem setB_eq : ∀ {fin : List (Nat × Bool)} {e e' : List V} {D : Prop}, setB e fin = some (e', D) → D → e' = e
  | [], e, e', D, h, _ => by simp only [setB, Option.some.injEq, Prod.mk.injEq] at h; exact h.1.symm
  | (s, d) :: t, e, e', D, h, hD => by
    simp only [setB] at h
    split at h
    · rename_i x hx
      rw [frc_eq] at h
      split at h
      · rename_i e2 D2 h2
        simp only [Option.some.injEq, Prod.mk.injEq] at h
        obtain ⟨rfl, rfl⟩ := h
        obtain ⟨rfl, hD2⟩ := hD
        rw [setB_eq h2 hD2]
        apply List.ext_getElem?
        intro i
        rw [List.getElem?_set]
        by_cases hi : s = i
        · subst hi
          by_cases hl : s < e.length
          · rw [if_pos rfl, if_pos hl, List.getElem?_eq_getElem hl]
            rw [List.getD_eq_getElem?_getD, List.getElem?_eq_getElem hl] at hx
            simp only [Option.getD_some] at hx
            rw [hx]
          · rw [if_pos rfl, if_neg hl, List.getElem?_eq_none (by omega)]
        · rw [if_neg hi]
      · cases h
    · cases h

/-! ### is the region fit to be drawn? -/
def maskOf (acc : List Nat) (o : Oper) : Nat := o.after.toList.foldl (fun s e => match Region.binds .any e with | true => s ||| (2 ^ e.on ||| acc.getD e.on 0) | false => s) 0
def masks : List Oper → List Nat → List Nat
  | [], acc => acc
  | o :: t, acc => masks t (acc ++ [maskOf acc o])
def disj (a b : List Nat) : Bool := a.all fun x => !b.elem x
def confB (ops : Array Oper) (x y : Row) : Bool :=
  !(disj x.1.dst.toList (y.1.dst.toList ++ looks ops y.1) && disj y.1.dst.toList (looks ops x.1) && disj (keys x.2.wr) (keys y.2.wr ++ y.2.foot) && disj (keys y.2.wr) x.2.foot)
def regB (ops : Array Oper) (rows : List Row) : Bool :=
  let ms := masks ops.toList []
  (ops.toList.zipIdx.all fun (o, i) => o.after.toList.all fun e => !Region.binds .any e || Nat.blt e.on i) &&
  rows.zipIdx.all fun (y, j) => rows.zipIdx.all fun (x, i) => !Nat.blt i j || !confB ops x y || (ms.getD j 0).testBit i

theorem maskOf_bit {ops : Array Oper} {D : Nat → Bool} {acc : List Nat} {o : Oper} {i : Nat} (hacc : ∀ k, k < acc.length → ∀ i, (acc.getD k 0).testBit i = true → D k = true → D i = true) (hlen : ∀ e ∈ o.after.toList, Region.binds .any e = true → e.on < acc.length)
    (hD : ∀ e ∈ o.after.toList, Region.binds .any e = true → D e.on = true) (h : (maskOf acc o).testBit i = true) : D i = true := by
  have key : ∀ (l : List Edge) (s : Nat), (∀ e ∈ l, e ∈ o.after.toList) → (s.testBit i = true → D i = true) →
      ((l.foldl (fun s e => match Region.binds .any e with | true => s ||| (2 ^ e.on ||| acc.getD e.on 0) | false => s) s).testBit i = true → D i = true) := by
    intro l
    induction l with
    | nil => intro s _ hs; exact hs
    | cons e t ih =>
      intro s hm hs
      simp only [List.foldl_cons]
      refine ih _ (fun e' he' => hm e' (.tail _ he')) ?_
      cases hb : Region.binds .any e with
      | false => exact hs
      | true =>
        intro hbit
        simp only [Nat.testBit_or, Bool.or_eq_true, Nat.testBit_two_pow, decide_eq_true_eq] at hbit
        rcases hbit with h | rfl | h
        · exact hs h
        · exact hD e (hm e (.head _)) hb
        · exact hacc _ (hlen e (hm e (.head _)) hb) i h (hD e (hm e (.head _)) hb)
  exact key _ 0 (fun _ h => h) (by simp) h

theorem masks_ok {ops : Array Oper} {D : Nat → Bool} (hc : Closed ops D) (down : ∀ (i : Nat) o, ops[i]? = some o → ∀ e ∈ o.after.toList, Region.binds .any e = true → e.on < i) :
    ∀ (l : List Oper) (acc : List Nat), (∀ j, ops[acc.length + j]? = l[j]?) → (∀ k, k < acc.length → ∀ i, (acc.getD k 0).testBit i = true → D k = true → D i = true) →
      ∀ k, k < (masks l acc).length → ∀ i, ((masks l acc).getD k 0).testBit i = true → D k = true → D i = true
  | [], acc, _, h => h
  | o :: t, acc, ho, h => by
    simp only [masks]
    have hmem : ops[acc.length]? = some o := by simpa using ho 0
    refine masks_ok hc down t (acc ++ [maskOf acc o]) (fun j => by
      have := ho (j + 1)
      simp only [List.length_append, List.length_cons, List.length_nil, Nat.zero_add]
      rw [show acc.length + 1 + j = acc.length + (j + 1) by omega, this]; simp) ?_
    intro k hk i hbit hDk
    simp only [List.length_append, List.length_cons, List.length_nil, Nat.zero_add] at hk
    rcases Nat.lt_or_ge k acc.length with hlt | hge
    · refine h k hlt i ?_ hDk
      rwa [List.getD_eq_getElem?_getD, List.getElem?_append_left hlt, ← List.getD_eq_getElem?_getD] at hbit
    · obtain rfl : k = acc.length := by omega
      have e : (acc ++ [maskOf acc o]).getD acc.length 0 = maskOf acc o := by simp [List.getD_eq_getElem?_getD]
      rw [e] at hbit
      exact maskOf_bit (ops := ops) h (fun e he hb => down _ _ hmem e he hb) (fun e he hb => hc _ _ hmem hDk e he hb) hbit

theorem masks_length : ∀ (l : List Oper) (acc : List Nat), (masks l acc).length = acc.length + l.length
  | [], acc => by simp [masks]
  | o :: t, acc => by simp only [masks]; rw [masks_length t]; simp; omega

theorem disj_no {a b : List Nat} {x : Nat} (h : disj a b = true) (ha : x ∈ a) (hb : x ∈ b) : False := by
  have := List.all_eq_true.1 h x ha
  simp [hb] at this

theorem regB_ok {ops : Array Oper} {rows : List Row} (hops : rows.map (·.1) = ops.toList) (h : regB ops rows = true) : RegOK ops rows := by
  unfold regB at h
  simp only [Bool.and_eq_true] at h
  obtain ⟨h1, h2⟩ := h
  have down : ∀ (i : Nat) o, ops[i]? = some o → ∀ e ∈ o.after.toList, Region.binds .any e = true → e.on < i := by
    intro i o hi e he hb
    have := List.all_eq_true.1 h1 (o, i) (List.mem_zipIdx_iff_getElem?.2 (by simpa using hi))
    have := List.all_eq_true.1 this e he
    simp only [hb, Bool.not_true, Bool.false_or] at this
    exact blt_iff.1 this
  have hlen : rows.length = ops.size := by rw [← Array.length_toList, ← hops, List.length_map]
  have bef : ∀ (i j : Nat) (x y : Row), i < j → rows[i]? = some x → rows[j]? = some y → confB ops x y = true → Bef ops i j := by
    intro i j x y hij hi hj hcf D hc hD
    have g1 := List.all_eq_true.1 h2 (y, j) (List.mem_zipIdx_iff_getElem?.2 hj)
    have g2 := List.all_eq_true.1 g1 (x, i) (List.mem_zipIdx_iff_getElem?.2 hi)
    simp only [blt_iff.2 hij, hcf, Bool.not_true, Bool.false_or] at g2
    have hjl : j < rows.length := by
      rcases Nat.lt_or_ge j rows.length with h | h
      · exact h
      · simp [List.getElem?_eq_none h] at hj
    exact masks_ok hc down ops.toList [] (fun j => by simp) (fun k hk => by simp at hk) j (by rw [masks_length]; simp; omega) i g2 hD
  refine ⟨hops, down, ?_, ?_⟩
  · intro i j oi ri oj rj t hij hi hj hcase
    refine bef i j _ _ hij hi hj ?_
    unfold confB
    cases hcf : (disj oi.dst.toList (oj.dst.toList ++ looks ops oj) && disj oj.dst.toList (looks ops oi) && disj (keys ri.wr) (keys rj.wr ++ rj.foot) && disj (keys rj.wr) ri.foot) with
    | false => rfl
    | true =>
      exfalso
      simp only [Bool.and_eq_true] at hcf
      obtain ⟨⟨⟨c1, c2⟩, c3⟩, c4⟩ := hcf
      rcases hcase with ⟨e1, e2 | e2⟩ | ⟨e1, e2⟩
      · exact disj_no c1 (x := t) (by simp [e1]) (by simp [e2])
      · exact disj_no c1 (x := t) (by simp [e1]) (by simp [e2])
      · exact disj_no c2 (x := t) (by simp [e1]) e2
  · intro i j oi ri oj rj t hij hi hj hcase
    refine bef i j _ _ hij hi hj ?_
    unfold confB
    cases hcf : (disj oi.dst.toList (oj.dst.toList ++ looks ops oj) && disj oj.dst.toList (looks ops oi) && disj (keys ri.wr) (keys rj.wr ++ rj.foot) && disj (keys rj.wr) ri.foot) with
    | false => rfl
    | true =>
      exfalso
      simp only [Bool.and_eq_true] at hcf
      obtain ⟨⟨⟨c1, c2⟩, c3⟩, c4⟩ := hcf
      rcases hcase with ⟨e1, e2 | e2⟩ | ⟨e1, e2⟩
      · exact disj_no c3 e1 (by simp [e2])
      · exact disj_no c3 e1 (by simp [e2])
      · exact disj_no c4 e1 e2

/-! ### code -/
def One (x : Exit) (e : List V) (m : Nat) (M : Hp) : Post := fun x' e' m' M' => x' = x ∧ e' = e ∧ m' = m ∧ M' = M

/-- From (env, L) on one may go on as if in (env', L'), numbers from n on being free; those below b are as they were. -/
def To (b n : Nat) (env : List V) (L : Hp) (env' : List V) (L' : Hp) : Prop :=
  ∀ (φ₀ φ : Ph) (L₀ : Hp) (w₀ w : World) (a : Act), EnvR φ env a → Good φ L w → Stp φ₀ L₀ w₀ φ L w →
    ∃ φ' : Ph, EnvR φ' env' a ∧ Good φ' L' w ∧ (∀ i, n ≤ i → φ' i = none) ∧ Stp φ₀ L₀ w₀ φ' L' w ∧ (∀ i, i < b → φ' i = φ i)
theorem Wk.to {b n : Nat} {env : List V} {L : Hp} {env' : List V} {L' : Hp} (hb : b ≤ n) (h : Wk n env L env' L') : To b n env L env' L' := by
  intro φ₀ φ L₀ w₀ w a h1 h2 h3
  obtain ⟨g1, g2, g3, g4, g5⟩ := h.use h1 h2 h3
  exact ⟨_, g1, g2, g3, g4, fun i hi => g5 i (by omega)⟩
theorem Ex.to {P : Program} {b : Nat} {c : Code} {env : List V} {n : Nat} {L : Hp} {x : Exit} {e : List V} {m : Nat} {M : Hp} {e' : List V} {m' : Nat} {M' : Hp} (h : Ex P b c env n L (One x e m M)) (hb : b ≤ m') (ht : To b m' e M e' M') : Ex P b c env n L (One x e' m' M') := by
  intro φ a w h1 h2 h3 h4
  refine wp_mono (h φ a w h1 h2 h3 h4) ?_
  rintro x' a' w' ⟨φ', e1, m1, M1, ⟨rfl, rfl, rfl, rfl⟩, k1, k2, k3, k4, k5, k6⟩
  obtain ⟨φ2, g1, g2, g3, g4, g5⟩ := ht φ φ' L w w' a' k1 k2 k5
  exact ⟨φ2, _, _, _, ⟨rfl, rfl, rfl, rfl⟩, g1, g2, g3, hb, g4, fun i hi => (g5 i hi).trans (k6 i hi)⟩

abbrev CO := Option (Exit × List V × Nat × Hp × List Ans × Prop)

def runC (P : Program) (b : Nat) : Code → List V → Nat → Hp → List Ans → CO
  | .skip, env, n, L, ans => some (.normal, env, n, L, ans, True)
  | .ret, env, n, L, ans => some (.ret, env, n, L, ans, True)
  | .exit id, env, n, L, ans => some (.exit id, env, n, L, ans, True)
  | .seq x y, env, n, L, ans =>
    match runC P b x env n L ans with
    | some (.normal, e, m, M, as, C) => match runC P b y e m M as with | some (z, e', m', M', as', D) => some (z, e', m', M', as', C ∧ D) | none => none
    | r => r
  | .cond c x y, env, n, L, ans =>
    match ev env c with
    | .s (.bool t) =>
      match ans with
      | .join as1 as2 z e m M :: as =>
        match runC P b x env n L as1, runC P b y env n L as2 with
        | some (z1, e1, m1, M1, _, C1), some (z2, e2, m2, M2, _, C2) => some (z, e, m, M, as, b ≤ m ∧ (t = true → z1 = z ∧ To b m e1 M1 e M ∧ C1) ∧ (t = false → z2 = z ∧ To b m e2 M2 e M ∧ C2))
        | _, _ => none
      | ans => match t with | true => runC P b x env n L ans | false => runC P b y env n L ans
    | _ => none
  | .block id c, env, n, L, ans =>
    match runC P b c env n L ans with
    | some (.exit id', e, m, M, as, C) => match Nat.beq id' id with | true => some (.normal, e, m, M, as, C) | false => some (.exit id', e, m, M, as, C)
    | r => r
  | .loop c, env, n, L, ans =>
    match ans with
    | .loop x e m M :: as => some (x, e, m, M, as, Ex P b (.loop c) env n L (One x e m M))
    | _ => none
  | .region _ ops d, env, n, L, ans =>
    match ans with
    | .lazy l fin :: as =>
      match runLazy P ops ops.toList env [] n L l with
      | some (rows, e, g, m, M, _, C) =>
        frc (maskE g 0 e) [] fun e =>
          match setB e fin with
          | some (e, D) => match d with | true => some (.normal, e, m, M, as, (C ∧ D) ∧ regB ops rows = true) | false => some (.normal, e, m, M, as, C ∧ D)
          | none => none
      | none => none
    | .eager :: ans =>
      match runOps P ops ops.toList env n L ans with
      | some (rows, e, m, M, as, C) => match d with | true => some (.normal, e, m, M, as, C ∧ regB ops rows = true) | false => some (.normal, e, m, M, as, C)
      | none => none
    | ans =>
      match runOps P ops ops.toList env n L ans with
      | some (rows, e, m, M, as, C) => match d with | true => some (.normal, e, m, M, as, C ∧ regB ops rows = true) | false => some (.normal, e, m, M, as, C)
      | none => none
  | _, _, _, _, _ => none

theorem runC_ok {P : Program} {b : Nat} (hm : P.follows .mixedOrders = true) : ∀ (c : Code) (env : List V) (n : Nat) (L : Hp) (ans : List Ans) (x : Exit) (e : List V) (m : Nat) (M : Hp) (as : List Ans) (C : Prop),
    runC P b c env n L ans = some (x, e, m, M, as, C) → C → Ex P b c env n L (One x e m M) := by
  intro c
  induction c with
  | skip => intro env n L ans x e m M as C h _; simp only [runC, Option.some.injEq, Prod.mk.injEq] at h; obtain ⟨rfl, rfl, rfl, rfl, _, _⟩ := h; exact Ex.skip ⟨rfl, rfl, rfl, rfl⟩
  | ret => intro env n L ans x e m M as C h _; simp only [runC, Option.some.injEq, Prod.mk.injEq] at h; obtain ⟨rfl, rfl, rfl, rfl, _, _⟩ := h; exact Ex.ret ⟨rfl, rfl, rfl, rfl⟩
  | exit id => intro env n L ans x e m M as C h _; simp only [runC, Option.some.injEq, Prod.mk.injEq] at h; obtain ⟨rfl, rfl, rfl, rfl, _, _⟩ := h; exact Ex.exit ⟨rfl, rfl, rfl, rfl⟩
  | seq p q ihp ihq =>
    intro env n L ans x e m M as C h hC
    simp only [runC] at h
    split at h
    · rename_i e1 m1 M1 as1 C1 h1
      split at h
      · rename_i z e' m' M' as' D h2
        simp only [Option.some.injEq, Prod.mk.injEq] at h
        obtain ⟨rfl, rfl, rfl, rfl, rfl, rfl⟩ := h
        refine Ex.seq ((ihp _ _ _ _ _ _ _ _ _ _ h1 hC.1).mono ?_)
        rintro x e m M ⟨rfl, rfl, rfl, rfl⟩
        exact ihq _ _ _ _ _ _ _ _ _ _ h2 hC.2
      · cases h
    · rename_i hne
      refine Ex.seq ((ihp _ _ _ _ _ _ _ _ _ _ h hC).mono ?_)
      rintro x' e' m' M' ⟨rfl, rfl, rfl, rfl⟩
      cases x' with
      | normal => exact absurd h (hne _ _ _ _ _)
      | _ => exact ⟨rfl, rfl, rfl, rfl⟩
  | cond c p q ihp ihq =>
    intro env n L ans x e m M as C h hC
    simp only [runC] at h
    split at h
    · rename_i t ht
      split at h
      · split at h
        · rename_i z1 e1 m1 M1 as1' C1 z2 e2 m2 M2 as2' C2 h1 h2
          simp only [Option.some.injEq, Prod.mk.injEq] at h
          obtain ⟨rfl, rfl, rfl, rfl, rfl, rfl⟩ := h
          obtain ⟨hb, k1, k2⟩ := hC
          cases t with
          | true =>
            obtain ⟨rfl, q1, q2⟩ := k1 rfl
            exact Ex.cond ht ((ihp _ _ _ _ _ _ _ _ _ _ h1 q2).to hb q1)
          | false =>
            obtain ⟨rfl, q1, q2⟩ := k2 rfl
            exact Ex.cond ht ((ihq _ _ _ _ _ _ _ _ _ _ h2 q2).to hb q1)
        · cases h
      · split at h
        · exact Ex.cond ht (ihp _ _ _ _ _ _ _ _ _ _ h hC)
        · exact Ex.cond ht (ihq _ _ _ _ _ _ _ _ _ _ h hC)
    · cases h
  | block id c ih =>
    intro env n L ans x e m M as C h hC
    simp only [runC] at h
    split at h
    · rename_i id' e1 m1 M1 as1 C1 h1
      split at h
      · rename_i hb
        have := Nat.eq_of_beq_eq_true hb; subst this
        simp only [Option.some.injEq, Prod.mk.injEq] at h
        obtain ⟨rfl, rfl, rfl, rfl, rfl, rfl⟩ := h
        refine Ex.block ((ih _ _ _ _ _ _ _ _ _ _ h1 hC).mono ?_)
        rintro x' e' m' M' ⟨rfl, rfl, rfl, rfl⟩
        simp only [InBlock, Nat.beq_refl]; exact ⟨rfl, rfl, rfl, rfl⟩
      · rename_i hb
        simp only [Option.some.injEq, Prod.mk.injEq] at h
        obtain ⟨rfl, rfl, rfl, rfl, rfl, rfl⟩ := h
        refine Ex.block ((ih _ _ _ _ _ _ _ _ _ _ h1 hC).mono ?_)
        rintro x' e' m' M' ⟨rfl, rfl, rfl, rfl⟩
        simp only [InBlock, hb]; exact ⟨rfl, rfl, rfl, rfl⟩
    · rename_i hne
      refine Ex.block ((ih _ _ _ _ _ _ _ _ _ _ h hC).mono ?_)
      rintro x' e' m' M' ⟨rfl, rfl, rfl, rfl⟩
      cases x' with
      | exit id' => exact absurd h (hne _ _ _ _ _ _)
      | _ => exact ⟨rfl, rfl, rfl, rfl⟩
  | loop c ih =>
    intro env n L ans x e m M as C h hC
    simp only [runC] at h
    split at h
    · simp only [Option.some.injEq, Prod.mk.injEq] at h
      obtain ⟨rfl, rfl, rfl, rfl, rfl, rfl⟩ := h
      exact hC
    · cases h
  | region id ops d =>
    intro env n L ans x e m M as C h hC
    simp only [runC] at h
    split at h
    · split at h
      · rename_i l fin as0 rows e1 g m1 M1 as1 C1 h1
        rw [frc_eq] at h
        have mask : ∀ (eA : List V), LR e1 g eA → Ex P b (.region id ops d) env n L (One .normal eA m1 M1) → Ex P b (.region id ops d) env n L (One .normal (maskE g 0 e1) m1 M1) := by
          intro eA hlr hx φ a w k1 k2 k3 k4
          refine wp_mono (hx φ a w k1 k2 k3 k4) ?_
          rintro x a' w' ⟨φ', e', m', M', ⟨rfl, rfl, rfl, rfl⟩, q1, q2⟩
          exact ⟨φ', _, _, _, ⟨rfl, rfl, rfl, rfl⟩, ⟨q1.1, hlr.mask q1.2⟩, q2⟩
        have lr0 : LR env [] env := ⟨rfl, fun t => by simp [gFind]⟩
        split at h
        · rename_i e2 D2 hset
          split at h
          · simp only [Option.some.injEq, Prod.mk.injEq] at h
            obtain ⟨rfl, rfl, rfl, rfl, rfl, rfl⟩ := h
            obtain ⟨g1, g2, g3, rfl, rfl⟩ := runLazy_ok ops.toList 0 _ env _ _ _ _ _ _ _ _ _ _ _ lr0 h1 hC.1.1
            rw [setB_eq hset hC.1.2]
            exact mask _ g3 (Ex.regionDraw hm (regB_ok g2 hC.2) g1 ⟨rfl, rfl, rfl, rfl⟩)
          · simp only [Option.some.injEq, Prod.mk.injEq] at h
            obtain ⟨rfl, rfl, rfl, rfl, rfl, rfl⟩ := h
            obtain ⟨g1, g2, g3, rfl, rfl⟩ := runLazy_ok ops.toList 0 _ env _ _ _ _ _ _ _ _ _ _ _ lr0 h1 hC.1
            rw [setB_eq hset hC.2]
            exact mask _ g3 (Ex.regionText g2 g1 ⟨rfl, rfl, rfl, rfl⟩)
        · cases h
      · cases h
    · split at h
      · rename_i rows e1 m1 M1 as1 C1 h1
        split at h
        · simp only [Option.some.injEq, Prod.mk.injEq] at h
          obtain ⟨rfl, rfl, rfl, rfl, rfl, rfl⟩ := h
          obtain ⟨g1, g2, rfl, rfl, rfl⟩ := runOps_ok ops.toList 0 _ _ _ _ _ _ _ _ _ _ h1 hC.1
          exact Ex.regionDraw hm (regB_ok g2 hC.2) g1 ⟨rfl, rfl, rfl, rfl⟩
        · simp only [Option.some.injEq, Prod.mk.injEq] at h
          obtain ⟨rfl, rfl, rfl, rfl, rfl, rfl⟩ := h
          obtain ⟨g1, g2, rfl, rfl, rfl⟩ := runOps_ok ops.toList 0 _ _ _ _ _ _ _ _ _ _ h1 hC
          exact Ex.regionText g2 g1 ⟨rfl, rfl, rfl, rfl⟩
      · cases h
    · split at h
      · rename_i rows e1 m1 M1 as1 C1 h1
        split at h
        · simp only [Option.some.injEq, Prod.mk.injEq] at h
          obtain ⟨rfl, rfl, rfl, rfl, rfl, rfl⟩ := h
          obtain ⟨g1, g2, rfl, rfl, rfl⟩ := runOps_ok ops.toList 0 _ _ _ _ _ _ _ _ _ _ h1 hC.1
          exact Ex.regionDraw hm (regB_ok g2 hC.2) g1 ⟨rfl, rfl, rfl, rfl⟩
        · simp only [Option.some.injEq, Prod.mk.injEq] at h
          obtain ⟨rfl, rfl, rfl, rfl, rfl, rfl⟩ := h
          obtain ⟨g1, g2, rfl, rfl, rfl⟩ := runOps_ok ops.toList 0 _ _ _ _ _ _ _ _ _ _ h1 hC
          exact Ex.regionText g2 g1 ⟨rfl, rfl, rfl, rfl⟩
      · cases h
  | rangeFunc f ps a c _ _ => intro env n L ans x e m M as C h; simp [runC] at h
  | scope c _ => intro env n L ans x e m M as C h; simp [runC] at h
  | label l => intro env n L ans x e m M as C h; simp [runC] at h
  | goto l => intro env n L ans x e m M as C h; simp [runC] at h
  | refuse w => intro env n L ans x e m M as C h; simp [runC] at h

end Ab
end Go.Proofs.YtgbkllbaojkfmaaGreatDoor
/-
  The frame, part 10: a function's contract out of one run.
-/
set_option linter.unusedSimpArgs false
set_option linter.unusedVariables false
namespace Go.Proofs.YtgbkllbaojkfmaaGreatDoor
namespace Ab
open Go

theorem SC.run {P : Program} (hm : P.follows .mixedOrders = true) {f : FuncId} {fn : Func} {c : Code} {args : List V} {n : Nat} {L : Hp} {v : V} {n' : Nat} {L' : Hp} (hf : P.funcs[f]? = some fn) (hb : fn.body = some c)
    (ans : List Ans) (new : List Nat) {x : Exit} {e : List V} {m : Nat} {M : Hp} {as : List Ans} {C : Prop} {env : List V} (henv : args ++ List.replicate (fn.ntmps - args.length) .undef = env)
    (hr : runC P n c env n L ans = some (x, e, m, M, as, C)) (hC : C) (hx : x = .ret ∨ x = .normal) (fin : EndOK P fn n v n' L' new e M) : SC P f args n L v n' L' :=
  SC.intro hf hb ((henv ▸ runC_ok hm c env n L ans x e m M as C hr hC).mono fun x' e' m' M' h => by
    obtain ⟨rfl, rfl, rfl, rfl⟩ := h
    exact ⟨hx, new, fin⟩)

/-- nothing of memory is handed back -/
theorem EndOK.plain {P : Program} {fn : Func} {n : Nat} {v : V} {L : Hp} {env : List V} {M : Hp} (h1 : resV P fn env M = some (renV (rn (List.range n ++ []) 0) v))
    (h2 : ∀ i bl, lk L i = some bl → lk M (rn (List.range n ++ []) 0 i) = some (renB (rn (List.range n ++ []) 0) bl)) (h3 : okV n v = true) (h4 : okH n L = true) : EndOK P fn n v n L [] env M :=
  .nodup h1 h2 h3 h4 rfl (by simpa using List.nodup_range)

theorem no_mem {M : Hp} {r : Nat → Nat} : ∀ i bl, lk ([] : Hp) i = some bl → lk M (r i) = some (renB r bl) := fun _ _ h => by simp [lk] at h

theorem i64_wrap (z : Int) : IntKind.i64.wrap z = (z + 9223372036854775808) % 18446744073709551616 - 9223372036854775808 := by
  simp only [IntKind.wrap, IntKind.bits, IntKind.signed, Bool.true_and]
  split <;> rename_i h <;> simp at h <;> omega
theorem u8_wrap (z : Int) : IntKind.u8.wrap z = z % 256 := by simp [IntKind.wrap, IntKind.bits, IntKind.signed]

/-! ### calls -/
def aliB (tbl : List Nat) (L0 : Hp) : Bool := L0.all fun x => L0.all fun y => Nat.beq x.1 y.1 || !Nat.beq (tbl.getD x.1 0) (tbl.getD y.1 0) || ((match x.2 with | some b => b.ro | none => true) && (match y.2 with | some b => b.ro | none => true))
def oldB (tbl : List Nat) (new n0' : Nat) : Bool := tbl.all fun x => !(Nat.ble new x && Nat.blt x (new + (n0' - tbl.length)))
def FitP (tbl : List Nat) (new : Nat) (M : Hp) : Hp → Prop
  | [] => True
  | (_, none) :: t => FitP tbl new M t
  | (i, some bl0) :: t => (Nat.blt i tbl.length = true ∧ ∃ bl', lk M (tbl.getD i 0) = some bl' ∧ { renB (rn tbl new) bl0 with ro := bl'.ro } = bl' ∧ (bl'.ro = true → bl0.ro = true)) ∧ FitP tbl new M t

theorem FitP.at {tbl : List Nat} {new : Nat} {M : Hp} : ∀ {L0 : Hp}, FitP tbl new M L0 → ∀ i bl0, (i, some bl0) ∈ L0 → i < tbl.length ∧ ∃ bl', lk M (tbl.getD i 0) = some bl' ∧ { renB (rn tbl new) bl0 with ro := bl'.ro } = bl' ∧ (bl'.ro = true → bl0.ro = true)
  | (j, c) :: t, h, i, bl0, hm => by
    cases hm with
    | head => exact ⟨blt_iff.1 h.1.1, h.1.2⟩
    | tail _ hm =>
      cases c with
      | none => exact FitP.at (L0 := t) h i bl0 hm
      | some c => exact FitP.at (L0 := t) h.2 i bl0 hm

theorem Fits.of {tbl : List Nat} {new n0' : Nat} {L0 M : Hp} (h1 : oldB tbl new n0' = true) (h2 : aliB tbl L0 = true) (h3 : FitP tbl new M L0) : Fits tbl new n0' L0 M := by
  refine ⟨fun i hi => ?_, fun i bl hl => h3.at i bl (lk_mem hl), fun i j bl bl' hi hj e => ?_⟩
  · have hm : tbl.getD i 0 ∈ tbl := by rw [List.getD_eq_getElem?_getD, List.getElem?_eq_getElem hi]; simp
    have := List.all_eq_true.1 h1 _ hm
    simp only [Bool.not_eq_true', Bool.and_eq_false_iff] at this
    rintro ⟨a, b⟩
    rcases this with h | h
    · rw [Nat.ble_eq_true_of_le a] at h; cases h
    · rw [blt_iff.2 b] at h; cases h
  · have g1 := List.all_eq_true.1 h2 _ (lk_mem hi)
    have g2 := List.all_eq_true.1 g1 _ (lk_mem hj)
    simp only [Bool.or_eq_true, Bool.not_eq_true', Bool.and_eq_true] at g2
    rcases g2 with (h | h) | h
    · exact .inl (Nat.eq_of_beq_eq_true h)
    · rw [e, Nat.beq_refl] at h; cases h
    · exact .inr h

theorem fits_nil {n n0' : Nat} {M : Hp} : Fits [] n n0' [] M := ⟨fun i hi => by simp at hi, fun i bl h => by simp [lk] at h, fun i j bl bl' h => by simp [lk] at h⟩

/-- a call of a function that is handed no memory -/
theorem call0 {P : Program} {f : FuncId} {args args0 : List V} {n : Nat} {L : Hp} {v0 : V} {n0' : Nat} {L0' : Hp} (h : SC P f args0 0 [] v0 n0' L0') (ha : args = args0.map (renV (rn [] n))) : callC P f args n L [] args0 [] v0 n0' L0' := ⟨h, ha, fits_nil⟩

theorem fn_ok {P : Program} {f : FuncId} (h : fnOK P f = true) : fnOK P f = true := h

end Ab
end Go.Proofs.YtgbkllbaojkfmaaGreatDoor
/-
  The frame, part 11: sparse states, counted loops, what is handed back.
-/
set_option linter.unusedSimpArgs false
set_option linter.unusedVariables false
namespace Go.Proofs.YtgbkllbaojkfmaaGreatDoor
namespace Ab
open Go

/-! ### sparse states -/
def spG : List (Nat × V) → Nat → V
  | [], _ => .any
  | (j, v) :: t, i => match Nat.beq j i with | true => v | false => spG t i
def spF (l : List (Nat × V)) : Nat → Nat → List V
  | _, 0 => []
  | i, n + 1 => spG l i :: spF l (i + 1) n
def sp (n : Nat) (l : List (Nat × V)) : List V := spF l 0 n

def keepH (ks : List Nat) : Hp → Hp
  | [] => []
  | (i, b) :: t => match ks.elem i with | true => (i, b) :: keepH ks t | false => keepH ks t
theorem keepH_sub (ks : List Nat) : ∀ L : Hp, Sub (keepH ks L) L
  | [], i, bl, h => h
  | (j, b) :: t, i, bl, h => by
    simp only [keepH] at h
    rw [lk_cons]
    split at h
    · rw [lk_cons] at h
      split
      · rename_i e; rw [if_pos e] at h; exact h
      · rename_i e; rw [if_neg e] at h; exact keepH_sub ks t i bl h
    · rename_i hk
      have h' := keepH_sub ks t i bl h
      split
      · rename_i e; subst e
        exfalso
        have : ∀ t : Hp, lk (keepH ks t) j = none := by
          intro t
          induction t with
          | nil => rfl
          | cons x t ih =>
            obtain ⟨a, c⟩ := x
            simp only [keepH]
            split
            · rename_i ha
              rw [lk_cons, if_neg (by intro e; subst e; rw [ha] at hk; cases hk)]; exact ih
            · exact ih
        rw [this] at h; cases h
      · exact h'

theorem Wk.by {n : Nat} {env : List V} {L : Hp} {env' : List V} {L' : Hp} (keep ks : List Nat) (he : wkE keep 0 env = env') (hl : keepH ks L = L') (o1 : env'.all (okV n) = true) (o2 : okH n L' = true) : Wk n env L env' L' :=
  Wk.of keep he (hl ▸ keepH_sub ks L) o1 o2

theorem Ex.post {P : Program} {b : Nat} {c : Code} {env : List V} {n : Nat} {L : Hp} {R R' : Post} (h : Ex P b c env n L R)
    (hr : ∀ x e m M, R x e m M → ∃ e' m' M', b ≤ m' ∧ Wk m' e M e' M' ∧ R' x e' m' M') : Ex P b c env n L R' := by
  intro φ a w h1 h2 h3 h4
  refine wp_mono (h φ a w h1 h2 h3 h4) ?_
  rintro x a' w' ⟨φ', e, m, M, hR, k1, k2, k3, k4, k5, k6⟩
  obtain ⟨e', m', M', hb, hwk, hR'⟩ := hr x e m M hR
  obtain ⟨g1, g2, g3, g4, g5⟩ := hwk.use k1 k2 k5
  exact ⟨_, e', m', M', hR', g1, g2, g3, hb, g4, fun i hi => (g5 i (by omega)).trans (k6 i hi)⟩

/-- a loop of N rounds; the states are given for each number of rounds done -/
theorem Ex.count {P : Program} {b : Nat} {c : Code} {n : Nat} (N : Nat) (E : Nat → List V) (H : Nat → Hp) {x : Exit} {e' : List V} {M' : Hp} (hb : b ≤ n)
    (step : ∀ j, j < N → ∃ e m M, Ex P b c (E j) n (H j) (One .normal e m M) ∧ Wk n e M (E (j + 1)) (H (j + 1)))
    (last : x ≠ .normal ∧ ∃ e m M, Ex P b c (E N) n (H N) (One x e m M) ∧ Wk n e M e' M') :
    Ex P b (.loop c) (E 0) n (H 0) (One x e' n M') := by
  refine Ex.loop (fun k env L => ∃ j, j + k = N ∧ env = E j ∧ L = H j) hb ?_ ?_ N (E 0) (H 0) ⟨0, by omega, rfl, rfl⟩
  · rintro k env L ⟨j, hj, rfl, rfl⟩
    obtain ⟨e, m, M, hx, hw⟩ := step j (by omega)
    refine hx.mono ?_
    rintro x' e' m' M' ⟨rfl, rfl, rfl, rfl⟩
    exact .inl ⟨rfl, _, _, hw, j + 1, by omega, rfl, rfl⟩
  · rintro env L ⟨j, hj, rfl, rfl⟩
    obtain rfl : j = N := by omega
    obtain ⟨hne, e, m, M, hx, hw⟩ := last
    refine hx.post ?_
    rintro x' e1 m1 M1 ⟨rfl, rfl, rfl, rfl⟩
    exact ⟨e', n, M', hb, hw, hne, rfl, rfl, rfl, rfl⟩

/-- a loop of N rounds, each one run; keep, ks: the slots and blocks that live on from round to round -/
theorem Ex.turns {P : Program} (hm : P.follows .mixedOrders = true) {b : Nat} {c : Code} {env : List V} {n : Nat} {L : Hp} {n0 : Nat} {x : Exit} {e' : List V} {M' : Hp} (keep ks : List Nat) (N : Nat) (E : Nat → List V) (H : Nat → Hp) (hb : b ≤ n0)
    (h0 : wkE keep 0 env = E 0) (h1 : keepH ks L = H 0) (ok : ∀ j, (E j).all (okV n0) = true ∧ okH n0 (H j) = true)
    (step : ∀ j, j < N → ∃ ans e m M as C, runC P b c (E j) n0 (H j) ans = some (.normal, e, m, M, as, C) ∧ C ∧ wkE keep 0 e = E (j + 1) ∧ keepH ks M = H (j + 1))
    (keep' ks' : List Nat) (hx : x ≠ .normal) (ok' : e'.all (okV n0) = true ∧ okH n0 M' = true)
    (last : ∃ ans e m M as C, runC P b c (E N) n0 (H N) ans = some (x, e, m, M, as, C) ∧ C ∧ wkE keep' 0 e = e' ∧ keepH ks' M = M') :
    Ex P b (.loop c) env n L (One x e' n0 M') := by
  refine Ex.wk hb (Wk.by keep ks h0 h1 (ok 0).1 (ok 0).2) (Ex.count N E H hb ?_ ?_)
  · intro j hj
    obtain ⟨ans, e, m, M, as, C, h2, h3, h4, h5⟩ := step j hj
    exact ⟨e, m, M, runC_ok hm _ _ _ _ ans _ _ _ _ as C h2 h3, Wk.by keep ks h4 h5 (ok (j + 1)).1 (ok (j + 1)).2⟩
  · obtain ⟨ans, e, m, M, as, C, h2, h3, h4, h5⟩ := last
    exact ⟨hx, e, m, M, runC_ok hm _ _ _ _ ans _ _ _ _ as C h2 h3, Wk.by keep' ks' h4 h5 ok'.1 ok'.2⟩

/-! ### what is handed back -/
def MemP (r : Nat → Nat) (M : Hp) : Hp → Prop
  | [] => True
  | (_, none) :: t => MemP r M t
  | (i, some bl) :: t => lk M (r i) = some (renB r bl) ∧ MemP r M t
theorem MemP.at {r : Nat → Nat} {M : Hp} : ∀ {L : Hp}, MemP r M L → ∀ i bl, (i, some bl) ∈ L → lk M (r i) = some (renB r bl)
  | (j, c) :: t, h, i, bl, hm => by
    cases hm with
    | head => exact h.1
    | tail _ hm =>
      cases c with
      | none => exact MemP.at (L := t) h i bl hm
      | some c => exact MemP.at (L := t) h.2 i bl hm

theorem EndOK.by {P : Program} {fn : Func} {n : Nat} {v : V} {n' : Nat} {L' : Hp} {new : List Nat} {env : List V} {M : Hp} (h1 : resV P fn env M = some (renV (rn (List.range n ++ new) 0) v))
    (h2 : MemP (rn (List.range n ++ new) 0) M L') (h3 : okV n' v = true) (h4 : okH n' L' = true) (h5 : n' = n + new.length) (h6 : nodupB (List.range n ++ new) = true) : EndOK P fn n v n' L' new env M := by
  refine .nodup h1 (fun i bl h => h2.at i bl (lk_mem h)) h3 h4 h5 ?_
  have : ∀ l : List Nat, nodupB l = true → l.Nodup := by
    intro l
    induction l with
    | nil => intro _; exact .nil
    | cons x t ih =>
      intro h
      simp only [nodupB, Bool.and_eq_true, Bool.not_eq_true'] at h
      refine List.nodup_cons.2 ⟨fun hm => ?_, ih h.2⟩
      rw [List.elem_eq_true_of_mem hm] at h; cases h.1
  exact this _ h6

/-- an end where numbers that were handed in may get new names -/
def injB (r : Nat → Nat) (L' : Hp) : Bool := L'.all fun x => L'.all fun y => match x.2, y.2 with | some _, some _ => Nat.beq x.1 y.1 || !Nat.beq (r x.1) (r y.1) | _, _ => true
def mvB (n : Nat) (r : Nat → Nat) (L' : Hp) : Bool := L'.all fun x => match x.2 with | some bl => Nat.blt x.1 n || !Nat.blt (r x.1) n || !bl.ro | none => true
theorem EndOK.move {P : Program} {fn : Func} {n : Nat} {v : V} {n' : Nat} {L' : Hp} {new : List Nat} {env : List V} {M : Hp} (h1 : resV P fn env M = some (renV (rn (List.range n ++ new) 0) v))
    (h2 : MemP (rn (List.range n ++ new) 0) M L') (h3 : okV n' v = true) (h4 : okH n' L' = true) (h5 : n' = n + new.length) (h6 : injB (rn (List.range n ++ new) 0) L' = true) (h7 : mvB n (rn (List.range n ++ new) 0) L' = true) : EndOK P fn n v n' L' new env M := by
  refine ⟨h1, fun i bl h => h2.at i bl (lk_mem h), h3, h4, h5, fun i j bl bl' hi hj e => ?_, fun j bl hj hjn hlt => ?_⟩
  · have g := List.all_eq_true.1 (List.all_eq_true.1 h6 _ (lk_mem hi)) _ (lk_mem hj)
    simp only [Bool.or_eq_true, Bool.not_eq_true'] at g
    rcases g with g | g
    · exact Nat.eq_of_beq_eq_true g
    · rw [e, Nat.beq_refl] at g; cases g
  · have g := List.all_eq_true.1 h7 _ (lk_mem hj)
    simp only [Bool.or_eq_true, Bool.not_eq_true'] at g
    rcases g with (g | g) | g
    · have := blt_iff.1 g; omega
    · rw [blt_iff.2 hlt] at g; cases g
    · exact g

end Ab
end Go.Proofs.YtgbkllbaojkfmaaGreatDoor
/-
  The frame, part 12: a contract for blocks that are written down in another way.
-/
set_option linter.unusedSimpArgs false
set_option linter.unusedVariables false
namespace Go.Proofs.YtgbkllbaojkfmaaGreatDoor
namespace Ab
open Go

structure LikeB (a b : Bl) : Prop where
  ro : a.ro = b.ro
  cells : a.cells = b.cells
  ty : a.ty = b.ty
  more : b.more = a.more ∨ b.more = true
  flat : a.flat = b.flat ∨ a.cells.all noPtr = true
  gh : ∀ g z, b.gh = some (g, z) → a.gh = some (g, z)
  kind : a.kind = b.kind
  abs : ∀ g, b.abs = some g → a.abs = some g

theorem all2_noPtr {φ ψ : Ph} : ∀ {l : List S} {xs : List Value}, All2 (Sr φ) l xs → l.all noPtr = true → All2 (Sr ψ) l xs
  | [], [], _, _ => trivial
  | _ :: _, _ :: _, h, ok => by
    simp only [List.all_cons, Bool.and_eq_true] at ok
    exact ⟨noPtr_r ok.1 h.1, all2_noPtr h.2 ok.2⟩
  | [], _ :: _, h, _ => h.elim
  | _ :: _, [], h, _ => h.elim

theorem LikeB.at {φ : Ph} {w : World} {x : Nat × Nat} {a b : Bl} (h : LikeB a b) (hat : BlAt φ w x a) : BlAt φ w x b := by
  obtain ⟨pre, xs, rest, fr, h1, hp, h2, h3, h4, h5⟩ := hat
  refine ⟨pre, xs, rest, fr, by rw [← h.kind, ← h.ty]; exact h1, hp, ?_, fun e => ?_, fun e => h4 (h.ro.trans e), ⟨fun g z e => h5.1 g z (h.gh g z e), fun g e => h5.2 g (h.abs g e)⟩⟩
  · rcases h.flat with e | e
    · have : b.ph φ = a.ph φ := by unfold Bl.ph; rw [e]
      rw [this, ← h.cells]; exact h2
    · rw [← h.cells]; exact all2_noPtr h2 e
  · rcases h.more with e' | e'
    · exact h3 (e' ▸ e)
    · rw [e'] at e; cases e

def LikeH : Hp → Hp → Prop
  | [], [] => True
  | (i, some a) :: s, (j, some b) :: t => i = j ∧ LikeB a b ∧ LikeH s t
  | _, _ => False
theorem LikeH.right : ∀ {L M : Hp}, LikeH L M → ∀ {i : Nat} {b : Bl}, lk M i = some b → ∃ a, lk L i = some a ∧ LikeB a b
  | [], [], _, i, b, h => by simp [lk] at h
  | (i, some a) :: s, (j, some c) :: t, h, k, b, hk => by
    obtain ⟨rfl, h1, h2⟩ := h
    rw [lk_cons] at hk ⊢
    split at hk
    · cases hk; rename_i e; exact ⟨a, by rw [if_pos e], h1⟩
    · rename_i e; rw [if_neg e]; exact h2.right hk
  | [], (_, some _) :: _, h, _, _, _ => h.elim
  | [], (_, none) :: _, h, _, _, _ => h.elim
  | (_, none) :: _, _, h, _, _, _ => h.elim
  | (_, some _) :: _, [], h, _, _, _ => h.elim
  | (_, some _) :: _, (_, none) :: _, h, _, _, _ => h.elim

theorem SC.like {P : Program} {f : FuncId} {args : List V} {n : Nat} {L M : Hp} {v : V} {n' : Nat} {L' : Hp} (h : SC P f args n M v n' L') (hl : LikeH L M) : SC P f args n L v n' L' := by
  intro φ xs w h1 h2 h3
  have hg : Good φ M w := by
    refine ⟨fun i bl hi => ?_, fun i j bl bl' b b' hi hj hb hb' => ?_⟩
    · obtain ⟨a, ha, hla⟩ := hl.right hi
      obtain ⟨b, hb, hat⟩ := h2.hr i a ha
      exact ⟨b, hb, hla.at hat⟩
    · obtain ⟨a, ha, hla⟩ := hl.right hi
      obtain ⟨c, hc, hlc⟩ := hl.right hj
      rw [← hla.ro, ← hlc.ro]
      exact h2.inj i j a c b b' ha hc hb hb'
  refine Calls.mono (h φ xs w h1 hg h3) ?_
  rintro e w' ⟨φ', x, rfl, g1, g2, g3, g4, g5, g6⟩
  refine ⟨φ', x, rfl, g1, g2, g3, ⟨g4.os, g4.tape, g4.output, g4.size, fun b hb hn => g4.keep b hb ?_, ?_⟩, g5, g6⟩
  · rintro ⟨j, bj, c, hj, hpj, hcc, hrj⟩
    obtain ⟨a, ha, hla⟩ := hl.right hj
    exact hn ⟨j, a, c, ha, hpj, hcc, hla.ro.trans hrj⟩
  · intro j bl b hj hb hlt
    obtain ⟨k, bk, c, hk, hpk, hcc, hr, ho⟩ := g4.fresh j bl b hj hb hlt
    obtain ⟨a, ha, hla⟩ := hl.right hk
    exact ⟨k, a, c, ha, hpk, hcc, fun e => hr (hla.ro.symm.trans e), ho.imp id fun e => hla.ro.trans e⟩

end Ab
end Go.Proofs.YtgbkllbaojkfmaaGreatDoor
/-
  The frame, part 13: states renamed; loops whose blocks move.
-/
set_option linter.unusedSimpArgs false
set_option linter.unusedVariables false
namespace Go.Proofs.YtgbkllbaojkfmaaGreatDoor
namespace Ab
open Go

/-- the numbers below b stand; a block under another number than before is one that may be written -/
def idB (b : Nat) (tbl : List Nat) (L' : Hp) : Bool :=
  (List.range b).all (fun i => Nat.beq (tbl.getD i 0) i) && L'.all fun x => match x.2 with | some bl => Nat.beq (tbl.getD x.1 0) x.1 || !bl.ro | none => true

theorem nodup_of {l : List Nat} (h : nodupB l = true) : l.Nodup := by
  induction l with
  | nil => exact .nil
  | cons x t ih =>
    simp only [nodupB, Bool.and_eq_true, Bool.not_eq_true'] at h
    refine List.nodup_cons.2 ⟨fun hm => ?_, ih h.2⟩
    rw [List.elem_eq_true_of_mem hm] at h; cases h.1

theorem To.ren {b : Nat} {env : List V} {L : Hp} {env' : List V} {L' : Hp} (keep tbl : List Nat) (he : wkE keep 0 env = env'.map (renV (rn tbl 0))) (hl : MemP (rn tbl 0) L L') (o1 : env'.all (okV tbl.length) = true) (o2 : okH tbl.length L' = true) (hn : injB (rn tbl 0) L' = true) (hid : idB b tbl L' = true) (hb : b ≤ tbl.length) :
    To b tbl.length env L env' L' := by
  intro φ₀ φ L₀ w₀ w a h1 h2 h3
  simp only [idB, Bool.and_eq_true] at hid
  let r := rn tbl 0
  have hro : ∀ i, i < tbl.length → r i = tbl.getD i 0 := fun i hi => rn_lt hi
  have hinj : ∀ i j bl bl', lk L' i = some bl → lk L' j = some bl' → r i = r j → i = j := by
    intro i j bl bl' hi hj e
    have g := List.all_eq_true.1 (List.all_eq_true.1 hn _ (lk_mem hi)) _ (lk_mem hj)
    simp only [Bool.or_eq_true, Bool.not_eq_true'] at g
    rcases g with g | g
    · exact Nat.eq_of_beq_eq_true g
    · have e' : rn tbl 0 i = rn tbl 0 j := e
      rw [e', Nat.beq_refl] at g; cases g
  refine ⟨cutPh tbl.length fun i => φ (r i), ⟨h1.1, ?_⟩, ⟨fun i bl hi => ?_, fun i j bl bl' c c' hi hj hc hc' hcc => ?_⟩, fun i hi => by simp [cutPh]; omega, ⟨h3.os, h3.tape, h3.output, h3.size, h3.keep, fun j bl c hj hc hlt => ?_⟩, fun i hi => ?_⟩
  · refine all2_cutV ?_ o1
    have := wkE_r (keep := keep) (i := 0) h1.2
    rw [he] at this
    have key : ∀ (l : List V) (xs : List Value), All2 (Vr φ) (l.map (renV r)) xs → All2 (Vr fun i => φ (r i)) l xs := by
      intro l
      induction l with
      | nil => intro xs hl; cases xs <;> first | trivial | exact hl.elim
      | cons y t ih => intro xs hl; cases xs with
        | nil => exact hl.elim
        | cons x xs => exact ⟨Vr_ren.1 hl.1, ih xs hl.2⟩
    exact key _ _ this
  · obtain ⟨c, hc, hat⟩ := h2.hr _ _ (hl.at i bl (lk_mem hi))
    obtain ⟨hlt, hok⟩ := okH_at o2 hi
    exact ⟨c, by simp only [cutPh, if_pos hlt]; exact hc, (BlAt_ren.1 hat).cut hok⟩
  · have hi' := (okH_at o2 hi).1
    have hj' := (okH_at o2 hj).1
    simp only [cutPh, if_pos hi'] at hc
    simp only [cutPh, if_pos hj'] at hc'
    rcases h2.inj _ _ _ _ c c' (hl.at i bl (lk_mem hi)) (hl.at j bl' (lk_mem hj)) hc hc' hcc with e | e
    · exact .inl (hinj i j bl bl' hi hj e)
    · rw [renB_ro, renB_ro] at e; exact .inr e
  · have hj' := (okH_at o2 hj).1
    simp only [cutPh, if_pos hj'] at hc
    obtain ⟨k, bk, d, hk, hpk, hdd, hr, ho⟩ := h3.fresh _ _ c (hl.at j bl (lk_mem hj)) hc hlt
    rw [renB_ro] at hr
    refine ⟨k, bk, d, hk, hpk, hdd, hr, ?_⟩
    rcases ho with ho | ho
    · have := List.all_eq_true.1 hid.2 _ (lk_mem hj)
      simp only [Bool.or_eq_true, Bool.not_eq_true'] at this
      rcases this with e | e
      · refine .inl ?_
        have e := Nat.eq_of_beq_eq_true e
        rw [ho]; show r j = j
        rw [hro j hj', e]
      · refine .inr ?_
        cases hb : bk.ro with
        | false => rfl
        | true => rw [hr hb] at e; cases e
    · exact .inr ho
  · have hit : i < tbl.length := by omega
    have := List.all_eq_true.1 hid.1 i (by simpa using hi)
    have := Nat.eq_of_beq_eq_true this
    simp only [cutPh, if_pos hit, hro i hit, this]

theorem Ex.loopT {P : Program} {b : Nat} {c : Code} {n : Nat} {R : Post} (I : Nat → List V → Hp → Prop) (hb : b ≤ n)
    (step : ∀ k env L, I (k + 1) env L → Ex P b c env n L fun x e m M => (x = .normal ∧ ∃ e' M', To b n e M e' M' ∧ I k e' M') ∨ (x ≠ .normal ∧ R x e m M))
    (last : ∀ env L, I 0 env L → Ex P b c env n L fun x e m M => x ≠ .normal ∧ R x e m M) :
    ∀ k env L, I k env L → Ex P b (.loop c) env n L R := by
  intro k env L hI φ a w h1 h2 h3 h4
  refine wp_loop_rounds (k + 1) ?_
  have key : ∀ k env L φ₁ a₁ w₁, I k env L → EnvR φ₁ env a₁ → Good φ₁ L w₁ → (∀ i, n ≤ i → φ₁ i = none) → ∀ (φ₀ : Ph) (L₀ : Hp) (w₀ : World), Stp φ₀ L₀ w₀ φ₁ L w₁ → (∀ i, i < b → φ₁ i = φ₀ i) →
      Code.rounds P c (fun x a' w' => ∃ φ' env' n' L', R x env' n' L' ∧ EnvR φ' env' a' ∧ Good φ' L' w' ∧ (∀ i, n' ≤ i → φ' i = none) ∧ b ≤ n' ∧ Stp φ₀ L₀ w₀ φ' L' w' ∧ (∀ i, i < b → φ' i = φ₀ i)) (k + 1) a₁ w₁ := by
    intro k
    induction k with
    | zero =>
      intro env L φ₁ a₁ w₁ hI h1 h2 h3 φ₀ L₀ w₀ h5 h6
      rw [rounds_succ]
      refine wp_mono (last env L hI φ₁ a₁ w₁ h1 h2 h3 hb) ?_
      rintro x a' w' ⟨φ', e, m, M, ⟨hx, hR⟩, k1, k2, k3, k4, k5, k6⟩
      cases x with
      | normal => exact absurd rfl hx
      | _ => exact ⟨φ', e, m, M, hR, k1, k2, k3, k4, h5.trans k5, fun i hi => (k6 i hi).trans (h6 i hi)⟩
    | succ k ih =>
      intro env L φ₁ a₁ w₁ hI h1 h2 h3 φ₀ L₀ w₀ h5 h6
      rw [rounds_succ]
      refine wp_mono (step k env L hI φ₁ a₁ w₁ h1 h2 h3 hb) ?_
      rintro x a' w' ⟨φ', e, m, M, hcase, k1, k2, k3, k4, k5, k6⟩
      rcases hcase with ⟨rfl, e', M', hwk, hI'⟩ | ⟨hx, hR⟩
      · simp only [Exit.then]
        obtain ⟨φ2, g1, g2, g3, g4, g5⟩ := hwk φ₀ φ' L₀ w₀ w' a' k1 k2 (h5.trans k5)
        exact ih e' M' _ a' w' hI' g1 g2 g3 φ₀ L₀ w₀ g4 (fun i hi => (g5 i hi).trans ((k6 i hi).trans (h6 i hi)))
      · cases x with
        | normal => exact absurd rfl hx
        | _ => exact ⟨φ', e, m, M, hR, k1, k2, k3, k4, h5.trans k5, fun i hi => (k6 i hi).trans (h6 i hi)⟩
  exact key k env L φ a w hI h1 h2 h3 φ L w (Stp.refl _ _ _) (fun _ _ => rfl)

/-- one round: it goes on in the next state (keep, tbl: the slots that live on, the new numbers of the blocks) or leaves the loop -/
def Rnd (P : Program) (b : Nat) (c : Code) (tbl keep : List Nat) (e0 : List V) (n0 : Nat) (H0 : Hp) (e1 : List V) (H1 : Hp) : Prop :=
  ∃ ans e m M as C, runC P b c e0 n0 H0 ans = some (.normal, e, m, M, as, C) ∧ C ∧ wkE keep 0 e = e1.map (renV (rn tbl 0)) ∧ MemP (rn tbl 0) M H1
def Lst (P : Program) (b : Nat) (c : Code) (tbl keep : List Nat) (e0 : List V) (n0 : Nat) (H0 : Hp) (x : Exit) (e1 : List V) (H1 : Hp) : Prop :=
  ∃ ans e m M as C, runC P b c e0 n0 H0 ans = some (x, e, m, M, as, C) ∧ C ∧ wkE keep 0 e = e1.map (renV (rn tbl 0)) ∧ MemP (rn tbl 0) M H1

/-- what a state must be, that a loop stands at -/
def okSt (b : Nat) (tbl : List Nat) (e : List V) (H : Hp) : Bool := e.all (okV tbl.length) && okH tbl.length H && injB (rn tbl 0) H && idB b tbl H && Nat.ble b tbl.length
theorem To.by {b : Nat} {env : List V} {L : Hp} {env' : List V} {L' : Hp} {n : Nat} (keep tbl : List Nat) (hn : tbl.length = n) (he : wkE keep 0 env = env'.map (renV (rn tbl 0))) (hl : MemP (rn tbl 0) L L') (ok : okSt b tbl env' L' = true) : To b n env L env' L' := by
  subst hn
  simp only [okSt, Bool.and_eq_true] at ok
  exact To.ren keep tbl he hl ok.1.1.1.1 ok.1.1.1.2 ok.1.1.2 ok.1.2 (Nat.le_of_ble_eq_true ok.2)

/-- A loop of N rounds whose blocks may move. tbl0: the numbers at its begin; tbl: those behind a round; tbl': those behind the last. -/
theorem Ex.moves {P : Program} (hm : P.follows .mixedOrders = true) {b : Nat} {c : Code} {env : List V} {n : Nat} {L : Hp} {n0 : Nat} {x : Exit} {e' : List V} {M' : Hp} {n1 : Nat} (keep : List Nat) (N : Nat) (E : Nat → List V) (H : Nat → Hp) (tbl0 tbl : List Nat)
    (hn0 : tbl0.length = n0) (hn : tbl.length = n0) (h0 : wkE keep 0 env = (E 0).map (renV (rn tbl0 0))) (h1 : MemP (rn tbl0 0) L (H 0)) (ok0 : okSt b tbl0 (E 0) (H 0) = true) (ok : ∀ j, okSt b tbl (E (j + 1)) (H (j + 1)) = true)
    (step : ∀ j, j < N → Rnd P b c tbl keep (E j) n0 (H j) (E (j + 1)) (H (j + 1)))
    (keep' tbl' : List Nat) (hn' : tbl'.length = n1) (hx : x ≠ .normal) (ok' : okSt b tbl' e' M' = true)
    (last : Lst P b c tbl' keep' (E N) n0 (H N) x e' M') :
    Ex P b (.loop c) env n L (One x e' n1 M') := by
  have hb : b ≤ n0 := by
    simp only [okSt, Bool.and_eq_true] at ok0
    rw [← hn0]; exact Nat.le_of_ble_eq_true ok0.2
  have hb1 : b ≤ n1 := by
    simp only [okSt, Bool.and_eq_true] at ok'
    rw [← hn']; exact Nat.le_of_ble_eq_true ok'.2
  have main : Ex P b (.loop c) (E 0) n0 (H 0) (One x e' n1 M') := by
    refine Ex.loopT (fun k env L => ∃ j, j + k = N ∧ env = E j ∧ L = H j) hb ?_ ?_ N (E 0) (H 0) ⟨0, by omega, rfl, rfl⟩
    · rintro k env L ⟨j, hj, rfl, rfl⟩
      obtain ⟨ans, e, m, M, as, C, h2, h3, h4, h5⟩ := step j (by omega)
      refine (runC_ok hm _ _ _ _ ans _ _ _ _ as C h2 h3).mono ?_
      rintro x' e1 m' M1 ⟨rfl, rfl, rfl, rfl⟩
      exact .inl ⟨rfl, _, _, To.by keep tbl hn h4 h5 (ok j), j + 1, by omega, rfl, rfl⟩
    · rintro env L ⟨j, hj, rfl, rfl⟩
      obtain rfl : j = N := by omega
      obtain ⟨ans, e, m, M, as, C, h2, h3, h4, h5⟩ := last
      refine ((runC_ok hm _ _ _ _ ans _ _ _ _ as C h2 h3).to hb1 (To.by keep' tbl' hn' h4 h5 ok')).mono ?_
      rintro x' e1 m' M1 ⟨rfl, rfl, rfl, rfl⟩
      exact ⟨hx, rfl, rfl, rfl, rfl⟩
  intro φ a w k1 k2 k3 k4
  obtain ⟨φ2, g1, g2, g3, g4, g5⟩ := To.by keep tbl0 hn0 h0 h1 ok0 φ φ L w w a k1 k2 (Stp.refl _ _ _)
  refine wp_mono (main φ2 a w g1 g2 g3 hb) ?_
  rintro x' a' w' ⟨φ', e, m, M, hR, q1, q2, q3, q4, q5, q6⟩
  exact ⟨φ', e, m, M, hR, q1, q2, q3, q4, g4.trans q5, fun i hi => (q6 i hi).trans (g5 i hi)⟩

/-- A loop of N rounds whose blocks may move, with a table a round. tbl0: the numbers at its begin; tbl: those behind a round; tbl': those behind the last. -/
theorem Ex.movesT {P : Program} (hm : P.follows .mixedOrders = true) {b : Nat} {c : Code} {env : List V} {n : Nat} {L : Hp} {n0 : Nat} {x : Exit} {e' : List V} {M' : Hp} {n1 : Nat} (keep : List Nat) (N : Nat) (E : Nat → List V) (H : Nat → Hp) (tbl0 : List Nat) (tbl : Nat → List Nat)
    (hn0 : tbl0.length = n0) (hn : ∀ j, (tbl j).length = n0) (h0 : wkE keep 0 env = (E 0).map (renV (rn tbl0 0))) (h1 : MemP (rn tbl0 0) L (H 0)) (ok0 : okSt b tbl0 (E 0) (H 0) = true) (ok : ∀ j, okSt b (tbl j) (E (j + 1)) (H (j + 1)) = true)
    (step : ∀ j, j < N → Rnd P b c (tbl j) keep (E j) n0 (H j) (E (j + 1)) (H (j + 1)))
    (keep' tbl' : List Nat) (hn' : tbl'.length = n1) (hx : x ≠ .normal) (ok' : okSt b tbl' e' M' = true)
    (last : Lst P b c tbl' keep' (E N) n0 (H N) x e' M') :
    Ex P b (.loop c) env n L (One x e' n1 M') := by
  have hb : b ≤ n0 := by
    simp only [okSt, Bool.and_eq_true] at ok0
    rw [← hn0]; exact Nat.le_of_ble_eq_true ok0.2
  have hb1 : b ≤ n1 := by
    simp only [okSt, Bool.and_eq_true] at ok'
    rw [← hn']; exact Nat.le_of_ble_eq_true ok'.2
  have main : Ex P b (.loop c) (E 0) n0 (H 0) (One x e' n1 M') := by
    refine Ex.loopT (fun k env L => ∃ j, j + k = N ∧ env = E j ∧ L = H j) hb ?_ ?_ N (E 0) (H 0) ⟨0, by omega, rfl, rfl⟩
    · rintro k env L ⟨j, hj, rfl, rfl⟩
      obtain ⟨ans, e, m, M, as, C, h2, h3, h4, h5⟩ := step j (by omega)
      refine (runC_ok hm _ _ _ _ ans _ _ _ _ as C h2 h3).mono ?_
      rintro x' e1 m' M1 ⟨rfl, rfl, rfl, rfl⟩
      exact .inl ⟨rfl, _, _, To.by keep (tbl j) (hn j) h4 h5 (ok j), j + 1, by omega, rfl, rfl⟩
    · rintro env L ⟨j, hj, rfl, rfl⟩
      obtain rfl : j = N := by omega
      obtain ⟨ans, e, m, M, as, C, h2, h3, h4, h5⟩ := last
      refine ((runC_ok hm _ _ _ _ ans _ _ _ _ as C h2 h3).to hb1 (To.by keep' tbl' hn' h4 h5 ok')).mono ?_
      rintro x' e1 m' M1 ⟨rfl, rfl, rfl, rfl⟩
      exact ⟨hx, rfl, rfl, rfl, rfl⟩
  intro φ a w k1 k2 k3 k4
  obtain ⟨φ2, g1, g2, g3, g4, g5⟩ := To.by keep tbl0 hn0 h0 h1 ok0 φ φ L w w a k1 k2 (Stp.refl _ _ _)
  refine wp_mono (main φ2 a w g1 g2 g3 hb) ?_
  rintro x' a' w' ⟨φ', e, m, M, hR, q1, q2, q3, q4, q5, q6⟩
  exact ⟨φ', e, m, M, hR, q1, q2, q3, q4, g4.trans q5, fun i hi => (q6 i hi).trans (g5 i hi)⟩

end Ab
end Go.Proofs.YtgbkllbaojkfmaaGreatDoor
/-
  The frame, part 14: loops that end because a measure falls.
-/
set_option linter.unusedSimpArgs false
set_option linter.unusedVariables false
namespace Go.Proofs.YtgbkllbaojkfmaaGreatDoor
namespace Ab
open Go

/-- A loop over states s: E s, H s are what is known there; each round leads to a state of smaller measure, or leaves the loop as (x, e', M'). -/
theorem Ex.whiles {P : Program} (hm : P.follows .mixedOrders = true) {b : Nat} {c : Code} {env : List V} {n : Nat} {L : Hp} {n0 : Nat} {x : Exit} {e' : List V} {M' : Hp} {n1 : Nat} {σ : Type} (E : σ → List V) (H : σ → Hp) (I : σ → Prop) (mu : σ → Nat) (s0 : σ)
    (keep tbl0 tbl : List Nat) (hn0 : tbl0.length = n0) (hn : tbl.length = n0) (h0 : wkE keep 0 env = (E s0).map (renV (rn tbl0 0))) (h1 : MemP (rn tbl0 0) L (H s0)) (ok0 : okSt b tbl0 (E s0) (H s0) = true) (ok : ∀ s, okSt b tbl (E s) (H s) = true) (i0 : I s0)
    (keep' tbl' : List Nat) (hn' : tbl'.length = n1) (hx : x ≠ .normal) (ok' : okSt b tbl' e' M' = true)
    (step : ∀ s, I s → (∃ s', I s' ∧ mu s' < mu s ∧ Rnd P b c tbl keep (E s) n0 (H s) (E s') (H s')) ∨ Lst P b c tbl' keep' (E s) n0 (H s) x e' M') :
    Ex P b (.loop c) env n L (One x e' n1 M') := by
  have hb : b ≤ n0 := by
    simp only [okSt, Bool.and_eq_true] at ok0
    rw [← hn0]; exact Nat.le_of_ble_eq_true ok0.2
  have hb1 : b ≤ n1 := by
    simp only [okSt, Bool.and_eq_true] at ok'
    rw [← hn']; exact Nat.le_of_ble_eq_true ok'.2
  have fin : ∀ s, Lst P b c tbl' keep' (E s) n0 (H s) x e' M' → Ex P b c (E s) n0 (H s) (One x e' n1 M') := by
    rintro s ⟨ans, e, m, M, as, C, h2, h3, h4, h5⟩
    exact (runC_ok hm _ _ _ _ ans _ _ _ _ as C h2 h3).to hb1 (To.by keep' tbl' hn' h4 h5 ok')
  have main : Ex P b (.loop c) (E s0) n0 (H s0) (One x e' n1 M') := by
    refine Ex.loopT (fun k env L => ∃ s, I s ∧ mu s ≤ k ∧ env = E s ∧ L = H s) hb ?_ ?_ (mu s0) (E s0) (H s0) ⟨s0, i0, Nat.le_refl _, rfl, rfl⟩
    · rintro k env L ⟨s, hI, hmu, rfl, rfl⟩
      rcases step s hI with ⟨s', hI', hlt, ans, e, m, M, as, C, h2, h3, h4, h5⟩ | hl
      · refine (runC_ok hm _ _ _ _ ans _ _ _ _ as C h2 h3).mono ?_
        rintro x' e1 m' M1 ⟨rfl, rfl, rfl, rfl⟩
        exact .inl ⟨rfl, _, _, To.by keep tbl hn h4 h5 (ok s'), s', hI', by omega, rfl, rfl⟩
      · refine (fin s hl).mono ?_
        rintro x' e1 m' M1 ⟨rfl, rfl, rfl, rfl⟩
        exact .inr ⟨hx, rfl, rfl, rfl, rfl⟩
    · rintro env L ⟨s, hI, hmu, rfl, rfl⟩
      rcases step s hI with ⟨s', hI', hlt, _⟩ | hl
      · omega
      · refine (fin s hl).mono ?_
        rintro x' e1 m' M1 ⟨rfl, rfl, rfl, rfl⟩
        exact ⟨hx, rfl, rfl, rfl, rfl⟩
  intro φ a w k1 k2 k3 k4
  obtain ⟨φ2, g1, g2, g3, g4, g5⟩ := To.by keep tbl0 hn0 h0 h1 ok0 φ φ L w w a k1 k2 (Stp.refl _ _ _)
  refine wp_mono (main φ2 a w g1 g2 g3 hb) ?_
  rintro x' a' w' ⟨φ', e, m, M, hR, q1, q2, q3, q4, q5, q6⟩
  exact ⟨φ', e, m, M, hR, q1, q2, q3, q4, g4.trans q5, fun i hi => (q6 i hi).trans (g5 i hi)⟩

end Ab
end Go.Proofs.YtgbkllbaojkfmaaGreatDoor
/-
  The frame, part 15: pieces of code joined; what is known beside a piece.
-/
set_option linter.unusedSimpArgs false
set_option linter.unusedVariables false
namespace Go.Proofs.YtgbkllbaojkfmaaGreatDoor
namespace Ab
open Go

/-- a piece of code, by its path: 0 left or inside, 1 right or else -/
def sub : List Nat → Code → Code
  | [], c => c
  | 0 :: p, .seq a _ => sub p a
  | _ :: p, .seq _ b => sub p b
  | _ :: p, .block _ c => sub p c
  | _ :: p, .loop c => sub p c
  | 0 :: p, .cond _ a _ => sub p a
  | _ :: p, .cond _ _ b => sub p b
  | _, c => c

section
variable {P : Program} {b : Nat} {env : List V} {n : Nat} {L : Hp} {R : Post}
theorem Ex.cat {x y : Code} {e : List V} {m : Nat} {M : Hp} (h : Ex P b x env n L (One .normal e m M)) (k : Ex P b y e m M R) : Ex P b (.seq x y) env n L R := by
  refine Ex.seq (h.mono ?_)
  rintro z e' m' M' ⟨rfl, rfl, rfl, rfl⟩
  exact k
theorem Ex.blk {id : Nat} {c : Code} {e : List V} {m : Nat} {M : Hp} (h : Ex P b c env n L (One .normal e m M)) : Ex P b (.block id c) env n L (One .normal e m M) := by
  refine Ex.block (h.mono ?_)
  rintro z e' m' M' ⟨rfl, rfl, rfl, rfl⟩
  exact ⟨rfl, rfl, rfl, rfl⟩
theorem Ex.less {c : Code} {b' : Nat} (h : Ex P b c env n L R) (hb : b' ≤ b) (hn : b ≤ n) : Ex P b' c env n L R := by
  intro φ a w h1 h2 h3 h4
  refine wp_mono (h φ a w h1 h2 h3 hn) ?_
  rintro x a' w' ⟨φ', e, m, M, hR, k1, k2, k3, k4, k5, k6⟩
  exact ⟨φ', e, m, M, hR, k1, k2, k3, by omega, k5, fun i hi => k6 i (by omega)⟩
theorem Ex.stage (hm : P.follows .mixedOrders = true) {c : Code} {x : Exit} {e' : List V} {m' : Nat} {M' : Hp} (tbl keep : List Nat) (hn : tbl.length = m') (ok : okSt b tbl e' M' = true) (h : Lst P b c tbl keep env n L x e' M') : Ex P b c env n L (One x e' m' M') := by
  obtain ⟨ans, e, m, M, as, C, h2, h3, h4, h5⟩ := h
  have hb1 : b ≤ m' := by
    simp only [okSt, Bool.and_eq_true] at ok
    rw [← hn]; exact Nat.le_of_ble_eq_true ok.2
  exact (runC_ok hm _ _ _ _ ans _ _ _ _ as C h2 h3).to hb1 (To.by keep tbl hn h4 h5 ok)
end

theorem lk_app {L F : Hp} {i : Nat} (h : i ∉ keys L) : lk (L ++ F) i = lk F i := by
  induction L with
  | nil => rfl
  | cons x t ih =>
    obtain ⟨j, b⟩ := x
    simp only [keys, List.map_cons, List.mem_cons, not_or] at h
    rw [List.cons_append, lk_cons, if_neg (Ne.symm h.1)]
    exact ih h.2
theorem lk_app_in {L F : Hp} {i : Nat} (h : i ∈ keys L) : lk (L ++ F) i = lk L i := by
  induction L with
  | nil => simp [keys] at h
  | cons x t ih =>
    obtain ⟨j, b⟩ := x
    rw [List.cons_append, lk_cons, lk_cons]
    split
    · rfl
    · rename_i hj
      simp only [keys, List.map_cons, List.mem_cons] at h
      exact ih (h.resolve_left fun e => hj e.symm)
theorem lk_none {L : Hp} {i : Nat} (h : i ∉ keys L) : lk L i = none := by
  induction L with
  | nil => rfl
  | cons x t ih =>
    obtain ⟨j, b⟩ := x
    simp only [keys, List.map_cons, List.mem_cons, not_or] at h
    rw [lk_cons, if_neg (Ne.symm h.1)]
    exact ih h.2

/-- no number of F is one of L -/
def apart (L F : Hp) : Bool := (keys F).all fun i => !(keys L).elem i

/-- What is known beside L, under numbers that stay, is known behind the piece, too. -/
theorem Ex.framed {P : Program} {b : Nat} {c : Code} {env : List V} {n : Nat} {L : Hp} {x : Exit} {e : List V} {m : Nat} {M0 : Hp} (F : Hp) (h : Ex P b c env n L (One x e m M0)) (hF : okH b F = true) (ha : apart L F = true) : Ex P b c env n (L ++ F) (One x e m (M0 ++ F)) := by
  intro φ a w h1 h2 h3 h4
  have hap : ∀ i, i ∈ keys F → i ∉ keys L := by
    intro i hi hl
    have := List.all_eq_true.1 ha i hi
    rw [List.elem_eq_true_of_mem hl] at this; cases this
  have hs : Sub L (L ++ F) := by
    intro i bl hi
    have : i ∈ keys L := by
      rcases Classical.em (i ∈ keys L) with h | h
      · exact h
      · rw [lk_none h] at hi; cases hi
    rw [lk_app_in this]; exact hi
  have hin : ∀ i bl, i ∉ keys L → lk F i = some bl → lk L i = none ∧ lk (L ++ F) i = some bl := fun i bl hi hf => ⟨lk_none hi, by rw [lk_app hi]; exact hf⟩
  refine wp_mono (h φ a w h1 (h2.sub hs) h3 h4) ?_
  rintro x' a' w' ⟨φ', e', m', M', ⟨rfl, rfl, rfl, rfl⟩, g1, hg', k3, k4, st, k6⟩
  -- a block of F: under the same number, not written
  have out : ∀ i bl, i ∉ keys L → lk F i = some bl → ∃ c0, φ i = some c0 ∧ φ' i = some c0 ∧ c0.1 < w.heap.size ∧ ¬ Wr φ L c0.1 ∧ BlAt φ' w' c0 bl := by
    intro i bl hi hf
    obtain ⟨c0, hc0, hat⟩ := h2.hr i bl (hin i bl hi hf).2
    obtain ⟨hib, hok⟩ := okH_at hF hf
    have hnw : ¬ Wr φ L c0.1 := by
      rintro ⟨j, bj, cj, hj, hpj, hcc, hro⟩
      rcases h2.inj i j bl bj c0 cj (hin i bl hi hf).2 (hs j bj hj) hc0 hpj hcc.symm with rfl | ⟨_, e⟩
      · rw [(hin i bl hi hf).1] at hj; cases hj
      · rw [e] at hro; cases hro
    refine ⟨c0, hc0, by rw [k6 i hib]; exact hc0, hat.lt, hnw, ?_⟩
    refine (hat.cut hok).mono ?_ (st.keep c0.1 hat.lt hnw)
    intro j d hj
    simp only [cutPh] at hj
    split at hj
    · rename_i hjb; rw [k6 j hjb]; exact hj
    · cases hj
  have split : ∀ i bl, lk (M' ++ F) i = some bl → lk M' i = some bl ∨ (i ∉ keys L ∧ lk F i = some bl) := by
    intro i bl hi
    rcases Classical.em (i ∈ keys M') with hk | hk
    · rw [lk_app_in hk] at hi; exact .inl hi
    · rw [lk_app hk] at hi
      refine .inr ⟨hap i ?_, hi⟩
      rcases Classical.em (i ∈ keys F) with h | h
      · exact h
      · rw [lk_none h] at hi; cases hi
  have cross : ∀ i j bl bl' c1 c2, i ∉ keys L → lk F i = some bl → φ' i = some c1 → lk M' j = some bl' → φ' j = some c2 → c1.1 = c2.1 → bl.ro = true ∧ bl'.ro = true := by
    intro i j bl bl' c1 c2 hi hf hc1 hj hpj hcc
    obtain ⟨c0, q1, q2, q3, q4, q5⟩ := out i bl hi hf
    rw [q2] at hc1; cases hc1
    obtain ⟨k, bk, ck, hk, hpk, hck, hr, _⟩ := st.fresh j bl' c2 hj hpj (hcc ▸ q3)
    rcases h2.inj i k bl bk c1 ck (hin i bl hi hf).2 (hs k bk hk) q1 hpk (hcc.trans hck.symm) with rfl | ⟨e1, e2⟩
    · rw [(hin i bl hi hf).1] at hk; cases hk
    · exact ⟨e1, hr e2⟩
  refine ⟨φ', _, _, _, ⟨rfl, rfl, rfl, rfl⟩, g1, ⟨fun i bl hi => ?_, fun i j bl bl' c1 c2 hi hj hc1 hc2 hcc => ?_⟩, k3, k4, ⟨st.os, st.tape, st.output, st.size, fun d hd hn => ?_, fun j bl c1 hj hp hlt => ?_⟩, k6⟩
  · rcases split i bl hi with h | ⟨hn, hf⟩
    · exact hg'.hr i bl h
    · obtain ⟨c0, q1, q2, q3, q4, q5⟩ := out i bl hn hf
      exact ⟨c0, q2, q5⟩
  · rcases split i bl hi with h | ⟨hn, hf⟩ <;> rcases split j bl' hj with k | ⟨kn, kf⟩
    · exact hg'.inj i j bl bl' c1 c2 h k hc1 hc2 hcc
    · exact .inr (cross j i bl' bl c2 c1 kn kf hc2 h hc1 hcc.symm).symm
    · exact .inr (cross i j bl bl' c1 c2 hn hf hc1 k hc2 hcc)
    · obtain ⟨d1, q1, q2, _⟩ := out i bl hn hf
      obtain ⟨d2, p1, p2, _⟩ := out j bl' kn kf
      rw [q2] at hc1; cases hc1
      rw [p2] at hc2; cases hc2
      exact h2.inj i j bl bl' c1 c2 (hin i bl hn hf).2 (hin j bl' kn kf).2 q1 p1 hcc
  · exact st.keep d hd fun ⟨i, bl, c0, hi, hp, hcc, hro⟩ => hn ⟨i, bl, c0, hs i bl hi, hp, hcc, hro⟩
  · rcases split j bl hj with h | ⟨hn, hf⟩
    · obtain ⟨k, bk, c0, hk, hpk, hcc, hr⟩ := st.fresh j bl c1 h hp hlt
      exact ⟨k, bk, c0, hs k bk hk, hpk, hcc, hr⟩
    · obtain ⟨c0, q1, q2, _⟩ := out j bl hn hf
      rw [q2] at hp; cases hp
      exact ⟨j, bl, c1, (hin j bl hn hf).2, q1, rfl, id, .inl rfl⟩

end Ab
end Go.Proofs.YtgbkllbaojkfmaaGreatDoor
