/-
  The frame, part 4: code; numbers renamed; contracts and calls.
-/
import Derived.Test.YtbokilgdefkmiaaGreatDoorAb3
import Derived.LoopN
set_option linter.unusedSimpArgs false
set_option linter.unusedVariables false
namespace Go.Proofs.YtbokilgdefkmiaaGreatDoor
namespace Ab
open Go

abbrev Post := Exit → List V → Nat → Hp → Prop

/-- c, begun in a state that fits (env, L), numbers from n on being free, ends in a state that fits one that R allows. -/
def Ex (P : Program) (b : Nat) (c : Code) (env : List V) (n : Nat) (L : Hp) (R : Post) : Prop :=
  ∀ (φ : Ph) (a : Act) (w : World), EnvR φ env a → Good φ L w → (∀ i, n ≤ i → φ i = none) → b ≤ n →
    c.wp P (fun x a' w' => ∃ φ' env' n' L', R x env' n' L' ∧ EnvR φ' env' a' ∧ Good φ' L' w' ∧ (∀ i, n' ≤ i → φ' i = none) ∧ b ≤ n' ∧ Stp φ L w φ' L' w' ∧ (∀ i, i < b → φ' i = φ i)) a w

section
variable {P : Program} {b : Nat} {env : List V} {n : Nat} {L : Hp} {R R' : Post}

theorem Ex.mono {c : Code} (h : Ex P b c env n L R) (hr : ∀ x e m M, R x e m M → R' x e m M) : Ex P b c env n L R' := by
  intro φ a w h1 h2 h3 h4
  refine wp_mono (h φ a w h1 h2 h3 h4) ?_
  rintro x a' w' ⟨φ', e, m, M, hR, rest⟩
  exact ⟨φ', e, m, M, hr _ _ _ _ hR, rest⟩

theorem Ex.here {c : Code} {x : Exit} (hc : ∀ (Q : Exit → Act → World → Prop) a w, Q x a w → c.wp P Q a w) (h : R x env n L) : Ex P b c env n L R := by
  intro φ a w h1 h2 h3 h4
  exact hc _ a w ⟨φ, env, n, L, h, h1, h2, h3, h4, Stp.refl _ _ _, fun _ _ => rfl⟩
theorem Ex.skip (h : R .normal env n L) : Ex P b .skip env n L R := Ex.here (fun _ _ _ h => wp_skip h) h
theorem Ex.ret (h : R .ret env n L) : Ex P b .ret env n L R := Ex.here (fun _ _ _ h => wp_ret h) h
theorem Ex.exit {id : Nat} (h : R (.exit id) env n L) : Ex P b (.exit id) env n L R := Ex.here (fun _ _ _ h => wp_exit h) h

/-- what is to be shown behind the first of two pieces -/
def Then (P : Program) (b : Nat) (y : Code) (R : Post) : Post
  | .normal, e, m, M => Ex P b y e m M R
  | x, e, m, M => R x e m M

theorem Ex.seq {x y : Code} (h : Ex P b x env n L (Then P b y R)) : Ex P b (.seq x y) env n L R := by
  intro φ a w h1 h2 h3 h4
  refine wp_seq (wp_mono (h φ a w h1 h2 h3 h4) ?_)
  rintro e a' w' ⟨φ', e', m, M, hR, g1, g2, g3, g4, g5, g6⟩
  cases e with
  | normal =>
    simp only [Exit.then]
    refine wp_mono (hR φ' a' w' g1 g2 g3 g4) ?_
    rintro x a'' w'' ⟨φ'', e'', m', M', hR', k1, k2, k3, k4, k5, k6⟩
    exact ⟨φ'', e'', m', M', hR', k1, k2, k3, k4, g5.trans k5, fun i hi => (k6 i hi).trans (g6 i hi)⟩
  | _ => exact ⟨φ', e', m, M, hR, g1, g2, g3, g4, g5, g6⟩

theorem Ex.cond {c : Operand} {x y : Code} {t : Bool} (hc : ev env c = .s (.bool t)) (h : Ex P b (match t with | true => x | false => y) env n L R) : Ex P b (.cond c x y) env n L R := by
  intro φ a w h1 h2 h3 h4
  have := h1.ev c
  rw [hc] at this
  simp only [Vr, Sr] at this
  refine wp_cond this ?_
  have h' := h φ a w h1 h2 h3 h4
  cases t <;> exact h'

def InBlock (id : Nat) (R : Post) : Post
  | .exit id', e, m, M => match Nat.beq id' id with | true => R .normal e m M | false => R (.exit id') e m M
  | x, e, m, M => R x e m M

theorem Ex.block {id : Nat} {c : Code} (h : Ex P b c env n L (InBlock id R)) : Ex P b (.block id c) env n L R := by
  intro φ a w h1 h2 h3 h4
  refine wp_block (wp_mono (h φ a w h1 h2 h3 h4) ?_)
  rintro e a' w' ⟨φ', e', m, M, hR, g⟩
  cases e with
  | exit id' =>
    simp only [Exit.inBlock]
    by_cases hi : id' = id
    · subst hi
      rw [if_pos rfl]
      simp only [InBlock, Nat.beq_refl] at hR
      exact ⟨φ', e', m, M, hR, g⟩
    · rw [if_neg hi]
      simp only [InBlock, beq_no hi] at hR
      exact ⟨φ', e', m, M, hR, g⟩
  | _ => exact ⟨φ', e', m, M, hR, g⟩

/-! ### regions -/
theorem Inv.zero {rows : List Row} {φ : Ph} {a : Act} {w : World} (h1 : EnvR φ env a) (h2 : Good φ L w) (h3 : ∀ i, n ≤ i → φ i = none) (mono : ∀ i, n ≤ nAt rows n i) :
    Inv P rows env n L φ w (fun _ => false) a w := by
  refine ⟨φ, ?_, ?_, ?_, ?_, fun _ _ => rfl⟩
  · rw [eD_none _ _ _ (fun _ _ => rfl)]; exact h1
  · rw [hD_none _ _ _ (fun _ _ => rfl)]; exact h2
  · rw [hD_none _ _ _ (fun _ _ => rfl)]; exact Stp.refl _ _ _
  · intro i _ _ x hx _; exact h3 x (Nat.le_trans (mono i) hx)

theorem good_drawn {φ : Ph} {w : World} {d : Nat} (h : Good φ L w) : Good φ L { w with drawn := d } := ⟨h.hr, h.inj⟩
theorem stp_drawn {φ φ' : Ph} {L' : Hp} {w w' : World} {d : Nat} (h : Stp φ L { w with drawn := d } φ' L' w') : Stp φ L w φ' L' w' := ⟨h.os, h.tape, h.output, h.size, h.keep, h.fresh⟩

def regPost (rows : List Row) (env : List V) (n : Nat) (L : Hp) (R : Post) : Prop := R .normal (eD (fun _ => true) 0 rows env) (nAt rows n rows.length) (hD (fun _ => true) 0 rows L)

theorem Ex.regionDraw (hm : P.follows .mixedOrders = true) {id : Nat} {ops : Array Oper} {rows : List Row} (ok : RegOK ops rows) (run : RunOK P ops rows env n L) (h : regPost rows env n L R) :
    Ex P b (.region id ops true) env n L R := by
  intro φ a w h1 h2 h3 h4
  have mono : ∀ i, n ≤ nAt rows n i := fun i => by
    have := run.n_mono rows env n L 0 i (by omega)
    have m3 : nAt rows n 0 = n := by cases rows <;> rfl
    omega
  refine wp_region_any hm (any_of_inv (φ₀ := φ) (w₀ := { w with drawn := w.drawn + 1 }) ok run ?_ ops.size _ a _ (by simp) ?_ ?_ ?_)
  · rintro a' w' ⟨φ', g1, g2, g3, _, g5⟩
    refine ⟨φ', _, _, _, h, g1, g2, fun i hi => ?_, Nat.le_trans h4 (mono _), stp_drawn g3, fun i hi => g5 i (.inl (by omega))⟩
    rw [g5 i (.inr hi)]; exact h3 i (Nat.le_trans (mono _) hi)
  · rw [Array.toList_replicate]; simp [List.countP_replicate]
  · intro j o _ hD; simp [dOf, Array.getD_eq_getD_getElem?, Array.getElem?_replicate] at hD
    split at hD <;> simp at hD
  · have : dOf (Array.replicate ops.size false) = fun _ => false := by
      funext k; simp only [dOf, Array.getD_eq_getD_getElem?, Array.getElem?_replicate]; split <;> rfl
    rw [this]
    exact Inv.zero h1 (good_drawn h2) h3 mono

theorem run_text {ops : Array Oper} {Q : Exit → Act → World → Prop} {φ₀ : Ph} {w₀ : World} {L₀ : Hp} {n₀ : Nat} : ∀ (rows : List Row) (k : Nat) (env : List V) (n : Nat) (L : Hp) (φ : Ph) (a : Act) (w : World),
    (∀ j, ops[k + j]? = (rows[j]?).map (·.1)) → RunOK P ops rows env n L → EnvR φ env a → Good φ L w → (∀ i, n ≤ i → φ i = none) → n₀ ≤ n → Stp φ₀ L₀ w₀ φ L w → (∀ i, i < n₀ → φ i = φ₀ i) →
    (∀ φ' a' w', EnvR φ' (eD (fun _ => true) k rows env) a' → Good φ' (hD (fun _ => true) k rows L) w' → (∀ i, nAt rows n rows.length ≤ i → φ' i = none) →
      n₀ ≤ nAt rows n rows.length → Stp φ₀ L₀ w₀ φ' (hD (fun _ => true) k rows L) w' → (∀ i, i < n₀ → φ' i = φ₀ i) → Q .normal a' w') →
    wpOps P ops Q (List.range' k rows.length) a w
  | [], k, env, n, L, φ, a, w, _, _, h1, h2, h3, h4, h5, h6, hQ => hQ φ a w h1 h2 h3 h4 h5 h6
  | (o, r) :: rows, k, env, n, L, φ, a, w, ho, hr, h1, h2, h3, h4, h5, h6, hQ => by
    rw [List.length_cons, List.range'_succ, wpOps_cons]
    have hle := hr.1.n_le
    refine hr.1.wpOp (i := k) (by simpa using ho 0) (fun _ _ => rfl) (fun _ _ => rfl) h1 h2 (fun i hi _ => h3 i hi) ?_
    intro φ' a' w' g1 g2 g3 g4
    refine run_text rows (k + 1) _ _ _ φ' a' w' (fun j => by rw [show k + 1 + j = k + (j + 1) by omega]; simpa using ho (j + 1)) hr.2 g1 g2 ?_ (by omega) (h5.trans g3) ?_ hQ
    · intro i hi
      rw [g4 i (by omega)]; exact h3 i (by omega)
    · intro i hi
      rw [g4 i (by omega)]; exact h6 i hi

theorem Ex.regionText {id : Nat} {ops : Array Oper} {rows : List Row} (hops : rows.map (·.1) = ops.toList) (run : RunOK P ops rows env n L) (h : regPost rows env n L R) :
    Ex P b (.region id ops false) env n L R := by
  intro φ a w h1 h2 h3 h4
  have hlen : rows.length = ops.size := by rw [← Array.length_toList, ← hops, List.length_map]
  refine wp_region ?_
  rw [List.range_eq_range', ← hlen]
  refine run_text (n₀ := b) rows 0 env n L φ a w (fun j => by rw [Nat.zero_add, ← Array.getElem?_toList, ← hops, List.getElem?_map]) run h1 h2 h3 h4 (Stp.refl _ _ _) (fun _ _ => rfl) ?_
  intro φ' a' w' g1 g2 g3 g4 g5 g6
  exact ⟨φ', _, _, _, h, g1, g2, g3, g4, g5, g6⟩
end

/-! ### forgetting -/
def okS (n : Nat) : S → Bool
  | .ptr (some (i, _)) => Nat.blt i n
  | .slc (some (i, _)) _ _ => Nat.blt i n
  | .sla i g _ => Nat.blt i n && Nat.blt g n
  | .map (some i) => Nat.blt i n
  | _ => true
def okU (n : Nat) : U → Bool
  | .s x => okS n x
  | .agg l => l.all (okS n)
def okV (n : Nat) : V → Bool
  | .s x => okS n x
  | .agg l => l.all (okS n)
  | .tup l => l.all (okU n)
  | .w i g _ _ _ => Nat.blt i n && Nat.blt g n
  | _ => true
def okG (n : Nat) : Option (Nat × Nat) → Bool
  | some (g, _) => Nat.blt g n
  | none => true
def okB (n : Nat) (bl : Bl) : Bool := okG n bl.gh && match bl.flat with | true => true | false => bl.cells.all (okS n)
def okH (n : Nat) : Hp → Bool
  | [] => true
  | (i, some bl) :: t => Nat.blt i n && okB n bl && okH n t
  | (_, none) :: t => okH n t
def cutPh (n : Nat) (φ : Ph) : Ph := fun i => if i < n then φ i else none

theorem blt_iff {i n : Nat} : Nat.blt i n = true ↔ i < n := by
  unfold Nat.blt; rw [Nat.ble_eq]; omega
theorem Sr.cut {φ : Ph} {n : Nat} {x : S} {v : Value} (h : Sr φ x v) (ok : okS n x = true) : Sr (cutPh n φ) x v := by
  cases x with
  | unk | bool | int | str | junk | emp | fn | gp => exact h
  | map a =>
    rcases a with _ | i
    · exact h
    · obtain ⟨b, hb, hv⟩ := h; exact ⟨b, by simp only [cutPh, if_pos (blt_iff.1 ok)]; exact hb, hv⟩
  | sla i g m =>
    simp only [okS, Bool.and_eq_true] at ok
    obtain ⟨b, k, hb, hg, hv⟩ := h
    exact ⟨b, k, by simp only [cutPh, if_pos (blt_iff.1 ok.1)]; exact hb, by simp only [cutPh, if_pos (blt_iff.1 ok.2)]; exact hg, hv⟩
  | ptr a =>
    rcases a with _ | ⟨i, o⟩
    · exact h
    · obtain ⟨b, hb, hv⟩ := h; exact ⟨b, by simp only [cutPh, if_pos (blt_iff.1 ok)]; exact hb, hv⟩
  | slc a m c =>
    rcases a with _ | ⟨i, o⟩
    · exact h
    · obtain ⟨b, k, hb, hv⟩ := h; exact ⟨b, k, by simp only [cutPh, if_pos (blt_iff.1 ok)]; exact hb, hv⟩
theorem all2_cut {φ : Ph} {n : Nat} : ∀ {l : List S} {xs : List Value}, All2 (Sr φ) l xs → l.all (okS n) = true → All2 (Sr (cutPh n φ)) l xs
  | [], [], _, _ => trivial
  | _ :: _, _ :: _, h, ok => by
    simp only [List.all_cons, Bool.and_eq_true] at ok
    exact ⟨h.1.cut ok.1, all2_cut h.2 ok.2⟩
  | [], _ :: _, h, _ => h.elim
  | _ :: _, [], h, _ => h.elim
theorem Ur.cut {φ : Ph} {n : Nat} {x : U} {v : Value} (h : Ur φ x v) (ok : okU n x = true) : Ur (cutPh n φ) x v := by
  cases x with
  | s x => exact Sr.cut h ok
  | agg l => obtain ⟨xs, hv, ha⟩ := h; exact ⟨xs, hv, all2_cut ha ok⟩
theorem all2_cutU {φ : Ph} {n : Nat} : ∀ {l : List U} {xs : List Value}, All2 (Ur φ) l xs → l.all (okU n) = true → All2 (Ur (cutPh n φ)) l xs
  | [], [], _, _ => trivial
  | _ :: _, _ :: _, h, ok => by
    simp only [List.all_cons, Bool.and_eq_true] at ok
    exact ⟨h.1.cut ok.1, all2_cutU h.2 ok.2⟩
  | [], _ :: _, h, _ => h.elim
  | _ :: _, [], h, _ => h.elim
theorem Vr.cut {φ : Ph} {n : Nat} {x : V} {v : Value} (h : Vr φ x v) (ok : okV n x = true) : Vr (cutPh n φ) x v := by
  cases x with
  | any => trivial
  | undef => exact h
  | s x => exact Sr.cut h ok
  | agg l => obtain ⟨xs, hv, ha⟩ := h; exact ⟨xs, hv, all2_cut ha ok⟩
  | tup l => obtain ⟨xs, hv, ha⟩ := h; exact ⟨xs, hv, all2_cutU ha ok⟩
  | w i g sz j m =>
    simp only [okV, Bool.and_eq_true] at ok
    obtain ⟨b, k, hb, hg, hv⟩ := h
    exact ⟨b, k, by simp only [cutPh, if_pos (blt_iff.1 ok.1)]; exact hb, by simp only [cutPh, if_pos (blt_iff.1 ok.2)]; exact hg, hv⟩
theorem all2_cutV {φ : Ph} {n : Nat} : ∀ {l : List V} {xs : List Value}, All2 (Vr φ) l xs → l.all (okV n) = true → All2 (Vr (cutPh n φ)) l xs
  | [], [], _, _ => trivial
  | _ :: _, _ :: _, h, ok => by
    simp only [List.all_cons, Bool.and_eq_true] at ok
    exact ⟨h.1.cut ok.1, all2_cutV h.2 ok.2⟩
  | [], _ :: _, h, _ => h.elim
  | _ :: _, [], h, _ => h.elim
theorem okH_at {n : Nat} : ∀ {L : Hp} {i : Nat} {bl : Bl}, okH n L = true → lk L i = some bl → i < n ∧ okB n bl = true
  | [], _, _, _, h => by simp [lk] at h
  | (j, c) :: t, i, bl, ok, h => by
    rw [lk_cons] at h
    cases c with
    | none =>
      simp only [okH] at ok
      split at h
      · cases h
      · exact okH_at ok h
    | some c =>
      simp only [okH, Bool.and_eq_true] at ok
      split at h
      · rename_i e; subst e; cases h; exact ⟨blt_iff.1 ok.1.1, ok.1.2⟩
      · exact okH_at ok.2 h
theorem BlAt.cut {φ : Ph} {n : Nat} {w : World} {b : Nat × Nat} {bl : Bl} (h : BlAt φ w b bl) (ok : okB n bl = true) : BlAt (cutPh n φ) w b bl := by
  obtain ⟨pre, xs, rest, fr, h1, hp, h2, h3, h4, h5⟩ := h
  unfold okB at ok
  simp only [Bool.and_eq_true] at ok
  obtain ⟨okg, ok⟩ := ok
  refine ⟨pre, xs, rest, fr, h1, hp, ?_, h3, h4, fun g z e => ?_, h5.2⟩
  rotate_left
  · obtain ⟨k, hk, hz⟩ := h5.1 g z e
    rw [e] at okg
    exact ⟨k, by simp only [cutPh, if_pos (blt_iff.1 okg)]; exact hk, hz⟩
  unfold Bl.ph at h2 ⊢
  cases hf : bl.flat with
  | true => simp only [hf] at h2 ⊢; exact h2
  | false => simp only [hf] at h2 ok ⊢; exact all2_cut h2 ok
theorem Good.cut {φ : Ph} {n : Nat} {L : Hp} {w : World} (h : Good φ L w) (ok : okH n L = true) : Good (cutPh n φ) L w := by
  refine ⟨fun i bl hi => ?_, fun i j bl bl' b b' hi hj hb hb' => ?_⟩
  · obtain ⟨b, hb, hat⟩ := h.hr i bl hi
    obtain ⟨hlt, hok⟩ := okH_at ok hi
    exact ⟨b, by simp only [cutPh, if_pos hlt]; exact hb, hat.cut hok⟩
  · have h1 := (okH_at ok hi).1
    have h2 := (okH_at ok hj).1
    simp only [cutPh, if_pos h1] at hb
    simp only [cutPh, if_pos h2] at hb'
    exact h.inj i j bl bl' b b' hi hj hb hb'

/-- the slots that are kept -/
def wkE (keep : List Nat) : Nat → List V → List V
  | _, [] => []
  | i, v :: t => (match keep.elem i with | true => v | false => .any) :: wkE keep (i + 1) t
theorem wkE_r {φ : Ph} {keep : List Nat} : ∀ {i : Nat} {env : List V} {xs : List Value}, All2 (Vr φ) env xs → All2 (Vr φ) (wkE keep i env) xs
  | _, [], [], _ => trivial
  | i, v :: t, x :: xs, h => by
    simp only [wkE]
    refine ⟨?_, wkE_r h.2⟩
    cases keep.elem i
    · trivial
    · exact h.1
  | _, [], _ :: _, h => h.elim
  | _, _ :: _, [], h => h.elim

/-- From (env, L) on one may go on as if in (env', L'), numbers from n on being free. -/
structure Wk (n : Nat) (env : List V) (L : Hp) (env' : List V) (L' : Hp) : Prop where
  e : ∀ φ xs, All2 (Vr φ) env xs → All2 (Vr φ) env' xs
  l : ∀ φ w, Good φ L w → Good φ L' w
  s : ∀ i bl, lk L' i = some bl → ∃ bl', lk L i = some bl' ∧ (bl'.ro = true → bl.ro = true)
  okE : env'.all (okV n) = true
  okL : okH n L' = true

theorem Wk.of {n : Nat} {env : List V} {L : Hp} {env' : List V} {L' : Hp} (keep : List Nat) (he : wkE keep 0 env = env') (hl : Sub L' L) (o1 : env'.all (okV n) = true) (o2 : okH n L' = true) : Wk n env L env' L' :=
  ⟨fun φ xs h => he ▸ wkE_r h, fun _ _ h => h.sub hl, fun i bl h => ⟨bl, hl i bl h, id⟩, o1, o2⟩

theorem Wk.use {n : Nat} {env : List V} {L : Hp} {env' : List V} {L' : Hp} (h : Wk n env L env' L') {φ₀ φ : Ph} {L₀ : Hp} {w₀ w : World} {a : Act} (h1 : EnvR φ env a) (h2 : Good φ L w) (h3 : Stp φ₀ L₀ w₀ φ L w) :
    EnvR (cutPh n φ) env' a ∧ Good (cutPh n φ) L' w ∧ (∀ i, n ≤ i → cutPh n φ i = none) ∧ Stp φ₀ L₀ w₀ (cutPh n φ) L' w ∧ (∀ i, i < n → cutPh n φ i = φ i) := by
  refine ⟨⟨h1.1, all2_cutV (h.e φ _ h1.2) h.okE⟩, (h.l φ w h2).cut h.okL, fun i hi => by simp [cutPh]; omega, ⟨h3.os, h3.tape, h3.output, h3.size, h3.keep, ?_⟩, fun i hi => by simp [cutPh, hi]⟩
  intro j bl b hj hb hlt
  obtain ⟨bl', hj', hro⟩ := h.s j bl hj
  simp only [cutPh] at hb
  split at hb
  · obtain ⟨k, bk, c, hk, hpk, hc, hr, ho⟩ := h3.fresh j bl' b hj' hb hlt
    exact ⟨k, bk, c, hk, hpk, hc, fun e => hro (hr e), ho⟩
  · cases hb

theorem Ex.wk {P : Program} {b : Nat} {c : Code} {env : List V} {n : Nat} {L : Hp} {R : Post} {n' : Nat} {env' : List V} {L' : Hp} (hb : b ≤ n') (h : Wk n' env L env' L') (hx : Ex P b c env' n' L' R) : Ex P b c env n L R := by
  intro φ a w h1 h2 h3 h4
  obtain ⟨g1, g2, g3, g4, g5⟩ := h.use h1 h2 (Stp.refl φ L w)
  refine wp_mono (hx _ a w g1 g2 g3 hb) ?_
  rintro x a' w' ⟨φ', e, m, M, hR, k1, k2, k3, k4, k5, k6⟩
  exact ⟨φ', e, m, M, hR, k1, k2, k3, k4, g4.trans k5, fun i hi => (k6 i hi).trans (g5 i (by omega))⟩

/-! ### loops: I counts the rounds that are still to come -/
theorem Ex.loop {P : Program} {b : Nat} {c : Code} {n : Nat} {R : Post} (I : Nat → List V → Hp → Prop) (hb : b ≤ n)
    (step : ∀ k env L, I (k + 1) env L → Ex P b c env n L fun x e m M => (x = .normal ∧ ∃ e' M', Wk n e M e' M' ∧ I k e' M') ∨ (x ≠ .normal ∧ R x e m M))
    (last : ∀ env L, I 0 env L → Ex P b c env n L fun x e m M => x ≠ .normal ∧ R x e m M) :
    ∀ k env L, I k env L → Ex P b (.loop c) env n L R := by
  intro k env L hI φ a w h1 h2 h3 h4
  refine wp_loop_rounds (k + 1) ?_
  have key : ∀ k env L φ₁ a₁ w₁, I k env L → EnvR φ₁ env a₁ → Good φ₁ L w₁ → (∀ i, n ≤ i → φ₁ i = none) → ∀ (φ₀ : Ph) (L₀ : Hp) (w₀ : World), Stp φ₀ L₀ w₀ φ₁ L w₁ → (∀ i, i < b → φ₁ i = φ₀ i) →
      Code.rounds P c (fun x a' w' => ∃ φ' env' n' L', R x env' n' L' ∧ EnvR φ' env' a' ∧ Good φ' L' w' ∧ (∀ i, n' ≤ i → φ' i = none) ∧ b ≤ n' ∧ Stp φ₀ L₀ w₀ φ' L' w' ∧ (∀ i, i < b → φ' i = φ₀ i)) (k + 1) a₁ w₁ := by
    intro k
    induction k with
    | zero =>
      intro env L φ₁ a₁ w₁ hI h1 h2 h3 φ₀ L₀ w₀ h5 h6
      rw [rounds_succ]
      refine wp_mono (last env L hI φ₁ a₁ w₁ h1 h2 h3 hb) ?_
      rintro x a' w' ⟨φ', e, m, M, ⟨hx, hR⟩, k1, k2, k3, k4, k5, k6⟩
      cases x with
      | normal => exact absurd rfl hx
      | _ => exact ⟨φ', e, m, M, hR, k1, k2, k3, k4, h5.trans k5, fun i hi => (k6 i hi).trans (h6 i hi)⟩
    | succ k ih =>
      intro env L φ₁ a₁ w₁ hI h1 h2 h3 φ₀ L₀ w₀ h5 h6
      rw [rounds_succ]
      refine wp_mono (step k env L hI φ₁ a₁ w₁ h1 h2 h3 hb) ?_
      rintro x a' w' ⟨φ', e, m, M, hcase, k1, k2, k3, k4, k5, k6⟩
      rcases hcase with ⟨rfl, e', M', hwk, hI'⟩ | ⟨hx, hR⟩
      · simp only [Exit.then]
        obtain ⟨g1, g2, g3, g4, g5⟩ := hwk.use k1 k2 (h5.trans k5)
        exact ih e' M' _ a' w' hI' g1 g2 g3 φ₀ L₀ w₀ g4 (fun i hi => (g5 i (by omega)).trans ((k6 i hi).trans (h6 i hi)))
      · cases x with
        | normal => exact absurd rfl hx
        | _ => exact ⟨φ', e, m, M, hR, k1, k2, k3, k4, h5.trans k5, fun i hi => (k6 i hi).trans (h6 i hi)⟩
  exact key k env L φ a w hI h1 h2 h3 φ L w (Stp.refl _ _ _) (fun _ _ => rfl)

end Ab
end Go.Proofs.YtbokilgdefkmiaaGreatDoor
