/-
  The quick machine, part 9: code and functions; contracts out of runs.
-/
import Derived.Test.YtgbkllbaojkfmaaGreatDoorKg
set_option linter.unusedSimpArgs false
set_option linter.unusedVariables false
namespace Go.Proofs.YtgbkllbaojkfmaaGreatDoor
namespace Ab
open Go
set_option maxRecDepth 100000

/-! ### loops by rounds -/
def ExL (P : Program) (b : Nat) (c : Code) (k : Nat) (env : List V) (n : Nat) (L : Hp) (R : Post) : Prop :=
  ∀ (φ : Ph) (a : Act) (w : World), EnvR φ env a → Good φ L w → (∀ i, n ≤ i → φ i = none) → b ≤ n →
    Code.rounds P c (fun x a' w' => ∃ φ' env' n' L', R x env' n' L' ∧ EnvR φ' env' a' ∧ Good φ' L' w' ∧ (∀ i, n' ≤ i → φ' i = none) ∧ b ≤ n' ∧ Stp φ L w φ' L' w' ∧ (∀ i, i < b → φ' i = φ i)) k a w
theorem ExL.loop {P : Program} {b : Nat} {c : Code} {k : Nat} {env : List V} {n : Nat} {L : Hp} {R : Post} (h : ExL P b c k env n L R) : Ex P b (.loop c) env n L R :=
  fun φ a w h1 h2 h3 h4 => wp_loop_rounds k (h φ a w h1 h2 h3 h4)
theorem rounds_mono {P : Program} {c : Code} {Q Q' : Exit → Act → World → Prop} (hq : ∀ x a w, Q x a w → Q' x a w) : ∀ {k : Nat} {a : Act} {w : World}, Code.rounds P c Q k a w → Code.rounds P c Q' k a w
  | 0, _, _, h => h
  | k + 1, a, w, h => by
    rw [rounds_succ] at h ⊢
    refine wp_mono h ?_
    intro x a' w' hx
    cases x with
    | normal => exact rounds_mono hq hx
    | _ => exact hq _ _ _ hx
theorem ExL.step {P : Program} {b : Nat} {c : Code} {k : Nat} {env : List V} {n : Nat} {L : Hp} {R : Post} {e : List V} {m : Nat} {M : Hp} (h : Ex P b c env n L (One .normal e m M)) (hr : ExL P b c k e m M R) : ExL P b c (k + 1) env n L R := by
  intro φ a w h1 h2 h3 h4
  rw [rounds_succ]
  refine wp_mono (h φ a w h1 h2 h3 h4) ?_
  rintro x a' w' ⟨φ', e', m', M', ⟨rfl, rfl, rfl, rfl⟩, g1, g2, g3, g4, g5, g6⟩
  simp only [Exit.then]
  refine rounds_mono ?_ (hr φ' a' w' g1 g2 g3 g4)
  rintro x a'' w'' ⟨φ'', e'', m'', M'', hR, k1, k2, k3, k4, k5, k6⟩
  exact ⟨φ'', e'', m'', M'', hR, k1, k2, k3, k4, g5.trans k5, fun i hi => (k6 i hi).trans (g6 i hi)⟩
theorem ExL.last {P : Program} {b : Nat} {c : Code} {k : Nat} {env : List V} {n : Nat} {L : Hp} {x : Exit} {e : List V} {m : Nat} {M : Hp} (h : Ex P b c env n L (One x e m M)) (hx : x ≠ .normal) : ExL P b c (k + 1) env n L (One x e m M) := by
  intro φ a w h1 h2 h3 h4
  rw [rounds_succ]
  refine wp_mono (h φ a w h1 h2 h3 h4) ?_
  rintro x' a' w' ⟨φ', e', m', M', ⟨rfl, rfl, rfl, rfl⟩, g⟩
  cases x' with
  | normal => exact absurd rfl hx
  | _ => exact ⟨φ', e', m', M', ⟨rfl, rfl, rfl, rfl⟩, g⟩

/-- what is to be shown of a piece of code -/
def RunsTo (P : Program) (nt : Nat) (c : Code) (env : T V) (n : Nat) (h : T Bl) (x : Exit) (e : T V) (m : Nat) (M : T Bl) : Prop :=
  ∀ (b : Nat) (lv : List V) (L : Hp), EV nt env lv → HV L h → OE n lv → OH n L → ∃ lv' L', EV nt e lv' ∧ HV L' M ∧ OE m lv' ∧ OH m L' ∧ Ex P b c lv n L (One x lv' m L')

theorem loopF_ok {P : Program} {nt : Nat} {c : Code} {body : T V → Nat → T Bl → KO} (hb : ∀ env n h x e m M, body env n h = .ok x e m M → RunsTo P nt c env n h x e m M) : ∀ (f : Nat) (env : T V) (n : Nat) (h : T Bl) (x : Exit) (e : T V) (m : Nat) (M : T Bl),
    loopF f body env n h = .ok x e m M → ∀ (b : Nat) (lv : List V) (L : Hp), EV nt env lv → HV L h → OE n lv → OH n L → ∃ lv' L', EV nt e lv' ∧ HV L' M ∧ OE m lv' ∧ OH m L' ∧ ∃ k, ExL P b c k lv n L (One x lv' m L')
  | 0, _, _, _, _, _, _, _, hk => by cases hk
  | f + 1, env, n, h, x, e, m, M, hk => by
    intro b lv L he hv oe oh
    simp only [loopF] at hk
    split at hk
    · rename_i e1 m1 M1 h1
      obtain ⟨lv1, L1, g1, g2, g3, g4, g5⟩ := hb _ _ _ _ _ _ _ h1 b lv L he hv oe oh
      obtain ⟨lv', L', k1, k2, k3, k4, k, k5⟩ := loopF_ok hb f _ _ _ _ _ _ _ hk b lv1 L1 g1 g2 g3 g4
      exact ⟨lv', L', k1, k2, k3, k4, k + 1, ExL.step g5 k5⟩
    · rename_i hne
      obtain ⟨lv1, L1, g1, g2, g3, g4, g5⟩ := hb _ _ _ _ _ _ _ hk b lv L he hv oe oh
      refine ⟨lv1, L1, g1, g2, g3, g4, 1, ExL.last (k := 0) g5 ?_⟩
      rintro rfl
      exact hne _ _ _ hk

theorem kC_ok {P : Program} (hm : P.follows .mixedOrders = true) {kx : Oper → (Operand → V) → Nat → Hp → Option R} {cl : Cl} {lf nt : Nat} (hkx : KxOK P kx) (hcl : ClOK P cl) : ∀ (c : Code) (env : T V) (n : Nat) (h : T Bl) (x : Exit) (e : T V) (m : Nat) (M : T Bl),
    kC P kx cl lf nt c env n h = .ok x e m M → RunsTo P nt c env n h x e m M := by
  intro c
  induction c with
  | skip => intro env n h x e m M hk b lv L he hv oe oh; simp only [kC] at hk; cases hk; exact ⟨lv, L, he, hv, oe, oh, Ex.skip ⟨rfl, rfl, rfl, rfl⟩⟩
  | ret => intro env n h x e m M hk b lv L he hv oe oh; simp only [kC] at hk; cases hk; exact ⟨lv, L, he, hv, oe, oh, Ex.ret ⟨rfl, rfl, rfl, rfl⟩⟩
  | exit id => intro env n h x e m M hk b lv L he hv oe oh; simp only [kC] at hk; cases hk; exact ⟨lv, L, he, hv, oe, oh, Ex.exit ⟨rfl, rfl, rfl, rfl⟩⟩
  | seq p q ihp ihq =>
    intro env n h x e m M hk b lv L he hv oe oh
    simp only [kC] at hk
    split at hk
    · rename_i e1 m1 M1 h1
      obtain ⟨lv1, L1, g1, g2, g3, g4, g5⟩ := ihp _ _ _ _ _ _ _ h1 b lv L he hv oe oh
      obtain ⟨lv2, L2, k1, k2, k3, k4, k5⟩ := ihq _ _ _ _ _ _ _ hk b lv1 L1 g1 g2 g3 g4
      refine ⟨lv2, L2, k1, k2, k3, k4, Ex.seq (g5.mono ?_)⟩
      rintro x e m M ⟨rfl, rfl, rfl, rfl⟩
      exact k5
    · rename_i hne
      obtain ⟨lv1, L1, g1, g2, g3, g4, g5⟩ := ihp _ _ _ _ _ _ _ hk b lv L he hv oe oh
      refine ⟨lv1, L1, g1, g2, g3, g4, Ex.seq (g5.mono ?_)⟩
      rintro x' e' m' M' ⟨rfl, rfl, rfl, rfl⟩
      cases x' with
      | normal => exact absurd hk (hne _ _ _)
      | _ => exact ⟨rfl, rfl, rfl, rfl⟩
  | cond c p q ihp ihq =>
    intro env n h x e m M hk b lv L he hv oe oh
    simp only [kC] at hk
    split at hk
    · rename_i t ht
      rw [he.ev] at ht
      split at hk
      · obtain ⟨lv1, L1, g1, g2, g3, g4, g5⟩ := ihp _ _ _ _ _ _ _ hk b lv L he hv oe oh
        exact ⟨lv1, L1, g1, g2, g3, g4, Ex.cond ht g5⟩
      · obtain ⟨lv1, L1, g1, g2, g3, g4, g5⟩ := ihq _ _ _ _ _ _ _ hk b lv L he hv oe oh
        exact ⟨lv1, L1, g1, g2, g3, g4, Ex.cond ht g5⟩
    · cases hk
  | block id c ih =>
    intro env n h x e m M hk b lv L he hv oe oh
    simp only [kC] at hk
    split at hk
    · rename_i id' e1 m1 M1 h1
      obtain ⟨lv1, L1, g1, g2, g3, g4, g5⟩ := ih _ _ _ _ _ _ _ h1 b lv L he hv oe oh
      split at hk
      · rename_i hb
        cases hk
        refine ⟨lv1, L1, g1, g2, g3, g4, Ex.block (g5.mono ?_)⟩
        rintro x' e' m' M' ⟨rfl, rfl, rfl, rfl⟩
        simp only [InBlock, hb]
        exact ⟨rfl, rfl, rfl, rfl⟩
      · rename_i hb
        cases hk
        refine ⟨lv1, L1, g1, g2, g3, g4, Ex.block (g5.mono ?_)⟩
        rintro x' e' m' M' ⟨rfl, rfl, rfl, rfl⟩
        simp only [InBlock, hb]
        exact ⟨rfl, rfl, rfl, rfl⟩
    · rename_i hne
      obtain ⟨lv1, L1, g1, g2, g3, g4, g5⟩ := ih _ _ _ _ _ _ _ hk b lv L he hv oe oh
      refine ⟨lv1, L1, g1, g2, g3, g4, Ex.block (g5.mono ?_)⟩
      rintro x' e' m' M' ⟨rfl, rfl, rfl, rfl⟩
      cases x' with
      | exit id' => exact absurd hk (hne _ _ _ _)
      | _ => exact ⟨rfl, rfl, rfl, rfl⟩
  | loop c ih =>
    intro env n h x e m M hk b lv L he hv oe oh
    simp only [kC] at hk
    obtain ⟨lv', L', k1, k2, k3, k4, k, k5⟩ := loopF_ok (fun env n h x e m M hb => ih env n h x e m M hb) _ _ _ _ _ _ _ _ hk b lv L he hv oe oh
    exact ⟨lv', L', k1, k2, k3, k4, k5.loop⟩
  | region id ops d =>
    intro env n h x e m M hk b lv L he hv oe oh
    simp only [kC] at hk
    split at hk
    · rename_i hd
      obtain ⟨rows, rfl, g2, g3, g4, rfl, g6, g7, g8, g9⟩ := kOps_ok (K := ⟨P, kx, cl, nt, ops, d⟩) hkx hcl _ _ _ _ _ _ _ _ _ _ hk lv L he hv oe oh
      refine ⟨_, _, g4, g6, g7, g8, ?_⟩
      cases d with
      | false => exact Ex.regionText g2 g3 ⟨rfl, rfl, rfl, rfl⟩
      | true =>
        have hreg : regS ops = true := by simpa [notB] using hd
        refine Ex.regionDraw hm (regS_ok g2 hreg fun k k' o r o' r' hlt h1 h2 hq => ?_) g3 ⟨rfl, rfl, rfl, rfl⟩
        have := (g9 rfl).2 k k' o r o' r' hlt h1 h2 hq
        simpa using this
    · cases hk
  | rangeFunc f p a b => intro env n h x e m M hk; simp only [kC] at hk; cases hk
  | scope b => intro env n h x e m M hk; simp only [kC] at hk; cases hk
  | label l => intro env n h x e m M hk; simp only [kC] at hk; cases hk
  | goto l => intro env n h x e m M hk; simp only [kC] at hk; cases hk
  | refuse w => intro env n h x e m M hk; simp only [kC] at hk; cases hk

/-! ### functions -/
theorem resT_eq {P : Program} {fn : Func} {nt : Nat} {env : T V} {lv : List V} {h : T Bl} {L : Hp} (he : EV nt env lv) (hv : HV L h) : resT P fn env h = resV P fn lv L := by
  have one : ∀ x, resOneT P env h x = resOne P lv L x := by
    intro x
    cases x with
    | tmp t => simp only [resOneT, resOne, ← he.at' t]
    | cell t ty =>
      simp only [resOneT, resOne, ← he.at' t]
      cases lv.getD t .undef with
      | s y => cases y with
        | ptr a =>
          rcases a with _ | ⟨i, o⟩
          · rfl
          · simp only [hv i]; rfl
        | _ => rfl
      | _ => rfl
  have all : ∀ l, resLT P env h l = resL P lv L l := by
    intro l
    induction l with
    | nil => rfl
    | cons x t ih => simp only [resLT, resL, one x, ih]; rfl
  simp only [resT, resV, all]; rfl

theorem envOf_ok {nt : Nat} : ∀ (args : List V) (i : Nat) (t : T V), i + args.length ≤ nt → ∀ j, (envOf args i t).get j = if i ≤ j ∧ j < i + args.length then args[j - i]? else t.get j
  | [], i, t, _, j => by simp only [envOf, List.length_nil, Nat.add_zero]; rw [if_neg (by omega)]
  | v :: r, i, t, h, j => by
    simp only [envOf, T.putK_eq]
    rw [envOf_ok (nt := nt) r (Nat.succ i) _ (by simp at h; omega) j, T.get_put]
    simp only [List.length_cons]
    by_cases h1 : i = j
    · subst h1; rw [if_neg (by omega), if_pos rfl, if_pos (by omega)]; simp
    · by_cases h2 : i ≤ j ∧ j < i + (r.length + 1)
      · have h3 : Nat.succ i ≤ j ∧ j < Nat.succ i + r.length := by omega
        rw [if_pos h3, if_pos h2, show j - i = (j - Nat.succ i) + 1 by omega]; simp
      · rw [if_neg (by omega), if_neg h1, if_neg h2]
theorem EV.start {args : List V} {nt : Nat} (h : args.length ≤ nt) : EV nt (envOf args 0 .nil) (args ++ List.replicate (nt - args.length) .undef) := by
  refine ⟨by simp; omega, fun t => ?_⟩
  unfold getT
  rw [envOf_ok (nt := nt) args 0 .nil (by omega) t, T.get_nil]
  simp only [Nat.zero_le, true_and, Nat.zero_add, Nat.sub_zero, List.getD_eq_getElem?_getD]
  by_cases ht : t < args.length
  · rw [if_pos ht, List.getElem?_append_left ht, List.getElem?_eq_getElem ht]; rfl
  · rw [if_neg ht, List.getElem?_append_right (by omega), List.getElem?_replicate]
    split <;> rfl

theorem SC.direct {P : Program} {f : FuncId} {fn : Func} {c : Code} {args : List V} {n : Nat} {L : Hp} {x : Exit} {env : List V} {v : V} {m : Nat} {M : Hp} (hf : P.funcs[f]? = some fn) (hb : fn.body = some c)
    (h : Ex P n c (args ++ List.replicate (fn.ntmps - args.length) .undef) n L (One x env m M)) (hx : x = .ret ∨ x = .normal) (hv : resV P fn env M = some v) : SC P f args n L v m M := by
  intro φ xs w ha hg hnone
  have hlen := ha.len
  refine calls_of_wp hf hb (wp_mono (h φ _ w ⟨rfl, ?_⟩ hg hnone (Nat.le_refl _)) ?_)
  · have : (xs.toArray ++ Array.replicate (fn.ntmps - xs.toArray.size) Go.undef).toList = xs ++ List.replicate (fn.ntmps - args.length) Go.undef := by simp [hlen]
    rw [this]
    refine ha.append ?_
    generalize fn.ntmps - args.length = k
    induction k with
    | zero => simp [All2]
    | succ k ih => simp only [List.replicate_succ]; exact ⟨rfl, ih⟩
  rintro x' a' w' ⟨φ', env', m', M', ⟨rfl, rfl, rfl, rfl⟩, g1, g2, g3, g4, g5, g6⟩
  obtain ⟨y, hy, hr⟩ := resV_r g1 g2 hv
  have post : a'.defers = [] ∧ ∃ v', (results fn a'.tmps).run P w' = .ok v' w' ∧ ∃ φ' x, Ending.returned v' = .returned x ∧ Vr φ' v x ∧ Good φ' M' w' ∧ (∀ i, m' ≤ i → φ' i = none) ∧ Stp φ L w φ' M' w' ∧ n ≤ m' ∧ (∀ i, i < n → φ' i = φ i) :=
    ⟨g1.1, y, hy, φ', y, rfl, hr, g2, g3, g5, g4, g6⟩
  rcases hx with rfl | rfl <;> exact post

theorem kRun_ok {P : Program} (hm : P.follows .mixedOrders = true) {kx : Oper → (Operand → V) → Nat → Hp → Option R} {cl : Cl} {lf : Nat} (hkx : KxOK P kx) (hcl : ClOK P cl) {f : FuncId} {fn : Func} {c : Code} (hf : P.funcs[f]? = some fn) (hb : fn.body = some c)
    {args : List V} {n : Nat} {h : T Bl} {v : V} {n' : Nat} {h' : T Bl} (hk : kRun P kx lf cl fn c args n h = .ok v n' h') {L : Hp} (hv : HV L h) (oh : OH n L) (oe : OE n args) : ∃ L', HV L' h' ∧ OH n' L' ∧ okV n' v = true ∧ n ≤ n' ∧ SC P f args n L v n' L' := by
  unfold kRun at hk
  split at hk
  · cases hk
  · rename_i hlen
    have hlen := Nat.le_of_ble_eq_true hlen
    split at hk
    · cases hk
    · rename_i x e m M hc
      split at hk
      · rename_i hx
        split at hk
        · rename_i v' hr
          rw [frcW_eq] at hk
          split at hk
          · rename_i hok
            simp only [Bool.and_eq_true] at hok
            cases hk
            obtain ⟨lv', L', k1, k2, k3, k4, k5⟩ := kC_ok hm hkx hcl c _ _ _ _ _ _ _ hc n _ L (EV.start hlen) hv (fun y hy => by
              rcases List.mem_append.1 hy with hy | hy
              · exact oe y hy
              · rw [(List.mem_replicate.1 hy).2]; rfl) oh
            rw [resT_eq k1 k2] at hr
            refine ⟨L', k2, k4, hok.1, Nat.le_of_ble_eq_true hok.2, SC.direct hf hb k5 ?_ hr⟩
            cases x <;> first | exact .inl rfl | exact .inr rfl | cases hx
          · cases hk
        · cases hk
      · cases hk

theorem kF_ok {P : Program} (hm : P.follows .mixedOrders = true) {kx : Oper → (Operand → V) → Nat → Hp → Option R} (hkx : KxOK P kx) {ov : FuncId → List V → Nat → T Bl → Option KC} (hov : ∀ f args n h r, ov f args n h = some r → ∀ v n' h', r = .ok v n' h' → ∀ L, HV L h → OH n L → OE n args → ∃ L', HV L' h' ∧ OH n' L' ∧ okV n' v = true ∧ n ≤ n' ∧ CallOK P f args n L v n' L') {lf : Nat} : ∀ d, ClOK P (kF P kx ov lf d)
  | 0 => fun f args n h v n' h' hk => by cases hk
  | d + 1 => by
    intro f args n h v n' h' hk L hv oh oe
    simp only [kF] at hk
    split at hk
    · rename_i r hr
      exact hov f args n h r hr v n' h' hk L hv oh oe
    · split at hk
      · rename_i fn hf
        split at hk
        · rename_i c hb
          split at hk
          · cases hk
          · rename_i hname
            obtain ⟨L', g1, g2, g3, g5, g4⟩ := kRun_ok hm hkx (kF_ok hm hkx hov d) hf hb hk hv oh oe
            exact ⟨L', g1, g2, g3, g5, g4.callOK hf (by rw [hb]; rfl) hname⟩
        · cases hk
      · cases hk
end Ab
end Go.Proofs.YtgbkllbaojkfmaaGreatDoor
