/-
  The package variables as blocks; a statement out of a contract.
-/
import Derived.Test.YtgbkllbaojkfmaaGreatDoorWt
import Derived.WalkKit
import Derived.ProofKit
import Derived.OpenShut
import Derived.ShutString
import Derived.ChangeOld
import Derived.Below
import Derived.Lib.SmallJoins
import Derived.Handed
import Derived.Lay
import Derived.LaidOnce
import Derived.Stop.Joined
set_option linter.unusedSimpArgs false
set_option linter.unusedVariables false
namespace Go.Proofs.YtgbkllbaojkfmaaGreatDoor
open Go Ab
open Go.ChangeShapes Go.WideShapes Go.ChangeAt Go.RowKit
set_option maxRecDepth 100000

theorem own : ownKnob Tryz.prog.godebug = none := by kernel_rfl
theorem laidOut : laidOutB Tryz.prog = true := by kernel_rfl

/-- as 'returnsInHanded_of_change_and', the world's shape being handed on -/
theorem handed_shaped {H : Type} {enc : TypeId × Value → H} {a : Assume} {C : Checked} {os : Os} {f : FuncId} {fn : Func} {s : ChangeSpec} {conds : List PathCond} {apart fresh handsOn again : Bool} {X : World → Array Value → Prop}
    (hX : ∀ (w w' : World) (args : Array Value), w.heap = w'.heap → X w args → X w' args)
    (own : ownKnob C.prog.godebug = none) (started : os.Started) (noInit : C.prog.inits.idxOf? f = none) (hfn : C.prog.funcs[f]? = some fn)
    (witness : ∃ (w : World) (tape : Tape) (i : Input), w.os = os ∧ (w.forCall tape i).Shaped C.prog ∧ i.vars = [] ∧ Input.okWide C.prog (w.forCall tape i) .any w.heap.size f i ∧
      ((s.pre enc C.prog fn conds apart (w.forCall tape i).memory i.args ∧ X (w.forCall tape i).memory i.args) ∧ sizedMet enc C.prog fn (OpenSpec.ofChange s) apart (w.forCall tape i).memory i.args) ∧ a.holds C.prog (lone (Frame.enter C.prog f i.args .normal) [] (w.forCall tape i)))
    (contract : ∀ (W : World) (base : Nat) (args : Array Value) (ds gs : List (DataW H)) (before : List MemPlace), W.ShapedOpen C.prog →
      (∀ (j : Nat) t v, fn.params[j]? = some t → args[j]? = some v → Value.okWide C.prog W .any base t v) →
      DataW.Whole enc C.prog fn.params.toList s.vars apart W args.toList ds gs before →
      conds.all (PathCond.test C.prog ⟨fn.params.toList, ds, s.plain.varTypes C.prog, gs⟩) = true →
      (DataW.weightsEach C.prog (fn.params.toList ++ s.plain.varTypes C.prog) (ds ++ gs)).all (· ≤ reachBytes) = true → X W args →
      a.holds C.prog (lone (Frame.enter C.prog f args .normal) [] W) →
      Calls C.prog f args W fun e W' => ∃ v, e = .returned v ∧ s.post enc C.prog fn apart fresh handsOn again W args v W') :
    ReturnsInHanded a C os f .any (fun w args => (s.pre enc C.prog fn conds apart w args ∧ X w args) ∧ sizedMet enc C.prog fn (OpenSpec.ofChange s) apart w args) (s.post enc C.prog fn apart fresh handsOn again) := by
  refine returnsInHanded_of_calls own started noInit witness ?_
  intro w tape i _ hsh _ hok hpre hholds
  obtain ⟨_, _, _, fn', hfn', _, _, _, _, hval⟩ := hok
  have e : fn' = fn := Option.some.inj (hfn'.symm.trans hfn)
  subst e
  obtain ⟨⟨⟨ds, gs, before, hw, hc⟩, hx⟩, hz⟩ := hpre
  have hw' := DataW.Whole.of_heap (w' := w.forCall tape i) (by rfl) hw
  refine (contract (w.forCall tape i) w.heap.size i.args ds gs before hsh hval hw' hc (hz.weights hw) (hX _ _ _ (by rfl) hx) hholds).mono fun e W' ⟨v, he, hp⟩ => ?_
  subst he
  exact ChangeSpec.post_blind hp

theorem SC.law {P : Program} {f : FuncId} {args : List V} {n : Nat} {L : Hp} {n' : Nat} {L' : Hp} (h : SC P f args n L (.s (.bool true)) n' L') (hro : ∀ i bl, lk L i = some bl → bl.ro = true) {φ : Ph} {xs : List Value} {w : World}
    (h1 : All2 (Vr φ) args xs) (h2 : Ab.Good φ L w) (h3 : ∀ i, n ≤ i → φ i = none) : Calls P f xs.toArray w fun e w' => e = .returned (.bool true) ∧ Below w.heap.size w w' := by
  refine Calls.mono (h φ xs w h1 h2 h3) ?_
  rintro e w' ⟨φ', x, rfl, hv, _, _, st, _⟩
  have hx : x = .bool true := hv
  refine ⟨by rw [hx], st.os, st.tape, st.output, st.size, fun k hk => st.keep k hk ?_⟩
  rintro ⟨i, bl, c, hl, _, _, hr⟩
  rw [hro i bl hl] at hr; cases hr

theorem str_val (s : ByteArray) : Value.string s = .string ⟨s.data.toList.toArray⟩ := by cases s; simp

/-! ### tables of pairs of strings -/
def unDs {H : Type} : List (DataW H) → List S
  | [] => []
  | .agg [.lit (.string a), .lit (.string b)] :: t => .str a :: .str b :: unDs t
  | _ :: t => unDs t
theorem cells263 : Tryz.prog.cellsOf 263 = 2 := by kernel_rfl
theorem cells9 : Tryz.prog.cellsOf 9 = 1 := by kernel_rfl
theorem pair_open {H : Type} {enc : TypeId × Value → H} {w : World} {base : Nat} {spare : Nat → Bool} {held : Bool} {fuel : Nat} {cs : List Value} {x : DataW H × List MemPlace} (h : DataW.trod enc Tryz.prog w base spare held fuel 263 cs = some x) :
    ∃ a b : List UInt8, cs = [.string ⟨a.toArray⟩, .string ⟨b.toArray⟩] ∧ x.1 = .agg [.lit (.string a), .lit (.string b)] := by
  obtain ⟨xs, m, rfl, rfl, hlen, hn, hf⟩ := DataW.trod_struct Tryz.underlying263 h
  rw [cells263] at hlen
  match cs, hlen with
  | [c0, c1], _ =>
    have f0 := hf 0 _ rfl
    have f1 := hf 1 _ rfl
    change DataW.trod enc Tryz.prog w base spare held m 9 (([c0, c1].drop 0).take (Tryz.prog.cellsOf 9)) = _ at f0
    change DataW.trod enc Tryz.prog w base spare held m 9 (([c0, c1].drop 1).take (Tryz.prog.cellsOf 9)) = _ at f1
    rw [cells9] at f0 f1
    have hn : xs.length = 2 := hn
    match xs, hn with
    | [x0, x1], _ =>
      obtain ⟨s0, e0, e0', _⟩ := DataW.trod_string Tryz.underlying9 f0
      obtain ⟨s1, e1, e1', _⟩ := DataW.trod_string Tryz.underlying9 f1
      simp at e0 e1
      subst e0; subst e1
      refine ⟨s0.data.toList, s1.data.toList, by rw [← str_val, ← str_val], ?_⟩
      simp [e0', e1']
theorem pairs_open {H : Type} {enc : TypeId × Value → H} {w : World} {base : Nat} {spare : Nat → Bool} {held : Bool} {m : Nat} {φ : Ph} : ∀ (xs : List (DataW H × List MemPlace)) (cs : List Value), cs.length = xs.length * 2 → (∀ i, i < xs.length → DataW.trod enc Tryz.prog w base spare held m 263 ((cs.drop (i * 2)).take 2) = xs[i]?) →
    All2 (Sr φ) (unDs (xs.map (·.1))) cs
  | [], [], _, _ => trivial
  | [], _ :: _, h, _ => by simp at h
  | x :: xs, [], h, _ => by simp at h
  | x :: xs, [_], h, _ => by simp at h; omega
  | x :: xs, c0 :: c1 :: cs, h, hf => by
    have h0 := hf 0 (by simp)
    simp at h0
    obtain ⟨a, b, e, ex⟩ := pair_open h0
    simp only [List.cons.injEq, and_true] at e
    obtain ⟨rfl, rfl⟩ := e
    have ih := pairs_open (φ := φ) xs cs (by simp at h; omega) (fun i hi => by
      have := hf (i + 1) (by simp; omega)
      rw [show (i + 1) * 2 = (i * 2) + 1 + 1 by omega] at this
      simpa using this)
    simp only [List.map_cons, ex, unDs]
    exact ⟨rfl, rfl, ih⟩
theorem table_open {H : Type} {enc : TypeId × Value → H} {w : World} {base : Nat} {spare : Nat → Bool} {held : Bool} {fuel : Nat} {t N : Nat} {cs : List Value} {d : DataW H} {p : List MemPlace} (ht : Tryz.prog.underlying t = some (.array N 263)) (hc : Tryz.prog.cellsOf t = N * 2) (h : DataW.trod enc Tryz.prog w base spare held fuel t cs = some (d, p)) (φ : Ph) :
    ∃ ds, d = .agg ds ∧ All2 (Sr φ) (unDs ds) cs := by
  obtain ⟨xs, m, rfl, hx, hlen, hn, hf⟩ := DataW.trod_array ht h
  simp only [Prod.mk.injEq] at hx
  refine ⟨_, hx.1, pairs_open (enc := enc) (w := w) (base := base) (spare := spare) (held := held) (m := m) xs cs (by rw [hlen, hc, hn]) (fun i hi => ?_)⟩
  have := hf i (by omega)
  rwa [cells263] at this

end Go.Proofs.YtgbkllbaojkfmaaGreatDoor
