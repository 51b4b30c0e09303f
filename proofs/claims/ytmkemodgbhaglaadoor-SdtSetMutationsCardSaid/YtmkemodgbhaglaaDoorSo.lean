/-
  The arguments of a statement about tables, opened for the frame; a statement out of a contract.
-/
import Derived.Test.YtmkemodgbhaglaaDoorSc
import Derived.WalkKit
import Derived.ProofKit
import Derived.OpenShut
import Derived.ShutString
import Derived.ChangeOld
import Derived.Below
import Derived.Lib.SmallJoins
set_option linter.unusedSimpArgs false
set_option linter.unusedVariables false
namespace Go.Proofs.YtmkemodgbhaglaaDoor
open Go Ab
open Go.ChangeShapes Go.WideShapes Go.ChangeAt Go.RowKit
set_option maxRecDepth 100000

theorem own : ownKnob Tryd.prog.godebug = none := by kernel_rfl
theorem laidOut : laidOutB Tryd.prog = true := by kernel_rfl

/-- a contract that hands back 'true' and may write nothing that was there -/
theorem SC.law {P : Program} {f : FuncId} {args : List V} {n : Nat} {L : Hp} {n' : Nat} {L' : Hp} (h : SC P f args n L (.s (.bool true)) n' L') (hro : ∀ i bl, lk L i = some bl → bl.ro = true) {φ : Ph} {xs : List Value} {w : World}
    (h1 : All2 (Vr φ) args xs) (h2 : Ab.Good φ L w) (h3 : ∀ i, n ≤ i → φ i = none) : Calls P f xs.toArray w fun e w' => e = .returned (.bool true) ∧ Below w.heap.size w w' := by
  refine Calls.mono (h φ xs w h1 h2 h3) ?_
  rintro e w' ⟨φ', x, rfl, hv, _, _, st, _⟩
  have hx : x = .bool true := hv
  refine ⟨by rw [hx], st.os, st.tape, st.output, st.size, fun k hk => st.keep k hk ?_⟩
  rintro ⟨i, bl, c, hl, _, _, hr⟩
  rw [hro i bl hl] at hr; cases hr
theorem no_good (W : World) : Ab.Good (fun _ => none) [] W := ⟨fun i bl h => by simp [lk] at h, fun i j bl bl' c c' h => by simp [lk] at h⟩
theorem no_ro : ∀ i bl, lk ([] : Hp) i = some bl → bl.ro = true := fun i bl h => by simp [lk] at h

theorem wf_u8 {n : Int} (h : (Lit.int .u8 n).wf = true) : 0 ≤ n ∧ n ≤ 255 := by
  simp only [Lit.wf, Bool.and_eq_true, decide_eq_true_eq] at h
  exact h
theorem wf_i64 {n : Int} (h : (Lit.int .i64 n).wf = true) : -9223372036854775808 ≤ n ∧ n ≤ 9223372036854775807 := by
  simp only [Lit.wf, Bool.and_eq_true, decide_eq_true_eq] at h
  exact h
theorem cells23 : Tryd.prog.cellsOf 23 = 4 := by kernel_rfl
theorem str_val (s : ByteArray) : Value.string s = .string ⟨s.data.toList.toArray⟩ := by cases s; simp
theorem max_len {s : ByteArray} (h : s.size ≤ maxLen) : s.data.toList.length < 9223372036854775808 := by
  have : s.data.toList.length = s.size := by cases s; simp [ByteArray.size]
  rw [this]
  exact Nat.lt_of_le_of_lt h (by decide)
section
variable {H : Type} {enc : TypeId × Value → H} {w : World} {base : Nat} {spare : Nat → Bool} {held : Bool}
theorem open_tab {r : Reach} {b0 : Nat} {v : Value} {d : DataW H} {p : List MemPlace} (hv : Value.okWide Tryd.prog w r b0 23 v) (h : DataW.Trod enc Tryd.prog w base spare held 23 v d p) :
    ∃ t : Tb, v = .agg #[.string ⟨t.sg.toArray⟩, .int .i64 t.rv, .string ⟨t.om.toArray⟩, .string ⟨t.bd.toArray⟩] ∧ t.fit := by
  obtain ⟨v0, v1, v2, v3, y0, y1, y2, y3, n, rfl, _, _, h0, h1, h2, h3⟩ := Go.Joins.open_agg4 Tryd.underlying23 (by kernel_rfl) cells23 hv h
  obtain ⟨s0, e0, _, m0⟩ := DataW.trod_string Tryd.underlying9 h0
  obtain ⟨n1, e1, _, w1⟩ := DataW.trod_int Tryd.underlying3 h1
  obtain ⟨s2, e2, _, m2⟩ := DataW.trod_string Tryd.underlying9 h2
  obtain ⟨s3, e3, _, m3⟩ := DataW.trod_string Tryd.underlying9 h3
  simp only [List.cons.injEq, and_true] at e0 e1 e2 e3
  subst e0; subst e1; subst e2; subst e3
  have w1 := wf_i64 w1
  have l0 := max_len m0
  have l2 := max_len m2
  have l3 := max_len m3
  refine ⟨⟨s0.data.toList, n1, s2.data.toList, s3.data.toList⟩, ?_, ⟨by show s0.data.toList.length < _; omega, by show s2.data.toList.length < _; omega, by show s3.data.toList.length < _; omega, w1.1, w1.2⟩⟩
  rw [str_val s0, str_val s2, str_val s3]
theorem open_s {r : Reach} {b0 : Nat} {v : Value} {d : DataW H} {p : List MemPlace} (hv : Value.okWide Tryd.prog w r b0 9 v) (h : DataW.Trod enc Tryd.prog w base spare held 9 v d p) :
    ∃ s : By, v = .string ⟨s.toArray⟩ ∧ d = .lit (.string s) := by
  obtain ⟨s, rfl, e, _, m⟩ := Go.ChangeMaps.open_string Tryd.underlying9 hv h
  exact ⟨s.data.toList, str_val s, e⟩
theorem short {s : By} (h : s.length ≤ reachBytes) : s.length < 2305843009213693952 := Nat.lt_of_le_of_lt h (by decide)
theorem open_i64 {r : Reach} {b0 : Nat} {v : Value} {d : DataW H} {p : List MemPlace} (hv : Value.okWide Tryd.prog w r b0 3 v) (h : DataW.Trod enc Tryd.prog w base spare held 3 v d p) :
    ∃ n : Int, v = .int .i64 n ∧ -9223372036854775808 ≤ n ∧ n ≤ 9223372036854775807 := by
  obtain ⟨n, rfl, _, _, hw⟩ := open_int Tryd.underlying3 hv h
  exact ⟨n, rfl, wf_i64 hw⟩
theorem open_u8 {r : Reach} {b0 : Nat} {v : Value} {d : DataW H} {p : List MemPlace} (hv : Value.okWide Tryd.prog w r b0 5 v) (h : DataW.Trod enc Tryd.prog w base spare held 5 v d p) :
    ∃ c : UInt8, v = .int .u8 ((c.toNat : Nat) : Int) := by
  obtain ⟨n, rfl, _, _, hw⟩ := open_int Tryd.underlying5 hv h
  have := wf_u8 hw
  refine ⟨bt n.toNat, ?_⟩
  rw [bt_nat, show ((n.toNat % 256 : Nat) : Int) = n by omega]
end

end Go.Proofs.YtmkemodgbhaglaaDoor
