/-
  A value among the arguments, opened for the frame; integers likewise.
-/
import Derived.Test.YtgnidbokllmhhaaLx
import Derived.Test.YtgnidbokllmhhaaLy
set_option linter.unusedSimpArgs false
set_option linter.unusedVariables false
namespace Go.Proofs.Ytgnidbokllmhhaa
open Go Ab
open Go.ChangeShapes Go.WideShapes Go.ChangeAt Go.RowKit
set_option maxRecDepth 100000

section
variable {H : Type} {enc : TypeId × Value → H} {w : World} {base : Nat} {spare : Nat → Bool} {held : Bool}
theorem list4 {α : Type} {l : List α} (h : l.length = 4) : ∃ a b c d, l = [a, b, c, d] := by
  match l, h with
  | [a, b, c, d], _ => exact ⟨a, b, c, d, rfl⟩
theorem cells38 : Try.prog.cellsOf 38 = 4 := by kernel_rfl
theorem cells9 : Try.prog.cellsOf 9 = 1 := by kernel_rfl
theorem open_val {r : Reach} {b0 : Nat} {v : Value} {d : DataW H} {p : List MemPlace} (hv : Value.okWide Try.prog w r b0 38 v) (h : DataW.Trod enc Try.prog w base spare held 38 v d p) :
    ∃ x : Vl, x.ok ∧ ∀ φ : Ph, Vr φ x.v v := by
  obtain ⟨cs, rfl, hsz⟩ := okWide_struct Try.underlying38 hv
  obtain ⟨l⟩ := cs
  obtain ⟨c0, c1, c2, c3, rfl⟩ := list4 (show l.length = 4 from hsz.trans cells38)
  obtain ⟨fuel, hf⟩ := h
  obtain ⟨xs, n, _, _, _, hlen, hall⟩ := DataW.trod_struct Try.underlying38 hf
  have hlen : xs.length = 4 := hlen
  have g0 : DataW.trod enc Try.prog w base spare held n 3 (([c0, c1, c2, c3].drop 0).take (Try.prog.cellsOf 3)) = xs[0]? := hall 0 _ rfl
  have g1 : DataW.trod enc Try.prog w base spare held n 22 (([c0, c1, c2, c3].drop 1).take (Try.prog.cellsOf 22)) = xs[1]? := hall 1 _ rfl
  have g2 : DataW.trod enc Try.prog w base spare held n 9 (([c0, c1, c2, c3].drop 2).take (Try.prog.cellsOf 9)) = xs[2]? := hall 2 _ rfl
  have g3 : DataW.trod enc Try.prog w base spare held n 3 (([c0, c1, c2, c3].drop 3).take (Try.prog.cellsOf 3)) = xs[3]? := hall 3 _ rfl
  have s : ∀ i, i < 4 → (xs[i]?).isSome = true := fun i hi => by rw [List.getElem?_eq_getElem (by omega)]; rfl
  obtain ⟨k, rfl, hk⟩ := one_i (k := 0) g0 (s 0 (by omega)) (c := c0) rfl
  obtain ⟨m, rfl, hm⟩ := one_u (k := 1) g1 (s 1 (by omega)) (c := c1) rfl
  obtain ⟨o, rfl, ho⟩ := one_i (k := 3) g3 (s 3 (by omega)) (c := c3) rfl
  have s2 := s 2 (by omega)
  cases hx : xs[2]? with
  | none => rw [hx] at s2; cases s2
  | some x2 =>
    rw [hx] at g2
    obtain ⟨str, e, _, hwf⟩ := DataW.trod_string Try.underlying9 g2
    rw [cells9] at e
    simp at e
    subst e
    refine ⟨⟨k, m.toNat, str.data.toList, o⟩, ⟨hk, by show m.toNat < 2 ^ 64; omega, by
      have e : str.data.toList.length = str.size := Array.length_toList
      have : maxLen = 9223372036854775807 := by decide
      show ((str.data.toList.length : Nat) : Int) ≤ _
      rw [e]; rw [this] at hwf; omega⟩, fun φ => ⟨_, rfl, rfl, ?_, ?_, rfl, trivial⟩⟩
    · show Value.int .u64 m = Value.int .u64 ((m.toNat : Nat) : Int)
      rw [show ((m.toNat : Nat) : Int) = m by omega]
    · show Value.string str = .string ⟨str.data.toList.toArray⟩
      simp
theorem open_i64 {r : Reach} {b0 : Nat} {v : Value} {d : DataW H} {p : List MemPlace} (hv : Value.okWide Try.prog w r b0 3 v) (h : DataW.Trod enc Try.prog w base spare held 3 v d p) :
    ∃ n : Int, v = .int .i64 n ∧ -9223372036854775808 ≤ n ∧ n ≤ 9223372036854775807 := by
  obtain ⟨n, rfl, _, _, hw⟩ := open_int Try.underlying3 hv h
  exact ⟨n, rfl, wf_i64 hw⟩
theorem open_u64 {r : Reach} {b0 : Nat} {v : Value} {d : DataW H} {p : List MemPlace} (hv : Value.okWide Try.prog w r b0 22 v) (h : DataW.Trod enc Try.prog w base spare held 22 v d p) :
    ∃ n : Nat, v = .int .u64 ((n : Nat) : Int) ∧ n < 2 ^ 64 := by
  obtain ⟨n, rfl, _, _, hw⟩ := open_int Try.underlying22 hv h
  have := wf_u64 hw
  exact ⟨n.toNat, by rw [show ((n.toNat : Nat) : Int) = n by omega], by omega⟩
end
theorem ro1 {ty : TypeId} {C : List S} : ∀ i bl, lk [(0, some (bR ty true C))] i = some bl → bl.ro = true := by
  intro i bl h
  rw [lk_cons] at h
  split at h
  · cases h; rfl
  · simp [lk] at h
/-- the numbering that knows one block -/
def ph1 (b : Nat) : Ph := fun i => if i = 0 then some b else none
theorem ph1_good {W : World} {b : Nat} {ty : TypeId} {C : List S} (h : BlAt (ph1 b) W b (bR ty true C)) : Ab.Good (ph1 b) [(0, some (bR ty true C))] W := by
  refine ⟨fun i bl hi => ?_, fun i j bl bl' c hi hj _ _ => ?_⟩
  · rw [lk_cons] at hi
    split at hi
    · rename_i e; subst e; cases hi; exact ⟨b, rfl, h⟩
    · simp [lk] at hi
  · exact .inr ⟨ro1 i bl hi, ro1 j bl' hj⟩
theorem ph1_none (b : Nat) : ∀ i, 1 ≤ i → ph1 b i = none := fun i hi => by unfold ph1; rw [if_neg (by omega)]
theorem str_mk (s : ByteArray) (φ : Ph) : Vr φ (.s (.str s.data.toList)) (.string s) := by
  show Value.string s = .string ⟨s.data.toList.toArray⟩
  simp

end Go.Proofs.Ytgnidbokllmhhaa
