/-
  FieldMoves: for every field, string, list of numbers and flag the statement returns true and leaves its arguments as they were. No condition.
-/
import Derived.Test.YtgnidbokllmhhaaLq
import Derived.Test.YtgnidbokllmhhaaLx
set_option linter.unusedSimpArgs false
set_option linter.unusedVariables false
namespace Go.Proofs.Ytgnidbokllmhhaa.Moves
open Go Ab
open Go.ChangeShapes Go.WideShapes Go.ChangeAt Go.RowKit
open Go.ChangeMaps (open_string shut_string)
set_option maxRecDepth 100000

theorem str_mk (s : ByteArray) (φ : Ph) : Vr φ (.s (.str s.data.toList)) (.string s) := by
  show Value.string s = .string ⟨s.data.toList.toArray⟩
  simp

theorem ro1 {ty : TypeId} {C : List S} : ∀ i bl, lk [(0, some (bR ty true C))] i = some bl → bl.ro = true := by
  intro i bl h
  rw [lk_cons] at h
  split at h
  · cases h; rfl
  · simp [lk] at h

/-- the numbering that knows one block -/
def ph1 (b : Nat) : Ph := fun i => if i = 0 then some b else none
theorem ph1_good {W : World} {b : Nat} {ty : TypeId} {C : List S} (h : BlAt (ph1 b) W b (bR ty true C)) : Ab.Good (ph1 b) [(0, some (bR ty true C))] W := by
  refine ⟨fun i bl hi => ?_, fun i j bl bl' c hi hj _ _ => ?_⟩
  · rw [lk_cons] at hi
    split at hi
    · rename_i e; subst e; cases hi; exact ⟨b, rfl, h⟩
    · simp [lk] at hi
  · exact .inr ⟨ro1 i bl hi, ro1 j bl' hj⟩
theorem ph1_none (b : Nat) : ∀ i, 1 ≤ i → ph1 b i = none := fun i hi => by unfold ph1; rw [if_neg (by omega)]
theorem no_good (W : World) : Ab.Good (fun _ => none) [] W := ⟨fun i bl h => by simp [lk] at h, fun i j bl bl' c h => by simp [lk] at h⟩
theorem no_ro : ∀ i bl, lk ([] : Hp) i = some bl → bl.ro = true := fun i bl h => by simp [lk] at h

theorem walk (W : World) (f : Fsp) (hf : f.ok) (v0 v2 : Value) (s : ByteArray) (ex : Bool) (h0 : ∀ φ : Ph, Vr φ f.v v0) (h2 : UsIn W v2) :
    Calls Try.prog 3 #[v0, .string s, v2, .bool ex] W fun e W' => e = .returned (.bool true) ∧ Below W.heap.size W W' := by
  cases h2 with
  | nil h =>
    subst h
    cases ex with
    | false => exact SC.law (xs := [v0, .string s, .slice none 0 0, .bool false]) (moves_Anil f hf s.data.toList) no_ro ⟨h0 _, str_mk s _, ⟨rfl, rfl, rfl⟩, rfl, trivial⟩ (no_good W) (fun _ _ => rfl)
    | true => exact SC.law (xs := [v0, .string s, .slice none 0 0, .bool true]) (moves_Cnil f hf s.data.toList) no_ro ⟨h0 _, str_mk s _, ⟨rfl, rfl, rfl⟩, rfl, trivial⟩ (no_good W) (fun _ _ => rfl)
  | emp a h =>
    subst h
    cases ex with
    | false => exact SC.law (xs := [v0, .string s, .slice (some a) 0 0, .bool false]) (moves_Aemp f hf s.data.toList) no_ro ⟨h0 _, str_mk s _, ⟨a, rfl⟩, rfl, trivial⟩ (no_good W) (fun _ _ => rfl)
    | true => exact SC.law (xs := [v0, .string s, .slice (some a) 0 0, .bool true]) (moves_Cemp f hf s.data.toList) no_ro ⟨h0 _, str_mk s _, ⟨a, rfl⟩, rfl, trivial⟩ (no_good W) (fun _ _ => rfl)
  | blk b ty C g o m cap h hm hg hC ho hat =>
    subst h
    cases ex with
    | false => exact SC.law (xs := [v0, .string s, .slice (some ⟨b, o, none⟩) m cap, .bool false]) (moves_B f hf s.data.toList ty true C g hg o m none hC) ro1 ⟨h0 _, str_mk s _, ⟨b, cap, rfl, rfl, hm, .inl rfl⟩, rfl, trivial⟩ (ph1_good (hat _)) (ph1_none b)
    | true => exact SC.law (xs := [v0, .string s, .slice (some ⟨b, o, none⟩) m cap, .bool true]) (moves_D f hf s.data.toList ty true C g hg o m none hC ho) ro1 ⟨h0 _, str_mk s _, ⟨b, cap, rfl, rfl, hm, .inl rfl⟩, rfl, trivial⟩ (ph1_good (hat _)) (ph1_none b)

set_option maxHeartbeats 4000000 in
theorem lifted (os : Os) (started : os.Started) (H : Type) (enc : TypeId × Value → H) :
    ReturnsInHanded {} Try.checked os 3 .any (Rows.fieldMovesSpec.pre6 enc Try.prog Try.f3 Rows.fieldMovesRow.domain false) (Rows.fieldMovesSpec.post enc Try.prog Try.f3 false true false false) := by
  refine returnsInHanded_of_change (C := Try.checked) own started (by kernel_rfl) Try.func3
    (ChangeSpec.witness6 (enc := enc) (C := Try.checked) false ⟨#[], #[.agg #[.int .i64 0, .int .u64 0, .int .u64 0, .int .i64 0, .int .i64 0, .int .i64 0, .int .i64 0, .int .i64 0, .int .i64 0], .string ⟨#[]⟩, .slice none 0 0, .bool false], []⟩ 8 (by kernel_rfl) (by kernel_rfl) (by kernel_rfl) (by kernel_rfl)) ?_
  intro W base args ds gs before hval0 hW hcnd _
  have hval : ∀ (j : Nat) t v, Try.f3.params[j]? = some t → args[j]? = some v → Value.okWide Try.prog W .any base t v := hval0
  have hW' := hW
  obtain ⟨p, q, hA0, hV, rfl, hfz, hnd⟩ := hW
  have hA : DataW.TrodAll enc Try.prog W 0 (fun _ => true) true Try.f3.params.toList args.toList ds p := hA0
  rw [Try.params3] at hA hval
  obtain ⟨v0, vs0, d0, ds0, p0, q0, hargs, rfl, rfl, h0, r0⟩ := trodAll_cons hA
  obtain ⟨v1, vs1, d1, ds1, p1, q1, rfl, rfl, rfl, h1, r1⟩ := trodAll_cons r0
  obtain ⟨v2, vs2, d2, ds2, p2, q2, rfl, rfl, rfl, h2, r2⟩ := trodAll_cons r1
  obtain ⟨v3, vs3, d3, ds3, p3, q3, rfl, rfl, rfl, h3, r3⟩ := trodAll_cons r2
  obtain ⟨rfl, rfl, rfl⟩ := trodAll_nil r3
  obtain rfl : args = #[v0, v1, v2, v3] := by cases args; simp_all
  obtain ⟨rfl, rfl⟩ := trodVars_none hV
  have lt0 : ∀ x ∈ p0, x.block < W.heap.size := by obtain ⟨m, hm⟩ := h0; exact DataW.trod_lt m _ _ _ hm
  have lt1 : ∀ x ∈ p1, x.block < W.heap.size := by obtain ⟨m, hm⟩ := h1; exact DataW.trod_lt m _ _ _ hm
  have lt2 : ∀ x ∈ p2, x.block < W.heap.size := by obtain ⟨m, hm⟩ := h2; exact DataW.trod_lt m _ _ _ hm
  have lt3 : ∀ x ∈ p3, x.block < W.heap.size := by obtain ⟨m, hm⟩ := h3; exact DataW.trod_lt m _ _ _ hm
  obtain ⟨f, hf, hfv⟩ := open_fs (hval 0 26 v0 rfl rfl) h0
  have hus := open_us (hval 2 27 v2 rfl rfl) h2
  obtain ⟨s, rfl, _, _, _⟩ := open_string Try.underlying9 (hval 1 9 v1 rfl rfl) h1
  obtain ⟨ex, rfl, _, _⟩ := open_bool Try.underlying4 (hval 3 4 v3 rfl rfl) h3
  clear hA0 hval0
  refine (walk W f hf v0 v2 s ex hfv hus).mono fun e W' ⟨he, bel⟩ => ?_
  subst he
  exact ⟨_, rfl, _, _, _, [], _, [], hW', trodAll_mk1 (shut_bool Try.underlying4 _),
    (trodAll_cons_mk (Below.trod laidOut (by kernel_rfl) (of_decide_eq_true (by kernel_rfl)) h0 bel lt0) (trodAll_cons_mk (Below.trod laidOut (by kernel_rfl) (of_decide_eq_true (by kernel_rfl)) h1 bel lt1)
      (trodAll_cons_mk (Below.trod laidOut (by kernel_rfl) (of_decide_eq_true (by kernel_rfl)) h2 bel lt2) (trodAll_cons_mk (Below.trod laidOut (by kernel_rfl) (of_decide_eq_true (by kernel_rfl)) h3 bel lt3) trodAll_mk0)))), rfl, bel.frame _, fun h => by cases h⟩

theorem over : Rows.fieldMovesRow.holds Try.pinned (OpenSpec.ofChange Rows.fieldMovesSpec) :=
  OpenClaim.holds_of_wide 3 Try.f3 rfl rfl rfl rfl rfl rfl rfl ⟨rfl, rfl, rfl, rfl, rfl⟩ rfl rfl rfl rfl rfl (by kernel_rfl) Try.func3 (by kernel_rfl)
    (of_decide_eq_true (by kernel_rfl)) (by unfold Func.isWrapper; first | (rw [if_pos (by decide +kernel)]; kernel_rfl) | (rw [if_neg (by decide +kernel)]; exact ⟨rfl, rfl⟩))
    (fun os started H enc _ => lifted os started H enc)

end Go.Proofs.Ytgnidbokllmhhaa.Moves
namespace Go.Proofs.Ytgnidbokllmhhaa
theorem fieldMoves : Rows.FieldMovesSaid := Moves.over
end Go.Proofs.Ytgnidbokllmhhaa
