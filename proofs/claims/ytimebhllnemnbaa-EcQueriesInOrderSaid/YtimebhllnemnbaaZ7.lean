/-
  EcQueriesInOrder: for every delay and every list of bytes the statement returns true and leaves its arguments as they were. No condition.
-/
import Derived.Test.YtimebhllnemnbaaQp
import Derived.Test.YtimebhllnemnbaaEo
set_option linter.unusedSimpArgs false
set_option linter.unusedVariables false
namespace Go.Proofs.Ytimebhllnemnbaa.EcQueriesInOrder
open Go Ab
open Go.ChangeShapes Go.WideShapes Go.ChangeAt Go.RowKit
open Go.ChangeMaps (open_string shut_string)
set_option maxRecDepth 100000


theorem ro1 {bl0 : Bl} (h0 : bl0.ro = true) : ∀ i bl, lk [(0, some bl0)] i = some bl → bl.ro = true := by
  intro i bl h
  rw [lk_cons] at h
  split at h
  · cases h; exact h0
  · simp [lk] at h
def phO (b o : Nat) : Ph := fun i => if i = 0 then some (b, o) else none
theorem phO_good {W : World} {b o : Nat} {bl0 : Bl} (h0 : bl0.ro = true) (h : BlAt (phO b o) W (b, o) bl0) : Ab.Good (phO b o) [(0, some bl0)] W := by
  refine ⟨fun i bl hi => ?_, fun i j bl bl' c c' hi hj _ _ _ => ?_⟩
  · rw [lk_cons] at hi
    split at hi
    · rename_i e; subst e; cases hi; exact ⟨(b, o), rfl, h⟩
    · simp [lk] at hi
  · exact .inr ⟨ro1 h0 i bl hi, ro1 h0 j bl' hj⟩
theorem phO_none (b o : Nat) : ∀ i, 1 ≤ i → phO b o i = none := fun i hi => by unfold phO; rw [if_neg (by omega)]

theorem walk (W : World) (D : Nat) (v1 : Value) (h1 : BsIn W v1) :
    Calls Try.prog 7 #[.int .u64 ((D : Nat) : Int), v1] W fun e W' => e = .returned (.bool true) ∧ Below W.heap.size W W' := by
  cases h1 with
  | nil h =>
    subst h
    exact SC.law (xs := [.int .u64 ((D : Nat) : Int), .slice none 0 0]) (queries_A D) no_ro ⟨rfl, ⟨rfl, rfl, rfl⟩, trivial⟩ (no_good W) (fun _ _ => rfl)
  | emp a h =>
    subst h
    exact SC.law (xs := [.int .u64 ((D : Nat) : Int), .slice (some a) 0 0]) (queries_E D) no_ro ⟨rfl, ⟨a, rfl⟩, trivial⟩ (no_good W) (fun _ _ => rfl)
  | blk bb ty C g o m cap h hm hg hC ho' hat =>
    subst h
    exact SC.law (xs := [.int .u64 ((D : Nat) : Int), .slice (some ⟨bb, o, none⟩) m cap]) (queries_B D ty true C o m none g hg hC) (ro1 rfl) ⟨rfl, ⟨(bb, 0), cap, rfl, rfl, hm, .inl rfl⟩, trivial⟩ (phO_good rfl (hat _)) (phO_none bb 0)

set_option maxHeartbeats 4000000 in
theorem lifted (os : Os) (started : os.Started) (H : Type) (enc : TypeId × Value → H) :
    ReturnsInHanded {} Try.checked os 7 .any (Rows.ecQueriesInOrderSpec.pre6 enc Try.prog Try.f7 Rows.ecQueriesInOrderRow.domain false) (Rows.ecQueriesInOrderSpec.post enc Try.prog Try.f7 false true false false) := by
  refine returnsInHanded_of_change (C := Try.checked) own started (by kernel_rfl) Try.func7
    (ChangeSpec.witness6 (enc := enc) (C := Try.checked) false ⟨#[], #[.int .u64 0, .slice none 0 0], []⟩ 8 (by kernel_rfl) (by kernel_rfl) (by kernel_rfl) (by kernel_rfl)) ?_
  intro W base args ds gs before hval0 hW hcnd _
  have hval : ∀ (j : Nat) t v, Try.f7.params[j]? = some t → args[j]? = some v → Value.okWide Try.prog W .any base t v := hval0
  have hW' := hW
  obtain ⟨p, q, hA0, hV, rfl, hfz, hnd⟩ := hW
  have hA : DataW.TrodAll enc Try.prog W 0 (fun _ => true) true Try.f7.params.toList args.toList ds p := hA0
  rw [Try.params7] at hA hval
  obtain ⟨v0, vs0, d0, ds0, p0, q0, hargs, rfl, rfl, h0, r0⟩ := trodAll_cons hA
  obtain ⟨v1, vs1, d1, ds1, p1, q1, rfl, rfl, rfl, h1, r1⟩ := trodAll_cons r0
  obtain ⟨rfl, rfl, rfl⟩ := trodAll_nil r1
  obtain rfl : args = #[v0, v1] := by cases args; simp_all
  obtain ⟨rfl, rfl⟩ := trodVars_none hV
  have lt0 : ∀ x ∈ p0, x.block < W.heap.size := by obtain ⟨m, hm⟩ := h0; exact DataW.trod_lt m _ _ _ hm
  have lt1 : ∀ x ∈ p1, x.block < W.heap.size := by obtain ⟨m, hm⟩ := h1; exact DataW.trod_lt m _ _ _ hm
  obtain ⟨n0, rfl, hn0⟩ := open_u64 (hval 0 22 v0 rfl rfl) h0
  have u1 := open_bs (hval 1 29 v1 rfl rfl) h1
  clear hA0 hval0
  refine (walk W n0 v1 u1).mono fun e W' ⟨he, bel⟩ => ?_
  subst he
  exact ⟨_, rfl, _, _, _, [], _, [], hW', trodAll_mk1 (shut_bool Try.underlying4 _),
    (trodAll_cons_mk (Below.trod laidOut (by kernel_rfl) (of_decide_eq_true (by kernel_rfl)) h0 bel lt0) (trodAll_cons_mk (Below.trod laidOut (by kernel_rfl) (of_decide_eq_true (by kernel_rfl)) h1 bel lt1) trodAll_mk0)), rfl, bel.frame _, fun h => by cases h⟩

theorem over : Rows.ecQueriesInOrderRow.holds Try.pinned (OpenSpec.ofChange Rows.ecQueriesInOrderSpec) :=
  OpenClaim.holds_of_wide 7 Try.f7 rfl rfl rfl rfl rfl rfl rfl ⟨rfl, rfl, rfl, rfl, rfl⟩ rfl rfl rfl rfl rfl (by kernel_rfl) Try.func7 (by kernel_rfl)
    (of_decide_eq_true (by kernel_rfl)) (by unfold Func.isWrapper; first | (rw [if_pos (by decide +kernel)]; kernel_rfl) | (rw [if_neg (by decide +kernel)]; exact ⟨rfl, rfl⟩))
    (fun os started H enc _ => lifted os started H enc)

end Go.Proofs.Ytimebhllnemnbaa.EcQueriesInOrder
namespace Go.Proofs.Ytimebhllnemnbaa
theorem ecQueriesInOrder : Rows.EcQueriesInOrderSaid := EcQueriesInOrder.over
end Go.Proofs.Ytimebhllnemnbaa
