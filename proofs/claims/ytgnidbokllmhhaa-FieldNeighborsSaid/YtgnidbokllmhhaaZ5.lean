/-
  FieldNeighbors: for every field, number, two values and list of numbers the statement returns true and leaves its arguments as they were. No condition.
-/
import Derived.Test.YtgnidbokllmhhaaLnb
import Derived.Test.YtgnidbokllmhhaaLxv
import Derived.Test.YtgnidbokllmhhaaLx
set_option linter.unusedSimpArgs false
set_option linter.unusedVariables false
namespace Go.Proofs.Ytgnidbokllmhhaa.FieldNeighbors
open Go Ab
open Go.ChangeShapes Go.WideShapes Go.ChangeAt Go.RowKit
open Go.ChangeMaps (open_string shut_string)
set_option maxRecDepth 100000

theorem no_good (W : World) : Ab.Good (fun _ => none) [] W := ⟨fun i bl h => by simp [lk] at h, fun i j bl bl' c h => by simp [lk] at h⟩
theorem no_ro : ∀ i bl, lk ([] : Hp) i = some bl → bl.ro = true := fun i bl h => by simp [lk] at h

theorem walk (W : World) (f : Fsp) (hf : f.ok) (nn : Int) (a c : Nat) (ha : a < 2 ^ 64) (hc : c < 2 ^ 64) (v0 v4 : Value) (h0 : ∀ φ : Ph, Vr φ f.v v0) (h4 : UsIn W v4) :
    Calls Try.prog 5 #[v0, .int .i64 nn, .int .u64 ((a : Nat) : Int), .int .u64 ((c : Nat) : Int), v4] W fun e W' => e = .returned (.bool true) ∧ Below W.heap.size W W' := by
  cases h4 with
  | nil h => subst h; exact SC.law (xs := [v0, .int .i64 nn, .int .u64 ((a : Nat) : Int), .int .u64 ((c : Nat) : Int), .slice none 0 0]) (neighbors_A f hf nn a c ha hc) no_ro ⟨h0 _, rfl, rfl, rfl, ⟨rfl, rfl, rfl⟩, trivial⟩ (no_good W) (fun _ _ => rfl)
  | emp x h => subst h; exact SC.law (xs := [v0, .int .i64 nn, .int .u64 ((a : Nat) : Int), .int .u64 ((c : Nat) : Int), .slice (some x) 0 0]) (neighbors_E f hf nn a c ha hc) no_ro ⟨h0 _, rfl, rfl, rfl, ⟨x, rfl⟩, trivial⟩ (no_good W) (fun _ _ => rfl)
  | blk b ty C g o m cap h hm hg hC ho hat =>
    subst h
    exact SC.law (xs := [v0, .int .i64 nn, .int .u64 ((a : Nat) : Int), .int .u64 ((c : Nat) : Int), .slice (some ⟨b, o, none⟩) m cap]) (neighbors_B f hf nn a c ha hc ty true C g hg o m none hC ho) ro1 ⟨h0 _, rfl, rfl, rfl, ⟨b, cap, rfl, rfl, hm, .inl rfl⟩, trivial⟩ (ph1_good (hat _)) (ph1_none b)

set_option maxHeartbeats 4000000 in
theorem lifted (os : Os) (started : os.Started) (H : Type) (enc : TypeId × Value → H) :
    ReturnsInHanded {} Try.checked os 5 .any (Rows.fieldNeighborsSpec.pre6 enc Try.prog Try.f5 Rows.fieldNeighborsRow.domain false) (Rows.fieldNeighborsSpec.post enc Try.prog Try.f5 false true false false) := by
  refine returnsInHanded_of_change (C := Try.checked) own started (by kernel_rfl) Try.func5
    (ChangeSpec.witness6 (enc := enc) (C := Try.checked) false ⟨#[], #[.agg #[.int .i64 0, .int .u64 0, .int .u64 0, .int .i64 0, .int .i64 0, .int .i64 0, .int .i64 0, .int .i64 0, .int .i64 0], .int .i64 0, .int .u64 0, .int .u64 0, .slice none 0 0], []⟩ 8 (by kernel_rfl) (by kernel_rfl) (by kernel_rfl) (by kernel_rfl)) ?_
  intro W base args ds gs before hval0 hW hcnd _
  have hval : ∀ (j : Nat) t v, Try.f5.params[j]? = some t → args[j]? = some v → Value.okWide Try.prog W .any base t v := hval0
  have hW' := hW
  obtain ⟨p, q, hA0, hV, rfl, hfz, hnd⟩ := hW
  have hA : DataW.TrodAll enc Try.prog W 0 (fun _ => true) true Try.f5.params.toList args.toList ds p := hA0
  rw [Try.params5] at hA hval
  obtain ⟨v0, vs0, d0, ds0, p0, q0, hargs, rfl, rfl, h0, r0⟩ := trodAll_cons hA
  obtain ⟨v1, vs1, d1, ds1, p1, q1, rfl, rfl, rfl, h1, r1⟩ := trodAll_cons r0
  obtain ⟨v2, vs2, d2, ds2, p2, q2, rfl, rfl, rfl, h2, r2⟩ := trodAll_cons r1
  obtain ⟨v3, vs3, d3, ds3, p3, q3, rfl, rfl, rfl, h3, r3⟩ := trodAll_cons r2
  obtain ⟨v4, vs4, d4, ds4, p4, q4, rfl, rfl, rfl, h4, r4⟩ := trodAll_cons r3
  obtain ⟨rfl, rfl, rfl⟩ := trodAll_nil r4
  obtain rfl : args = #[v0, v1, v2, v3, v4] := by cases args; simp_all
  obtain ⟨rfl, rfl⟩ := trodVars_none hV
  have lt0 : ∀ x ∈ p0, x.block < W.heap.size := by obtain ⟨m, hm⟩ := h0; exact DataW.trod_lt m _ _ _ hm
  have lt1 : ∀ x ∈ p1, x.block < W.heap.size := by obtain ⟨m, hm⟩ := h1; exact DataW.trod_lt m _ _ _ hm
  have lt2 : ∀ x ∈ p2, x.block < W.heap.size := by obtain ⟨m, hm⟩ := h2; exact DataW.trod_lt m _ _ _ hm
  have lt3 : ∀ x ∈ p3, x.block < W.heap.size := by obtain ⟨m, hm⟩ := h3; exact DataW.trod_lt m _ _ _ hm
  have lt4 : ∀ x ∈ p4, x.block < W.heap.size := by obtain ⟨m, hm⟩ := h4; exact DataW.trod_lt m _ _ _ hm
  obtain ⟨f0, hf0, hv0⟩ := open_fs (hval 0 26 v0 rfl rfl) h0
  obtain ⟨n1, rfl, hn1⟩ := open_i64 (hval 1 3 v1 rfl rfl) h1
  obtain ⟨n2, rfl, hn2⟩ := open_u64 (hval 2 22 v2 rfl rfl) h2
  obtain ⟨n3, rfl, hn3⟩ := open_u64 (hval 3 22 v3 rfl rfl) h3
  have u4 := open_us (hval 4 27 v4 rfl rfl) h4
  clear hA0 hval0
  refine (walk W f0 hf0 n1 n2 n3 hn2 hn3 v0 v4 hv0 u4).mono fun e W' ⟨he, bel⟩ => ?_
  subst he
  exact ⟨_, rfl, _, _, _, [], _, [], hW', trodAll_mk1 (shut_bool Try.underlying4 _),
    (trodAll_cons_mk (Below.trod laidOut (by kernel_rfl) (of_decide_eq_true (by kernel_rfl)) h0 bel lt0) (trodAll_cons_mk (Below.trod laidOut (by kernel_rfl) (of_decide_eq_true (by kernel_rfl)) h1 bel lt1) (trodAll_cons_mk (Below.trod laidOut (by kernel_rfl) (of_decide_eq_true (by kernel_rfl)) h2 bel lt2) (trodAll_cons_mk (Below.trod laidOut (by kernel_rfl) (of_decide_eq_true (by kernel_rfl)) h3 bel lt3) (trodAll_cons_mk (Below.trod laidOut (by kernel_rfl) (of_decide_eq_true (by kernel_rfl)) h4 bel lt4) trodAll_mk0))))), rfl, bel.frame _, fun h => by cases h⟩

theorem over : Rows.fieldNeighborsRow.holds Try.pinned (OpenSpec.ofChange Rows.fieldNeighborsSpec) :=
  OpenClaim.holds_of_wide 5 Try.f5 rfl rfl rfl rfl rfl rfl rfl ⟨rfl, rfl, rfl, rfl, rfl⟩ rfl rfl rfl rfl rfl (by kernel_rfl) Try.func5 (by kernel_rfl)
    (of_decide_eq_true (by kernel_rfl)) (by unfold Func.isWrapper; first | (rw [if_pos (by decide +kernel)]; kernel_rfl) | (rw [if_neg (by decide +kernel)]; exact ⟨rfl, rfl⟩))
    (fun os started H enc _ => lifted os started H enc)

end Go.Proofs.Ytgnidbokllmhhaa.FieldNeighbors
namespace Go.Proofs.Ytgnidbokllmhhaa
theorem fieldNeighbors : Rows.FieldNeighborsSaid := FieldNeighbors.over
end Go.Proofs.Ytgnidbokllmhhaa
