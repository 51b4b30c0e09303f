/-
  EcTimeout: for every timeout, list of waits and flag the statement returns true and leaves its arguments as they were. No condition.
-/
import Derived.Test.YtimebhllnemnbaaEg
import Derived.Test.YtimebhllnemnbaaEo
set_option linter.unusedSimpArgs false
set_option linter.unusedVariables false
namespace Go.Proofs.Ytimebhllnemnbaa.EcTimeout
open Go Ab
open Go.ChangeShapes Go.WideShapes Go.ChangeAt Go.RowKit
open Go.ChangeMaps (open_string shut_string)
set_option maxRecDepth 100000


theorem ro1 {ty : TypeId} {C : List S} : ∀ i bl, lk [(0, some (bRo ty true C))] i = some bl → bl.ro = true := by
  intro i bl h
  rw [lk_cons] at h
  split at h
  · cases h; rfl
  · simp [lk] at h
def ph1 (b : Nat) : Ph := fun i => if i = 0 then some b else none
theorem ph1_good {W : World} {b : Nat} {ty : TypeId} {C : List S} (h : BlAt (ph1 b) W b (bRo ty true C)) : Ab.Good (ph1 b) [(0, some (bRo ty true C))] W := by
  refine ⟨fun i bl hi => ?_, fun i j bl bl' c hi hj _ _ => ?_⟩
  · rw [lk_cons] at hi
    split at hi
    · rename_i e; subst e; cases hi; exact ⟨b, rfl, h⟩
    · simp [lk] at hi
  · exact .inr ⟨ro1 i bl hi, ro1 j bl' hj⟩
theorem ph1_none (b : Nat) : ∀ i, 1 ≤ i → ph1 b i = none := fun i hi => by unfold ph1; rw [if_neg (by omega)]

theorem walk (W : World) (D : Nat) (hD : D < 2 ^ 64) (v1 : Value) (b : Bool) (h1 : BsIn W v1) :
    Calls Try.prog 4 #[.int .u64 ((D : Nat) : Int), v1, .bool b] W fun e W' => e = .returned (.bool true) ∧ Below W.heap.size W W' := by
  cases h1 with
  | nil h =>
    subst h
    cases b with
    | false => exact SC.law (xs := [.int .u64 ((D : Nat) : Int), .slice none 0 0, .bool false]) (timeout_Ar D hD) no_ro ⟨rfl, ⟨rfl, rfl, rfl⟩, rfl, trivial⟩ (no_good W) (fun _ _ => rfl)
    | true => exact SC.law (xs := [.int .u64 ((D : Nat) : Int), .slice none 0 0, .bool true]) (timeout_Aw D hD) no_ro ⟨rfl, ⟨rfl, rfl, rfl⟩, rfl, trivial⟩ (no_good W) (fun _ _ => rfl)
  | emp a h =>
    subst h
    cases b with
    | false => exact SC.law (xs := [.int .u64 ((D : Nat) : Int), .slice (some a) 0 0, .bool false]) (timeout_Er D hD) no_ro ⟨rfl, ⟨a, rfl⟩, rfl, trivial⟩ (no_good W) (fun _ _ => rfl)
    | true => exact SC.law (xs := [.int .u64 ((D : Nat) : Int), .slice (some a) 0 0, .bool true]) (timeout_Ew D hD) no_ro ⟨rfl, ⟨a, rfl⟩, rfl, trivial⟩ (no_good W) (fun _ _ => rfl)
  | blk bb ty C g o m cap h hm hg hC ho hat =>
    subst h
    cases b with
    | false => exact SC.law (xs := [.int .u64 ((D : Nat) : Int), .slice (some ⟨bb, o, none⟩) m cap, .bool false]) (timeout_Br D hD ty true C g hg o m none hC) ro1 ⟨rfl, ⟨bb, cap, rfl, rfl, hm, .inl rfl⟩, rfl, trivial⟩ (ph1_good (hat _)) (ph1_none bb)
    | true => exact SC.law (xs := [.int .u64 ((D : Nat) : Int), .slice (some ⟨bb, o, none⟩) m cap, .bool true]) (timeout_Bw D hD ty true C g hg o m none hC) ro1 ⟨rfl, ⟨bb, cap, rfl, rfl, hm, .inl rfl⟩, rfl, trivial⟩ (ph1_good (hat _)) (ph1_none bb)

set_option maxHeartbeats 4000000 in
theorem lifted (os : Os) (started : os.Started) (H : Type) (enc : TypeId × Value → H) :
    ReturnsInHanded {} Try.checked os 4 .any (Rows.ecTimeoutSpec.pre6 enc Try.prog Try.f4 Rows.ecTimeoutRow.domain false) (Rows.ecTimeoutSpec.post enc Try.prog Try.f4 false true false false) := by
  refine returnsInHanded_of_change (C := Try.checked) own started (by kernel_rfl) Try.func4
    (ChangeSpec.witness6 (enc := enc) (C := Try.checked) false ⟨#[], #[.int .u64 0, .slice none 0 0, .bool false], []⟩ 8 (by kernel_rfl) (by kernel_rfl) (by kernel_rfl) (by kernel_rfl)) ?_
  intro W base args ds gs before hval0 hW hcnd _
  have hval : ∀ (j : Nat) t v, Try.f4.params[j]? = some t → args[j]? = some v → Value.okWide Try.prog W .any base t v := hval0
  have hW' := hW
  obtain ⟨p, q, hA0, hV, rfl, hfz, hnd⟩ := hW
  have hA : DataW.TrodAll enc Try.prog W 0 (fun _ => true) true Try.f4.params.toList args.toList ds p := hA0
  rw [Try.params4] at hA hval
  obtain ⟨v0, vs0, d0, ds0, p0, q0, hargs, rfl, rfl, h0, r0⟩ := trodAll_cons hA
  obtain ⟨v1, vs1, d1, ds1, p1, q1, rfl, rfl, rfl, h1, r1⟩ := trodAll_cons r0
  obtain ⟨v2, vs2, d2, ds2, p2, q2, rfl, rfl, rfl, h2, r2⟩ := trodAll_cons r1
  obtain ⟨rfl, rfl, rfl⟩ := trodAll_nil r2
  obtain rfl : args = #[v0, v1, v2] := by cases args; simp_all
  obtain ⟨rfl, rfl⟩ := trodVars_none hV
  have lt0 : ∀ x ∈ p0, x.block < W.heap.size := by obtain ⟨m, hm⟩ := h0; exact DataW.trod_lt m _ _ _ hm
  have lt1 : ∀ x ∈ p1, x.block < W.heap.size := by obtain ⟨m, hm⟩ := h1; exact DataW.trod_lt m _ _ _ hm
  have lt2 : ∀ x ∈ p2, x.block < W.heap.size := by obtain ⟨m, hm⟩ := h2; exact DataW.trod_lt m _ _ _ hm
  obtain ⟨n0, rfl, hn0⟩ := open_u64 (hval 0 22 v0 rfl rfl) h0
  have u1 := open_bs (hval 1 29 v1 rfl rfl) h1
  obtain ⟨b2, rfl, _, _⟩ := open_bool Try.underlying4 (hval 2 4 v2 rfl rfl) h2
  clear hA0 hval0
  refine (walk W n0 hn0 v1 b2 u1).mono fun e W' ⟨he, bel⟩ => ?_
  subst he
  exact ⟨_, rfl, _, _, _, [], _, [], hW', trodAll_mk1 (shut_bool Try.underlying4 _),
    (trodAll_cons_mk (Below.trod laidOut (by kernel_rfl) (of_decide_eq_true (by kernel_rfl)) h0 bel lt0) (trodAll_cons_mk (Below.trod laidOut (by kernel_rfl) (of_decide_eq_true (by kernel_rfl)) h1 bel lt1) (trodAll_cons_mk (Below.trod laidOut (by kernel_rfl) (of_decide_eq_true (by kernel_rfl)) h2 bel lt2) trodAll_mk0))), rfl, bel.frame _, fun h => by cases h⟩

theorem over : Rows.ecTimeoutRow.holds Try.pinned (OpenSpec.ofChange Rows.ecTimeoutSpec) :=
  OpenClaim.holds_of_wide 4 Try.f4 rfl rfl rfl rfl rfl rfl rfl ⟨rfl, rfl, rfl, rfl, rfl⟩ rfl rfl rfl rfl rfl (by kernel_rfl) Try.func4 (by kernel_rfl)
    (of_decide_eq_true (by kernel_rfl)) (by unfold Func.isWrapper; first | (rw [if_pos (by decide +kernel)]; kernel_rfl) | (rw [if_neg (by decide +kernel)]; exact ⟨rfl, rfl⟩))
    (fun os started H enc _ => lifted os started H enc)

end Go.Proofs.Ytimebhllnemnbaa.EcTimeout
namespace Go.Proofs.Ytimebhllnemnbaa
theorem ecTimeout : Rows.EcTimeoutSaid := EcTimeout.over
end Go.Proofs.Ytimebhllnemnbaa
