/-
  EcReadsBack: for every delay, address, value, other address and list of waits the statement returns true and leaves its arguments as they were. No condition.
-/
import Derived.Test.YtimebhllnemnbaaEj
import Derived.Test.YtimebhllnemnbaaEo
set_option linter.unusedSimpArgs false
set_option linter.unusedVariables false
namespace Go.Proofs.Ytimebhllnemnbaa.EcReadsBack
open Go Ab
open Go.ChangeShapes Go.WideShapes Go.ChangeAt Go.RowKit
open Go.ChangeMaps (open_string shut_string)
set_option maxRecDepth 100000


theorem ro1 {ty : TypeId} {C : List S} : ∀ i bl, lk [(0, some (bRo ty true C))] i = some bl → bl.ro = true := by
  intro i bl h
  rw [lk_cons] at h
  split at h
  · cases h; rfl
  · simp [lk] at h
def ph1 (b : Nat) : Ph := fun i => if i = 0 then some b else none
theorem ph1_good {W : World} {b : Nat} {ty : TypeId} {C : List S} (h : BlAt (ph1 b) W b (bRo ty true C)) : Ab.Good (ph1 b) [(0, some (bRo ty true C))] W := by
  refine ⟨fun i bl hi => ?_, fun i j bl bl' c hi hj _ _ => ?_⟩
  · rw [lk_cons] at hi
    split at hi
    · rename_i e; subst e; cases hi; exact ⟨b, rfl, h⟩
    · simp [lk] at hi
  · exact .inr ⟨ro1 i bl hi, ro1 j bl' hj⟩
theorem ph1_none (b : Nat) : ∀ i, 1 ≤ i → ph1 b i = none := fun i hi => by unfold ph1; rw [if_neg (by omega)]

theorem walk (W : World) (D ad vv oth : Nat) (hD : D < 2 ^ 64) (ha : ad < 256) (hv : vv < 256) (ho : oth < 256) (v1 : Value) (h1 : BsIn W v1) :
    Calls Try.prog 5 #[.int .u64 ((D : Nat) : Int), .int .u8 ((ad : Nat) : Int), .int .u8 ((vv : Nat) : Int), .int .u8 ((oth : Nat) : Int), v1] W fun e W' => e = .returned (.bool true) ∧ Below W.heap.size W W' := by
  cases h1 with
  | nil h =>
    subst h
    exact SC.law (xs := [.int .u64 ((D : Nat) : Int), .int .u8 ((ad : Nat) : Int), .int .u8 ((vv : Nat) : Int), .int .u8 ((oth : Nat) : Int), .slice none 0 0]) (back_A D ad vv oth hD ha hv ho) no_ro ⟨rfl, rfl, rfl, rfl, ⟨rfl, rfl, rfl⟩, trivial⟩ (no_good W) (fun _ _ => rfl)
  | emp a h =>
    subst h
    exact SC.law (xs := [.int .u64 ((D : Nat) : Int), .int .u8 ((ad : Nat) : Int), .int .u8 ((vv : Nat) : Int), .int .u8 ((oth : Nat) : Int), .slice (some a) 0 0]) (back_E D ad vv oth hD ha hv ho) no_ro ⟨rfl, rfl, rfl, rfl, ⟨a, rfl⟩, trivial⟩ (no_good W) (fun _ _ => rfl)
  | blk bb ty C g o m cap h hm hg hC ho' hat =>
    subst h
    exact SC.law (xs := [.int .u64 ((D : Nat) : Int), .int .u8 ((ad : Nat) : Int), .int .u8 ((vv : Nat) : Int), .int .u8 ((oth : Nat) : Int), .slice (some ⟨bb, o, none⟩) m cap]) (back_B D ad vv oth hD ha hv ho ty true C g hg o m none hC) ro1 ⟨rfl, rfl, rfl, rfl, ⟨bb, cap, rfl, rfl, hm, .inl rfl⟩, trivial⟩ (ph1_good (hat _)) (ph1_none bb)

set_option maxHeartbeats 4000000 in
theorem lifted (os : Os) (started : os.Started) (H : Type) (enc : TypeId × Value → H) :
    ReturnsInHanded {} Try.checked os 5 .any (Rows.ecReadsBackSpec.pre6 enc Try.prog Try.f5 Rows.ecReadsBackRow.domain false) (Rows.ecReadsBackSpec.post enc Try.prog Try.f5 false true false false) := by
  refine returnsInHanded_of_change (C := Try.checked) own started (by kernel_rfl) Try.func5
    (ChangeSpec.witness6 (enc := enc) (C := Try.checked) false ⟨#[], #[.int .u64 0, .int .u8 0, .int .u8 0, .int .u8 0, .slice none 0 0], []⟩ 8 (by kernel_rfl) (by kernel_rfl) (by kernel_rfl) (by kernel_rfl)) ?_
  intro W base args ds gs before hval0 hW hcnd _
  have hval : ∀ (j : Nat) t v, Try.f5.params[j]? = some t → args[j]? = some v → Value.okWide Try.prog W .any base t v := hval0
  have hW' := hW
  obtain ⟨p, q, hA0, hV, rfl, hfz, hnd⟩ := hW
  have hA : DataW.TrodAll enc Try.prog W 0 (fun _ => true) true Try.f5.params.toList args.toList ds p := hA0
  rw [Try.params5] at hA hval
  obtain ⟨v0, vs0, d0, ds0, p0, q0, hargs, rfl, rfl, h0, r0⟩ := trodAll_cons hA
  obtain ⟨v1, vs1, d1, ds1, p1, q1, rfl, rfl, rfl, h1, r1⟩ := trodAll_cons r0
  obtain ⟨v2, vs2, d2, ds2, p2, q2, rfl, rfl, rfl, h2, r2⟩ := trodAll_cons r1
  obtain ⟨v3, vs3, d3, ds3, p3, q3, rfl, rfl, rfl, h3, r3⟩ := trodAll_cons r2
  obtain ⟨v4, vs4, d4, ds4, p4, q4, rfl, rfl, rfl, h4, r4⟩ := trodAll_cons r3
  obtain ⟨rfl, rfl, rfl⟩ := trodAll_nil r4
  obtain rfl : args = #[v0, v1, v2, v3, v4] := by cases args; simp_all
  obtain ⟨rfl, rfl⟩ := trodVars_none hV
  have lt0 : ∀ x ∈ p0, x.block < W.heap.size := by obtain ⟨m, hm⟩ := h0; exact DataW.trod_lt m _ _ _ hm
  have lt1 : ∀ x ∈ p1, x.block < W.heap.size := by obtain ⟨m, hm⟩ := h1; exact DataW.trod_lt m _ _ _ hm
  have lt2 : ∀ x ∈ p2, x.block < W.heap.size := by obtain ⟨m, hm⟩ := h2; exact DataW.trod_lt m _ _ _ hm
  have lt3 : ∀ x ∈ p3, x.block < W.heap.size := by obtain ⟨m, hm⟩ := h3; exact DataW.trod_lt m _ _ _ hm
  have lt4 : ∀ x ∈ p4, x.block < W.heap.size := by obtain ⟨m, hm⟩ := h4; exact DataW.trod_lt m _ _ _ hm
  obtain ⟨n0, rfl, hn0⟩ := open_u64 (hval 0 22 v0 rfl rfl) h0
  obtain ⟨n1, rfl, hn1⟩ := open_u8 (hval 1 5 v1 rfl rfl) h1
  obtain ⟨n2, rfl, hn2⟩ := open_u8 (hval 2 5 v2 rfl rfl) h2
  obtain ⟨n3, rfl, hn3⟩ := open_u8 (hval 3 5 v3 rfl rfl) h3
  have u4 := open_bs (hval 4 29 v4 rfl rfl) h4
  clear hA0 hval0
  refine (walk W n0 n1 n2 n3 hn0 hn1 hn2 hn3 v4 u4).mono fun e W' ⟨he, bel⟩ => ?_
  subst he
  exact ⟨_, rfl, _, _, _, [], _, [], hW', trodAll_mk1 (shut_bool Try.underlying4 _),
    (trodAll_cons_mk (Below.trod laidOut (by kernel_rfl) (of_decide_eq_true (by kernel_rfl)) h0 bel lt0) (trodAll_cons_mk (Below.trod laidOut (by kernel_rfl) (of_decide_eq_true (by kernel_rfl)) h1 bel lt1) (trodAll_cons_mk (Below.trod laidOut (by kernel_rfl) (of_decide_eq_true (by kernel_rfl)) h2 bel lt2) (trodAll_cons_mk (Below.trod laidOut (by kernel_rfl) (of_decide_eq_true (by kernel_rfl)) h3 bel lt3) (trodAll_cons_mk (Below.trod laidOut (by kernel_rfl) (of_decide_eq_true (by kernel_rfl)) h4 bel lt4) trodAll_mk0))))), rfl, bel.frame _, fun h => by cases h⟩

theorem over : Rows.ecReadsBackRow.holds Try.pinned (OpenSpec.ofChange Rows.ecReadsBackSpec) :=
  OpenClaim.holds_of_wide 5 Try.f5 rfl rfl rfl rfl rfl rfl rfl ⟨rfl, rfl, rfl, rfl, rfl⟩ rfl rfl rfl rfl rfl (by kernel_rfl) Try.func5 (by kernel_rfl)
    (of_decide_eq_true (by kernel_rfl)) (by unfold Func.isWrapper; first | (rw [if_pos (by decide +kernel)]; kernel_rfl) | (rw [if_neg (by decide +kernel)]; exact ⟨rfl, rfl⟩))
    (fun os started H enc _ => lifted os started H enc)

end Go.Proofs.Ytimebhllnemnbaa.EcReadsBack
namespace Go.Proofs.Ytimebhllnemnbaa
theorem ecReadsBack : Rows.EcReadsBackSaid := EcReadsBack.over
end Go.Proofs.Ytimebhllnemnbaa
