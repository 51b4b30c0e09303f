/-
  EcTransactionsMatchModel: for every delay, list of kinds, byte, timeout and list of operations the statement returns true and leaves its arguments as they were. No condition.
-/
import Derived.Test.YtimebhllnemnbaaRl
import Derived.Test.YtimebhllnemnbaaQo
import Derived.Test.YtimebhllnemnbaaEo
set_option linter.unusedSimpArgs false
set_option linter.unusedVariables false
namespace Go.Proofs.Ytimebhllnemnbaa.EcTransactionsMatchModel
open Go Ab
open Go.ChangeShapes Go.WideShapes Go.ChangeAt Go.RowKit
open Go.ChangeMaps (open_string shut_string)
set_option maxRecDepth 100000


def ph2 (a b : Option (Nat × Nat)) : Ph := fun i => match i with | 0 => a | 1 => b | _ => none
theorem ph2_none (a b : Option (Nat × Nat)) : ∀ i, 2 ≤ i → ph2 a b i = none
  | 0, h => by omega
  | 1, h => by omega
  | _ + 2, _ => rfl
theorem good0 {W : World} {b : Nat × Nat} {bl : Bl} (h0 : bl.ro = true) (h : BlAt (ph2 (some b) none) W b bl) : Ab.Good (ph2 (some b) none) [(0, some bl)] W := by
  refine ⟨fun i bl' hi => ?_, fun i j x y c c' hi hj _ _ _ => ?_⟩
  · rw [lk_cons] at hi
    split at hi
    · rename_i e; subst e; cases hi; exact ⟨b, rfl, h⟩
    · simp [lk] at hi
  · have r : ∀ i x, lk [(0, some bl)] i = some x → x.ro = true := fun i x hi => by
      rw [lk_cons] at hi
      split at hi
      · cases hi; exact h0
      · simp [lk] at hi
    exact .inr ⟨r i x hi, r j y hj⟩
theorem good1 {W : World} {b : Nat × Nat} {bl : Bl} (h0 : bl.ro = true) (h : BlAt (ph2 none (some b)) W b bl) : Ab.Good (ph2 none (some b)) [(1, some bl)] W := by
  refine ⟨fun i bl' hi => ?_, fun i j x y c c' hi hj _ _ _ => ?_⟩
  · rw [lk_cons] at hi
    split at hi
    · rename_i e; subst e; cases hi; exact ⟨b, rfl, h⟩
    · simp [lk] at hi
  · have r : ∀ i x, lk [(1, some bl)] i = some x → x.ro = true := fun i x hi => by
      rw [lk_cons] at hi
      split at hi
      · cases hi; exact h0
      · simp [lk] at hi
    exact .inr ⟨r i x hi, r j y hj⟩
theorem ro2 {bl bl' : Bl} (h0 : bl.ro = true) (h1 : bl'.ro = true) : ∀ i x, lk [(0, some bl), (1, some bl')] i = some x → x.ro = true := fun i x hi => by
  rw [lk_cons] at hi
  split at hi
  · cases hi; exact h0
  · rw [lk_cons] at hi
    split at hi
    · cases hi; exact h1
    · simp [lk] at hi
theorem rs0 {bl : Bl} (h0 : bl.ro = true) : ∀ i x, lk [(0, some bl)] i = some x → x.ro = true := fun i x hi => by
  rw [lk_cons] at hi
  split at hi
  · cases hi; exact h0
  · simp [lk] at hi
theorem rs1 {bl : Bl} (h0 : bl.ro = true) : ∀ i x, lk [(1, some bl)] i = some x → x.ro = true := fun i x hi => by
  rw [lk_cons] at hi
  split at hi
  · cases hi; exact h0
  · simp [lk] at hi
theorem good2 {W : World} {b b' : Nat × Nat} {bl bl' : Bl} (h0 : bl.ro = true) (h1 : bl'.ro = true) (h : BlAt (ph2 (some b) (some b')) W b bl) (k : BlAt (ph2 (some b) (some b')) W b' bl') : Ab.Good (ph2 (some b) (some b')) [(0, some bl), (1, some bl')] W := by
  refine ⟨fun i x hi => ?_, fun i j x y c c' hi hj _ _ _ => .inr ⟨ro2 h0 h1 i x hi, ro2 h0 h1 j y hj⟩⟩
  rw [lk_cons] at hi
  split at hi
  · rename_i e; subst e; cases hi; exact ⟨b, rfl, h⟩
  · rw [lk_cons] at hi
    split at hi
    · rename_i e; subst e; cases hi; exact ⟨b', rfl, k⟩
    · simp [lk] at hi

theorem walk (W : World) (D v T : Nat) (v1 v4 : Value) (h1 : BsIn W v1) (h4 : OpsIn W v4) :
    Calls Try.prog 8 #[.int .u64 ((D : Nat) : Int), v1, .int .u8 ((v : Nat) : Int), .int .u64 ((T : Nat) : Int), v4] W fun e W' => e = .returned (.bool true) ∧ Below W.heap.size W W' := by
  cases h1 with
  | nil h =>
    subst h
    cases h4 with
    | nil h =>
      subst h
      exact SC.law (φ := (fun _ => none)) (xs := [.int .u64 ((D : Nat) : Int), .slice none 0 0, .int .u8 ((v : Nat) : Int), .int .u64 ((T : Nat) : Int), .slice none 0 0]) (trans_AA D v T ) no_ro ⟨rfl, ⟨rfl, rfl, rfl⟩, rfl, rfl, ⟨rfl, rfl, rfl⟩, trivial⟩ (no_good W) (fun _ _ => rfl)
    | emp a4 h =>
      subst h
      exact SC.law (φ := (fun _ => none)) (xs := [.int .u64 ((D : Nat) : Int), .slice none 0 0, .int .u8 ((v : Nat) : Int), .int .u64 ((T : Nat) : Int), .slice (some a4) 0 0]) (trans_AE D v T ) no_ro ⟨rfl, ⟨rfl, rfl, rfl⟩, rfl, rfl, ⟨a4, rfl⟩, trivial⟩ (no_good W) (fun _ _ => rfl)
    | blk b4 ty4 f o4 m cap4 h hm4 hf hat4 =>
      subst h
      exact SC.law (φ := (ph2 none (some (b4, o4)))) (xs := [.int .u64 ((D : Nat) : Int), .slice none 0 0, .int .u8 ((v : Nat) : Int), .int .u64 ((T : Nat) : Int), .slice (some ⟨b4, o4, none⟩) m cap4]) (trans_AB D v T m ty4 f hf) (rs1 rfl) ⟨rfl, ⟨rfl, rfl, rfl⟩, rfl, rfl, ⟨(b4, o4), cap4, rfl, by rw [Nat.zero_add], hm4, .inl rfl⟩, trivial⟩ (good1 rfl (hat4 _)) (ph2_none _ _)
  | emp a h =>
    subst h
    cases h4 with
    | nil h =>
      subst h
      exact SC.law (φ := (fun _ => none)) (xs := [.int .u64 ((D : Nat) : Int), .slice (some a) 0 0, .int .u8 ((v : Nat) : Int), .int .u64 ((T : Nat) : Int), .slice none 0 0]) (trans_EA D v T ) no_ro ⟨rfl, ⟨a, rfl⟩, rfl, rfl, ⟨rfl, rfl, rfl⟩, trivial⟩ (no_good W) (fun _ _ => rfl)
    | emp a4 h =>
      subst h
      exact SC.law (φ := (fun _ => none)) (xs := [.int .u64 ((D : Nat) : Int), .slice (some a) 0 0, .int .u8 ((v : Nat) : Int), .int .u64 ((T : Nat) : Int), .slice (some a4) 0 0]) (trans_EE D v T ) no_ro ⟨rfl, ⟨a, rfl⟩, rfl, rfl, ⟨a4, rfl⟩, trivial⟩ (no_good W) (fun _ _ => rfl)
    | blk b4 ty4 f o4 m cap4 h hm4 hf hat4 =>
      subst h
      exact SC.law (φ := (ph2 none (some (b4, o4)))) (xs := [.int .u64 ((D : Nat) : Int), .slice (some a) 0 0, .int .u8 ((v : Nat) : Int), .int .u64 ((T : Nat) : Int), .slice (some ⟨b4, o4, none⟩) m cap4]) (trans_EB D v T m ty4 f hf) (rs1 rfl) ⟨rfl, ⟨a, rfl⟩, rfl, rfl, ⟨(b4, o4), cap4, rfl, by rw [Nat.zero_add], hm4, .inl rfl⟩, trivial⟩ (good1 rfl (hat4 _)) (ph2_none _ _)
  | blk bb ty C g oo nk cap h hm hg hC ho hat =>
    subst h
    cases h4 with
    | nil h =>
      subst h
      exact SC.law (φ := (ph2 (some (bb, 0)) none)) (xs := [.int .u64 ((D : Nat) : Int), .slice (some ⟨bb, oo, none⟩) nk cap, .int .u8 ((v : Nat) : Int), .int .u64 ((T : Nat) : Int), .slice none 0 0]) (trans_BA D v T ty true C oo nk none ) (rs0 rfl) ⟨rfl, ⟨(bb, 0), cap, rfl, rfl, hm, .inl rfl⟩, rfl, rfl, ⟨rfl, rfl, rfl⟩, trivial⟩ (good0 rfl (hat _)) (ph2_none _ _)
    | emp a4 h =>
      subst h
      exact SC.law (φ := (ph2 (some (bb, 0)) none)) (xs := [.int .u64 ((D : Nat) : Int), .slice (some ⟨bb, oo, none⟩) nk cap, .int .u8 ((v : Nat) : Int), .int .u64 ((T : Nat) : Int), .slice (some a4) 0 0]) (trans_BE D v T ty true C oo nk none ) (rs0 rfl) ⟨rfl, ⟨(bb, 0), cap, rfl, rfl, hm, .inl rfl⟩, rfl, rfl, ⟨a4, rfl⟩, trivial⟩ (good0 rfl (hat _)) (ph2_none _ _)
    | blk b4 ty4 f o4 m cap4 h hm4 hf hat4 =>
      subst h
      exact SC.law (φ := (ph2 (some (bb, 0)) (some (b4, o4)))) (xs := [.int .u64 ((D : Nat) : Int), .slice (some ⟨bb, oo, none⟩) nk cap, .int .u8 ((v : Nat) : Int), .int .u64 ((T : Nat) : Int), .slice (some ⟨b4, o4, none⟩) m cap4]) (trans_BB D v T m ty true C oo nk none ty4 f g hg hC hf) (ro2 rfl rfl) ⟨rfl, ⟨(bb, 0), cap, rfl, rfl, hm, .inl rfl⟩, rfl, rfl, ⟨(b4, o4), cap4, rfl, by rw [Nat.zero_add], hm4, .inl rfl⟩, trivial⟩ (good2 rfl rfl (hat _) (hat4 _)) (ph2_none _ _)

set_option maxHeartbeats 4000000 in
theorem lifted (os : Os) (started : os.Started) (H : Type) (enc : TypeId × Value → H) :
    ReturnsInHanded {} Try.checked os 8 .any (Rows.ecTransactionsMatchModelSpec.pre6 enc Try.prog Try.f8 Rows.ecTransactionsMatchModelRow.domain false) (Rows.ecTransactionsMatchModelSpec.post enc Try.prog Try.f8 false true false false) := by
  refine returnsInHanded_of_change (C := Try.checked) own started (by kernel_rfl) Try.func8
    (ChangeSpec.witness6 (enc := enc) (C := Try.checked) false ⟨#[], #[.int .u64 0, .slice none 0 0, .int .u8 0, .int .u64 0, .slice none 0 0], []⟩ 8 (by kernel_rfl) (by kernel_rfl) (by kernel_rfl) (by kernel_rfl)) ?_
  intro W base args ds gs before hval0 hW hcnd _
  have hval : ∀ (j : Nat) t v, Try.f8.params[j]? = some t → args[j]? = some v → Value.okWide Try.prog W .any base t v := hval0
  have hW' := hW
  obtain ⟨p, q, hA0, hV, rfl, hfz, hnd⟩ := hW
  have hA : DataW.TrodAll enc Try.prog W 0 (fun _ => true) true Try.f8.params.toList args.toList ds p := hA0
  rw [Try.params8] at hA hval
  obtain ⟨v0, vs0, d0, ds0, p0, q0, hargs, rfl, rfl, h0, r0⟩ := trodAll_cons hA
  obtain ⟨v1, vs1, d1, ds1, p1, q1, rfl, rfl, rfl, h1, r1⟩ := trodAll_cons r0
  obtain ⟨v2, vs2, d2, ds2, p2, q2, rfl, rfl, rfl, h2, r2⟩ := trodAll_cons r1
  obtain ⟨v3, vs3, d3, ds3, p3, q3, rfl, rfl, rfl, h3, r3⟩ := trodAll_cons r2
  obtain ⟨v4, vs4, d4, ds4, p4, q4, rfl, rfl, rfl, h4, r4⟩ := trodAll_cons r3
  obtain ⟨rfl, rfl, rfl⟩ := trodAll_nil r4
  obtain rfl : args = #[v0, v1, v2, v3, v4] := by cases args; simp_all
  obtain ⟨rfl, rfl⟩ := trodVars_none hV
  have lt0 : ∀ x ∈ p0, x.block < W.heap.size := by obtain ⟨m, hm⟩ := h0; exact DataW.trod_lt m _ _ _ hm
  have lt1 : ∀ x ∈ p1, x.block < W.heap.size := by obtain ⟨m, hm⟩ := h1; exact DataW.trod_lt m _ _ _ hm
  have lt2 : ∀ x ∈ p2, x.block < W.heap.size := by obtain ⟨m, hm⟩ := h2; exact DataW.trod_lt m _ _ _ hm
  have lt3 : ∀ x ∈ p3, x.block < W.heap.size := by obtain ⟨m, hm⟩ := h3; exact DataW.trod_lt m _ _ _ hm
  have lt4 : ∀ x ∈ p4, x.block < W.heap.size := by obtain ⟨m, hm⟩ := h4; exact DataW.trod_lt m _ _ _ hm
  obtain ⟨n0, rfl, hn0⟩ := open_u64 (hval 0 22 v0 rfl rfl) h0
  have u1 := open_bs (hval 1 29 v1 rfl rfl) h1
  obtain ⟨n2, rfl, hn2⟩ := open_u8 (hval 2 5 v2 rfl rfl) h2
  obtain ⟨n3, rfl, hn3⟩ := open_u64 (hval 3 22 v3 rfl rfl) h3
  have u4 := open_ops (hval 4 41 v4 rfl rfl) h4
  clear hA0 hval0
  refine (walk W n0 n2 n3 v1 v4 u1 u4).mono fun e W' ⟨he, bel⟩ => ?_
  subst he
  exact ⟨_, rfl, _, _, _, [], _, [], hW', trodAll_mk1 (shut_bool Try.underlying4 _),
    (trodAll_cons_mk (Below.trod laidOut (by kernel_rfl) (of_decide_eq_true (by kernel_rfl)) h0 bel lt0) (trodAll_cons_mk (Below.trod laidOut (by kernel_rfl) (of_decide_eq_true (by kernel_rfl)) h1 bel lt1) (trodAll_cons_mk (Below.trod laidOut (by kernel_rfl) (of_decide_eq_true (by kernel_rfl)) h2 bel lt2) (trodAll_cons_mk (Below.trod laidOut (by kernel_rfl) (of_decide_eq_true (by kernel_rfl)) h3 bel lt3) (trodAll_cons_mk (Below.trod laidOut (by kernel_rfl) (of_decide_eq_true (by kernel_rfl)) h4 bel lt4) trodAll_mk0))))), rfl, bel.frame _, fun h => by cases h⟩

theorem over : Rows.ecTransactionsMatchModelRow.holds Try.pinned (OpenSpec.ofChange Rows.ecTransactionsMatchModelSpec) :=
  OpenClaim.holds_of_wide 8 Try.f8 rfl rfl rfl rfl rfl rfl rfl ⟨rfl, rfl, rfl, rfl, rfl⟩ rfl rfl rfl rfl rfl (by kernel_rfl) Try.func8 (by kernel_rfl)
    (of_decide_eq_true (by kernel_rfl)) (by unfold Func.isWrapper; first | (rw [if_pos (by decide +kernel)]; kernel_rfl) | (rw [if_neg (by decide +kernel)]; exact ⟨rfl, rfl⟩))
    (fun os started H enc _ => lifted os started H enc)

end Go.Proofs.Ytimebhllnemnbaa.EcTransactionsMatchModel
namespace Go.Proofs.Ytimebhllnemnbaa
theorem ecTransactionsMatchModel : Rows.EcTransactionsMatchModelSaid := EcTransactionsMatchModel.over
end Go.Proofs.Ytimebhllnemnbaa
