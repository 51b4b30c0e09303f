/-
  Numbers of four bytes; trailing zeros.
-/
import Derived.Test.YtmkemodgbhaglaaDoorSc
set_option linter.unusedSimpArgs false
set_option linter.unusedVariables false
namespace Go.Proofs.YtmkemodgbhaglaaDoor
open Go Ab
set_option maxRecDepth 100000

theorem bvI (n : Nat) (a : Nat) (h : a < 2 ^ n) : (BitVec.ofInt n (a : Int)).toNat = a := by
  simp only [BitVec.toNat_ofInt]
  rw [Int.emod_eq_of_lt (by omega) (by exact_mod_cast h)]
  simp
theorem or32 {a b : Nat} (ha : a < 2 ^ 32) (hb : b < 2 ^ 32) : bitV .or .u32 (a : Int) (b : Int) = ((a ||| b : Nat) : Int) := by
  have h := Nat.or_lt_two_pow ha hb
  have e : bitV .or .u32 (a : Int) (b : Int) = IntKind.u32.wrap (((BitVec.ofInt 32 (a : Int) ||| BitVec.ofInt 32 (b : Int)).toNat : Nat) : Int) := rfl
  rw [e, BitVec.toNat_or, bvI _ _ ha, bvI _ _ hb, wrap_in]
  · simp [IntKind.min, IntKind.bits, IntKind.signed] <;> omega
  · simp [IntKind.max, IntKind.bits, IntKind.signed] <;> omega
theorem orI64 {a b : Nat} (ha : a < 2 ^ 62) (hb : b < 2 ^ 62) : bitV .or .i64 (a : Int) (b : Int) = ((a ||| b : Nat) : Int) := by
  have h := Nat.or_lt_two_pow ha hb
  have e : bitV .or .i64 (a : Int) (b : Int) = IntKind.i64.wrap (((BitVec.ofInt 64 (a : Int) ||| BitVec.ofInt 64 (b : Int)).toNat : Nat) : Int) := rfl
  rw [e, BitVec.toNat_or, bvI _ _ (by omega), bvI _ _ (by omega), i64_in] <;> omega
theorem or_sum {a b k : Nat} (h : a < 2 ^ k) : a ||| (2 ^ k * b) = a + 2 ^ k * b := by
  rw [Nat.or_comm, ← Nat.two_pow_add_eq_or_of_lt h, Nat.add_comm]
theorem num_s (s : By) (hl : 4 ≤ s.length) : SC Tryd.prog 28 [sV s] 0 [] (.s (.int .u32 ((num4 s : Nat) : Int))) 0 [] := by
  have q0 := (s.getD 0 0).toNat_lt
  have q1 := (s.getD 1 0).toNat_lt
  have q2 := (s.getD 2 0).toNat_lt
  have q3 := (s.getD 3 0).toNat_lt
  rw [show num4 s = (s.getD 0 0).toNat + 2 ^ 8 * (s.getD 1 0).toNat + 2 ^ 16 * (s.getD 2 0).toNat + 2 ^ 24 * (s.getD 3 0).toNat by unfold num4; omega]
  obtain ⟨b0, e0⟩ : ∃ b, b = (s.getD 0 0).toNat := ⟨_, rfl⟩
  obtain ⟨b1, e1⟩ : ∃ b, b = (s.getD 1 0).toNat := ⟨_, rfl⟩
  obtain ⟨b2, e2⟩ : ∃ b, b = (s.getD 2 0).toNat := ⟨_, rfl⟩
  obtain ⟨b3, e3⟩ : ∃ b, b = (s.getD 3 0).toNat := ⟨_, rfl⟩
  rw [← e0] at q0 ⊢
  rw [← e1] at q1 ⊢
  rw [← e2] at q2 ⊢
  rw [← e3] at q3 ⊢
  have o1 : bitV .or .u32 ((b0 : Nat) : Int) ((2 ^ 8 * b1 : Nat) : Int) = ((b0 + 2 ^ 8 * b1 : Nat) : Int) := by rw [or32 (by omega) (by omega), or_sum (by omega)]
  have o2 : bitV .or .u32 ((b0 + 2 ^ 8 * b1 : Nat) : Int) ((2 ^ 16 * b2 : Nat) : Int) = ((b0 + 2 ^ 8 * b1 + 2 ^ 16 * b2 : Nat) : Int) := by rw [or32 (by omega) (by omega), or_sum (by omega)]
  have o3 : bitV .or .u32 ((b0 + 2 ^ 8 * b1 + 2 ^ 16 * b2 : Nat) : Int) ((2 ^ 24 * b3 : Nat) : Int) = ((b0 + 2 ^ 8 * b1 + 2 ^ 16 * b2 + 2 ^ 24 * b3 : Nat) : Int) := by rw [or32 (by omega) (by omega), or_sum (by omega)]
  have w : ∀ b : Nat, b < 4294967296 → IntKind.u32.wrap ((b : Nat) : Int) = ((b : Nat) : Int) := fun b hb => wrap_in (by simp [IntKind.min, IntKind.bits, IntKind.signed] <;> omega) (by simp [IntKind.max, IntKind.bits, IntKind.signed] <;> omega)
  have w1 := w b1 (by omega)
  have w2 := w b2 (by omega)
  have w3 := w b3 (by omega)
  have v1 : IntKind.u32.wrap (((b1 : Nat) : Int) * 2 ^ 8) = ((2 ^ 8 * b1 : Nat) : Int) := by rw [show (((b1 : Nat) : Int) * 2 ^ 8) = ((2 ^ 8 * b1 : Nat) : Int) by omega]; exact w _ (by omega)
  have v2 : IntKind.u32.wrap (((b2 : Nat) : Int) * 2 ^ 16) = ((2 ^ 16 * b2 : Nat) : Int) := by rw [show (((b2 : Nat) : Int) * 2 ^ 16) = ((2 ^ 16 * b2 : Nat) : Int) by omega]; exact w _ (by omega)
  have v3 : IntKind.u32.wrap (((b3 : Nat) : Int) * 2 ^ 24) = ((2 ^ 24 * b3 : Nat) : Int) := by rw [show (((b3 : Nat) : Int) * 2 ^ 24) = ((2 ^ 24 * b3 : Nat) : Int) by omega]; exact w _ (by omega)
  refine SC.run hm Tryd.func28 rfl [.idx 0, .num ((b0 : Nat) : Int), .idx 1, .num ((b1 : Nat) : Int), .num ((2 ^ 8 * b1 : Nat) : Int), .num ((b0 + 2 ^ 8 * b1 : Nat) : Int), .idx 2, .num ((b2 : Nat) : Int), .num ((2 ^ 16 * b2 : Nat) : Int), .num ((b0 + 2 ^ 8 * b1 + 2 ^ 16 * b2 : Nat) : Int), .idx 3, .num ((b3 : Nat) : Int), .num ((2 ^ 24 * b3 : Nat) : Int), .num ((b0 + 2 ^ 8 * b1 + 2 ^ 16 * b2 + 2 ^ 24 * b3 : Nat) : Int)] [] rfl rfl ?_ (.inl rfl) (EndOK.plain rfl no_mem rfl rfl)
  simp only [true_and, and_true, and_assoc]
  rw [show min (Int.toNat 8) IntKind.u32.bits = 8 from rfl, show min (Int.toNat 16) IntKind.u32.bits = 16 from rfl, show min (Int.toNat 24) IntKind.u32.bits = 24 from rfl, ← e0, ← e1, ← e2, ← e3]
  exact ⟨rfl, by omega, w b0 (by omega), rfl, by omega, w1, by decide, v1, o1, rfl, by omega, w2, by decide, v2, o2, rfl, by omega, w3, by decide, v3, o3, by kernel_rfl⟩
theorem rnum_s (s : By) (hl : 4 ≤ s.length) : SC Tryd.prog 39 [sV s] 0 [] (.s (.int .i64 ((num4 s : Nat) : Int))) 0 [] := by
  have q0 := (s.getD 0 0).toNat_lt
  have q1 := (s.getD 1 0).toNat_lt
  have q2 := (s.getD 2 0).toNat_lt
  have q3 := (s.getD 3 0).toNat_lt
  rw [show num4 s = (s.getD 0 0).toNat + 2 ^ 8 * (s.getD 1 0).toNat + 2 ^ 16 * (s.getD 2 0).toNat + 2 ^ 24 * (s.getD 3 0).toNat by unfold num4; omega]
  obtain ⟨b0, e0⟩ : ∃ b, b = (s.getD 0 0).toNat := ⟨_, rfl⟩
  obtain ⟨b1, e1⟩ : ∃ b, b = (s.getD 1 0).toNat := ⟨_, rfl⟩
  obtain ⟨b2, e2⟩ : ∃ b, b = (s.getD 2 0).toNat := ⟨_, rfl⟩
  obtain ⟨b3, e3⟩ : ∃ b, b = (s.getD 3 0).toNat := ⟨_, rfl⟩
  rw [← e0] at q0 ⊢
  rw [← e1] at q1 ⊢
  rw [← e2] at q2 ⊢
  rw [← e3] at q3 ⊢
  have o1 : bitV .or .i64 ((b0 : Nat) : Int) ((2 ^ 8 * b1 : Nat) : Int) = ((b0 + 2 ^ 8 * b1 : Nat) : Int) := by rw [orI64 (by omega) (by omega), or_sum (by omega)]
  have o2 : bitV .or .i64 ((b0 + 2 ^ 8 * b1 : Nat) : Int) ((2 ^ 16 * b2 : Nat) : Int) = ((b0 + 2 ^ 8 * b1 + 2 ^ 16 * b2 : Nat) : Int) := by rw [orI64 (by omega) (by omega), or_sum (by omega)]
  have o3 : bitV .or .i64 ((b0 + 2 ^ 8 * b1 + 2 ^ 16 * b2 : Nat) : Int) ((2 ^ 24 * b3 : Nat) : Int) = ((b0 + 2 ^ 8 * b1 + 2 ^ 16 * b2 + 2 ^ 24 * b3 : Nat) : Int) := by rw [orI64 (by omega) (by omega), or_sum (by omega)]
  have w : ∀ b : Nat, b < 4294967296 → IntKind.i64.wrap ((b : Nat) : Int) = ((b : Nat) : Int) := fun b hb => i64_in (by omega) (by omega)
  have w1 := w b1 (by omega)
  have w2 := w b2 (by omega)
  have w3 := w b3 (by omega)
  have v1 : IntKind.i64.wrap (((b1 : Nat) : Int) * 2 ^ 8) = ((2 ^ 8 * b1 : Nat) : Int) := by rw [show (((b1 : Nat) : Int) * 2 ^ 8) = ((2 ^ 8 * b1 : Nat) : Int) by omega]; exact w _ (by omega)
  have v2 : IntKind.i64.wrap (((b2 : Nat) : Int) * 2 ^ 16) = ((2 ^ 16 * b2 : Nat) : Int) := by rw [show (((b2 : Nat) : Int) * 2 ^ 16) = ((2 ^ 16 * b2 : Nat) : Int) by omega]; exact w _ (by omega)
  have v3 : IntKind.i64.wrap (((b3 : Nat) : Int) * 2 ^ 24) = ((2 ^ 24 * b3 : Nat) : Int) := by rw [show (((b3 : Nat) : Int) * 2 ^ 24) = ((2 ^ 24 * b3 : Nat) : Int) by omega]; exact w _ (by omega)
  refine SC.run hm Tryd.func39 rfl [.idx 0, .num ((b0 : Nat) : Int), .idx 1, .num ((b1 : Nat) : Int), .num ((2 ^ 8 * b1 : Nat) : Int), .num ((b0 + 2 ^ 8 * b1 : Nat) : Int), .idx 2, .num ((b2 : Nat) : Int), .num ((2 ^ 16 * b2 : Nat) : Int), .num ((b0 + 2 ^ 8 * b1 + 2 ^ 16 * b2 : Nat) : Int), .idx 3, .num ((b3 : Nat) : Int), .num ((2 ^ 24 * b3 : Nat) : Int), .num ((b0 + 2 ^ 8 * b1 + 2 ^ 16 * b2 + 2 ^ 24 * b3 : Nat) : Int)] [] rfl rfl ?_ (.inl rfl) (EndOK.plain rfl no_mem rfl rfl)
  simp only [true_and, and_true, and_assoc]
  rw [show min (Int.toNat 8) IntKind.i64.bits = 8 from rfl, show min (Int.toNat 16) IntKind.i64.bits = 16 from rfl, show min (Int.toNat 24) IntKind.i64.bits = 24 from rfl, ← e0, ← e1, ← e2, ← e3]
  exact ⟨rfl, by omega, w b0 (by omega), rfl, by omega, w1, by decide, v1, o1, rfl, by omega, w2, by decide, v2, o2, rfl, by omega, w3, by decide, v3, o3, by kernel_rfl⟩

theorem trim_last {l : By} (h : lastZ l = true) : trimR (l.take (l.length - 1)) = trimR l := by
  have hne : l ≠ [] := fun e => by rw [e] at h; cases h
  have hd := (last_drop hne).2 h
  have e : l = l.take (l.length - 1) ++ List.replicate 1 0 := by
    conv => lhs; rw [← List.take_append_drop (l.length - 1) l]
    rw [hd]; rfl
  have := trimR_app (l.take (l.length - 1)) 1
  rw [← e] at this
  exact this.symm
/-- zeros at the end, cut one by one -/
def cutZ (l : By) : Nat → By
  | 0 => l
  | j + 1 => (cutZ l j).take ((cutZ l j).length - 1)
def cnt : Nat → By → Nat
  | 0, _ => 0
  | k + 1, l => match lastZ l with | true => cnt k (l.take (l.length - 1)) + 1 | false => 0
theorem cutZ_succ (l : By) : ∀ j, cutZ l (j + 1) = cutZ (l.take (l.length - 1)) j
  | 0 => rfl
  | j + 1 => by
    show (cutZ l (j + 1)).take _ = _
    rw [cutZ_succ l j]; rfl
theorem cnt_lt : ∀ (k : Nat) (l : By) (j : Nat), j < cnt k l → lastZ (cutZ l j) = true
  | 0, l, j, h => absurd h (Nat.not_lt_zero _)
  | k + 1, l, j, h => by
    unfold cnt at h
    cases hz : lastZ l with
    | false => rw [hz] at h; exact absurd h (Nat.not_lt_zero _)
    | true =>
      rw [hz] at h
      cases j with
      | zero => exact hz
      | succ j =>
        rw [cutZ_succ]
        have h : j + 1 < cnt k (l.take (l.length - 1)) + 1 := h
        exact cnt_lt k _ j (by omega)
theorem cnt_end : ∀ (k : Nat) (l : By), l.length ≤ k → lastZ (cutZ l (cnt k l)) = false ∧ trimR l = cutZ l (cnt k l)
  | 0, l, h => by
    have : l = [] := List.eq_nil_of_length_eq_zero (by omega)
    subst this
    exact ⟨rfl, rfl⟩
  | k + 1, l, h => by
    unfold cnt
    cases hz : lastZ l with
    | false => exact ⟨hz, trimR_last l hz⟩
    | true =>
      have hne : l ≠ [] := fun e => by rw [e] at hz; cases hz
      have hp := List.length_pos_iff.2 hne
      have := cnt_end k (l.take (l.length - 1)) (by rw [List.length_take]; omega)
      show lastZ (cutZ l (cnt k (l.take (l.length - 1)) + 1)) = false ∧ trimR l = cutZ l (cnt k (l.take (l.length - 1)) + 1)
      rw [cutZ_succ, ← trim_last hz]
      exact this
theorem cutZ_len (l : By) : ∀ j, (cutZ l j).length ≤ l.length
  | 0 => Nat.le_refl _
  | j + 1 => by
    have := cutZ_len l j
    show ((cutZ l j).take _).length ≤ _
    rw [List.length_take]; omega
theorem last_val {l : By} (h : lastZ l = true) : l ≠ [] ∧ (l.getD (l.length - 1) 0).toNat = 0 := by
  refine ⟨fun e => (by rw [e] at h; cases h), ?_⟩
  simp only [lastZ, Bool.and_eq_true] at h
  exact Nat.eq_of_beq_eq_true h.2
theorem last_no {l : By} (h : lastZ l = false) (hne : l ≠ []) : (l.getD (l.length - 1) 0).toNat ≠ 0 := fun e => by
  have : lastZ l = true := by unfold lastZ; rw [e]; simp [hne]
  rw [this] at h; cases h
theorem tr35_r (l : By) (hl : l.length < 9223372036854775808) (h : lastZ l = true) {L : Hp} (hL : L = []) : Rnd Tryd.prog 0 ((Tryd.f35.body.bind fstLoop).getD .skip) [] [0, 1] (sp 23 [(1, n8 0), (0, sV l)]) 0 [] (sp 23 [(1, n8 0), (0, sV (l.take (l.length - 1)))]) [] := by
  obtain ⟨hne, hz⟩ := last_val h
  have hp := List.length_pos_iff.2 hne
  refine ⟨[.dec true, .num ((l.length - 1 : Nat) : Int), .idx (l.length - 1), .dec true, .num ((l.length - 1 : Nat) : Int), .idx (l.length - 1)], _, _, _, _, _, rfl, ?_, rfl, trivial⟩
  simp only [true_and, and_true, and_assoc, decide_eq_true_eq, decide_eq_false_iff_not, ne_eq, beq_iff_eq, beq_eq_false_iff_ne, bne_eq_false_iff_eq, bne_iff_ne, bne_self_eq_false, beq_self_eq_true]
  repeat' apply And.intro
  all_goals first
    | exact True.intro
    | exact len1 hne hl
    | exact hne
    | (rw [decide_eq_false hne]; rfl)
    | (rw [hz]; rfl)
    | (with_reducible show _ = true; kernel_rfl)
    | (with_reducible exact rfl)
    | omega
    | (simp only [List.length_cons, List.length_nil]; omega)
    | decide
theorem tr35_l (l : By) (hl : l.length < 9223372036854775808) (h : lastZ l = false) : Lst Tryd.prog 0 ((Tryd.f35.body.bind fstLoop).getD .skip) [] [0, 1] (sp 23 [(1, n8 0), (0, sV l)]) 0 [] (.exit 0) (sp 23 [(1, n8 0), (0, sV l)]) [] := by
  by_cases hne : l = []
  · have h0 : l.length = 0 := by rw [hne]; rfl
    refine ⟨[.dec false], _, _, _, _, _, rfl, ?_, rfl, trivial⟩
    simp only [true_and, and_true, and_assoc, decide_eq_true_eq, decide_eq_false_iff_not, ne_eq, beq_iff_eq, beq_eq_false_iff_ne, bne_eq_false_iff_eq, bne_iff_ne, bne_self_eq_false, beq_self_eq_true]
    repeat' apply And.intro
    all_goals first
      | exact True.intro
      | (rw [decide_eq_true hne]; rfl)
      | exact hne
      | (with_reducible show _ = true; kernel_rfl)
      | (with_reducible exact rfl)
      | omega
      | (simp only [List.length_cons, List.length_nil]; omega)
      | decide
  · have hp := List.length_pos_iff.2 hne
    have hz := last_no h hne
    refine ⟨[.dec true, .num ((l.length - 1 : Nat) : Int), .idx (l.length - 1), .dec false], _, _, _, _, _, rfl, ?_, rfl, trivial⟩
    simp only [true_and, and_true, and_assoc, decide_eq_true_eq, decide_eq_false_iff_not, ne_eq, beq_iff_eq, beq_eq_false_iff_ne, bne_eq_false_iff_eq, bne_iff_ne, bne_self_eq_false, beq_self_eq_true]
    repeat' apply And.intro
    all_goals first
      | exact True.intro
      | exact len1 hne hl
      | exact hne
      | (rw [decide_eq_false hne]; rfl)
      | exact fun e => hz (by omega)
      | (with_reducible show _ = true; kernel_rfl)
      | (with_reducible exact rfl)
      | omega
      | (simp only [List.length_cons, List.length_nil]; omega)
      | decide
theorem trimB_s (l : By) (hl : l.length < 9223372036854775808) : SC Tryd.prog 35 [sV l, n8 0] 0 [] (sV (trimR l)) 0 [] := by
  obtain ⟨c1, c2⟩ := cnt_end l.length l (Nat.le_refl _)
  rw [c2]
  generalize hN : cnt l.length l = N at *
  refine SC.run hm Tryd.func35 rfl [.loop (.exit 0) (sp 23 [(1, n8 0), (0, sV (cutZ l N))]) 0 []] [] rfl rfl ?_ (.inl rfl) (EndOK.plain rfl no_mem rfl rfl)
  simp only [true_and, and_true, and_assoc]
  refine Ex.movesT hm [0, 1] N (fun j => sp 23 [(1, n8 0), (0, sV (cutZ l j))]) (fun _ => []) [] (fun _ => []) rfl (fun _ => rfl) rfl trivial rfl (fun _ => rfl) (fun j hj => ?_) [0, 1] [] rfl (fun e => by cases e) rfl (tr35_l _ (by have := cutZ_len l N; omega) c1)
  exact tr35_r (cutZ l j) (by have := cutZ_len l j; omega) (cnt_lt l.length l j (by rw [hN]; exact hj)) rfl
theorem trim_s (l : By) (hl : l.length < 9223372036854775808) : SC Tryd.prog 30 [sV l, sV [0]] 0 [] (sV (trimR l)) 0 [] := by
  by_cases hne : l = []
  · subst hne
    refine SC.run hm Tryd.func30 rfl [.dec true] [] rfl rfl ?_ (.inl rfl) (EndOK.plain rfl no_mem rfl rfl)
    simp only [true_and, and_true, and_assoc, decide_eq_true_eq, decide_eq_false_iff_not, ne_eq, beq_iff_eq, beq_eq_false_iff_ne, bne_eq_false_iff_eq, bne_iff_ne, bne_self_eq_false, beq_self_eq_true]
    repeat' apply And.intro
    all_goals first
      | exact True.intro
      | (rw [decide_eq_true rfl])
      | (with_reducible show _ = true; kernel_rfl)
      | (with_reducible exact rfl)
      | omega
      | (simp only [List.length_cons, List.length_nil]; omega)
      | decide
  · have g := trimB_s l hl
    refine SC.run hm Tryd.func30 rfl [.dec false, .dec false, .dec true, .idx 0, .dec true, .idx 0, .call [] [sV l, n8 0] [] (sV (trimR l)) 0 []] [] rfl rfl ?_ (.inl rfl) (EndOK.plain rfl no_mem rfl rfl)
    simp only [true_and, and_true, and_assoc, decide_eq_true_eq, decide_eq_false_iff_not, ne_eq, beq_iff_eq, beq_eq_false_iff_ne, bne_eq_false_iff_eq, bne_iff_ne, bne_self_eq_false, beq_self_eq_true]
    repeat' apply And.intro
    all_goals first
      | exact True.intro
      | exact hne
      | exact call0 g rfl
      | exact decide_eq_false hne
      | (with_reducible show _ = true; kernel_rfl)
      | (with_reducible exact rfl)
      | omega
      | (simp only [List.length_cons, List.length_nil]; omega)
      | decide

end Go.Proofs.YtmkemodgbhaglaaDoor
