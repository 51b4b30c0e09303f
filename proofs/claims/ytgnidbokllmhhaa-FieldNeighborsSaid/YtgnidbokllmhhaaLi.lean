/-
  Insert: what it computes.
-/
import Derived.Test.YtgnidbokllmhhaaLg
set_option linter.unusedSimpArgs false
set_option linter.unusedVariables false
namespace Go.Proofs.Ytgnidbokllmhhaa
open Go Ab
set_option maxRecDepth 100000

theorem ones_nat {w : Nat} (h : w = 1 ∨ w = 2 ∨ w = 4 ∨ w = 8) : ones (w : Int) = ((2 ^ (8 * w) - 1 : Nat) : Int) := by
  rcases h with e | e | e | e <;> subst e <;> decide +kernel
theorem ones_lt (w : Nat) (h : w ≤ 8) : 2 ^ (8 * w) - 1 < 2 ^ 64 := by
  have : 2 ^ (8 * w) ≤ 2 ^ 64 := Nat.pow_le_pow_right (by decide) (by omega)
  omega

/-- what stands in a unit before the field's bits are set -/
def u0 (up : Int) (w old mask : Nat) : Nat := if up = 0 then andN (old &&& (2 ^ (8 * w) - 1)) mask else if up = 1 then andN (2 ^ (8 * w) - 1) mask else 0
theorem u0_lt (up : Int) (w old mask : Nat) : u0 up w old mask < 2 ^ 64 := by
  unfold u0; split
  · exact andN_lt _ _
  · split
    · exact andN_lt _ _
    · decide
def inA (b n w : Nat) (up : Int) (g : Nat → Nat) (k : Nat) : List Nat := setK (fun i => u0 up w (g i) (mv b n w i)) (List.replicate (nU b n w) 0) k
def inK (b n w : Nat) (up : Int) (g : Nat → Nat) (s : List UInt8) (k : Nat) : List Nat := orK (ui b w) (bi b w) (sb s) (inA b n w up g (nU b n w)) k
theorem inA_length (b n w : Nat) (up : Int) (g : Nat → Nat) (k : Nat) : (inA b n w up g k).length = nU b n w := by unfold inA; rw [setK_length, List.length_replicate]
theorem inK_length (b n w : Nat) (up : Int) (g : Nat → Nat) (s : List UInt8) (k : Nat) : (inK b n w up g s k).length = nU b n w := by unfold inK; rw [orK_length, inA_length]
theorem inA_getD (b n w : Nat) (up : Int) (g : Nat → Nat) (i : Nat) : (inA b n w up g (nU b n w)).getD i 0 = if i < nU b n w then u0 up w (g i) (mv b n w i) else 0 := by
  unfold inA; rw [setK_getD, List.length_replicate, rep_getD]; simp only [and_self]
theorem inK_lt {b n w : Nat} (hw0 : 0 < w) (hw8 : w ≤ 8) (up : Int) (g : Nat → Nat) (s : List UInt8) (k i : Nat) : (inK b n w up g s k).getD i 0 < 2 ^ 64 := by
  refine orK_bound (fun i => ?_) (fun k => by have := bi_lt (b := b) hw0 k; omega) k i
  rw [inA_getD]; split
  · exact u0_lt _ _ _ _
  · decide
theorem setK_same {g : Nat → Nat} {N k : Nat} (h : g k = 0) : setK g (List.replicate N 0) (k + 1) = setK g (List.replicate N 0) k := by
  simp only [setK, h]
  have : (setK g (List.replicate N 0) k).getD k 0 = 0 := by rw [setK_getD, if_neg (by omega), rep_getD]
  have e := or_zero_set (setK g (List.replicate N 0) k) k
  rw [this] at e; exact e
theorem inK_stop (b n w : Nat) (up : Int) (g : Nat → Nat) (s : List UInt8) : inK b n w up g s (min n (8 * min s.length n)) = inK b n w up g s n := by
  by_cases h : min n (8 * min s.length n) = n
  · rw [h]
  · have e : n = min n (8 * min s.length n) + (n - min n (8 * min s.length n)) := by omega
    rw [show inK b n w up g s n = inK b n w up g s (min n (8 * min s.length n) + (n - min n (8 * min s.length n))) by rw [← e]]
    unfold inK
    exact (orK_stop (fun m hm => sb_none (by omega)) _).symm

set_option maxHeartbeats 4000000 in
theorem insert_s {f : Fsp} {b n w : Nat} (hf : f.ok) (h : FV f b n w) (s : List UInt8) (ty : TypeId) (mr : Bool) (C : List S) (g : Nat → Nat) (hg : ∀ i, g i < 2 ^ 64) (o : Nat) (c : Option Nat) (hC : ∀ i, i < nU b n w → C[o + i]? = some (.int .u64 ((g i : Nat) : Int))) :
    SC Try.prog 16 [f.v, .s (.str s), .s (.slc (some (0, o)) (nU b n w) c)] 1 [(0, some (bR ty mr C))] (.s (.slc (some (1, 0)) (nU b n w) (some (nU b n w)))) 2 [(0, some (bR ty mr C)), (1, some (bU (inK b n w f.up g s n)))] := by
  have hu := units_v hf h
  have hub := unitBits_s f (by have := h.wd; have := h.w; omega) (by have := h.wd; have := h.w; omega)
  have hfm := fullMask_s f (by have := h.wd; have := h.w; omega) (by have := h.wd; have := h.w; omega)
  have hms := masks_s hf h
  have hN : nU b n w ≤ 300 := nU_le h
  have hw0 : 0 < w := by have := h.w; omega
  have hw8 : w ≤ 8 := by have := h.w; omega
  have ewd := h.wd
  have eln := h.ln
  have ebit := h.bit
  have hb2 := h.b2
  have hn1 := h.n1
  have hn2 := h.n2
  have hF := uf_le b w
  have eF : uf b w * (8 * w) + b % (8 * w) = b := by unfold uf; rw [Nat.mul_comm]; exact Nat.div_add_mod _ _
  have hne : nU b n w ≠ 0 := by unfold nU; omega
  have eones : ones f.wd = ((2 ^ (8 * w) - 1 : Nat) : Int) := by rw [ewd]; exact ones_nat h.w
  rw [eones] at hfm
  rw [← inK_stop]
  refine SC.run hm Try.func16 rfl [.call [] [f.v] [] (.tup [.s (.int .i64 ((uf b w : Nat) : Int)), .s (.int .i64 ((nU b n w : Nat) : Int))]) 0 [], .dec false, .dec false, .idx (nU b n w), .idx (nU b n w),
    .call [] [f.v] [] (.s (.slc (some (0, 0)) (nU b n w) (some (nU b n w)))) 1 [(0, some (bU (mL b n w)))],
    .loop (.exit 0) (sp 110 [(1, .s (.str s)), (3, .s (.ptr (some (1, 0)))), (7, .s (.int .i64 ((uf b w : Nat) : Int))), (9, .s (.slc (some (2, 0)) (nU b n w) (some (nU b n w))))]) 4 [(0, some (bR ty mr C)), (1, some { cells := f.c, ty := 26 }), (2, some (bU (inA b n w f.up g (nU b n w))))],
    .call [] [f.v] [] (.s (.int .u64 (8 * f.wd))) 0 [], .num (8 * w : Nat), .num ((min s.length n : Nat) : Int), .num ((8 * min s.length n : Nat) : Int), .num ((min n (8 * min s.length n) : Nat) : Int),
    .loop (.exit 3) (sp 110 [(9, .s (.slc (some (2, 0)) (nU b n w) (some (nU b n w))))]) 4 [(0, some (bR ty mr C)), (2, some (bU (inK b n w f.up g s (min n (8 * min s.length n)))))]] [2] rfl rfl ?_ (.inl rfl) (EndOK.by rfl ⟨rfl, rfl, trivial⟩ rfl rfl rfl rfl)
  simp only [true_and, and_true, and_assoc, beq_eq_false_iff_ne, bne_eq_false_iff_eq, ne_eq, i64_wrap]
  repeat' apply And.intro
  all_goals first
    | exact True.intro
    | omega
    | exact call0 hu rfl
    | exact call0 hub rfl
    | exact call0 hms rfl
    | refine Ex.turns hm [1, 2, 3, 7, 9, 31, 32, 33] [0, 1, 2, 3] (nU b n w) (fun k => sp 110 [(1, .s (.str s)), (2, .s (.slc (some (0, o)) (nU b n w) c)), (3, .s (.ptr (some (1, 0)))), (7, .s (.int .i64 ((uf b w : Nat) : Int))), (9, .s (.slc (some (2, 0)) (nU b n w) (some (nU b n w)))), (31, .s (.slc (some (3, 0)) (nU b n w) (some (nU b n w)))), (32, .s (.int .i64 ((nU b n w : Nat) : Int))), (33, .s (.int .i64 ((k : Nat) : Int)))])
        (fun k => [(0, some (bR ty mr C)), (1, some { cells := f.c, ty := 26 }), (2, some (bU (inA b n w f.up g k))), (3, some (bU (mL b n w)))]) (by omega) rfl ?_ (fun k => ⟨rfl, rfl⟩) ?_ [1, 3, 7, 9] [0, 1, 2] (by simp) ⟨rfl, rfl⟩ ⟨[.dec false], _, _, _, _, _, rfl, ?_, rfl, rfl⟩
    | refine Ex.turns hm [1, 3, 7, 9, 12, 75, 76] [0, 1, 2] (min n (8 * min s.length n)) (fun k => sp 110 [(1, .s (.str s)), (3, .s (.ptr (some (1, 0)))), (7, .s (.int .i64 ((uf b w : Nat) : Int))), (9, .s (.slc (some (2, 0)) (nU b n w) (some (nU b n w)))), (12, .s (.int .i64 ((8 * w : Nat) : Int))), (75, .s (.int .i64 ((min n (8 * min s.length n) : Nat) : Int))), (76, .s (.int .i64 ((k : Nat) : Int)))])
        (fun k => [(0, some (bR ty mr C)), (1, some { cells := f.c, ty := 26 }), (2, some (bU (inK b n w f.up g s k)))]) (by omega) rfl rfl (fun k => ⟨rfl, rfl⟩) ?_ [9] [0, 2] (by simp) ⟨rfl, rfl⟩ ⟨[.dec false], _, _, _, _, _, rfl, ?_, rfl, rfl⟩
    | (with_reducible show _ = true; kernel_rfl)
    | exact Nat.le_trans (Nat.mul_le_mul_right _ (show _ ≤ 8 by decide +kernel)) (by omega)
  · show ([_, _, (2, some ({ cells := rep (nU b n w) [.int .u64 0], ty := 22, sym := true, flat := true } : Bl)), _] : Hp) = _
    rw [cU_rep]; rfl
  · intro k hk
    have hld1 : ldAt false 1 (bU (mL b n w)) k = some (.s (.int .u64 ((mv b n w k : Nat) : Int))) := by
      have := ldU (l := mL b n w) (i := k) (by rw [mL_length]; exact hk) (ty := 22) (m := false) (r := false) (s := true) (f := true) (gh := none)
      rw [mL_getD, if_pos hk] at this; exact this
    have hG := hg k
    have hld2 : ldAt false 1 (bR ty mr C) (plus o k) = some (.s (.int .u64 ((g k : Nat) : Int))) := by rw [plus_eq]; simp only [ldAt, hC k hk]
    have hmv : mv b n w k < 2 ^ 64 := Nat.lt_of_lt_of_le (mv_lt hw0 hn1 hk) (Nat.pow_le_pow_right (by decide) (by omega))
    have hon := ones_lt w hw8
    have eS : inA b n w f.up g (k + 1) = (inA b n w f.up g k).set k (u0 f.up w (g k) (mv b n w k)) := rfl
    have hlen : k + 1 ≤ (cU (inA b n w f.up g k)).length := by rw [cU_length, inA_length]; omega
    generalize hxx : g k = x at *
    have e1 : bitV .and .u64 (x : Int) ((2 ^ (8 * w) - 1 : Nat) : Int) = ((x &&& (2 ^ (8 * w) - 1) : Nat) : Int) := and64 hG hon
    have e2 : bitV .andNot .u64 ((x &&& (2 ^ (8 * w) - 1) : Nat) : Int) ((mv b n w k : Nat) : Int) = ((andN (x &&& (2 ^ (8 * w) - 1)) (mv b n w k) : Nat) : Int) := andNot64 _ _
    have e3 : bitV .andNot .u64 ((2 ^ (8 * w) - 1 : Nat) : Int) ((mv b n w k : Nat) : Int) = ((andN (2 ^ (8 * w) - 1) (mv b n w k) : Nat) : Int) := andNot64 _ _
    rcases h.up with hup | hup | hup
    · have hst : cU (inA b n w f.up g (k + 1)) = setL (cU (inA b n w f.up g k)) k [.int .u64 ((andN (x &&& (2 ^ (8 * w) - 1)) (mv b n w k) : Nat) : Int)] := by
        rw [eS, show u0 f.up w x (mv b n w k) = andN (x &&& (2 ^ (8 * w) - 1)) (mv b n w k) by simp [u0, hup]]; exact cU_set _ _ _
      refine ⟨[.dec true, .idx k, .val (.s (.int .u64 ((mv b n w k : Nat) : Int))), .dec true, .idx k, .val (.s (.int .u64 ((x : Nat) : Int))), .call [] [f.v] [] (.s (.int .u64 ((2 ^ (8 * w) - 1 : Nat) : Int))) 0 [], .num ((x &&& (2 ^ (8 * w) - 1) : Nat) : Int), .num ((andN (x &&& (2 ^ (8 * w) - 1)) (mv b n w k) : Nat) : Int), .idx k, .cells (cU (inA b n w f.up g (k + 1))), .num ((k + 1 : Nat) : Int)], _, _, _, _, _, rfl, ?_, rfl, rfl⟩
      simp only [true_and, and_true, and_assoc, decide_eq_true_eq, beq_iff_eq, i64_wrap]
      repeat' apply And.intro
      all_goals first
        | exact True.intro
        | omega
        | exact call0 hfm rfl
        | exact hld1
        | exact hld2
        | exact hst
        | exact hlen
        | exact e1
        | exact e2
        | (with_reducible show _ = true; kernel_rfl)
    · have hst : cU (inA b n w f.up g (k + 1)) = setL (cU (inA b n w f.up g k)) k [.int .u64 ((andN (2 ^ (8 * w) - 1) (mv b n w k) : Nat) : Int)] := by
        rw [eS, show u0 f.up w x (mv b n w k) = andN (2 ^ (8 * w) - 1) (mv b n w k) by simp [u0, hup]]; exact cU_set _ _ _
      refine ⟨[.dec true, .idx k, .val (.s (.int .u64 ((mv b n w k : Nat) : Int))), .dec false, .dec true, .call [] [f.v] [] (.s (.int .u64 ((2 ^ (8 * w) - 1 : Nat) : Int))) 0 [], .num ((andN (2 ^ (8 * w) - 1) (mv b n w k) : Nat) : Int), .idx k, .cells (cU (inA b n w f.up g (k + 1))), .num ((k + 1 : Nat) : Int)], _, _, _, _, _, rfl, ?_, rfl, rfl⟩
      simp only [true_and, and_true, and_assoc, decide_eq_true_eq, beq_iff_eq, beq_eq_false_iff_ne, ne_eq, i64_wrap]
      repeat' apply And.intro
      all_goals first
        | exact True.intro
        | omega
        | exact call0 hfm rfl
        | exact hld1
        | exact hst
        | exact hlen
        | exact e3
        | (with_reducible show _ = true; kernel_rfl)
    · have eK : inA b n w f.up g (k + 1) = inA b n w f.up g k := setK_same (by simp [u0, hup])
      refine ⟨[.dec true, .idx k, .val (.s (.int .u64 ((mv b n w k : Nat) : Int))), .dec false, .dec false, .num ((k + 1 : Nat) : Int)], _, _, _, _, _, rfl, ?_, rfl, (congrArg (fun z => [(0, some (bR ty mr C)), (1, some { cells := f.c, ty := 26 }), (2, some (bU z)), (3, some (bU (mL b n w)))]) eK.symm)⟩
      simp only [true_and, and_true, and_assoc, decide_eq_true_eq, beq_eq_false_iff_ne, ne_eq, i64_wrap]
      repeat' apply And.intro
      all_goals first
        | exact True.intro
        | omega
        | exact hld1
  · simp only [decide_eq_false_iff_not, and_true, true_and]; omega
  · intro k hk
    have hui : ui b w k < nU b n w := ui_lt hw0 hn1 (by omega)
    have hbi : bi b w k < 8 * w := bi_lt hw0 k
    have hs8 : (s.getD (k / 8) 0).toNat < 2 ^ 8 := (s.getD (k / 8) 0).toNat_lt
    have hsb : (((s.getD (k / 8) 0).toNat).testBit (k % 8)) = sb s k := rfl
    generalize hgx : (s.getD (k / 8) 0).toNat = x at *
    have hq : x / 2 ^ (k % 8) < 2 ^ 8 := Nat.lt_of_le_of_lt (Nat.div_le_self _ _) hs8
    have e1 : ((uf b w : Nat) : Int) * ((8 * w : Nat) : Int) = ((uf b w * (8 * w) : Nat) : Int) := (Int.natCast_mul _ _).symm
    have e2 : Int.fdiv (x : Int) (2 ^ min ((k % 8 : Nat) : Int).toNat IntKind.u8.bits) = ((x / 2 ^ (k % 8) : Nat) : Int) := shrN _ _ (by simp only [IntKind.bits]; omega)
    have e3 : bitV .and .u8 ((x / 2 ^ (k % 8) : Nat) : Int) 1 = (((sb s k).toNat : Nat) : Int) := by rw [← hsb, ← shr_bit]; exact and8 (b := 1) hq (by decide)
    have e8 : Int.tdiv (k : Int) 8 = ((k / 8 : Nat) : Int) := rfl
    have e9 : Int.tmod (k : Int) 8 = ((k % 8 : Nat) : Int) := rfl
    cases ht : sb s k with
    | false =>
      rw [ht] at e3
      have eK : inK b n w f.up g s (k + 1) = inK b n w f.up g s k := by simp only [inK, orK, ht]
      refine ⟨[.dec true, .num ((k / 8 : Nat) : Int), .idx (k / 8), .num ((k % 8 : Nat) : Int), .num ((x / 2 ^ (k % 8) : Nat) : Int), .num ((false.toNat : Nat) : Int), .dec false, .num ((k + 1 : Nat) : Int)], _, _, _, _, _, rfl, ?_, rfl, (congrArg (fun z => [(0, some (bR ty mr C)), (1, some { cells := f.c, ty := 26 }), (2, some (bU z))]) eK.symm)⟩
      simp only [true_and, and_true, and_assoc, decide_eq_true_eq, bne_eq_false_iff_eq, i64_wrap, hgx, e2, e3, e8, e9]
      repeat' apply And.intro
      all_goals first
        | exact True.intro
        | omega
        | exact e2
        | (with_reducible show _ = true; kernel_rfl)
        | rfl
    | true =>
      rw [ht] at e3
      have eA : b + k - uf b w * (8 * w) = b % (8 * w) + k := by omega
      have e4 : Int.tdiv ((b % (8 * w) + k : Nat) : Int) ((8 * w : Nat) : Int) = ((ui b w k : Nat) : Int) := rfl
      have e5 : Int.tmod ((b % (8 * w) + k : Nat) : Int) ((8 * w : Nat) : Int) = ((bi b w k : Nat) : Int) := rfl
      have eK : inK b n w f.up g s (k + 1) = (inK b n w f.up g s k).set (ui b w k) ((inK b n w f.up g s k).getD (ui b w k) 0 ||| 2 ^ bi b w k) := by simp only [inK, orK, ht]
      have hy := inK_lt (b := b) (n := n) hw0 hw8 f.up g s k (ui b w k)
      have hld : ldAt false 1 (bU (inK b n w f.up g s k)) (ui b w k) = some (.s (.int .u64 (((inK b n w f.up g s k).getD (ui b w k) 0 : Nat) : Int))) := ldU (by rw [inK_length]; exact hui)
      have hst : cU (inK b n w f.up g s (k + 1)) = setL (cU (inK b n w f.up g s k)) (ui b w k) [.int .u64 (((inK b n w f.up g s k).getD (ui b w k) 0 ||| 2 ^ bi b w k : Nat) : Int)] := by rw [eK]; exact cU_set _ _ _
      have hlen : ui b w k + 1 ≤ (cU (inK b n w f.up g s k)).length := by rw [cU_length, inK_length]; omega
      generalize (inK b n w f.up g s k).getD (ui b w k) 0 = y at *
      have hp : 2 ^ bi b w k < 2 ^ 64 := Nat.pow_lt_pow_right (by decide) (by omega)
      have e6 : (1 : Int) * 2 ^ min ((bi b w k : Nat) : Int).toNat IntKind.u64.bits = ((2 ^ bi b w k : Nat) : Int) := by rw [show (1 : Int) = ((1 : Nat) : Int) from rfl, shlN _ _ (by simp only [IntKind.bits]; omega), Nat.one_mul]
      have e7 : bitV .or .u64 (y : Int) ((2 ^ bi b w k : Nat) : Int) = ((y ||| 2 ^ bi b w k : Nat) : Int) := or64 hy hp
      refine ⟨[.dec true, .num ((k / 8 : Nat) : Int), .idx (k / 8), .num ((k % 8 : Nat) : Int), .num ((x / 2 ^ (k % 8) : Nat) : Int), .num ((true.toNat : Nat) : Int), .dec true,
        .num ((b + k : Nat) : Int), .num ((uf b w * (8 * w) : Nat) : Int), .num ((b % (8 * w) + k : Nat) : Int), .num ((ui b w k : Nat) : Int), .idx (ui b w k), .val (.s (.int .u64 ((y : Nat) : Int))), .num ((bi b w k : Nat) : Int), .num ((2 ^ bi b w k : Nat) : Int), .num ((y ||| 2 ^ bi b w k : Nat) : Int), .idx (ui b w k), .cells (cU (inK b n w f.up g s (k + 1))), .num ((k + 1 : Nat) : Int)], _, _, _, _, _, rfl, ?_, rfl, rfl⟩
      simp only [true_and, and_true, and_assoc, decide_eq_true_eq, bne_iff_ne, ne_eq, i64_wrap, u64_wrap, hgx, e1, e2, e3, e4, e5, e6, e7, e8, e9]
      repeat' apply And.intro
      all_goals first
        | exact True.intro
        | omega
        | exact e2
        | exact hld
        | exact hst
        | exact hlen
        | (generalize 2 ^ bi b w k = pw at *; omega)
        | (simp; done)
        | (with_reducible show _ = true; kernel_rfl)
  · simp only [decide_eq_false_iff_not, and_true, true_and]; omega

end Go.Proofs.Ytgnidbokllmhhaa
