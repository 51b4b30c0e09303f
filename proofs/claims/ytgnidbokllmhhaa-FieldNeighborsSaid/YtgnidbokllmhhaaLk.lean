/-
  ref.Insert: what it computes.
-/
import Derived.Test.YtgnidbokllmhhaaLj
set_option linter.unusedSimpArgs false
set_option linter.unusedVariables false
namespace Go.Proofs.Ytgnidbokllmhhaa
open Go Ab
set_option maxRecDepth 100000

set_option maxHeartbeats 4000000 in
theorem rinsert_s {f : Fsp} {b n w : Nat} (hf : f.ok) (h : FV f b n w) (s : List UInt8) (ty : TypeId) (mr : Bool) (C : List S) (g : Nat → Nat) (hg : ∀ i, g i < 2 ^ 64) (o : Nat) (c : Option Nat) (hC : ∀ i, i < nU b n w → C[o + i]? = some (.int .u64 ((g i : Nat) : Int))) :
    SC Try.prog 17 [f.v, .s (.str s), .s (.slc (some (0, o)) (nU b n w) c)] 1 [(0, some (bR ty mr C))] (.s (.slc (some (1, 0)) (nU b n w) (some (nU b n w)))) 2 [(0, some (bR ty mr C)), (1, some (bU (inK b n w f.up g s n)))] := by
  have hu := runits_v hf h
  have hfm := ones_s f.wd (by have := h.wd; have := h.w; omega) (by have := h.wd; have := h.w; omega)
  have hms := rmasks_s hf h
  have hN : nU b n w ≤ 300 := nU_le h
  have hw0 : 0 < w := by have := h.w; omega
  have hw8 : w ≤ 8 := by have := h.w; omega
  have ewd := h.wd
  have eln := h.ln
  have ebit := h.bit
  have hb2 := h.b2
  have hn1 := h.n1
  have hn2 := h.n2
  have hF := uf_le b w
  have hne : nU b n w ≠ 0 := by unfold nU; omega
  have eones : ones f.wd = ((2 ^ (8 * w) - 1 : Nat) : Int) := by rw [ewd]; exact ones_nat h.w
  rw [eones] at hfm
  refine SC.run hm Try.func17 rfl [.call [] [f.v] [] (.tup [.s (.int .i64 ((uf b w : Nat) : Int)), .s (.int .i64 ((nU b n w : Nat) : Int))]) 0 [], .dec false, .dec false,
    .call [] [f.v] [] (.s (.slc (some (0, 0)) (nU b n w) (some (nU b n w)))) 1 [(0, some (bU (mL b n w)))], .idx (nU b n w), .idx (nU b n w),
    .loop (.exit 0) (sp 102 [(1, .s (.str s)), (3, .s (.ptr (some (1, 0)))), (7, .s (.int .i64 ((uf b w : Nat) : Int))), (10, .s (.slc (some (3, 0)) (nU b n w) (some (nU b n w))))]) 4 [(0, some (bR ty mr C)), (1, some { cells := f.c, ty := 26 }), (3, some (bU (inA b n w f.up g (nU b n w))))],
    .loop (.exit 3) (sp 102 [(10, .s (.slc (some (3, 0)) (nU b n w) (some (nU b n w))))]) 4 [(0, some (bR ty mr C)), (3, some (bU (inK b n w f.up g s n)))]] [3] rfl rfl ?_ (.inl rfl) (EndOK.by rfl ⟨rfl, rfl, trivial⟩ rfl rfl rfl rfl)
  simp only [true_and, and_true, and_assoc, beq_eq_false_iff_ne, bne_eq_false_iff_eq, ne_eq]
  repeat' apply And.intro
  all_goals first
    | exact True.intro
    | omega
    | exact call0 hu rfl
    | exact call0 hms rfl
    | refine Ex.turns hm [1, 2, 3, 7, 8, 9, 10, 11] [0, 1, 2, 3] (nU b n w) (fun k => sp 102 [(1, .s (.str s)), (2, .s (.slc (some (0, o)) (nU b n w) c)), (3, .s (.ptr (some (1, 0)))), (7, .s (.int .i64 ((uf b w : Nat) : Int))), (8, .s (.int .i64 ((nU b n w : Nat) : Int))), (9, .s (.slc (some (2, 0)) (nU b n w) (some (nU b n w)))), (10, .s (.slc (some (3, 0)) (nU b n w) (some (nU b n w)))), (11, .s (.int .i64 ((k : Nat) : Int)))])
        (fun k => [(0, some (bR ty mr C)), (1, some { cells := f.c, ty := 26 }), (2, some (bU (mL b n w))), (3, some (bU (inA b n w f.up g k)))]) (by omega) rfl ?_ (fun k => ⟨rfl, rfl⟩) ?_ [1, 3, 7, 10] [0, 1, 3] (by simp) ⟨rfl, rfl⟩ ⟨[.dec false], _, _, _, _, _, rfl, ?_, rfl, rfl⟩
    | refine Ex.turns hm [1, 3, 7, 10, 12] [0, 1, 3] n (fun k => sp 102 [(1, .s (.str s)), (3, .s (.ptr (some (1, 0)))), (7, .s (.int .i64 ((uf b w : Nat) : Int))), (10, .s (.slc (some (3, 0)) (nU b n w) (some (nU b n w)))), (12, .s (.int .i64 ((k : Nat) : Int)))])
        (fun k => [(0, some (bR ty mr C)), (1, some { cells := f.c, ty := 26 }), (3, some (bU (inK b n w f.up g s k)))]) (by omega) rfl rfl (fun k => ⟨rfl, rfl⟩) ?_ [10] [0, 3] (by simp) ⟨rfl, rfl⟩ ⟨[.dec false], _, _, _, _, _, rfl, ?_, rfl, rfl⟩
    | (with_reducible show _ = true; kernel_rfl)
    | exact Nat.le_trans (Nat.mul_le_mul_right _ (show _ ≤ 8 by decide +kernel)) (by omega)
  · show ([_, _, _, (3, some ({ cells := rep (nU b n w) [.int .u64 0], ty := 22, sym := true, flat := true } : Bl))] : Hp) = _
    rw [cU_rep]; rfl
  · intro k hk
    have hld1 : ldAt false 1 (bU (mL b n w)) k = some (.s (.int .u64 ((mv b n w k : Nat) : Int))) := by
      have := ldU (l := mL b n w) (i := k) (by rw [mL_length]; exact hk) (ty := 22) (m := false) (r := false) (s := true) (f := true) (gh := none)
      rw [mL_getD, if_pos hk] at this; exact this
    have hG := hg k
    have hld2 : ldAt false 1 (bR ty mr C) (plus o k) = some (.s (.int .u64 ((g k : Nat) : Int))) := by rw [plus_eq]; simp only [ldAt, hC k hk]
    have hon := ones_lt w hw8
    have eS : inA b n w f.up g (k + 1) = (inA b n w f.up g k).set k (u0 f.up w (g k) (mv b n w k)) := rfl
    have hlen : k + 1 ≤ (cU (inA b n w f.up g k)).length := by rw [cU_length, inA_length]; omega
    generalize hxx : g k = x at *
    have e1 : bitV .and .u64 (x : Int) ((2 ^ (8 * w) - 1 : Nat) : Int) = ((x &&& (2 ^ (8 * w) - 1) : Nat) : Int) := and64 hG hon
    have e2 : bitV .andNot .u64 ((x &&& (2 ^ (8 * w) - 1) : Nat) : Int) ((mv b n w k : Nat) : Int) = ((andN (x &&& (2 ^ (8 * w) - 1)) (mv b n w k) : Nat) : Int) := andNot64 _ _
    have e3 : bitV .andNot .u64 ((2 ^ (8 * w) - 1 : Nat) : Int) ((mv b n w k : Nat) : Int) = ((andN (2 ^ (8 * w) - 1) (mv b n w k) : Nat) : Int) := andNot64 _ _
    rcases h.up with hup | hup | hup
    · have hst : cU (inA b n w f.up g (k + 1)) = setL (cU (inA b n w f.up g k)) k [.int .u64 ((andN (x &&& (2 ^ (8 * w) - 1)) (mv b n w k) : Nat) : Int)] := by
        rw [eS, show u0 f.up w x (mv b n w k) = andN (x &&& (2 ^ (8 * w) - 1)) (mv b n w k) by simp [u0, hup]]; exact cU_set _ _ _
      refine ⟨[.dec true, .dec true, .idx k, .val (.s (.int .u64 ((x : Nat) : Int))), .call [] [.s (.int .i64 f.wd)] [] (.s (.int .u64 ((2 ^ (8 * w) - 1 : Nat) : Int))) 0 [], .num ((x &&& (2 ^ (8 * w) - 1) : Nat) : Int), .idx k, .val (.s (.int .u64 ((mv b n w k : Nat) : Int))), .num ((andN (x &&& (2 ^ (8 * w) - 1)) (mv b n w k) : Nat) : Int), .idx k, .cells (cU (inA b n w f.up g (k + 1))), .num ((k + 1 : Nat) : Int)], _, _, _, _, _, rfl, ?_, rfl, rfl⟩
      simp only [true_and, and_true, and_assoc, decide_eq_true_eq, beq_iff_eq, i64_wrap]
      repeat' apply And.intro
      all_goals first
        | exact True.intro
        | omega
        | exact call0 hfm rfl
        | exact hld1
        | exact hld2
        | exact hst
        | exact hlen
        | exact e1
        | exact e2
        | (with_reducible show _ = true; kernel_rfl)
    · have hst : cU (inA b n w f.up g (k + 1)) = setL (cU (inA b n w f.up g k)) k [.int .u64 ((andN (2 ^ (8 * w) - 1) (mv b n w k) : Nat) : Int)] := by
        rw [eS, show u0 f.up w x (mv b n w k) = andN (2 ^ (8 * w) - 1) (mv b n w k) by simp [u0, hup]]; exact cU_set _ _ _
      refine ⟨[.dec true, .dec false, .dec true, .call [] [.s (.int .i64 f.wd)] [] (.s (.int .u64 ((2 ^ (8 * w) - 1 : Nat) : Int))) 0 [], .idx k, .val (.s (.int .u64 ((mv b n w k : Nat) : Int))), .num ((andN (2 ^ (8 * w) - 1) (mv b n w k) : Nat) : Int), .idx k, .cells (cU (inA b n w f.up g (k + 1))), .num ((k + 1 : Nat) : Int)], _, _, _, _, _, rfl, ?_, rfl, rfl⟩
      simp only [true_and, and_true, and_assoc, decide_eq_true_eq, beq_iff_eq, beq_eq_false_iff_ne, ne_eq, i64_wrap]
      repeat' apply And.intro
      all_goals first
        | exact True.intro
        | omega
        | exact call0 hfm rfl
        | exact hld1
        | exact hst
        | exact hlen
        | exact e3
        | (with_reducible show _ = true; kernel_rfl)
    · have eK : inA b n w f.up g (k + 1) = inA b n w f.up g k := setK_same (by simp [u0, hup])
      refine ⟨[.dec true, .dec false, .dec false, .num ((k + 1 : Nat) : Int)], _, _, _, _, _, rfl, ?_, rfl, (congrArg (fun z => [(0, some (bR ty mr C)), (1, some { cells := f.c, ty := 26 }), (2, some (bU (mL b n w))), (3, some (bU z))]) eK.symm)⟩
      simp only [true_and, and_true, and_assoc, decide_eq_true_eq, beq_eq_false_iff_ne, ne_eq, i64_wrap]
      repeat' apply And.intro
      all_goals first
        | exact True.intro
        | omega
  · simp only [decide_eq_false_iff_not, and_true, true_and]; omega
  · intro k hk
    have hbit := bit_s s k (by omega)
    have hui : ui b w k < nU b n w := ui_lt hw0 hn1 hk
    have hbi : bi b w k < 8 * w := bi_lt hw0 k
    have e0 : Int.tdiv ((b + k : Nat) : Int) ((8 * w : Nat) : Int) = (((b + k) / (8 * w) : Nat) : Int) := rfl
    have e5 : Int.tmod ((b + k : Nat) : Int) ((8 * w : Nat) : Int) = ((bi b w k : Nat) : Int) := by rw [← bi_eq hw0]; rfl
    have ed : (b + k) / (8 * w) = uf b w + ui b w k := ui_eq hw0 k
    have ed2 : (b + k) / (8 * w) ≤ b + k := Nat.div_le_self _ _
    have eK : inK b n w f.up g s (k + 1) = (inK b n w f.up g s k).set (ui b w k) ((inK b n w f.up g s k).getD (ui b w k) 0 ||| (sb s k).toNat * 2 ^ bi b w k) := orK_succ _ _ _ _ _
    have hy := inK_lt (b := b) (n := n) hw0 hw8 f.up g s k (ui b w k)
    have hld : ldAt false 1 (bU (inK b n w f.up g s k)) (ui b w k) = some (.s (.int .u64 (((inK b n w f.up g s k).getD (ui b w k) 0 : Nat) : Int))) := ldU (by rw [inK_length]; exact hui)
    have hst : cU (inK b n w f.up g s (k + 1)) = setL (cU (inK b n w f.up g s k)) (ui b w k) [.int .u64 (((inK b n w f.up g s k).getD (ui b w k) 0 ||| (sb s k).toNat * 2 ^ bi b w k : Nat) : Int)] := by rw [eK]; exact cU_set _ _ _
    have hlen : ui b w k + 1 ≤ (cU (inK b n w f.up g s k)).length := by rw [cU_length, inK_length]; omega
    generalize (inK b n w f.up g s k).getD (ui b w k) 0 = y at *
    have hp : 2 ^ bi b w k < 2 ^ 64 := Nat.pow_lt_pow_right (by decide) (by omega)
    have hv : (sb s k).toNat ≤ 1 := Bool.toNat_le _
    have hvp : (sb s k).toNat * 2 ^ bi b w k < 2 ^ 64 := Nat.lt_of_le_of_lt (Nat.mul_le_mul_right _ hv) (by omega)
    have e6 : ((((sb s k).toNat : Nat) : Int)) * 2 ^ min ((bi b w k : Nat) : Int).toNat IntKind.u64.bits = (((sb s k).toNat * 2 ^ bi b w k : Nat) : Int) := shlN _ _ (by simp only [IntKind.bits]; omega)
    have e7 : bitV .or .u64 (y : Int) (((sb s k).toNat * 2 ^ bi b w k : Nat) : Int) = ((y ||| (sb s k).toNat * 2 ^ bi b w k : Nat) : Int) := or64 hy hvp
    generalize (sb s k).toNat = vb at *
    refine ⟨[.dec true, .num ((b + k : Nat) : Int), .num ((8 * w : Nat) : Int), .num (((b + k) / (8 * w) : Nat) : Int), .num ((ui b w k : Nat) : Int), .idx (ui b w k), .val (.s (.int .u64 ((y : Nat) : Int))), .call [] [.s (.str s), .s (.int .i64 ((k : Nat) : Int))] [] (.s (.int .u64 ((vb : Nat) : Int))) 0 [], .num ((8 * w : Nat) : Int), .num ((bi b w k : Nat) : Int), .num ((bi b w k : Nat) : Int), .num ((vb * 2 ^ bi b w k : Nat) : Int), .num ((y ||| vb * 2 ^ bi b w k : Nat) : Int), .idx (ui b w k), .cells (cU (inK b n w f.up g s (k + 1))), .num ((k + 1 : Nat) : Int)], _, _, _, _, _, rfl, ?_, rfl, rfl⟩
    simp only [true_and, and_true, and_assoc, decide_eq_true_eq, ne_eq, i64_wrap, u64_wrap, e0, e5, e6, e7]
    generalize (b + k) / (8 * w) = q at *
    repeat' apply And.intro
    all_goals first
      | exact True.intro
      | omega
      | exact call0 hbit rfl
      | exact hld
      | exact hst
      | exact hlen
      | (generalize vb * 2 ^ bi b w k = pw at *; omega)
      | (with_reducible show _ = true; kernel_rfl)
  · simp only [decide_eq_false_iff_not, and_true, true_and]; omega

end Go.Proofs.Ytgnidbokllmhhaa
