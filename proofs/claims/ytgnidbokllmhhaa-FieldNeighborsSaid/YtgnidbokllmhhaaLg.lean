/-
  ref.Extract: what it computes.
-/
import Derived.Test.YtgnidbokllmhhaaLd
set_option linter.unusedSimpArgs false
set_option linter.unusedVariables false
namespace Go.Proofs.Ytgnidbokllmhhaa
open Go Ab
set_option maxRecDepth 100000

theorem or_zero_set (l : List Nat) (i : Nat) : l.set i (l.getD i 0 ||| 0) = l := by
  rw [Nat.or_zero]
  by_cases h : i < l.length
  · rw [List.getD_eq_getElem?_getD, List.getElem?_eq_getElem h]; simp
  · rw [List.set_eq_of_length_le (by omega)]

/-- a round, in one form -/
theorem orK_succ (u v : Nat → Nat) (p : Nat → Bool) (l : List Nat) (k : Nat) : orK u v p l (k + 1) = (orK u v p l k).set (u k) ((orK u v p l k).getD (u k) 0 ||| (p k).toNat * 2 ^ v k) := by
  simp only [orK]
  cases p k with
  | true => simp
  | false => simp only [Bool.toNat_false, Nat.zero_mul]; exact (or_zero_set _ _).symm

theorem rextract_s {f : Fsp} {b n w : Nat} (hf : f.ok) (h : FV f b n w) (ty : TypeId) (mr : Bool) (C : List S) (g : Nat → Nat) (hg : ∀ i, g i < 2 ^ 64) (o : Nat) (c : Option Nat) (hC : ∀ i, i < nU b n w → C[o + i]? = some (.int .u64 ((g i : Nat) : Int))) :
    SC Try.prog 14 [f.v, .s (.slc (some (0, o)) (nU b n w) c)] 1 [(0, some (bR ty mr C))] (.s (.str (exS b n w g))) 1 [(0, some (bR ty mr C))] := by
  have hu := runits_v hf h
  have hN : nU b n w ≤ 300 := nU_le h
  have hw0 : 0 < w := by have := h.w; omega
  have hw8 : w ≤ 8 := by have := h.w; omega
  have ewd := h.wd
  have eln := h.ln
  have ebit := h.bit
  have hb2 := h.b2
  have hn1 := h.n1
  have hn2 := h.n2
  have hF := uf_le b w
  have hne : nU b n w ≠ 0 := by unfold nU; omega
  refine SC.run hm Try.func14 rfl [.call [] [f.v] [] (.tup [.s (.int .i64 ((uf b w : Nat) : Int)), .s (.int .i64 ((nU b n w : Nat) : Int))]) 0 [], .dec false, .dec false,
    .num ((n + 7 : Nat) : Int), .num (((n + 7) / 8 : Nat) : Int), .idx ((n + 7) / 8), .idx ((n + 7) / 8),
    .loop (.exit 0) (sp 72 [(7, .s (.slc (some (2, 0)) ((n + 7) / 8) (some ((n + 7) / 8))))]) 3 [(0, some (bR ty mr C)), (2, some (bB (exK b n w g n)))],
    .val (.s (.str (exS b n w g)))] [] rfl rfl ?_ (.inl rfl) (EndOK.by rfl ⟨rfl, trivial⟩ rfl rfl rfl rfl)
  simp only [true_and, and_true, and_assoc, beq_eq_false_iff_ne, bne_eq_false_iff_eq, ne_eq, i64_wrap]
  repeat' apply And.intro
  all_goals first
    | exact True.intro
    | omega
    | exact call0 hu rfl
    | refine Ex.turns hm [1, 2, 5, 7, 8] [0, 1, 2] n (fun k => sp 72 [(1, .s (.slc (some (0, o)) (nU b n w) c)), (2, .s (.ptr (some (1, 0)))), (5, .s (.int .i64 ((uf b w : Nat) : Int))), (7, .s (.slc (some (2, 0)) ((n + 7) / 8) (some ((n + 7) / 8)))), (8, .s (.int .i64 ((k : Nat) : Int)))])
        (fun k => [(0, some (bR ty mr C)), (1, some { cells := f.c, ty := 26 }), (2, some (bB (exK b n w g k)))]) (by omega) rfl ?_ (fun k => ⟨rfl, rfl⟩) ?_ [7] [0, 2] (by simp) ⟨rfl, rfl⟩ ⟨[.dec false], _, _, _, _, _, rfl, ?_, rfl, rfl⟩
    | (with_reducible show _ = true; kernel_rfl)
    | exact Nat.le_trans (Nat.mul_le_mul_right _ (show _ ≤ 8 by decide +kernel)) (by omega)
    | (rw [List.drop_zero, List.take_of_length_le (by rw [cB_length, exK_length]; omega)]; exact (byteS_toB (exK_lt b n w _ n)).symm)
    | (unfold exS; rw [toB_length, exK_length])
    | exact quoN (n + 7) 8 (by omega)
  · show ([_, _, (2, some ({ cells := rep ((n + 7) / 8) [.int .u8 0], ty := 5, sym := true, flat := true } : Bl))] : Hp) = _
    rw [cB_rep]; rfl
  · intro k hk
    have hui : ui b w k < nU b n w := ui_lt hw0 hn1 hk
    have hbi : bi b w k < 8 * w := bi_lt hw0 k
    have hG := hg (ui b w k)
    have hcx := hC _ hui
    generalize hx : g (ui b w k) = x at hG hcx
    have hq : x / 2 ^ bi b w k < 2 ^ 64 := Nat.lt_of_le_of_lt (Nat.div_le_self _ _) hG
    have hld : ldAt false 1 (bR ty mr C) (plus o (ui b w k)) = some (.s (.int .u64 ((x : Nat) : Int))) := by rw [plus_eq]; simp only [ldAt, hcx]
    have e0 : Int.tdiv ((b + k : Nat) : Int) ((8 * w : Nat) : Int) = (((b + k) / (8 * w) : Nat) : Int) := rfl
    have e5 : Int.tmod ((b + k : Nat) : Int) ((8 * w : Nat) : Int) = ((bi b w k : Nat) : Int) := by rw [← bi_eq hw0]; rfl
    have ed : (b + k) / (8 * w) = uf b w + ui b w k := ui_eq hw0 k
    have ed2 : (b + k) / (8 * w) ≤ b + k := Nat.div_le_self _ _
    have e2 : Int.fdiv (x : Int) (2 ^ min ((bi b w k : Nat) : Int).toNat IntKind.u64.bits) = ((x / 2 ^ bi b w k : Nat) : Int) := shrN _ _ (by simp only [IntKind.bits]; omega)
    have e3 : bitV .and .u64 ((x / 2 ^ bi b w k : Nat) : Int) 1 = (((x.testBit (bi b w k)).toNat : Nat) : Int) := by rw [← shr_bit]; exact and64 (b := 1) hq (by decide)
    have eK : exK b n w g (k + 1) = (exK b n w g k).set (k / 8) ((exK b n w g k).getD (k / 8) 0 ||| (x.testBit (bi b w k)).toNat * 2 ^ (k % 8)) := by
      rw [← hx]; exact orK_succ _ _ _ _ _
    have hy := exK_lt b n w g k (k / 8)
    have hyl : k / 8 < (exK b n w g k).length := by rw [exK_length]; omega
    have hld2 : ldAt false 1 (bB (exK b n w g k)) (k / 8) = some (.s (.int .u8 (((exK b n w g k).getD (k / 8) 0 : Nat) : Int))) := ldB hyl
    have hp : 2 ^ (k % 8) < 2 ^ 8 := Nat.pow_lt_pow_right (by decide) (by omega)
    have hv : (x.testBit (bi b w k)).toNat ≤ 1 := Bool.toNat_le _
    have hvp : (x.testBit (bi b w k)).toNat * 2 ^ (k % 8) < 2 ^ 8 := Nat.lt_of_le_of_lt (Nat.mul_le_mul_right _ hv) (by omega)
    have hst : cB (exK b n w g (k + 1)) = setL (cB (exK b n w g k)) (k / 8) [.int .u8 (((exK b n w g k).getD (k / 8) 0 ||| (x.testBit (bi b w k)).toNat * 2 ^ (k % 8) : Nat) : Int)] := by rw [eK]; exact cB_set _ _ _
    generalize (exK b n w g k).getD (k / 8) 0 = y at *
    have e6 : ((((x.testBit (bi b w k)).toNat : Nat) : Int)) * 2 ^ min ((k % 8 : Nat) : Int).toNat IntKind.u64.bits = (((x.testBit (bi b w k)).toNat * 2 ^ (k % 8) : Nat) : Int) := shlN _ _ (by simp only [IntKind.bits]; omega)
    have e7 : bitV .or .u8 (y : Int) (((x.testBit (bi b w k)).toNat * 2 ^ (k % 8) : Nat) : Int) = ((y ||| (x.testBit (bi b w k)).toNat * 2 ^ (k % 8) : Nat) : Int) := or8 hy hvp
    have e8 : Int.tdiv (k : Int) 8 = ((k / 8 : Nat) : Int) := rfl
    have e9 : Int.tmod (k : Int) 8 = ((k % 8 : Nat) : Int) := rfl
    generalize (x.testBit (bi b w k)).toNat = vb at *
    refine ⟨[.dec true, .num ((b + k : Nat) : Int), .num ((8 * w : Nat) : Int), .num (((b + k) / (8 * w) : Nat) : Int), .num ((ui b w k : Nat) : Int), .idx (ui b w k), .val (.s (.int .u64 ((x : Nat) : Int))), .num ((8 * w : Nat) : Int), .num ((bi b w k : Nat) : Int), .num ((bi b w k : Nat) : Int), .num ((x / 2 ^ bi b w k : Nat) : Int), .num ((vb : Nat) : Int),
      .num ((k / 8 : Nat) : Int), .idx (k / 8), .val (.s (.int .u8 ((y : Nat) : Int))), .num ((k % 8 : Nat) : Int), .num ((k % 8 : Nat) : Int), .num ((vb * 2 ^ (k % 8) : Nat) : Int), .num ((vb * 2 ^ (k % 8) : Nat) : Int), .num ((y ||| vb * 2 ^ (k % 8) : Nat) : Int), .idx (k / 8), .cells (cB (exK b n w g (k + 1))), .num ((k + 1 : Nat) : Int)], _, _, _, _, _, rfl, ?_, rfl, rfl⟩
    simp only [true_and, and_true, and_assoc, decide_eq_true_eq, ne_eq, i64_wrap, u64_wrap, u8_wrap, e0, e2, e3, e5, e6, e7, e8, e9]
    generalize (b + k) / (8 * w) = q at *
    repeat' apply And.intro
    all_goals first
      | exact True.intro
      | omega
      | exact hld
      | exact hld2
      | exact hst
      | (generalize vb * 2 ^ (k % 8) = pw at *; omega)
      | (show k / 8 + 1 ≤ (cB _).length; rw [cB_length, exK_length]; omega)
      | (with_reducible show _ = true; kernel_rfl)
  · simp only [decide_eq_false_iff_not, and_true, true_and]; omega

end Go.Proofs.Ytgnidbokllmhhaa
