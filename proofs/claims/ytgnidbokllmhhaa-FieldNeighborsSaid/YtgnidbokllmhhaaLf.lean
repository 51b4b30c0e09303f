/-
  Extract: what it computes.
-/
import Derived.Test.YtgnidbokllmhhaaLe
set_option linter.unusedSimpArgs false
set_option linter.unusedVariables false
namespace Go.Proofs.Ytgnidbokllmhhaa
open Go Ab
set_option maxRecDepth 100000

/-- a list of numbers that is only read -/
abbrev bR (ty : TypeId) (mr : Bool) (C : List S) : Bl := { cells := C, ty, more := mr, ro := true, sym := true, flat := true }
abbrev bB (l : List Nat) : Bl := { cells := cB l, ty := 5, sym := true, flat := true }

/-- the bits of a field, out of the units g -/
def exK (b n w : Nat) (g : Nat → Nat) (k : Nat) : List Nat := orK (· / 8) (· % 8) (fun k => (g (ui b w k)).testBit (bi b w k)) (List.replicate ((n + 7) / 8) 0) k
def exS (b n w : Nat) (g : Nat → Nat) : List UInt8 := toB (exK b n w g n)
theorem exK_lt (b n w : Nat) (g : Nat → Nat) (k i : Nat) : (exK b n w g k).getD i 0 < 256 :=
  orK_bound (N := 8) (fun i => by rw [rep_getD]; decide) (fun k => Nat.mod_lt _ (by decide)) k i
theorem exK_length (b n w : Nat) (g : Nat → Nat) (k : Nat) : (exK b n w g k).length = (n + 7) / 8 := by unfold exK; rw [orK_length, List.length_replicate]

theorem tdivNat (a c : Nat) : Int.tdiv (a : Int) (c : Int) = ((a / c : Nat) : Int) := rfl
theorem tmodNat (a c : Nat) : Int.tmod (a : Int) (c : Int) = ((a % c : Nat) : Int) := rfl
theorem shrN {k : IntKind} (a c : Nat) (h : c ≤ k.bits) : Int.fdiv (a : Int) (2 ^ min ((c : Nat) : Int).toNat k.bits) = ((a / 2 ^ c : Nat) : Int) := by
  have e : min ((c : Nat) : Int).toNat k.bits = c := by omega
  rw [e, Int.fdiv_eq_ediv_of_nonneg _ (Int.le_of_lt (Int.pow_pos (by decide))), Int.natCast_ediv, Int.natCast_pow]; rfl
theorem shlN {k : IntKind} (a c : Nat) (h : c ≤ k.bits) : (a : Int) * 2 ^ min ((c : Nat) : Int).toNat k.bits = ((a * 2 ^ c : Nat) : Int) := by
  have e : min ((c : Nat) : Int).toNat k.bits = c := by omega
  rw [e, Int.natCast_mul, Int.natCast_pow]; rfl

theorem quoN (a c : Nat) (h : a ≤ 9223372036854775807) : (Int.tdiv (a : Int) (c : Int) + 9223372036854775808) % 18446744073709551616 - 9223372036854775808 = ((a / c : Nat) : Int) := by
  rw [tdivNat]; have := Nat.div_le_self a c; generalize a / c = q at *; omega

theorem extract_s {f : Fsp} {b n w : Nat} (hf : f.ok) (h : FV f b n w) (ty : TypeId) (mr : Bool) (C : List S) (g : Nat → Nat) (hg : ∀ i, g i < 2 ^ 64) (o : Nat) (c : Option Nat) (hC : ∀ i, i < nU b n w → C[o + i]? = some (.int .u64 ((g i : Nat) : Int))) :
    SC Try.prog 13 [f.v, .s (.slc (some (0, o)) (nU b n w) c)] 1 [(0, some (bR ty mr C))] (.s (.str (exS b n w g))) 1 [(0, some (bR ty mr C))] := by
  have hu := units_v hf h
  have hub := unitBits_s f (by have := h.wd; have := h.w; omega) (by have := h.wd; have := h.w; omega)
  have hN : nU b n w ≤ 300 := nU_le h
  have hw0 : 0 < w := by have := h.w; omega
  have hw8 : w ≤ 8 := by have := h.w; omega
  have ewd := h.wd
  have eln := h.ln
  have ebit := h.bit
  have hb2 := h.b2
  have hn1 := h.n1
  have hn2 := h.n2
  have hF := uf_le b w
  have eF : uf b w * (8 * w) + b % (8 * w) = b := by unfold uf; rw [Nat.mul_comm]; exact Nat.div_add_mod _ _
  have hne : nU b n w ≠ 0 := by unfold nU; omega
  refine SC.run hm Try.func13 rfl [.call [] [f.v] [] (.tup [.s (.int .i64 ((uf b w : Nat) : Int)), .s (.int .i64 ((nU b n w : Nat) : Int))]) 0 [], .dec false, .dec false,
    .call [] [f.v] [] (.s (.int .u64 (8 * f.wd))) 0 [], .num (8 * w : Nat), .num ((n + 7 : Nat) : Int), .num (((n + 7) / 8 : Nat) : Int), .idx ((n + 7) / 8), .idx ((n + 7) / 8),
    .loop (.exit 0) (sp 70 [(8, .s (.slc (some (2, 0)) ((n + 7) / 8) (some ((n + 7) / 8))))]) 3 [(0, some (bR ty mr C)), (2, some (bB (exK b n w g n)))],
    .val (.s (.str (exS b n w g)))] [] rfl rfl ?_ (.inl rfl) (EndOK.by rfl ⟨rfl, trivial⟩ rfl rfl rfl rfl)
  simp only [true_and, and_true, and_assoc, beq_eq_false_iff_ne, bne_eq_false_iff_eq, ne_eq, i64_wrap]
  repeat' apply And.intro
  all_goals first
    | exact True.intro
    | omega
    | exact call0 hu rfl
    | exact call0 hub rfl
    | refine Ex.turns hm [1, 2, 5, 7, 8, 33, 34] [0, 1, 2] n (fun k => sp 70 [(1, .s (.slc (some (0, o)) (nU b n w) c)), (2, .s (.ptr (some (1, 0)))), (5, .s (.int .i64 ((uf b w : Nat) : Int))), (7, .s (.int .i64 ((8 * w : Nat) : Int))), (8, .s (.slc (some (2, 0)) ((n + 7) / 8) (some ((n + 7) / 8)))), (33, .s (.int .i64 f.ln)), (34, .s (.int .i64 ((k : Nat) : Int)))])
        (fun k => [(0, some (bR ty mr C)), (1, some { cells := f.c, ty := 26 }), (2, some (bB (exK b n w g k)))]) (by omega) rfl ?_ (fun k => ⟨rfl, rfl⟩) ?_ [8] [0, 2] (by simp) ⟨rfl, rfl⟩ ⟨[.dec false], _, _, _, _, _, rfl, ?_, rfl, rfl⟩
    | (with_reducible show _ = true; kernel_rfl)
    | exact Nat.le_trans (Nat.mul_le_mul_right _ (show _ ≤ 8 by decide +kernel)) (by omega)
    | (rw [List.drop_zero, List.take_of_length_le (by rw [cB_length, exK_length]; omega)]; exact (byteS_toB (exK_lt b n w _ n)).symm)
    | (unfold exS; rw [toB_length, exK_length])
    | exact quoN (n + 7) 8 (by omega)
  · show ([_, _, (2, some ({ cells := rep ((n + 7) / 8) [.int .u8 0], ty := 5, sym := true, flat := true } : Bl))] : Hp) = _
    rw [cB_rep]; rfl
  · intro k hk
    have eA : b + k - uf b w * (8 * w) = b % (8 * w) + k := by omega
    have hui : ui b w k < nU b n w := ui_lt hw0 hn1 hk
    have hbi : bi b w k < 8 * w := bi_lt hw0 k
    have e1 : ((uf b w : Nat) : Int) * ((8 * w : Nat) : Int) = ((uf b w * (8 * w) : Nat) : Int) := (Int.natCast_mul _ _).symm
    have hG := hg (ui b w k)
    have hcx := hC _ hui
    generalize hx : g (ui b w k) = x at hG hcx
    have hq : x / 2 ^ bi b w k < 2 ^ 64 := Nat.lt_of_le_of_lt (Nat.div_le_self _ _) hG
    have hld : ldAt false 1 (bR ty mr C) (plus o (ui b w k)) = some (.s (.int .u64 ((x : Nat) : Int))) := by rw [plus_eq]; simp only [ldAt, hcx]
    have e2 : Int.fdiv (x : Int) (2 ^ min ((bi b w k : Nat) : Int).toNat IntKind.u64.bits) = ((x / 2 ^ bi b w k : Nat) : Int) := shrN _ _ (by simp only [IntKind.bits]; omega)
    have e3 : bitV .and .u64 ((x / 2 ^ bi b w k : Nat) : Int) 1 = (((x.testBit (bi b w k)).toNat : Nat) : Int) := by rw [← shr_bit]; exact and64 (b := 1) hq (by decide)
    have e4 : Int.tdiv ((b % (8 * w) + k : Nat) : Int) ((8 * w : Nat) : Int) = ((ui b w k : Nat) : Int) := rfl
    have e5 : Int.tmod ((b % (8 * w) + k : Nat) : Int) ((8 * w : Nat) : Int) = ((bi b w k : Nat) : Int) := rfl
    cases ht : x.testBit (bi b w k) with
    | false =>
      rw [ht] at e3
      have eK : exK b n w g (k + 1) = exK b n w g k := by simp only [exK, orK, hx, ht]
      refine ⟨[.dec true, .num ((b + k : Nat) : Int), .num ((uf b w * (8 * w) : Nat) : Int), .num ((b % (8 * w) + k : Nat) : Int), .num ((ui b w k : Nat) : Int), .idx (ui b w k), .val (.s (.int .u64 ((x : Nat) : Int))), .num ((bi b w k : Nat) : Int), .num ((x / 2 ^ bi b w k : Nat) : Int), .num ((false.toNat : Nat) : Int), .dec false, .num ((k + 1 : Nat) : Int)], _, _, _, _, _, rfl, ?_, rfl, (congrArg (fun z => [(0, some (bR ty mr C)), (1, some { cells := f.c, ty := 26 }), (2, some (bB z))]) eK.symm)⟩
      simp only [true_and, and_true, and_assoc, decide_eq_true_eq, bne_eq_false_iff_eq, i64_wrap, e1, e2, e3, e4, e5]
      repeat' apply And.intro
      all_goals first
        | exact True.intro
        | omega
        | exact hld
        | (with_reducible show _ = true; kernel_rfl)
        | rfl
    | true =>
      rw [ht] at e3
      have eK : exK b n w g (k + 1) = (exK b n w g k).set (k / 8) ((exK b n w g k).getD (k / 8) 0 ||| 2 ^ (k % 8)) := by simp only [exK, orK, hx, ht]
      have hy := exK_lt b n w g k (k / 8)
      have hyl : k / 8 < (exK b n w g k).length := by rw [exK_length]; omega
      have hld2 : ldAt false 1 (bB (exK b n w g k)) (k / 8) = some (.s (.int .u8 (((exK b n w g k).getD (k / 8) 0 : Nat) : Int))) := ldB hyl
      have hst : cB (exK b n w g (k + 1)) = setL (cB (exK b n w g k)) (k / 8) [.int .u8 (((exK b n w g k).getD (k / 8) 0 ||| 2 ^ (k % 8) : Nat) : Int)] := by rw [eK]; exact cB_set _ _ _
      generalize (exK b n w g k).getD (k / 8) 0 = y at *
      have hp : 2 ^ (k % 8) < 2 ^ 8 := Nat.pow_lt_pow_right (by decide) (by omega)
      have e6 : (1 : Int) * 2 ^ min ((k % 8 : Nat) : Int).toNat IntKind.u8.bits = ((2 ^ (k % 8) : Nat) : Int) := by rw [show (1 : Int) = ((1 : Nat) : Int) from rfl, shlN _ _ (by simp only [IntKind.bits]; omega), Nat.one_mul]
      have e8 : Int.tdiv (k : Int) 8 = ((k / 8 : Nat) : Int) := rfl
      have e9 : Int.tmod (k : Int) 8 = ((k % 8 : Nat) : Int) := rfl
      have e7 : bitV .or .u8 (y : Int) ((2 ^ (k % 8) : Nat) : Int) = ((y ||| 2 ^ (k % 8) : Nat) : Int) := or8 hy hp
      refine ⟨[.dec true, .num ((b + k : Nat) : Int), .num ((uf b w * (8 * w) : Nat) : Int), .num ((b % (8 * w) + k : Nat) : Int), .num ((ui b w k : Nat) : Int), .idx (ui b w k), .val (.s (.int .u64 ((x : Nat) : Int))), .num ((bi b w k : Nat) : Int), .num ((x / 2 ^ bi b w k : Nat) : Int), .num ((true.toNat : Nat) : Int), .dec true,
        .num ((k / 8 : Nat) : Int), .idx (k / 8), .val (.s (.int .u8 ((y : Nat) : Int))), .num ((k % 8 : Nat) : Int), .num ((2 ^ (k % 8) : Nat) : Int), .num ((y ||| 2 ^ (k % 8) : Nat) : Int), .idx (k / 8), .cells (cB (exK b n w g (k + 1))), .num ((k + 1 : Nat) : Int)], _, _, _, _, _, rfl, ?_, rfl, rfl⟩
      simp only [true_and, and_true, and_assoc, decide_eq_true_eq, bne_iff_ne, ne_eq, i64_wrap, u8_wrap, e1, e2, e3, e4, e5, e6, e7, e8, e9]
      repeat' apply And.intro
      all_goals first
        | exact True.intro
        | omega
        | exact hld
        | exact hld2
        | exact hst
        | (generalize 2 ^ (k % 8) = pw at *; omega)
        | (simp; done)
        | (show k / 8 + 1 ≤ (cB _).length; rw [cB_length, exK_length]; omega)
        | (with_reducible show _ = true; kernel_rfl)
        | rfl
  · simp only [decide_eq_false_iff_not, and_true]; omega

end Go.Proofs.Ytgnidbokllmhhaa
