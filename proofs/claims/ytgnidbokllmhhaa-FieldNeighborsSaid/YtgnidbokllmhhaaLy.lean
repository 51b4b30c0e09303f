/-
  Values: Number, ref08.Valid, little, Buffer, bounded, ref.FromValue: what they compute.
-/
import Derived.Test.YtgnidbokllmhhaaLk
set_option linter.unusedSimpArgs false
set_option linter.unusedVariables false
namespace Go.Proofs.Ytgnidbokllmhhaa
open Go Ab
set_option maxRecDepth 100000

structure Vl where
  k : Int
  n : Nat
  s : List UInt8
  o : Int
def Vl.c (x : Vl) : List S := [.int .i64 x.k, .int .u64 ((x.n : Nat) : Int), .str x.s, .int .i64 x.o]
def Vl.v (x : Vl) : V := .agg x.c
structure Vl.ok (x : Vl) : Prop where
  k : -9223372036854775808 ≤ x.k ∧ x.k ≤ 9223372036854775807
  n : x.n < 2 ^ 64
  s : (x.s.length : Int) ≤ 9223372036854775807

theorem number_s (n : Nat) : SC Try.prog 19 [.s (.int .u64 ((n : Nat) : Int))] 0 [] (Vl.v ⟨1, n, [], 0⟩) 0 [] := by
  refine SC.run hm Try.func19 rfl [] [] rfl rfl ?_ (.inl rfl) (EndOK.plain rfl no_mem rfl rfl)
  simp only [true_and, and_true]

/-- is the value valid? -/
def vv (x : Vl) : Bool := (decide (x.k ≥ 0) && decide (x.k ≤ 6)) && ((x.k != 2 && x.k != 3) || decide (((x.s.length : Nat) : Int) ≤ 255))
theorem vval_s (x : Vl) : SC Try.prog 35 [x.v] 0 [] (.s (.bool (vv x))) 0 [] := by
  refine SC.run hm Try.func35 rfl [.eager, .lazy [] []] [] rfl rfl ?_ (.inl rfl) (EndOK.plain rfl no_mem rfl rfl)
  simp only [true_and, and_true, and_assoc, and_self, imp_self, implies_true]
  repeat' apply And.intro
  all_goals first | (intros; simp_all; done) | exact fun h1 => ⟨h1, fun h2 => by rw [h1, h2]; rfl⟩

/-- the first k bytes of a number -/
def lit (n : Nat) : Nat → List UInt8
  | 0 => []
  | k + 1 => lit n k ++ [UInt8.ofNat (n / 2 ^ (8 * k))]
theorem lit_length (n : Nat) : ∀ k, (lit n k).length = k
  | 0 => rfl
  | k + 1 => by simp [lit, lit_length n k]
theorem little_s (n : Nat) (hn : n < 2 ^ 64) : SC Try.prog 46 [.s (.int .u64 ((n : Nat) : Int))] 0 [] (.s (.str (lit n 8))) 0 [] := by
  refine SC.run hm Try.func46 rfl [.loop (.exit 0) (sp 20 [(3, .s (.str (lit n 8)))]) 0 []] [] rfl rfl ?_ (.inl rfl) (EndOK.plain rfl no_mem rfl rfl)
  simp only [true_and, and_true, and_assoc]
  refine Ex.turns hm [0, 3, 4] [] 8 (fun k => sp 20 [(0, .s (.int .u64 ((n : Nat) : Int))), (3, .s (.str (lit n k))), (4, .s (.int .i64 ((k : Nat) : Int)))]) (fun _ => []) (by omega) rfl rfl (fun k => ⟨rfl, rfl⟩) ?_ [3] [] (by simp) ⟨rfl, rfl⟩ ⟨[.dec false], _, _, _, _, _, rfl, ?_, rfl, rfl⟩
  · intro k hk
    have hl := lit_length n k
    have e2 : Int.fdiv (n : Int) (2 ^ min ((8 * k : Nat) : Int).toNat IntKind.u64.bits) = ((n / 2 ^ (8 * k) : Nat) : Int) := shrN _ _ (by simp only [IntKind.bits]; omega)
    have e3 : (UInt8.ofNat (n / 2 ^ (8 * k))).toNat = n / 2 ^ (8 * k) % 256 := by simp
    refine ⟨[.dec true, .num ((8 * k : Nat) : Int), .num ((8 * k : Nat) : Int), .num ((n / 2 ^ (8 * k) : Nat) : Int), .num (((UInt8.ofNat (n / 2 ^ (8 * k))).toNat : Nat) : Int), .val (.s (.str [UInt8.ofNat (n / 2 ^ (8 * k))])), .num ((k + 1 : Nat) : Int)], _, _, _, _, _, rfl, ?_, rfl, rfl⟩
    simp only [true_and, and_true, and_assoc, decide_eq_true_eq, i64_wrap, u64_wrap, u8_wrap, e2, List.length_singleton, hl]
    repeat' apply And.intro
    all_goals first
      | exact True.intro
      | omega
      | rfl
  · simp only [decide_eq_false_iff_not, and_true, true_and]; omega

theorem buffer_1 (x : Vl) (hx : x.n < 2 ^ 64) (h1 : x.k = 1) : SC Try.prog 36 [x.v] 0 [] (.tup [.s (.str (lit x.n 8)), .s (.int .i64 0)]) 0 [] := by
  have c1 := vval_s x
  rw [show vv x = true by simp [vv, h1]] at c1
  have c2 := little_s x.n hx
  refine SC.run hm Try.func36 rfl [.call [] [x.v] [] (.s (.bool true)) 0 [], .dec false, .dec true, .call [] [.s (.int .u64 ((x.n : Nat) : Int))] [] (.s (.str (lit x.n 8))) 0 []] [] rfl rfl ?_ (.inl rfl) (EndOK.plain rfl no_mem rfl rfl)
  simp only [true_and, and_true, and_assoc, beq_eq_false_iff_ne, beq_iff_eq, ne_eq]
  repeat' apply And.intro
  all_goals first
    | exact True.intro
    | omega
    | exact call0 c1 rfl
    | exact call0 c2 rfl
    | (with_reducible show _ = true; kernel_rfl)

/-- the first n bits of a string, as bytes -/
def fvK (n : Nat) (s : List UInt8) (k : Nat) : List Nat := orK (· / 8) (· % 8) (sb s) (List.replicate ((n + 7) / 8) 0) k
def fvS (n : Nat) (s : List UInt8) : List UInt8 := toB (fvK n s n)
theorem fvK_lt (n : Nat) (s : List UInt8) (k i : Nat) : (fvK n s k).getD i 0 < 256 := orK_bound (N := 8) (fun i => by rw [rep_getD]; decide) (fun k => Nat.mod_lt _ (by decide)) k i
theorem fvK_length (n : Nat) (s : List UInt8) (k : Nat) : (fvK n s k).length = (n + 7) / 8 := by unfold fvK; rw [orK_length, List.length_replicate]

theorem rfrom_bad1 (f : Fsp) (x : Vl) (h : vv x = false) : SC Try.prog 18 [f.v, x.v] 0 [] (.tup [.s (.str []), .s (.int .i64 1)]) 0 [] := by
  have c1 := vval_s x
  rw [h] at c1
  refine SC.run hm Try.func18 rfl [.call [] [x.v] [] (.s (.bool false)) 0 []] [] rfl rfl ?_ (.inl rfl) (EndOK.plain rfl no_mem rfl rfl)
  simp only [true_and, and_true, and_assoc]
  exact ⟨by kernel_rfl, call0 c1 rfl⟩
theorem rfrom_bad2 (f : Fsp) (hf : f.ok) (x : Vl) (h : vv x = true) (h2 : vld f = false) : SC Try.prog 18 [f.v, x.v] 0 [] (.tup [.s (.str []), .s (.int .i64 1)]) 0 [] := by
  have c1 := vval_s x
  have c2 := validField_s f hf
  rw [h] at c1
  rw [h2] at c2
  refine SC.run hm Try.func18 rfl [.call [] [x.v] [] (.s (.bool true)) 0 [], .call [] [f.v] [] (.s (.bool false)) 0 []] [] rfl rfl ?_ (.inl rfl) (EndOK.plain rfl no_mem rfl rfl)
  simp only [true_and, and_true, and_assoc]
  exact ⟨by kernel_rfl, call0 c1 rfl, by kernel_rfl, call0 c2 rfl⟩
theorem rfrom_ty (f : Fsp) (hf : f.ok) (x : Vl) (h : vv x = true) (h2 : vld f = true) (k1 : x.k ≠ 1) (k2 : x.k ≠ 2) (k3 : x.k ≠ 3) : SC Try.prog 18 [f.v, x.v] 0 [] (.tup [.s (.str []), .s (.int .i64 10)]) 0 [] := by
  have c1 := vval_s x
  have c2 := validField_s f hf
  rw [h] at c1
  rw [h2] at c2
  refine SC.run hm Try.func18 rfl [.call [] [x.v] [] (.s (.bool true)) 0 [], .call [] [f.v] [] (.s (.bool true)) 0 [], .dec false, .dec false, .dec false] [] rfl rfl ?_ (.inl rfl) (EndOK.plain rfl no_mem rfl rfl)
  simp only [true_and, and_true, and_assoc, beq_eq_false_iff_ne, ne_eq]
  exact ⟨by kernel_rfl, call0 c1 rfl, by kernel_rfl, call0 c2 rfl, k1, k2, k3⟩

set_option maxHeartbeats 1000000 in
theorem rfrom_1 {f : Fsp} {b n w : Nat} (hf : f.ok) (h : FV f b n w) (x : Vl) (hv : vv x = true) (hx : x.n < 2 ^ 64) (hk : x.k = 1) : SC Try.prog 18 [f.v, x.v] 0 [] (.tup [.s (.str (fvS n (lit x.n 8))), .s (.int .i64 0)]) 0 [] := by
  have c1 := vval_s x
  have c2 := validField_s f hf
  rw [hv] at c1
  rw [h.v] at c2
  have c3 := buffer_1 x hx hk
  have eln := h.ln
  have hn1 := h.n1
  have hn2 := h.n2
  refine SC.run hm Try.func18 rfl [.call [] [x.v] [] (.s (.bool true)) 0 [], .call [] [f.v] [] (.s (.bool true)) 0 [], .dec true, .call [] [x.v] [] (.tup [.s (.str (lit x.n 8)), .s (.int .i64 0)]) 0 [],
    .num ((n + 7 : Nat) : Int), .num (((n + 7) / 8 : Nat) : Int), .idx ((n + 7) / 8), .idx ((n + 7) / 8),
    .loop (.exit 1) (sp 59 [(7, .s (.slc (some (2, 0)) ((n + 7) / 8) (some ((n + 7) / 8))))]) 3 [(2, some (bB (fvK n (lit x.n 8) n)))],
    .val (.s (.str (fvS n (lit x.n 8))))] [] rfl rfl ?_ (.inl rfl) (EndOK.plain rfl no_mem rfl rfl)
  simp only [true_and, and_true, and_assoc, beq_eq_false_iff_ne, beq_iff_eq, ne_eq, i64_wrap]
  repeat' apply And.intro
  all_goals first
    | exact True.intro
    | omega
    | exact call0 c1 rfl
    | exact call0 c2 rfl
    | exact call0 c3 rfl
    | refine Ex.turns hm [2, 6, 7, 8] [0, 2] n (fun k => sp 59 [(2, .s (.ptr (some (0, 0)))), (6, .s (.str (lit x.n 8))), (7, .s (.slc (some (2, 0)) ((n + 7) / 8) (some ((n + 7) / 8)))), (8, .s (.int .i64 ((k : Nat) : Int)))])
        (fun k => [(0, some { cells := f.c, ty := 26 }), (2, some (bB (fvK n (lit x.n 8) k)))]) (by omega) rfl ?_ (fun k => ⟨rfl, rfl⟩) ?_ [7] [2] (by simp) ⟨rfl, rfl⟩ ⟨[.dec false], _, _, _, _, _, rfl, ?_, rfl, rfl⟩
    | (with_reducible show _ = true; kernel_rfl)
    | exact Nat.le_trans (Nat.mul_le_mul_right _ (show _ ≤ 8 by decide +kernel)) (by omega)
    | (rw [List.drop_zero, List.take_of_length_le (by rw [cB_length, fvK_length]; omega)]; exact (byteS_toB (fvK_lt n _ n)).symm)
    | (unfold fvS; rw [toB_length, fvK_length])
    | (rw [eln]; exact quoN (n + 7) 8 (by omega))
    | exact quoN (n + 7) 8 (by omega)
  · show ([_, (2, some ({ cells := rep ((n + 7) / 8) [.int .u8 0], ty := 5, sym := true, flat := true } : Bl))] : Hp) = _
    rw [cB_rep]; rfl
  · intro k hk'
    generalize (lit x.n 8) = s at *
    have hbit := bit_s s k (by omega)
    have eK : fvK n s (k + 1) = (fvK n s k).set (k / 8) ((fvK n s k).getD (k / 8) 0 ||| (sb s k).toNat * 2 ^ (k % 8)) := orK_succ _ _ _ _ _
    have hy := fvK_lt n s k (k / 8)
    have hyl : k / 8 < (fvK n s k).length := by rw [fvK_length]; omega
    have hld2 : ldAt false 1 (bB (fvK n s k)) (k / 8) = some (.s (.int .u8 (((fvK n s k).getD (k / 8) 0 : Nat) : Int))) := ldB hyl
    have hp : 2 ^ (k % 8) < 2 ^ 8 := Nat.pow_lt_pow_right (by decide) (by omega)
    have hv : (sb s k).toNat ≤ 1 := Bool.toNat_le _
    have hvp : (sb s k).toNat * 2 ^ (k % 8) < 2 ^ 8 := Nat.lt_of_le_of_lt (Nat.mul_le_mul_right _ hv) (by omega)
    have hst : cB (fvK n s (k + 1)) = setL (cB (fvK n s k)) (k / 8) [.int .u8 (((fvK n s k).getD (k / 8) 0 ||| (sb s k).toNat * 2 ^ (k % 8) : Nat) : Int)] := by rw [eK]; exact cB_set _ _ _
    generalize (fvK n s k).getD (k / 8) 0 = y at *
    have e6 : ((((sb s k).toNat : Nat) : Int)) * 2 ^ min ((k % 8 : Nat) : Int).toNat IntKind.u64.bits = (((sb s k).toNat * 2 ^ (k % 8) : Nat) : Int) := shlN _ _ (by simp only [IntKind.bits]; omega)
    have e7 : bitV .or .u8 (y : Int) (((sb s k).toNat * 2 ^ (k % 8) : Nat) : Int) = ((y ||| (sb s k).toNat * 2 ^ (k % 8) : Nat) : Int) := or8 hy hvp
    have e8 : Int.tdiv (k : Int) 8 = ((k / 8 : Nat) : Int) := rfl
    have e9 : Int.tmod (k : Int) 8 = ((k % 8 : Nat) : Int) := rfl
    generalize (sb s k).toNat = vb at *
    refine ⟨[.dec true, .num ((k / 8 : Nat) : Int), .idx (k / 8), .val (.s (.int .u8 ((y : Nat) : Int))), .call [] [.s (.str s), .s (.int .i64 ((k : Nat) : Int))] [] (.s (.int .u64 ((vb : Nat) : Int))) 0 [], .num ((k % 8 : Nat) : Int), .num ((k % 8 : Nat) : Int), .num ((vb * 2 ^ (k % 8) : Nat) : Int), .num ((vb * 2 ^ (k % 8) : Nat) : Int), .num ((y ||| vb * 2 ^ (k % 8) : Nat) : Int), .idx (k / 8), .cells (cB (fvK n s (k + 1))), .num ((k + 1 : Nat) : Int)], _, _, _, _, _, rfl, ?_, rfl, rfl⟩
    simp only [true_and, and_true, and_assoc, decide_eq_true_eq, ne_eq, i64_wrap, u64_wrap, u8_wrap, e6, e7, e8, e9]
    repeat' apply And.intro
    all_goals first
      | exact True.intro
      | omega
      | exact call0 hbit rfl
      | exact hld2
      | exact hst
      | (generalize vb * 2 ^ (k % 8) = pw at *; omega)
      | (show k / 8 + 1 ≤ (cB _).length; rw [cB_length, fvK_length]; omega)
      | (with_reducible show _ = true; kernel_rfl)
  · simp only [decide_eq_false_iff_not, and_true, true_and]; omega

set_option maxHeartbeats 1000000 in
theorem rfrom_2 {f : Fsp} {b n w : Nat} (hf : f.ok) (h : FV f b n w) (x : Vl) (hv : vv x = true) (hk : x.k = 2) : SC Try.prog 18 [f.v, x.v] 0 [] (.tup [.s (.str (fvS n x.s)), .s (.int .i64 0)]) 0 [] := by
  have c1 := vval_s x
  have c2 := validField_s f hf
  rw [hv] at c1
  rw [h.v] at c2
  have eln := h.ln
  have hn1 := h.n1
  have hn2 := h.n2
  refine SC.run hm Try.func18 rfl [.call [] [x.v] [] (.s (.bool true)) 0 [], .call [] [f.v] [] (.s (.bool true)) 0 [], .dec false, .dec true,
    .num ((n + 7 : Nat) : Int), .num (((n + 7) / 8 : Nat) : Int), .idx ((n + 7) / 8), .idx ((n + 7) / 8),
    .loop (.exit 1) (sp 59 [(7, .s (.slc (some (2, 0)) ((n + 7) / 8) (some ((n + 7) / 8))))]) 3 [(2, some (bB (fvK n x.s n)))],
    .val (.s (.str (fvS n x.s)))] [] rfl rfl ?_ (.inl rfl) (EndOK.plain rfl no_mem rfl rfl)
  simp only [true_and, and_true, and_assoc, beq_eq_false_iff_ne, beq_iff_eq, ne_eq, i64_wrap]
  repeat' apply And.intro
  all_goals first
    | exact True.intro
    | omega
    | exact call0 c1 rfl
    | exact call0 c2 rfl
    | refine Ex.turns hm [2, 6, 7, 8] [0, 2] n (fun k => sp 59 [(2, .s (.ptr (some (0, 0)))), (6, .s (.str x.s)), (7, .s (.slc (some (2, 0)) ((n + 7) / 8) (some ((n + 7) / 8)))), (8, .s (.int .i64 ((k : Nat) : Int)))])
        (fun k => [(0, some { cells := f.c, ty := 26 }), (2, some (bB (fvK n x.s k)))]) (by omega) rfl ?_ (fun k => ⟨rfl, rfl⟩) ?_ [7] [2] (by simp) ⟨rfl, rfl⟩ ⟨[.dec false], _, _, _, _, _, rfl, ?_, rfl, rfl⟩
    | (with_reducible show _ = true; kernel_rfl)
    | exact Nat.le_trans (Nat.mul_le_mul_right _ (show _ ≤ 8 by decide +kernel)) (by omega)
    | (rw [List.drop_zero, List.take_of_length_le (by rw [cB_length, fvK_length]; omega)]; exact (byteS_toB (fvK_lt n _ n)).symm)
    | (unfold fvS; rw [toB_length, fvK_length])
    | (rw [eln]; exact quoN (n + 7) 8 (by omega))
    | exact quoN (n + 7) 8 (by omega)
  · show ([_, (2, some ({ cells := rep ((n + 7) / 8) [.int .u8 0], ty := 5, sym := true, flat := true } : Bl))] : Hp) = _
    rw [cB_rep]; rfl
  · intro k hk'
    generalize x.s = s at *
    have hbit := bit_s s k (by omega)
    have eK : fvK n s (k + 1) = (fvK n s k).set (k / 8) ((fvK n s k).getD (k / 8) 0 ||| (sb s k).toNat * 2 ^ (k % 8)) := orK_succ _ _ _ _ _
    have hy := fvK_lt n s k (k / 8)
    have hyl : k / 8 < (fvK n s k).length := by rw [fvK_length]; omega
    have hld2 : ldAt false 1 (bB (fvK n s k)) (k / 8) = some (.s (.int .u8 (((fvK n s k).getD (k / 8) 0 : Nat) : Int))) := ldB hyl
    have hp : 2 ^ (k % 8) < 2 ^ 8 := Nat.pow_lt_pow_right (by decide) (by omega)
    have hv : (sb s k).toNat ≤ 1 := Bool.toNat_le _
    have hvp : (sb s k).toNat * 2 ^ (k % 8) < 2 ^ 8 := Nat.lt_of_le_of_lt (Nat.mul_le_mul_right _ hv) (by omega)
    have hst : cB (fvK n s (k + 1)) = setL (cB (fvK n s k)) (k / 8) [.int .u8 (((fvK n s k).getD (k / 8) 0 ||| (sb s k).toNat * 2 ^ (k % 8) : Nat) : Int)] := by rw [eK]; exact cB_set _ _ _
    generalize (fvK n s k).getD (k / 8) 0 = y at *
    have e6 : ((((sb s k).toNat : Nat) : Int)) * 2 ^ min ((k % 8 : Nat) : Int).toNat IntKind.u64.bits = (((sb s k).toNat * 2 ^ (k % 8) : Nat) : Int) := shlN _ _ (by simp only [IntKind.bits]; omega)
    have e7 : bitV .or .u8 (y : Int) (((sb s k).toNat * 2 ^ (k % 8) : Nat) : Int) = ((y ||| (sb s k).toNat * 2 ^ (k % 8) : Nat) : Int) := or8 hy hvp
    have e8 : Int.tdiv (k : Int) 8 = ((k / 8 : Nat) : Int) := rfl
    have e9 : Int.tmod (k : Int) 8 = ((k % 8 : Nat) : Int) := rfl
    generalize (sb s k).toNat = vb at *
    refine ⟨[.dec true, .num ((k / 8 : Nat) : Int), .idx (k / 8), .val (.s (.int .u8 ((y : Nat) : Int))), .call [] [.s (.str s), .s (.int .i64 ((k : Nat) : Int))] [] (.s (.int .u64 ((vb : Nat) : Int))) 0 [], .num ((k % 8 : Nat) : Int), .num ((k % 8 : Nat) : Int), .num ((vb * 2 ^ (k % 8) : Nat) : Int), .num ((vb * 2 ^ (k % 8) : Nat) : Int), .num ((y ||| vb * 2 ^ (k % 8) : Nat) : Int), .idx (k / 8), .cells (cB (fvK n s (k + 1))), .num ((k + 1 : Nat) : Int)], _, _, _, _, _, rfl, ?_, rfl, rfl⟩
    simp only [true_and, and_true, and_assoc, decide_eq_true_eq, ne_eq, i64_wrap, u64_wrap, u8_wrap, e6, e7, e8, e9]
    repeat' apply And.intro
    all_goals first
      | exact True.intro
      | omega
      | exact call0 hbit rfl
      | exact hld2
      | exact hst
      | (generalize vb * 2 ^ (k % 8) = pw at *; omega)
      | (show k / 8 + 1 ≤ (cB _).length; rw [cB_length, fvK_length]; omega)
      | (with_reducible show _ = true; kernel_rfl)
  · simp only [decide_eq_false_iff_not, and_true, true_and]; omega

set_option maxHeartbeats 1000000 in
theorem rfrom_3 {f : Fsp} {b n w : Nat} (hf : f.ok) (h : FV f b n w) (x : Vl) (hv : vv x = true) (hk : x.k = 3) : SC Try.prog 18 [f.v, x.v] 0 [] (.tup [.s (.str (fvS n x.s)), .s (.int .i64 0)]) 0 [] := by
  have c1 := vval_s x
  have c2 := validField_s f hf
  rw [hv] at c1
  rw [h.v] at c2
  have eln := h.ln
  have hn1 := h.n1
  have hn2 := h.n2
  refine SC.run hm Try.func18 rfl [.call [] [x.v] [] (.s (.bool true)) 0 [], .call [] [f.v] [] (.s (.bool true)) 0 [], .dec false, .dec false, .dec true,
    .num ((n + 7 : Nat) : Int), .num (((n + 7) / 8 : Nat) : Int), .idx ((n + 7) / 8), .idx ((n + 7) / 8),
    .loop (.exit 1) (sp 59 [(7, .s (.slc (some (2, 0)) ((n + 7) / 8) (some ((n + 7) / 8))))]) 3 [(2, some (bB (fvK n x.s n)))],
    .val (.s (.str (fvS n x.s)))] [] rfl rfl ?_ (.inl rfl) (EndOK.plain rfl no_mem rfl rfl)
  simp only [true_and, and_true, and_assoc, beq_eq_false_iff_ne, beq_iff_eq, ne_eq, i64_wrap]
  repeat' apply And.intro
  all_goals first
    | exact True.intro
    | omega
    | exact call0 c1 rfl
    | exact call0 c2 rfl
    | refine Ex.turns hm [2, 6, 7, 8] [0, 2] n (fun k => sp 59 [(2, .s (.ptr (some (0, 0)))), (6, .s (.str x.s)), (7, .s (.slc (some (2, 0)) ((n + 7) / 8) (some ((n + 7) / 8)))), (8, .s (.int .i64 ((k : Nat) : Int)))])
        (fun k => [(0, some { cells := f.c, ty := 26 }), (2, some (bB (fvK n x.s k)))]) (by omega) rfl ?_ (fun k => ⟨rfl, rfl⟩) ?_ [7] [2] (by simp) ⟨rfl, rfl⟩ ⟨[.dec false], _, _, _, _, _, rfl, ?_, rfl, rfl⟩
    | (with_reducible show _ = true; kernel_rfl)
    | exact Nat.le_trans (Nat.mul_le_mul_right _ (show _ ≤ 8 by decide +kernel)) (by omega)
    | (rw [List.drop_zero, List.take_of_length_le (by rw [cB_length, fvK_length]; omega)]; exact (byteS_toB (fvK_lt n _ n)).symm)
    | (unfold fvS; rw [toB_length, fvK_length])
    | (rw [eln]; exact quoN (n + 7) 8 (by omega))
    | exact quoN (n + 7) 8 (by omega)
  · show ([_, (2, some ({ cells := rep ((n + 7) / 8) [.int .u8 0], ty := 5, sym := true, flat := true } : Bl))] : Hp) = _
    rw [cB_rep]; rfl
  · intro k hk'
    generalize x.s = s at *
    have hbit := bit_s s k (by omega)
    have eK : fvK n s (k + 1) = (fvK n s k).set (k / 8) ((fvK n s k).getD (k / 8) 0 ||| (sb s k).toNat * 2 ^ (k % 8)) := orK_succ _ _ _ _ _
    have hy := fvK_lt n s k (k / 8)
    have hyl : k / 8 < (fvK n s k).length := by rw [fvK_length]; omega
    have hld2 : ldAt false 1 (bB (fvK n s k)) (k / 8) = some (.s (.int .u8 (((fvK n s k).getD (k / 8) 0 : Nat) : Int))) := ldB hyl
    have hp : 2 ^ (k % 8) < 2 ^ 8 := Nat.pow_lt_pow_right (by decide) (by omega)
    have hv : (sb s k).toNat ≤ 1 := Bool.toNat_le _
    have hvp : (sb s k).toNat * 2 ^ (k % 8) < 2 ^ 8 := Nat.lt_of_le_of_lt (Nat.mul_le_mul_right _ hv) (by omega)
    have hst : cB (fvK n s (k + 1)) = setL (cB (fvK n s k)) (k / 8) [.int .u8 (((fvK n s k).getD (k / 8) 0 ||| (sb s k).toNat * 2 ^ (k % 8) : Nat) : Int)] := by rw [eK]; exact cB_set _ _ _
    generalize (fvK n s k).getD (k / 8) 0 = y at *
    have e6 : ((((sb s k).toNat : Nat) : Int)) * 2 ^ min ((k % 8 : Nat) : Int).toNat IntKind.u64.bits = (((sb s k).toNat * 2 ^ (k % 8) : Nat) : Int) := shlN _ _ (by simp only [IntKind.bits]; omega)
    have e7 : bitV .or .u8 (y : Int) (((sb s k).toNat * 2 ^ (k % 8) : Nat) : Int) = ((y ||| (sb s k).toNat * 2 ^ (k % 8) : Nat) : Int) := or8 hy hvp
    have e8 : Int.tdiv (k : Int) 8 = ((k / 8 : Nat) : Int) := rfl
    have e9 : Int.tmod (k : Int) 8 = ((k % 8 : Nat) : Int) := rfl
    generalize (sb s k).toNat = vb at *
    refine ⟨[.dec true, .num ((k / 8 : Nat) : Int), .idx (k / 8), .val (.s (.int .u8 ((y : Nat) : Int))), .call [] [.s (.str s), .s (.int .i64 ((k : Nat) : Int))] [] (.s (.int .u64 ((vb : Nat) : Int))) 0 [], .num ((k % 8 : Nat) : Int), .num ((k % 8 : Nat) : Int), .num ((vb * 2 ^ (k % 8) : Nat) : Int), .num ((vb * 2 ^ (k % 8) : Nat) : Int), .num ((y ||| vb * 2 ^ (k % 8) : Nat) : Int), .idx (k / 8), .cells (cB (fvK n s (k + 1))), .num ((k + 1 : Nat) : Int)], _, _, _, _, _, rfl, ?_, rfl, rfl⟩
    simp only [true_and, and_true, and_assoc, decide_eq_true_eq, ne_eq, i64_wrap, u64_wrap, u8_wrap, e6, e7, e8, e9]
    repeat' apply And.intro
    all_goals first
      | exact True.intro
      | omega
      | exact call0 hbit rfl
      | exact hld2
      | exact hst
      | (generalize vb * 2 ^ (k % 8) = pw at *; omega)
      | (show k / 8 + 1 ≤ (cB _).length; rw [cB_length, fvK_length]; omega)
      | (with_reducible show _ = true; kernel_rfl)
  · simp only [decide_eq_false_iff_not, and_true, true_and]; omega

end Go.Proofs.Ytgnidbokllmhhaa
