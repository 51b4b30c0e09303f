/-
  FromValue, ToValue, ref.Integer, ref.ToValue: what they compute; FieldConverts returns true.
-/
import Derived.Test.YtgnidbokllmhhaaLcv
set_option linter.unusedSimpArgs false
set_option linter.unusedVariables false
namespace Go.Proofs.Ytgnidbokllmhhaa
open Go Ab
set_option maxRecDepth 100000

theorem from_bad1 (f : Fsp) (hf : f.ok) (x : Vl) (h : vld f = false) : SC Try.prog 27 [f.v, x.v] 0 [] (.tup [.s (.str []), .s (.int .i64 1)]) 0 [] := by
  have c1 := valid_s f hf
  rw [h] at c1
  refine SC.run hm Try.func27 rfl [.call [] [f.v] [] (.s (.bool false)) 0 []] [] rfl rfl ?_ (.inl rfl) (EndOK.plain rfl no_mem rfl rfl)
  simp only [true_and, and_true, and_assoc]
  exact ⟨by kernel_rfl, call0 c1 rfl⟩
theorem from_bad2 (f : Fsp) (hf : f.ok) (x : Vl) (h : vv x = false) (h2 : vld f = true) : SC Try.prog 27 [f.v, x.v] 0 [] (.tup [.s (.str []), .s (.int .i64 1)]) 0 [] := by
  have c1 := pvalid_s x
  have c2 := valid_s f hf
  rw [h] at c1
  rw [h2] at c2
  refine SC.run hm Try.func27 rfl [.call [] [f.v] [] (.s (.bool true)) 0 [], .call [] [x.v] [] (.s (.bool false)) 0 []] [] rfl rfl ?_ (.inl rfl) (EndOK.plain rfl no_mem rfl rfl)
  simp only [true_and, and_true, and_assoc]
  exact ⟨by kernel_rfl, call0 c2 rfl, by kernel_rfl, call0 c1 rfl⟩
theorem from_ty (f : Fsp) (hf : f.ok) (x : Vl) (h : vv x = true) (h2 : vld f = true) (k1 : x.k ≠ 1) (k2 : x.k ≠ 2) (k3 : x.k ≠ 3) : SC Try.prog 27 [f.v, x.v] 0 [] (.tup [.s (.str []), .s (.int .i64 10)]) 0 [] := by
  have c1 := pvalid_s x
  have c2 := valid_s f hf
  rw [h] at c1
  rw [h2] at c2
  refine SC.run hm Try.func27 rfl [.call [] [f.v] [] (.s (.bool true)) 0 [], .call [] [x.v] [] (.s (.bool true)) 0 [], .dec false, .dec false, .dec false] [] rfl rfl ?_ (.inl rfl) (EndOK.plain rfl no_mem rfl rfl)
  simp only [true_and, and_true, and_assoc, beq_eq_false_iff_ne, ne_eq]
  exact ⟨by kernel_rfl, call0 c2 rfl, by kernel_rfl, call0 c1 rfl, k1, k2, k3⟩
theorem from_2 {f : Fsp} {b n w : Nat} (hf : f.ok) (h : FV f b n w) (x : Vl) (hv : vv x = true) (hk : x.k = 2) : SC Try.prog 27 [f.v, x.v] 0 [] (.tup [.s (.str (fvS n x.s)), .s (.int .i64 0)]) 0 [] := by
  have c1 := pvalid_s x
  have c2 := valid_s f hf
  rw [hv] at c1
  rw [h.v] at c2
  have c3 := pfit_s f n h.ln h.n1 h.n2 x.s
  refine SC.run hm Try.func27 rfl [.call [] [f.v] [] (.s (.bool true)) 0 [], .call [] [x.v] [] (.s (.bool true)) 0 [], .dec false, .dec true, .call [] [f.v, .s (.str x.s)] [] (.s (.str (fvS n x.s))) 0 []] [] rfl rfl ?_ (.inl rfl) (EndOK.plain rfl no_mem rfl rfl)
  simp only [true_and, and_true, and_assoc, beq_eq_false_iff_ne, beq_iff_eq, ne_eq]
  repeat' apply And.intro
  all_goals first
    | exact True.intro
    | omega
    | exact call0 c1 rfl
    | exact call0 c2 rfl
    | exact call0 c3 rfl
    | (with_reducible show _ = true; kernel_rfl)
theorem from_3 {f : Fsp} {b n w : Nat} (hf : f.ok) (h : FV f b n w) (x : Vl) (hv : vv x = true) (hk : x.k = 3) : SC Try.prog 27 [f.v, x.v] 0 [] (.tup [.s (.str (fvS n x.s)), .s (.int .i64 0)]) 0 [] := by
  have c1 := pvalid_s x
  have c2 := valid_s f hf
  rw [hv] at c1
  rw [h.v] at c2
  have c3 := pfit_s f n h.ln h.n1 h.n2 x.s
  refine SC.run hm Try.func27 rfl [.call [] [f.v] [] (.s (.bool true)) 0 [], .call [] [x.v] [] (.s (.bool true)) 0 [], .dec false, .dec false, .dec true, .call [] [f.v, .s (.str x.s)] [] (.s (.str (fvS n x.s))) 0 []] [] rfl rfl ?_ (.inl rfl) (EndOK.plain rfl no_mem rfl rfl)
  simp only [true_and, and_true, and_assoc, beq_eq_false_iff_ne, beq_iff_eq, ne_eq]
  repeat' apply And.intro
  all_goals first
    | exact True.intro
    | omega
    | exact call0 c1 rfl
    | exact call0 c2 rfl
    | exact call0 c3 rfl
    | (with_reducible show _ = true; kernel_rfl)

/-- the bytes of a number, laid one by one -/
def lyK (n k : Nat) : List Nat := setK (fun i => n / 2 ^ (8 * i) % 256) (List.replicate 8 0) k
theorem lyK_length (n k : Nat) : (lyK n k).length = 8 := by unfold lyK; rw [setK_length, List.length_replicate]
theorem lyK_lt (n k i : Nat) : (lyK n k).getD i 0 < 256 := by
  unfold lyK; rw [setK_getD]
  split
  · exact Nat.mod_lt _ (by decide)
  · rw [rep_getD]; decide
theorem u8_mod (a : Nat) : UInt8.ofNat (a % 256) = UInt8.ofNat a := by
  apply UInt8.toNat.inj; simp
theorem lyK_lit (n : Nat) : toB (lyK n 8) = lit n 8 := by
  have e : lyK n 8 = [n / 2 ^ (8 * 0) % 256, n / 2 ^ (8 * 1) % 256, n / 2 ^ (8 * 2) % 256, n / 2 ^ (8 * 3) % 256, n / 2 ^ (8 * 4) % 256, n / 2 ^ (8 * 5) % 256, n / 2 ^ (8 * 6) % 256, n / 2 ^ (8 * 7) % 256] := rfl
  rw [e]
  simp only [toB, List.map_cons, List.map_nil, u8_mod]
  rfl

set_option maxHeartbeats 1000000 in
theorem from_1 {f : Fsp} {b n w : Nat} (hf : f.ok) (h : FV f b n w) (x : Vl) (hx : x.n < 2 ^ 64) (hv : vv x = true) (hk : x.k = 1) : SC Try.prog 27 [f.v, x.v] 0 [] (.tup [.s (.str (fvS n (lit x.n 8))), .s (.int .i64 0)]) 0 [] := by
  have c1 := pvalid_s x
  have c2 := valid_s f hf
  rw [hv] at c1
  rw [h.v] at c2
  have c3 := pfit_s f n h.ln h.n1 h.n2 (lit x.n 8)
  refine SC.run hm Try.func27 rfl [.call [] [f.v] [] (.s (.bool true)) 0 [], .call [] [x.v] [] (.s (.bool true)) 0 [], .dec true, .idx 8, .idx 8,
    .loop (.exit 1) (sp 47 [(2, .s (.ptr (some (0, 0)))), (6, .s (.slc (some (2, 0)) 8 (some 8)))]) 3 [(0, some { cells := f.c, ty := 26 }), (2, some (bB (lyK x.n 8)))],
    .val (.s (.str (lit x.n 8))), .call [] [f.v, .s (.str (lit x.n 8))] [] (.s (.str (fvS n (lit x.n 8)))) 0 []] [] rfl rfl ?_ (.inl rfl) (EndOK.plain rfl no_mem rfl rfl)
  simp only [true_and, and_true, and_assoc, beq_eq_false_iff_ne, beq_iff_eq, ne_eq, by5]
  repeat' apply And.intro
  all_goals first
    | exact True.intro
    | omega
    | exact call0 c1 rfl
    | exact call0 c2 rfl
    | exact call0 c3 rfl
    | refine Ex.turns hm [2, 3, 6, 22, 23] [0, 1, 2] 8 (fun k => sp 47 [(2, .s (.ptr (some (0, 0)))), (3, .s (.ptr (some (1, 0)))), (6, .s (.slc (some (2, 0)) 8 (some 8))), (22, .s (.int .i64 8)), (23, .s (.int .i64 ((k : Nat) : Int)))])
        (fun k => [(0, some { cells := f.c, ty := 26 }), (1, some { cells := x.c, ty := 38 }), (2, some (bB (lyK x.n k)))]) (by omega) rfl ?_ (fun k => ⟨rfl, rfl⟩) ?_ [2, 6] [0, 2] (by simp) ⟨rfl, rfl⟩ ⟨[.dec false], _, _, _, _, _, rfl, ?_, rfl, rfl⟩
    | (rw [List.drop_zero, List.take_of_length_le (by rw [cB_length, lyK_length]; omega), ← lyK_lit]; exact (byteS_toB (lyK_lt x.n 8)).symm)
    | (rw [lit_length])
    | (with_reducible show _ = true; kernel_rfl)
  · show ([_, _, (2, some ({ cells := rep 8 [.int .u8 0], ty := 5, sym := true, flat := true } : Bl))] : Hp) = _
    rw [cB_rep]; rfl
  · intro k hk8
    have e2 : Int.fdiv (x.n : Int) (2 ^ min ((8 * k : Nat) : Int).toNat IntKind.u64.bits) = ((x.n / 2 ^ (8 * k) : Nat) : Int) := shrN _ _ (by simp only [IntKind.bits]; omega)
    have hst : cB (lyK x.n (k + 1)) = setL (cB (lyK x.n k)) k [.int .u8 ((x.n / 2 ^ (8 * k) % 256 : Nat) : Int)] := cB_set _ _ _
    have hlen : k + 1 ≤ (cB (lyK x.n k)).length := by rw [cB_length, lyK_length]; omega
    refine ⟨[.dec true, .num ((8 * k : Nat) : Int), .num ((x.n / 2 ^ (8 * k) : Nat) : Int), .num ((x.n / 2 ^ (8 * k) % 256 : Nat) : Int), .idx k, .cells (cB (lyK x.n (k + 1))), .num ((k + 1 : Nat) : Int)], _, _, _, _, _, rfl, ?_, rfl, rfl⟩
    simp only [true_and, and_true, and_assoc, decide_eq_true_eq, i64_wrap, u64_wrap, u8_wrap, e2]
    repeat' apply And.intro
    all_goals first
      | exact True.intro
      | omega
      | exact hst
      | exact hlen
  · simp only [decide_eq_false_iff_not, and_true, true_and]; omega

/-! ### both sides of FromValue -/
theorem from_both (f : Fsp) (hf : f.ok) (x : Vl) (hx : x.n < 2 ^ 64) : ∃ r e, SC Try.prog 27 [f.v, x.v] 0 [] (.tup [.s (.str r), .s (.int .i64 e)]) 0 [] ∧ SC Try.prog 18 [f.v, x.v] 0 [] (.tup [.s (.str r), .s (.int .i64 e)]) 0 [] := by
  cases h1 : vv x with
  | false =>
    cases h2 : vld f with
    | false => exact ⟨_, _, from_bad1 f hf x h2, rfrom_bad1 f x h1⟩
    | true => exact ⟨_, _, from_bad2 f hf x h1 h2, rfrom_bad1 f x h1⟩
  | true =>
    cases h2 : vld f with
    | false => exact ⟨_, _, from_bad1 f hf x h2, rfrom_bad2 f hf x h1 h2⟩
    | true =>
      obtain ⟨b, n, w, hv⟩ := FV.of h2
      by_cases k1 : x.k = 1
      · exact ⟨_, _, from_1 hf hv x hx h1 k1, rfrom_1 hf hv x h1 hx k1⟩
      by_cases k2 : x.k = 2
      · exact ⟨_, _, from_2 hf hv x h1 k2, rfrom_2 hf hv x h1 k2⟩
      by_cases k3 : x.k = 3
      · exact ⟨_, _, from_3 hf hv x h1 k3, rfrom_3 hf hv x h1 k3⟩
      exact ⟨_, _, from_ty f hf x h1 h2 k1 k2 k3, rfrom_ty f hf x h1 h2 k1 k2 k3⟩

/-! ### ToValue -/
/-- the number that the first k bytes form -/
def bnum (s : List UInt8) : Nat → Nat
  | 0 => 0
  | k + 1 => bnum s k ||| (s.getD k 0).toNat * 2 ^ (8 * k)
theorem mul_lt8 (c : UInt8) {k : Nat} (hk : k < 8) : c.toNat * 2 ^ (8 * k) < 2 ^ 64 := by
  have h1 : c.toNat * 2 ^ (8 * k) < 2 ^ 8 * 2 ^ (8 * k) := Nat.mul_lt_mul_of_pos_right (UInt8.toNat_lt c) (Nat.pow_pos (by decide))
  rw [← Nat.pow_add] at h1
  exact Nat.lt_of_lt_of_le h1 (Nat.pow_le_pow_right (by decide) (by omega))
theorem bnum_lt (s : List UInt8) : ∀ k, k ≤ 8 → bnum s k < 2 ^ 64
  | 0, _ => by simp [bnum]
  | k + 1, h => by
    simp only [bnum]
    exact Nat.or_lt_two_pow (bnum_lt s k (by omega)) (mul_lt8 _ (by omega))

theorem to_no (f : Fsp) (hf : f.ok) (s : List UInt8) (h : vld f = false) : SC Try.prog 28 [f.v, .s (.str s)] 0 [] (Vl.v ⟨0, 0, [], 0⟩) 0 [] := by
  have c1 := valid_s f hf
  rw [h] at c1
  refine SC.run hm Try.func28 rfl [.call [] [f.v] [] (.s (.bool false)) 0 []] [] rfl rfl ?_ (.inl rfl) (EndOK.plain rfl no_mem rfl rfl)
  simp only [true_and, and_true, and_assoc]
  exact ⟨by kernel_rfl, call0 c1 rfl⟩
theorem rto_no (f : Fsp) (hf : f.ok) (s : List UInt8) (h : vld f = false) : SC Try.prog 29 [f.v, .s (.str s)] 0 [] (Vl.v ⟨0, 0, [], 0⟩) 0 [] := by
  have c1 := validField_s f hf
  rw [h] at c1
  refine SC.run hm Try.func29 rfl [.call [] [f.v] [] (.s (.bool false)) 0 []] [] rfl rfl ?_ (.inl rfl) (EndOK.plain rfl no_mem rfl rfl)
  simp only [true_and, and_true, and_assoc]
  exact ⟨by kernel_rfl, call0 c1 rfl⟩
theorem to_big {f : Fsp} {b n w : Nat} (hf : f.ok) (h : FV f b n w) (s : List UInt8) (hb : 64 < n) : SC Try.prog 28 [f.v, .s (.str s)] 0 [] (Vl.v ⟨3, 0, fvS n s, 0⟩) 0 [] := by
  have c1 := valid_s f hf
  rw [h.v] at c1
  have c3 := pfit_s f n h.ln h.n1 h.n2 s
  have eln := h.ln
  refine SC.run hm Try.func28 rfl [.call [] [f.v] [] (.s (.bool true)) 0 [], .call [] [f.v, .s (.str s)] [] (.s (.str (fvS n s))) 0 [], .dec true] [] rfl rfl ?_ (.inl rfl) (EndOK.plain rfl no_mem rfl rfl)
  simp only [true_and, and_true, and_assoc, decide_eq_true_eq]
  exact ⟨by kernel_rfl, call0 c1 rfl, by kernel_rfl, call0 c3 rfl, by omega⟩
theorem to_small {f : Fsp} {b n w : Nat} (hf : f.ok) (h : FV f b n w) (s : List UInt8) (hb : n ≤ 64) : SC Try.prog 28 [f.v, .s (.str s)] 0 [] (Vl.v ⟨1, bnum (fvS n s) ((n + 7) / 8), [], 0⟩) 0 [] := by
  have c1 := valid_s f hf
  rw [h.v] at c1
  have c3 := pfit_s f n h.ln h.n1 h.n2 s
  have eln := h.ln
  have hl := fvS_length n s
  generalize fvS n s = r at *
  generalize hM : (n + 7) / 8 = M at *
  have hM8 : M ≤ 8 := by omega
  refine SC.run hm Try.func28 rfl [.call [] [f.v] [] (.s (.bool true)) 0 [], .call [] [f.v, .s (.str s)] [] (.s (.str r)) 0 [], .dec false,
    .loop (.exit 0) (sp 38 [(4, .s (.ptr (some (1, 0)))), (5, .s (.ptr (some (2, 0))))]) 3 [(1, some { cells := Vl.c ⟨0, 0, [], 0⟩, ty := 38 }), (2, some { cells := Vl.c ⟨1, bnum r M, [], 0⟩, ty := 38 })]] [] rfl rfl ?_ (.inl rfl) (EndOK.plain rfl no_mem rfl rfl)
  simp only [true_and, and_true, and_assoc, decide_eq_false_iff_not]
  refine ⟨by kernel_rfl, call0 c1 rfl, by kernel_rfl, call0 c3 rfl, by omega, ?_⟩
  refine Ex.turns hm [1, 4, 5, 21, 22] [1, 2] M (fun k => sp 38 [(1, .s (.str r)), (4, .s (.ptr (some (1, 0)))), (5, .s (.ptr (some (2, 0)))), (21, .s (.int .i64 ((r.length : Nat) : Int))), (22, .s (.int .i64 ((k : Nat) : Int)))])
    (fun k => [(1, some { cells := Vl.c ⟨0, 0, [], 0⟩, ty := 38 }), (2, some { cells := Vl.c ⟨1, bnum r k, [], 0⟩, ty := 38 })]) (by omega) rfl rfl (fun k => ⟨rfl, rfl⟩) ?_ [4, 5] [1, 2] (by simp) ⟨rfl, rfl⟩ ⟨[.dec false], _, _, _, _, _, rfl, ?_, rfl, rfl⟩
  · intro k hk
    have h1 := bnum_lt r k (by omega)
    have h2 := mul_lt8 (r.getD k 0) (k := k) (by omega)
    have hc := UInt8.toNat_lt (r.getD k 0)
    have e6 : (((r.getD k 0).toNat : Nat) : Int) * 2 ^ min ((8 * k : Nat) : Int).toNat IntKind.u64.bits = (((r.getD k 0).toNat * 2 ^ (8 * k) : Nat) : Int) := shlN _ _ (by simp only [IntKind.bits]; omega)
    have e7 : bitV .or .u64 ((bnum r k : Nat) : Int) (((r.getD k 0).toNat * 2 ^ (8 * k) : Nat) : Int) = ((bnum r (k + 1) : Nat) : Int) := or64 h1 h2
    refine ⟨[.dec true, .idx k, .num (((r.getD k 0).toNat : Nat) : Int), .num ((8 * k : Nat) : Int), .num (((r.getD k 0).toNat * 2 ^ (8 * k) : Nat) : Int), .num ((bnum r (k + 1) : Nat) : Int), .num ((k + 1 : Nat) : Int)], _, _, _, _, _, rfl, ?_, rfl, rfl⟩
    simp only [true_and, and_true, and_assoc, decide_eq_true_eq, i64_wrap, u64_wrap, e6, e7]
    repeat' apply And.intro
    all_goals first
      | exact True.intro
      | omega
      | (generalize (r.getD k 0).toNat * 2 ^ (8 * k) = pw at *; omega)
      | (with_reducible show _ = true; kernel_rfl)
  · simp only [decide_eq_false_iff_not, and_true, true_and]; omega

/-! ### ref.Integer of a short buffer, ref.ToValue -/
theorem integer_3 (r : List UInt8) (hr : r.length ≤ 8) : SC Try.prog 44 [Vl.v ⟨3, 0, r, 0⟩] 0 [] (.tup [.s (.int .u64 ((bnum r r.length : Nat) : Int)), .s (.int .i64 0)]) 0 [] := by
  have c1 := vval_s ⟨3, 0, r, 0⟩
  rw [show vv ⟨3, 0, r, 0⟩ = true by simp [vv]; omega] at c1
  refine SC.run hm Try.func44 rfl [.call [] [Vl.v ⟨3, 0, r, 0⟩] [] (.s (.bool true)) 0 [], .dec false, .dec false, .dec true,
    .loop (.exit 3) (sp 77 [(4, .s (.int .u64 ((bnum r r.length : Nat) : Int)))]) 1 []] [] rfl rfl ?_ (.inl rfl) (EndOK.plain rfl no_mem rfl rfl)
  simp only [true_and, and_true, and_assoc, beq_eq_false_iff_ne, beq_iff_eq, ne_eq]
  repeat' apply And.intro
  all_goals first
    | exact True.intro
    | exact call0 c1 rfl
    | (with_reducible show _ = true; kernel_rfl)
    | omega
    | refine Ex.turns hm [1, 4, 6] [0] r.length (fun k => sp 77 [(1, .s (.ptr (some (0, 0)))), (4, .s (.int .u64 ((bnum r k : Nat) : Int))), (6, .s (.int .i64 ((k : Nat) : Int)))])
        (fun k => [(0, some { cells := Vl.c ⟨3, 0, r, 0⟩, ty := 38 })]) (by omega) rfl rfl (fun k => ⟨rfl, rfl⟩) ?_ [4] [] (by simp) ⟨rfl, rfl⟩ ⟨[.dec false], _, _, _, _, _, rfl, ?_, rfl, rfl⟩
  · intro k hk
    have h1 := bnum_lt r k (by omega)
    have h2 := mul_lt8 (r.getD k 0) (k := k) (by omega)
    have hc := UInt8.toNat_lt (r.getD k 0)
    have e6 : (((r.getD k 0).toNat : Nat) : Int) * 2 ^ min ((8 * k : Nat) : Int).toNat IntKind.u64.bits = (((r.getD k 0).toNat * 2 ^ (8 * k) : Nat) : Int) := shlN _ _ (by simp only [IntKind.bits]; omega)
    have e7 : bitV .or .u64 ((bnum r k : Nat) : Int) (((r.getD k 0).toNat * 2 ^ (8 * k) : Nat) : Int) = ((bnum r (k + 1) : Nat) : Int) := or64 h1 h2
    refine ⟨[.dec true, .dec true, .idx k, .num (((r.getD k 0).toNat : Nat) : Int), .num ((8 * k : Nat) : Int), .num ((8 * k : Nat) : Int), .num (((r.getD k 0).toNat * 2 ^ (8 * k) : Nat) : Int), .num ((bnum r (k + 1) : Nat) : Int), .num ((k + 1 : Nat) : Int)], _, _, _, _, _, rfl, ?_, rfl, rfl⟩
    simp only [true_and, and_true, and_assoc, decide_eq_true_eq, i64_wrap, u64_wrap, e6, e7]
    repeat' apply And.intro
    all_goals first
      | exact True.intro
      | omega
      | (generalize (r.getD k 0).toNat * 2 ^ (8 * k) = pw at *; omega)
  · simp only [decide_eq_false_iff_not, and_true, true_and]; omega

set_option maxHeartbeats 1000000 in
theorem rto_big {f : Fsp} {b n w : Nat} (hf : f.ok) (h : FV f b n w) (s : List UInt8) (hb : 64 < n) : SC Try.prog 29 [f.v, .s (.str s)] 0 [] (Vl.v ⟨3, 0, fvS n s, 0⟩) 0 [] := by
  have c2 := validField_s f hf
  rw [h.v] at c2
  have eln := h.ln
  have hn1 := h.n1
  have hn2 := h.n2
  refine SC.run hm Try.func29 rfl [.call [] [f.v] [] (.s (.bool true)) 0 [],
    .num ((n + 7 : Nat) : Int), .num (((n + 7) / 8 : Nat) : Int), .idx ((n + 7) / 8), .idx ((n + 7) / 8),
    .loop (.exit 0) (sp 54 [(2, .s (.ptr (some (0, 0)))), (4, .s (.ptr (some (1, 0)))), (5, .s (.slc (some (2, 0)) ((n + 7) / 8) (some ((n + 7) / 8))))]) 3 [(0, some { cells := f.c, ty := 26 }), (1, some { cells := Vl.c ⟨0, 0, [], 0⟩, ty := 38 }), (2, some (bB (fvK n s n)))],
    .dec true, .val (.s (.str (fvS n s)))] [] rfl rfl ?_ (.inl rfl) (EndOK.plain rfl no_mem rfl rfl)
  simp only [true_and, and_true, and_assoc, decide_eq_true_eq, decide_eq_false_iff_not, ne_eq, i64_wrap]
  repeat' apply And.intro
  all_goals first
    | exact True.intro
    | omega
    | exact call0 c2 rfl
    | refine Ex.turns hm [1, 2, 4, 5, 6] [0, 1, 2] n (fun k => sp 54 [(1, .s (.str s)), (2, .s (.ptr (some (0, 0)))), (4, .s (.ptr (some (1, 0)))), (5, .s (.slc (some (2, 0)) ((n + 7) / 8) (some ((n + 7) / 8)))), (6, .s (.int .i64 ((k : Nat) : Int)))])
        (fun k => [(0, some { cells := f.c, ty := 26 }), (1, some { cells := Vl.c ⟨0, 0, [], 0⟩, ty := 38 }), (2, some (bB (fvK n s k)))]) (by omega) rfl ?_ (fun k => ⟨rfl, rfl⟩) ?_ [2, 4, 5] [0, 1, 2] (by simp) ⟨rfl, rfl⟩ ⟨[.dec false], _, _, _, _, _, rfl, ?_, rfl, rfl⟩
    | (with_reducible show _ = true; kernel_rfl)
    | exact Nat.le_trans (Nat.mul_le_mul_right _ (show _ ≤ 8 by decide +kernel)) (by omega)
    | (rw [List.drop_zero, List.take_of_length_le (by rw [cB_length, fvK_length]; omega)]; exact (byteS_toB (fvK_lt n _ n)).symm)
    | (rw [fvS_length])
    | exact quoN (n + 7) 8 (by omega)
  · show ([_, _, (2, some ({ cells := rep ((n + 7) / 8) [.int .u8 0], ty := 5, sym := true, flat := true } : Bl))] : Hp) = _
    rw [cB_rep]; rfl
  · intro k hk'
    have hbit := bit_s s k (by omega)
    have eK : fvK n s (k + 1) = (fvK n s k).set (k / 8) ((fvK n s k).getD (k / 8) 0 ||| (sb s k).toNat * 2 ^ (k % 8)) := orK_succ _ _ _ _ _
    have hy := fvK_lt n s k (k / 8)
    have hyl : k / 8 < (fvK n s k).length := by rw [fvK_length]; omega
    have hld2 : ldAt false 1 (bB (fvK n s k)) (k / 8) = some (.s (.int .u8 (((fvK n s k).getD (k / 8) 0 : Nat) : Int))) := ldB hyl
    have hp : 2 ^ (k % 8) < 2 ^ 8 := Nat.pow_lt_pow_right (by decide) (by omega)
    have hv : (sb s k).toNat ≤ 1 := Bool.toNat_le _
    have hvp : (sb s k).toNat * 2 ^ (k % 8) < 2 ^ 8 := Nat.lt_of_le_of_lt (Nat.mul_le_mul_right _ hv) (by omega)
    have hst : cB (fvK n s (k + 1)) = setL (cB (fvK n s k)) (k / 8) [.int .u8 (((fvK n s k).getD (k / 8) 0 ||| (sb s k).toNat * 2 ^ (k % 8) : Nat) : Int)] := by rw [eK]; exact cB_set _ _ _
    generalize (fvK n s k).getD (k / 8) 0 = y at *
    have e6 : ((((sb s k).toNat : Nat) : Int)) * 2 ^ min ((k % 8 : Nat) : Int).toNat IntKind.u64.bits = (((sb s k).toNat * 2 ^ (k % 8) : Nat) : Int) := shlN _ _ (by simp only [IntKind.bits]; omega)
    have e7 : bitV .or .u8 (y : Int) (((sb s k).toNat * 2 ^ (k % 8) : Nat) : Int) = ((y ||| (sb s k).toNat * 2 ^ (k % 8) : Nat) : Int) := or8 hy hvp
    have e8 : Int.tdiv (k : Int) 8 = ((k / 8 : Nat) : Int) := rfl
    have e9 : Int.tmod (k : Int) 8 = ((k % 8 : Nat) : Int) := rfl
    generalize (sb s k).toNat = vb at *
    refine ⟨[.dec true, .num ((k / 8 : Nat) : Int), .idx (k / 8), .val (.s (.int .u8 ((y : Nat) : Int))), .call [] [.s (.str s), .s (.int .i64 ((k : Nat) : Int))] [] (.s (.int .u64 ((vb : Nat) : Int))) 0 [], .num ((k % 8 : Nat) : Int), .num ((k % 8 : Nat) : Int), .num ((vb * 2 ^ (k % 8) : Nat) : Int), .num ((vb * 2 ^ (k % 8) : Nat) : Int), .num ((y ||| vb * 2 ^ (k % 8) : Nat) : Int), .idx (k / 8), .cells (cB (fvK n s (k + 1))), .num ((k + 1 : Nat) : Int)], _, _, _, _, _, rfl, ?_, rfl, rfl⟩
    simp only [true_and, and_true, and_assoc, decide_eq_true_eq, ne_eq, i64_wrap, u64_wrap, u8_wrap, e6, e7, e8, e9]
    repeat' apply And.intro
    all_goals first
      | exact True.intro
      | omega
      | exact call0 hbit rfl
      | exact hld2
      | exact hst
      | (generalize vb * 2 ^ (k % 8) = pw at *; omega)
      | (show k / 8 + 1 ≤ (cB _).length; rw [cB_length, fvK_length]; omega)
      | (with_reducible show _ = true; kernel_rfl)
  · simp only [decide_eq_false_iff_not, and_true, true_and]; omega

set_option maxHeartbeats 1000000 in
theorem rto_small {f : Fsp} {b n w : Nat} (hf : f.ok) (h : FV f b n w) (s : List UInt8) (hb : n ≤ 64) : SC Try.prog 29 [f.v, .s (.str s)] 0 [] (Vl.v ⟨1, bnum (fvS n s) ((n + 7) / 8), [], 0⟩) 0 [] := by
  have c2 := validField_s f hf
  rw [h.v] at c2
  have c3 := integer_3 (fvS n s) (by rw [fvS_length]; omega)
  rw [fvS_length] at c3
  have c4 := number_s (bnum (fvS n s) ((n + 7) / 8))
  have eln := h.ln
  have hn1 := h.n1
  have hn2 := h.n2
  refine SC.run hm Try.func29 rfl [.call [] [f.v] [] (.s (.bool true)) 0 [],
    .num ((n + 7 : Nat) : Int), .num (((n + 7) / 8 : Nat) : Int), .idx ((n + 7) / 8), .idx ((n + 7) / 8),
    .loop (.exit 0) (sp 54 [(2, .s (.ptr (some (0, 0)))), (4, .s (.ptr (some (1, 0)))), (5, .s (.slc (some (2, 0)) ((n + 7) / 8) (some ((n + 7) / 8))))]) 3 [(0, some { cells := f.c, ty := 26 }), (1, some { cells := Vl.c ⟨0, 0, [], 0⟩, ty := 38 }), (2, some (bB (fvK n s n)))],
    .dec false, .val (.s (.str (fvS n s))), .call [] [Vl.v ⟨3, 0, fvS n s, 0⟩] [] (.tup [.s (.int .u64 ((bnum (fvS n s) ((n + 7) / 8) : Nat) : Int)), .s (.int .i64 0)]) 0 [], .call [] [.s (.int .u64 ((bnum (fvS n s) ((n + 7) / 8) : Nat) : Int))] [] (Vl.v ⟨1, bnum (fvS n s) ((n + 7) / 8), [], 0⟩) 0 []] [] rfl rfl ?_ (.inl rfl) (EndOK.plain rfl no_mem rfl rfl)
  simp only [true_and, and_true, and_assoc, decide_eq_true_eq, decide_eq_false_iff_not, ne_eq, i64_wrap]
  repeat' apply And.intro
  all_goals first
    | exact True.intro
    | omega
    | exact call0 c2 rfl
    | exact call0 c3 rfl
    | exact call0 c4 rfl
    | refine Ex.turns hm [1, 2, 4, 5, 6] [0, 1, 2] n (fun k => sp 54 [(1, .s (.str s)), (2, .s (.ptr (some (0, 0)))), (4, .s (.ptr (some (1, 0)))), (5, .s (.slc (some (2, 0)) ((n + 7) / 8) (some ((n + 7) / 8)))), (6, .s (.int .i64 ((k : Nat) : Int)))])
        (fun k => [(0, some { cells := f.c, ty := 26 }), (1, some { cells := Vl.c ⟨0, 0, [], 0⟩, ty := 38 }), (2, some (bB (fvK n s k)))]) (by omega) rfl ?_ (fun k => ⟨rfl, rfl⟩) ?_ [2, 4, 5] [0, 1, 2] (by simp) ⟨rfl, rfl⟩ ⟨[.dec false], _, _, _, _, _, rfl, ?_, rfl, rfl⟩
    | (with_reducible show _ = true; kernel_rfl)
    | exact Nat.le_trans (Nat.mul_le_mul_right _ (show _ ≤ 8 by decide +kernel)) (by omega)
    | (rw [List.drop_zero, List.take_of_length_le (by rw [cB_length, fvK_length]; omega)]; exact (byteS_toB (fvK_lt n _ n)).symm)
    | (rw [fvS_length])
    | exact quoN (n + 7) 8 (by omega)
  · show ([_, _, (2, some ({ cells := rep ((n + 7) / 8) [.int .u8 0], ty := 5, sym := true, flat := true } : Bl))] : Hp) = _
    rw [cB_rep]; rfl
  · intro k hk'
    have hbit := bit_s s k (by omega)
    have eK : fvK n s (k + 1) = (fvK n s k).set (k / 8) ((fvK n s k).getD (k / 8) 0 ||| (sb s k).toNat * 2 ^ (k % 8)) := orK_succ _ _ _ _ _
    have hy := fvK_lt n s k (k / 8)
    have hyl : k / 8 < (fvK n s k).length := by rw [fvK_length]; omega
    have hld2 : ldAt false 1 (bB (fvK n s k)) (k / 8) = some (.s (.int .u8 (((fvK n s k).getD (k / 8) 0 : Nat) : Int))) := ldB hyl
    have hp : 2 ^ (k % 8) < 2 ^ 8 := Nat.pow_lt_pow_right (by decide) (by omega)
    have hv : (sb s k).toNat ≤ 1 := Bool.toNat_le _
    have hvp : (sb s k).toNat * 2 ^ (k % 8) < 2 ^ 8 := Nat.lt_of_le_of_lt (Nat.mul_le_mul_right _ hv) (by omega)
    have hst : cB (fvK n s (k + 1)) = setL (cB (fvK n s k)) (k / 8) [.int .u8 (((fvK n s k).getD (k / 8) 0 ||| (sb s k).toNat * 2 ^ (k % 8) : Nat) : Int)] := by rw [eK]; exact cB_set _ _ _
    generalize (fvK n s k).getD (k / 8) 0 = y at *
    have e6 : ((((sb s k).toNat : Nat) : Int)) * 2 ^ min ((k % 8 : Nat) : Int).toNat IntKind.u64.bits = (((sb s k).toNat * 2 ^ (k % 8) : Nat) : Int) := shlN _ _ (by simp only [IntKind.bits]; omega)
    have e7 : bitV .or .u8 (y : Int) (((sb s k).toNat * 2 ^ (k % 8) : Nat) : Int) = ((y ||| (sb s k).toNat * 2 ^ (k % 8) : Nat) : Int) := or8 hy hvp
    have e8 : Int.tdiv (k : Int) 8 = ((k / 8 : Nat) : Int) := rfl
    have e9 : Int.tmod (k : Int) 8 = ((k % 8 : Nat) : Int) := rfl
    generalize (sb s k).toNat = vb at *
    refine ⟨[.dec true, .num ((k / 8 : Nat) : Int), .idx (k / 8), .val (.s (.int .u8 ((y : Nat) : Int))), .call [] [.s (.str s), .s (.int .i64 ((k : Nat) : Int))] [] (.s (.int .u64 ((vb : Nat) : Int))) 0 [], .num ((k % 8 : Nat) : Int), .num ((k % 8 : Nat) : Int), .num ((vb * 2 ^ (k % 8) : Nat) : Int), .num ((vb * 2 ^ (k % 8) : Nat) : Int), .num ((y ||| vb * 2 ^ (k % 8) : Nat) : Int), .idx (k / 8), .cells (cB (fvK n s (k + 1))), .num ((k + 1 : Nat) : Int)], _, _, _, _, _, rfl, ?_, rfl, rfl⟩
    simp only [true_and, and_true, and_assoc, decide_eq_true_eq, ne_eq, i64_wrap, u64_wrap, u8_wrap, e6, e7, e8, e9]
    repeat' apply And.intro
    all_goals first
      | exact True.intro
      | omega
      | exact call0 hbit rfl
      | exact hld2
      | exact hst
      | (generalize vb * 2 ^ (k % 8) = pw at *; omega)
      | (show k / 8 + 1 ≤ (cB _).length; rw [cB_length, fvK_length]; omega)
      | (with_reducible show _ = true; kernel_rfl)
  · simp only [decide_eq_false_iff_not, and_true, true_and]; omega

theorem to_both (f : Fsp) (hf : f.ok) (s : List UInt8) : ∃ r : Vl, SC Try.prog 28 [f.v, .s (.str s)] 0 [] r.v 0 [] ∧ SC Try.prog 29 [f.v, .s (.str s)] 0 [] r.v 0 [] := by
  cases h2 : vld f with
  | false => exact ⟨_, to_no f hf s h2, rto_no f hf s h2⟩
  | true =>
    obtain ⟨b, n, w, hv⟩ := FV.of h2
    by_cases hb : 64 < n
    · exact ⟨_, to_big hf hv s hb, rto_big hf hv s hb⟩
    · exact ⟨_, to_small hf hv s (by omega), rto_small hf hv s (by omega)⟩

/-! ### FieldConverts -/
/-- the value in the next round -/
def nxV (x : Vl) : Vl := ⟨md x.k 5, x.n, x.s.take (min x.s.length 255), x.o⟩
def itV (x : Vl) : Nat → Vl
  | 0 => x
  | k + 1 => nxV (itV x k)
theorem itV_n (x : Vl) : ∀ k, (itV x k).n = x.n
  | 0 => rfl
  | k + 1 => itV_n x k

set_option maxHeartbeats 1000000 in
theorem converts_s (f : Fsp) (hf : f.ok) (s : List UInt8) (x : Vl) (hx : x.n < 2 ^ 64) : SC Try.prog 8 [f.v, .s (.str s), x.v] 0 [] (.s (.bool true)) 0 [] := by
  have hg := specF_ok hf
  have c1 := spec_s f hf
  have hfrom : ∀ k, ∃ r e, SC Try.prog 27 [(specF f).v, (itV x k).v] 0 [] (.tup [.s (.str r), .s (.int .i64 e)]) 0 [] ∧ SC Try.prog 18 [(specF f).v, (itV x k).v] 0 [] (.tup [.s (.str r), .s (.int .i64 e)]) 0 [] := fun k => from_both (specF f) hg (itV x k) (by rw [itV_n]; exact hx)
  obtain ⟨tv, t1, t2⟩ := to_both (specF f) hg s
  generalize specF f = g at *
  refine SC.run hm Try.func8 rfl [.loop (.exit 0) (sp 61 []) 2 [], .call [] [] [] (.s (.bool true)) 0 []] [] rfl rfl ?_ (.inl rfl) (EndOK.plain rfl no_mem rfl rfl)
  simp only [true_and, and_true, and_assoc]
  refine ⟨?_, by kernel_rfl, call0 awake_s rfl⟩
  refine Ex.turns hm [1, 3, 5, 7] [0, 1] 2 (fun k => sp 61 [(1, .s (.str s)), (3, .s (.ptr (some (0, 0)))), (5, .s (.ptr (some (1, 0)))), (7, .s (.int .i64 ((k : Nat) : Int)))])
    (fun k => [(0, some { cells := f.c, ty := 26 }), (1, some { cells := (itV x k).c, ty := 38 })]) (by omega) rfl rfl (fun k => ⟨rfl, rfl⟩) ?_ [] [] (by simp) ⟨rfl, rfl⟩ ⟨[.dec false], _, _, _, _, _, rfl, ?_, rfl, rfl⟩
  · intro k hk
    obtain ⟨r, e, f1, f2⟩ := hfrom k
    have c2 := md_s (itV x k).k 5 (by omega) (by omega)
    refine ⟨[.dec true, .call [] [f.v] [] g.v 0 [], .call [] [g.v, (itV x k).v] [] (.tup [.s (.str r), .s (.int .i64 e)]) 0 [], .call [] [g.v, (itV x k).v] [] (.tup [.s (.str r), .s (.int .i64 e)]) 0 [], .dec false, .dec false,
      .call [] [g.v, .s (.str s)] [] tv.v 0 [], .call [] [g.v, .s (.str s)] [] tv.v 0 [], .dec false, .call [] [.s (.int .i64 (itV x k).k), .s (.int .i64 5)] [] (.s (.int .i64 (md (itV x k).k 5))) 0 [],
      .num ((min (itV x k).s.length 255 : Nat) : Int), .idx (min (itV x k).s.length 255), .num ((k + 1 : Nat) : Int)], _, _, _, _, _, rfl, ?_, rfl, rfl⟩
    simp only [true_and, and_true, and_assoc, decide_eq_true_eq, bne_self_eq_false, beq_self_eq_true, decide_true, Bool.not_true, Bool.and_self, i64_wrap]
    repeat' apply And.intro
    all_goals first
      | exact True.intro
      | exact call0 c1 rfl
      | exact call0 f1 rfl
      | exact call0 f2 rfl
      | exact call0 t1 rfl
      | exact call0 t2 rfl
      | exact call0 c2 rfl
      | omega
      | (with_reducible show _ = true; kernel_rfl)
      | (with_reducible show _ = false; kernel_rfl)
  · simp only [decide_eq_false_iff_not, and_true, true_and]; omega

end Go.Proofs.Ytgnidbokllmhhaa
