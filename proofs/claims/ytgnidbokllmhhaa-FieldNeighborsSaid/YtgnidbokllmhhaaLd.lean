/-
  ref.ValidField, ref.Units, ref.Masks, ref.Extract: what they compute.
-/
import Derived.Test.YtgnidbokllmhhaaLf
set_option linter.unusedSimpArgs false
set_option linter.unusedVariables false
namespace Go.Proofs.Ytgnidbokllmhhaa
open Go Ab
set_option maxRecDepth 100000

theorem runits_no {f : Fsp} (hf : f.ok) (h : vld f = false) : SC Try.prog 10 [f.v] 0 [] (.tup [.s (.int .i64 0), .s (.int .i64 0)]) 0 [] := by
  have hv := validField_s f hf
  rw [h] at hv
  refine SC.run hm Try.func10 rfl [.call [] [f.v] [] (.s (.bool false)) 0 []] [] rfl rfl ?_ (.inl rfl) (EndOK.plain rfl no_mem rfl rfl)
  simp only [true_and, and_true]
  exact ⟨by kernel_rfl, call0 hv rfl⟩

theorem runits_v {f : Fsp} {b n w : Nat} (hf : f.ok) (h : FV f b n w) : SC Try.prog 10 [f.v] 0 [] (.tup [.s (.int .i64 ((uf b w : Nat) : Int)), .s (.int .i64 ((nU b n w : Nat) : Int))]) 0 [] := by
  have hv := validField_s f hf
  rw [h.v] at hv
  have hw0 : 0 < w := by have := h.w; omega
  have hw8 : w ≤ 8 := by have := h.w; omega
  have ewd := h.wd
  have eln := h.ln
  have ebit := h.bit
  have hb2 := h.b2
  have hn1 := h.n1
  have hn2 := h.n2
  have hF := uf_le b w
  have hL : uf b w ≤ (b + n - 1) / (8 * w) := div_le b n (8 * w) hn1
  have hL2 : (b + n - 1) / (8 * w) ≤ b + n - 1 := Nat.div_le_self _ _
  have hN : nU b n w = (b + n - 1) / (8 * w) - uf b w + 1 := rfl
  have e1 : Int.tdiv (b : Int) ((8 * w : Nat) : Int) = ((uf b w : Nat) : Int) := rfl
  have e2 : Int.tdiv ((b + n - 1 : Nat) : Int) ((8 * w : Nat) : Int) = (((b + n - 1) / (8 * w) : Nat) : Int) := rfl
  refine SC.run hm Try.func10 rfl [.call [] [f.v] [] (.s (.bool true)) 0 [], .num ((8 * w : Nat) : Int), .num ((uf b w : Nat) : Int), .num ((b + n : Nat) : Int), .num ((b + n - 1 : Nat) : Int), .num ((8 * w : Nat) : Int), .num (((b + n - 1) / (8 * w) : Nat) : Int), .num (((b + n - 1) / (8 * w) - uf b w : Nat) : Int), .num ((nU b n w : Nat) : Int)] [] rfl rfl ?_ (.inl rfl) (EndOK.plain rfl no_mem rfl rfl)
  generalize (b + n - 1) / (8 * w) = q at *
  simp only [true_and, and_true, and_assoc, ne_eq, i64_wrap]
  repeat' apply And.intro
  all_goals first
    | exact True.intro
    | omega
    | exact call0 hv rfl
    | (with_reducible show _ = true; kernel_rfl)
    | (rw [ebit, e1]; omega)
    | (rw [e2]; omega)

theorem rmasks_no {f : Fsp} (hf : f.ok) (h : vld f = false) : SC Try.prog 20 [f.v] 0 [] (.s (.slc (some (0, 0)) 0 (some 0))) 1 [(0, some (bU []))] := by
  have hu := runits_no hf h
  refine SC.run hm Try.func20 rfl [.call [] [f.v] [] (.tup [.s (.int .i64 0), .s (.int .i64 0)]) 0 [], .idx 0, .idx 0, .dec false] [1] rfl rfl ?_ (.inl rfl) (EndOK.by rfl ⟨rfl, trivial⟩ rfl rfl rfl rfl)
  simp only [true_and, and_true, and_assoc, decide_eq_false_iff_not]
  repeat' apply And.intro
  all_goals first | exact True.intro | omega | exact call0 hu rfl | (with_reducible show _ = true; kernel_rfl) | exact Nat.zero_le _ | rfl

theorem rmasks_s {f : Fsp} {b n w : Nat} (hf : f.ok) (h : FV f b n w) : SC Try.prog 20 [f.v] 0 [] (.s (.slc (some (0, 0)) (nU b n w) (some (nU b n w)))) 1 [(0, some (bU (mL b n w)))] := by
  have hu := runits_v hf h
  have hN : nU b n w ≤ 300 := nU_le h
  have hw0 : 0 < w := by have := h.w; omega
  have hw8 : w ≤ 8 := by have := h.w; omega
  have ewd := h.wd
  have eln := h.ln
  have ebit := h.bit
  have hb2 := h.b2
  have hn1 := h.n1
  have hn2 := h.n2
  have hF := uf_le b w
  have hne : nU b n w ≠ 0 := by unfold nU; omega
  rw [← mL_eq hw0 hn1]
  refine SC.run hm Try.func20 rfl [.call [] [f.v] [] (.tup [.s (.int .i64 ((uf b w : Nat) : Int)), .s (.int .i64 ((nU b n w : Nat) : Int))]) 0 [], .idx (nU b n w), .idx (nU b n w), .dec true,
    .loop (.exit 0) (sp 47 [(5, .s (.slc (some (1, 0)) (nU b n w) (some (nU b n w))))]) 2 [(1, some (bU (orK (ui b w) (bi b w) (fun _ => true) (List.replicate (nU b n w) 0) n)))]] [1] rfl rfl ?_ (.inl rfl) (EndOK.by rfl ⟨rfl, trivial⟩ rfl rfl rfl rfl)
  simp only [true_and, and_true, and_assoc, decide_eq_true_eq]
  repeat' apply And.intro
  all_goals first
    | exact True.intro
    | omega
    | exact call0 hu rfl
    | refine Ex.turns hm [1, 3, 5, 6] [0, 1] n (fun k => sp 47 [(1, .s (.ptr (some (0, 0)))), (3, .s (.int .i64 ((uf b w : Nat) : Int))), (5, .s (.slc (some (1, 0)) (nU b n w) (some (nU b n w)))), (6, .s (.int .i64 ((k : Nat) : Int)))])
        (fun k => [(0, some { cells := f.c, ty := 26 }), (1, some (bU (orK (ui b w) (bi b w) (fun _ => true) (List.replicate (nU b n w) 0) k)))]) (by omega) rfl ?_ (fun k => ⟨rfl, rfl⟩) ?_ [5] [1] (by simp) ⟨rfl, rfl⟩ ⟨[.dec false], _, _, _, _, _, rfl, ?_, rfl, rfl⟩
    | (with_reducible show _ = true; kernel_rfl)
    | exact Nat.le_trans (Nat.mul_le_mul_right _ (show _ ≤ 8 by decide +kernel)) (by omega)
  · show ([_, (1, some ({ cells := rep (nU b n w) [.int .u64 0], ty := 22, sym := true, flat := true } : Bl))] : Hp) = _
    rw [cU_rep]; rfl
  · intro k hk
    have hui : ui b w k < nU b n w := ui_lt hw0 hn1 hk
    have hbi : bi b w k < 8 * w := bi_lt hw0 k
    have e1 : Int.tdiv ((b + k : Nat) : Int) ((8 * w : Nat) : Int) = (((b + k) / (8 * w) : Nat) : Int) := rfl
    have e2 : Int.tmod ((b + k : Nat) : Int) ((8 * w : Nat) : Int) = ((bi b w k : Nat) : Int) := by rw [← bi_eq hw0]; rfl
    have e3 : (b + k) / (8 * w) = uf b w + ui b w k := ui_eq hw0 k
    have e4 : (b + k) / (8 * w) ≤ b + k := Nat.div_le_self _ _
    have eK : orK (ui b w) (bi b w) (fun _ => true) (List.replicate (nU b n w) 0) (k + 1) = (orK (ui b w) (bi b w) (fun _ => true) (List.replicate (nU b n w) 0) k).set (ui b w k) ((orK (ui b w) (bi b w) (fun _ => true) (List.replicate (nU b n w) 0) k).getD (ui b w k) 0 ||| 2 ^ bi b w k) := rfl
    have hy : (orK (ui b w) (bi b w) (fun _ => true) (List.replicate (nU b n w) 0) k).getD (ui b w k) 0 < 2 ^ 64 := orK_bound (fun i => by rw [rep_getD]; decide) (fun k => by have := bi_lt (b := b) hw0 k; omega) k _
    have hyl : ui b w k < (orK (ui b w) (bi b w) (fun _ => true) (List.replicate (nU b n w) 0) k).length := by rw [orK_length, List.length_replicate]; exact hui
    have hld := ldU hyl (ty := 22) (m := false) (r := false) (s := true) (f := true) (gh := none)
    have hst := cU_set (orK (ui b w) (bi b w) (fun _ => true) (List.replicate (nU b n w) 0) k) (ui b w k) ((orK (ui b w) (bi b w) (fun _ => true) (List.replicate (nU b n w) 0) k).getD (ui b w k) 0 ||| 2 ^ bi b w k)
    rw [← eK] at hst
    generalize (orK (ui b w) (bi b w) (fun _ => true) (List.replicate (nU b n w) 0) k).getD (ui b w k) 0 = y at *
    have hp : 2 ^ bi b w k < 2 ^ 64 := Nat.pow_lt_pow_right (by decide) (by omega)
    have e6 : (1 : Int) * 2 ^ min ((bi b w k : Nat) : Int).toNat IntKind.u64.bits = ((2 ^ bi b w k : Nat) : Int) := by rw [show (1 : Int) = ((1 : Nat) : Int) from rfl, shlN _ _ (by simp only [IntKind.bits]; omega), Nat.one_mul]
    have e7 : bitV .or .u64 (y : Int) ((2 ^ bi b w k : Nat) : Int) = ((y ||| 2 ^ bi b w k : Nat) : Int) := or64 hy hp
    refine ⟨[.dec true, .num ((b + k : Nat) : Int), .num ((8 * w : Nat) : Int), .num (((b + k) / (8 * w) : Nat) : Int), .num ((ui b w k : Nat) : Int), .idx (ui b w k), .val (.s (.int .u64 ((y : Nat) : Int))), .num ((8 * w : Nat) : Int), .num ((bi b w k : Nat) : Int), .num ((bi b w k : Nat) : Int), .num ((2 ^ bi b w k : Nat) : Int), .num ((y ||| 2 ^ bi b w k : Nat) : Int), .idx (ui b w k),
      .cells (cU (orK (ui b w) (bi b w) (fun _ => true) (List.replicate (nU b n w) 0) (k + 1))), .num ((k + 1 : Nat) : Int)], _, _, _, _, _, rfl, ?_, rfl, rfl⟩
    simp only [true_and, and_true, and_assoc, decide_eq_true_eq, ne_eq, i64_wrap, u64_wrap, e1, e2, e6, e7]
    generalize (b + k) / (8 * w) = q at *
    repeat' apply And.intro
    all_goals first
      | exact True.intro
      | omega
      | exact hld
      | exact hst
      | (generalize 2 ^ bi b w k = pw at *; omega)
      | (show ui b w k + 1 ≤ (cU _).length; rw [cU_length, orK_length, List.length_replicate]; omega)
      | (with_reducible show _ = true; kernel_rfl)
  · simp only [decide_eq_false_iff_not, and_true, true_and]; omega

end Go.Proofs.Ytgnidbokllmhhaa
