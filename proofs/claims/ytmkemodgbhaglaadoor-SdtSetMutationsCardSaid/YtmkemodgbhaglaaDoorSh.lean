/-
  awake, agrees; SdtEncodes, SdtRoundTrip, SdtDetectsChanges: they return true.
-/
import Derived.Test.YtmkemodgbhaglaaDoorSg
set_option linter.unusedSimpArgs false
set_option linter.unusedVariables false
namespace Go.Proofs.YtmkemodgbhaglaaDoor
open Go Ab
set_option maxRecDepth 100000

theorem st23 : Tryd.prog.stoodInHeld 23 = false := by kernel_rfl
theorem eq23 : Tryd.prog.eqGuardType Tryd.prog.depth 23 = false := by kernel_rfl
def tA : Tb := ⟨[83, 83, 68, 84], 2, [77, 69], []⟩
theorem tA_ok : validB tA = true := by decide
theorem awake_s : SC Tryd.prog 9 [] 0 [] (bV true) 0 [] := by
  have hf : tA.fit := ⟨by decide, by decide, by decide, by decide, by decide⟩
  have g1 := enc_s tA hf
  rw [show encV tA = .tup [.s (.str (encB tA)), .s (.int .i64 0)] by simp only [encV, tA_ok]] at g1
  have hl : (encB tA).length = 16 := enc_len tA_ok
  have g2 := dec_s (encB tA) (by rw [hl]; decide)
  have hd : decB (encB tA) = (tA, 16, 0) := by
    have := dec_enc tA_ok []
    rw [List.append_nil] at this
    exact this
  unfold decV at g2
  rw [hd] at g2
  have g3 := sum_s (encB tA) (by rw [hl]; decide)
  rw [enc_sum] at g3
  have h8 : ((encB tA).take 8).drop 4 = [16, 0, 0, 0] := by decide
  generalize encB tA = eA at *
  refine SC.run hm Tryd.func9 rfl [.call [] [tV tA] [] (.tup [.s (.str eA), .s (.int .i64 0)]) 0 [], .call [] [sV eA] [] (.tup [.agg (tC tA), .s (.int .i64 ((16 : Nat) : Int)), .s (.int .i64 ((0 : Nat) : Int))]) 0 [], .dec true, .dec true, .idx 8, .idx 4, .dec true, .call [] [sV eA] [] (n8 0) 0 [], .dec true, .dec true, .dec true, .dec true] [] rfl rfl ?_ (.inl rfl) (EndOK.plain rfl no_mem rfl rfl)
  simp only [true_and, and_true, and_assoc, decide_eq_true_eq, decide_eq_false_iff_not, ne_eq, beq_iff_eq, beq_eq_false_iff_ne, bne_eq_false_iff_eq, bne_iff_ne, bne_self_eq_false, beq_self_eq_true]
  repeat' apply And.intro
  all_goals first
    | exact True.intro
    | exact call0 g1 rfl
    | exact call0 g2 rfl
    | exact call0 g3 rfl
    | exact st23
    | exact eq23
    | exact h8
    | exact decide_eq_true h8
    | rfl
    | (with_reducible show _ = true; kernel_rfl)
    | (with_reducible exact rfl)
    | omega
    | (simp only [List.length_cons, List.length_nil]; omega)
    | decide
def encS (t : Tb) : By := match validB t with | true => encB t | false => []
def encE (t : Tb) : Nat := match validB t with | true => 0 | false => 1
theorem encV_eq (t : Tb) : encV t = .tup [.s (.str (encS t)), .s (.int .i64 ((encE t : Nat) : Int))] := by
  unfold encV encS encE
  cases validB t <;> rfl
theorem agrees_s (t : Tb) (h : t.fit) : SC Tryd.prog 10 [tV t] 0 [] (bV true) 0 [] := by
  have g1 := enc_s t h
  have g2 := renc_s t h
  have g3 := valid_s t h
  have g4 := rvalid_s t h
  rw [encV_eq] at g1 g2
  refine SC.run hm Tryd.func10 rfl [.call [] [tV t] [] (.tup [.s (.str (encS t)), .s (.int .i64 ((encE t : Nat) : Int))]) 0 [], .call [] [tV t] [] (.tup [.s (.str (encS t)), .s (.int .i64 ((encE t : Nat) : Int))]) 0 [], .call [] [tV t] [] (bV (validB t)) 0 [], .call [] [tV t] [] (bV (validB t)) 0 [], .dec true, .dec true, .dec true] [] rfl rfl ?_ (.inl rfl) (EndOK.plain rfl no_mem rfl rfl)
  simp only [true_and, and_true, and_assoc, decide_eq_true_eq, decide_eq_false_iff_not, ne_eq, beq_iff_eq, beq_eq_false_iff_ne, bne_eq_false_iff_eq, bne_iff_ne, bne_self_eq_false, beq_self_eq_true]
  repeat' apply And.intro
  all_goals first
    | exact True.intro
    | exact call0 g1 rfl
    | exact call0 g2 rfl
    | exact call0 g3 rfl
    | exact call0 g4 rfl
    | exact decide_eq_true rfl
    | rfl
    | (with_reducible show _ = true; kernel_rfl)
    | (with_reducible exact rfl)
    | omega
    | (simp only [List.length_cons, List.length_nil]; omega)
    | decide
theorem encodes_s (t : Tb) (h : t.fit) : SC Tryd.prog 3 [tV t] 0 [] (bV true) 0 [] := by
  have g1 := agrees_s t h
  have g2 := table_s t h
  have g3 := agrees_s (tabM t) (tab_fit h)
  have g4 := sum_s t.bd h.bd
  have g5 := rsum_s t.bd h.bd
  refine SC.run hm Tryd.func3 rfl [.call [] [] [] (bV true) 0 [], .call [] [tV t] [] (bV true) 0 [], .call [] [tV t] [] (tV (tabM t)) 0 [], .call [] [tV (tabM t)] [] (bV true) 0 [], .call [] [sV t.bd] [] (n8 (sumN t.bd)) 0 [], .call [] [sV t.bd] [] (n8 (sumN t.bd)) 0 [], .dec true] [] rfl rfl ?_ (.inl rfl) (EndOK.plain rfl no_mem rfl rfl)
  simp only [true_and, and_true, and_assoc, decide_eq_true_eq, decide_eq_false_iff_not, ne_eq, beq_iff_eq, beq_eq_false_iff_ne, bne_eq_false_iff_eq, bne_iff_ne, bne_self_eq_false, beq_self_eq_true]
  repeat' apply And.intro
  all_goals first
    | exact True.intro
    | exact call0 awake_s rfl
    | exact call0 g1 rfl
    | exact call0 g2 rfl
    | exact call0 g3 rfl
    | exact call0 g4 rfl
    | exact call0 g5 rfl
    | rfl
    | (with_reducible show _ = true; kernel_rfl)
    | (with_reducible exact rfl)
    | omega
    | (simp only [List.length_cons, List.length_nil]; omega)
    | decide
theorem roundTrip_s (t : Tb) (h : t.fit) (b : By) (hb : b.length < 2305843009213693952) : SC Tryd.prog 4 [tV t, sV b] 0 [] (bV true) 0 [] := by
  have g1 := table_s t h
  have hf := tab_fit h
  generalize tabM t = x at *
  have g2 := rvalid_s x hf
  cases hv : validB x with
  | false =>
    rw [hv] at g2
    refine SC.run hm Tryd.func4 rfl [.call [] [tV t] [] (tV x) 0 [], .call [] [tV x] [] (bV false) 0 [], .call [] [] [] (bV true) 0 []] [] rfl rfl ?_ (.inl rfl) (EndOK.plain rfl no_mem rfl rfl)
    simp only [true_and, and_true, and_assoc, decide_eq_true_eq, decide_eq_false_iff_not, ne_eq, beq_iff_eq, beq_eq_false_iff_ne, bne_eq_false_iff_eq, bne_iff_ne, bne_self_eq_false, beq_self_eq_true]
    repeat' apply And.intro
    all_goals first
      | exact True.intro
      | exact call0 awake_s rfl
      | exact call0 g1 rfl
      | exact call0 g2 rfl
      | (with_reducible show _ = true; kernel_rfl)
      | (with_reducible exact rfl)
      | omega
      | (simp only [List.length_cons, List.length_nil]; omega)
      | decide
  | true =>
    rw [hv] at g2
    obtain ⟨v1, v2, v3, v4, v5, v6⟩ := valid_parts hv
    have hl := enc_len hv
    have g3 := enc_s x hf
    rw [show encV x = .tup [.s (.str (encB x)), .s (.int .i64 0)] by simp only [encV, hv]] at g3
    have g4 := dec_s (encB x ++ b) (by rw [List.length_append, hl]; omega)
    unfold decV at g4
    rw [dec_enc hv b] at g4
    have g5 := sum_s (encB x) (by rw [hl]; omega)
    rw [enc_sum] at g5
    generalize encB x = s at *
    refine SC.run hm Tryd.func4 rfl [.call [] [tV t] [] (tV x) 0 [], .call [] [tV x] [] (bV true) 0 [], .call [] [tV x] [] (.tup [.s (.str s), .s (.int .i64 0)]) 0 [], .call [] [sV (s ++ b)] [] (.tup [.agg (tC x), .s (.int .i64 ((16 + x.bd.length : Nat) : Int)), .s (.int .i64 ((0 : Nat) : Int))]) 0 [], .call [] [] [] (bV true) 0 [], .dec true, .dec true, .dec true, .dec true, .num ((16 + x.bd.length : Nat) : Int), .dec true, .call [] [sV s] [] (n8 0) 0 [], .dec true] [] rfl rfl ?_ (.inl rfl) (EndOK.plain rfl no_mem rfl rfl)
    simp only [true_and, and_true, and_assoc, decide_eq_true_eq, decide_eq_false_iff_not, ne_eq, beq_iff_eq, beq_eq_false_iff_ne, bne_eq_false_iff_eq, bne_iff_ne, bne_self_eq_false, beq_self_eq_true]
    repeat' apply And.intro
    all_goals first
      | exact True.intro
      | exact call0 awake_s rfl
      | exact call0 g1 rfl
      | exact call0 g2 rfl
      | exact call0 g3 rfl
      | exact call0 g4 rfl
      | exact call0 g5 rfl
      | exact st23
      | exact eq23
      | (rw [i64_in] <;> omega)
      | (with_reducible show _ = true; kernel_rfl)
      | (with_reducible exact rfl)
      | omega
      | (simp only [List.length_cons, List.length_nil]; omega)
      | decide
theorem detects_s (t : Tb) (h : t.fit) (z : Int) (c : UInt8) : SC Tryd.prog 5 [tV t, .s (.int .i64 z), n8 c.toNat] 0 [] (bV true) 0 [] := by
  have g1 := table_s t h
  have hf := tab_fit h
  generalize tabM t = x at *
  have g2 := renc_s x hf
  cases hv : validB x with
  | false =>
    rw [show encV x = .tup [.s (.str []), .s (.int .i64 1)] by simp only [encV, hv]] at g2
    refine SC.run hm Tryd.func5 rfl [.call [] [tV t] [] (tV x) 0 [], .call [] [tV x] [] (.tup [.s (.str []), .s (.int .i64 1)]) 0 [], .dec true, .call [] [] [] (bV true) 0 []] [] rfl rfl ?_ (.inl rfl) (EndOK.plain rfl no_mem rfl rfl)
    simp only [true_and, and_true, and_assoc, decide_eq_true_eq, decide_eq_false_iff_not, ne_eq, beq_iff_eq, beq_eq_false_iff_ne, bne_eq_false_iff_eq, bne_iff_ne, bne_self_eq_false, beq_self_eq_true]
    repeat' apply And.intro
    all_goals first
      | exact True.intro
      | exact call0 awake_s rfl
      | exact call0 g1 rfl
      | exact call0 g2 rfl
      | exact decide_eq_true rfl
      | (with_reducible show _ = true; kernel_rfl)
      | (with_reducible exact rfl)
      | omega
      | (simp only [List.length_cons, List.length_nil]; omega)
      | decide
  | true =>
    rw [show encV x = .tup [.s (.str (encB x)), .s (.int .i64 0)] by simp only [encV, hv]] at g2
    obtain ⟨v1, v2, v3, v4, v5, v6⟩ := valid_parts hv
    have hl := enc_len hv
    have hne : encB x ≠ [] := fun e => by rw [e] at hl; simp at hl; omega
    have g3 := mod_s z (encB x).length (by omega) (by omega)
    have hk : modM z (encB x).length < (encB x).length := Nat.mod_lt _ (by omega)
    have hchg := dec_chg hv (k := modM z (encB x).length) hk
    generalize hkk : modM z (encB x).length = k at *
    generalize encB x = s at *
    have pre : SC Tryd.prog 11 [tV t] 0 [] (tV x) 0 [] := g1
    by_cases h4 : 4 ≤ k
    · by_cases h8 : k < 8
      · refine SC.run hm Tryd.func5 rfl [.call [] [tV t] [] (tV x) 0 [], .call [] [tV x] [] (.tup [.s (.str s), .s (.int .i64 0)]) 0 [], .dec false, .call [] [.s (.int .i64 z), iN s.length] [] (iN k) 0 [], .dec true, .dec true, .call [] [] [] (bV true) 0 []] [] rfl rfl ?_ (.inl rfl) (EndOK.plain rfl no_mem rfl rfl)
        simp only [true_and, and_true, and_assoc, decide_eq_true_eq, decide_eq_false_iff_not, ne_eq, beq_iff_eq, beq_eq_false_iff_ne, bne_eq_false_iff_eq, bne_iff_ne, bne_self_eq_false, beq_self_eq_true]
        repeat' apply And.intro
        all_goals first
          | exact True.intro
          | exact call0 awake_s rfl
          | exact call0 g1 rfl
          | exact call0 g2 rfl
          | exact call0 g3 rfl
          | exact decide_eq_false hne
          | exact hne
          | (with_reducible show _ = true; kernel_rfl)
          | (with_reducible exact rfl)
          | omega
          | (simp only [List.length_cons, List.length_nil]; omega)
          | decide
      · by_cases hc : (s.getD k 0).toNat = c.toNat
        · refine SC.run hm Tryd.func5 rfl [.call [] [tV t] [] (tV x) 0 [], .call [] [tV x] [] (.tup [.s (.str s), .s (.int .i64 0)]) 0 [], .dec false, .call [] [.s (.int .i64 z), iN s.length] [] (iN k) 0 [], .dec true, .dec false, .idx k, .dec true, .call [] [] [] (bV true) 0 []] [] rfl rfl ?_ (.inl rfl) (EndOK.plain rfl no_mem rfl rfl)
          simp only [true_and, and_true, and_assoc, decide_eq_true_eq, decide_eq_false_iff_not, ne_eq, beq_iff_eq, beq_eq_false_iff_ne, bne_eq_false_iff_eq, bne_iff_ne, bne_self_eq_false, beq_self_eq_true]
          repeat' apply And.intro
          all_goals first
            | exact True.intro
            | exact call0 awake_s rfl
            | exact call0 g1 rfl
            | exact call0 g2 rfl
            | exact call0 g3 rfl
            | exact decide_eq_false hne
            | exact hne
            | (with_reducible show _ = true; kernel_rfl)
            | (with_reducible exact rfl)
            | omega
            | (simp only [List.length_cons, List.length_nil]; omega)
            | decide
        · have hcc : s.getD k 0 ≠ c := fun e => hc (by rw [e])
          have hd := hchg (by omega) hcc
          have g4 := dec_s (s.take k ++ [c] ++ s.drop (k + 1)) (by simp; omega)
          unfold decV at g4
          generalize decB (s.take k ++ [c] ++ s.drop (k + 1)) = r at *
          obtain ⟨r1, r2, r3⟩ := r
          dsimp only at hd g4
          refine SC.run hm Tryd.func5 rfl [.call [] [tV t] [] (tV x) 0 [], .call [] [tV x] [] (.tup [.s (.str s), .s (.int .i64 0)]) 0 [], .dec false, .call [] [.s (.int .i64 z), iN s.length] [] (iN k) 0 [], .dec true, .dec false, .idx k, .dec false, .idx k, .val (sV [c]), .num ((k + 1 : Nat) : Int), .idx (k + 1), .call [] [sV (s.take k ++ [c] ++ s.drop (k + 1))] [] (.tup [.agg (tC r1), .s (.int .i64 ((r2 : Nat) : Int)), .s (.int .i64 ((r3 : Nat) : Int))]) 0 [], .call [] [] [] (bV true) 0 [], .dec true] [] rfl rfl ?_ (.inl rfl) (EndOK.plain rfl no_mem rfl rfl)
          simp only [List.length_append, List.length_take, List.length_drop, List.length_cons, List.length_nil]
          simp only [true_and, and_true, and_assoc, decide_eq_true_eq, decide_eq_false_iff_not, ne_eq, beq_iff_eq, beq_eq_false_iff_ne, bne_eq_false_iff_eq, bne_iff_ne, bne_self_eq_false, beq_self_eq_true]
          repeat' apply And.intro
          all_goals first
            | exact True.intro
            | exact call0 awake_s rfl
            | exact call0 g1 rfl
            | exact call0 g2 rfl
            | exact call0 g3 rfl
            | exact decide_eq_false hne
            | exact hne
            | exact call0 g4 rfl
            | (rw [i64_in] <;> omega)
            | exact (one_cell c).symm
            | exact fun e => hd (by omega)
            | (with_reducible show _ = true; kernel_rfl)
            | (with_reducible exact rfl)
            | omega
            | (simp only [List.length_cons, List.length_nil]; omega)
            | decide
    · by_cases hc : (s.getD k 0).toNat = c.toNat
      · refine SC.run hm Tryd.func5 rfl [.call [] [tV t] [] (tV x) 0 [], .call [] [tV x] [] (.tup [.s (.str s), .s (.int .i64 0)]) 0 [], .dec false, .call [] [.s (.int .i64 z), iN s.length] [] (iN k) 0 [], .dec false, .idx k, .dec true, .call [] [] [] (bV true) 0 []] [] rfl rfl ?_ (.inl rfl) (EndOK.plain rfl no_mem rfl rfl)
        simp only [true_and, and_true, and_assoc, decide_eq_true_eq, decide_eq_false_iff_not, ne_eq, beq_iff_eq, beq_eq_false_iff_ne, bne_eq_false_iff_eq, bne_iff_ne, bne_self_eq_false, beq_self_eq_true]
        repeat' apply And.intro
        all_goals first
          | exact True.intro
          | exact call0 awake_s rfl
          | exact call0 g1 rfl
          | exact call0 g2 rfl
          | exact call0 g3 rfl
          | exact decide_eq_false hne
          | exact hne
          | (with_reducible show _ = true; kernel_rfl)
          | (with_reducible exact rfl)
          | omega
          | (simp only [List.length_cons, List.length_nil]; omega)
          | decide
      · have hcc : s.getD k 0 ≠ c := fun e => hc (by rw [e])
        have hd := hchg (by omega) hcc
        have g4 := dec_s (s.take k ++ [c] ++ s.drop (k + 1)) (by simp; omega)
        unfold decV at g4
        generalize decB (s.take k ++ [c] ++ s.drop (k + 1)) = r at *
        obtain ⟨r1, r2, r3⟩ := r
        dsimp only at hd g4
        refine SC.run hm Tryd.func5 rfl [.call [] [tV t] [] (tV x) 0 [], .call [] [tV x] [] (.tup [.s (.str s), .s (.int .i64 0)]) 0 [], .dec false, .call [] [.s (.int .i64 z), iN s.length] [] (iN k) 0 [], .dec false, .idx k, .dec false, .idx k, .val (sV [c]), .num ((k + 1 : Nat) : Int), .idx (k + 1), .call [] [sV (s.take k ++ [c] ++ s.drop (k + 1))] [] (.tup [.agg (tC r1), .s (.int .i64 ((r2 : Nat) : Int)), .s (.int .i64 ((r3 : Nat) : Int))]) 0 [], .call [] [] [] (bV true) 0 [], .dec true] [] rfl rfl ?_ (.inl rfl) (EndOK.plain rfl no_mem rfl rfl)
        simp only [List.length_append, List.length_take, List.length_drop, List.length_cons, List.length_nil]
        simp only [true_and, and_true, and_assoc, decide_eq_true_eq, decide_eq_false_iff_not, ne_eq, beq_iff_eq, beq_eq_false_iff_ne, bne_eq_false_iff_eq, bne_iff_ne, bne_self_eq_false, beq_self_eq_true]
        repeat' apply And.intro
        all_goals first
          | exact True.intro
          | exact call0 awake_s rfl
          | exact call0 g1 rfl
          | exact call0 g2 rfl
          | exact call0 g3 rfl
          | exact decide_eq_false hne
          | exact hne
          | exact call0 g4 rfl
          | (rw [i64_in] <;> omega)
          | exact (one_cell c).symm
          | exact fun e => hd (by omega)
          | (with_reducible show _ = true; kernel_rfl)
          | (with_reducible exact rfl)
          | omega
          | (simp only [List.length_cons, List.length_nil]; omega)
          | decide

end Go.Proofs.YtmkemodgbhaglaaDoor
