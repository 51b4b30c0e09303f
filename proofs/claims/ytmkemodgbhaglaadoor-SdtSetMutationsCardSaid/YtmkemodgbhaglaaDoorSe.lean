/-
  table, Decode (both sides).
-/
import Derived.Test.YtmkemodgbhaglaaDoorSd
set_option linter.unusedSimpArgs false
set_option linter.unusedVariables false
namespace Go.Proofs.YtmkemodgbhaglaaDoor
open Go Ab
set_option maxRecDepth 100000

def modM (z : Int) (n : Nat) : Nat := (z % 18446744073709551616).toNat % n
theorem mod_s (z : Int) (n : Nat) (h : 0 < n) (hn : n < 9223372036854775808) : SC Tryd.prog 18 [.s (.int .i64 z), iN n] 0 [] (iN (modM z n)) 0 [] := by
  have h1 : (((z % 18446744073709551616).toNat : Nat) : Int) = z % 18446744073709551616 := by omega
  have m1 : Int.tmod ((((z % 18446744073709551616).toNat : Nat)) : Int) ((n : Nat) : Int) = ((modM z n : Nat) : Int) := rfl
  have h2 : modM z n < n := Nat.mod_lt _ h
  refine SC.run hm Tryd.func18 rfl [.num (((z % 18446744073709551616).toNat : Nat) : Int), .num ((n : Nat) : Int), .num ((modM z n : Nat) : Int), .num ((modM z n : Nat) : Int)] [] rfl rfl ?_ (.inl rfl) (EndOK.plain rfl no_mem rfl rfl)
  simp only [true_and, and_true, and_assoc, beq_eq_false_iff_ne, ne_eq]
  rw [m1, u64_wrap, u64_wrap]
  exact ⟨h1.symm, by omega, by omega, rfl, i64_in (by omega) (by omega)⟩
def tC (t : Tb) : List S := [.str t.sg, .int .i64 t.rv, .str t.om, .str t.bd]
def decV (s : By) : V := .tup [.agg (tC (decB s).1), .s (.int .i64 (((decB s).2.1 : Nat) : Int)), .s (.int .i64 (((decB s).2.2 : Nat) : Int))]
theorem num_drop (s : By) (h : 8 ≤ s.length) : num4 ((s.take 8).drop 4) = num4 (s.drop 4) := by
  have k : ∀ j, j < 4 → ((s.take 8).drop 4).getD j 0 = (s.drop 4).getD j 0 := by
    intro j hj
    simp only [List.getD_eq_getElem?_getD, List.getElem?_drop]
    rw [List.getElem?_take_of_lt (by omega)]
  unfold num4
  rw [k 0 (by decide), k 1 (by decide), k 2 (by decide), k 3 (by decide)]
theorem rtr_r (s : By) (n : Nat) (l : By) (hl : l.length < 9223372036854775808) (h : lastZ l = true) : Rnd Tryd.prog 0 ((Tryd.f32.body.bind fstLoop).getD .skip) [0] [0, 2, 5, 6] (sp 69 [(0, sV s), (2, .s (.ptr (some (0, 0)))), (5, iN n), (6, sV l)]) 1 [(0, some { cells := [.str [], .int .i64 0, .str [], .str []], ty := 23 })] (sp 69 [(0, sV s), (2, .s (.ptr (some (0, 0)))), (5, iN n), (6, sV (l.take (l.length - 1)))]) [(0, some { cells := [.str [], .int .i64 0, .str [], .str []], ty := 23 })] := by
  obtain ⟨hne, hz⟩ := last_val h
  have hp := List.length_pos_iff.2 hne
  refine ⟨[.dec true, .num ((l.length - 1 : Nat) : Int), .idx (l.length - 1), .dec true, .num ((l.length - 1 : Nat) : Int), .idx (l.length - 1)], _, _, _, _, _, rfl, ?_, rfl, ⟨rfl, trivial⟩⟩
  simp only [true_and, and_true, and_assoc, decide_eq_true_eq, decide_eq_false_iff_not, ne_eq, beq_iff_eq, beq_eq_false_iff_ne, bne_eq_false_iff_eq, bne_iff_ne, bne_self_eq_false, beq_self_eq_true]
  repeat' apply And.intro
  all_goals first
    | exact True.intro
    | exact len1 hne hl
    | exact hne
    | (rw [decide_eq_false hne]; rfl)
    | (rw [hz]; rfl)
    | (with_reducible show _ = true; kernel_rfl)
    | (with_reducible exact rfl)
    | omega
    | (simp only [List.length_cons, List.length_nil]; omega)
    | decide
theorem rtr_l (s : By) (n : Nat) (l : By) (hl : l.length < 9223372036854775808) (h : lastZ l = false) : Lst Tryd.prog 0 ((Tryd.f32.body.bind fstLoop).getD .skip) [0] [0, 2, 5, 6] (sp 69 [(0, sV s), (2, .s (.ptr (some (0, 0)))), (5, iN n), (6, sV l)]) 1 [(0, some { cells := [.str [], .int .i64 0, .str [], .str []], ty := 23 })] (.exit 1) (sp 69 [(0, sV s), (2, .s (.ptr (some (0, 0)))), (5, iN n), (6, sV l)]) [(0, some { cells := [.str [], .int .i64 0, .str [], .str []], ty := 23 })] := by
  by_cases hne : l = []
  · have h0 : l.length = 0 := by rw [hne]; rfl
    refine ⟨[.dec false], _, _, _, _, _, rfl, ?_, rfl, ⟨rfl, trivial⟩⟩
    simp only [true_and, and_true, and_assoc, decide_eq_true_eq, decide_eq_false_iff_not, ne_eq, beq_iff_eq, beq_eq_false_iff_ne, bne_eq_false_iff_eq, bne_iff_ne, bne_self_eq_false, beq_self_eq_true]
    repeat' apply And.intro
    all_goals first
      | exact True.intro
      | (rw [decide_eq_true hne]; rfl)
      | exact hne
      | (with_reducible show _ = true; kernel_rfl)
      | (with_reducible exact rfl)
      | omega
      | (simp only [List.length_cons, List.length_nil]; omega)
      | decide
  · have hp := List.length_pos_iff.2 hne
    have hz := last_no h hne
    refine ⟨[.dec true, .num ((l.length - 1 : Nat) : Int), .idx (l.length - 1), .dec false], _, _, _, _, _, rfl, ?_, rfl, ⟨rfl, trivial⟩⟩
    simp only [true_and, and_true, and_assoc, decide_eq_true_eq, decide_eq_false_iff_not, ne_eq, beq_iff_eq, beq_eq_false_iff_ne, bne_eq_false_iff_eq, bne_iff_ne, bne_self_eq_false, beq_self_eq_true]
    repeat' apply And.intro
    all_goals first
      | exact True.intro
      | exact len1 hne hl
      | exact hne
      | (rw [decide_eq_false hne]; rfl)
      | exact fun e => hz (by omega)
      | (with_reducible show _ = true; kernel_rfl)
      | (with_reducible exact rfl)
      | omega
      | (simp only [List.length_cons, List.length_nil]; omega)
      | decide
theorem rtrim_l (s : By) (n : Nat) (l : By) (hl : l.length < 9223372036854775808) {env : List V} {m : Nat} (h0 : wkE [0, 2, 5, 6] 0 env = ((sp 69 [(0, sV s), (2, .s (.ptr (some (0, 0)))), (5, iN n), (6, sV l)])).map (renV (rn [0] 0))) : Ex Tryd.prog 0 (.loop ((Tryd.f32.body.bind fstLoop).getD .skip)) env m [(0, some { cells := [.str [], .int .i64 0, .str [], .str []], ty := 23 })] (One (.exit 1) (sp 69 [(0, sV s), (2, .s (.ptr (some (0, 0)))), (5, iN n), (6, sV (trimR l))]) 1 [(0, some { cells := [.str [], .int .i64 0, .str [], .str []], ty := 23 })]) := by
  obtain ⟨c1, c2⟩ := cnt_end l.length l (Nat.le_refl _)
  rw [c2]
  generalize hN : cnt l.length l = N at *
  refine Ex.movesT hm [0, 2, 5, 6] N (fun j => (sp 69 [(0, sV s), (2, .s (.ptr (some (0, 0)))), (5, iN n), (6, sV (cutZ l j))])) (fun _ => [(0, some { cells := [.str [], .int .i64 0, .str [], .str []], ty := 23 })]) [0] (fun _ => [0]) rfl (fun _ => rfl) h0 ⟨rfl, trivial⟩ rfl (fun _ => rfl) (fun j hj => ?_) [0, 2, 5, 6] [0] rfl (fun e => by cases e) rfl (rtr_l s n _ (by have := cutZ_len l N; omega) c1)
  exact rtr_r s n (cutZ l j) (by have := cutZ_len l j; omega) (cnt_lt l.length l j (by rw [hN]; exact hj))
theorem dec_s (s : By) (hl : s.length < 9223372036854775808) : SC Tryd.prog 16 [sV s] 0 [] (decV s) 0 [] := by
  unfold decV
  by_cases h16 : s.length < 16
  · rw [show decB s = (tb0, 0, 4) by simp [decB, h16]]
    refine SC.run hm Tryd.func16 rfl [.dec true] [] rfl rfl ?_ (.inl rfl) (EndOK.plain rfl no_mem rfl rfl)
    simp only [true_and, and_true, and_assoc, decide_eq_true_eq, decide_eq_false_iff_not, ne_eq, beq_iff_eq, beq_eq_false_iff_ne, bne_eq_false_iff_eq, bne_iff_ne, bne_self_eq_false, beq_self_eq_true]
    omega
  have g1 := num_s ((s.take 8).drop 4) (by simp; omega)
  rw [num_drop s (by omega)] at g1
  have g2 := sig_s (s.take 4) (by simp; omega)
  have hn4 := num4_lt (s.drop 4)
  generalize hn : num4 (s.drop 4) = n at *
  have gs := sum_s (s.take n) (by simp; omega)
  cases h1 : sigOK (s.take 4) with
  | false =>
    rw [h1] at g2
    rw [show decB s = (tb0, 0, 3) by simp [decB, h16, h1]]
    refine SC.run hm Tryd.func16 rfl [.dec false, .idx 8, .idx 4, .call [] [sV ((s.take 8).drop 4)] [] (.s (.int .u32 ((n : Nat) : Int))) 0 [], .idx 4, .call [] [sV (s.take 4)] [] (bV false) 0 []] [] rfl rfl ?_ (.inl rfl) (EndOK.plain rfl no_mem rfl rfl)
    simp only [true_and, and_true, and_assoc, decide_eq_true_eq, decide_eq_false_iff_not, ne_eq, beq_iff_eq, beq_eq_false_iff_ne, bne_eq_false_iff_eq, bne_iff_ne, bne_self_eq_false, beq_self_eq_true]
    repeat' apply And.intro
    all_goals first
      | exact True.intro
      | exact call0 g1 rfl
      | exact call0 g2 rfl
      | exact call0 gs rfl
      | (with_reducible show _ = true; kernel_rfl)
      | (with_reducible exact rfl)
      | omega
      | (simp only [List.length_cons, List.length_nil]; omega)
      | decide
  | true =>
    rw [h1] at g2
    by_cases h2 : n < 16
    · rw [show decB s = (tb0, 0, 3) by simp [decB, h16, h1, hn, h2]]
      refine SC.run hm Tryd.func16 rfl [.dec false, .idx 8, .idx 4, .call [] [sV ((s.take 8).drop 4)] [] (.s (.int .u32 ((n : Nat) : Int))) 0 [], .idx 4, .call [] [sV (s.take 4)] [] (bV true) 0 [], .dec true] [] rfl rfl ?_ (.inl rfl) (EndOK.plain rfl no_mem rfl rfl)
      simp only [true_and, and_true, and_assoc, decide_eq_true_eq, decide_eq_false_iff_not, ne_eq, beq_iff_eq, beq_eq_false_iff_ne, bne_eq_false_iff_eq, bne_iff_ne, bne_self_eq_false, beq_self_eq_true]
      repeat' apply And.intro
      all_goals first
        | exact True.intro
        | exact call0 g1 rfl
        | exact call0 g2 rfl
        | exact call0 gs rfl
        | (with_reducible show _ = true; kernel_rfl)
        | (with_reducible exact rfl)
        | omega
        | (simp only [List.length_cons, List.length_nil]; omega)
        | decide
    by_cases h3 : 65552 < n
    · rw [show decB s = (tb0, 0, 3) by simp [decB, h16, h1, hn, h3]]
      refine SC.run hm Tryd.func16 rfl [.dec false, .idx 8, .idx 4, .call [] [sV ((s.take 8).drop 4)] [] (.s (.int .u32 ((n : Nat) : Int))) 0 [], .idx 4, .call [] [sV (s.take 4)] [] (bV true) 0 [], .dec false, .dec true] [] rfl rfl ?_ (.inl rfl) (EndOK.plain rfl no_mem rfl rfl)
      simp only [true_and, and_true, and_assoc, decide_eq_true_eq, decide_eq_false_iff_not, ne_eq, beq_iff_eq, beq_eq_false_iff_ne, bne_eq_false_iff_eq, bne_iff_ne, bne_self_eq_false, beq_self_eq_true]
      repeat' apply And.intro
      all_goals first
        | exact True.intro
        | exact call0 g1 rfl
        | exact call0 g2 rfl
        | exact call0 gs rfl
        | (with_reducible show _ = true; kernel_rfl)
        | (with_reducible exact rfl)
        | omega
        | (simp only [List.length_cons, List.length_nil]; omega)
        | decide
    have hdec : decB s = if s.length < n then (tb0, 0, 4) else if sumN (s.take n) ≠ 0 then (tb0, 0, 5) else (⟨s.take 4, (((s.getD 8 0).toNat : Nat) : Int), trimR ((s.take 16).drop 10), (s.take n).drop 16⟩, n, 0) := by
      simp only [decB, hn, h1, if_neg h16, if_neg (show ¬ (true = false ∨ n < 16 ∨ 65552 < n) by simp; omega)]
    by_cases h4 : s.length < n
    · rw [hdec, if_pos h4]
      refine SC.run hm Tryd.func16 rfl [.dec false, .idx 8, .idx 4, .call [] [sV ((s.take 8).drop 4)] [] (.s (.int .u32 ((n : Nat) : Int))) 0 [], .idx 4, .call [] [sV (s.take 4)] [] (bV true) 0 [], .dec false, .dec false, .num ((n : Nat) : Int), .dec true] [] rfl rfl ?_ (.inl rfl) (EndOK.plain rfl no_mem rfl rfl)
      simp only [true_and, and_true, and_assoc, decide_eq_true_eq, decide_eq_false_iff_not, ne_eq, beq_iff_eq, beq_eq_false_iff_ne, bne_eq_false_iff_eq, bne_iff_ne, bne_self_eq_false, beq_self_eq_true]
      repeat' apply And.intro
      all_goals first
        | exact True.intro
        | exact call0 g1 rfl
        | exact call0 g2 rfl
        | exact call0 gs rfl
        | (rw [i64_in] <;> omega)
        | (with_reducible show _ = true; kernel_rfl)
        | (with_reducible exact rfl)
        | omega
        | (simp only [List.length_cons, List.length_nil]; omega)
        | decide
    by_cases h5 : sumN (s.take n) ≠ 0
    · rw [hdec, if_neg h4, if_pos h5]
      refine SC.run hm Tryd.func16 rfl [.dec false, .idx 8, .idx 4, .call [] [sV ((s.take 8).drop 4)] [] (.s (.int .u32 ((n : Nat) : Int))) 0 [], .idx 4, .call [] [sV (s.take 4)] [] (bV true) 0 [], .dec false, .dec false, .num ((n : Nat) : Int), .dec false, .idx n, .call [] [sV (s.take n)] [] (n8 (sumN (s.take n))) 0 [], .dec true] [] rfl rfl ?_ (.inl rfl) (EndOK.plain rfl no_mem rfl rfl)
      simp only [true_and, and_true, and_assoc, decide_eq_true_eq, decide_eq_false_iff_not, ne_eq, beq_iff_eq, beq_eq_false_iff_ne, bne_eq_false_iff_eq, bne_iff_ne, bne_self_eq_false, beq_self_eq_true]
      repeat' apply And.intro
      all_goals first
        | exact True.intro
        | exact call0 g1 rfl
        | exact call0 g2 rfl
        | exact call0 gs rfl
        | (rw [i64_in] <;> omega)
        | exact fun e => h5 (by omega)
        | (with_reducible show _ = true; kernel_rfl)
        | (with_reducible exact rfl)
        | omega
        | (simp only [List.length_cons, List.length_nil]; omega)
        | decide
    rw [hdec, if_neg h4, if_neg h5]
    have h5' : sumN (s.take n) = 0 := Classical.not_not.1 h5
    have q8 := (s.getD 8 0).toNat_lt
    have gt := trim_s ((s.take 16).drop 10) (by simp; omega)
    refine SC.run hm Tryd.func16 rfl [.dec false, .idx 8, .idx 4, .call [] [sV ((s.take 8).drop 4)] [] (.s (.int .u32 ((n : Nat) : Int))) 0 [], .idx 4, .call [] [sV (s.take 4)] [] (bV true) 0 [], .dec false, .dec false, .num ((n : Nat) : Int), .dec false, .idx n, .call [] [sV (s.take n)] [] (n8 (sumN (s.take n))) 0 [], .dec false, .idx 4, .idx 8, .num (((s.getD 8 0).toNat : Nat) : Int), .idx 16, .idx 10, .call [] [sV ((s.take 16).drop 10), sV [0]] [] (sV (trimR ((s.take 16).drop 10))) 0 [], .idx n, .idx 16] [] rfl rfl ?_ (.inl rfl) (EndOK.plain rfl no_mem rfl rfl)
    simp only [true_and, and_true, and_assoc, decide_eq_true_eq, decide_eq_false_iff_not, ne_eq, beq_iff_eq, beq_eq_false_iff_ne, bne_eq_false_iff_eq, bne_iff_ne, bne_self_eq_false, beq_self_eq_true]
    repeat' apply And.intro
    all_goals first
      | exact True.intro
      | exact call0 g1 rfl
      | exact call0 g2 rfl
      | exact call0 gs rfl
      | exact call0 gt rfl
      | (rw [h5']; rfl)
      | (rw [i64_in] <;> omega)
      | (with_reducible show _ = true; kernel_rfl)
      | (with_reducible exact rfl)
      | omega
      | (simp only [List.length_cons, List.length_nil]; omega)
      | decide
theorem rdec_s (s : By) (hl : s.length < 9223372036854775808) : SC Tryd.prog 32 [sV s] 0 [] (decV s) 0 [] := by
  unfold decV
  by_cases h16 : s.length < 16
  · rw [show decB s = (tb0, 0, 4) by simp [decB, h16]]
    refine SC.run hm Tryd.func32 rfl [.dec true] [] rfl rfl ?_ (.inl rfl) (EndOK.plain rfl no_mem rfl rfl)
    simp only [true_and, and_true, and_assoc, decide_eq_true_eq, decide_eq_false_iff_not, ne_eq, beq_iff_eq, beq_eq_false_iff_ne, bne_eq_false_iff_eq, bne_iff_ne, bne_self_eq_false, beq_self_eq_true]
    omega
  have g1 := rnum_s ((s.take 8).drop 4) (by simp; omega)
  rw [num_drop s (by omega)] at g1
  have g2 := rsig_s (s.take 4) (by simp; omega)
  have hn4 := num4_lt (s.drop 4)
  generalize hn : num4 (s.drop 4) = n at *
  have gs := rsum_s (s.take n) (by simp; omega)
  cases h1 : sigOK (s.take 4) with
  | false =>
    rw [h1] at g2
    rw [show decB s = (tb0, 0, 3) by simp [decB, h16, h1]]
    refine SC.run hm Tryd.func32 rfl [.dec false, .idx 8, .idx 4, .call [] [sV ((s.take 8).drop 4)] [] (.s (.int .i64 ((n : Nat) : Int))) 0 [], .idx 4, .call [] [sV (s.take 4)] [] (bV false) 0 []] [] rfl rfl ?_ (.inl rfl) (EndOK.plain rfl no_mem rfl rfl)
    simp only [true_and, and_true, and_assoc, decide_eq_true_eq, decide_eq_false_iff_not, ne_eq, beq_iff_eq, beq_eq_false_iff_ne, bne_eq_false_iff_eq, bne_iff_ne, bne_self_eq_false, beq_self_eq_true]
    repeat' apply And.intro
    all_goals first
      | exact True.intro
      | exact call0 g1 rfl
      | exact call0 g2 rfl
      | exact call0 gs rfl
      | (with_reducible show _ = true; kernel_rfl)
      | (with_reducible exact rfl)
      | omega
      | (simp only [List.length_cons, List.length_nil]; omega)
      | decide
  | true =>
    rw [h1] at g2
    by_cases h2 : n < 16
    · rw [show decB s = (tb0, 0, 3) by simp [decB, h16, h1, hn, h2]]
      refine SC.run hm Tryd.func32 rfl [.dec false, .idx 8, .idx 4, .call [] [sV ((s.take 8).drop 4)] [] (.s (.int .i64 ((n : Nat) : Int))) 0 [], .idx 4, .call [] [sV (s.take 4)] [] (bV true) 0 [], .dec true] [] rfl rfl ?_ (.inl rfl) (EndOK.plain rfl no_mem rfl rfl)
      simp only [true_and, and_true, and_assoc, decide_eq_true_eq, decide_eq_false_iff_not, ne_eq, beq_iff_eq, beq_eq_false_iff_ne, bne_eq_false_iff_eq, bne_iff_ne, bne_self_eq_false, beq_self_eq_true]
      repeat' apply And.intro
      all_goals first
        | exact True.intro
        | exact call0 g1 rfl
        | exact call0 g2 rfl
        | exact call0 gs rfl
        | (with_reducible show _ = true; kernel_rfl)
        | (with_reducible exact rfl)
        | omega
        | (simp only [List.length_cons, List.length_nil]; omega)
        | decide
    by_cases h3 : 65552 < n
    · rw [show decB s = (tb0, 0, 3) by simp [decB, h16, h1, hn, h3]]
      refine SC.run hm Tryd.func32 rfl [.dec false, .idx 8, .idx 4, .call [] [sV ((s.take 8).drop 4)] [] (.s (.int .i64 ((n : Nat) : Int))) 0 [], .idx 4, .call [] [sV (s.take 4)] [] (bV true) 0 [], .dec false, .dec true] [] rfl rfl ?_ (.inl rfl) (EndOK.plain rfl no_mem rfl rfl)
      simp only [true_and, and_true, and_assoc, decide_eq_true_eq, decide_eq_false_iff_not, ne_eq, beq_iff_eq, beq_eq_false_iff_ne, bne_eq_false_iff_eq, bne_iff_ne, bne_self_eq_false, beq_self_eq_true]
      repeat' apply And.intro
      all_goals first
        | exact True.intro
        | exact call0 g1 rfl
        | exact call0 g2 rfl
        | exact call0 gs rfl
        | (with_reducible show _ = true; kernel_rfl)
        | (with_reducible exact rfl)
        | omega
        | (simp only [List.length_cons, List.length_nil]; omega)
        | decide
    have hdec : decB s = if s.length < n then (tb0, 0, 4) else if sumN (s.take n) ≠ 0 then (tb0, 0, 5) else (⟨s.take 4, (((s.getD 8 0).toNat : Nat) : Int), trimR ((s.take 16).drop 10), (s.take n).drop 16⟩, n, 0) := by
      simp only [decB, hn, h1, if_neg h16, if_neg (show ¬ (true = false ∨ n < 16 ∨ 65552 < n) by simp; omega)]
    by_cases h4 : s.length < n
    · rw [hdec, if_pos h4]
      refine SC.run hm Tryd.func32 rfl [.dec false, .idx 8, .idx 4, .call [] [sV ((s.take 8).drop 4)] [] (.s (.int .i64 ((n : Nat) : Int))) 0 [], .idx 4, .call [] [sV (s.take 4)] [] (bV true) 0 [], .dec false, .dec false, .dec true] [] rfl rfl ?_ (.inl rfl) (EndOK.plain rfl no_mem rfl rfl)
      simp only [true_and, and_true, and_assoc, decide_eq_true_eq, decide_eq_false_iff_not, ne_eq, beq_iff_eq, beq_eq_false_iff_ne, bne_eq_false_iff_eq, bne_iff_ne, bne_self_eq_false, beq_self_eq_true]
      repeat' apply And.intro
      all_goals first
        | exact True.intro
        | exact call0 g1 rfl
        | exact call0 g2 rfl
        | exact call0 gs rfl
        | (with_reducible show _ = true; kernel_rfl)
        | (with_reducible exact rfl)
        | omega
        | (simp only [List.length_cons, List.length_nil]; omega)
        | decide
    by_cases h5 : sumN (s.take n) ≠ 0
    · rw [hdec, if_neg h4, if_pos h5]
      refine SC.run hm Tryd.func32 rfl [.dec false, .idx 8, .idx 4, .call [] [sV ((s.take 8).drop 4)] [] (.s (.int .i64 ((n : Nat) : Int))) 0 [], .idx 4, .call [] [sV (s.take 4)] [] (bV true) 0 [], .dec false, .dec false, .dec false, .idx n, .call [] [sV (s.take n)] [] (n8 (sumN (s.take n))) 0 [], .dec true] [] rfl rfl ?_ (.inl rfl) (EndOK.plain rfl no_mem rfl rfl)
      simp only [true_and, and_true, and_assoc, decide_eq_true_eq, decide_eq_false_iff_not, ne_eq, beq_iff_eq, beq_eq_false_iff_ne, bne_eq_false_iff_eq, bne_iff_ne, bne_self_eq_false, beq_self_eq_true]
      repeat' apply And.intro
      all_goals first
        | exact True.intro
        | exact call0 g1 rfl
        | exact call0 g2 rfl
        | exact call0 gs rfl
        | exact fun e => h5 (by omega)
        | (with_reducible show _ = true; kernel_rfl)
        | (with_reducible exact rfl)
        | omega
        | (simp only [List.length_cons, List.length_nil]; omega)
        | decide
    rw [hdec, if_neg h4, if_neg h5]
    have h5' : sumN (s.take n) = 0 := Classical.not_not.1 h5
    have q8 := (s.getD 8 0).toNat_lt
    have hloop := fun {env : List V} {m : Nat} a => rtrim_l s n ((s.take 16).drop 10) (by simp; omega) (env := env) (m := m) a
    refine SC.run hm Tryd.func32 rfl [.dec false, .idx 8, .idx 4, .call [] [sV ((s.take 8).drop 4)] [] (.s (.int .i64 ((n : Nat) : Int))) 0 [], .idx 4, .call [] [sV (s.take 4)] [] (bV true) 0 [], .dec false, .dec false, .dec false, .idx n, .call [] [sV (s.take n)] [] (n8 (sumN (s.take n))) 0 [], .dec false, .idx 16, .idx 10, .loop (.exit 1) (sp 69 [(0, sV s), (2, .s (.ptr (some (0, 0)))), (5, iN n), (6, sV (trimR ((s.take 16).drop 10)))]) 1 [(0, some { cells := [.str [], .int .i64 0, .str [], .str []], ty := 23 })], .idx 4, .idx 8, .num (((s.getD 8 0).toNat : Nat) : Int), .idx n, .idx 16] [] rfl rfl ?_ (.inl rfl) (EndOK.plain rfl no_mem rfl rfl)
    simp only [true_and, and_true, and_assoc, decide_eq_true_eq, decide_eq_false_iff_not, ne_eq, beq_iff_eq, beq_eq_false_iff_ne, bne_eq_false_iff_eq, bne_iff_ne, bne_self_eq_false, beq_self_eq_true]
    repeat' apply And.intro
    all_goals first
      | exact True.intro
      | exact call0 g1 rfl
      | exact call0 g2 rfl
      | exact call0 gs rfl
      | exact hloop rfl
      | (rw [h5']; rfl)
      | (rw [i64_in] <;> omega)
      | (with_reducible show _ = true; kernel_rfl)
      | (with_reducible exact rfl)
      | omega
      | (simp only [List.length_cons, List.length_nil]; omega)
      | decide

end Go.Proofs.YtmkemodgbhaglaaDoor
