/-
  DecodeSet, both sides.
-/
import Derived.Test.YtmkemodgbhaglaaDoorSk
set_option linter.unusedSimpArgs false
set_option linter.unusedVariables false
namespace Go.Proofs.YtmkemodgbhaglaaDoor
open Go Ab
set_option maxRecDepth 100000

/-- a set reads the same on both sides -/
def SetOK (s : By) : Prop := (∃ e, SC Tryd.prog 23 [sV s] 0 [] (.tup [.s (.slc none 0 (some 0)), .s (.int .i64 ((e : Nat) : Int))]) 0 [] ∧ SC Tryd.prog 33 [sV s] 0 [] (.tup [.s (.slc none 0 (some 0)), .s (.int .i64 ((e : Nat) : Int))]) 0 []) ∨ (∃ l : List Tb, l.length ≤ 16 ∧ SC Tryd.prog 23 [sV s] 0 [] (.tup [.s (.sla 0 1 l.length), .s (.int .i64 0)]) 2 [(0, some (zB l 1))] ∧ SC Tryd.prog 33 [sV s] 0 [] (.tup [.s (.sla 0 1 l.length), .s (.int .i64 0)]) 2 [(0, some (zB l 1))])
theorem dec_bd {s : By} (h : (decB s).2.2 = 0) : (decB s).1.bd.length ≤ 65536 := by
  unfold decB at *
  split at h
  · cases h
  · split at h
    · cases h
    · split at h
      · cases h
      · split at h
        · cases h
        · rename_i h1 h2 h3 h4
          rw [if_neg h1, if_neg h2, if_neg h3, if_neg h4]
          show ((s.take (num4 (s.drop 4))).drop 16).length ≤ 65536
          have : ¬ (65552 < num4 (s.drop 4)) := fun e => h2 (.inr (.inr e))
          rw [List.length_drop, List.length_take]
          omega
set_option maxHeartbeats 8000000 in
theorem set_both (s : By) (hs : s.length < 9223372036854775808) : SetOK s := by
  have g1 := dec_s s hs
  have g2 := rdec_s s hs
  unfold decV at g1 g2
  have hdl := dec_len (s := s)
  generalize hdec : decB s = r at *
  obtain ⟨T, p0, e⟩ := r
  dsimp only at g1 g2 hdl
  have t4 : Int.tmod ((T.bd.length : Nat) : Int) 4 = ((T.bd.length % 4 : Nat) : Int) := rfl
  have d4 : Int.tdiv ((T.bd.length : Nat) : Int) 4 = ((T.bd.length / 4 : Nat) : Int) := rfl
  by_cases he : e ≠ 0
  · refine .inl ⟨e, ?_, ?_⟩
    · skip
      refine SC.run hm Tryd.func23 rfl [.call [] [sV s] [] (.tup [.agg (tC T), .s (.int .i64 ((p0 : Nat) : Int)), .s (.int .i64 ((e : Nat) : Int))]) 0 [], .dec true] [] rfl rfl ?_ (.inl rfl) (EndOK.plain rfl no_mem rfl rfl)
      simp only [true_and, and_true, and_assoc, decide_eq_true_eq, decide_eq_false_iff_not, ne_eq, beq_iff_eq, beq_eq_false_iff_ne, bne_eq_false_iff_eq, bne_iff_ne, bne_self_eq_false, beq_self_eq_true]
      repeat' apply And.intro
      all_goals first
        | exact True.intro
        | exact call0 (by assumption) rfl
        | exact he
        | exact fun h => he (by omega)
        | (rw [decide_eq_true (by assumption)]; rfl)
        | (rw [decide_eq_false (by assumption)]; rfl)
        | exact decide_eq_true (by assumption)
        | exact decide_eq_false (by assumption)
        | assumption
        | (with_reducible show _ = true; kernel_rfl)
        | (with_reducible exact rfl)
        | omega
        | (simp only [List.length_cons, List.length_nil]; omega)
        | decide
    · skip
      refine SC.run hm Tryd.func33 rfl [.call [] [sV s] [] (.tup [.agg (tC T), .s (.int .i64 ((p0 : Nat) : Int)), .s (.int .i64 ((e : Nat) : Int))]) 0 [], .dec true] [] rfl rfl ?_ (.inl rfl) (EndOK.plain rfl no_mem rfl rfl)
      simp only [true_and, and_true, and_assoc, decide_eq_true_eq, decide_eq_false_iff_not, ne_eq, beq_iff_eq, beq_eq_false_iff_ne, bne_eq_false_iff_eq, bne_iff_ne, bne_self_eq_false, beq_self_eq_true]
      repeat' apply And.intro
      all_goals first
        | exact True.intro
        | exact call0 (by assumption) rfl
        | exact he
        | exact fun h => he (by omega)
        | (rw [decide_eq_true (by assumption)]; rfl)
        | (rw [decide_eq_false (by assumption)]; rfl)
        | exact decide_eq_true (by assumption)
        | exact decide_eq_false (by assumption)
        | assumption
        | (with_reducible show _ = true; kernel_rfl)
        | (with_reducible exact rfl)
        | omega
        | (simp only [List.length_cons, List.length_nil]; omega)
        | decide
  have he : e = 0 := Classical.not_not.1 he
  have hp := (hdl he).1
  have hbl : T.bd.length ≤ 65536 := by
    have := dec_bd (s := s)
    rw [hdec] at this
    exact this he
  have wq : IntKind.i64.wrap ((T.bd.length / 4 : Nat) : Int) = ((T.bd.length / 4 : Nat) : Int) := by rw [i64_in] <;> omega
  by_cases h1 : ¬ T.sg = [82, 83, 68, 84]
  · refine .inl ⟨3, ?_, ?_⟩
    · skip
      refine SC.run hm Tryd.func23 rfl [.call [] [sV s] [] (.tup [.agg (tC T), .s (.int .i64 ((p0 : Nat) : Int)), .s (.int .i64 ((e : Nat) : Int))]) 0 [], .dec false, .dec true] [] rfl rfl ?_ (.inl rfl) (EndOK.plain rfl no_mem rfl rfl)
      simp only [true_and, and_true, and_assoc, decide_eq_true_eq, decide_eq_false_iff_not, ne_eq, beq_iff_eq, beq_eq_false_iff_ne, bne_eq_false_iff_eq, bne_iff_ne, bne_self_eq_false, beq_self_eq_true]
      repeat' apply And.intro
      all_goals first
        | exact True.intro
        | exact call0 (by assumption) rfl
        | (rw [d4]; exact wq)
        | exact wq
        | exact he
        | exact fun h => he (by omega)
        | (rw [decide_eq_true (by assumption)]; rfl)
        | (rw [decide_eq_false (by assumption)]; rfl)
        | exact decide_eq_true (by assumption)
        | exact decide_eq_false (by assumption)
        | assumption
        | (with_reducible show _ = true; kernel_rfl)
        | (with_reducible exact rfl)
        | omega
        | (simp only [List.length_cons, List.length_nil]; omega)
        | decide
    · skip
      refine SC.run hm Tryd.func33 rfl [.call [] [sV s] [] (.tup [.agg (tC T), .s (.int .i64 ((p0 : Nat) : Int)), .s (.int .i64 ((e : Nat) : Int))]) 0 [], .dec false, .num ((T.bd.length / 4 : Nat) : Int), .dec true] [] rfl rfl ?_ (.inl rfl) (EndOK.plain rfl no_mem rfl rfl)
      simp only [true_and, and_true, and_assoc, decide_eq_true_eq, decide_eq_false_iff_not, ne_eq, beq_iff_eq, beq_eq_false_iff_ne, bne_eq_false_iff_eq, bne_iff_ne, bne_self_eq_false, beq_self_eq_true]
      repeat' apply And.intro
      all_goals first
        | exact True.intro
        | exact call0 (by assumption) rfl
        | (rw [d4]; exact wq)
        | exact wq
        | exact he
        | exact fun h => he (by omega)
        | (rw [decide_eq_true (by assumption)]; rfl)
        | (rw [decide_eq_false (by assumption)]; rfl)
        | exact decide_eq_true (by assumption)
        | exact decide_eq_false (by assumption)
        | assumption
        | (with_reducible show _ = true; kernel_rfl)
        | (with_reducible exact rfl)
        | omega
        | (simp only [List.length_cons, List.length_nil]; omega)
        | decide
  have h1 := Classical.not_not.1 h1
  by_cases h2 : ¬ T.rv = 1
  · refine .inl ⟨3, ?_, ?_⟩
    · skip
      refine SC.run hm Tryd.func23 rfl [.call [] [sV s] [] (.tup [.agg (tC T), .s (.int .i64 ((p0 : Nat) : Int)), .s (.int .i64 ((e : Nat) : Int))]) 0 [], .dec false, .dec false, .dec true] [] rfl rfl ?_ (.inl rfl) (EndOK.plain rfl no_mem rfl rfl)
      simp only [true_and, and_true, and_assoc, decide_eq_true_eq, decide_eq_false_iff_not, ne_eq, beq_iff_eq, beq_eq_false_iff_ne, bne_eq_false_iff_eq, bne_iff_ne, bne_self_eq_false, beq_self_eq_true]
      repeat' apply And.intro
      all_goals first
        | exact True.intro
        | exact call0 (by assumption) rfl
        | (rw [d4]; exact wq)
        | exact wq
        | exact he
        | exact fun h => he (by omega)
        | (rw [decide_eq_true (by assumption)]; rfl)
        | (rw [decide_eq_false (by assumption)]; rfl)
        | exact decide_eq_true (by assumption)
        | exact decide_eq_false (by assumption)
        | assumption
        | (with_reducible show _ = true; kernel_rfl)
        | (with_reducible exact rfl)
        | omega
        | (simp only [List.length_cons, List.length_nil]; omega)
        | decide
    · skip
      refine SC.run hm Tryd.func33 rfl [.call [] [sV s] [] (.tup [.agg (tC T), .s (.int .i64 ((p0 : Nat) : Int)), .s (.int .i64 ((e : Nat) : Int))]) 0 [], .dec false, .num ((T.bd.length / 4 : Nat) : Int), .dec false, .dec true] [] rfl rfl ?_ (.inl rfl) (EndOK.plain rfl no_mem rfl rfl)
      simp only [true_and, and_true, and_assoc, decide_eq_true_eq, decide_eq_false_iff_not, ne_eq, beq_iff_eq, beq_eq_false_iff_ne, bne_eq_false_iff_eq, bne_iff_ne, bne_self_eq_false, beq_self_eq_true]
      repeat' apply And.intro
      all_goals first
        | exact True.intro
        | exact call0 (by assumption) rfl
        | (rw [d4]; exact wq)
        | exact wq
        | exact he
        | exact fun h => he (by omega)
        | (rw [decide_eq_true (by assumption)]; rfl)
        | (rw [decide_eq_false (by assumption)]; rfl)
        | exact decide_eq_true (by assumption)
        | exact decide_eq_false (by assumption)
        | assumption
        | (with_reducible show _ = true; kernel_rfl)
        | (with_reducible exact rfl)
        | omega
        | (simp only [List.length_cons, List.length_nil]; omega)
        | decide
  have h2 := Classical.not_not.1 h2
  by_cases h3 : ¬ T.om = [80, 76, 65, 84, 70, 87]
  · refine .inl ⟨3, ?_, ?_⟩
    · skip
      refine SC.run hm Tryd.func23 rfl [.call [] [sV s] [] (.tup [.agg (tC T), .s (.int .i64 ((p0 : Nat) : Int)), .s (.int .i64 ((e : Nat) : Int))]) 0 [], .dec false, .dec false, .dec false, .dec true] [] rfl rfl ?_ (.inl rfl) (EndOK.plain rfl no_mem rfl rfl)
      simp only [true_and, and_true, and_assoc, decide_eq_true_eq, decide_eq_false_iff_not, ne_eq, beq_iff_eq, beq_eq_false_iff_ne, bne_eq_false_iff_eq, bne_iff_ne, bne_self_eq_false, beq_self_eq_true]
      repeat' apply And.intro
      all_goals first
        | exact True.intro
        | exact call0 (by assumption) rfl
        | (rw [d4]; exact wq)
        | exact wq
        | exact he
        | exact fun h => he (by omega)
        | (rw [decide_eq_true (by assumption)]; rfl)
        | (rw [decide_eq_false (by assumption)]; rfl)
        | exact decide_eq_true (by assumption)
        | exact decide_eq_false (by assumption)
        | assumption
        | (with_reducible show _ = true; kernel_rfl)
        | (with_reducible exact rfl)
        | omega
        | (simp only [List.length_cons, List.length_nil]; omega)
        | decide
    · skip
      refine SC.run hm Tryd.func33 rfl [.call [] [sV s] [] (.tup [.agg (tC T), .s (.int .i64 ((p0 : Nat) : Int)), .s (.int .i64 ((e : Nat) : Int))]) 0 [], .dec false, .num ((T.bd.length / 4 : Nat) : Int), .dec false, .dec false, .dec true] [] rfl rfl ?_ (.inl rfl) (EndOK.plain rfl no_mem rfl rfl)
      simp only [true_and, and_true, and_assoc, decide_eq_true_eq, decide_eq_false_iff_not, ne_eq, beq_iff_eq, beq_eq_false_iff_ne, bne_eq_false_iff_eq, bne_iff_ne, bne_self_eq_false, beq_self_eq_true]
      repeat' apply And.intro
      all_goals first
        | exact True.intro
        | exact call0 (by assumption) rfl
        | (rw [d4]; exact wq)
        | exact wq
        | exact he
        | exact fun h => he (by omega)
        | (rw [decide_eq_true (by assumption)]; rfl)
        | (rw [decide_eq_false (by assumption)]; rfl)
        | exact decide_eq_true (by assumption)
        | exact decide_eq_false (by assumption)
        | assumption
        | (with_reducible show _ = true; kernel_rfl)
        | (with_reducible exact rfl)
        | omega
        | (simp only [List.length_cons, List.length_nil]; omega)
        | decide
  have h3 := Classical.not_not.1 h3
  by_cases h4 : T.bd = []
  · have h40 : T.bd.length = 0 := by rw [h4]; rfl
    · refine .inl ⟨3, ?_, ?_⟩
      · skip
        refine SC.run hm Tryd.func23 rfl [.call [] [sV s] [] (.tup [.agg (tC T), .s (.int .i64 ((p0 : Nat) : Int)), .s (.int .i64 ((e : Nat) : Int))]) 0 [], .dec false, .dec false, .dec false, .dec false, .dec true] [] rfl rfl ?_ (.inl rfl) (EndOK.plain rfl no_mem rfl rfl)
        simp only [true_and, and_true, and_assoc, decide_eq_true_eq, decide_eq_false_iff_not, ne_eq, beq_iff_eq, beq_eq_false_iff_ne, bne_eq_false_iff_eq, bne_iff_ne, bne_self_eq_false, beq_self_eq_true]
        repeat' apply And.intro
        all_goals first
          | exact True.intro
          | exact call0 (by assumption) rfl
          | (rw [d4]; exact wq)
          | exact wq
          | exact he
          | exact fun h => he (by omega)
          | (rw [decide_eq_true (by assumption)]; rfl)
          | (rw [decide_eq_false (by assumption)]; rfl)
          | exact decide_eq_true (by assumption)
          | exact decide_eq_false (by assumption)
          | assumption
          | (with_reducible show _ = true; kernel_rfl)
          | (with_reducible exact rfl)
          | omega
          | (simp only [List.length_cons, List.length_nil]; omega)
          | decide
      · skip
        refine SC.run hm Tryd.func33 rfl [.call [] [sV s] [] (.tup [.agg (tC T), .s (.int .i64 ((p0 : Nat) : Int)), .s (.int .i64 ((e : Nat) : Int))]) 0 [], .dec false, .num ((T.bd.length / 4 : Nat) : Int), .dec false, .dec false, .dec false, .dec true] [] rfl rfl ?_ (.inl rfl) (EndOK.plain rfl no_mem rfl rfl)
        simp only [true_and, and_true, and_assoc, decide_eq_true_eq, decide_eq_false_iff_not, ne_eq, beq_iff_eq, beq_eq_false_iff_ne, bne_eq_false_iff_eq, bne_iff_ne, bne_self_eq_false, beq_self_eq_true]
        repeat' apply And.intro
        all_goals first
          | exact True.intro
          | exact call0 (by assumption) rfl
          | (rw [d4]; exact wq)
          | exact wq
          | exact he
          | exact fun h => he (by omega)
          | (rw [decide_eq_true (by assumption)]; rfl)
          | (rw [decide_eq_false (by assumption)]; rfl)
          | exact decide_eq_true (by assumption)
          | exact decide_eq_false (by assumption)
          | assumption
          | (with_reducible show _ = true; kernel_rfl)
          | (with_reducible exact rfl)
          | omega
          | (simp only [List.length_cons, List.length_nil]; omega)
          | decide
  have h4p := List.length_pos_iff.2 h4
  by_cases h5 : ¬ T.bd.length % 4 = 0
  · by_cases h6 : T.bd.length / 4 = 0
    · refine .inl ⟨3, ?_, ?_⟩
      · skip
        refine SC.run hm Tryd.func23 rfl [.call [] [sV s] [] (.tup [.agg (tC T), .s (.int .i64 ((p0 : Nat) : Int)), .s (.int .i64 ((e : Nat) : Int))]) 0 [], .dec false, .dec false, .dec false, .dec false, .dec false, .num ((T.bd.length % 4 : Nat) : Int), .dec true] [] rfl rfl ?_ (.inl rfl) (EndOK.plain rfl no_mem rfl rfl)
        simp only [true_and, and_true, and_assoc, decide_eq_true_eq, decide_eq_false_iff_not, ne_eq, beq_iff_eq, beq_eq_false_iff_ne, bne_eq_false_iff_eq, bne_iff_ne, bne_self_eq_false, beq_self_eq_true]
        repeat' apply And.intro
        all_goals first
          | exact True.intro
          | exact call0 (by assumption) rfl
          | (rw [d4]; exact wq)
          | exact wq
          | exact he
          | exact fun h => he (by omega)
          | (rw [decide_eq_true (by assumption)]; rfl)
          | (rw [decide_eq_false (by assumption)]; rfl)
          | exact decide_eq_true (by assumption)
          | exact decide_eq_false (by assumption)
          | assumption
          | (with_reducible show _ = true; kernel_rfl)
          | (with_reducible exact rfl)
          | omega
          | (simp only [List.length_cons, List.length_nil]; omega)
          | decide
      · skip
        refine SC.run hm Tryd.func33 rfl [.call [] [sV s] [] (.tup [.agg (tC T), .s (.int .i64 ((p0 : Nat) : Int)), .s (.int .i64 ((e : Nat) : Int))]) 0 [], .dec false, .num ((T.bd.length / 4 : Nat) : Int), .dec false, .dec false, .dec false, .dec true] [] rfl rfl ?_ (.inl rfl) (EndOK.plain rfl no_mem rfl rfl)
        simp only [true_and, and_true, and_assoc, decide_eq_true_eq, decide_eq_false_iff_not, ne_eq, beq_iff_eq, beq_eq_false_iff_ne, bne_eq_false_iff_eq, bne_iff_ne, bne_self_eq_false, beq_self_eq_true]
        repeat' apply And.intro
        all_goals first
          | exact True.intro
          | exact call0 (by assumption) rfl
          | (rw [d4]; exact wq)
          | exact wq
          | exact he
          | exact fun h => he (by omega)
          | (rw [decide_eq_true (by assumption)]; rfl)
          | (rw [decide_eq_false (by assumption)]; rfl)
          | exact decide_eq_true (by assumption)
          | exact decide_eq_false (by assumption)
          | assumption
          | (with_reducible show _ = true; kernel_rfl)
          | (with_reducible exact rfl)
          | omega
          | (simp only [List.length_cons, List.length_nil]; omega)
          | decide
    · refine .inl ⟨3, ?_, ?_⟩
      · skip
        refine SC.run hm Tryd.func23 rfl [.call [] [sV s] [] (.tup [.agg (tC T), .s (.int .i64 ((p0 : Nat) : Int)), .s (.int .i64 ((e : Nat) : Int))]) 0 [], .dec false, .dec false, .dec false, .dec false, .dec false, .num ((T.bd.length % 4 : Nat) : Int), .dec true] [] rfl rfl ?_ (.inl rfl) (EndOK.plain rfl no_mem rfl rfl)
        simp only [true_and, and_true, and_assoc, decide_eq_true_eq, decide_eq_false_iff_not, ne_eq, beq_iff_eq, beq_eq_false_iff_ne, bne_eq_false_iff_eq, bne_iff_ne, bne_self_eq_false, beq_self_eq_true]
        repeat' apply And.intro
        all_goals first
          | exact True.intro
          | exact call0 (by assumption) rfl
          | (rw [d4]; exact wq)
          | exact wq
          | exact he
          | exact fun h => he (by omega)
          | (rw [decide_eq_true (by assumption)]; rfl)
          | (rw [decide_eq_false (by assumption)]; rfl)
          | exact decide_eq_true (by assumption)
          | exact decide_eq_false (by assumption)
          | assumption
          | (with_reducible show _ = true; kernel_rfl)
          | (with_reducible exact rfl)
          | omega
          | (simp only [List.length_cons, List.length_nil]; omega)
          | decide
      · skip
        refine SC.run hm Tryd.func33 rfl [.call [] [sV s] [] (.tup [.agg (tC T), .s (.int .i64 ((p0 : Nat) : Int)), .s (.int .i64 ((e : Nat) : Int))]) 0 [], .dec false, .num ((T.bd.length / 4 : Nat) : Int), .dec false, .dec false, .dec false, .dec false, .num ((T.bd.length % 4 : Nat) : Int), .dec true] [] rfl rfl ?_ (.inl rfl) (EndOK.plain rfl no_mem rfl rfl)
        simp only [true_and, and_true, and_assoc, decide_eq_true_eq, decide_eq_false_iff_not, ne_eq, beq_iff_eq, beq_eq_false_iff_ne, bne_eq_false_iff_eq, bne_iff_ne, bne_self_eq_false, beq_self_eq_true]
        repeat' apply And.intro
        all_goals first
          | exact True.intro
          | exact call0 (by assumption) rfl
          | (rw [d4]; exact wq)
          | exact wq
          | exact he
          | exact fun h => he (by omega)
          | (rw [decide_eq_true (by assumption)]; rfl)
          | (rw [decide_eq_false (by assumption)]; rfl)
          | exact decide_eq_true (by assumption)
          | exact decide_eq_false (by assumption)
          | assumption
          | (with_reducible show _ = true; kernel_rfl)
          | (with_reducible exact rfl)
          | omega
          | (simp only [List.length_cons, List.length_nil]; omega)
          | decide
  have h5 := Classical.not_not.1 h5
  by_cases h7 : ¬ T.bd.length / 4 ≤ 16
  · refine .inl ⟨3, ?_, ?_⟩
    · skip
      refine SC.run hm Tryd.func23 rfl [.call [] [sV s] [] (.tup [.agg (tC T), .s (.int .i64 ((p0 : Nat) : Int)), .s (.int .i64 ((e : Nat) : Int))]) 0 [], .dec false, .dec false, .dec false, .dec false, .dec false, .num ((T.bd.length % 4 : Nat) : Int), .dec false, .num ((T.bd.length / 4 : Nat) : Int), .dec true] [] rfl rfl ?_ (.inl rfl) (EndOK.plain rfl no_mem rfl rfl)
      simp only [true_and, and_true, and_assoc, decide_eq_true_eq, decide_eq_false_iff_not, ne_eq, beq_iff_eq, beq_eq_false_iff_ne, bne_eq_false_iff_eq, bne_iff_ne, bne_self_eq_false, beq_self_eq_true]
      repeat' apply And.intro
      all_goals first
        | exact True.intro
        | exact call0 (by assumption) rfl
        | (rw [d4]; exact wq)
        | exact wq
        | exact he
        | exact fun h => he (by omega)
        | (rw [decide_eq_true (by assumption)]; rfl)
        | (rw [decide_eq_false (by assumption)]; rfl)
        | exact decide_eq_true (by assumption)
        | exact decide_eq_false (by assumption)
        | assumption
        | (with_reducible show _ = true; kernel_rfl)
        | (with_reducible exact rfl)
        | omega
        | (simp only [List.length_cons, List.length_nil]; omega)
        | decide
    · skip
      refine SC.run hm Tryd.func33 rfl [.call [] [sV s] [] (.tup [.agg (tC T), .s (.int .i64 ((p0 : Nat) : Int)), .s (.int .i64 ((e : Nat) : Int))]) 0 [], .dec false, .num ((T.bd.length / 4 : Nat) : Int), .dec false, .dec false, .dec false, .dec false, .num ((T.bd.length % 4 : Nat) : Int), .dec false, .dec true] [] rfl rfl ?_ (.inl rfl) (EndOK.plain rfl no_mem rfl rfl)
      simp only [true_and, and_true, and_assoc, decide_eq_true_eq, decide_eq_false_iff_not, ne_eq, beq_iff_eq, beq_eq_false_iff_ne, bne_eq_false_iff_eq, bne_iff_ne, bne_self_eq_false, beq_self_eq_true]
      repeat' apply And.intro
      all_goals first
        | exact True.intro
        | exact call0 (by assumption) rfl
        | (rw [d4]; exact wq)
        | exact wq
        | exact he
        | exact fun h => he (by omega)
        | (rw [decide_eq_true (by assumption)]; rfl)
        | (rw [decide_eq_false (by assumption)]; rfl)
        | exact decide_eq_true (by assumption)
        | exact decide_eq_false (by assumption)
        | assumption
        | (with_reducible show _ = true; kernel_rfl)
        | (with_reducible exact rfl)
        | omega
        | (simp only [List.length_cons, List.length_nil]; omega)
        | decide
  have h7 := Classical.not_not.1 h7
  have hd : T.bd.length = 4 * (T.bd.length / 4) := by omega
  have h1n : 1 ≤ (T.bd.length / 4) := by omega
  have e2 : Tryd.prog.types[23].bytes = 56 := by kernel_rfl
  rcases first_bad (errJ s T.bd p0) (T.bd.length / 4) with hall | ⟨k, k1, k2, k3⟩
  · by_cases hend : (got s T.bd p0 (T.bd.length / 4)).2 = s.length
    · refine .inr ⟨(got s T.bd p0 (T.bd.length / 4)).1, by rw [(got_inv hp _ hall).1]; exact h7, ?_, ?_⟩
      · skip
        refine SC.run hm Tryd.func23 rfl [.call [] [sV s] [] (.tup [.agg (tC T), .s (.int .i64 ((p0 : Nat) : Int)), .s (.int .i64 ((e : Nat) : Int))]) 0 [], .dec false, .dec false, .dec false, .dec false, .dec false, .num ((T.bd.length % 4 : Nat) : Int), .dec false, .num ((T.bd.length / 4 : Nat) : Int), .dec false, .num ((T.bd.length / 4 : Nat) : Int), .idx 0, .idx (T.bd.length / 4), .loop (.exit 0) (sp 90 [(0, sV s), (5, iN (got s T.bd p0 (T.bd.length / 4)).2), (7, sV []), (8, (.s (.sla 1 2 (got s T.bd p0 (T.bd.length / 4)).1.length)))]) 3 [(1, some (zB (got s T.bd p0 (T.bd.length / 4)).1 2))], .dec false] [1, 2] rfl rfl ?_ (.inl rfl) (EndOK.by rfl ⟨rfl, trivial⟩ rfl rfl rfl rfl)
        simp only [true_and, and_true, and_assoc, decide_eq_true_eq, decide_eq_false_iff_not, ne_eq, beq_iff_eq, beq_eq_false_iff_ne, bne_eq_false_iff_eq, bne_iff_ne, bne_self_eq_false, beq_self_eq_true]
        repeat' apply And.intro
        all_goals first
          | exact True.intro
          | exact call0 (by assumption) rfl
          | (rw [d4]; exact wq)
          | exact wq
          | exact l23 s T.bd p0 (T.bd.length / 4) hs hp h7 h1n hd hall rfl ⟨rfl, trivial⟩
          | (rw [e2]; omega)
          | exact he
          | exact fun h => he (by omega)
          | (rw [decide_eq_true (by assumption)]; rfl)
          | (rw [decide_eq_false (by assumption)]; rfl)
          | exact decide_eq_true (by assumption)
          | exact decide_eq_false (by assumption)
          | assumption
          | (with_reducible show _ = true; kernel_rfl)
          | (with_reducible exact rfl)
          | omega
          | (simp only [List.length_cons, List.length_nil]; omega)
          | decide
      · skip
        refine SC.run hm Tryd.func33 rfl [.call [] [sV s] [] (.tup [.agg (tC T), .s (.int .i64 ((p0 : Nat) : Int)), .s (.int .i64 ((e : Nat) : Int))]) 0 [], .dec false, .num ((T.bd.length / 4 : Nat) : Int), .dec false, .dec false, .dec false, .dec false, .num ((T.bd.length % 4 : Nat) : Int), .dec false, .dec false, .loop (.exit 0) (sp 96 [(0, sV s), (4, .s (.ptr (some (0, 0)))), (5, iN (got s T.bd p0 (T.bd.length / 4)).2), (7, iN (T.bd.length / 4)), (8, .s (.sla 1 2 (got s T.bd p0 (T.bd.length / 4)).1.length)), (9, iN (T.bd.length / 4))]) 3 [(0, some (bxT2 T)), (1, some (zB (got s T.bd p0 (T.bd.length / 4)).1 2))], .dec false] [1, 2] rfl rfl ?_ (.inl rfl) (EndOK.by rfl ⟨rfl, trivial⟩ rfl rfl rfl rfl)
        simp only [true_and, and_true, and_assoc, decide_eq_true_eq, decide_eq_false_iff_not, ne_eq, beq_iff_eq, beq_eq_false_iff_ne, bne_eq_false_iff_eq, bne_iff_ne, bne_self_eq_false, beq_self_eq_true]
        repeat' apply And.intro
        all_goals first
          | exact True.intro
          | exact call0 (by assumption) rfl
          | (rw [d4]; exact wq)
          | exact wq
          | exact l33 s T p0 (T.bd.length / 4) hs hp h7 h1n hd hall rfl ⟨rfl, trivial⟩
          | (rw [e2]; omega)
          | exact he
          | exact fun h => he (by omega)
          | (rw [decide_eq_true (by assumption)]; rfl)
          | (rw [decide_eq_false (by assumption)]; rfl)
          | exact decide_eq_true (by assumption)
          | exact decide_eq_false (by assumption)
          | assumption
          | (with_reducible show _ = true; kernel_rfl)
          | (with_reducible exact rfl)
          | omega
          | (simp only [List.length_cons, List.length_nil]; omega)
          | decide
    · refine .inl ⟨3, ?_, ?_⟩
      · skip
        refine SC.run hm Tryd.func23 rfl [.call [] [sV s] [] (.tup [.agg (tC T), .s (.int .i64 ((p0 : Nat) : Int)), .s (.int .i64 ((e : Nat) : Int))]) 0 [], .dec false, .dec false, .dec false, .dec false, .dec false, .num ((T.bd.length % 4 : Nat) : Int), .dec false, .num ((T.bd.length / 4 : Nat) : Int), .dec false, .num ((T.bd.length / 4 : Nat) : Int), .idx 0, .idx (T.bd.length / 4), .loop (.exit 0) (sp 90 [(0, sV s), (5, iN (got s T.bd p0 (T.bd.length / 4)).2), (7, sV []), (8, (.s (.sla 1 2 (got s T.bd p0 (T.bd.length / 4)).1.length)))]) 3 [(1, some (zB (got s T.bd p0 (T.bd.length / 4)).1 2))], .dec true] [] rfl rfl ?_ (.inl rfl) (EndOK.plain rfl no_mem rfl rfl)
        simp only [true_and, and_true, and_assoc, decide_eq_true_eq, decide_eq_false_iff_not, ne_eq, beq_iff_eq, beq_eq_false_iff_ne, bne_eq_false_iff_eq, bne_iff_ne, bne_self_eq_false, beq_self_eq_true]
        repeat' apply And.intro
        all_goals first
          | exact True.intro
          | exact call0 (by assumption) rfl
          | (rw [d4]; exact wq)
          | exact wq
          | exact l23 s T.bd p0 (T.bd.length / 4) hs hp h7 h1n hd hall rfl ⟨rfl, trivial⟩
          | (rw [e2]; omega)
          | exact he
          | exact fun h => he (by omega)
          | (rw [decide_eq_true (by assumption)]; rfl)
          | (rw [decide_eq_false (by assumption)]; rfl)
          | exact decide_eq_true (by assumption)
          | exact decide_eq_false (by assumption)
          | assumption
          | (with_reducible show _ = true; kernel_rfl)
          | (with_reducible exact rfl)
          | omega
          | (simp only [List.length_cons, List.length_nil]; omega)
          | decide
      · skip
        refine SC.run hm Tryd.func33 rfl [.call [] [sV s] [] (.tup [.agg (tC T), .s (.int .i64 ((p0 : Nat) : Int)), .s (.int .i64 ((e : Nat) : Int))]) 0 [], .dec false, .num ((T.bd.length / 4 : Nat) : Int), .dec false, .dec false, .dec false, .dec false, .num ((T.bd.length % 4 : Nat) : Int), .dec false, .dec false, .loop (.exit 0) (sp 96 [(0, sV s), (4, .s (.ptr (some (0, 0)))), (5, iN (got s T.bd p0 (T.bd.length / 4)).2), (7, iN (T.bd.length / 4)), (8, .s (.sla 1 2 (got s T.bd p0 (T.bd.length / 4)).1.length)), (9, iN (T.bd.length / 4))]) 3 [(0, some (bxT2 T)), (1, some (zB (got s T.bd p0 (T.bd.length / 4)).1 2))], .dec true] [] rfl rfl ?_ (.inl rfl) (EndOK.plain rfl no_mem rfl rfl)
        simp only [true_and, and_true, and_assoc, decide_eq_true_eq, decide_eq_false_iff_not, ne_eq, beq_iff_eq, beq_eq_false_iff_ne, bne_eq_false_iff_eq, bne_iff_ne, bne_self_eq_false, beq_self_eq_true]
        repeat' apply And.intro
        all_goals first
          | exact True.intro
          | exact call0 (by assumption) rfl
          | (rw [d4]; exact wq)
          | exact wq
          | exact l33 s T p0 (T.bd.length / 4) hs hp h7 h1n hd hall rfl ⟨rfl, trivial⟩
          | (rw [e2]; omega)
          | exact he
          | exact fun h => he (by omega)
          | (rw [decide_eq_true (by assumption)]; rfl)
          | (rw [decide_eq_false (by assumption)]; rfl)
          | exact decide_eq_true (by assumption)
          | exact decide_eq_false (by assumption)
          | assumption
          | (with_reducible show _ = true; kernel_rfl)
          | (with_reducible exact rfl)
          | omega
          | (simp only [List.length_cons, List.length_nil]; omega)
          | decide
  · refine .inl ⟨errJ s T.bd p0 k, ?_, ?_⟩
    · skip
      refine SC.run hm Tryd.func23 rfl [.call [] [sV s] [] (.tup [.agg (tC T), .s (.int .i64 ((p0 : Nat) : Int)), .s (.int .i64 ((e : Nat) : Int))]) 0 [], .dec false, .dec false, .dec false, .dec false, .dec false, .num ((T.bd.length % 4 : Nat) : Int), .dec false, .num ((T.bd.length / 4 : Nat) : Int), .dec false, .num ((T.bd.length / 4 : Nat) : Int), .idx 0, .idx (T.bd.length / 4), .loop .ret (sp 90 [(2, .s (.slc none 0 (some 0))), (3, .s (.int .i64 ((errJ s T.bd p0 k : Nat) : Int)))]) 0 []] [] rfl rfl ?_ (.inl rfl) (EndOK.plain rfl no_mem rfl rfl)
      simp only [true_and, and_true, and_assoc, decide_eq_true_eq, decide_eq_false_iff_not, ne_eq, beq_iff_eq, beq_eq_false_iff_ne, bne_eq_false_iff_eq, bne_iff_ne, bne_self_eq_false, beq_self_eq_true]
      repeat' apply And.intro
      all_goals first
        | exact True.intro
        | exact call0 (by assumption) rfl
        | (rw [d4]; exact wq)
        | exact wq
        | exact b23 s T.bd p0 (T.bd.length / 4) hs hp h7 hd k k1 k2 k3 rfl ⟨rfl, trivial⟩
        | (rw [e2]; omega)
        | exact he
        | exact fun h => he (by omega)
        | (rw [decide_eq_true (by assumption)]; rfl)
        | (rw [decide_eq_false (by assumption)]; rfl)
        | exact decide_eq_true (by assumption)
        | exact decide_eq_false (by assumption)
        | assumption
        | (with_reducible show _ = true; kernel_rfl)
        | (with_reducible exact rfl)
        | omega
        | (simp only [List.length_cons, List.length_nil]; omega)
        | decide
    · skip
      refine SC.run hm Tryd.func33 rfl [.call [] [sV s] [] (.tup [.agg (tC T), .s (.int .i64 ((p0 : Nat) : Int)), .s (.int .i64 ((e : Nat) : Int))]) 0 [], .dec false, .num ((T.bd.length / 4 : Nat) : Int), .dec false, .dec false, .dec false, .dec false, .num ((T.bd.length % 4 : Nat) : Int), .dec false, .dec false, .loop .ret (sp 96 [(2, .s (.slc none 0 (some 0))), (3, .s (.int .i64 ((errJ s T.bd p0 k : Nat) : Int)))]) 0 []] [] rfl rfl ?_ (.inl rfl) (EndOK.plain rfl no_mem rfl rfl)
      simp only [true_and, and_true, and_assoc, decide_eq_true_eq, decide_eq_false_iff_not, ne_eq, beq_iff_eq, beq_eq_false_iff_ne, bne_eq_false_iff_eq, bne_iff_ne, bne_self_eq_false, beq_self_eq_true]
      repeat' apply And.intro
      all_goals first
        | exact True.intro
        | exact call0 (by assumption) rfl
        | (rw [d4]; exact wq)
        | exact wq
        | exact b33 s T p0 (T.bd.length / 4) hs hp h7 hd k k1 k2 k3 rfl ⟨rfl, trivial⟩
        | (rw [e2]; omega)
        | exact he
        | exact fun h => he (by omega)
        | (rw [decide_eq_true (by assumption)]; rfl)
        | (rw [decide_eq_false (by assumption)]; rfl)
        | exact decide_eq_true (by assumption)
        | exact decide_eq_false (by assumption)
        | assumption
        | (with_reducible show _ = true; kernel_rfl)
        | (with_reducible exact rfl)
        | omega
        | (simp only [List.length_cons, List.length_nil]; omega)
        | decide

end Go.Proofs.YtmkemodgbhaglaaDoor
