/-
  Equal, decodes; SdtDecodes: it returns true.
-/
import Derived.Test.YtmkemodgbhaglaaDoorSl
set_option linter.unusedSimpArgs false
set_option linter.unusedVariables false
namespace Go.Proofs.YtmkemodgbhaglaaDoor
open Go Ab
set_option maxRecDepth 100000

theorem cT_at : ∀ (l : List Tb) (j : Nat), j < l.length → ((cellsT l).drop (j * 4)).take 4 = tC (l.getD j tb0)
  | t :: r, 0, _ => by
    simp only [cellsT, Nat.zero_mul, List.drop_zero]
    rw [List.take_append_of_le_length (by simp [tC])]; rfl
  | t :: r, j + 1, h => by
    simp only [cellsT]
    rw [show (j + 1) * 4 = (tC t).length + j * 4 by simp only [tC, List.length_cons, List.length_nil]; omega, List.drop_append, List.drop_eq_nil_of_le (by omega), List.nil_append, Nat.add_sub_cancel_left, cT_at r j (by simpa using h)]
    rfl
theorem z_ld (l : List Tb) (g : Nat) {j : Nat} (h : j < l.length) : ldAt true 4 (zB l g) (plus 0 (times j 4)) = some (.agg (tC (l.getD j tb0))) := by
  rw [plus_eq, times_eq, Nat.zero_add]
  simp only [ldAt, zB]
  rw [cellsT_len]
  have : Nat.ble (j * 4 + 4) (l.length * 4) = true := by rw [Nat.ble_eq]; omega
  rw [this]
  simp only [cT_at l j h]
theorem eq_nil : SC Tryd.prog 24 [.s (.slc none 0 (some 0)), .s (.slc none 0 (some 0))] 0 [] (bV true) 0 [] := by
  have hL : Lst Tryd.prog 0 ((Tryd.f24.body.bind fstLoop).getD .skip) [] [0, 1, 5] (sp 26 [(0, .s (.slc none 0 (some 0))), (1, .s (.slc none 0 (some 0))), (5, iN 0)]) 0 [] (.exit 0) (sp 26 [(0, .s (.slc none 0 (some 0))), (1, .s (.slc none 0 (some 0))), (5, iN 0)]) [] := by
    refine ⟨[.dec false], _, _, _, _, _, rfl, ?_, rfl, trivial⟩
    simp only [true_and, and_true, decide_eq_false_iff_not]
    first | omega | decide
  refine SC.run hm Tryd.func24 rfl [.dec false, .loop (.exit 0) (sp 26 [(0, .s (.slc none 0 (some 0))), (1, .s (.slc none 0 (some 0))), (5, iN 0)]) 0 []] [] rfl rfl ?_ (.inl rfl) (EndOK.plain rfl no_mem rfl rfl)
  simp only [true_and, and_true, bne_self_eq_false, bne_eq_false_iff_eq]
  exact Ex.movesT hm [0, 1, 5] 0 (fun _ => sp 26 [(0, .s (.slc none 0 (some 0))), (1, .s (.slc none 0 (some 0))), (5, iN 0)]) (fun _ => []) [] (fun _ => []) rfl (fun _ => rfl) rfl trivial rfl (fun _ => rfl) (fun j hj => absurd hj (Nat.not_lt_zero _)) [0, 1, 5] [] rfl (fun e => by cases e) rfl hL
theorem eq_r (l : List Tb) (hl : l.length < 9223372036854775808) (j : Nat) (hj : j < l.length) : Rnd Tryd.prog 4 ((Tryd.f24.body.bind fstLoop).getD .skip) [0, 1, 2, 3] [0, 1, 5] (sp 26 [(0, .s (.sla 0 1 l.length)), (1, .s (.sla 2 3 l.length)), (5, iN j)]) 4 [(0, some (zB l 1)), (2, some (zB l 3))] (sp 26 [(0, .s (.sla 0 1 l.length)), (1, .s (.sla 2 3 l.length)), (5, iN (j + 1))]) [(0, some (zB l 1)), (2, some (zB l 3))] := by
  have a1 := z_ld l 1 hj
  have a2 := z_ld l 3 hj
  refine ⟨[.dec true, .idx j, .val (.agg (tC (l.getD j tb0))), .idx j, .val (.agg (tC (l.getD j tb0))), .dec false, .num ((j + 1 : Nat) : Int)], _, _, _, _, _, rfl, ?_, rfl, ⟨rfl, rfl, trivial⟩⟩
  simp only [true_and, and_true, and_assoc, decide_eq_true_eq, decide_eq_false_iff_not, ne_eq, beq_iff_eq, beq_eq_false_iff_ne, bne_eq_false_iff_eq, bne_iff_ne, bne_self_eq_false, beq_self_eq_true]
  repeat' apply And.intro
  all_goals first
    | exact True.intro
    | exact st23
    | exact eq23
    | exact a1
    | exact a2
    | exact j_lt hj
    | exact j_add hj hl
    | (with_reducible show _ = true; kernel_rfl)
    | (with_reducible exact rfl)
    | omega
    | (simp; done)
    | rfl
theorem eq_l (l : List Tb) : Lst Tryd.prog 4 ((Tryd.f24.body.bind fstLoop).getD .skip) [0, 1, 2, 3] [0, 1, 5] (sp 26 [(0, .s (.sla 0 1 l.length)), (1, .s (.sla 2 3 l.length)), (5, iN l.length)]) 4 [(0, some (zB l 1)), (2, some (zB l 3))] (.exit 0) (sp 26 [(0, .s (.sla 0 1 l.length)), (1, .s (.sla 2 3 l.length)), (5, iN l.length)]) [(0, some (zB l 1)), (2, some (zB l 3))] := by
  refine ⟨[.dec false], _, _, _, _, _, rfl, ?_, rfl, ⟨rfl, rfl, trivial⟩⟩
  simp only [true_and, and_true, decide_eq_false_iff_not]; omega
theorem eq_s (l : List Tb) (hl : l.length < 9223372036854775808) : SC Tryd.prog 24 [.s (.sla 0 1 l.length), .s (.sla 2 3 l.length)] 4 [(0, some (zB l 1)), (2, some (zB l 3))] (bV true) 4 [(0, some (zB l 1)), (2, some (zB l 3))] := by
  refine SC.run hm Tryd.func24 rfl [.dec false, .loop (.exit 0) (sp 26 [(0, .s (.sla 0 1 l.length)), (1, .s (.sla 2 3 l.length)), (5, iN l.length)]) 4 [(0, some (zB l 1)), (2, some (zB l 3))]] [] rfl rfl ?_ (.inl rfl) (EndOK.by rfl ⟨rfl, rfl, trivial⟩ rfl rfl rfl rfl)
  simp only [true_and, and_true, bne_self_eq_false, bne_eq_false_iff_eq]
  exact Ex.movesT hm [0, 1, 5] l.length (fun j => (sp 26 [(0, .s (.sla 0 1 l.length)), (1, .s (.sla 2 3 l.length)), (5, iN j)])) (fun _ => [(0, some (zB l 1)), (2, some (zB l 3))]) [0, 1, 2, 3] (fun _ => [0, 1, 2, 3]) rfl (fun _ => rfl) rfl ⟨rfl, rfl, trivial⟩ rfl (fun _ => rfl) (fun j hj => eq_r l hl j hj) [0, 1, 5] [0, 1, 2, 3] rfl (fun e => by cases e) rfl (eq_l l)
theorem decodes_s (s : By) (hs : s.length < 9223372036854775808) : SC Tryd.prog 19 [sV s] 0 [] (bV true) 0 [] := by
  have g1 := dec_s s hs
  have g2 := rdec_s s hs
  unfold decV at g1 g2
  generalize decB s = r at *
  obtain ⟨T, p0, e⟩ := r
  dsimp only at g1 g2
  rcases set_both s hs with ⟨x, c1, c2⟩ | ⟨l, hl, c1, c2⟩
  · refine SC.run hm Tryd.func19 rfl [.call [] [sV s] [] (.tup [.agg (tC T), .s (.int .i64 ((p0 : Nat) : Int)), .s (.int .i64 ((e : Nat) : Int))]) 0 [], .call [] [sV s] [] (.tup [.agg (tC T), .s (.int .i64 ((p0 : Nat) : Int)), .s (.int .i64 ((e : Nat) : Int))]) 0 [], .call [] [sV s] [] (.tup [.s (.slc none 0 (some 0)), .s (.int .i64 ((x : Nat) : Int))]) 0 [], .call [] [sV s] [] (.tup [.s (.slc none 0 (some 0)), .s (.int .i64 ((x : Nat) : Int))]) 0 [], .dec true, .dec true, .dec true, .call [] [.s (.slc none 0 (some 0)), .s (.slc none 0 (some 0))] [] (bV true) 0 [], .dec true] [] rfl rfl ?_ (.inl rfl) (EndOK.plain rfl no_mem rfl rfl)
    simp only [true_and, and_true, and_assoc, decide_eq_true_eq, decide_eq_false_iff_not, ne_eq, beq_iff_eq, beq_eq_false_iff_ne, bne_eq_false_iff_eq, bne_iff_ne, bne_self_eq_false, beq_self_eq_true]
    repeat' apply And.intro
    all_goals first
      | exact True.intro
      | exact call0 g1 rfl
      | exact call0 g2 rfl
      | exact call0 c1 rfl
      | exact call0 c2 rfl
      | exact call0 eq_nil rfl
      | exact st23
      | exact eq23
      | (with_reducible show _ = true; kernel_rfl)
      | (with_reducible exact rfl)
      | (simp; done)
      | rfl
  · have ge := eq_s l (by omega)
    refine SC.run hm Tryd.func19 rfl [.call [] [sV s] [] (.tup [.agg (tC T), .s (.int .i64 ((p0 : Nat) : Int)), .s (.int .i64 ((e : Nat) : Int))]) 0 [], .call [] [sV s] [] (.tup [.agg (tC T), .s (.int .i64 ((p0 : Nat) : Int)), .s (.int .i64 ((e : Nat) : Int))]) 0 [], .call [] [sV s] [] (.tup [.s (.sla 0 1 l.length), .s (.int .i64 0)]) 2 [(0, some (zB l 1))], .call [] [sV s] [] (.tup [.s (.sla 0 1 l.length), .s (.int .i64 0)]) 2 [(0, some (zB l 1))], .dec true, .dec true, .dec true, .call [2, 3, 4, 5] [.s (.sla 0 1 l.length), .s (.sla 2 3 l.length)] [(0, some (zB l 1)), (2, some (zB l 3))] (bV true) 4 [(0, some (zB l 1)), (2, some (zB l 3))], .dec true] [] rfl rfl ?_ (.inl rfl) (EndOK.plain rfl no_mem rfl rfl)
    simp only [true_and, and_true, and_assoc, decide_eq_true_eq, decide_eq_false_iff_not, ne_eq, beq_iff_eq, beq_eq_false_iff_ne, bne_eq_false_iff_eq, bne_iff_ne, bne_self_eq_false, beq_self_eq_true]
    repeat' apply And.intro
    all_goals first
      | exact True.intro
      | exact call0 g1 rfl
      | exact call0 g2 rfl
      | exact call0 c1 rfl
      | exact call0 c2 rfl
      | exact ⟨ge, rfl, Fits.of rfl rfl ⟨⟨rfl, _, rfl, rfl, fun h => h⟩, ⟨rfl, _, rfl, rfl, fun h => h⟩, trivial⟩⟩
      | exact st23
      | exact eq23
      | (with_reducible show _ = true; kernel_rfl)
      | (with_reducible exact rfl)
      | (simp; done)
      | rfl

theorem sdecodes_s (s : By) (hs : s.length < 2305843009213693952) (t : Tb) (h : t.fit) (z : Int) (c : UInt8) : SC Tryd.prog 6 [sV s, tV t, .s (.int .i64 z), n8 c.toNat] 0 [] (bV true) 0 [] := by
  have g1 := table_s t h
  have hf := tab_fit h
  generalize tabM t = x at *
  have g2 := renc_s x hf
  have q1 := decodes_s s (by omega)
  cases hv : validB x with
  | false =>
    rw [show encV x = .tup [.s (.str []), .s (.int .i64 1)] by simp only [encV, hv]] at g2
    refine SC.run hm Tryd.func6 rfl [.call [] [tV t] [] (tV x) 0 [], .call [] [tV x] [] (.tup [.s (.str []), .s (.int .i64 1)]) 0 [], .dec true, .call [] [] [] (bV true) 0 [], .call [] [sV (s)] [] (bV true) 0 []] [] rfl rfl ?_ (.inl rfl) (EndOK.plain rfl no_mem rfl rfl)
    simp only [true_and, and_true, and_assoc, decide_eq_true_eq, decide_eq_false_iff_not, ne_eq, beq_iff_eq, beq_eq_false_iff_ne, bne_eq_false_iff_eq, bne_iff_ne, bne_self_eq_false, beq_self_eq_true]
    repeat' apply And.intro
    all_goals first
      | exact True.intro
      | exact call0 awake_s rfl
      | exact call0 g1 rfl
      | exact call0 g2 rfl
      | exact call0 g3 rfl
      | exact call0 q1 rfl
      | exact call0 q2 rfl
      | exact call0 q3 rfl
      | exact call0 q4 rfl
      | exact decide_eq_false hne
      | exact decide_eq_true rfl
      | exact hne
      | exact (one_cell c).symm
      | (rw [i64_in] <;> omega)
      | (with_reducible show _ = true; kernel_rfl)
      | (with_reducible exact rfl)
      | omega
      | (simp only [List.length_cons, List.length_nil]; omega)
      | decide
  | true =>
    rw [show encV x = .tup [.s (.str (encB x)), .s (.int .i64 0)] by simp only [encV, hv]] at g2
    obtain ⟨v1, v2, v3, v4, v5, v6⟩ := valid_parts hv
    have hl := enc_len hv
    have hne : encB x ≠ [] := fun e => by rw [e] at hl; simp at hl; omega
    have g3 := mod_s z (encB x).length (by omega) (by omega)
    have hk : modM z (encB x).length < (encB x).length := Nat.mod_lt _ (by omega)
    generalize hkk : modM z (encB x).length = k at *
    generalize encB x = u at *
    have q2 := decodes_s (u.take k) (by simp; omega)
    have q3 := decodes_s (u ++ s) (by simp; omega)
    have q4 := decodes_s (u.take k ++ [c] ++ u.drop (k + 1)) (by simp; omega)
    refine SC.run hm Tryd.func6 rfl [.call [] [tV t] [] (tV x) 0 [], .call [] [tV x] [] (.tup [.s (.str u), .s (.int .i64 0)]) 0 [], .dec false, .call [] [.s (.int .i64 z), iN u.length] [] (iN k) 0 [], .call [] [] [] (bV true) 0 [], .call [] [sV (s)] [] (bV true) 0 [], .idx k, .call [] [sV (u.take k)] [] (bV true) 0 [], .call [] [sV (u ++ s)] [] (bV true) 0 [], .idx k, .val (sV [c]), .num ((k + 1 : Nat) : Int), .idx (k + 1), .call [] [sV (u.take k ++ [c] ++ u.drop (k + 1))] [] (bV true) 0 []] [] rfl rfl ?_ (.inl rfl) (EndOK.plain rfl no_mem rfl rfl)
    simp only [List.length_append, List.length_take, List.length_drop, List.length_cons, List.length_nil]
    simp only [true_and, and_true, and_assoc, decide_eq_true_eq, decide_eq_false_iff_not, ne_eq, beq_iff_eq, beq_eq_false_iff_ne, bne_eq_false_iff_eq, bne_iff_ne, bne_self_eq_false, beq_self_eq_true]
    repeat' apply And.intro
    all_goals first
      | exact True.intro
      | exact call0 awake_s rfl
      | exact call0 g1 rfl
      | exact call0 g2 rfl
      | exact call0 g3 rfl
      | exact call0 q1 rfl
      | exact call0 q2 rfl
      | exact call0 q3 rfl
      | exact call0 q4 rfl
      | exact decide_eq_false hne
      | exact decide_eq_true rfl
      | exact hne
      | exact (one_cell c).symm
      | (rw [i64_in] <;> omega)
      | (with_reducible show _ = true; kernel_rfl)
      | (with_reducible exact rfl)
      | omega
      | (simp only [List.length_cons, List.length_nil]; omega)
      | decide

end Go.Proofs.YtmkemodgbhaglaaDoor
