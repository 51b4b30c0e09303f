/-
  EncodeSet; DecodeSet of what it returns.
-/
import Derived.Test.YtmkemodgbhaglaaDoorSp
set_option linter.unusedSimpArgs false
set_option linter.unusedVariables false
namespace Go.Proofs.YtmkemodgbhaglaaDoor
open Go Ab
set_option maxRecDepth 100000

theorem appN_nil (n : Nat) (h : n < 9223372036854775808) : SC Tryd.prog 27 [(.s (.slc none 0 (some 0))), iN n] 0 [] (.s (.sla 0 1 (le4 n).length)) 2 [(0, some (yB (le4 n) 1))] := by
  have e1 : Tryd.prog.types[5].size = 1 := by kernel_rfl
  have e2 : Tryd.prog.types[5].bytes = 1 := by kernel_rfl
  refine SC.run hm Tryd.func27 rfl [.num ((n % 256 : Nat) : Int), .num ((n / 2 ^ 8 : Nat) : Int), .num ((n / 2 ^ 8 % 256 : Nat) : Int), .num ((n / 2 ^ 16 : Nat) : Int), .num ((n / 2 ^ 16 % 256 : Nat) : Int), .num ((n / 2 ^ 24 : Nat) : Int), .num ((n / 2 ^ 24 % 256 : Nat) : Int), .app (le4 n).length (byteS (le4 n))] [1, 2] rfl rfl ?_ (.inl rfl) (EndOK.by rfl ⟨rfl, trivial⟩ rfl rfl rfl rfl)
  simp only [true_and, and_true, and_assoc]
  rw [e1, e2]
  repeat' apply And.intro
  all_goals first
    | exact True.intro
    | exact u8m _
    | exact fd (k := 8) (by decide)
    | exact fd (k := 16) (by decide)
    | exact fd (k := 24) (by decide)
    | (rw [le4_cells]; rfl)
    | (with_reducible show _ = true; kernel_rfl)
    | (with_reducible exact rfl)
    | omega
    | (have q : (le4 n).length = 4 := rfl
       rw [q]; decide)
    | decide
    | exact Nat.le_refl 4
    | rfl
    | (intro e; cases e)
theorem es_a (l : List Tb) (j : Nat) (hj : j < l.length) (h16 : l.length ≤ 16) (hf : (l.getD j tb0).fit) (hg : goodT (l.getD j tb0) = true) :
    Rnd Tryd.prog 2 ((Tryd.f22.body.bind fstLoop).getD .skip) [0, 1, 7, 8, 9, 10] [0, 4, 5, 6, 25, 26, 27] (sp 67 [(0, (.s (.sla 0 1 l.length))), (4, (.s (.slc none 0 (some 0)))), (5, (.s (.slc none 0 (some 0)))), (6, iN (16 + 4 * l.length)), (25, (.s (.sla 0 1 l.length))), (26, iN l.length), (27, iN j)]) 6 [(0, some (zB l 1))] (sp 67 [(0, (.s (.sla 0 1 l.length))), (4, (.s (.sla 2 3 (le4 (16 + 4 * l.length)).length))), (5, (.s (.sla 4 5 (encB (l.getD j tb0)).length))), (6, iN (16 + 4 * l.length)), (25, (.s (.sla 0 1 l.length))), (26, iN l.length), (27, iN (j + 1))]) [(0, some (zB l 1)), (2, some (yB (le4 (16 + 4 * l.length)) 3)), (4, some (yB (encB (l.getD j tb0)) 5))] := by
  have a1 := z_ld l 1 hj
  obtain ⟨v, hne⟩ := good_parts hg
  have g1 := enc_s _ hf
  rw [show encV (l.getD j tb0) = .tup [.s (.str (encB (l.getD j tb0))), .s (.int .i64 0)] by simp only [encV, v]] at g1
  have g2 := appN_nil (16 + 4 * l.length) (by omega)
  have q2 := enc_len v
  obtain ⟨_, _, _, _, _, q3⟩ := valid_parts v
  have e1 : Tryd.prog.types[5].size = 1 := by kernel_rfl
  have e2 : Tryd.prog.types[5].bytes = 1 := by kernel_rfl
  refine ⟨[.dec true, .idx j, .val (.agg (tC (l.getD j tb0))), .call [] [tV (l.getD j tb0)] [] (.tup [.s (.str (encB (l.getD j tb0))), .s (.int .i64 0)]) 0 [], .dec false, .dec false, .num (((16 + 4 * l.length) : Nat) : Int), .call [] [(.s (.slc none 0 (some 0))), iN (16 + 4 * l.length)] [] (.s (.sla 0 1 (le4 (16 + 4 * l.length)).length)) 2 [(0, some (yB (le4 (16 + 4 * l.length)) 1))], .app (encB (l.getD j tb0)).length (byteS (encB (l.getD j tb0))), .num ((j + 1 : Nat) : Int)], _, _, _, _, _, rfl, ?_, rfl, ⟨rfl, rfl, rfl, trivial⟩⟩
  simp only [true_and, and_true, and_assoc, decide_eq_true_eq, decide_eq_false_iff_not, ne_eq, beq_iff_eq, beq_eq_false_iff_ne, bne_eq_false_iff_eq, bne_iff_ne, bne_self_eq_false, beq_self_eq_true]
  repeat' apply And.intro
  all_goals try rw [e1]
  all_goals try rw [e2]
  all_goals first
    | exact True.intro
    | exact call0 g1 rfl
    | exact call0 g2 rfl
    | exact a1
    | exact hne
    | exact decide_eq_false hne
    | exact decide_eq_true hne
    | exact y_app0 _ _
    | exact y_appT _ _
    | exact y_le _
    | exact y_fit _ _ rfl
    | exact List.length_append
    | (with_reducible show _ = true; kernel_rfl)
    | (with_reducible exact rfl)
    | (rw [i64_in] <;> omega)
    | omega
    | (rw [List.length_append]; omega)
    | decide
    | exact Nat.le_refl _
    | rfl
    | (intro e; cases e)
    | (intro _; exact Nat.le_refl _)
theorem es_a1 (l : List Tb) (j : Nat) (hj : j < l.length) (hf : (l.getD j tb0).fit) (v : validB (l.getD j tb0) = false) :
    Lst Tryd.prog 2 ((Tryd.f22.body.bind fstLoop).getD .skip) [0, 1] [2, 3] (sp 67 [(0, (.s (.sla 0 1 l.length))), (4, (.s (.slc none 0 (some 0)))), (5, (.s (.slc none 0 (some 0)))), (6, iN (16 + 4 * l.length)), (25, (.s (.sla 0 1 l.length))), (26, iN l.length), (27, iN j)]) 6 [(0, some (zB l 1))] .ret (sp 67 [(2, sV []), (3, .s (.int .i64 1))]) [(0, some (zB l 1))] := by
  have a1 := z_ld l 1 hj
  have g1 := enc_s _ hf
  rw [show encV (l.getD j tb0) = .tup [.s (.str []), .s (.int .i64 1)] by simp only [encV, v]] at g1
  refine ⟨[.dec true, .idx j, .val (.agg (tC (l.getD j tb0))), .call [] [tV (l.getD j tb0)] [] (.tup [.s (.str []), .s (.int .i64 1)]) 0 []], _, _, _, _, _, rfl, ?_, rfl, ⟨rfl, trivial⟩⟩
  simp only [true_and, and_true, and_assoc, decide_eq_true_eq, decide_eq_false_iff_not, ne_eq, beq_iff_eq, beq_eq_false_iff_ne, bne_eq_false_iff_eq, bne_iff_ne, bne_self_eq_false, beq_self_eq_true]
  repeat' apply And.intro
  all_goals first
    | exact True.intro
    | exact call0 g1 rfl
    | exact a1
    | exact hne
    | exact decide_eq_false hne
    | exact decide_eq_true hne
    | exact y_app0 _ _
    | exact y_appT _ _
    | exact y_le _
    | exact y_fit _ _ rfl
    | exact List.length_append
    | (with_reducible show _ = true; kernel_rfl)
    | (with_reducible exact rfl)
    | (rw [i64_in] <;> omega)
    | omega
    | (rw [List.length_append]; omega)
    | decide
    | exact Nat.le_refl _
    | rfl
    | (intro e; cases e)
    | (intro _; exact Nat.le_refl _)
theorem es_a2 (l : List Tb) (j : Nat) (hj : j < l.length) (hf : (l.getD j tb0).fit) (v : validB (l.getD j tb0) = true) (hne : (l.getD j tb0).sg = rsdt) :
    Lst Tryd.prog 2 ((Tryd.f22.body.bind fstLoop).getD .skip) [0, 1] [2, 3] (sp 67 [(0, (.s (.sla 0 1 l.length))), (4, (.s (.slc none 0 (some 0)))), (5, (.s (.slc none 0 (some 0)))), (6, iN (16 + 4 * l.length)), (25, (.s (.sla 0 1 l.length))), (26, iN l.length), (27, iN j)]) 6 [(0, some (zB l 1))] .ret (sp 67 [(2, sV []), (3, .s (.int .i64 1))]) [(0, some (zB l 1))] := by
  have a1 := z_ld l 1 hj
  have g1 := enc_s _ hf
  rw [show encV (l.getD j tb0) = .tup [.s (.str (encB (l.getD j tb0))), .s (.int .i64 0)] by simp only [encV, v]] at g1
  refine ⟨[.dec true, .idx j, .val (.agg (tC (l.getD j tb0))), .call [] [tV (l.getD j tb0)] [] (.tup [.s (.str (encB (l.getD j tb0))), .s (.int .i64 0)]) 0 [], .dec false, .dec true], _, _, _, _, _, rfl, ?_, rfl, ⟨rfl, trivial⟩⟩
  simp only [true_and, and_true, and_assoc, decide_eq_true_eq, decide_eq_false_iff_not, ne_eq, beq_iff_eq, beq_eq_false_iff_ne, bne_eq_false_iff_eq, bne_iff_ne, bne_self_eq_false, beq_self_eq_true]
  repeat' apply And.intro
  all_goals first
    | exact True.intro
    | exact call0 g1 rfl
    | exact a1
    | exact hne
    | exact decide_eq_false hne
    | exact decide_eq_true hne
    | exact y_app0 _ _
    | exact y_appT _ _
    | exact y_le _
    | exact y_fit _ _ rfl
    | exact List.length_append
    | (with_reducible show _ = true; kernel_rfl)
    | (with_reducible exact rfl)
    | (rw [i64_in] <;> omega)
    | omega
    | (rw [List.length_append]; omega)
    | decide
    | exact Nat.le_refl _
    | rfl
    | (intro e; cases e)
    | (intro _; exact Nat.le_refl _)
theorem es_b (l : List Tb) (a b : By) (ha : a.length ≤ 64) (hb : b.length ≤ 1048832) (j : Nat) (hj : j < l.length) (h16 : l.length ≤ 16) (hf : (l.getD j tb0).fit) (hg : goodT (l.getD j tb0) = true) :
    Rnd Tryd.prog 2 ((Tryd.f22.body.bind fstLoop).getD .skip) [0, 1, 7, 8, 9, 10] [0, 4, 5, 6, 25, 26, 27] (sp 67 [(0, (.s (.sla 0 1 l.length))), (4, (.s (.sla 2 3 a.length))), (5, (.s (.sla 4 5 b.length))), (6, iN (16 + 4 * l.length)), (25, (.s (.sla 0 1 l.length))), (26, iN l.length), (27, iN j)]) 6 [(0, some (zB l 1)), (2, some (yB a 3)), (4, some (yB b 5))] (sp 67 [(0, (.s (.sla 0 1 l.length))), (4, (.s (.sla 2 3 (a ++ le4 (16 + 4 * l.length + b.length)).length))), (5, (.s (.sla 4 5 (b ++ encB (l.getD j tb0)).length))), (6, iN (16 + 4 * l.length)), (25, (.s (.sla 0 1 l.length))), (26, iN l.length), (27, iN (j + 1))]) [(0, some (zB l 1)), (2, some (yB (a ++ le4 (16 + 4 * l.length + b.length)) 3)), (4, some (yB (b ++ encB (l.getD j tb0)) 5))] := by
  have a1 := z_ld l 1 hj
  obtain ⟨v, hne⟩ := good_parts hg
  have g1 := enc_s _ hf
  rw [show encV (l.getD j tb0) = .tup [.s (.str (encB (l.getD j tb0))), .s (.int .i64 0)] by simp only [encV, v]] at g1
  have g2 := appN_s a (16 + 4 * l.length + b.length) (by omega) (by omega)
  have q2 := enc_len v
  obtain ⟨_, _, _, _, _, q3⟩ := valid_parts v
  have e1 : Tryd.prog.types[5].size = 1 := by kernel_rfl
  have e2 : Tryd.prog.types[5].bytes = 1 := by kernel_rfl
  refine ⟨[.dec true, .idx j, .val (.agg (tC (l.getD j tb0))), .call [] [tV (l.getD j tb0)] [] (.tup [.s (.str (encB (l.getD j tb0))), .s (.int .i64 0)]) 0 [], .dec false, .dec false, .num (((16 + 4 * l.length + b.length) : Nat) : Int), .call [2, 3] [.s (.sla 0 1 a.length), iN (16 + 4 * l.length + b.length)] [(0, some (yB a 1))] (.s (.sla 2 3 (a ++ le4 (16 + 4 * l.length + b.length)).length)) 4 [(0, none), (2, some (yB (a ++ le4 (16 + 4 * l.length + b.length)) 3))], .app (b ++ encB (l.getD j tb0)).length (byteS (b ++ encB (l.getD j tb0))), .num ((j + 1 : Nat) : Int)], _, _, _, _, _, rfl, ?_, rfl, ⟨rfl, rfl, rfl, trivial⟩⟩
  simp only [true_and, and_true, and_assoc, decide_eq_true_eq, decide_eq_false_iff_not, ne_eq, beq_iff_eq, beq_eq_false_iff_ne, bne_eq_false_iff_eq, bne_iff_ne, bne_self_eq_false, beq_self_eq_true]
  repeat' apply And.intro
  all_goals try rw [e1]
  all_goals try rw [e2]
  all_goals first
    | exact True.intro
    | exact call0 g1 rfl
    | exact ⟨g2, rfl, Fits.of rfl rfl ⟨⟨rfl, _, rfl, rfl, fun h => h⟩, trivial⟩⟩
    | exact a1
    | exact hne
    | exact decide_eq_false hne
    | exact decide_eq_true hne
    | exact y_app0 _ _
    | exact y_appT _ _
    | exact y_le _
    | exact y_fit _ _ rfl
    | exact List.length_append
    | (with_reducible show _ = true; kernel_rfl)
    | (with_reducible exact rfl)
    | (rw [i64_in] <;> omega)
    | omega
    | (rw [List.length_append]; omega)
    | decide
    | exact Nat.le_refl _
    | rfl
    | (intro e; cases e)
    | (intro _; exact Nat.le_refl _)
theorem es_b1 (l : List Tb) (a b : By) (ha : a.length ≤ 64) (hb : b.length ≤ 1048832) (j : Nat) (hj : j < l.length) (hf : (l.getD j tb0).fit) (v : validB (l.getD j tb0) = false) :
    Lst Tryd.prog 2 ((Tryd.f22.body.bind fstLoop).getD .skip) [0, 1] [2, 3] (sp 67 [(0, (.s (.sla 0 1 l.length))), (4, (.s (.sla 2 3 a.length))), (5, (.s (.sla 4 5 b.length))), (6, iN (16 + 4 * l.length)), (25, (.s (.sla 0 1 l.length))), (26, iN l.length), (27, iN j)]) 6 [(0, some (zB l 1)), (2, some (yB a 3)), (4, some (yB b 5))] .ret (sp 67 [(2, sV []), (3, .s (.int .i64 1))]) [(0, some (zB l 1))] := by
  have a1 := z_ld l 1 hj
  have g1 := enc_s _ hf
  rw [show encV (l.getD j tb0) = .tup [.s (.str []), .s (.int .i64 1)] by simp only [encV, v]] at g1
  refine ⟨[.dec true, .idx j, .val (.agg (tC (l.getD j tb0))), .call [] [tV (l.getD j tb0)] [] (.tup [.s (.str []), .s (.int .i64 1)]) 0 []], _, _, _, _, _, rfl, ?_, rfl, ⟨rfl, trivial⟩⟩
  simp only [true_and, and_true, and_assoc, decide_eq_true_eq, decide_eq_false_iff_not, ne_eq, beq_iff_eq, beq_eq_false_iff_ne, bne_eq_false_iff_eq, bne_iff_ne, bne_self_eq_false, beq_self_eq_true]
  repeat' apply And.intro
  all_goals first
    | exact True.intro
    | exact call0 g1 rfl
    | exact a1
    | exact hne
    | exact decide_eq_false hne
    | exact decide_eq_true hne
    | exact y_app0 _ _
    | exact y_appT _ _
    | exact y_le _
    | exact y_fit _ _ rfl
    | exact List.length_append
    | (with_reducible show _ = true; kernel_rfl)
    | (with_reducible exact rfl)
    | (rw [i64_in] <;> omega)
    | omega
    | (rw [List.length_append]; omega)
    | decide
    | exact Nat.le_refl _
    | rfl
    | (intro e; cases e)
    | (intro _; exact Nat.le_refl _)
theorem es_b2 (l : List Tb) (a b : By) (ha : a.length ≤ 64) (hb : b.length ≤ 1048832) (j : Nat) (hj : j < l.length) (hf : (l.getD j tb0).fit) (v : validB (l.getD j tb0) = true) (hne : (l.getD j tb0).sg = rsdt) :
    Lst Tryd.prog 2 ((Tryd.f22.body.bind fstLoop).getD .skip) [0, 1] [2, 3] (sp 67 [(0, (.s (.sla 0 1 l.length))), (4, (.s (.sla 2 3 a.length))), (5, (.s (.sla 4 5 b.length))), (6, iN (16 + 4 * l.length)), (25, (.s (.sla 0 1 l.length))), (26, iN l.length), (27, iN j)]) 6 [(0, some (zB l 1)), (2, some (yB a 3)), (4, some (yB b 5))] .ret (sp 67 [(2, sV []), (3, .s (.int .i64 1))]) [(0, some (zB l 1))] := by
  have a1 := z_ld l 1 hj
  have g1 := enc_s _ hf
  rw [show encV (l.getD j tb0) = .tup [.s (.str (encB (l.getD j tb0))), .s (.int .i64 0)] by simp only [encV, v]] at g1
  refine ⟨[.dec true, .idx j, .val (.agg (tC (l.getD j tb0))), .call [] [tV (l.getD j tb0)] [] (.tup [.s (.str (encB (l.getD j tb0))), .s (.int .i64 0)]) 0 [], .dec false, .dec true], _, _, _, _, _, rfl, ?_, rfl, ⟨rfl, trivial⟩⟩
  simp only [true_and, and_true, and_assoc, decide_eq_true_eq, decide_eq_false_iff_not, ne_eq, beq_iff_eq, beq_eq_false_iff_ne, bne_eq_false_iff_eq, bne_iff_ne, bne_self_eq_false, beq_self_eq_true]
  repeat' apply And.intro
  all_goals first
    | exact True.intro
    | exact call0 g1 rfl
    | exact a1
    | exact hne
    | exact decide_eq_false hne
    | exact decide_eq_true hne
    | exact y_app0 _ _
    | exact y_appT _ _
    | exact y_le _
    | exact y_fit _ _ rfl
    | exact List.length_append
    | (with_reducible show _ = true; kernel_rfl)
    | (with_reducible exact rfl)
    | (rw [i64_in] <;> omega)
    | omega
    | (rw [List.length_append]; omega)
    | decide
    | exact Nat.le_refl _
    | rfl
    | (intro e; cases e)
    | (intro _; exact Nat.le_refl _)
theorem es_l (l : List Tb) (a b : By) : Lst Tryd.prog 2 ((Tryd.f22.body.bind fstLoop).getD .skip) [0, 1, 2, 3, 4, 5] [0, 4, 5, 6, 25, 26, 27] (sp 67 [(0, (.s (.sla 0 1 l.length))), (4, (.s (.sla 2 3 a.length))), (5, (.s (.sla 4 5 b.length))), (6, iN (16 + 4 * l.length)), (25, (.s (.sla 0 1 l.length))), (26, iN l.length), (27, iN l.length)]) 6 [(0, some (zB l 1)), (2, some (yB a 3)), (4, some (yB b 5))] (.exit 0) (sp 67 [(0, (.s (.sla 0 1 l.length))), (4, (.s (.sla 2 3 a.length))), (5, (.s (.sla 4 5 b.length))), (6, iN (16 + 4 * l.length)), (25, (.s (.sla 0 1 l.length))), (26, iN l.length), (27, iN l.length)]) [(0, some (zB l 1)), (2, some (yB a 3)), (4, some (yB b 5))] := by
  refine ⟨[.dec false], _, _, _, _, _, rfl, ?_, rfl, ⟨rfl, rfl, rfl, trivial⟩⟩
  simp only [true_and, and_true, decide_eq_false_iff_not]
  omega
def e22 (l : List Tb) : Nat → List V
  | 0 => (sp 67 [(0, (.s (.sla 0 1 l.length))), (4, (.s (.slc none 0 (some 0)))), (5, (.s (.slc none 0 (some 0)))), (6, iN (16 + 4 * l.length)), (25, (.s (.sla 0 1 l.length))), (26, iN l.length), (27, iN 0)])
  | j + 1 => (sp 67 [(0, (.s (.sla 0 1 l.length))), (4, (.s (.sla 2 3 (ofs l l.length (j + 1)).length))), (5, (.s (.sla 4 5 (rst l (j + 1)).length))), (6, iN (16 + 4 * l.length)), (25, (.s (.sla 0 1 l.length))), (26, iN l.length), (27, iN (j + 1))])
def h22 (l : List Tb) : Nat → Hp
  | 0 => [(0, some (zB l 1))]
  | j + 1 => [(0, some (zB l 1)), (2, some (yB (ofs l l.length (j + 1)) 3)), (4, some (yB (rst l (j + 1)) 5))]
theorem r22 (l : List Tb) (j : Nat) (hj : j < l.length) (h16 : l.length ≤ 16) (hf : (l.getD j tb0).fit) (hg : ∀ i, i < j + 1 → goodT (l.getD i tb0) = true) :
    Rnd Tryd.prog 2 ((Tryd.f22.body.bind fstLoop).getD .skip) [0, 1, 7, 8, 9, 10] [0, 4, 5, 6, 25, 26, 27] (e22 l j) 6 (h22 l j) (e22 l (j + 1)) (h22 l (j + 1)) := by
  have q1 := ofs_len l l.length j
  have q2 := rst_le l j fun i hi => hg i (by omega)
  cases j with
  | zero => exact es_a l 0 hj h16 hf (hg 0 (by omega))
  | succ j => exact es_b l (ofs l l.length (j + 1)) (rst l (j + 1)) (by omega) (by omega) (j + 1) hj h16 hf (hg (j + 1) (by omega))
theorem eset_nil : SC Tryd.prog 22 [(.s (.slc none 0 (some 0)))] 0 [] (.tup [.s (.str []), .s (.int .i64 1)]) 0 [] := by
  refine SC.run hm Tryd.func22 rfl [.dec true] [] rfl rfl ?_ (.inl rfl) (EndOK.plain rfl no_mem rfl rfl)
  simp only [true_and, and_true, and_assoc, decide_eq_true_eq, decide_eq_false_iff_not, ne_eq, beq_iff_eq, beq_eq_false_iff_ne, bne_eq_false_iff_eq, bne_iff_ne, bne_self_eq_false, beq_self_eq_true]
  decide
theorem eset_long (l : List Tb) (h : 16 < l.length) : SC Tryd.prog 22 [(.s (.sla 0 1 l.length))] 2 [(0, some (zB l 1))] (.tup [.s (.str []), .s (.int .i64 1)]) 2 [(0, some (zB l 1))] := by
  refine SC.run hm Tryd.func22 rfl [.dec false, .dec true] [] rfl rfl ?_ (.inl rfl) (EndOK.by rfl ⟨rfl, trivial⟩ rfl rfl rfl rfl)
  simp only [true_and, and_true, and_assoc, decide_eq_true_eq, decide_eq_false_iff_not, ne_eq, beq_iff_eq, beq_eq_false_iff_ne, bne_eq_false_iff_eq, bne_iff_ne, bne_self_eq_false, beq_self_eq_true]
  repeat' apply And.intro
  all_goals omega
theorem eset_bad (l : List Tb) (h1 : 1 ≤ l.length) (h16 : l.length ≤ 16) (hf : ∀ j, j < l.length → (l.getD j tb0).fit) (k : Nat) (hk : k < l.length) (hg : ∀ i, i < k → goodT (l.getD i tb0) = true) (hb : goodT (l.getD k tb0) = false) : SC Tryd.prog 22 [(.s (.sla 0 1 l.length))] 2 [(0, some (zB l 1))] (.tup [.s (.str []), .s (.int .i64 1)]) 2 [(0, some (zB l 1))] := by
  have q1 := ofs_len l l.length k
  have q2 := rst_le l k hg
  refine SC.run hm Tryd.func22 rfl [.dec false, .dec false, .num ((4 * l.length : Nat) : Int), .num ((16 + 4 * l.length : Nat) : Int), .loop .ret (sp 67 [(2, sV []), (3, .s (.int .i64 1))]) 2 [(0, some (zB l 1))]] [] rfl rfl ?_ (.inl rfl) (EndOK.by rfl ⟨rfl, trivial⟩ rfl rfl rfl rfl)
  simp only [true_and, and_true, and_assoc, decide_eq_true_eq, decide_eq_false_iff_not, ne_eq, beq_iff_eq, beq_eq_false_iff_ne, bne_eq_false_iff_eq, bne_iff_ne, bne_self_eq_false, beq_self_eq_true]
  repeat' apply And.intro
  all_goals first
    | omega
    | (rw [i64_in] <;> omega)
    | refine Ex.movesT hm [0, 4, 5, 6, 25, 26, 27] k (e22 l) (h22 l) [0, 1, 2, 3, 4, 5] (fun _ => [0, 1, 7, 8, 9, 10]) rfl (fun _ => rfl) rfl ⟨rfl, trivial⟩ rfl (fun _ => rfl) (fun j hj => r22 l j (by omega) h16 (hf j (by omega)) fun i hi => hg i (by omega)) [2, 3] [0, 1] rfl (fun e => by cases e) rfl ?_
  cases k with
  | zero =>
    rcases good_bad hb with v | ⟨v, hne⟩
    · exact es_a1 l 0 hk (hf 0 hk) v
    · exact es_a2 l 0 hk (hf 0 hk) v hne
  | succ k =>
    rcases good_bad hb with v | ⟨v, hne⟩
    · exact es_b1 l _ _ (by omega) (by omega) (k + 1) hk (hf _ hk) v
    · exact es_b2 l _ _ (by omega) (by omega) (k + 1) hk (hf _ hk) v hne
theorem eset_ok (l : List Tb) (h : setOK l) (hf : ∀ j, j < l.length → (l.getD j tb0).fit) : SC Tryd.prog 22 [(.s (.sla 0 1 l.length))] 2 [(0, some (zB l 1))] (.tup [.s (.str (encSet l)), .s (.int .i64 0)]) 2 [(0, some (zB l 1))] := by
  have h1 := h.lo
  have h2 := h.hi
  have ho := ofs_len l l.length l.length
  have q1 := dir_len (b := ofs l l.length l.length) (by omega)
  have q2 := rst_le l l.length h.all
  have g1 := enc_s (dirT (ofs l l.length l.length)) (dir_fit (by omega))
  rw [show encV (dirT (ofs l l.length l.length)) = .tup [.s (.str (encB (dirT (ofs l l.length l.length)))), .s (.int .i64 0)] by simp only [encV, dir_ok (ofs l l.length l.length) (by omega)]] at g1
  have hlp : ∀ {env : List V} {L : Hp} {m : Nat}, wkE [0, 4, 5, 6, 25, 26, 27] 0 env = (e22 l 0).map (renV (rn [0, 1, 2, 3, 4, 5] 0)) → MemP (rn [0, 1, 2, 3, 4, 5] 0) L (h22 l 0) → Ex Tryd.prog 2 (.loop ((Tryd.f22.body.bind fstLoop).getD .skip)) env m L (One (.exit 0) (sp 67 [(0, (.s (.sla 0 1 l.length))), (4, (.s (.sla 2 3 (ofs l l.length l.length).length))), (5, (.s (.sla 4 5 (rst l l.length).length))), (6, iN (16 + 4 * l.length)), (25, (.s (.sla 0 1 l.length))), (26, iN l.length), (27, iN l.length)]) 6 [(0, some (zB l 1)), (2, some (yB (ofs l l.length l.length) 3)), (4, some (yB (rst l l.length) 5))]) := by
    intro env L m w1 w2
    obtain ⟨k, hk⟩ : ∃ k, l.length = k + 1 := ⟨l.length - 1, by omega⟩
    refine Ex.movesT hm [0, 4, 5, 6, 25, 26, 27] l.length (e22 l) (h22 l) [0, 1, 2, 3, 4, 5] (fun _ => [0, 1, 7, 8, 9, 10]) rfl (fun _ => rfl) w1 w2 rfl (fun _ => rfl) (fun j hj => r22 l j (by omega) h2 (hf j (by omega)) fun i hi => h.all i (by omega)) [0, 4, 5, 6, 25, 26, 27] [0, 1, 2, 3, 4, 5] rfl (fun e => by cases e) rfl ?_
    have z := es_l l (ofs l l.length l.length) (rst l l.length)
    have x1 : e22 l l.length = (sp 67 [(0, (.s (.sla 0 1 l.length))), (4, (.s (.sla 2 3 (ofs l l.length l.length).length))), (5, (.s (.sla 4 5 (rst l l.length).length))), (6, iN (16 + 4 * l.length)), (25, (.s (.sla 0 1 l.length))), (26, iN l.length), (27, iN l.length)]) := by
      rw [hk]; simp only [e22, hk]
    have x2 : h22 l l.length = [(0, some (zB l 1)), (2, some (yB (ofs l l.length l.length) 3)), (4, some (yB (rst l l.length) 5))] := by
      rw [hk]; simp only [h22, hk]
    rw [x1, x2]
    exact z
  refine SC.run hm Tryd.func22 rfl [.dec false, .dec false, .num ((4 * l.length : Nat) : Int), .num ((16 + 4 * l.length : Nat) : Int), .loop (.exit 0) (sp 67 [(0, (.s (.sla 0 1 l.length))), (4, (.s (.sla 2 3 (ofs l l.length l.length).length))), (5, (.s (.sla 4 5 (rst l l.length).length))), (6, iN (16 + 4 * l.length)), (25, (.s (.sla 0 1 l.length))), (26, iN l.length), (27, iN l.length)]) 6 [(0, some (zB l 1)), (2, some (yB (ofs l l.length l.length) 3)), (4, some (yB (rst l l.length) 5))], .val (sV (ofs l l.length l.length)), .call [] [tV (dirT (ofs l l.length l.length))] [] (.tup [.s (.str (encB (dirT (ofs l l.length l.length)))), .s (.int .i64 0)]) 0 [], .val (sV (rst l l.length))] [] rfl rfl ?_ (.inl rfl) (EndOK.by rfl ⟨rfl, trivial⟩ rfl rfl rfl rfl)
  simp only [true_and, and_true, and_assoc, decide_eq_true_eq, decide_eq_false_iff_not, ne_eq, beq_iff_eq, beq_eq_false_iff_ne, bne_eq_false_iff_eq, bne_iff_ne, bne_self_eq_false, beq_self_eq_true]
  repeat' apply And.intro
  all_goals first
    | exact True.intro
    | exact call0 g1 rfl
    | exact hlp rfl ⟨rfl, trivial⟩
    | exact y_all rfl
    | exact a1
    | exact hne
    | exact decide_eq_false hne
    | exact decide_eq_true hne
    | exact y_app0 _ _
    | exact y_appT _ _
    | exact y_le _
    | exact y_fit _ _ rfl
    | exact List.length_append
    | (with_reducible show _ = true; kernel_rfl)
    | (with_reducible exact rfl)
    | (rw [i64_in] <;> omega)
    | omega
    | (rw [List.length_append]; omega)
    | decide
    | exact Nat.le_refl _
    | rfl
    | (intro e; cases e)
    | (intro _; exact Nat.le_refl _)

end Go.Proofs.YtmkemodgbhaglaaDoor
