/-
  SdtSetMutations: it returns true.
-/
import Derived.Test.YtmkemodgbhaglaaDoorSt
set_option linter.unusedSimpArgs false
set_option linter.unusedVariables false
namespace Go.Proofs.YtmkemodgbhaglaaDoor
open Go Ab
open Go.ChangeShapes Go.WideShapes Go.ChangeAt Go.RowKit
set_option maxRecDepth 100000

theorem st_set (s : By) (k : Nat) (c : UInt8) : byteS (s.set k c) = setL (byteS s) (plus 0 (times k 1)) [.int .u8 ((c.toNat : Nat) : Int)] := by
  rw [plus_eq, times_eq, Nat.zero_add, Nat.mul_one]
  simp only [setL, byteS, List.map_set]
theorem st_le {s : By} {k : Nat} (h : k < s.length) : plus 0 (times k 1) + 1 ≤ (byteS s).length := by
  rw [plus_eq, times_eq, Nat.zero_add, Nat.mul_one, yB_len]; exact h
theorem st_str (s : By) (n m : Nat) (h : n = m) : ((byteS s).drop 0).take n = byteS (s.take m) := by
  subst h; simp [byteS]
theorem neg_ok (s : By) : IntKind.u8.wrap (0 - ((sumN s : Nat) : Int)) = (((bt (256 - sumN s)).toNat : Nat) : Int) := by
  have : sumN s < 256 := Nat.mod_lt _ (by decide)
  rw [u8_wrap, bt_nat]; omega
theorem take_all {s : By} {n : Nat} (h : n = s.length) : s.take n = s := by subst h; exact List.take_length
theorem mut_nil (z : Int) (c : UInt8) (fx : Bool) (bh : By) : SC Tryd.prog 7 [(.s (.slc none 0 (some 0))), .s (.int .i64 z), n8 c.toNat, .s (.bool fx), sV bh] 0 [] (bV true) 0 [] := by
  have tt := tab_nil 
  refine SC.run hm Tryd.func7 rfl [.call [] [(.s (.slc none 0 (some 0)))] [] (.s (.slc none 0 (some 0))) 0 [], .call [] [(.s (.slc none 0 (some 0)))] [] (.tup [.s (.str []), .s (.int .i64 1)]) 0 [], .call [] [] [] (bV true) 0 []] [] rfl rfl ?_ (.inl rfl) (EndOK.plain rfl no_mem rfl rfl)
  simp only [true_and, and_true, and_assoc, decide_eq_true_eq, decide_eq_false_iff_not, ne_eq, beq_iff_eq, beq_eq_false_iff_ne, bne_eq_false_iff_eq, bne_iff_ne, bne_self_eq_false, beq_self_eq_true]
  repeat' apply And.intro
  all_goals first
    | exact True.intro
    | exact call0 awake_s rfl
    | exact call0 tt rfl
    | exact call0 rset_nil rfl
    | (with_reducible show _ = true; kernel_rfl)
    | (with_reducible exact rfl)
    | omega
    | decide
    | rfl
theorem mut_emp (z : Int) (c : UInt8) (fx : Bool) (bh : By) : SC Tryd.prog 7 [(.s .emp), .s (.int .i64 z), n8 c.toNat, .s (.bool fx), sV bh] 0 [] (bV true) 0 [] := by
  have tt := tab_emp 
  refine SC.run hm Tryd.func7 rfl [.call [] [(.s .emp)] [] (.s (.slc none 0 (some 0))) 0 [], .call [] [(.s (.slc none 0 (some 0)))] [] (.tup [.s (.str []), .s (.int .i64 1)]) 0 [], .call [] [] [] (bV true) 0 []] [] rfl rfl ?_ (.inl rfl) (EndOK.plain rfl no_mem rfl rfl)
  simp only [true_and, and_true, and_assoc, decide_eq_true_eq, decide_eq_false_iff_not, ne_eq, beq_iff_eq, beq_eq_false_iff_ne, bne_eq_false_iff_eq, bne_iff_ne, bne_self_eq_false, beq_self_eq_true]
  repeat' apply And.intro
  all_goals first
    | exact True.intro
    | exact call0 awake_s rfl
    | exact call0 tt rfl
    | exact call0 rset_nil rfl
    | (with_reducible show _ = true; kernel_rfl)
    | (with_reducible exact rfl)
    | omega
    | decide
    | rfl
theorem mut_0 (ty : TypeId) (z : Int) (c : UInt8) (fx : Bool) (bh : By) : SC Tryd.prog 7 [(.s (.slc (some (0, 0)) 0 none)), .s (.int .i64 z), n8 c.toNat, .s (.bool fx), sV bh] 1 [(0, some (bI ty []))] (bV true) 1 [(0, some (bI ty []))] := by
  have tt := tab_0 ty
  refine SC.run hm Tryd.func7 rfl [.call [0] [(.s (.slc (some (0, 0)) 0 none))] [(0, some (bI ty []))] (.s (.slc none 0 (some 0))) 1 [(0, some (bI ty []))], .call [] [(.s (.slc none 0 (some 0)))] [] (.tup [.s (.str []), .s (.int .i64 1)]) 0 [], .call [] [] [] (bV true) 0 []] [] rfl rfl ?_ (.inl rfl) (EndOK.by rfl ⟨rfl, trivial⟩ rfl rfl rfl rfl)
  simp only [true_and, and_true, and_assoc, decide_eq_true_eq, decide_eq_false_iff_not, ne_eq, beq_iff_eq, beq_eq_false_iff_ne, bne_eq_false_iff_eq, bne_iff_ne, bne_self_eq_false, beq_self_eq_true]
  repeat' apply And.intro
  all_goals first
    | exact True.intro
    | exact call0 awake_s rfl
    | exact ⟨tt, rfl, Fits.of rfl rfl ⟨⟨rfl, _, rfl, rfl, fun _ => rfl⟩, trivial⟩⟩
    | exact call0 rset_nil rfl
    | (with_reducible show _ = true; kernel_rfl)
    | (with_reducible exact rfl)
    | omega
    | decide
    | rfl
theorem mut_bad (ty : TypeId) (l x : List Tb) (tt : SC Tryd.prog 21 [(.s (.slc (some (0, 0)) l.length none))] 1 [(0, some (bI ty l))] (.s (.sla 1 2 x.length)) 3 [(0, some (bI ty l)), (1, some (zB x 2))]) (z : Int) (c : UInt8) (fx : Bool) (bh : By) (q1 : SC Tryd.prog 20 [.s (.sla 0 1 x.length)] 2 [(0, some (zB x 1))] (.tup [.s (.str []), .s (.int .i64 1)]) 2 [(0, some (zB x 1))]) :
    SC Tryd.prog 7 [(.s (.slc (some (0, 0)) l.length none)), .s (.int .i64 z), n8 c.toNat, .s (.bool fx), sV bh] 1 [(0, some (bI ty l))] (bV true) 1 [(0, some (bI ty l))] := by
  refine SC.run hm Tryd.func7 rfl [.call [0] [(.s (.slc (some (0, 0)) l.length none))] [(0, some (bI ty l))] (.s (.sla 1 2 x.length)) 3 [(0, some (bI ty l)), (1, some (zB x 2))], .call [1, 2] [.s (.sla 0 1 x.length)] [(0, some (zB x 1))] (.tup [.s (.str []), .s (.int .i64 1)]) 2 [(0, some (zB x 1))], .call [] [] [] (bV true) 0 []] [] rfl rfl ?_ (.inl rfl) (EndOK.by rfl ⟨rfl, trivial⟩ rfl rfl rfl rfl)
  simp only [true_and, and_true, and_assoc, decide_eq_true_eq, decide_eq_false_iff_not, ne_eq, beq_iff_eq, beq_eq_false_iff_ne, bne_eq_false_iff_eq, bne_iff_ne, bne_self_eq_false, beq_self_eq_true]
  repeat' apply And.intro
  all_goals first
    | exact True.intro
    | exact call0 awake_s rfl
    | exact ⟨tt, rfl, Fits.of rfl rfl ⟨⟨rfl, _, rfl, rfl, fun _ => rfl⟩, trivial⟩⟩
    | exact ⟨q1, rfl, Fits.of rfl rfl ⟨⟨rfl, _, rfl, rfl, fun h => h⟩, trivial⟩⟩
    | (with_reducible show _ = true; kernel_rfl)
    | (with_reducible exact rfl)
    | omega
    | decide
    | rfl
set_option maxHeartbeats 2000000 in
theorem mut_n (ty : TypeId) (l x : List Tb) (tt : SC Tryd.prog 21 [(.s (.slc (some (0, 0)) l.length none))] 1 [(0, some (bI ty l))] (.s (.sla 1 2 x.length)) 3 [(0, some (bI ty l)), (1, some (zB x 2))]) (z : Int) (c : UInt8) (bh : By) (s : By) (q1 : SC Tryd.prog 20 [.s (.sla 0 1 x.length)] 2 [(0, some (zB x 1))] (.tup [.s (.str s), .s (.int .i64 0)]) 2 [(0, some (zB x 1))]) (hs : s.length ≤ 1100000) (h20 : 20 ≤ s.length) (hb : bh.length < 2305843009213693952) (k : Nat) (hk : k < s.length) (q2 : SC Tryd.prog 18 [.s (.int .i64 z), iN s.length] 0 [] (iN k) 0 []) : SC Tryd.prog 7 [(.s (.slc (some (0, 0)) l.length none)), .s (.int .i64 z), n8 c.toNat, .s (.bool false), sV bh] 1 [(0, some (bI ty l))] (bV true) 1 [(0, some (bI ty l))] := by
  have d1 := decodes_s (s.set k c) (by simp only [List.length_set]; omega)
  have d2 := decodes_s (s.take k) (by rw [List.length_take]; omega)
  have d3 := decodes_s (s ++ bh) (by rw [List.length_append]; omega)
  have e1 : Tryd.prog.types[5].size = 1 := by kernel_rfl
  refine SC.run hm Tryd.func7 rfl [.call [0] [(.s (.slc (some (0, 0)) l.length none))] [(0, some (bI ty l))] (.s (.sla 1 2 x.length)) 3 [(0, some (bI ty l)), (1, some (zB x 2))], .call [1, 2] [.s (.sla 0 1 x.length)] [(0, some (zB x 1))] (.tup [.s (.str s), .s (.int .i64 0)]) 2 [(0, some (zB x 1))], .call [] [.s (.int .i64 z), iN s.length] [] (iN k) 0 [], .idx k, .cells (byteS (s.set k c)), .call [] [] [] (bV true) 0 [], .val (sV (s.set k c)), .call [] [sV (s.set k c)] [] (bV true) 0 [], .idx k, .call [] [sV (s.take k)] [] (bV true) 0 [], .call [] [sV (s ++ bh)] [] (bV true) 0 []] [] rfl rfl ?_ (.inl rfl) (EndOK.by rfl ⟨rfl, trivial⟩ rfl rfl rfl rfl)
  simp only [true_and, and_true, and_assoc, decide_eq_true_eq, decide_eq_false_iff_not, ne_eq, beq_iff_eq, beq_eq_false_iff_ne, bne_eq_false_iff_eq, bne_iff_ne, bne_self_eq_false, beq_self_eq_true]
  repeat' apply And.intro
  all_goals try rw [e1]
  all_goals first
    | exact True.intro
    | exact call0 awake_s rfl
    | exact ⟨tt, rfl, Fits.of rfl rfl ⟨⟨rfl, _, rfl, rfl, fun _ => rfl⟩, trivial⟩⟩
    | exact ⟨q1, rfl, Fits.of rfl rfl ⟨⟨rfl, _, rfl, rfl, fun h => h⟩, trivial⟩⟩
    | exact call0 q2 rfl
    | exact call0 d1 rfl
    | exact call0 d2 rfl
    | exact call0 d3 rfl
    | exact st_set _ _ _
    | exact st_le hk
    | exact st_le (by simp only [List.length_set]; omega)
    | (simp only [List.length_set]; done)
    | (rw [st_str _ _ _ rfl, take_all (by simp only [List.length_set])]; done)
    | (with_reducible show _ = true; kernel_rfl)
    | (with_reducible exact rfl)
    | omega
    | decide
    | rfl
set_option maxHeartbeats 2000000 in
theorem mut_9 (ty : TypeId) (l x : List Tb) (tt : SC Tryd.prog 21 [(.s (.slc (some (0, 0)) l.length none))] 1 [(0, some (bI ty l))] (.s (.sla 1 2 x.length)) 3 [(0, some (bI ty l)), (1, some (zB x 2))]) (z : Int) (c : UInt8) (bh : By) (s : By) (q1 : SC Tryd.prog 20 [.s (.sla 0 1 x.length)] 2 [(0, some (zB x 1))] (.tup [.s (.str s), .s (.int .i64 0)]) 2 [(0, some (zB x 1))]) (hs : s.length ≤ 1100000) (h20 : 20 ≤ s.length) (hb : bh.length < 2305843009213693952) (k : Nat) (hk : k < s.length) (q2 : SC Tryd.prog 18 [.s (.int .i64 z), iN s.length] 0 [] (iN k) 0 []) (h9 : k = 9) : SC Tryd.prog 7 [(.s (.slc (some (0, 0)) l.length none)), .s (.int .i64 z), n8 c.toNat, .s (.bool true), sV bh] 1 [(0, some (bI ty l))] (bV true) 1 [(0, some (bI ty l))] := by
  have d1 := decodes_s (s.set k c) (by simp only [List.length_set]; omega)
  have d2 := decodes_s (s.take k) (by rw [List.length_take]; omega)
  have d3 := decodes_s (s ++ bh) (by rw [List.length_append]; omega)
  have e1 : Tryd.prog.types[5].size = 1 := by kernel_rfl
  refine SC.run hm Tryd.func7 rfl [.call [0] [(.s (.slc (some (0, 0)) l.length none))] [(0, some (bI ty l))] (.s (.sla 1 2 x.length)) 3 [(0, some (bI ty l)), (1, some (zB x 2))], .call [1, 2] [.s (.sla 0 1 x.length)] [(0, some (zB x 1))] (.tup [.s (.str s), .s (.int .i64 0)]) 2 [(0, some (zB x 1))], .call [] [.s (.int .i64 z), iN s.length] [] (iN k) 0 [], .idx k, .cells (byteS (s.set k c)), .dec false, .call [] [] [] (bV true) 0 [], .val (sV (s.set k c)), .call [] [sV (s.set k c)] [] (bV true) 0 [], .idx k, .call [] [sV (s.take k)] [] (bV true) 0 [], .call [] [sV (s ++ bh)] [] (bV true) 0 []] [] rfl rfl ?_ (.inl rfl) (EndOK.by rfl ⟨rfl, trivial⟩ rfl rfl rfl rfl)
  simp only [true_and, and_true, and_assoc, decide_eq_true_eq, decide_eq_false_iff_not, ne_eq, beq_iff_eq, beq_eq_false_iff_ne, bne_eq_false_iff_eq, bne_iff_ne, bne_self_eq_false, beq_self_eq_true]
  repeat' apply And.intro
  all_goals try rw [e1]
  all_goals first
    | exact True.intro
    | exact call0 awake_s rfl
    | exact ⟨tt, rfl, Fits.of rfl rfl ⟨⟨rfl, _, rfl, rfl, fun _ => rfl⟩, trivial⟩⟩
    | exact ⟨q1, rfl, Fits.of rfl rfl ⟨⟨rfl, _, rfl, rfl, fun h => h⟩, trivial⟩⟩
    | exact call0 q2 rfl
    | exact call0 d1 rfl
    | exact call0 d2 rfl
    | exact call0 d3 rfl
    | exact st_set _ _ _
    | exact st_le hk
    | exact st_le (by simp only [List.length_set]; omega)
    | (simp only [List.length_set]; done)
    | (rw [st_str _ _ _ rfl, take_all (by simp only [List.length_set])]; done)
    | (with_reducible show _ = true; kernel_rfl)
    | (with_reducible exact rfl)
    | omega
    | decide
    | rfl
set_option maxHeartbeats 2000000 in
theorem mut_f (ty : TypeId) (l x : List Tb) (tt : SC Tryd.prog 21 [(.s (.slc (some (0, 0)) l.length none))] 1 [(0, some (bI ty l))] (.s (.sla 1 2 x.length)) 3 [(0, some (bI ty l)), (1, some (zB x 2))]) (z : Int) (c : UInt8) (bh : By) (s : By) (q1 : SC Tryd.prog 20 [.s (.sla 0 1 x.length)] 2 [(0, some (zB x 1))] (.tup [.s (.str s), .s (.int .i64 0)]) 2 [(0, some (zB x 1))]) (hs : s.length ≤ 1100000) (h20 : 20 ≤ s.length) (hb : bh.length < 2305843009213693952) (k : Nat) (hk : k < s.length) (q2 : SC Tryd.prog 18 [.s (.int .i64 z), iN s.length] 0 [] (iN k) 0 []) (h9 : k ≠ 9) (nn : Nat) (hn : nn = min (16 + 4 * min l.length 18) s.length) : SC Tryd.prog 7 [(.s (.slc (some (0, 0)) l.length none)), .s (.int .i64 z), n8 c.toNat, .s (.bool true), sV bh] 1 [(0, some (bI ty l))] (bV true) 1 [(0, some (bI ty l))] := by
  have g5 := rsum_s (((s.set k c).set 9 0).take nn) (by simp only [List.length_take, List.length_set]; omega)
  have m1 : min l.length 18 ≤ 18 := Nat.min_le_right _ _
  have d1 := decodes_s (((s.set k c).set 9 0).set 9 (bt (256 - sumN (((s.set k c).set 9 0).take nn)))) (by simp only [List.length_set]; omega)
  have d2 := decodes_s (s.take k) (by rw [List.length_take]; omega)
  have d3 := decodes_s (s ++ bh) (by rw [List.length_append]; omega)
  have e1 : Tryd.prog.types[5].size = 1 := by kernel_rfl
  refine SC.run hm Tryd.func7 rfl [.call [0] [(.s (.slc (some (0, 0)) l.length none))] [(0, some (bI ty l))] (.s (.sla 1 2 x.length)) 3 [(0, some (bI ty l)), (1, some (zB x 2))], .call [1, 2] [.s (.sla 0 1 x.length)] [(0, some (zB x 1))] (.tup [.s (.str s), .s (.int .i64 0)]) 2 [(0, some (zB x 1))], .call [] [.s (.int .i64 z), iN s.length] [] (iN k) 0 [], .idx k, .cells (byteS (s.set k c)), .dec true, .num ((min l.length 18 : Nat) : Int), .num ((4 * min l.length 18 : Nat) : Int), .num ((16 + 4 * min l.length 18 : Nat) : Int), .num ((nn : Nat) : Int), .idx 9, .cells (byteS ((s.set k c).set 9 0)), .idx nn, .val (sV (((s.set k c).set 9 0).take nn)), .call [] [sV (((s.set k c).set 9 0).take nn)] [] (n8 (sumN (((s.set k c).set 9 0).take nn))) 0 [], .num (((bt (256 - sumN (((s.set k c).set 9 0).take nn))).toNat : Nat) : Int), .idx 9, .cells (byteS (((s.set k c).set 9 0).set 9 (bt (256 - sumN (((s.set k c).set 9 0).take nn))))), .call [] [] [] (bV true) 0 [], .val (sV (((s.set k c).set 9 0).set 9 (bt (256 - sumN (((s.set k c).set 9 0).take nn))))), .call [] [sV (((s.set k c).set 9 0).set 9 (bt (256 - sumN (((s.set k c).set 9 0).take nn))))] [] (bV true) 0 [], .idx k, .call [] [sV (s.take k)] [] (bV true) 0 [], .call [] [sV (s ++ bh)] [] (bV true) 0 []] [] rfl rfl ?_ (.inl rfl) (EndOK.by rfl ⟨rfl, trivial⟩ rfl rfl rfl rfl)
  simp only [true_and, and_true, and_assoc, decide_eq_true_eq, decide_eq_false_iff_not, ne_eq, beq_iff_eq, beq_eq_false_iff_ne, bne_eq_false_iff_eq, bne_iff_ne, bne_self_eq_false, beq_self_eq_true]
  repeat' apply And.intro
  all_goals try rw [e1]
  all_goals first
    | exact True.intro
    | exact call0 awake_s rfl
    | exact ⟨tt, rfl, Fits.of rfl rfl ⟨⟨rfl, _, rfl, rfl, fun _ => rfl⟩, trivial⟩⟩
    | exact ⟨q1, rfl, Fits.of rfl rfl ⟨⟨rfl, _, rfl, rfl, fun h => h⟩, trivial⟩⟩
    | exact call0 q2 rfl
    | exact call0 d1 rfl
    | exact call0 d2 rfl
    | exact call0 d3 rfl
    | exact st_set _ _ _
    | exact st_le hk
    | exact st_le (by simp only [List.length_set]; omega)
    | (simp only [List.length_set]; done)
    | exact call0 g5 rfl
    | exact st_str _ _ _ rfl
    | exact neg_ok _
    | (show nn ≤ s.length; omega)
    | (rw [st_str _ _ _ rfl, take_all (by simp only [List.length_set])]; done)
    | (rw [List.length_take, List.length_set, List.length_set]; omega)
    | (rw [i64_in] <;> omega)
    | (split <;> omega)
    | (with_reducible show _ = true; kernel_rfl)
    | (with_reducible exact rfl)
    | omega
    | decide
    | rfl
theorem mut_s (ty : TypeId) (l : List Tb) (hf : ∀ j, j < l.length → (l.getD j tb0).fit) (hl : 1 ≤ l.length) (z : Int) (c : UInt8) (fx : Bool) (bh : By) (hb : bh.length < 2305843009213693952) : SC Tryd.prog 7 [(.s (.slc (some (0, 0)) l.length none)), .s (.int .i64 z), n8 c.toNat, .s (.bool fx), sV bh] 1 [(0, some (bI ty l))] (bV true) 1 [(0, some (bI ty l))] := by
  obtain ⟨k, hk⟩ : ∃ k, k + 1 = min l.length 18 := ⟨min l.length 18 - 1, by omega⟩
  have tt := tab_s ty l hf k hk
  have hx : ∀ j, j < (tabs l (k + 1)).length → ((tabs l (k + 1)).getD j tb0).fit := fun j hj => by
    rw [tabs_len] at hj
    rw [tabs_at l (k + 1) j hj]
    exact tab_fit (hf j (by omega))
  have hlen := tabs_len l (k + 1)
  have hk18 : k + 1 ≤ 18 := by omega
  generalize tabs l (k + 1) = x at *
  by_cases h16 : 16 < x.length
  · exact mut_bad ty l x tt z c fx bh (rset_long x h16)
  rcases set_cases x (by omega) (by omega) with h | ⟨i, i1, i2, i3⟩
  · have q1 := rset_ok x h hx
    have h1 := set_bound h
    have h2 := set_len h
    have h3 := h.lo
    generalize encSet x = s at *
    have q2 := mod_s z s.length (by omega) (by omega)
    have hkk : modM z s.length < s.length := Nat.mod_lt _ (by omega)
    generalize modM z s.length = m at *
    cases fx with
    | false => exact mut_n ty l x tt z c bh s q1 h1 (by omega) hb m hkk q2
    | true =>
      by_cases h9 : m = 9
      · exact mut_9 ty l x tt z c bh s q1 h1 (by omega) hb m hkk q2 h9
      · exact mut_f ty l x tt z c bh s q1 h1 (by omega) hb m hkk q2 h9 _ rfl
  · exact mut_bad ty l x tt z c fx bh (rset_bad x (by omega) (by omega) hx i i1 i2 i3)
theorem mut_walk (W : World) (v : Value) (h1 : TabsIn W v) (z : Int) (c : UInt8) (fx : Bool) (bh : By) (hb : bh.length < 2305843009213693952) :
    Calls Tryd.prog 7 #[v, .int .i64 z, .int .u8 ((c.toNat : Nat) : Int), .bool fx, .string ⟨bh.toArray⟩] W fun e W' => e = .returned (.bool true) ∧ Below W.heap.size W W' := by
  cases h1 with
  | nil h =>
    subst h
    exact SC.law (xs := [.slice none 0 0, .int .i64 z, .int .u8 ((c.toNat : Nat) : Int), .bool fx, .string ⟨bh.toArray⟩]) (mut_nil z c fx bh) no_ro ⟨⟨rfl, rfl, rfl⟩, rfl, rfl, rfl, rfl, trivial⟩ (no_good W) (fun _ _ => rfl)
  | emp a h =>
    subst h
    exact SC.law (xs := [.slice (some a) 0 0, .int .i64 z, .int .u8 ((c.toNat : Nat) : Int), .bool fx, .string ⟨bh.toArray⟩]) (mut_emp z c fx bh) no_ro ⟨⟨a, rfl⟩, rfl, rfl, rfl, rfl, trivial⟩ (no_good W) (fun _ _ => rfl)
  | blk bb ty l o cap h hm hf hat =>
    subst h
    by_cases hl : 1 ≤ l.length
    · exact SC.law (xs := [.slice (some ⟨bb, o, none⟩) l.length cap, .int .i64 z, .int .u8 ((c.toNat : Nat) : Int), .bool fx, .string ⟨bh.toArray⟩]) (mut_s ty l hf hl z c fx bh hb) (ro1 rfl) ⟨⟨(bb, o), cap, rfl, by rw [Nat.zero_add], hm, .inl rfl⟩, rfl, rfl, rfl, rfl, trivial⟩ (phO_good rfl (hat _)) (phO_none bb o)
    · obtain rfl : l = [] := by cases l with | nil => rfl | cons _ _ => simp at hl
      exact SC.law (xs := [.slice (some ⟨bb, o, none⟩) 0 cap, .int .i64 z, .int .u8 ((c.toNat : Nat) : Int), .bool fx, .string ⟨bh.toArray⟩]) (mut_0 ty z c fx bh) (ro1 rfl) ⟨⟨(bb, o), cap, rfl, by rw [Nat.zero_add], hm, .inl rfl⟩, rfl, rfl, rfl, rfl, trivial⟩ (phO_good rfl (hat _)) (phO_none bb o)

end Go.Proofs.YtmkemodgbhaglaaDoor
