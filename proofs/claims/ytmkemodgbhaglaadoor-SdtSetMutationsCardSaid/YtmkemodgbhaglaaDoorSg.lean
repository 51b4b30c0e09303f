/-
  Encode.
-/
import Derived.Test.YtmkemodgbhaglaaDoorSf
set_option linter.unusedSimpArgs false
set_option linter.unusedVariables false
namespace Go.Proofs.YtmkemodgbhaglaaDoor
open Go Ab
set_option maxRecDepth 100000

/-- the second loop behind the first -/
def skipB : Code → Option Code
  | .seq a b => match fstLoop a with | some _ => some b | none => skipB b
  | .block _ c => skipB c
  | _ => none
def yB (l : By) (g : Nat) : Bl := { cells := byteS l, ty := 5, more := true, sym := true, flat := true, gh := some (g, 1) }
theorem yB_len (l : By) : (byteS l).length = l.length := by simp [byteS]
theorem yB_take (l : By) : (byteS l).take (l.length * 1) = byteS l := List.take_of_length_le (by rw [yB_len]; omega)
theorem y_app (l x : By) : byteS (l ++ x) = (byteS l).take (l.length * 1) ++ byteS x := by rw [yB_take]; simp [byteS]
theorem y_fit (l : By) (bl : Bl) (h : bl.flat = true) : fitsIn bl (byteS l) = true := by
  unfold fitsIn
  rw [h]
  show (byteS l).all noPtr = true
  rw [byteS, List.all_map, List.all_eq_true]
  intro x _; rfl
theorem appN_s (l : By) (n : Nat) (hl : l.length < 1000000) (h : n < 9223372036854775808) : SC Tryd.prog 27 [.s (.sla 0 1 l.length), iN n] 2 [(0, some (yB l 1))] (.s (.sla 2 3 (l ++ le4 n).length)) 4 [(0, none), (2, some (yB (l ++ le4 n) 3))] := by
  have e1 : Tryd.prog.types[5].size = 1 := by kernel_rfl
  have e2 : Tryd.prog.types[5].bytes = 1 := by kernel_rfl
  have hlen : (l ++ le4 n).length = l.length + 4 := by rw [List.length_append]; rfl
  refine SC.run hm Tryd.func27 rfl [.num ((n % 256 : Nat) : Int), .num ((n / 2 ^ 8 : Nat) : Int), .num ((n / 2 ^ 8 % 256 : Nat) : Int), .num ((n / 2 ^ 16 : Nat) : Int), .num ((n / 2 ^ 16 % 256 : Nat) : Int), .num ((n / 2 ^ 24 : Nat) : Int), .num ((n / 2 ^ 24 % 256 : Nat) : Int), .app (l ++ le4 n).length (byteS (l ++ le4 n))] [3, 4] rfl rfl ?_ (.inl rfl) (EndOK.move rfl ⟨rfl, trivial⟩ rfl rfl rfl rfl rfl)
  simp only [true_and, and_true, and_assoc]
  rw [e1, e2]
  repeat' apply And.intro
  all_goals first
    | exact True.intro
    | exact u8m _
    | exact fd (k := 8) (by decide)
    | exact fd (k := 16) (by decide)
    | exact fd (k := 24) (by decide)
    | exact hlen
    | (rw [y_app, le4_cells]; rfl)
    | (show l.length * 1 ≤ (byteS l).length; rw [yB_len]; omega)
    | (with_reducible show _ = true; kernel_rfl)
    | (with_reducible exact rfl)
    | omega
    | decide
    | exact Nat.le_refl 4
    | rfl
    | (intro e; cases e)
def p0 (t : Tb) : By := t.sg ++ le4 (16 + t.bd.length) ++ [bt t.rv.toNat, 0] ++ t.om
def pk (t : Tb) : Nat → By
  | 0 => p0 t
  | k + 1 => pk t k ++ [0]
theorem pk_eq (t : Tb) : ∀ k, pk t k = p0 t ++ List.replicate k 0
  | 0 => by simp [pk]
  | k + 1 => by
    show pk t k ++ [0] = _
    rw [pk_eq t k, List.append_assoc, ← List.replicate_succ']
def pq (t : Tb) : By := pk t (6 - t.om.length) ++ t.bd
theorem p0_len {t : Tb} (h : t.sg.length = 4) : (p0 t).length = 10 + t.om.length := by
  simp [p0, le4, h]; omega
theorem pk_len {t : Tb} (h : t.sg.length = 4) (k : Nat) : (pk t k).length = 10 + t.om.length + k := by
  rw [pk_eq, List.length_append, p0_len h, List.length_replicate]
theorem pk_succ (t : Tb) (k : Nat) : pk t (k + 1) = pk t k ++ [0] := rfl
theorem pq_eq (t : Tb) : pq t = front t ++ [0] ++ back t := by
  simp [pq, pk_eq, p0, front, back]
theorem pq_sum (t : Tb) : sumN (pq t) = sumN (front t ++ back t) := by rw [pq_eq, sum_zero]
theorem pq_set {t : Tb} (h : t.sg.length = 4) : (pq t).set 9 (negB (sumN (pq t))) = encB t := by
  rw [pq_sum, pq_eq, List.append_assoc, List.set_append_right _ _ (by rw [front_len h]; exact Nat.le_refl _), front_len h]
  simp [encB]
theorem pq_len {t : Tb} (h : validB t = true) : (pq t).length = 16 + t.bd.length := by
  obtain ⟨h1, _, _, h4, _, _⟩ := valid_parts h
  rw [pq, List.length_append, pk_len (sig_len h1)]; omega
theorem y_le (l : By) : l.length * 1 ≤ (byteS l).length := by rw [yB_len]; omega
theorem y_appT (l x : By) : byteS (l ++ x) = (byteS l).take (l.length * 1) ++ byteS (x.take x.length) := by rw [List.take_length, y_app]
theorem y_app2 (l : By) {n : Nat} (h : n < 256) : byteS (l ++ [bt n, 0]) = (byteS l).take (l.length * 1) ++ [.int .u8 ((n : Nat) : Int), .int .u8 0] := by
  rw [y_app]
  simp only [byteS, List.map_cons, List.map_nil, bt_nat, Nat.mod_eq_of_lt h]
  rfl
theorem y_app0 (x : By) (r : List S) : byteS x = r.take (0 * 1) ++ byteS (x.take x.length) := by simp
theorem y_set (l : By) (k : Nat) (c : UInt8) : byteS (l.set k c) = setL (byteS l) k [.int .u8 ((c.toNat : Nat) : Int)] := by simp [byteS, setL, List.map_set]
theorem y_all {l : By} {k : Nat} (h : k = l.length) : ((byteS l).drop 0).take k = byteS l := by
  rw [List.drop_zero, List.take_of_length_le (by rw [yB_len, h]; exact Nat.le_refl _)]
theorem rep_len (k : Nat) : (rep k [S.int .u8 0]).length = k * 1 := by simp [rep]
def bxT (t : Tb) : Bl := { cells := tC t, ty := 23 }
theorem e1_r (t : Tb) (l : By) (hl : l.length < 16) : Rnd Tryd.prog 0 ((Tryd.f15.body.bind fstLoop).getD .skip) [0, 4, 5] [1, 4] (sp 62 [(1, .s (.ptr (some (0, 0)))), (4, .s (.sla 1 2 l.length))]) 3 [(0, some (bxT t)), (1, some (yB l 2))] (sp 62 [(1, .s (.ptr (some (0, 0)))), (4, .s (.sla 1 2 (l ++ [0]).length))]) [(0, some (bxT t)), (1, some (yB (l ++ [0]) 2))] := by
  have e1 : Tryd.prog.types[5].size = 1 := by kernel_rfl
  have e2 : Tryd.prog.types[5].bytes = 1 := by kernel_rfl
  have hlen : (l ++ [0]).length = l.length + 1 := by simp
  refine ⟨[.dec true, .app (l ++ [0]).length (byteS (l ++ [0]))], _, _, _, _, _, rfl, ?_, rfl, ⟨rfl, rfl, trivial⟩⟩
  simp only [true_and, and_true, and_assoc, decide_eq_true_eq]
  rw [e1, e2]
  repeat' apply And.intro
  all_goals first
    | exact True.intro
    | exact hlen
    | (rw [y_app]; rfl)
    | (show l.length * 1 ≤ (byteS l).length; rw [yB_len]; omega)
    | (with_reducible show _ = true; kernel_rfl)
    | (with_reducible exact rfl)
    | omega
    | decide
    | exact Nat.le_refl 1
    | rfl
    | (intro e; cases e)
theorem e1_l (t : Tb) (l : By) (hl : l.length = 16) : Lst Tryd.prog 0 ((Tryd.f15.body.bind fstLoop).getD .skip) [0, 1, 2] [1, 4] (sp 62 [(1, .s (.ptr (some (0, 0)))), (4, .s (.sla 1 2 l.length))]) 3 [(0, some (bxT t)), (1, some (yB l 2))] (.exit 0) (sp 62 [(1, .s (.ptr (some (0, 0)))), (4, .s (.sla 1 2 l.length))]) [(0, some (bxT t)), (1, some (yB l 2))] := by
  refine ⟨[.dec false], _, _, _, _, _, rfl, ?_, rfl, ⟨rfl, rfl, trivial⟩⟩
  simp only [true_and, and_true, decide_eq_false_iff_not]; omega
theorem e2_r (l : By) (hl : l.length < 1000000) (j : Nat) (hj : j < l.length) : Rnd Tryd.prog 0 (((Tryd.f15.body.bind skipB).bind fstLoop).getD .skip) [0, 1, 2] [4, 5, 46, 47, 48] (sp 62 [(4, .s (.sla 1 2 l.length)), (5, n8 (sumN (l.take j))), (46, .s (.sla 1 2 l.length)), (47, iN l.length), (48, iN j)]) 3 [(1, some (yB l 2))] (sp 62 [(4, .s (.sla 1 2 l.length)), (5, n8 (sumN (l.take (j + 1)))), (46, .s (.sla 1 2 l.length)), (47, iN l.length), (48, iN (j + 1))]) [(1, some (yB l 2))] := by
  have hld : ldAt false 1 (yB l 2) (plus 0 j) = some (n8 (l.getD j 0).toNat) := by
    rw [plus_eq, Nat.zero_add]
    simp only [ldAt, yB, byteS, List.getElem?_map, List.getElem?_eq_getElem hj, Option.map_some, List.getD_eq_getElem?_getD, Option.getD_some]
    rfl
  refine ⟨[.dec true, .idx j, .val (n8 (l.getD j 0).toNat), .num ((sumN (l.take (j + 1)) : Nat) : Int), .num ((j + 1 : Nat) : Int)], _, _, _, _, _, rfl, ?_, rfl, ⟨rfl, trivial⟩⟩
  simp only [true_and, and_true, and_assoc, decide_eq_true_eq, decide_eq_false_iff_not, ne_eq, beq_iff_eq, beq_eq_false_iff_ne, bne_eq_false_iff_eq, bne_iff_ne, bne_self_eq_false, beq_self_eq_true]
  repeat' apply And.intro
  all_goals first
    | exact True.intro
    | exact hld
    | exact s_add l hj
    | exact j_add hj (by omega)
    | exact j_lt hj
    | (with_reducible show _ = true; kernel_rfl)
    | (with_reducible exact rfl)
    | omega
theorem e2_l (l : By) : Lst Tryd.prog 0 (((Tryd.f15.body.bind skipB).bind fstLoop).getD .skip) [0, 1, 2] [4, 5, 46, 47, 48] (sp 62 [(4, .s (.sla 1 2 l.length)), (5, n8 (sumN (l.take l.length))), (46, .s (.sla 1 2 l.length)), (47, iN l.length), (48, iN l.length)]) 3 [(1, some (yB l 2))] (.exit 2) (sp 62 [(4, .s (.sla 1 2 l.length)), (5, n8 (sumN (l.take l.length))), (46, .s (.sla 1 2 l.length)), (47, iN l.length), (48, iN l.length)]) [(1, some (yB l 2))] := by
  refine ⟨[.dec false], _, _, _, _, _, rfl, ?_, rfl, ⟨rfl, trivial⟩⟩
  simp only [true_and, and_true, decide_eq_false_iff_not]; omega
set_option maxHeartbeats 1000000 in
theorem enc_s (t : Tb) (h : t.fit) : SC Tryd.prog 15 [tV t] 0 [] (encV t) 0 [] := by
  have g1 := valid_s t h
  cases hv : validB t with
  | false =>
    rw [hv] at g1
    rw [show encV t = .tup [.s (.str []), .s (.int .i64 1)] by simp only [encV, hv]]
    refine SC.run hm Tryd.func15 rfl [.call [] [tV t] [] (bV false) 0 []] [] rfl rfl ?_ (.inl rfl) (EndOK.plain rfl no_mem rfl rfl)
    simp only [true_and, and_true, and_assoc, decide_eq_true_eq, decide_eq_false_iff_not, ne_eq, beq_iff_eq, beq_eq_false_iff_ne, bne_eq_false_iff_eq, bne_iff_ne, bne_self_eq_false, beq_self_eq_true]
    repeat' apply And.intro
    all_goals first
      | exact True.intro
      | exact call0 g1 rfl
      | (with_reducible show _ = true; kernel_rfl)
      | (with_reducible exact rfl)
      | omega
      | (simp only [List.length_cons, List.length_nil]; omega)
      | decide
  | true =>
    rw [hv] at g1
    obtain ⟨v1, v2, v3, v4, v5, v6⟩ := valid_parts hv
    have hs := sig_len v1
    have e1 : Tryd.prog.types[5].size = 1 := by kernel_rfl
    have e2 : Tryd.prog.types[5].bytes = 1 := by kernel_rfl
    have l4 : ∀ k, (le4 k).length = 4 := fun _ => rfl
    have gn := appN_s t.sg (16 + t.bd.length) (by omega) (by omega)
    have hql := pq_len hv
    have hset := pq_set (t := t) hs
    have hsl : ((pq t).set 9 (negB (sumN (pq t)))).length = (pq t).length := List.length_set
    have hsm := sumN_lt (pq t)
    have hr : (((t.rv.toNat : Nat)) : Int) = t.rv := by omega
    have hlp := fun {env : List V} {L : Hp} {m : Nat} a b => Ex.movesT hm (env := env) (L := L) (n := m) [1, 4] (6 - t.om.length) (fun j => (sp 62 [(1, .s (.ptr (some (0, 0)))), (4, .s (.sla 1 2 (pk t j).length))])) (fun j => [(0, some (bxT t)), (1, some (yB (pk t j) 2))]) [0, 9, 10] (fun _ => [0, 4, 5]) rfl (fun _ => rfl) a b rfl (fun _ => rfl) (fun j hj => by
      have := e1_r t (pk t j) (by rw [pk_len hs]; omega)
      rw [← pk_succ] at this
      exact this) [1, 4] [0, 1, 2] rfl (fun e => by cases e) rfl (e1_l t (pk t (6 - t.om.length)) (by rw [pk_len hs]; omega))
    have hlq := fun {env : List V} {L : Hp} {m : Nat} a b => Ex.movesT hm (env := env) (L := L) (n := m) [4, 5, 46, 47, 48] (pq t).length (fun j => (sp 62 [(4, .s (.sla 1 2 (pq t).length)), (5, n8 (sumN ((pq t).take j))), (46, .s (.sla 1 2 (pq t).length)), (47, iN (pq t).length), (48, iN j)])) (fun _ => [(1, some (yB (pq t) 2))]) [0, 3, 4] (fun _ => [0, 1, 2]) rfl (fun _ => rfl) a b rfl (fun _ => rfl) (fun j hj => e2_r (pq t) (by omega) j hj) [4, 5, 46, 47, 48] [0, 1, 2] rfl (fun e => by cases e) rfl (e2_l (pq t))
    rw [show encV t = .tup [.s (.str (encB t)), .s (.int .i64 0)] by simp only [encV, hv], ← hset]
    have hfull : sumN ((pq t).take (pq t).length) = sumN (pq t) := sum_full _
    rw [hfull] at hlq
    refine SC.run hm Tryd.func15 rfl [.call [] [tV t] [] (bV true) 0 [], .num ((16 + t.bd.length : Nat) : Int), .idx 0, .idx (16 + t.bd.length), .app t.sg.length (byteS t.sg), .num ((16 + t.bd.length : Nat) : Int), .call [2, 3] [.s (.sla 0 1 t.sg.length), iN (16 + t.bd.length)] [(0, some (yB t.sg 1))] (.s (.sla 2 3 (t.sg ++ le4 (16 + t.bd.length)).length)) 4 [(0, none), (2, some (yB (t.sg ++ le4 (16 + t.bd.length)) 3))], .num ((t.rv.toNat : Nat) : Int), .app (t.sg ++ le4 (16 + t.bd.length) ++ [bt t.rv.toNat, 0]).length (byteS (t.sg ++ le4 (16 + t.bd.length) ++ [bt t.rv.toNat, 0])), .app (p0 t).length (byteS (p0 t)), .loop (.exit 0) (sp 62 [(1, .s (.ptr (some (0, 0)))), (4, .s (.sla 1 2 (pk t (6 - t.om.length)).length))]) 3 [(0, some (bxT t)), (1, some (yB (pk t (6 - t.om.length)) 2))], .app (pq t).length (byteS (pq t)), .loop (.exit 2) (sp 62 [(4, .s (.sla 1 2 (pq t).length)), (5, n8 (sumN (pq t))), (46, .s (.sla 1 2 (pq t).length)), (47, iN (pq t).length), (48, iN (pq t).length)]) 3 [(1, some (yB (pq t) 2))], .num (((negB (sumN (pq t))).toNat : Nat) : Int), .idx 9, .cells (byteS ((pq t).set 9 (negB (sumN (pq t))))), .val (sV ((pq t).set 9 (negB (sumN (pq t)))))] [] rfl rfl ?_ (.inl rfl) (EndOK.plain rfl no_mem rfl rfl)
    simp only [true_and, and_true, and_assoc]
    have q8 : (t.sg ++ le4 (16 + t.bd.length)).length = 8 := by rw [List.length_append, hs]; rfl
    have q10 : (t.sg ++ le4 (16 + t.bd.length) ++ [bt t.rv.toNat, 0]).length = 10 := by rw [List.length_append, q8]; rfl
    have qp := p0_len (t := t) hs
    repeat' apply And.intro
    all_goals try rw [e1]
    all_goals try rw [e2]
    all_goals first
      | exact True.intro
      | exact call0 g1 rfl
      | exact ⟨gn, rfl, Fits.of rfl rfl ⟨⟨rfl, _, rfl, rfl, fun h => h⟩, trivial⟩⟩
      | exact hlp rfl ⟨rfl, rfl, trivial⟩
      | exact hlq rfl ⟨rfl, trivial⟩
      | exact neg_cell _ hsm
      | exact rep_len _
      | exact y_app0 _ _
      | exact y_app2 _ (by omega)
      | exact y_appT _ _
      | exact y_le _
      | exact y_set _ _ _
      | exact y_all hsl.symm
      | exact hsl.symm
      | exact List.length_append
      | exact y_fit _ _ rfl
      | (with_reducible show _ = true; kernel_rfl)
      | (with_reducible exact rfl)
      | (rw [i64_in] <;> omega)
      | (rw [u8_in] <;> omega)
      | omega
      | (show 9 + 1 ≤ (byteS (pq t)).length; rw [yB_len]; omega)
      | exact Nat.le_refl 2
      | decide
      | rfl
      | (intro e; cases e)

end Go.Proofs.YtmkemodgbhaglaaDoor
