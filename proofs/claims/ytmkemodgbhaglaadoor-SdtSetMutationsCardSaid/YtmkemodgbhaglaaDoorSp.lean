/-
  tables; EncodeSet of the reference.
-/
import Derived.Test.YtmkemodgbhaglaaDoorSn
set_option linter.unusedSimpArgs false
set_option linter.unusedVariables false
namespace Go.Proofs.YtmkemodgbhaglaaDoor
open Go Ab
set_option maxRecDepth 100000

/-- a list of tables that came in -/
def bI (ty : TypeId) (l : List Tb) : Bl := { cells := cellsT l, ty, more := true, ro := true, sym := true, flat := true }
theorem i_ld (ty : TypeId) (l : List Tb) {j : Nat} (h : j < l.length) : ldAt true 4 (bI ty l) (plus 0 (times j 4)) = some (.agg (tC (l.getD j tb0))) := by
  have := z_ld l 0 h
  exact this
def tabs (l : List Tb) : Nat → List Tb
  | 0 => []
  | j + 1 => tabs l j ++ [tabM (l.getD j tb0)]
theorem tabs_len (l : List Tb) : ∀ j, (tabs l j).length = j
  | 0 => rfl
  | j + 1 => by simp only [tabs, List.length_append, tabs_len l j, List.length_singleton]
theorem tabs_at (l : List Tb) : ∀ k j, j < k → (tabs l k).getD j tb0 = tabM (l.getD j tb0)
  | k + 1, j, h => by
    simp only [tabs, List.getD_eq_getElem?_getD]
    rcases Nat.lt_succ_iff_lt_or_eq.1 h with h | rfl
    · rw [List.getElem?_append_left (by rw [tabs_len]; exact h)]
      have := tabs_at l k j h
      simp only [List.getD_eq_getElem?_getD] at this
      exact this
    · rw [List.getElem?_append_right (by rw [tabs_len]; exact Nat.le_refl _), tabs_len, Nat.sub_self]; rfl
theorem tab_a (ty : TypeId) (l : List Tb) (j : Nat) (hj : j < l.length) (h18 : j < 18) (hf : (l.getD j tb0).fit) :
    Rnd Tryd.prog 1 ((Tryd.f21.body.bind fstLoop).getD .skip) [0, 4, 5] [0, 3, 4] (sp 24 [(0, (.s (.slc (some (0, 0)) l.length none))), (3, (.s (.slc none 0 (some 0)))), (4, iN j)]) 3 [(0, some (bI ty l))] (sp 24 [(0, (.s (.slc (some (0, 0)) l.length none))), (3, (.s (.sla 1 2 ([tabM (l.getD j tb0)] : List Tb).length))), (4, iN (j + 1))]) [(0, some (bI ty l)), (1, some (zB ([tabM (l.getD j tb0)] : List Tb) 2))] := by
  have a1 := i_ld ty l hj
  have g1 := table_s _ hf
  have e1 : Tryd.prog.types[23].size = 4 := by kernel_rfl
  have e2 : Tryd.prog.types[23].bytes = 56 := by kernel_rfl
  refine ⟨[.dec true, .dec true, .idx j, .val (.agg (tC (l.getD j tb0))), .call [] [tV (l.getD j tb0)] [] (tV (tabM (l.getD j tb0))) 0 [], .app ([tabM (l.getD j tb0)] : List Tb).length (cellsT ([tabM (l.getD j tb0)] : List Tb)), .num ((j + 1 : Nat) : Int)], _, _, _, _, _, rfl, ?_, rfl, ⟨rfl, rfl, trivial⟩⟩
  simp only [true_and, and_true, and_assoc, decide_eq_true_eq, decide_eq_false_iff_not, ne_eq, beq_iff_eq, beq_eq_false_iff_ne, bne_eq_false_iff_eq, bne_iff_ne, bne_self_eq_false, beq_self_eq_true]
  repeat' apply And.intro
  all_goals try rw [e1]
  all_goals try rw [e2]
  all_goals first
    | exact True.intro
    | exact call0 g1 rfl
    | exact a1
    | (with_reducible show _ = true; kernel_rfl)
    | (with_reducible exact rfl)
    | exact cT_app x _ _ rfl
    | exact ap_len _ _
    | (rw [List.length_append, List.length_singleton]; omega)
    | (simp [zB, cellsT_len, rep]; done)
    | (rw [i64_in] <;> omega)
    | omega
    | decide
    | exact Nat.le_refl _
    | rfl
    | (intro e; cases e)
    | (intro _; exact Nat.le_refl _)
theorem tab_b (ty : TypeId) (l : List Tb) (x : List Tb) (hx : x.length ≤ 18) (j : Nat) (hj : j < l.length) (h18 : j < 18) (hf : (l.getD j tb0).fit) :
    Rnd Tryd.prog 1 ((Tryd.f21.body.bind fstLoop).getD .skip) [0, 4, 5] [0, 3, 4] (sp 24 [(0, (.s (.slc (some (0, 0)) l.length none))), (3, (.s (.sla 1 2 x.length))), (4, iN j)]) 3 [(0, some (bI ty l)), (1, some (zB x 2))] (sp 24 [(0, (.s (.slc (some (0, 0)) l.length none))), (3, (.s (.sla 1 2 (x ++ [tabM (l.getD j tb0)]).length))), (4, iN (j + 1))]) [(0, some (bI ty l)), (1, some (zB (x ++ [tabM (l.getD j tb0)]) 2))] := by
  have a1 := i_ld ty l hj
  have g1 := table_s _ hf
  have e1 : Tryd.prog.types[23].size = 4 := by kernel_rfl
  have e2 : Tryd.prog.types[23].bytes = 56 := by kernel_rfl
  refine ⟨[.dec true, .dec true, .idx j, .val (.agg (tC (l.getD j tb0))), .call [] [tV (l.getD j tb0)] [] (tV (tabM (l.getD j tb0))) 0 [], .app (x ++ [tabM (l.getD j tb0)]).length (cellsT (x ++ [tabM (l.getD j tb0)])), .num ((j + 1 : Nat) : Int)], _, _, _, _, _, rfl, ?_, rfl, ⟨rfl, rfl, trivial⟩⟩
  simp only [true_and, and_true, and_assoc, decide_eq_true_eq, decide_eq_false_iff_not, ne_eq, beq_iff_eq, beq_eq_false_iff_ne, bne_eq_false_iff_eq, bne_iff_ne, bne_self_eq_false, beq_self_eq_true]
  repeat' apply And.intro
  all_goals try rw [e1]
  all_goals try rw [e2]
  all_goals first
    | exact True.intro
    | exact call0 g1 rfl
    | exact a1
    | (with_reducible show _ = true; kernel_rfl)
    | (with_reducible exact rfl)
    | exact cT_app x _ _ rfl
    | exact ap_len _ _
    | (rw [List.length_append, List.length_singleton]; omega)
    | (simp [zB, cellsT_len, rep]; done)
    | (rw [i64_in] <;> omega)
    | omega
    | decide
    | exact Nat.le_refl _
    | rfl
    | (intro e; cases e)
    | (intro _; exact Nat.le_refl _)
theorem tab_z (ty : TypeId) (l x : List Tb) (j : Nat) (hj : ¬ (j < l.length ∧ j < 18)) : Lst Tryd.prog 1 ((Tryd.f21.body.bind fstLoop).getD .skip) [0, 1, 2] [0, 3, 4] (sp 24 [(0, (.s (.slc (some (0, 0)) l.length none))), (3, (.s (.sla 1 2 x.length))), (4, iN j)]) 3 [(0, some (bI ty l)), (1, some (zB x 2))] (.exit 0) (sp 24 [(0, (.s (.slc (some (0, 0)) l.length none))), (3, (.s (.sla 1 2 x.length))), (4, iN j)]) [(0, some (bI ty l)), (1, some (zB x 2))] := by
  by_cases h : j < l.length
  · refine ⟨[.dec true, .dec false], _, _, _, _, _, rfl, ?_, rfl, ⟨rfl, rfl, trivial⟩⟩
    simp only [true_and, and_true, decide_eq_false_iff_not, decide_eq_true_eq]
    repeat' apply And.intro
    all_goals omega
  · refine ⟨[.dec false], _, _, _, _, _, rfl, ?_, rfl, ⟨rfl, rfl, trivial⟩⟩
    simp only [true_and, and_true, decide_eq_false_iff_not, decide_eq_true_eq]
    omega
def e21 (l : List Tb) : Nat → List V
  | 0 => (sp 24 [(0, (.s (.slc (some (0, 0)) l.length none))), (3, (.s (.slc none 0 (some 0)))), (4, iN 0)])
  | j + 1 => (sp 24 [(0, (.s (.slc (some (0, 0)) l.length none))), (3, (.s (.sla 1 2 (tabs l (j + 1)).length))), (4, iN (j + 1))])
def h21 (ty : TypeId) (l : List Tb) : Nat → Hp
  | 0 => [(0, some (bI ty l))]
  | j + 1 => [(0, some (bI ty l)), (1, some (zB (tabs l (j + 1)) 2))]
theorem r21 (ty : TypeId) (l : List Tb) (hf : ∀ j, j < l.length → (l.getD j tb0).fit) (j : Nat) (hj : j < l.length) (h18 : j < 18) : Rnd Tryd.prog 1 ((Tryd.f21.body.bind fstLoop).getD .skip) [0, 4, 5] [0, 3, 4] (e21 l j) 3 (h21 ty l j) (e21 l (j + 1)) (h21 ty l (j + 1)) := by
  cases j with
  | zero => exact tab_a ty l 0 hj h18 (hf 0 hj)
  | succ j => exact tab_b ty l (tabs l (j + 1)) (by rw [tabs_len]; omega) (j + 1) hj h18 (hf _ hj)
theorem tab_s (ty : TypeId) (l : List Tb) (hf : ∀ j, j < l.length → (l.getD j tb0).fit) (k : Nat) (hk : k + 1 = min l.length 18) : SC Tryd.prog 21 [(.s (.slc (some (0, 0)) l.length none))] 1 [(0, some (bI ty l))] (.s (.sla 1 2 (tabs l (k + 1)).length)) 3 [(0, some (bI ty l)), (1, some (zB (tabs l (k + 1)) 2))] := by
  refine SC.run hm Tryd.func21 rfl [.loop (.exit 0) (sp 24 [(0, (.s (.slc (some (0, 0)) l.length none))), (3, (.s (.sla 1 2 (tabs l (k + 1)).length))), (4, iN (k + 1))]) 3 [(0, some (bI ty l)), (1, some (zB (tabs l (k + 1)) 2))]] [1, 2] rfl rfl ?_ (.inl rfl) (EndOK.by rfl ⟨rfl, rfl, trivial⟩ rfl rfl rfl rfl)
  simp only [true_and, and_true, bne_self_eq_false, bne_eq_false_iff_eq]
  exact Ex.movesT hm [0, 3, 4] (k + 1) (e21 l) (h21 ty l) [0, 1, 2] (fun _ => [0, 4, 5]) rfl (fun _ => rfl) rfl ⟨rfl, trivial⟩ rfl (fun _ => rfl) (fun j hj => r21 ty l hf j (by omega) (by omega)) [0, 3, 4] [0, 1, 2] rfl (fun e => by cases e) rfl (tab_z ty l _ _ (by omega))
theorem tab_nil : SC Tryd.prog 21 [(.s (.slc none 0 (some 0)))] 0 [] (.s (.slc none 0 (some 0))) 0 [] := by
  have hL : Lst Tryd.prog 0 ((Tryd.f21.body.bind fstLoop).getD .skip) [] [0, 3, 4] (sp 24 [(0, (.s (.slc none 0 (some 0)))), (3, (.s (.slc none 0 (some 0)))), (4, iN 0)]) 0 [] (.exit 0) (sp 24 [(0, (.s (.slc none 0 (some 0)))), (3, (.s (.slc none 0 (some 0)))), (4, iN 0)]) [] := by
    refine ⟨[.dec false], _, _, _, _, _, rfl, ?_, rfl, trivial⟩
    simp only [true_and, and_true, decide_eq_false_iff_not]
    first | omega | decide
  refine SC.run hm Tryd.func21 rfl [.loop (.exit 0) (sp 24 [(0, (.s (.slc none 0 (some 0)))), (3, (.s (.slc none 0 (some 0)))), (4, iN 0)]) 0 []] [] rfl rfl ?_ (.inl rfl) (EndOK.plain rfl no_mem rfl rfl)
  simp only [true_and, and_true, bne_self_eq_false, bne_eq_false_iff_eq]
  exact Ex.movesT hm [0, 3, 4] 0 (fun _ => (sp 24 [(0, (.s (.slc none 0 (some 0)))), (3, (.s (.slc none 0 (some 0)))), (4, iN 0)])) (fun _ => []) [] (fun _ => []) rfl (fun _ => rfl) rfl trivial rfl (fun _ => rfl) (fun j hj => absurd hj (Nat.not_lt_zero _)) [0, 3, 4] [] rfl (fun e => by cases e) rfl hL
theorem tab_emp : SC Tryd.prog 21 [(.s .emp)] 0 [] (.s (.slc none 0 (some 0))) 0 [] := by
  have hL : Lst Tryd.prog 0 ((Tryd.f21.body.bind fstLoop).getD .skip) [] [0, 3, 4] (sp 24 [(0, (.s .emp)), (3, (.s (.slc none 0 (some 0)))), (4, iN 0)]) 0 [] (.exit 0) (sp 24 [(0, (.s .emp)), (3, (.s (.slc none 0 (some 0)))), (4, iN 0)]) [] := by
    refine ⟨[.dec false], _, _, _, _, _, rfl, ?_, rfl, trivial⟩
    simp only [true_and, and_true, decide_eq_false_iff_not]
    first | omega | decide
  refine SC.run hm Tryd.func21 rfl [.loop (.exit 0) (sp 24 [(0, (.s .emp)), (3, (.s (.slc none 0 (some 0)))), (4, iN 0)]) 0 []] [] rfl rfl ?_ (.inl rfl) (EndOK.plain rfl no_mem rfl rfl)
  simp only [true_and, and_true, bne_self_eq_false, bne_eq_false_iff_eq]
  exact Ex.movesT hm [0, 3, 4] 0 (fun _ => (sp 24 [(0, (.s .emp)), (3, (.s (.slc none 0 (some 0)))), (4, iN 0)])) (fun _ => []) [] (fun _ => []) rfl (fun _ => rfl) rfl trivial rfl (fun _ => rfl) (fun j hj => absurd hj (Nat.not_lt_zero _)) [0, 3, 4] [] rfl (fun e => by cases e) rfl hL
theorem tab_0 (ty : TypeId) : SC Tryd.prog 21 [(.s (.slc (some (0, 0)) 0 none))] 1 [(0, some (bI ty []))] (.s (.slc none 0 (some 0))) 1 [(0, some (bI ty []))] := by
  have hL : Lst Tryd.prog 1 ((Tryd.f21.body.bind fstLoop).getD .skip) [0] [0, 3, 4] (sp 24 [(0, (.s (.slc (some (0, 0)) 0 none))), (3, (.s (.slc none 0 (some 0)))), (4, iN 0)]) 1 [(0, some (bI ty []))] (.exit 0) (sp 24 [(0, (.s (.slc (some (0, 0)) 0 none))), (3, (.s (.slc none 0 (some 0)))), (4, iN 0)]) [(0, some (bI ty []))] := by
    refine ⟨[.dec false], _, _, _, _, _, rfl, ?_, rfl, ⟨rfl, trivial⟩⟩
    simp only [true_and, and_true, decide_eq_false_iff_not]
    first | omega | decide
  refine SC.run hm Tryd.func21 rfl [.loop (.exit 0) (sp 24 [(0, (.s (.slc (some (0, 0)) 0 none))), (3, (.s (.slc none 0 (some 0)))), (4, iN 0)]) 1 [(0, some (bI ty []))]] [] rfl rfl ?_ (.inl rfl) (EndOK.by rfl ⟨rfl, trivial⟩ rfl rfl rfl rfl)
  simp only [true_and, and_true, bne_self_eq_false, bne_eq_false_iff_eq]
  exact Ex.movesT hm [0, 3, 4] 0 (fun _ => (sp 24 [(0, (.s (.slc (some (0, 0)) 0 none))), (3, (.s (.slc none 0 (some 0)))), (4, iN 0)])) (fun _ => [(0, some (bI ty []))]) [0] (fun _ => [0]) rfl (fun _ => rfl) rfl ⟨rfl, trivial⟩ rfl (fun _ => rfl) (fun j hj => absurd hj (Nat.not_lt_zero _)) [0, 3, 4] [0] rfl (fun e => by cases e) rfl hL
theorem z_ldf (l : List Tb) (g : Nat) {j : Nat} (h : j < l.length) : ldAt false 1 (zB l g) (plus (plus 0 (times j 4)) 0) = some (sV (l.getD j tb0).sg) := by
  have h1 := cT_at l j h
  have h2 := cellsT_len l
  rw [plus_eq, plus_eq, times_eq, Nat.zero_add, Nat.add_zero]
  simp only [ldAt, zB]
  have : (cellsT l)[j * 4]? = (tC (l.getD j tb0))[0]? := by
    rw [← h1, List.getElem?_take_of_lt (by decide), List.getElem?_drop, Nat.add_zero]
  rw [this]
  rfl
theorem rs_r (l : List Tb) (j : Nat) (hj : j < l.length) (h16 : l.length ≤ 16) (hf : (l.getD j tb0).fit) (hg : ∀ i, i < j + 1 → goodT (l.getD i tb0) = true) :
    Rnd Tryd.prog 2 ((Tryd.f20.body.bind fstLoop).getD .skip) [0, 1] [0, 4, 5, 6] (sp 65 [(0, (.s (.sla 0 1 l.length))), (4, sV (ofs l l.length j)), (5, sV (rst l j)), (6, iN j)]) 2 [(0, some (zB l 1))] (sp 65 [(0, (.s (.sla 0 1 l.length))), (4, sV (ofs l l.length (j + 1))), (5, sV (rst l (j + 1))), (6, iN (j + 1))]) [(0, some (zB l 1))] := by
  have a1 := z_ld l 1 hj
  have a2 := z_ldf l 1 hj
  obtain ⟨v, hne⟩ := good_parts (hg j (by omega))
  have hb := rst_le l j fun i hi => hg i (by omega)
  have g1 := renc_s _ hf
  rw [show encV (l.getD j tb0) = .tup [.s (.str (encB (l.getD j tb0))), .s (.int .i64 0)] by simp only [encV, v]] at g1
  have g2 := four_s (16 + 4 * l.length + (rst l j).length) (by omega)
  have q1 := ofs_len l l.length j
  have q2 := enc_len v
  obtain ⟨_, _, _, _, _, q3⟩ := valid_parts v
  have q4 : (le4 (16 + 4 * l.length + (rst l j).length)).length = 4 := rfl
  refine ⟨[.dec true, .idx j, .val (.agg (tC (l.getD j tb0))), .call [] [tV (l.getD j tb0)] [] (.tup [.s (.str (encB (l.getD j tb0))), .s (.int .i64 0)]) 0 [], .idx j, .val (sV (l.getD j tb0).sg), .dec false, .num ((4 * l.length : Nat) : Int), .num ((16 + 4 * l.length : Nat) : Int), .num ((16 + 4 * l.length + (rst l j).length : Nat) : Int), .call [] [iN (16 + 4 * l.length + (rst l j).length)] [] (sV (le4 (16 + 4 * l.length + (rst l j).length))) 0 [], .num ((j + 1 : Nat) : Int)], _, _, _, _, _, rfl, ?_, rfl, ⟨rfl, trivial⟩⟩
  simp only [true_and, and_true, and_assoc, decide_eq_true_eq, decide_eq_false_iff_not, ne_eq, beq_iff_eq, beq_eq_false_iff_ne, bne_eq_false_iff_eq, bne_iff_ne, bne_self_eq_false, beq_self_eq_true]
  repeat' apply And.intro
  all_goals first
    | exact True.intro
    | exact call0 g1 rfl
    | exact call0 g2 rfl
    | exact a1
    | exact a2
    | exact hne
    | exact decide_eq_false hne
    | exact decide_eq_true hne
    | (with_reducible show _ = true; kernel_rfl)
    | (with_reducible exact rfl)
    | (rw [i64_in] <;> omega)
    | omega
    | decide
    | rfl
theorem rs_l (l : List Tb) : Lst Tryd.prog 2 ((Tryd.f20.body.bind fstLoop).getD .skip) [0, 1] [0, 4, 5, 6] (sp 65 [(0, (.s (.sla 0 1 l.length))), (4, sV (ofs l l.length l.length)), (5, sV (rst l l.length)), (6, iN l.length)]) 2 [(0, some (zB l 1))] (.exit 0) (sp 65 [(0, (.s (.sla 0 1 l.length))), (4, sV (ofs l l.length l.length)), (5, sV (rst l l.length)), (6, iN l.length)]) [(0, some (zB l 1))] := by
  refine ⟨[.dec false], _, _, _, _, _, rfl, ?_, rfl, ⟨rfl, trivial⟩⟩
  simp only [true_and, and_true, decide_eq_false_iff_not]
  omega
theorem rs_x1 (l : List Tb) (j : Nat) (hj : j < l.length) (hf : (l.getD j tb0).fit) (v : validB (l.getD j tb0) = false) :
    Lst Tryd.prog 2 ((Tryd.f20.body.bind fstLoop).getD .skip) [0, 1] [2, 3] (sp 65 [(0, (.s (.sla 0 1 l.length))), (4, sV (ofs l l.length j)), (5, sV (rst l j)), (6, iN j)]) 2 [(0, some (zB l 1))] .ret (sp 65 [(2, sV []), (3, .s (.int .i64 1))]) [(0, some (zB l 1))] := by
  have a1 := z_ld l 1 hj
  have g1 := renc_s _ hf
  rw [show encV (l.getD j tb0) = .tup [.s (.str []), .s (.int .i64 1)] by simp only [encV, v]] at g1
  refine ⟨[.dec true, .idx j, .val (.agg (tC (l.getD j tb0))), .call [] [tV (l.getD j tb0)] [] (.tup [.s (.str []), .s (.int .i64 1)]) 0 []], _, _, _, _, _, rfl, ?_, rfl, ⟨rfl, trivial⟩⟩
  simp only [true_and, and_true, and_assoc, decide_eq_true_eq, decide_eq_false_iff_not, ne_eq, beq_iff_eq, beq_eq_false_iff_ne, bne_eq_false_iff_eq, bne_iff_ne, bne_self_eq_false, beq_self_eq_true]
  repeat' apply And.intro
  all_goals first
    | exact True.intro
    | exact call0 g1 rfl
    | exact a1
    | exact a2
    | exact hne
    | exact decide_eq_false hne
    | exact decide_eq_true hne
    | (with_reducible show _ = true; kernel_rfl)
    | (with_reducible exact rfl)
    | (rw [i64_in] <;> omega)
    | omega
    | decide
    | rfl
theorem rs_x2 (l : List Tb) (j : Nat) (hj : j < l.length) (hf : (l.getD j tb0).fit) (v : validB (l.getD j tb0) = true) (hne : (l.getD j tb0).sg = rsdt) :
    Lst Tryd.prog 2 ((Tryd.f20.body.bind fstLoop).getD .skip) [0, 1] [2, 3] (sp 65 [(0, (.s (.sla 0 1 l.length))), (4, sV (ofs l l.length j)), (5, sV (rst l j)), (6, iN j)]) 2 [(0, some (zB l 1))] .ret (sp 65 [(2, sV []), (3, .s (.int .i64 1))]) [(0, some (zB l 1))] := by
  have a1 := z_ld l 1 hj
  have a2 := z_ldf l 1 hj
  have g1 := renc_s _ hf
  rw [show encV (l.getD j tb0) = .tup [.s (.str (encB (l.getD j tb0))), .s (.int .i64 0)] by simp only [encV, v]] at g1
  refine ⟨[.dec true, .idx j, .val (.agg (tC (l.getD j tb0))), .call [] [tV (l.getD j tb0)] [] (.tup [.s (.str (encB (l.getD j tb0))), .s (.int .i64 0)]) 0 [], .idx j, .val (sV (l.getD j tb0).sg), .dec true], _, _, _, _, _, rfl, ?_, rfl, ⟨rfl, trivial⟩⟩
  simp only [true_and, and_true, and_assoc, decide_eq_true_eq, decide_eq_false_iff_not, ne_eq, beq_iff_eq, beq_eq_false_iff_ne, bne_eq_false_iff_eq, bne_iff_ne, bne_self_eq_false, beq_self_eq_true]
  repeat' apply And.intro
  all_goals first
    | exact True.intro
    | exact call0 g1 rfl
    | exact a1
    | exact a2
    | exact hne
    | exact decide_eq_false hne
    | exact decide_eq_true hne
    | (with_reducible show _ = true; kernel_rfl)
    | (with_reducible exact rfl)
    | (rw [i64_in] <;> omega)
    | omega
    | decide
    | rfl
theorem dir_fit {b : By} (h : b.length ≤ 64) : (dirT b).fit := ⟨by show rsdt.length < _; decide, by show plat.length < _; decide, by show b.length < _; omega, by show -9223372036854775808 ≤ (1 : Int); decide, by show (1 : Int) ≤ _; decide⟩
theorem rset_nil : SC Tryd.prog 20 [(.s (.slc none 0 (some 0)))] 0 [] (.tup [.s (.str []), .s (.int .i64 1)]) 0 [] := by
  refine SC.run hm Tryd.func20 rfl [.dec true] [] rfl rfl ?_ (.inl rfl) (EndOK.plain rfl no_mem rfl rfl)
  simp only [true_and, and_true, and_assoc, decide_eq_true_eq, decide_eq_false_iff_not, ne_eq, beq_iff_eq, beq_eq_false_iff_ne, bne_eq_false_iff_eq, bne_iff_ne, bne_self_eq_false, beq_self_eq_true]
  decide
theorem rset_long (l : List Tb) (h : 16 < l.length) : SC Tryd.prog 20 [(.s (.sla 0 1 l.length))] 2 [(0, some (zB l 1))] (.tup [.s (.str []), .s (.int .i64 1)]) 2 [(0, some (zB l 1))] := by
  refine SC.run hm Tryd.func20 rfl [.dec false, .dec true] [] rfl rfl ?_ (.inl rfl) (EndOK.by rfl ⟨rfl, trivial⟩ rfl rfl rfl rfl)
  simp only [true_and, and_true, and_assoc, decide_eq_true_eq, decide_eq_false_iff_not, ne_eq, beq_iff_eq, beq_eq_false_iff_ne, bne_eq_false_iff_eq, bne_iff_ne, bne_self_eq_false, beq_self_eq_true]
  repeat' apply And.intro
  all_goals omega
theorem rset_bad (l : List Tb) (h1 : 1 ≤ l.length) (h16 : l.length ≤ 16) (hf : ∀ j, j < l.length → (l.getD j tb0).fit) (k : Nat) (hk : k < l.length) (hg : ∀ i, i < k → goodT (l.getD i tb0) = true) (hb : goodT (l.getD k tb0) = false) : SC Tryd.prog 20 [(.s (.sla 0 1 l.length))] 2 [(0, some (zB l 1))] (.tup [.s (.str []), .s (.int .i64 1)]) 2 [(0, some (zB l 1))] := by
  refine SC.run hm Tryd.func20 rfl [.dec false, .dec false, .loop .ret (sp 65 [(2, sV []), (3, .s (.int .i64 1))]) 2 [(0, some (zB l 1))]] [] rfl rfl ?_ (.inl rfl) (EndOK.by rfl ⟨rfl, trivial⟩ rfl rfl rfl rfl)
  simp only [true_and, and_true, and_assoc, decide_eq_true_eq, decide_eq_false_iff_not, ne_eq, beq_iff_eq, beq_eq_false_iff_ne, bne_eq_false_iff_eq, bne_iff_ne, bne_self_eq_false, beq_self_eq_true]
  repeat' apply And.intro
  all_goals first
    | omega
    | refine Ex.movesT hm [0, 4, 5, 6] k (fun j => (sp 65 [(0, (.s (.sla 0 1 l.length))), (4, sV (ofs l l.length j)), (5, sV (rst l j)), (6, iN j)])) (fun _ => [(0, some (zB l 1))]) [0, 1] (fun _ => [0, 1]) rfl (fun _ => rfl) rfl ⟨rfl, trivial⟩ rfl (fun _ => rfl) (fun j hj => rs_r l j (by omega) h16 (hf j (by omega)) fun i hi => hg i (by omega)) [2, 3] [0, 1] rfl (fun e => by cases e) rfl ?_
  rcases good_bad hb with v | ⟨v, hne⟩
  · exact rs_x1 l k hk (hf k hk) v
  · exact rs_x2 l k hk (hf k hk) v hne
theorem rset_ok (l : List Tb) (h : setOK l) (hf : ∀ j, j < l.length → (l.getD j tb0).fit) : SC Tryd.prog 20 [(.s (.sla 0 1 l.length))] 2 [(0, some (zB l 1))] (.tup [.s (.str (encSet l)), .s (.int .i64 0)]) 2 [(0, some (zB l 1))] := by
  have h1 := h.lo
  have h2 := h.hi
  have ho := ofs_len l l.length l.length
  have q1 := dir_len (b := ofs l l.length l.length) (by omega)
  have q2 := rst_le l l.length h.all
  have g1 := renc_s (dirT (ofs l l.length l.length)) (dir_fit (by omega))
  rw [show encV (dirT (ofs l l.length l.length)) = .tup [.s (.str (encB (dirT (ofs l l.length l.length)))), .s (.int .i64 0)] by simp only [encV, dir_ok (ofs l l.length l.length) (by omega)]] at g1
  refine SC.run hm Tryd.func20 rfl [.dec false, .dec false, .loop (.exit 0) (sp 65 [(0, (.s (.sla 0 1 l.length))), (4, sV (ofs l l.length l.length)), (5, sV (rst l l.length)), (6, iN l.length)]) 2 [(0, some (zB l 1))], .call [] [tV (dirT (ofs l l.length l.length))] [] (.tup [.s (.str (encB (dirT (ofs l l.length l.length)))), .s (.int .i64 0)]) 0 []] [] rfl rfl ?_ (.inl rfl) (EndOK.by rfl ⟨rfl, trivial⟩ rfl rfl rfl rfl)
  simp only [true_and, and_true, and_assoc, decide_eq_true_eq, decide_eq_false_iff_not, ne_eq, beq_iff_eq, beq_eq_false_iff_ne, bne_eq_false_iff_eq, bne_iff_ne, bne_self_eq_false, beq_self_eq_true]
  repeat' apply And.intro
  all_goals first
    | exact True.intro
    | exact call0 g1 rfl
    | omega
    | exact Ex.movesT hm [0, 4, 5, 6] l.length (fun j => (sp 65 [(0, (.s (.sla 0 1 l.length))), (4, sV (ofs l l.length j)), (5, sV (rst l j)), (6, iN j)])) (fun _ => [(0, some (zB l 1))]) [0, 1] (fun _ => [0, 1]) rfl (fun _ => rfl) rfl ⟨rfl, trivial⟩ rfl (fun _ => rfl) (fun j hj => rs_r l j (by omega) h2 (hf j (by omega)) fun i hi => h.all i (by omega)) [0, 4, 5, 6] [0, 1] rfl (fun e => by cases e) rfl (rs_l l)
    | (with_reducible show _ = true; kernel_rfl)
    | (with_reducible exact rfl)
    | rfl

end Go.Proofs.YtmkemodgbhaglaaDoor
