/-
  DecodeSet of an encoded set; SdtSets: it returns true.
-/
import Derived.Test.YtmkemodgbhaglaaDoorSq
set_option linter.unusedSimpArgs false
set_option linter.unusedVariables false
namespace Go.Proofs.YtmkemodgbhaglaaDoor
open Go Ab
set_option maxRecDepth 100000

theorem dset_gen (s : By) (hs : s.length < 9223372036854775808) (T : Tb) (p0 e : Nat) (hdec : decB s = (T, p0, e)) (he : e = 0) (h1 : T.sg = [82, 83, 68, 84]) (h2 : T.rv = 1) (h3 : T.om = [80, 76, 65, 84, 70, 87]) (h4 : ¬ T.bd = []) (h5 : T.bd.length % 4 = 0) (h7 : T.bd.length / 4 ≤ 16)
    (hall : ∀ j, j < T.bd.length / 4 → errJ s T.bd p0 j = 0) (hend : (got s T.bd p0 (T.bd.length / 4)).2 = s.length) :
    SC Tryd.prog 23 [sV s] 0 [] (.tup [.s (.sla 0 1 (got s T.bd p0 (T.bd.length / 4)).1.length), .s (.int .i64 0)]) 2 [(0, some (zB (got s T.bd p0 (T.bd.length / 4)).1 1))] := by
  have g1 := dec_s s hs
  unfold decV at g1
  have hdl := dec_len (s := s)
  rw [hdec] at g1 hdl
  dsimp only at g1 hdl
  have t4 : Int.tmod ((T.bd.length : Nat) : Int) 4 = ((T.bd.length % 4 : Nat) : Int) := rfl
  have d4 : Int.tdiv ((T.bd.length : Nat) : Int) 4 = ((T.bd.length / 4 : Nat) : Int) := rfl
  have hp := (hdl he).1
  have hbl : T.bd.length ≤ 65536 := by
    have := dec_bd (s := s)
    rw [hdec] at this
    exact this he
  have wq : IntKind.i64.wrap ((T.bd.length / 4 : Nat) : Int) = ((T.bd.length / 4 : Nat) : Int) := by rw [i64_in] <;> omega
  have h4p := List.length_pos_iff.2 h4
  have hd : T.bd.length = 4 * (T.bd.length / 4) := by omega
  have h1n : 1 ≤ T.bd.length / 4 := by omega
  have e2 : Tryd.prog.types[23].bytes = 56 := by kernel_rfl
  refine SC.run hm Tryd.func23 rfl [.call [] [sV s] [] (.tup [.agg (tC T), .s (.int .i64 ((p0 : Nat) : Int)), .s (.int .i64 ((e : Nat) : Int))]) 0 [], .dec false, .dec false, .dec false, .dec false, .dec false, .num ((T.bd.length % 4 : Nat) : Int), .dec false, .num ((T.bd.length / 4 : Nat) : Int), .dec false, .num ((T.bd.length / 4 : Nat) : Int), .idx 0, .idx (T.bd.length / 4), .loop (.exit 0) (sp 90 [(0, sV s), (5, iN (got s T.bd p0 (T.bd.length / 4)).2), (7, sV []), (8, (.s (.sla 1 2 (got s T.bd p0 (T.bd.length / 4)).1.length)))]) 3 [(1, some (zB (got s T.bd p0 (T.bd.length / 4)).1 2))], .dec false] [1, 2] rfl rfl ?_ (.inl rfl) (EndOK.by rfl ⟨rfl, trivial⟩ rfl rfl rfl rfl)
  simp only [true_and, and_true, and_assoc, decide_eq_true_eq, decide_eq_false_iff_not, ne_eq, beq_iff_eq, beq_eq_false_iff_ne, bne_eq_false_iff_eq, bne_iff_ne, bne_self_eq_false, beq_self_eq_true]
  repeat' apply And.intro
  all_goals first
    | exact True.intro
    | exact call0 (by assumption) rfl
    | (rw [d4]; exact wq)
    | exact wq
    | exact l23 s T.bd p0 (T.bd.length / 4) hs hp h7 h1n hd hall rfl ⟨rfl, trivial⟩
    | (rw [e2]; omega)
    | exact he
    | exact fun h => he (by omega)
    | (rw [decide_eq_true (by assumption)]; rfl)
    | (rw [decide_eq_false (by assumption)]; rfl)
    | exact decide_eq_true (by assumption)
    | exact decide_eq_false (by assumption)
    | assumption
    | (with_reducible show _ = true; kernel_rfl)
    | (with_reducible exact rfl)
    | omega
    | (simp only [List.length_cons, List.length_nil]; omega)
    | decide
theorem dset_ok (l : List Tb) (h : setOK l) : SC Tryd.prog 23 [sV (encSet l)] 0 [] (.tup [.s (.sla 0 1 l.length), .s (.int .i64 0)]) 2 [(0, some (zB l 1))] := by
  have h1 := h.lo
  have h2 := h.hi
  have ho := ofs_len l l.length l.length
  have hb := set_bound h
  have hn : (ofs l l.length l.length).length / 4 = l.length := by omega
  have hg := set_got h l.length (Nat.le_refl _)
  have hsl := set_len h
  have hbd : (dirT (ofs l l.length l.length)).bd = ofs l l.length l.length := rfl
  have key := dset_gen (encSet l) (by omega) (dirT (ofs l l.length l.length)) (16 + 4 * l.length) 0 (set_dec h) rfl rfl rfl rfl (by rw [hbd]; intro e; rw [e] at ho; simp at ho; omega) (by rw [hbd]; omega) (by rw [hbd]; omega)
    (by rw [hbd, hn]; exact fun j hj => set_err h hj) (by rw [hbd, hn, hg]; exact hsl.symm)
  rw [hbd, hn, hg] at key
  rw [List.take_length] at key
  exact key
theorem sets_nil : SC Tryd.prog 8 [(.s (.slc none 0 (some 0)))] 0 [] (bV true) 0 [] := by
  have tt := tab_nil 
  refine SC.run hm Tryd.func8 rfl [.call [] [(.s (.slc none 0 (some 0)))] [] (.s (.slc none 0 (some 0))) 0 [], .call [] [(.s (.slc none 0 (some 0)))] [] (.tup [.s (.str []), .s (.int .i64 1)]) 0 [], .call [] [(.s (.slc none 0 (some 0)))] [] (.tup [.s (.str []), .s (.int .i64 1)]) 0 [], .call [] [] [] (bV true) 0 []] [] rfl rfl ?_ (.inl rfl) (EndOK.plain rfl no_mem rfl rfl)
  simp only [true_and, and_true, and_assoc, decide_eq_true_eq, decide_eq_false_iff_not, ne_eq, beq_iff_eq, beq_eq_false_iff_ne, bne_eq_false_iff_eq, bne_iff_ne, bne_self_eq_false, beq_self_eq_true]
  repeat' apply And.intro
  all_goals first
    | exact True.intro
    | exact call0 awake_s rfl
    | exact call0 tt rfl
    | exact call0 eset_nil rfl
    | exact call0 rset_nil rfl
    | (with_reducible show _ = true; kernel_rfl)
    | (with_reducible exact rfl)
    | omega
    | decide
    | rfl
theorem sets_emp : SC Tryd.prog 8 [(.s .emp)] 0 [] (bV true) 0 [] := by
  have tt := tab_emp 
  refine SC.run hm Tryd.func8 rfl [.call [] [(.s .emp)] [] (.s (.slc none 0 (some 0))) 0 [], .call [] [(.s (.slc none 0 (some 0)))] [] (.tup [.s (.str []), .s (.int .i64 1)]) 0 [], .call [] [(.s (.slc none 0 (some 0)))] [] (.tup [.s (.str []), .s (.int .i64 1)]) 0 [], .call [] [] [] (bV true) 0 []] [] rfl rfl ?_ (.inl rfl) (EndOK.plain rfl no_mem rfl rfl)
  simp only [true_and, and_true, and_assoc, decide_eq_true_eq, decide_eq_false_iff_not, ne_eq, beq_iff_eq, beq_eq_false_iff_ne, bne_eq_false_iff_eq, bne_iff_ne, bne_self_eq_false, beq_self_eq_true]
  repeat' apply And.intro
  all_goals first
    | exact True.intro
    | exact call0 awake_s rfl
    | exact call0 tt rfl
    | exact call0 eset_nil rfl
    | exact call0 rset_nil rfl
    | (with_reducible show _ = true; kernel_rfl)
    | (with_reducible exact rfl)
    | omega
    | decide
    | rfl
theorem sets_0 (ty : TypeId) : SC Tryd.prog 8 [(.s (.slc (some (0, 0)) 0 none))] 1 [(0, some (bI ty []))] (bV true) 1 [(0, some (bI ty []))] := by
  have tt := tab_0 ty
  refine SC.run hm Tryd.func8 rfl [.call [0] [(.s (.slc (some (0, 0)) 0 none))] [(0, some (bI ty []))] (.s (.slc none 0 (some 0))) 1 [(0, some (bI ty []))], .call [] [(.s (.slc none 0 (some 0)))] [] (.tup [.s (.str []), .s (.int .i64 1)]) 0 [], .call [] [(.s (.slc none 0 (some 0)))] [] (.tup [.s (.str []), .s (.int .i64 1)]) 0 [], .call [] [] [] (bV true) 0 []] [] rfl rfl ?_ (.inl rfl) (EndOK.by rfl ⟨rfl, trivial⟩ rfl rfl rfl rfl)
  simp only [true_and, and_true, and_assoc, decide_eq_true_eq, decide_eq_false_iff_not, ne_eq, beq_iff_eq, beq_eq_false_iff_ne, bne_eq_false_iff_eq, bne_iff_ne, bne_self_eq_false, beq_self_eq_true]
  repeat' apply And.intro
  all_goals first
    | exact True.intro
    | exact call0 awake_s rfl
    | exact ⟨tt, rfl, Fits.of rfl rfl ⟨⟨rfl, _, rfl, rfl, fun _ => rfl⟩, trivial⟩⟩
    | exact call0 eset_nil rfl
    | exact call0 rset_nil rfl
    | (with_reducible show _ = true; kernel_rfl)
    | (with_reducible exact rfl)
    | omega
    | decide
    | rfl
theorem sets_s (ty : TypeId) (l : List Tb) (hf : ∀ j, j < l.length → (l.getD j tb0).fit) (hl : 1 ≤ l.length) : SC Tryd.prog 8 [(.s (.slc (some (0, 0)) l.length none))] 1 [(0, some (bI ty l))] (bV true) 1 [(0, some (bI ty l))] := by
  obtain ⟨k, hk⟩ : ∃ k, k + 1 = min l.length 18 := ⟨min l.length 18 - 1, by omega⟩
  have tt := tab_s ty l hf k hk
  have hx : ∀ j, j < (tabs l (k + 1)).length → ((tabs l (k + 1)).getD j tb0).fit := fun j hj => by
    rw [tabs_len] at hj
    rw [tabs_at l (k + 1) j hj]
    exact tab_fit (hf j (by omega))
  have hlen := tabs_len l (k + 1)
  have hk18 : k + 1 ≤ 18 := by omega
  generalize tabs l (k + 1) = x at *
  by_cases h16 : 16 < x.length
  · have q1 := eset_long x h16
    have q2 := rset_long x h16
    refine SC.run hm Tryd.func8 rfl [.call [0] [(.s (.slc (some (0, 0)) l.length none))] [(0, some (bI ty l))] (.s (.sla 1 2 x.length)) 3 [(0, some (bI ty l)), (1, some (zB x 2))], .call [1, 2] [.s (.sla 0 1 x.length)] [(0, some (zB x 1))] (.tup [.s (.str []), .s (.int .i64 1)]) 2 [(0, some (zB x 1))], .call [1, 2] [.s (.sla 0 1 x.length)] [(0, some (zB x 1))] (.tup [.s (.str []), .s (.int .i64 1)]) 2 [(0, some (zB x 1))], .call [] [] [] (bV true) 0 []] [] rfl rfl ?_ (.inl rfl) (EndOK.by rfl ⟨rfl, trivial⟩ rfl rfl rfl rfl)
    simp only [true_and, and_true, and_assoc, decide_eq_true_eq, decide_eq_false_iff_not, ne_eq, beq_iff_eq, beq_eq_false_iff_ne, bne_eq_false_iff_eq, bne_iff_ne, bne_self_eq_false, beq_self_eq_true]
    repeat' apply And.intro
    all_goals first
      | exact True.intro
      | exact call0 awake_s rfl
      | exact ⟨tt, rfl, Fits.of rfl rfl ⟨⟨rfl, _, rfl, rfl, fun _ => rfl⟩, trivial⟩⟩
      | exact ⟨q1, rfl, Fits.of rfl rfl ⟨⟨rfl, _, rfl, rfl, fun h => h⟩, trivial⟩⟩
      | exact ⟨q2, rfl, Fits.of rfl rfl ⟨⟨rfl, _, rfl, rfl, fun h => h⟩, trivial⟩⟩
      | (with_reducible show _ = true; kernel_rfl)
      | (with_reducible exact rfl)
      | omega
      | decide
      | rfl
  rcases set_cases x (by omega) (by omega) with h | ⟨i, i1, i2, i3⟩
  · have q1 := eset_ok x h hx
    have q2 := rset_ok x h hx
    have q3 := dset_ok x h
    have q4 := eq_s x (by omega)
    refine SC.run hm Tryd.func8 rfl [.call [0] [(.s (.slc (some (0, 0)) l.length none))] [(0, some (bI ty l))] (.s (.sla 1 2 x.length)) 3 [(0, some (bI ty l)), (1, some (zB x 2))], .call [1, 2] [.s (.sla 0 1 x.length)] [(0, some (zB x 1))] (.tup [.s (.str (encSet x)), .s (.int .i64 0)]) 2 [(0, some (zB x 1))], .call [1, 2] [.s (.sla 0 1 x.length)] [(0, some (zB x 1))] (.tup [.s (.str (encSet x)), .s (.int .i64 0)]) 2 [(0, some (zB x 1))], .call [] [] [] (bV true) 0 [], .dec false, .call [] [sV (encSet x)] [] (.tup [.s (.sla 0 1 x.length), .s (.int .i64 0)]) 2 [(0, some (zB x 1))], .call [3, 4, 1, 2] [.s (.sla 0 1 x.length), .s (.sla 2 3 x.length)] [(0, some (zB x 1)), (2, some (zB x 3))] (bV true) 4 [(0, some (zB x 1)), (2, some (zB x 3))]] [] rfl rfl ?_ (.inl rfl) (EndOK.by rfl ⟨rfl, trivial⟩ rfl rfl rfl rfl)
    simp only [true_and, and_true, and_assoc, decide_eq_true_eq, decide_eq_false_iff_not, ne_eq, beq_iff_eq, beq_eq_false_iff_ne, bne_eq_false_iff_eq, bne_iff_ne, bne_self_eq_false, beq_self_eq_true]
    repeat' apply And.intro
    all_goals first
      | exact True.intro
      | exact call0 awake_s rfl
      | exact ⟨tt, rfl, Fits.of rfl rfl ⟨⟨rfl, _, rfl, rfl, fun _ => rfl⟩, trivial⟩⟩
      | exact ⟨q1, rfl, Fits.of rfl rfl ⟨⟨rfl, _, rfl, rfl, fun h => h⟩, trivial⟩⟩
      | exact ⟨q2, rfl, Fits.of rfl rfl ⟨⟨rfl, _, rfl, rfl, fun h => h⟩, trivial⟩⟩
      | exact call0 q3 rfl
      | exact ⟨q4, rfl, Fits.of rfl rfl ⟨⟨rfl, _, rfl, rfl, fun h => h⟩, ⟨rfl, _, rfl, rfl, fun h => h⟩, trivial⟩⟩
      | exact decide_eq_false (fun h => h rfl)
      | (simp; done)
      | (with_reducible show _ = true; kernel_rfl)
      | (with_reducible exact rfl)
      | omega
      | decide
      | rfl
  · have q1 := eset_bad x (by omega) (by omega) hx i i1 i2 i3
    have q2 := rset_bad x (by omega) (by omega) hx i i1 i2 i3
    refine SC.run hm Tryd.func8 rfl [.call [0] [(.s (.slc (some (0, 0)) l.length none))] [(0, some (bI ty l))] (.s (.sla 1 2 x.length)) 3 [(0, some (bI ty l)), (1, some (zB x 2))], .call [1, 2] [.s (.sla 0 1 x.length)] [(0, some (zB x 1))] (.tup [.s (.str []), .s (.int .i64 1)]) 2 [(0, some (zB x 1))], .call [1, 2] [.s (.sla 0 1 x.length)] [(0, some (zB x 1))] (.tup [.s (.str []), .s (.int .i64 1)]) 2 [(0, some (zB x 1))], .call [] [] [] (bV true) 0 []] [] rfl rfl ?_ (.inl rfl) (EndOK.by rfl ⟨rfl, trivial⟩ rfl rfl rfl rfl)
    simp only [true_and, and_true, and_assoc, decide_eq_true_eq, decide_eq_false_iff_not, ne_eq, beq_iff_eq, beq_eq_false_iff_ne, bne_eq_false_iff_eq, bne_iff_ne, bne_self_eq_false, beq_self_eq_true]
    repeat' apply And.intro
    all_goals first
      | exact True.intro
      | exact call0 awake_s rfl
      | exact ⟨tt, rfl, Fits.of rfl rfl ⟨⟨rfl, _, rfl, rfl, fun _ => rfl⟩, trivial⟩⟩
      | exact ⟨q1, rfl, Fits.of rfl rfl ⟨⟨rfl, _, rfl, rfl, fun h => h⟩, trivial⟩⟩
      | exact ⟨q2, rfl, Fits.of rfl rfl ⟨⟨rfl, _, rfl, rfl, fun h => h⟩, trivial⟩⟩
      | (with_reducible show _ = true; kernel_rfl)
      | (with_reducible exact rfl)
      | omega
      | decide
      | rfl

end Go.Proofs.YtmkemodgbhaglaaDoor
