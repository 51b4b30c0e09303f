/-
  FieldNeighbors: the plain laws, and the walk: it returns true.
-/
import Derived.Test.YtgnidbokllmhhaaLrt
set_option linter.unusedSimpArgs false
set_option linter.unusedVariables false
namespace Go.Proofs.Ytgnidbokllmhhaa
open Go Ab
set_option maxRecDepth 100000

/-! ### a part of a list replaced -/
def splice (U : List Nat) (d : Nat) (O : List Nat) : List Nat := U.take d ++ (O ++ U.drop (d + O.length))
theorem splice_length (U O : List Nat) (d : Nat) (h : d + O.length ≤ U.length) : (splice U d O).length = U.length := by
  unfold splice; simp; omega
theorem splice_getD (U O : List Nat) (d i : Nat) (h : d + O.length ≤ U.length) : (splice U d O).getD i 0 = if i < d then U.getD i 0 else if i < d + O.length then O.getD (i - d) 0 else U.getD i 0 := by
  unfold splice
  simp only [List.getD_eq_getElem?_getD]
  have hl : (U.take d).length = d := by simp; omega
  by_cases h1 : i < d
  · rw [if_pos h1, List.getElem?_append_left (by rw [hl]; exact h1), List.getElem?_take, if_pos h1]
  · rw [if_neg h1, List.getElem?_append_right (by rw [hl]; omega), hl]
    by_cases h2 : i < d + O.length
    · rw [if_pos h2, List.getElem?_append_left (by omega)]
    · rw [if_neg h2, List.getElem?_append_right (by omega), List.getElem?_drop]
      congr 2; omega
theorem splice_cells (U O : List Nat) (d N : Nat) (hN : O.length = N) (h : d + N ≤ U.length) : cU (splice U d O) = setL (cU U) d (((cU O).drop 0).take (N * 1)) := by
  subst hN
  rw [List.drop_zero, List.take_of_length_le (by rw [cU_length]; omega)]
  have e := setL_app (cU O) ((cU U).take d) ((cU U).drop d) (by rw [List.length_drop, cU_length, cU_length]; omega)
  have hl : ((cU U).take d).length = d := by simp [cU_length]; omega
  rw [List.take_append_drop, hl] at e
  rw [e]
  unfold splice cU
  simp only [List.map_append, List.map_take, List.map_drop, List.length_map, List.drop_drop]
theorem splice_lt {U O : List Nat} {d : Nat} (h : d + O.length ≤ U.length) (hU : ∀ i, U.getD i 0 < 2 ^ 64) (hO : ∀ i, O.getD i 0 < 2 ^ 64) (i : Nat) : (splice U d O).getD i 0 < 2 ^ 64 := by
  rw [splice_getD U O d i h]
  split
  · exact hU i
  · split
    · exact hO _
    · exact hU i

theorem exS_congr {b n w : Nat} {g g' : Nat → Nat} (hw : 0 < w) (hn : 1 ≤ n) (h : ∀ k, k < n → (g (ui b w k)).testBit (bi b w k) = (g' (ui b w k)).testBit (bi b w k)) : exS b n w g = exS b n w g' := by
  unfold exS exK
  congr 1
  exact orK_congr n h

section
variable {b n m w : Nat}
theorem nU_split (hw : 0 < w) (hn : 1 ≤ n) (hm : 1 ≤ m) : ui b w n + nU (b + n) m w = nU b (n + m) w ∧ nU b n w ≤ nU b (n + m) w ∧ uf (b + n) w = uf b w + ui b w n := by
  have h1 := ui_eq (b := b) hw n
  have h2 := div_le b n (8 * w) hn
  have h3 := div_le (b + n) m (8 * w) hm
  have h4 : (b + n - 1) / (8 * w) ≤ (b + n) / (8 * w) := Nat.div_le_div_right (by omega)
  have h5 : (b + n - 1) / (8 * w) ≤ (b + (n + m) - 1) / (8 * w) := Nat.div_le_div_right (by omega)
  have e : b + n + m - 1 = b + (n + m) - 1 := by omega
  rw [e] at h3
  unfold nU uf
  rw [e]
  generalize (b + (n + m) - 1) / (8 * w) = x at *
  generalize (b + n - 1) / (8 * w) = y at *
  generalize (b + n) / (8 * w) = z at *
  generalize b / (8 * w) = t at *
  omega

/-- writing the second field leaves the first one's bits -/
theorem nb_first (hw0 : 0 < w) (hw8 : w ≤ 8) (hn : 1 ≤ n) (hm : 1 ≤ m) {U : List Nat} {s t : List UInt8} (hU : ∀ i, U.getD i 0 < 2 ^ 64) (hl : U.length = nU b (n + m) w) :
    exS b n w (fun i => (splice (splice U 0 (inK b n w 0 (fun i => U.getD i 0) s n)) (ui b w n) (inK (b + n) m w 0 (fun i => (splice U 0 (inK b n w 0 (fun i => U.getD i 0) s n)).getD (ui b w n + i) 0) t m)).getD i 0) = fvS n s := by
  obtain ⟨q1, q2, q3⟩ := nU_split (b := b) hw0 hn hm
  have l1 := inK_length b n w 0 (fun i => U.getD i 0) s n
  have hO1 := inK_lt (b := b) (n := n) hw0 hw8 0 (fun i => U.getD i 0) s n
  have ll := splice_length U (inK b n w 0 (fun i => U.getD i 0) s n) 0 (by omega)
  have lt1 := splice_lt (U := U) (O := inK b n w 0 (fun i => U.getD i 0) s n) (d := 0) (by omega) hU hO1
  have l2 := inK_length (b + n) m w 0 (fun i => (splice U 0 (inK b n w 0 (fun i => U.getD i 0) s n)).getD (ui b w n + i) 0) t m
  rw [← ex_in (b := b) (up := 0) (g := fun i => U.getD i 0) hw0 hw8 hn hU (.inl rfl)]
  refine exS_congr hw0 hn fun k hk => ?_
  have hui : ui b w k < nU b n w := ui_lt hw0 hn hk
  have e1 : (splice U 0 (inK b n w 0 (fun i => U.getD i 0) s n)).getD (ui b w k) 0 = (inK b n w 0 (fun i => U.getD i 0) s n).getD (ui b w k) 0 := by
    rw [splice_getD _ _ _ _ (by omega), if_neg (by omega), if_pos (by omega), Nat.sub_zero]
  rw [splice_getD _ _ _ _ (by omega)]
  by_cases c1 : ui b w k < ui b w n
  · rw [if_pos c1, e1]
  · rw [if_neg c1]
    by_cases c2 : ui b w k < ui b w n + (inK (b + n) m w 0 (fun i => (splice U 0 (inK b n w 0 (fun i => U.getD i 0) s n)).getD (ui b w n + i) 0) t m).length
    · rw [if_pos c2, Bool.eq_iff_iff, inK_bit hw0 hw8 (fun i => lt1 _) (.inl rfl) (by omega)]
      have ek : ui b w n + (ui b w k - ui b w n) = ui b w k := by omega
      rw [ek, e1]
      have no : ∀ m', m' < m → ui (b + n) w m' = ui b w k - ui b w n → bi (b + n) w m' = bi b w k → False := by
        intro m' hm' h1 h2
        have a1 := ui_eq (b := b + n) hw0 m'
        have a2 := bi_eq (b := b + n) hw0 m'
        have a3 := ui_eq (b := b) hw0 k
        have a4 := bi_eq (b := b) hw0 k
        have a5 := ui_eq (b := b) hw0 n
        have d1 := Nat.div_add_mod (b + n + m') (8 * w)
        have d2 := Nat.div_add_mod (b + k) (8 * w)
        have e : (b + n + m') / (8 * w) = (b + k) / (8 * w) := by omega
        rw [e, a2, h2] at d1
        rw [a4] at d2
        omega
      constructor
      · rintro (⟨_, _, h | ⟨_, h⟩⟩ | ⟨m', h1, _, h3, h4⟩)
        · omega
        · exact h
        · exact (no m' h1 h3 h4).elim
      · intro h
        refine .inl ⟨?_, bi_lt hw0 k, .inr ⟨rfl, h⟩⟩
        rw [Bool.eq_false_iff]
        intro hc
        obtain ⟨m', h1, h3, h4⟩ := (mv_iff hw0).1 hc
        exact no m' h1 h3 h4
    · rw [if_neg c2, e1]

theorem nb_second (hw0 : 0 < w) (hw8 : w ≤ 8) (hm : 1 ≤ m) {V : List Nat} {d : Nat} {t : List UInt8} (hV : ∀ i, V.getD i 0 < 2 ^ 64) (hl : d + nU (b + n) m w ≤ V.length) :
    exS (b + n) m w (fun i => (splice V d (inK (b + n) m w 0 (fun i => V.getD (d + i) 0) t m)).getD (d + i) 0) = fvS m t := by
  have l2 := inK_length (b + n) m w 0 (fun i => V.getD (d + i) 0) t m
  rw [← ex_in (b := b + n) (up := 0) (g := fun i => V.getD (d + i) 0) hw0 hw8 hm (fun i => hV _) (.inl rfl)]
  refine exS_congr hw0 hm fun k hk => ?_
  have hui : ui (b + n) w k < nU (b + n) m w := ui_lt hw0 hm hk
  rw [splice_getD _ _ _ _ (by omega), if_neg (by omega), if_pos (by omega), show d + ui (b + n) w k - d = ui (b + n) w k by omega]
end

/-! ### the three fields -/
theorem i64w (z : Int) : -9223372036854775808 ≤ IntKind.i64.wrap z ∧ IntKind.i64.wrap z ≤ 9223372036854775807 := by rw [i64_wrap]; omega
def gN (f : Fsp) : Fsp := { f with up := 0 }
def hN (f : Fsp) (n : Int) : Fsp := { f with up := 0, bit := IntKind.i64.wrap (f.bit + f.ln), ln := 1 + md n 40 }
def tN (f : Fsp) (n : Int) : Fsp := { f with up := 0, ln := IntKind.i64.wrap (f.ln + (1 + md n 40)) }
theorem gN_ok {f : Fsp} (h : f.ok) : (gN f).ok := ⟨h.sp, h.ba, h.rl, h.bit, h.ln, h.wd, ⟨(by decide : (-9223372036854775808 : Int) ≤ 0), (by decide : (0 : Int) ≤ 9223372036854775807)⟩, h.ix, h.da⟩
theorem hN_ok {f : Fsp} (h : f.ok) (n : Int) : (hN f n).ok := ⟨h.sp, h.ba, h.rl, i64w _, by have := md_b n 40 (by decide); show _ ≤ 1 + md n 40 ∧ 1 + md n 40 ≤ _; omega, h.wd, ⟨(by decide : (-9223372036854775808 : Int) ≤ 0), (by decide : (0 : Int) ≤ 9223372036854775807)⟩, h.ix, h.da⟩
theorem tN_ok {f : Fsp} (h : f.ok) (n : Int) : (tN f n).ok := ⟨h.sp, h.ba, h.rl, h.bit, i64w _, h.wd, ⟨(by decide : (-9223372036854775808 : Int) ≤ 0), (by decide : (0 : Int) ≤ 9223372036854775807)⟩, h.ix, h.da⟩
def nbBad (g h t : Bool) (ln : Int) : Bool := (((!g) || (!h)) || (!t)) || decide (ln > 64)

/-- the units, cut to the width -/
def mkK (w : Nat) (G : List Nat) (k : Nat) : List Nat := setK (fun i => G.getD i 0 &&& (2 ^ (8 * w) - 1)) G k
theorem mkK_length (w : Nat) (G : List Nat) (k : Nat) : (mkK w G k).length = G.length := setK_length k
theorem mkK_at (w : Nat) (G : List Nat) (k : Nat) : (mkK w G k).getD k 0 = G.getD k 0 := by unfold mkK; rw [setK_getD, if_neg (by omega)]
theorem mkK_lt {w : Nat} {G : List Nat} (hG : ∀ i, G.getD i 0 < 2 ^ 64) (hw : w ≤ 8) (k i : Nat) : (mkK w G k).getD i 0 < 2 ^ 64 := by
  unfold mkK; rw [setK_getD]
  split
  · exact Nat.and_lt_two_pow _ (ones_lt w hw)
  · exact hG i

theorem nbBad_A (f : Fsp) (hf : f.ok) (nn : Int) (a c : Nat) (h : nbBad (vld (gN (specF f))) (vld (hN (specF f) nn)) (vld (tN (specF f) nn)) (specF f).ln = true)  :
    SC Try.prog 5 [f.v, .s (.int .i64 nn), .s (.int .u64 ((a : Nat) : Int)), .s (.int .u64 ((c : Nat) : Int)), .s (.slc none 0 (some 0))] 0 [] (.s (.bool true)) 0 [] := by
  have hg := specF_ok hf
  have c1 := spec_s f hf
  have c2 := md_s nn 40 (by decide) (by decide)
  have hb := md_b nn 40 (by decide)
  have v1 := validField_s _ (gN_ok hg)
  have v2 := validField_s _ (hN_ok hg nn)
  have v3 := validField_s _ (tN_ok hg nn)
  generalize specF f = g at *
  refine SC.run hm Try.func5 rfl [.call [] [f.v] [] g.v 0 [], .num (IntKind.i64.wrap (g.bit + g.ln)), .call [] [.s (.int .i64 nn), .s (.int .i64 40)] [] (.s (.int .i64 (md nn 40))) 0 [], .num (1 + md nn 40), .num (IntKind.i64.wrap (g.ln + (1 + md nn 40))), .lazy [.call [] [(gN g).v] [] (.s (.bool (vld (gN g)))) 0 [], .call [] [(hN g nn).v] [] (.s (.bool (vld (hN g nn)))) 0 [], .call [] [(tN g nn).v] [] (.s (.bool (vld (tN g nn)))) 0 []] [(70, true)], .call [] [] [] (.s (.bool true)) 0 []] [] rfl rfl ?_ (.inl rfl) (EndOK.plain rfl no_mem rfl rfl)
  simp only [true_and, and_true, and_assoc, and_self, imp_self, implies_true, Bool.not_eq_true', Bool.not_eq_false']
  repeat' apply And.intro
  all_goals first
    | exact True.intro
    | exact call0 c1 rfl
    | exact call0 c2 rfl
    | exact call0 v1 rfl
    | exact call0 awake_s rfl
    | exact h
    | rfl
    | (with_reducible show _ = true; kernel_rfl)
    | exact fun h => ⟨h, by kernel_rfl, call0 v2 rfl⟩
    | exact fun h => ⟨h, by kernel_rfl, call0 v3 rfl⟩
    | exact fun _ => ⟨by kernel_rfl, call0 v2 rfl⟩
    | exact fun _ => ⟨by kernel_rfl, call0 v3 rfl⟩
    | (rw [i64_wrap]; omega)

set_option maxHeartbeats 8000000 in
theorem nb_A (f : Fsp) (hf : f.ok) (nn : Int) (a c : Nat) (ha : a < 2 ^ 64) (hc : c < 2 ^ 64) (h : nbBad (vld (gN (specF f))) (vld (hN (specF f) nn)) (vld (tN (specF f) nn)) (specF f).ln = false)  :
    SC Try.prog 5 [f.v, .s (.int .i64 nn), .s (.int .u64 ((a : Nat) : Int)), .s (.int .u64 ((c : Nat) : Int)), .s (.slc none 0 (some 0))] 0 [] (.s (.bool true)) 0 [] := by
  have hg := specF_ok hf
  have c1 := spec_s f hf
  have c2 := md_s nn 40 (by decide) (by decide)
  have hmb := md_b nn 40 (by decide)
  have v1 := validField_s _ (gN_ok hg)
  have v2 := validField_s _ (hN_ok hg nn)
  have v3 := validField_s _ (tN_ok hg nn)
  have hbad := h
  simp only [nbBad, Bool.or_eq_false_iff, Bool.not_eq_false', decide_eq_false_iff_not] at h
  obtain ⟨⟨⟨w1, w2⟩, w3⟩, h64⟩ := h
  obtain ⟨b, n, w, F1⟩ := FV.of w1
  have eb : (specF f).bit = b := F1.bit
  have en : (specF f).ln = n := F1.ln
  have ew : (specF f).wd = w := F1.wd
  have hb2 := F1.b2
  have hn1 := F1.n1
  have hn2 := F1.n2
  obtain ⟨m, hmm⟩ : ∃ m : Nat, 1 + md nn 40 = m := ⟨(1 + md nn 40).toNat, by omega⟩
  have ewr1 : IntKind.i64.wrap ((specF f).bit + (specF f).ln) = ((b + n : Nat) : Int) := by rw [eb, en, i64_wrap]; omega
  have ewr2 : IntKind.i64.wrap ((specF f).ln + (1 + md nn 40)) = ((n + m : Nat) : Int) := by rw [en, hmm, i64_wrap]; omega
  have F2 : FV (hN (specF f) nn) (b + n) m w := by
    obtain ⟨x, y, z, q⟩ := FV.of w2
    have q1 : IntKind.i64.wrap ((specF f).bit + (specF f).ln) = x := q.bit
    have q2 : 1 + md nn 40 = y := q.ln
    have q3 : (specF f).wd = z := q.wd
    obtain rfl : x = b + n := by omega
    obtain rfl : y = m := by omega
    obtain rfl : z = w := by omega
    exact q
  have F3 : FV (tN (specF f) nn) b (n + m) w := by
    obtain ⟨x, y, z, q⟩ := FV.of w3
    have q1 : (specF f).bit = x := q.bit
    have q2 : IntKind.i64.wrap ((specF f).ln + (1 + md nn 40)) = y := q.ln
    have q3 : (specF f).wd = z := q.wd
    obtain rfl : x = b := by omega
    obtain rfl : y = n + m := by omega
    obtain rfl : z = w := by omega
    exact q
  have hm1 := F2.n1
  have hK := nU_le F3
  have hw0 : 0 < w := by have := F1.w; omega
  have hw8 : w ≤ 8 := by have := F1.w; omega
  obtain ⟨s1, s2, s3⟩ := nU_split (b := b) hw0 hn1 hm1
  have hN1 : 1 ≤ nU b n w := by unfold nU; omega
  have hN2 : 1 ≤ nU (b + n) m w := by unfold nU; omega
  have hF := uf_le b w
  have c4 := runits_v (tN_ok hg nn) F3
  have c5 := fit_nil (nU b (n + m) w) (by omega)
  have hGl : (List.replicate (nU b (n + m) w) 0).length = nU b (n + m) w := List.length_replicate
  have hGlt : ∀ i, (List.replicate (nU b (n + m) w) 0).getD i 0 < 2 ^ 64 := fun i => by rw [rep_getD]; decide
  have hfm := ones_s (specF f).wd (by omega) (by omega)
  rw [show ones (specF f).wd = ((2 ^ (8 * w) - 1 : Nat) : Int) by rw [ew]; exact ones_nat F1.w] at hfm
  have hon := ones_lt w hw8
  generalize (List.replicate (nU b (n + m) w) 0) = G at *
  have hUl : (mkK w G (nU b (n + m) w)).length = nU b (n + m) w := by rw [mkK_length, hGl]
  have hUlt : ∀ i, (mkK w G (nU b (n + m) w)).getD i 0 < 2 ^ 64 := mkK_lt hGlt hw8 _
  have d1 := number_s a
  have d2 := rfrom_1 (gN_ok hg) F1 ⟨1, a, [], 0⟩ rfl ha rfl
  have d3 := number_s c
  have d4 := rfrom_1 (hN_ok hg nn) F2 ⟨1, c, [], 0⟩ rfl hc rfl
  have u1 := runits_v (gN_ok hg) F1
  have u2 := runits_v (hN_ok hg nn) F2
  rw [s3] at u2
  dsimp only at d2 d4
  generalize hxs : fvS n (lit a 8) = xs at *
  generalize hys : fvS m (lit c 8) = ys at *
  have fxs : fvS n xs = xs := by rw [← hxs, fvS_fvS]
  have fys : fvS m ys = ys := by rw [← hys, fvS_fvS]
  have hmk : ∀ k, k < nU b (n + m) w → _ := fun k hk => ldU (l := mkK w G k) (i := k) (by rw [mkK_length, hGl]; exact hk) (ty := 22) (m := false) (r := false) (s := true) (f := true) (gh := none)
  have hmks : ∀ k, cU (mkK w G (k + 1)) = setL (cU (mkK w G k)) k [.int .u64 ((G.getD k 0 &&& (2 ^ (8 * w) - 1) : Nat) : Int)] := fun k => cU_set _ _ _
  have hmkl : ∀ k, (cU (mkK w G k)).length = nU b (n + m) w := fun k => by rw [cU_length, mkK_length, hGl]
  generalize hU : mkK w G (nU b (n + m) w) = U at *
  have i1 := insert_s (gN_ok hg) F1 xs 22 false (cU U) (fun i => U.getD i 0) hUlt 0 (some (nU b (n + m) w)) (fun i hi => by rw [Nat.zero_add]; exact cU_get (by omega))
  have l1 : (inK b n w (gN (specF f)).up (fun i => U.getD i 0) xs n).length = nU b n w := inK_length ..
  have lt1 := inK_lt (b := b) (n := n) hw0 hw8 (gN (specF f)).up (fun i => U.getD i 0) xs n
  have law1 := nb_first (b := b) (m := m) (U := U) (s := xs) (t := ys) hw0 hw8 hn1 hm1 hUlt hUl
  rw [show (0 : Int) = (gN (specF f)).up from rfl] at law1
  generalize hO1 : inK b n w (gN (specF f)).up (fun i => U.getD i 0) xs n = O1 at *
  have sl1 := splice_length U O1 0 (by omega)
  have slt1 := splice_lt (U := U) (O := O1) (d := 0) (by omega) hUlt lt1
  have sc1 := splice_cells U O1 0 (nU b n w) l1 (by omega)
  generalize hV : splice U 0 O1 = V at *
  have i2 := insert_s (hN_ok hg nn) F2 ys 22 false (cU V) (fun i => V.getD (ui b w n + i) 0) (fun i => slt1 _) (ui b w n) (some (nU b (n + m) w - ui b w n)) (fun i hi => cU_get (by omega))
  have l2 : (inK (b + n) m w (hN (specF f) nn).up (fun i => V.getD (ui b w n + i) 0) ys m).length = nU (b + n) m w := inK_length ..
  have lt2 := inK_lt (b := b + n) (n := m) hw0 hw8 (hN (specF f) nn).up (fun i => V.getD (ui b w n + i) 0) ys m
  have law2 := nb_second (b := b) (n := n) (V := V) (d := ui b w n) (t := ys) hw0 hw8 hm1 slt1 (by omega)
  rw [show (0 : Int) = (hN (specF f) nn).up from rfl] at law2
  rw [show (gN (specF f)).up = (hN (specF f) nn).up from rfl] at law1
  generalize hO2 : inK (b + n) m w (hN (specF f) nn).up (fun i => V.getD (ui b w n + i) 0) ys m = O2 at *
  have sl2 := splice_length V O2 (ui b w n) (by omega)
  have slt2 := splice_lt (U := V) (O := O2) (d := ui b w n) (by omega) slt1 lt2
  have sc2 := splice_cells V O2 (ui b w n) (nU (b + n) m w) l2 (by omega)
  generalize hW : splice V (ui b w n) O2 = W at *
  have x1 := extract_s (gN_ok hg) F1 22 false (cU W) (fun i => W.getD i 0) slt2 0 (some (nU b (n + m) w)) (fun i hi => by rw [Nat.zero_add]; exact cU_get (by omega))
  have x2 := extract_s (hN_ok hg nn) F2 22 false (cU W) (fun i => W.getD (ui b w n + i) 0) (fun i => slt2 _) (ui b w n) (some (nU b (n + m) w - ui b w n)) (fun i hi => cU_get (by omega))
  rw [law1, fxs] at x1
  rw [law2, fys] at x2
  generalize specF f = g at *
  generalize hKK : nU b (n + m) w = K at *
  generalize hA1 : nU b n w = A at *
  generalize hA2 : nU (b + n) m w = B at *
  generalize hD : ui b w n = D at *
  have hgl := hGlt
  refine SC.run hm Try.func5 rfl [.call [] [f.v] [] g.v 0 [], .num (IntKind.i64.wrap (g.bit + g.ln)), .call [] [.s (.int .i64 nn), .s (.int .i64 40)] [] (.s (.int .i64 (md nn 40))) 0 [], .num (1 + md nn 40), .num (IntKind.i64.wrap (g.ln + (1 + md nn 40))), .lazy [.call [] [(gN g).v] [] (.s (.bool (vld (gN g)))) 0 [], .call [] [(hN g nn).v] [] (.s (.bool (vld (hN g nn)))) 0 [], .call [] [(tN g nn).v] [] (.s (.bool (vld (tN g nn)))) 0 []] [(70, false)], .call [] [(tN g nn).v] [] (.tup [.s (.int .i64 ((uf b w : Nat) : Int)), .s (.int .i64 ((K : Nat) : Int))]) 0 [], .call [] [.s (.slc none 0 (some 0)), .s (.int .i64 ((K : Nat) : Int))] [] (.s (.slc (some (0, 0)) K (some K))) 1 [(0, some (bU G))],
    .loop (.exit 0) (sp 190 [(2, .s (.int .u64 ((a : Nat) : Int))), (3, .s (.int .u64 ((c : Nat) : Int))), (11, .s (.ptr (some (1, 0)))), (12, .s (.ptr (some (2, 0)))), (14, .s (.int .i64 ((uf b w : Nat) : Int))), (16, .s (.slc (some (4, 0)) K (some K)))]) 5 [(1, some { cells := (gN g).c, ty := 26 }), (2, some { cells := (hN g nn).c, ty := 26 }), (4, some (bU U))],
    .call [] [.s (.int .u64 ((a : Nat) : Int))] [] (Vl.v ⟨1, a, [], 0⟩) 0 [], .call [] [(gN g).v, Vl.v ⟨1, a, [], 0⟩] [] (.tup [.s (.str xs), .s (.int .i64 0)]) 0 [],
    .call [] [.s (.int .u64 ((c : Nat) : Int))] [] (Vl.v ⟨1, c, [], 0⟩) 0 [], .call [] [(hN g nn).v, Vl.v ⟨1, c, [], 0⟩] [] (.tup [.s (.str ys), .s (.int .i64 0)]) 0 [],
    .loop (.exit 2) (sp 190 [(11, .s (.ptr (some (1, 0)))), (12, .s (.ptr (some (2, 0)))), (14, .s (.int .i64 ((uf b w : Nat) : Int))), (16, .s (.slc (some (4, 0)) K (some K))), (18, .s (.str xs)), (20, .s (.str ys))]) 5 [(1, some { cells := (gN g).c, ty := 26 }), (2, some { cells := (hN g nn).c, ty := 26 }), (4, some (bU W))],
    .call [] [(gN g).v] [] (.tup [.s (.int .i64 ((uf b w : Nat) : Int)), .s (.int .i64 ((A : Nat) : Int))]) 0 [], .call [] [(hN g nn).v] [] (.tup [.s (.int .i64 ((uf b w + D : Nat) : Int)), .s (.int .i64 ((B : Nat) : Int))]) 0 [],
    .call [] [] [] (.s (.bool true)) 0 [], .num 0, .num 0, .num ((A : Nat) : Int), .idx A, .idx 0, .idx A, .call [4] [(gN g).v, .s (.slc (some (0, 0)) A (some K))] [(0, some (bR 22 false (cU W)))] (.s (.str xs)) 1 [(0, some (bR 22 false (cU W)))], .dec true,
    .num ((D : Nat) : Int), .num ((D : Nat) : Int), .num ((D + B : Nat) : Int), .idx (D + B), .idx D, .idx B, .call [4] [(hN g nn).v, .s (.slc (some (0, D)) B (some (K - D)))] [(0, some (bR 22 false (cU W)))] (.s (.str ys)) 1 [(0, some (bR 22 false (cU W)))], .dec true] [] rfl rfl ?_ (.inl rfl) (EndOK.plain rfl no_mem rfl rfl)
  simp only [true_and, and_true, and_assoc, and_self, imp_self, implies_true, Bool.not_eq_true', Bool.not_eq_false', decide_true, ltCap, topOf]
  repeat' apply And.intro
  all_goals first
    | exact True.intro
    | exact call0 c1 rfl
    | exact call0 c2 rfl
    | exact call0 v1 rfl
    | exact call0 c4 rfl
    | exact call0 c5 rfl
    | exact call0 d1 rfl
    | exact call0 d2 rfl
    | exact call0 d3 rfl
    | exact call0 d4 rfl
    | exact call0 u1 rfl
    | exact call0 u2 rfl
    | exact call0 awake_s rfl
    | exact hbad
    | (with_reducible show _ = true; kernel_rfl)
    | exact fun h => ⟨h, by kernel_rfl, call0 v2 rfl⟩
    | exact fun h => ⟨h, by kernel_rfl, call0 v3 rfl⟩
    | exact fun _ => ⟨by kernel_rfl, call0 v2 rfl⟩
    | exact fun _ => ⟨by kernel_rfl, call0 v3 rfl⟩
    | exact ⟨x1, rfl, Fits.of rfl rfl ⟨⟨rfl, _, rfl, rfl, fun _ => rfl⟩, trivial⟩⟩
    | exact ⟨x2, rfl, Fits.of rfl rfl ⟨⟨rfl, _, rfl, rfl, fun _ => rfl⟩, trivial⟩⟩
    | omega
    | (rw [i64_wrap]; omega)
    | refine Ex.turns hm [2, 3, 11, 12, 14, 15, 16, 17] [1, 2, 4] K (fun k => sp 190 [(2, .s (.int .u64 ((a : Nat) : Int))), (3, .s (.int .u64 ((c : Nat) : Int))), (11, .s (.ptr (some (1, 0)))), (12, .s (.ptr (some (2, 0)))), (14, .s (.int .i64 ((uf b w : Nat) : Int))), (15, .s (.int .i64 ((K : Nat) : Int))), (16, .s (.slc (some (4, 0)) K (some K))), (17, .s (.int .i64 ((k : Nat) : Int)))])
        (fun k => [(1, some { cells := (gN g).c, ty := 26 }), (2, some { cells := (hN g nn).c, ty := 26 }), (4, some (bU (mkK w G k)))]) (by omega) rfl rfl (fun k => ⟨rfl, rfl⟩) ?_ [2, 3, 11, 12, 14, 16] [1, 2, 4] (by simp) ⟨rfl, rfl⟩ ⟨[.dec false], _, _, _, _, _, rfl, ?_, rfl, ?_⟩
    | refine Ex.turns hm [11, 12, 14, 16, 18, 20, 22] [1, 2, 4] 2 (fun k => sp 190 [(11, .s (.ptr (some (1, 0)))), (12, .s (.ptr (some (2, 0)))), (14, .s (.int .i64 ((uf b w : Nat) : Int))), (16, .s (.slc (some (4, 0)) K (some K))), (18, .s (.str xs)), (20, .s (.str ys)), (22, .s (.int .i64 ((k : Nat) : Int)))])
        (fun k => [(1, some { cells := (gN g).c, ty := 26 }), (2, some { cells := (hN g nn).c, ty := 26 }), (4, some (bU (match k with | 0 => U | 1 => V | _ + 2 => W)))]) (by omega) rfl rfl (fun k => ⟨rfl, rfl⟩) ?_ [11, 12, 14, 16, 18, 20] [1, 2, 4] (by simp) ⟨rfl, rfl⟩ ⟨[.dec false], _, _, _, _, _, rfl, ?_, rfl, rfl⟩
  · intro k hk
    have hld := hmk k hk
    have hst := hmks k
    have hlen := hmkl k
    have hgk := hgl k
    rw [mkK_at] at hld
    generalize G.getD k 0 = y at *
    have e2 : bitV .and .u64 ((y : Nat) : Int) ((2 ^ (8 * w) - 1 : Nat) : Int) = ((y &&& (2 ^ (8 * w) - 1) : Nat) : Int) := and64 hgk hon
    refine ⟨[.dec true, .idx k, .val (.s (.int .u64 ((y : Nat) : Int))), .call [] [.s (.int .i64 g.wd)] [] (.s (.int .u64 ((2 ^ (8 * w) - 1 : Nat) : Int))) 0 [], .num ((y &&& (2 ^ (8 * w) - 1) : Nat) : Int), .idx k, .cells (cU (mkK w G (k + 1))), .num ((k + 1 : Nat) : Int)], _, _, _, _, _, rfl, ?_, rfl, rfl⟩
    simp only [true_and, and_true, and_assoc, decide_eq_true_eq, i64_wrap]
    repeat' apply And.intro
    all_goals first
      | exact True.intro
      | omega
      | exact call0 hfm rfl
      | exact hld
      | exact hst
      | exact e2
      | (show k + 1 ≤ (cU (mkK w G k)).length; omega)
      | (with_reducible show _ = true; kernel_rfl)
  · simp only [decide_eq_false_iff_not, and_true, true_and]; omega
  · rw [hU]; rfl
  · intro k hk
    have hk2 : k = 0 ∨ k = 1 := by omega
    have lenU : (cU U).length = K := by rw [cU_length]; omega
    have lenV : (cU V).length = K := by rw [cU_length]; omega
    have lenO1 : (cU O1).length = A := by rw [cU_length]; omega
    have lenO2 : (cU O2).length = B := by rw [cU_length]; omega
    have np1 : (List.take (A * 1) (List.drop 0 (cU O1))).all noPtr = true := all_take_drop (cU_noPtr O1) _ _
    have np2 : (List.take (B * 1) (List.drop 0 (cU O2))).all noPtr = true := all_take_drop (cU_noPtr O2) _ _
    rcases hk2 with rfl | rfl
    · refine ⟨[.dec true, .dec false, .call [] [(gN g).v] [] (.tup [.s (.int .i64 ((uf b w : Nat) : Int)), .s (.int .i64 ((A : Nat) : Int))]) 0 [], .num 0, .num 0, .num ((A : Nat) : Int), .idx A, .idx 0, .idx A,
        .call [4] [(gN g).v, .s (.str xs), .s (.slc (some (0, 0)) A (some K))] [(0, some (bR 22 false (cU U)))] (.s (.slc (some (1, 0)) A (some A))) 2 [(0, some (bR 22 false (cU U))), (1, some (bU O1))], .dec false, .num 0, .idx 0, .idx K, .idx A, .cells (cU V), .num ((0 + 1 : Nat) : Int)], _, _, _, _, _, rfl, ?_, rfl, rfl⟩
      simp only [true_and, and_true, and_assoc, decide_eq_true_eq, beq_eq_false_iff_ne, bne_eq_false_iff_eq, ne_eq, i64_wrap, ltCap, topOf, sz22]
      repeat' apply And.intro
      all_goals first
        | exact True.intro
        | omega
        | exact call0 u1 rfl
        | exact ⟨i1, rfl, Fits.of rfl rfl ⟨⟨rfl, _, rfl, rfl, fun _ => rfl⟩, trivial⟩⟩
        | exact sc1
        | exact np1
        | (with_reducible show _ = true; kernel_rfl)
        | (show 0 + A * 1 ≤ (cU U).length; omega)
        | (show _ ≤ (cU O1).length; omega)
    · refine ⟨[.dec true, .dec true, .call [] [(hN g nn).v] [] (.tup [.s (.int .i64 ((uf b w + D : Nat) : Int)), .s (.int .i64 ((B : Nat) : Int))]) 0 [], .num ((D : Nat) : Int), .num ((D : Nat) : Int), .num ((D + B : Nat) : Int), .idx (D + B), .idx D, .idx B,
        .call [4] [(hN g nn).v, .s (.str ys), .s (.slc (some (0, D)) B (some (K - D)))] [(0, some (bR 22 false (cU V)))] (.s (.slc (some (1, 0)) B (some B))) 2 [(0, some (bR 22 false (cU V))), (1, some (bU O2))], .dec false, .num ((D : Nat) : Int), .idx D, .idx (K - D), .idx B, .cells (cU W), .num ((1 + 1 : Nat) : Int)], _, _, _, _, _, rfl, ?_, rfl, rfl⟩
      simp only [true_and, and_true, and_assoc, decide_eq_true_eq, beq_iff_eq, bne_eq_false_iff_eq, ne_eq, i64_wrap, ltCap, topOf, sz22]
      repeat' apply And.intro
      all_goals first
        | exact True.intro
        | omega
        | exact call0 u2 rfl
        | exact ⟨i2, rfl, Fits.of rfl rfl ⟨⟨rfl, _, rfl, rfl, fun _ => rfl⟩, trivial⟩⟩
        | exact sc2
        | exact np2
        | (with_reducible show _ = true; kernel_rfl)
        | (show D + B * 1 ≤ (cU V).length; omega)
        | (show _ ≤ (cU O2).length; omega)
  · simp only [decide_eq_false_iff_not, and_true, true_and]; omega

theorem neighbors_A (f : Fsp) (hf : f.ok) (nn : Int) (a c : Nat) (ha : a < 2 ^ 64) (hc : c < 2 ^ 64)  :
    SC Try.prog 5 [f.v, .s (.int .i64 nn), .s (.int .u64 ((a : Nat) : Int)), .s (.int .u64 ((c : Nat) : Int)), .s (.slc none 0 (some 0))] 0 [] (.s (.bool true)) 0 [] := by
  cases h : nbBad (vld (gN (specF f))) (vld (hN (specF f) nn)) (vld (tN (specF f) nn)) (specF f).ln with
  | true => exact nbBad_A f hf nn a c h 
  | false => exact nb_A f hf nn a c ha hc h 

theorem nbBad_E (f : Fsp) (hf : f.ok) (nn : Int) (a c : Nat) (h : nbBad (vld (gN (specF f))) (vld (hN (specF f) nn)) (vld (tN (specF f) nn)) (specF f).ln = true)  :
    SC Try.prog 5 [f.v, .s (.int .i64 nn), .s (.int .u64 ((a : Nat) : Int)), .s (.int .u64 ((c : Nat) : Int)), .s .emp] 0 [] (.s (.bool true)) 0 [] := by
  have hg := specF_ok hf
  have c1 := spec_s f hf
  have c2 := md_s nn 40 (by decide) (by decide)
  have hb := md_b nn 40 (by decide)
  have v1 := validField_s _ (gN_ok hg)
  have v2 := validField_s _ (hN_ok hg nn)
  have v3 := validField_s _ (tN_ok hg nn)
  generalize specF f = g at *
  refine SC.run hm Try.func5 rfl [.call [] [f.v] [] g.v 0 [], .num (IntKind.i64.wrap (g.bit + g.ln)), .call [] [.s (.int .i64 nn), .s (.int .i64 40)] [] (.s (.int .i64 (md nn 40))) 0 [], .num (1 + md nn 40), .num (IntKind.i64.wrap (g.ln + (1 + md nn 40))), .lazy [.call [] [(gN g).v] [] (.s (.bool (vld (gN g)))) 0 [], .call [] [(hN g nn).v] [] (.s (.bool (vld (hN g nn)))) 0 [], .call [] [(tN g nn).v] [] (.s (.bool (vld (tN g nn)))) 0 []] [(70, true)], .call [] [] [] (.s (.bool true)) 0 []] [] rfl rfl ?_ (.inl rfl) (EndOK.plain rfl no_mem rfl rfl)
  simp only [true_and, and_true, and_assoc, and_self, imp_self, implies_true, Bool.not_eq_true', Bool.not_eq_false']
  repeat' apply And.intro
  all_goals first
    | exact True.intro
    | exact call0 c1 rfl
    | exact call0 c2 rfl
    | exact call0 v1 rfl
    | exact call0 awake_s rfl
    | exact h
    | rfl
    | (with_reducible show _ = true; kernel_rfl)
    | exact fun h => ⟨h, by kernel_rfl, call0 v2 rfl⟩
    | exact fun h => ⟨h, by kernel_rfl, call0 v3 rfl⟩
    | exact fun _ => ⟨by kernel_rfl, call0 v2 rfl⟩
    | exact fun _ => ⟨by kernel_rfl, call0 v3 rfl⟩
    | (rw [i64_wrap]; omega)

set_option maxHeartbeats 8000000 in
theorem nb_E (f : Fsp) (hf : f.ok) (nn : Int) (a c : Nat) (ha : a < 2 ^ 64) (hc : c < 2 ^ 64) (h : nbBad (vld (gN (specF f))) (vld (hN (specF f) nn)) (vld (tN (specF f) nn)) (specF f).ln = false)  :
    SC Try.prog 5 [f.v, .s (.int .i64 nn), .s (.int .u64 ((a : Nat) : Int)), .s (.int .u64 ((c : Nat) : Int)), .s .emp] 0 [] (.s (.bool true)) 0 [] := by
  have hg := specF_ok hf
  have c1 := spec_s f hf
  have c2 := md_s nn 40 (by decide) (by decide)
  have hmb := md_b nn 40 (by decide)
  have v1 := validField_s _ (gN_ok hg)
  have v2 := validField_s _ (hN_ok hg nn)
  have v3 := validField_s _ (tN_ok hg nn)
  have hbad := h
  simp only [nbBad, Bool.or_eq_false_iff, Bool.not_eq_false', decide_eq_false_iff_not] at h
  obtain ⟨⟨⟨w1, w2⟩, w3⟩, h64⟩ := h
  obtain ⟨b, n, w, F1⟩ := FV.of w1
  have eb : (specF f).bit = b := F1.bit
  have en : (specF f).ln = n := F1.ln
  have ew : (specF f).wd = w := F1.wd
  have hb2 := F1.b2
  have hn1 := F1.n1
  have hn2 := F1.n2
  obtain ⟨m, hmm⟩ : ∃ m : Nat, 1 + md nn 40 = m := ⟨(1 + md nn 40).toNat, by omega⟩
  have ewr1 : IntKind.i64.wrap ((specF f).bit + (specF f).ln) = ((b + n : Nat) : Int) := by rw [eb, en, i64_wrap]; omega
  have ewr2 : IntKind.i64.wrap ((specF f).ln + (1 + md nn 40)) = ((n + m : Nat) : Int) := by rw [en, hmm, i64_wrap]; omega
  have F2 : FV (hN (specF f) nn) (b + n) m w := by
    obtain ⟨x, y, z, q⟩ := FV.of w2
    have q1 : IntKind.i64.wrap ((specF f).bit + (specF f).ln) = x := q.bit
    have q2 : 1 + md nn 40 = y := q.ln
    have q3 : (specF f).wd = z := q.wd
    obtain rfl : x = b + n := by omega
    obtain rfl : y = m := by omega
    obtain rfl : z = w := by omega
    exact q
  have F3 : FV (tN (specF f) nn) b (n + m) w := by
    obtain ⟨x, y, z, q⟩ := FV.of w3
    have q1 : (specF f).bit = x := q.bit
    have q2 : IntKind.i64.wrap ((specF f).ln + (1 + md nn 40)) = y := q.ln
    have q3 : (specF f).wd = z := q.wd
    obtain rfl : x = b := by omega
    obtain rfl : y = n + m := by omega
    obtain rfl : z = w := by omega
    exact q
  have hm1 := F2.n1
  have hK := nU_le F3
  have hw0 : 0 < w := by have := F1.w; omega
  have hw8 : w ≤ 8 := by have := F1.w; omega
  obtain ⟨s1, s2, s3⟩ := nU_split (b := b) hw0 hn1 hm1
  have hN1 : 1 ≤ nU b n w := by unfold nU; omega
  have hN2 : 1 ≤ nU (b + n) m w := by unfold nU; omega
  have hF := uf_le b w
  have c4 := runits_v (tN_ok hg nn) F3
  have c5 := fit_emp (nU b (n + m) w) (by omega)
  have hGl : (List.replicate (nU b (n + m) w) 0).length = nU b (n + m) w := List.length_replicate
  have hGlt : ∀ i, (List.replicate (nU b (n + m) w) 0).getD i 0 < 2 ^ 64 := fun i => by rw [rep_getD]; decide
  have hfm := ones_s (specF f).wd (by omega) (by omega)
  rw [show ones (specF f).wd = ((2 ^ (8 * w) - 1 : Nat) : Int) by rw [ew]; exact ones_nat F1.w] at hfm
  have hon := ones_lt w hw8
  generalize (List.replicate (nU b (n + m) w) 0) = G at *
  have hUl : (mkK w G (nU b (n + m) w)).length = nU b (n + m) w := by rw [mkK_length, hGl]
  have hUlt : ∀ i, (mkK w G (nU b (n + m) w)).getD i 0 < 2 ^ 64 := mkK_lt hGlt hw8 _
  have d1 := number_s a
  have d2 := rfrom_1 (gN_ok hg) F1 ⟨1, a, [], 0⟩ rfl ha rfl
  have d3 := number_s c
  have d4 := rfrom_1 (hN_ok hg nn) F2 ⟨1, c, [], 0⟩ rfl hc rfl
  have u1 := runits_v (gN_ok hg) F1
  have u2 := runits_v (hN_ok hg nn) F2
  rw [s3] at u2
  dsimp only at d2 d4
  generalize hxs : fvS n (lit a 8) = xs at *
  generalize hys : fvS m (lit c 8) = ys at *
  have fxs : fvS n xs = xs := by rw [← hxs, fvS_fvS]
  have fys : fvS m ys = ys := by rw [← hys, fvS_fvS]
  have hmk : ∀ k, k < nU b (n + m) w → _ := fun k hk => ldU (l := mkK w G k) (i := k) (by rw [mkK_length, hGl]; exact hk) (ty := 22) (m := false) (r := false) (s := true) (f := true) (gh := none)
  have hmks : ∀ k, cU (mkK w G (k + 1)) = setL (cU (mkK w G k)) k [.int .u64 ((G.getD k 0 &&& (2 ^ (8 * w) - 1) : Nat) : Int)] := fun k => cU_set _ _ _
  have hmkl : ∀ k, (cU (mkK w G k)).length = nU b (n + m) w := fun k => by rw [cU_length, mkK_length, hGl]
  generalize hU : mkK w G (nU b (n + m) w) = U at *
  have i1 := insert_s (gN_ok hg) F1 xs 22 false (cU U) (fun i => U.getD i 0) hUlt 0 (some (nU b (n + m) w)) (fun i hi => by rw [Nat.zero_add]; exact cU_get (by omega))
  have l1 : (inK b n w (gN (specF f)).up (fun i => U.getD i 0) xs n).length = nU b n w := inK_length ..
  have lt1 := inK_lt (b := b) (n := n) hw0 hw8 (gN (specF f)).up (fun i => U.getD i 0) xs n
  have law1 := nb_first (b := b) (m := m) (U := U) (s := xs) (t := ys) hw0 hw8 hn1 hm1 hUlt hUl
  rw [show (0 : Int) = (gN (specF f)).up from rfl] at law1
  generalize hO1 : inK b n w (gN (specF f)).up (fun i => U.getD i 0) xs n = O1 at *
  have sl1 := splice_length U O1 0 (by omega)
  have slt1 := splice_lt (U := U) (O := O1) (d := 0) (by omega) hUlt lt1
  have sc1 := splice_cells U O1 0 (nU b n w) l1 (by omega)
  generalize hV : splice U 0 O1 = V at *
  have i2 := insert_s (hN_ok hg nn) F2 ys 22 false (cU V) (fun i => V.getD (ui b w n + i) 0) (fun i => slt1 _) (ui b w n) (some (nU b (n + m) w - ui b w n)) (fun i hi => cU_get (by omega))
  have l2 : (inK (b + n) m w (hN (specF f) nn).up (fun i => V.getD (ui b w n + i) 0) ys m).length = nU (b + n) m w := inK_length ..
  have lt2 := inK_lt (b := b + n) (n := m) hw0 hw8 (hN (specF f) nn).up (fun i => V.getD (ui b w n + i) 0) ys m
  have law2 := nb_second (b := b) (n := n) (V := V) (d := ui b w n) (t := ys) hw0 hw8 hm1 slt1 (by omega)
  rw [show (0 : Int) = (hN (specF f) nn).up from rfl] at law2
  rw [show (gN (specF f)).up = (hN (specF f) nn).up from rfl] at law1
  generalize hO2 : inK (b + n) m w (hN (specF f) nn).up (fun i => V.getD (ui b w n + i) 0) ys m = O2 at *
  have sl2 := splice_length V O2 (ui b w n) (by omega)
  have slt2 := splice_lt (U := V) (O := O2) (d := ui b w n) (by omega) slt1 lt2
  have sc2 := splice_cells V O2 (ui b w n) (nU (b + n) m w) l2 (by omega)
  generalize hW : splice V (ui b w n) O2 = W at *
  have x1 := extract_s (gN_ok hg) F1 22 false (cU W) (fun i => W.getD i 0) slt2 0 (some (nU b (n + m) w)) (fun i hi => by rw [Nat.zero_add]; exact cU_get (by omega))
  have x2 := extract_s (hN_ok hg nn) F2 22 false (cU W) (fun i => W.getD (ui b w n + i) 0) (fun i => slt2 _) (ui b w n) (some (nU b (n + m) w - ui b w n)) (fun i hi => cU_get (by omega))
  rw [law1, fxs] at x1
  rw [law2, fys] at x2
  generalize specF f = g at *
  generalize hKK : nU b (n + m) w = K at *
  generalize hA1 : nU b n w = A at *
  generalize hA2 : nU (b + n) m w = B at *
  generalize hD : ui b w n = D at *
  have hgl := hGlt
  refine SC.run hm Try.func5 rfl [.call [] [f.v] [] g.v 0 [], .num (IntKind.i64.wrap (g.bit + g.ln)), .call [] [.s (.int .i64 nn), .s (.int .i64 40)] [] (.s (.int .i64 (md nn 40))) 0 [], .num (1 + md nn 40), .num (IntKind.i64.wrap (g.ln + (1 + md nn 40))), .lazy [.call [] [(gN g).v] [] (.s (.bool (vld (gN g)))) 0 [], .call [] [(hN g nn).v] [] (.s (.bool (vld (hN g nn)))) 0 [], .call [] [(tN g nn).v] [] (.s (.bool (vld (tN g nn)))) 0 []] [(70, false)], .call [] [(tN g nn).v] [] (.tup [.s (.int .i64 ((uf b w : Nat) : Int)), .s (.int .i64 ((K : Nat) : Int))]) 0 [], .call [] [.s .emp, .s (.int .i64 ((K : Nat) : Int))] [] (.s (.slc (some (0, 0)) K (some K))) 1 [(0, some (bU G))],
    .loop (.exit 0) (sp 190 [(2, .s (.int .u64 ((a : Nat) : Int))), (3, .s (.int .u64 ((c : Nat) : Int))), (11, .s (.ptr (some (1, 0)))), (12, .s (.ptr (some (2, 0)))), (14, .s (.int .i64 ((uf b w : Nat) : Int))), (16, .s (.slc (some (4, 0)) K (some K)))]) 5 [(1, some { cells := (gN g).c, ty := 26 }), (2, some { cells := (hN g nn).c, ty := 26 }), (4, some (bU U))],
    .call [] [.s (.int .u64 ((a : Nat) : Int))] [] (Vl.v ⟨1, a, [], 0⟩) 0 [], .call [] [(gN g).v, Vl.v ⟨1, a, [], 0⟩] [] (.tup [.s (.str xs), .s (.int .i64 0)]) 0 [],
    .call [] [.s (.int .u64 ((c : Nat) : Int))] [] (Vl.v ⟨1, c, [], 0⟩) 0 [], .call [] [(hN g nn).v, Vl.v ⟨1, c, [], 0⟩] [] (.tup [.s (.str ys), .s (.int .i64 0)]) 0 [],
    .loop (.exit 2) (sp 190 [(11, .s (.ptr (some (1, 0)))), (12, .s (.ptr (some (2, 0)))), (14, .s (.int .i64 ((uf b w : Nat) : Int))), (16, .s (.slc (some (4, 0)) K (some K))), (18, .s (.str xs)), (20, .s (.str ys))]) 5 [(1, some { cells := (gN g).c, ty := 26 }), (2, some { cells := (hN g nn).c, ty := 26 }), (4, some (bU W))],
    .call [] [(gN g).v] [] (.tup [.s (.int .i64 ((uf b w : Nat) : Int)), .s (.int .i64 ((A : Nat) : Int))]) 0 [], .call [] [(hN g nn).v] [] (.tup [.s (.int .i64 ((uf b w + D : Nat) : Int)), .s (.int .i64 ((B : Nat) : Int))]) 0 [],
    .call [] [] [] (.s (.bool true)) 0 [], .num 0, .num 0, .num ((A : Nat) : Int), .idx A, .idx 0, .idx A, .call [4] [(gN g).v, .s (.slc (some (0, 0)) A (some K))] [(0, some (bR 22 false (cU W)))] (.s (.str xs)) 1 [(0, some (bR 22 false (cU W)))], .dec true,
    .num ((D : Nat) : Int), .num ((D : Nat) : Int), .num ((D + B : Nat) : Int), .idx (D + B), .idx D, .idx B, .call [4] [(hN g nn).v, .s (.slc (some (0, D)) B (some (K - D)))] [(0, some (bR 22 false (cU W)))] (.s (.str ys)) 1 [(0, some (bR 22 false (cU W)))], .dec true] [] rfl rfl ?_ (.inl rfl) (EndOK.plain rfl no_mem rfl rfl)
  simp only [true_and, and_true, and_assoc, and_self, imp_self, implies_true, Bool.not_eq_true', Bool.not_eq_false', decide_true, ltCap, topOf]
  repeat' apply And.intro
  all_goals first
    | exact True.intro
    | exact call0 c1 rfl
    | exact call0 c2 rfl
    | exact call0 v1 rfl
    | exact call0 c4 rfl
    | exact call0 c5 rfl
    | exact call0 d1 rfl
    | exact call0 d2 rfl
    | exact call0 d3 rfl
    | exact call0 d4 rfl
    | exact call0 u1 rfl
    | exact call0 u2 rfl
    | exact call0 awake_s rfl
    | exact hbad
    | (with_reducible show _ = true; kernel_rfl)
    | exact fun h => ⟨h, by kernel_rfl, call0 v2 rfl⟩
    | exact fun h => ⟨h, by kernel_rfl, call0 v3 rfl⟩
    | exact fun _ => ⟨by kernel_rfl, call0 v2 rfl⟩
    | exact fun _ => ⟨by kernel_rfl, call0 v3 rfl⟩
    | exact ⟨x1, rfl, Fits.of rfl rfl ⟨⟨rfl, _, rfl, rfl, fun _ => rfl⟩, trivial⟩⟩
    | exact ⟨x2, rfl, Fits.of rfl rfl ⟨⟨rfl, _, rfl, rfl, fun _ => rfl⟩, trivial⟩⟩
    | omega
    | (rw [i64_wrap]; omega)
    | refine Ex.turns hm [2, 3, 11, 12, 14, 15, 16, 17] [1, 2, 4] K (fun k => sp 190 [(2, .s (.int .u64 ((a : Nat) : Int))), (3, .s (.int .u64 ((c : Nat) : Int))), (11, .s (.ptr (some (1, 0)))), (12, .s (.ptr (some (2, 0)))), (14, .s (.int .i64 ((uf b w : Nat) : Int))), (15, .s (.int .i64 ((K : Nat) : Int))), (16, .s (.slc (some (4, 0)) K (some K))), (17, .s (.int .i64 ((k : Nat) : Int)))])
        (fun k => [(1, some { cells := (gN g).c, ty := 26 }), (2, some { cells := (hN g nn).c, ty := 26 }), (4, some (bU (mkK w G k)))]) (by omega) rfl rfl (fun k => ⟨rfl, rfl⟩) ?_ [2, 3, 11, 12, 14, 16] [1, 2, 4] (by simp) ⟨rfl, rfl⟩ ⟨[.dec false], _, _, _, _, _, rfl, ?_, rfl, ?_⟩
    | refine Ex.turns hm [11, 12, 14, 16, 18, 20, 22] [1, 2, 4] 2 (fun k => sp 190 [(11, .s (.ptr (some (1, 0)))), (12, .s (.ptr (some (2, 0)))), (14, .s (.int .i64 ((uf b w : Nat) : Int))), (16, .s (.slc (some (4, 0)) K (some K))), (18, .s (.str xs)), (20, .s (.str ys)), (22, .s (.int .i64 ((k : Nat) : Int)))])
        (fun k => [(1, some { cells := (gN g).c, ty := 26 }), (2, some { cells := (hN g nn).c, ty := 26 }), (4, some (bU (match k with | 0 => U | 1 => V | _ + 2 => W)))]) (by omega) rfl rfl (fun k => ⟨rfl, rfl⟩) ?_ [11, 12, 14, 16, 18, 20] [1, 2, 4] (by simp) ⟨rfl, rfl⟩ ⟨[.dec false], _, _, _, _, _, rfl, ?_, rfl, rfl⟩
  · intro k hk
    have hld := hmk k hk
    have hst := hmks k
    have hlen := hmkl k
    have hgk := hgl k
    rw [mkK_at] at hld
    generalize G.getD k 0 = y at *
    have e2 : bitV .and .u64 ((y : Nat) : Int) ((2 ^ (8 * w) - 1 : Nat) : Int) = ((y &&& (2 ^ (8 * w) - 1) : Nat) : Int) := and64 hgk hon
    refine ⟨[.dec true, .idx k, .val (.s (.int .u64 ((y : Nat) : Int))), .call [] [.s (.int .i64 g.wd)] [] (.s (.int .u64 ((2 ^ (8 * w) - 1 : Nat) : Int))) 0 [], .num ((y &&& (2 ^ (8 * w) - 1) : Nat) : Int), .idx k, .cells (cU (mkK w G (k + 1))), .num ((k + 1 : Nat) : Int)], _, _, _, _, _, rfl, ?_, rfl, rfl⟩
    simp only [true_and, and_true, and_assoc, decide_eq_true_eq, i64_wrap]
    repeat' apply And.intro
    all_goals first
      | exact True.intro
      | omega
      | exact call0 hfm rfl
      | exact hld
      | exact hst
      | exact e2
      | (show k + 1 ≤ (cU (mkK w G k)).length; omega)
      | (with_reducible show _ = true; kernel_rfl)
  · simp only [decide_eq_false_iff_not, and_true, true_and]; omega
  · rw [hU]; rfl
  · intro k hk
    have hk2 : k = 0 ∨ k = 1 := by omega
    have lenU : (cU U).length = K := by rw [cU_length]; omega
    have lenV : (cU V).length = K := by rw [cU_length]; omega
    have lenO1 : (cU O1).length = A := by rw [cU_length]; omega
    have lenO2 : (cU O2).length = B := by rw [cU_length]; omega
    have np1 : (List.take (A * 1) (List.drop 0 (cU O1))).all noPtr = true := all_take_drop (cU_noPtr O1) _ _
    have np2 : (List.take (B * 1) (List.drop 0 (cU O2))).all noPtr = true := all_take_drop (cU_noPtr O2) _ _
    rcases hk2 with rfl | rfl
    · refine ⟨[.dec true, .dec false, .call [] [(gN g).v] [] (.tup [.s (.int .i64 ((uf b w : Nat) : Int)), .s (.int .i64 ((A : Nat) : Int))]) 0 [], .num 0, .num 0, .num ((A : Nat) : Int), .idx A, .idx 0, .idx A,
        .call [4] [(gN g).v, .s (.str xs), .s (.slc (some (0, 0)) A (some K))] [(0, some (bR 22 false (cU U)))] (.s (.slc (some (1, 0)) A (some A))) 2 [(0, some (bR 22 false (cU U))), (1, some (bU O1))], .dec false, .num 0, .idx 0, .idx K, .idx A, .cells (cU V), .num ((0 + 1 : Nat) : Int)], _, _, _, _, _, rfl, ?_, rfl, rfl⟩
      simp only [true_and, and_true, and_assoc, decide_eq_true_eq, beq_eq_false_iff_ne, bne_eq_false_iff_eq, ne_eq, i64_wrap, ltCap, topOf, sz22]
      repeat' apply And.intro
      all_goals first
        | exact True.intro
        | omega
        | exact call0 u1 rfl
        | exact ⟨i1, rfl, Fits.of rfl rfl ⟨⟨rfl, _, rfl, rfl, fun _ => rfl⟩, trivial⟩⟩
        | exact sc1
        | exact np1
        | (with_reducible show _ = true; kernel_rfl)
        | (show 0 + A * 1 ≤ (cU U).length; omega)
        | (show _ ≤ (cU O1).length; omega)
    · refine ⟨[.dec true, .dec true, .call [] [(hN g nn).v] [] (.tup [.s (.int .i64 ((uf b w + D : Nat) : Int)), .s (.int .i64 ((B : Nat) : Int))]) 0 [], .num ((D : Nat) : Int), .num ((D : Nat) : Int), .num ((D + B : Nat) : Int), .idx (D + B), .idx D, .idx B,
        .call [4] [(hN g nn).v, .s (.str ys), .s (.slc (some (0, D)) B (some (K - D)))] [(0, some (bR 22 false (cU V)))] (.s (.slc (some (1, 0)) B (some B))) 2 [(0, some (bR 22 false (cU V))), (1, some (bU O2))], .dec false, .num ((D : Nat) : Int), .idx D, .idx (K - D), .idx B, .cells (cU W), .num ((1 + 1 : Nat) : Int)], _, _, _, _, _, rfl, ?_, rfl, rfl⟩
      simp only [true_and, and_true, and_assoc, decide_eq_true_eq, beq_iff_eq, bne_eq_false_iff_eq, ne_eq, i64_wrap, ltCap, topOf, sz22]
      repeat' apply And.intro
      all_goals first
        | exact True.intro
        | omega
        | exact call0 u2 rfl
        | exact ⟨i2, rfl, Fits.of rfl rfl ⟨⟨rfl, _, rfl, rfl, fun _ => rfl⟩, trivial⟩⟩
        | exact sc2
        | exact np2
        | (with_reducible show _ = true; kernel_rfl)
        | (show D + B * 1 ≤ (cU V).length; omega)
        | (show _ ≤ (cU O2).length; omega)
  · simp only [decide_eq_false_iff_not, and_true, true_and]; omega

theorem neighbors_E (f : Fsp) (hf : f.ok) (nn : Int) (a c : Nat) (ha : a < 2 ^ 64) (hc : c < 2 ^ 64)  :
    SC Try.prog 5 [f.v, .s (.int .i64 nn), .s (.int .u64 ((a : Nat) : Int)), .s (.int .u64 ((c : Nat) : Int)), .s .emp] 0 [] (.s (.bool true)) 0 [] := by
  cases h : nbBad (vld (gN (specF f))) (vld (hN (specF f) nn)) (vld (tN (specF f) nn)) (specF f).ln with
  | true => exact nbBad_E f hf nn a c h 
  | false => exact nb_E f hf nn a c ha hc h 

theorem nbBad_B (f : Fsp) (hf : f.ok) (nn : Int) (a c : Nat) (h : nbBad (vld (gN (specF f))) (vld (hN (specF f) nn)) (vld (tN (specF f) nn)) (specF f).ln = true) (ty : TypeId) (mr : Bool) (C : List S) (gi : Nat → Nat) (hgi : ∀ i, gi i < 2 ^ 64) (oo mm : Nat) (cc : Option Nat) (hC : ∀ i, i < mm → C[oo + i]? = some (.int .u64 ((gi i : Nat) : Int))) (ho : oo + mm ≤ C.length) :
    SC Try.prog 5 [f.v, .s (.int .i64 nn), .s (.int .u64 ((a : Nat) : Int)), .s (.int .u64 ((c : Nat) : Int)), .s (.slc (some (0, oo)) mm cc)] 1 [(0, some (bR ty mr C))] (.s (.bool true)) 1 [(0, some (bR ty mr C))] := by
  have hg := specF_ok hf
  have c1 := spec_s f hf
  have c2 := md_s nn 40 (by decide) (by decide)
  have hb := md_b nn 40 (by decide)
  have v1 := validField_s _ (gN_ok hg)
  have v2 := validField_s _ (hN_ok hg nn)
  have v3 := validField_s _ (tN_ok hg nn)
  generalize specF f = g at *
  refine SC.run hm Try.func5 rfl [.call [] [f.v] [] g.v 0 [], .num (IntKind.i64.wrap (g.bit + g.ln)), .call [] [.s (.int .i64 nn), .s (.int .i64 40)] [] (.s (.int .i64 (md nn 40))) 0 [], .num (1 + md nn 40), .num (IntKind.i64.wrap (g.ln + (1 + md nn 40))), .lazy [.call [] [(gN g).v] [] (.s (.bool (vld (gN g)))) 0 [], .call [] [(hN g nn).v] [] (.s (.bool (vld (hN g nn)))) 0 [], .call [] [(tN g nn).v] [] (.s (.bool (vld (tN g nn)))) 0 []] [(70, true)], .call [] [] [] (.s (.bool true)) 0 []] [] rfl rfl ?_ (.inl rfl) (EndOK.by rfl ⟨rfl, trivial⟩ rfl rfl rfl rfl)
  simp only [true_and, and_true, and_assoc, and_self, imp_self, implies_true, Bool.not_eq_true', Bool.not_eq_false']
  repeat' apply And.intro
  all_goals first
    | exact True.intro
    | exact call0 c1 rfl
    | exact call0 c2 rfl
    | exact call0 v1 rfl
    | exact call0 awake_s rfl
    | exact h
    | rfl
    | (with_reducible show _ = true; kernel_rfl)
    | exact fun h => ⟨h, by kernel_rfl, call0 v2 rfl⟩
    | exact fun h => ⟨h, by kernel_rfl, call0 v3 rfl⟩
    | exact fun _ => ⟨by kernel_rfl, call0 v2 rfl⟩
    | exact fun _ => ⟨by kernel_rfl, call0 v3 rfl⟩
    | (rw [i64_wrap]; omega)

set_option maxHeartbeats 8000000 in
theorem nb_B (f : Fsp) (hf : f.ok) (nn : Int) (a c : Nat) (ha : a < 2 ^ 64) (hc : c < 2 ^ 64) (h : nbBad (vld (gN (specF f))) (vld (hN (specF f) nn)) (vld (tN (specF f) nn)) (specF f).ln = false) (ty : TypeId) (mr : Bool) (C : List S) (gi : Nat → Nat) (hgi : ∀ i, gi i < 2 ^ 64) (oo mm : Nat) (cc : Option Nat) (hC : ∀ i, i < mm → C[oo + i]? = some (.int .u64 ((gi i : Nat) : Int))) (ho : oo + mm ≤ C.length) :
    SC Try.prog 5 [f.v, .s (.int .i64 nn), .s (.int .u64 ((a : Nat) : Int)), .s (.int .u64 ((c : Nat) : Int)), .s (.slc (some (0, oo)) mm cc)] 1 [(0, some (bR ty mr C))] (.s (.bool true)) 1 [(0, some (bR ty mr C))] := by
  have hg := specF_ok hf
  have c1 := spec_s f hf
  have c2 := md_s nn 40 (by decide) (by decide)
  have hmb := md_b nn 40 (by decide)
  have v1 := validField_s _ (gN_ok hg)
  have v2 := validField_s _ (hN_ok hg nn)
  have v3 := validField_s _ (tN_ok hg nn)
  have hbad := h
  simp only [nbBad, Bool.or_eq_false_iff, Bool.not_eq_false', decide_eq_false_iff_not] at h
  obtain ⟨⟨⟨w1, w2⟩, w3⟩, h64⟩ := h
  obtain ⟨b, n, w, F1⟩ := FV.of w1
  have eb : (specF f).bit = b := F1.bit
  have en : (specF f).ln = n := F1.ln
  have ew : (specF f).wd = w := F1.wd
  have hb2 := F1.b2
  have hn1 := F1.n1
  have hn2 := F1.n2
  obtain ⟨m, hmm⟩ : ∃ m : Nat, 1 + md nn 40 = m := ⟨(1 + md nn 40).toNat, by omega⟩
  have ewr1 : IntKind.i64.wrap ((specF f).bit + (specF f).ln) = ((b + n : Nat) : Int) := by rw [eb, en, i64_wrap]; omega
  have ewr2 : IntKind.i64.wrap ((specF f).ln + (1 + md nn 40)) = ((n + m : Nat) : Int) := by rw [en, hmm, i64_wrap]; omega
  have F2 : FV (hN (specF f) nn) (b + n) m w := by
    obtain ⟨x, y, z, q⟩ := FV.of w2
    have q1 : IntKind.i64.wrap ((specF f).bit + (specF f).ln) = x := q.bit
    have q2 : 1 + md nn 40 = y := q.ln
    have q3 : (specF f).wd = z := q.wd
    obtain rfl : x = b + n := by omega
    obtain rfl : y = m := by omega
    obtain rfl : z = w := by omega
    exact q
  have F3 : FV (tN (specF f) nn) b (n + m) w := by
    obtain ⟨x, y, z, q⟩ := FV.of w3
    have q1 : (specF f).bit = x := q.bit
    have q2 : IntKind.i64.wrap ((specF f).ln + (1 + md nn 40)) = y := q.ln
    have q3 : (specF f).wd = z := q.wd
    obtain rfl : x = b := by omega
    obtain rfl : y = n + m := by omega
    obtain rfl : z = w := by omega
    exact q
  have hm1 := F2.n1
  have hK := nU_le F3
  have hw0 : 0 < w := by have := F1.w; omega
  have hw8 : w ≤ 8 := by have := F1.w; omega
  obtain ⟨s1, s2, s3⟩ := nU_split (b := b) hw0 hn1 hm1
  have hN1 : 1 ≤ nU b n w := by unfold nU; omega
  have hN2 : 1 ≤ nU (b + n) m w := by unfold nU; omega
  have hF := uf_le b w
  have c4 := runits_v (tN_ok hg nn) F3
  have c5 := fit_s ty mr C gi oo mm (nU b (n + m) w) cc hC ho (by omega)
  have hGl : (fitL gi mm (nU b (n + m) w)).length = nU b (n + m) w := fitL_length gi mm (nU b (n + m) w)
  have hGlt : ∀ i, (fitL gi mm (nU b (n + m) w)).getD i 0 < 2 ^ 64 := fitL_lt hgi
  have hfm := ones_s (specF f).wd (by omega) (by omega)
  rw [show ones (specF f).wd = ((2 ^ (8 * w) - 1 : Nat) : Int) by rw [ew]; exact ones_nat F1.w] at hfm
  have hon := ones_lt w hw8
  generalize (fitL gi mm (nU b (n + m) w)) = G at *
  have hUl : (mkK w G (nU b (n + m) w)).length = nU b (n + m) w := by rw [mkK_length, hGl]
  have hUlt : ∀ i, (mkK w G (nU b (n + m) w)).getD i 0 < 2 ^ 64 := mkK_lt hGlt hw8 _
  have d1 := number_s a
  have d2 := rfrom_1 (gN_ok hg) F1 ⟨1, a, [], 0⟩ rfl ha rfl
  have d3 := number_s c
  have d4 := rfrom_1 (hN_ok hg nn) F2 ⟨1, c, [], 0⟩ rfl hc rfl
  have u1 := runits_v (gN_ok hg) F1
  have u2 := runits_v (hN_ok hg nn) F2
  rw [s3] at u2
  dsimp only at d2 d4
  generalize hxs : fvS n (lit a 8) = xs at *
  generalize hys : fvS m (lit c 8) = ys at *
  have fxs : fvS n xs = xs := by rw [← hxs, fvS_fvS]
  have fys : fvS m ys = ys := by rw [← hys, fvS_fvS]
  have hmk : ∀ k, k < nU b (n + m) w → _ := fun k hk => ldU (l := mkK w G k) (i := k) (by rw [mkK_length, hGl]; exact hk) (ty := 22) (m := false) (r := false) (s := true) (f := true) (gh := none)
  have hmks : ∀ k, cU (mkK w G (k + 1)) = setL (cU (mkK w G k)) k [.int .u64 ((G.getD k 0 &&& (2 ^ (8 * w) - 1) : Nat) : Int)] := fun k => cU_set _ _ _
  have hmkl : ∀ k, (cU (mkK w G k)).length = nU b (n + m) w := fun k => by rw [cU_length, mkK_length, hGl]
  generalize hU : mkK w G (nU b (n + m) w) = U at *
  have i1 := insert_s (gN_ok hg) F1 xs 22 false (cU U) (fun i => U.getD i 0) hUlt 0 (some (nU b (n + m) w)) (fun i hi => by rw [Nat.zero_add]; exact cU_get (by omega))
  have l1 : (inK b n w (gN (specF f)).up (fun i => U.getD i 0) xs n).length = nU b n w := inK_length ..
  have lt1 := inK_lt (b := b) (n := n) hw0 hw8 (gN (specF f)).up (fun i => U.getD i 0) xs n
  have law1 := nb_first (b := b) (m := m) (U := U) (s := xs) (t := ys) hw0 hw8 hn1 hm1 hUlt hUl
  rw [show (0 : Int) = (gN (specF f)).up from rfl] at law1
  generalize hO1 : inK b n w (gN (specF f)).up (fun i => U.getD i 0) xs n = O1 at *
  have sl1 := splice_length U O1 0 (by omega)
  have slt1 := splice_lt (U := U) (O := O1) (d := 0) (by omega) hUlt lt1
  have sc1 := splice_cells U O1 0 (nU b n w) l1 (by omega)
  generalize hV : splice U 0 O1 = V at *
  have i2 := insert_s (hN_ok hg nn) F2 ys 22 false (cU V) (fun i => V.getD (ui b w n + i) 0) (fun i => slt1 _) (ui b w n) (some (nU b (n + m) w - ui b w n)) (fun i hi => cU_get (by omega))
  have l2 : (inK (b + n) m w (hN (specF f) nn).up (fun i => V.getD (ui b w n + i) 0) ys m).length = nU (b + n) m w := inK_length ..
  have lt2 := inK_lt (b := b + n) (n := m) hw0 hw8 (hN (specF f) nn).up (fun i => V.getD (ui b w n + i) 0) ys m
  have law2 := nb_second (b := b) (n := n) (V := V) (d := ui b w n) (t := ys) hw0 hw8 hm1 slt1 (by omega)
  rw [show (0 : Int) = (hN (specF f) nn).up from rfl] at law2
  rw [show (gN (specF f)).up = (hN (specF f) nn).up from rfl] at law1
  generalize hO2 : inK (b + n) m w (hN (specF f) nn).up (fun i => V.getD (ui b w n + i) 0) ys m = O2 at *
  have sl2 := splice_length V O2 (ui b w n) (by omega)
  have slt2 := splice_lt (U := V) (O := O2) (d := ui b w n) (by omega) slt1 lt2
  have sc2 := splice_cells V O2 (ui b w n) (nU (b + n) m w) l2 (by omega)
  generalize hW : splice V (ui b w n) O2 = W at *
  have x1 := extract_s (gN_ok hg) F1 22 false (cU W) (fun i => W.getD i 0) slt2 0 (some (nU b (n + m) w)) (fun i hi => by rw [Nat.zero_add]; exact cU_get (by omega))
  have x2 := extract_s (hN_ok hg nn) F2 22 false (cU W) (fun i => W.getD (ui b w n + i) 0) (fun i => slt2 _) (ui b w n) (some (nU b (n + m) w - ui b w n)) (fun i hi => cU_get (by omega))
  rw [law1, fxs] at x1
  rw [law2, fys] at x2
  generalize specF f = g at *
  generalize hKK : nU b (n + m) w = K at *
  generalize hA1 : nU b n w = A at *
  generalize hA2 : nU (b + n) m w = B at *
  generalize hD : ui b w n = D at *
  have hgl := hGlt
  refine SC.run hm Try.func5 rfl [.call [] [f.v] [] g.v 0 [], .num (IntKind.i64.wrap (g.bit + g.ln)), .call [] [.s (.int .i64 nn), .s (.int .i64 40)] [] (.s (.int .i64 (md nn 40))) 0 [], .num (1 + md nn 40), .num (IntKind.i64.wrap (g.ln + (1 + md nn 40))), .lazy [.call [] [(gN g).v] [] (.s (.bool (vld (gN g)))) 0 [], .call [] [(hN g nn).v] [] (.s (.bool (vld (hN g nn)))) 0 [], .call [] [(tN g nn).v] [] (.s (.bool (vld (tN g nn)))) 0 []] [(70, false)], .call [] [(tN g nn).v] [] (.tup [.s (.int .i64 ((uf b w : Nat) : Int)), .s (.int .i64 ((K : Nat) : Int))]) 0 [], .call [0] [.s (.slc (some (0, oo)) mm cc), .s (.int .i64 ((K : Nat) : Int))] [(0, some (bR ty mr C))] (.s (.slc (some (1, 0)) K (some K))) 2 [(0, some (bR ty mr C)), (1, some (bU G))],
    .loop (.exit 0) (sp 190 [(2, .s (.int .u64 ((a : Nat) : Int))), (3, .s (.int .u64 ((c : Nat) : Int))), (11, .s (.ptr (some (2, 0)))), (12, .s (.ptr (some (3, 0)))), (14, .s (.int .i64 ((uf b w : Nat) : Int))), (16, .s (.slc (some (5, 0)) K (some K)))]) 6 [(0, some (bR ty mr C)), (2, some { cells := (gN g).c, ty := 26 }), (3, some { cells := (hN g nn).c, ty := 26 }), (5, some (bU U))],
    .call [] [.s (.int .u64 ((a : Nat) : Int))] [] (Vl.v ⟨1, a, [], 0⟩) 0 [], .call [] [(gN g).v, Vl.v ⟨1, a, [], 0⟩] [] (.tup [.s (.str xs), .s (.int .i64 0)]) 0 [],
    .call [] [.s (.int .u64 ((c : Nat) : Int))] [] (Vl.v ⟨1, c, [], 0⟩) 0 [], .call [] [(hN g nn).v, Vl.v ⟨1, c, [], 0⟩] [] (.tup [.s (.str ys), .s (.int .i64 0)]) 0 [],
    .loop (.exit 2) (sp 190 [(11, .s (.ptr (some (2, 0)))), (12, .s (.ptr (some (3, 0)))), (14, .s (.int .i64 ((uf b w : Nat) : Int))), (16, .s (.slc (some (5, 0)) K (some K))), (18, .s (.str xs)), (20, .s (.str ys))]) 6 [(0, some (bR ty mr C)), (2, some { cells := (gN g).c, ty := 26 }), (3, some { cells := (hN g nn).c, ty := 26 }), (5, some (bU W))],
    .call [] [(gN g).v] [] (.tup [.s (.int .i64 ((uf b w : Nat) : Int)), .s (.int .i64 ((A : Nat) : Int))]) 0 [], .call [] [(hN g nn).v] [] (.tup [.s (.int .i64 ((uf b w + D : Nat) : Int)), .s (.int .i64 ((B : Nat) : Int))]) 0 [],
    .call [] [] [] (.s (.bool true)) 0 [], .num 0, .num 0, .num ((A : Nat) : Int), .idx A, .idx 0, .idx A, .call [5] [(gN g).v, .s (.slc (some (0, 0)) A (some K))] [(0, some (bR 22 false (cU W)))] (.s (.str xs)) 1 [(0, some (bR 22 false (cU W)))], .dec true,
    .num ((D : Nat) : Int), .num ((D : Nat) : Int), .num ((D + B : Nat) : Int), .idx (D + B), .idx D, .idx B, .call [5] [(hN g nn).v, .s (.slc (some (0, D)) B (some (K - D)))] [(0, some (bR 22 false (cU W)))] (.s (.str ys)) 1 [(0, some (bR 22 false (cU W)))], .dec true] [] rfl rfl ?_ (.inl rfl) (EndOK.by rfl ⟨rfl, trivial⟩ rfl rfl rfl rfl)
  simp only [true_and, and_true, and_assoc, and_self, imp_self, implies_true, Bool.not_eq_true', Bool.not_eq_false', decide_true, ltCap, topOf]
  repeat' apply And.intro
  all_goals first
    | exact True.intro
    | exact call0 c1 rfl
    | exact call0 c2 rfl
    | exact call0 v1 rfl
    | exact call0 c4 rfl
    | exact ⟨c5, rfl, Fits.of rfl rfl ⟨⟨rfl, _, rfl, rfl, fun _ => rfl⟩, trivial⟩⟩
    | exact call0 d1 rfl
    | exact call0 d2 rfl
    | exact call0 d3 rfl
    | exact call0 d4 rfl
    | exact call0 u1 rfl
    | exact call0 u2 rfl
    | exact call0 awake_s rfl
    | exact hbad
    | (with_reducible show _ = true; kernel_rfl)
    | exact fun h => ⟨h, by kernel_rfl, call0 v2 rfl⟩
    | exact fun h => ⟨h, by kernel_rfl, call0 v3 rfl⟩
    | exact fun _ => ⟨by kernel_rfl, call0 v2 rfl⟩
    | exact fun _ => ⟨by kernel_rfl, call0 v3 rfl⟩
    | exact ⟨x1, rfl, Fits.of rfl rfl ⟨⟨rfl, _, rfl, rfl, fun _ => rfl⟩, trivial⟩⟩
    | exact ⟨x2, rfl, Fits.of rfl rfl ⟨⟨rfl, _, rfl, rfl, fun _ => rfl⟩, trivial⟩⟩
    | omega
    | (rw [i64_wrap]; omega)
    | refine Ex.turns hm [2, 3, 11, 12, 14, 15, 16, 17] [0, 2, 3, 5] K (fun k => sp 190 [(2, .s (.int .u64 ((a : Nat) : Int))), (3, .s (.int .u64 ((c : Nat) : Int))), (11, .s (.ptr (some (2, 0)))), (12, .s (.ptr (some (3, 0)))), (14, .s (.int .i64 ((uf b w : Nat) : Int))), (15, .s (.int .i64 ((K : Nat) : Int))), (16, .s (.slc (some (5, 0)) K (some K))), (17, .s (.int .i64 ((k : Nat) : Int)))])
        (fun k => [(0, some (bR ty mr C)), (2, some { cells := (gN g).c, ty := 26 }), (3, some { cells := (hN g nn).c, ty := 26 }), (5, some (bU (mkK w G k)))]) (by omega) rfl rfl (fun k => ⟨rfl, rfl⟩) ?_ [2, 3, 11, 12, 14, 16] [0, 2, 3, 5] (by simp) ⟨rfl, rfl⟩ ⟨[.dec false], _, _, _, _, _, rfl, ?_, rfl, ?_⟩
    | refine Ex.turns hm [11, 12, 14, 16, 18, 20, 22] [0, 2, 3, 5] 2 (fun k => sp 190 [(11, .s (.ptr (some (2, 0)))), (12, .s (.ptr (some (3, 0)))), (14, .s (.int .i64 ((uf b w : Nat) : Int))), (16, .s (.slc (some (5, 0)) K (some K))), (18, .s (.str xs)), (20, .s (.str ys)), (22, .s (.int .i64 ((k : Nat) : Int)))])
        (fun k => [(0, some (bR ty mr C)), (2, some { cells := (gN g).c, ty := 26 }), (3, some { cells := (hN g nn).c, ty := 26 }), (5, some (bU (match k with | 0 => U | 1 => V | _ + 2 => W)))]) (by omega) rfl rfl (fun k => ⟨rfl, rfl⟩) ?_ [11, 12, 14, 16, 18, 20] [0, 2, 3, 5] (by simp) ⟨rfl, rfl⟩ ⟨[.dec false], _, _, _, _, _, rfl, ?_, rfl, rfl⟩
  · intro k hk
    have hld := hmk k hk
    have hst := hmks k
    have hlen := hmkl k
    have hgk := hgl k
    rw [mkK_at] at hld
    generalize G.getD k 0 = y at *
    have e2 : bitV .and .u64 ((y : Nat) : Int) ((2 ^ (8 * w) - 1 : Nat) : Int) = ((y &&& (2 ^ (8 * w) - 1) : Nat) : Int) := and64 hgk hon
    refine ⟨[.dec true, .idx k, .val (.s (.int .u64 ((y : Nat) : Int))), .call [] [.s (.int .i64 g.wd)] [] (.s (.int .u64 ((2 ^ (8 * w) - 1 : Nat) : Int))) 0 [], .num ((y &&& (2 ^ (8 * w) - 1) : Nat) : Int), .idx k, .cells (cU (mkK w G (k + 1))), .num ((k + 1 : Nat) : Int)], _, _, _, _, _, rfl, ?_, rfl, rfl⟩
    simp only [true_and, and_true, and_assoc, decide_eq_true_eq, i64_wrap]
    repeat' apply And.intro
    all_goals first
      | exact True.intro
      | omega
      | exact call0 hfm rfl
      | exact hld
      | exact hst
      | exact e2
      | (show k + 1 ≤ (cU (mkK w G k)).length; omega)
      | (with_reducible show _ = true; kernel_rfl)
  · simp only [decide_eq_false_iff_not, and_true, true_and]; omega
  · rw [hU]; rfl
  · intro k hk
    have hk2 : k = 0 ∨ k = 1 := by omega
    have lenU : (cU U).length = K := by rw [cU_length]; omega
    have lenV : (cU V).length = K := by rw [cU_length]; omega
    have lenO1 : (cU O1).length = A := by rw [cU_length]; omega
    have lenO2 : (cU O2).length = B := by rw [cU_length]; omega
    have np1 : (List.take (A * 1) (List.drop 0 (cU O1))).all noPtr = true := all_take_drop (cU_noPtr O1) _ _
    have np2 : (List.take (B * 1) (List.drop 0 (cU O2))).all noPtr = true := all_take_drop (cU_noPtr O2) _ _
    rcases hk2 with rfl | rfl
    · refine ⟨[.dec true, .dec false, .call [] [(gN g).v] [] (.tup [.s (.int .i64 ((uf b w : Nat) : Int)), .s (.int .i64 ((A : Nat) : Int))]) 0 [], .num 0, .num 0, .num ((A : Nat) : Int), .idx A, .idx 0, .idx A,
        .call [5] [(gN g).v, .s (.str xs), .s (.slc (some (0, 0)) A (some K))] [(0, some (bR 22 false (cU U)))] (.s (.slc (some (1, 0)) A (some A))) 2 [(0, some (bR 22 false (cU U))), (1, some (bU O1))], .dec false, .num 0, .idx 0, .idx K, .idx A, .cells (cU V), .num ((0 + 1 : Nat) : Int)], _, _, _, _, _, rfl, ?_, rfl, rfl⟩
      simp only [true_and, and_true, and_assoc, decide_eq_true_eq, beq_eq_false_iff_ne, bne_eq_false_iff_eq, ne_eq, i64_wrap, ltCap, topOf, sz22]
      repeat' apply And.intro
      all_goals first
        | exact True.intro
        | omega
        | exact call0 u1 rfl
        | exact ⟨i1, rfl, Fits.of rfl rfl ⟨⟨rfl, _, rfl, rfl, fun _ => rfl⟩, trivial⟩⟩
        | exact sc1
        | exact np1
        | (with_reducible show _ = true; kernel_rfl)
        | (show 0 + A * 1 ≤ (cU U).length; omega)
        | (show _ ≤ (cU O1).length; omega)
    · refine ⟨[.dec true, .dec true, .call [] [(hN g nn).v] [] (.tup [.s (.int .i64 ((uf b w + D : Nat) : Int)), .s (.int .i64 ((B : Nat) : Int))]) 0 [], .num ((D : Nat) : Int), .num ((D : Nat) : Int), .num ((D + B : Nat) : Int), .idx (D + B), .idx D, .idx B,
        .call [5] [(hN g nn).v, .s (.str ys), .s (.slc (some (0, D)) B (some (K - D)))] [(0, some (bR 22 false (cU V)))] (.s (.slc (some (1, 0)) B (some B))) 2 [(0, some (bR 22 false (cU V))), (1, some (bU O2))], .dec false, .num ((D : Nat) : Int), .idx D, .idx (K - D), .idx B, .cells (cU W), .num ((1 + 1 : Nat) : Int)], _, _, _, _, _, rfl, ?_, rfl, rfl⟩
      simp only [true_and, and_true, and_assoc, decide_eq_true_eq, beq_iff_eq, bne_eq_false_iff_eq, ne_eq, i64_wrap, ltCap, topOf, sz22]
      repeat' apply And.intro
      all_goals first
        | exact True.intro
        | omega
        | exact call0 u2 rfl
        | exact ⟨i2, rfl, Fits.of rfl rfl ⟨⟨rfl, _, rfl, rfl, fun _ => rfl⟩, trivial⟩⟩
        | exact sc2
        | exact np2
        | (with_reducible show _ = true; kernel_rfl)
        | (show D + B * 1 ≤ (cU V).length; omega)
        | (show _ ≤ (cU O2).length; omega)
  · simp only [decide_eq_false_iff_not, and_true, true_and]; omega

theorem neighbors_B (f : Fsp) (hf : f.ok) (nn : Int) (a c : Nat) (ha : a < 2 ^ 64) (hc : c < 2 ^ 64) (ty : TypeId) (mr : Bool) (C : List S) (gi : Nat → Nat) (hgi : ∀ i, gi i < 2 ^ 64) (oo mm : Nat) (cc : Option Nat) (hC : ∀ i, i < mm → C[oo + i]? = some (.int .u64 ((gi i : Nat) : Int))) (ho : oo + mm ≤ C.length) :
    SC Try.prog 5 [f.v, .s (.int .i64 nn), .s (.int .u64 ((a : Nat) : Int)), .s (.int .u64 ((c : Nat) : Int)), .s (.slc (some (0, oo)) mm cc)] 1 [(0, some (bR ty mr C))] (.s (.bool true)) 1 [(0, some (bR ty mr C))] := by
  cases h : nbBad (vld (gN (specF f))) (vld (hN (specF f) nn)) (vld (tN (specF f) nn)) (specF f).ln with
  | true => exact nbBad_B f hf nn a c h ty mr C gi hgi oo mm cc hC ho
  | false => exact nb_B f hf nn a c ha hc h ty mr C gi hgi oo mm cc hC ho

end Go.Proofs.Ytgnidbokllmhhaa
