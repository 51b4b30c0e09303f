/-
  FieldRoundTrip: the plain laws, and the walk: it returns true.
-/
import Derived.Test.YtgnidbokllmhhaaLy
import Derived.Test.YtgnidbokllmhhaaLp
import Derived.Test.YtgnidbokllmhhaaLs
set_option linter.unusedSimpArgs false
set_option linter.unusedVariables false
namespace Go.Proofs.Ytgnidbokllmhhaa
open Go Ab
set_option maxRecDepth 100000

theorem sb_toB {l : List Nat} (h : ∀ i, l.getD i 0 < 256) (k : Nat) : sb (toB l) k = (l.getD (k / 8) 0).testBit (k % 8) := by
  unfold sb; rw [toB_getD l _ (h _)]
theorem fvS_bit (n : Nat) (s : List UInt8) {k : Nat} (hk : k < n) : sb (fvS n s) k = sb s k := by
  unfold fvS
  rw [sb_toB (fvK_lt n s n), Bool.eq_iff_iff]
  unfold fvK
  rw [orK_bit, rep_getD, List.length_replicate]
  constructor
  · rintro (h | ⟨_, m, _, hm, h1, h2⟩)
    · simp at h
    · have : m = k := by omega
      rw [← this]; exact hm
  · intro h
    exact .inr ⟨by omega, k, hk, h, rfl, rfl⟩
theorem fvS_fvS (n : Nat) (s : List UInt8) : fvS n (fvS n s) = fvS n s := by
  unfold fvS
  congr 1
  exact orK_congr n fun m hm => fvS_bit n s hm
theorem fvS_length (n : Nat) (s : List UInt8) : (fvS n s).length = (n + 7) / 8 := by unfold fvS; rw [toB_length, fvK_length]

section
variable {b n w : Nat} {up : Int} {g : Nat → Nat} {s : List UInt8}
theorem u0_bit (hg : ∀ i, g i < 2 ^ 64) (hw8 : w ≤ 8) (hup : up = 0 ∨ up = 1 ∨ up = 2) (i j : Nat) (mask : Nat) : (u0 up w (g i) mask).testBit j = true ↔ mask.testBit j = false ∧ j < 8 * w ∧ (up = 1 ∨ up = 0 ∧ (g i).testBit j = true) := by
  unfold u0
  have hon := ones_lt w hw8
  rcases hup with e | e | e
  · rw [if_pos e, andN_bit (Nat.and_lt_two_pow _ hon), Nat.testBit_and, Nat.testBit_two_pow_sub_one]
    simp only [Bool.and_eq_true, decide_eq_true_eq]
    constructor
    · rintro ⟨⟨h1, h2⟩, h3⟩; exact ⟨h3, h2, .inr ⟨e, h1⟩⟩
    · rintro ⟨h1, h2, h3 | ⟨_, h3⟩⟩
      · omega
      · exact ⟨⟨h3, h2⟩, h1⟩
  · rw [if_neg (by omega), if_pos e, andN_bit hon, Nat.testBit_two_pow_sub_one]
    simp only [decide_eq_true_eq]
    constructor
    · rintro ⟨h1, h2⟩; exact ⟨h2, h1, .inl e⟩
    · rintro ⟨h1, h2, _⟩; exact ⟨h2, h1⟩
  · rw [if_neg (by omega), if_neg (by omega)]
    simp only [Nat.zero_testBit, Bool.false_eq_true, false_iff]
    rintro ⟨_, _, h | ⟨h, _⟩⟩ <;> omega

/-- a bit of what Insert writes -/
theorem inK_bit (hw0 : 0 < w) (hw8 : w ≤ 8) (hg : ∀ i, g i < 2 ^ 64) (hup : up = 0 ∨ up = 1 ∨ up = 2) {i : Nat} (hi : i < nU b n w) (j : Nat) :
    ((inK b n w up g s n).getD i 0).testBit j = true ↔ ((mv b n w i).testBit j = false ∧ j < 8 * w ∧ (up = 1 ∨ up = 0 ∧ (g i).testBit j = true)) ∨ ∃ m, m < n ∧ sb s m = true ∧ ui b w m = i ∧ bi b w m = j := by
  unfold inK
  rw [orK_bit, inA_getD, if_pos hi, inA_length, u0_bit hg hw8 hup]
  constructor
  · rintro (h | ⟨_, m, h1, h2, h3, h4⟩)
    · exact .inl h
    · exact .inr ⟨m, h1, h2, h3, h4⟩
  · rintro (h | ⟨m, h1, h2, h3, h4⟩)
    · exact .inl h
    · exact .inr ⟨hi, m, h1, h2, h3, h4⟩

theorem ex_in (hw0 : 0 < w) (hw8 : w ≤ 8) (hn : 1 ≤ n) (hg : ∀ i, g i < 2 ^ 64) (hup : up = 0 ∨ up = 1 ∨ up = 2) : exS b n w (fun i => (inK b n w up g s n).getD i 0) = fvS n s := by
  unfold exS fvS exK fvK
  congr 1
  refine orK_congr n fun m hm => ?_
  rw [Bool.eq_iff_iff, inK_bit hw0 hw8 hg hup (ui_lt hw0 hn hm)]
  constructor
  · rintro (⟨h1, _⟩ | ⟨m', _, h2, h3, h4⟩)
    · have := (mv_iff (b := b) (n := n) (i := ui b w m) (j := bi b w m) hw0).2 ⟨m, hm, rfl, rfl⟩
      rw [this] at h1; cases h1
    · rw [← ub_inj hw0 h3 h4]; exact h2
  · intro h
    exact .inr ⟨m, hm, h, rfl, rfl⟩

theorem in_ones (hw0 : 0 < w) (hw8 : w ≤ 8) (hg : ∀ i, g i < 2 ^ 64) (hup : up = 0 ∨ up = 1 ∨ up = 2) {i : Nat} (hi : i < nU b n w) : andN ((inK b n w up g s n).getD i 0) (2 ^ (8 * w) - 1) = 0 := by
  refine Nat.eq_of_testBit_eq fun j => ?_
  rw [Nat.zero_testBit, Bool.eq_false_iff]
  intro h
  obtain ⟨h1, h2⟩ := (andN_bit (inK_lt hw0 hw8 up g s n i) j).1 h
  rw [Nat.testBit_two_pow_sub_one, decide_eq_false_iff_not] at h2
  rcases (inK_bit hw0 hw8 hg hup hi j).1 h1 with ⟨_, h3, _⟩ | ⟨m, _, _, _, rfl⟩
  · exact h2 h3
  · exact h2 (bi_lt hw0 m)

theorem in_keep (hw0 : 0 < w) (hw8 : w ≤ 8) (hg : ∀ i, g i < 2 ^ 64) (hup : up = 0) {i : Nat} (hi : i < nU b n w) : andN (((inK b n w up g s n).getD i 0 ^^^ g i) &&& (2 ^ (8 * w) - 1)) (mv b n w i) = 0 := by
  have hon := ones_lt w hw8
  refine Nat.eq_of_testBit_eq fun j => ?_
  rw [Nat.zero_testBit, Bool.eq_false_iff]
  intro h
  obtain ⟨h1, h2⟩ := (andN_bit (Nat.and_lt_two_pow _ hon) j).1 h
  rw [Nat.testBit_and, Nat.testBit_xor, Nat.testBit_two_pow_sub_one, Bool.and_eq_true, decide_eq_true_eq] at h1
  obtain ⟨h1, h3⟩ := h1
  have e : ((inK b n w up g s n).getD i 0).testBit j = (g i).testBit j := by
    rw [Bool.eq_iff_iff, inK_bit hw0 hw8 hg (.inl hup) hi]
    constructor
    · rintro (⟨_, _, h | ⟨_, h⟩⟩ | ⟨m, hm, _, h4, h5⟩)
      · omega
      · exact h
      · have := (mv_iff (b := b) (n := n) (i := i) (j := j) hw0).2 ⟨m, hm, h4, h5⟩
        rw [this] at h2; cases h2
    · intro h; exact .inl ⟨h2, h3, .inr ⟨hup, h⟩⟩
  rw [e] at h1
  simp at h1
end

theorem rtBad_A {f : Fsp} (hf : f.ok) (h : vld (specF f) = false) (x : Vl)  : SC Try.prog 4 [f.v, x.v, .s (.slc none 0 (some 0))] 0 [] (.s (.bool true)) 0 [] := by
  have hg := specF_ok hf
  have c1 := spec_s f hf
  have c2 := number_s x.n
  have c3 := rfrom_bad2 (specF f) hg ⟨1, x.n, [], 0⟩ rfl h
  generalize specF f = g at *
  refine SC.run hm Try.func4 rfl [.call [] [f.v] [] g.v 0 [], .call [] [.s (.int .u64 ((x.n : Nat) : Int))] [] (Vl.v ⟨1, x.n, [], 0⟩) 0 [], .call [] [g.v, Vl.v ⟨1, x.n, [], 0⟩] [] (.tup [.s (.str []), .s (.int .i64 1)]) 0 [], .dec true, .call [] [] [] (.s (.bool true)) 0 []] [] rfl rfl ?_ (.inl rfl) (EndOK.plain rfl no_mem rfl rfl)
  simp only [true_and, and_true, and_assoc, bne_iff_ne, ne_eq]
  repeat' apply And.intro
  all_goals first
    | exact True.intro
    | exact call0 c1 rfl
    | exact call0 c2 rfl
    | exact call0 c3 rfl
    | exact call0 awake_s rfl
    | omega
    | (with_reducible show _ = true; kernel_rfl)

set_option maxHeartbeats 4000000 in
theorem rt_A {f : Fsp} {b n w : Nat} (hf : f.ok) (h : FV (specF f) b n w) (x : Vl) (hx : x.n < 2 ^ 64)  : SC Try.prog 4 [f.v, x.v, .s (.slc none 0 (some 0))] 0 [] (.s (.bool true)) 0 [] := by
  have hg := specF_ok hf
  have c1 := spec_s f hf
  have c2 := number_s x.n
  have hN := nU_le h
  have hw0 : 0 < w := by have := h.w; omega
  have hw8 : w ≤ 8 := by have := h.w; omega
  have hn1 := h.n1
  have hup := h.up
  have ewd := h.wd
  have c3 := rfrom_1 hg h ⟨1, x.n, [], 0⟩ rfl hx rfl
  have c4 := runits_v hg h
  have c5 := fit_nil (nU b n w) (by omega)
  have hGl : (List.replicate (nU b n w) 0).length = nU b n w := List.length_replicate
  have hGlt : ∀ i, (List.replicate (nU b n w) 0).getD i 0 < 2 ^ 64 := fun i => by rw [rep_getD]; decide
  have hfm := ones_s (specF f).wd (by omega) (by omega)
  rw [show ones (specF f).wd = ((2 ^ (8 * w) - 1 : Nat) : Int) by rw [ewd]; exact ones_nat h.w] at hfm
  generalize (List.replicate (nU b n w) 0) = G at *
  have c6 := insert_s hg h (fvS n (lit x.n 8)) 22 false (cU G) (fun i => G.getD i 0) hGlt 0 (some (nU b n w)) (fun i hi => by rw [Nat.zero_add]; exact cU_get (by omega))
  have hol := inK_length b n w (specF f).up (fun i => G.getD i 0) (fvS n (lit x.n 8)) n
  have holt := inK_lt (b := b) (n := n) hw0 hw8 (specF f).up (fun i => G.getD i 0) (fvS n (lit x.n 8)) n
  have hex : exS b n w _ = fvS n _ := ex_in (b := b) (s := fvS n (lit x.n 8)) hw0 hw8 hn1 hGlt hup
  rw [fvS_fvS] at hex
  have hones : ∀ i, i < nU b n w → _ := fun i hi => in_ones (b := b) (n := n) (s := fvS n (lit x.n 8)) hw0 hw8 hGlt hup hi
  have hkeep : (specF f).up = 0 → ∀ i, i < nU b n w → _ := fun hu i hi => in_keep (b := b) (n := n) (s := fvS n (lit x.n 8)) hw0 hw8 hGlt hu hi
  have c7 := extract_s hg h 22 false (cU (inK b n w (specF f).up (fun i => G.getD i 0) (fvS n (lit x.n 8)) n)) (fun i => (inK b n w (specF f).up (fun i => G.getD i 0) (fvS n (lit x.n 8)) n).getD i 0) holt 0 (some (nU b n w)) (fun i hi => by rw [Nat.zero_add]; exact cU_get (by omega))
  rw [hex] at c7
  have c8 := rmasks_s hg h
  have hmv : ∀ k, k < nU b n w → ldAt false 1 (bU (mL b n w)) k = some (.s (.int .u64 ((mv b n w k : Nat) : Int))) := by
    intro k hk
    have := ldU (l := mL b n w) (i := k) (by rw [mL_length]; exact hk) (ty := 22) (m := false) (r := false) (s := true) (f := true) (gh := none)
    rw [mL_getD, if_pos hk] at this; exact this
  have hmlt : ∀ k, mv b n w k < 2 ^ 64 ∨ nU b n w ≤ k := fun k => by
    rcases Nat.lt_or_ge k (nU b n w) with hk | hk
    · exact .inl (Nat.lt_of_lt_of_le (mv_lt hw0 hn1 hk) (Nat.pow_le_pow_right (by decide) (by omega)))
    · exact .inr hk
  generalize hO : inK b n w (specF f).up (fun i => G.getD i 0) (fvS n (lit x.n 8)) n = O at *
  generalize hS : fvS n (lit x.n 8) = bs at *
  generalize specF f = g at *
  have hne : nU b n w ≠ 0 := by unfold nU; omega
  generalize hNN : nU b n w = N at *
  refine SC.run hm Try.func4 rfl [.call [] [f.v] [] g.v 0 [], .call [] [.s (.int .u64 ((x.n : Nat) : Int))] [] (Vl.v ⟨1, x.n, [], 0⟩) 0 [], .call [] [g.v, Vl.v ⟨1, x.n, [], 0⟩] [] (.tup [.s (.str bs), .s (.int .i64 0)]) 0 [], .dec false,
    .call [] [g.v] [] (.tup [.s (.int .i64 ((uf b w : Nat) : Int)), .s (.int .i64 ((N : Nat) : Int))]) 0 [], .call [] [.s (.slc none 0 (some 0)), .s (.int .i64 ((N : Nat) : Int))] [] (.s (.slc (some (0, 0)) N (some N))) 1 [(0, some (bU G))],
    .call [3] [g.v, .s (.str bs), .s (.slc (some (0, 0)) N (some N))] [(0, some (bR 22 false (cU G)))] (.s (.slc (some (1, 0)) N (some N))) 2 [(0, some (bR 22 false (cU G))), (1, some (bU O))],
    .call [] [] [] (.s (.bool true)) 0 [], .call [4] [g.v, .s (.slc (some (0, 0)) N (some N))] [(0, some (bR 22 false (cU O)))] (.s (.str bs)) 1 [(0, some (bR 22 false (cU O)))], .dec false, .dec false,
    .call [] [g.v] [] (.s (.slc (some (0, 0)) N (some N))) 1 [(0, some (bU (mL b n w)))],
    .loop (.exit 0) (sp 98 []) 6 []] [] rfl rfl ?_ (.inl rfl) (EndOK.plain rfl no_mem rfl rfl)
  simp only [true_and, and_true, and_assoc, bne_eq_false_iff_eq, decide_true, Bool.not_true]
  repeat' apply And.intro
  all_goals first
    | exact True.intro
    | exact call0 c1 rfl
    | exact call0 c2 rfl
    | exact call0 c3 rfl
    | exact call0 c4 rfl
    | exact call0 c5 rfl
    | exact ⟨c6, rfl, Fits.of rfl rfl ⟨⟨rfl, _, rfl, rfl, fun _ => rfl⟩, trivial⟩⟩
    | exact ⟨c7, rfl, Fits.of rfl rfl ⟨⟨rfl, _, rfl, rfl, fun _ => rfl⟩, trivial⟩⟩
    | exact call0 c8 rfl
    | exact call0 awake_s rfl
    | omega
    | refine Ex.turns hm [7, 11, 12, 13, 14, 15] [2, 3, 4, 5] N (fun k => sp 98 [(7, .s (.ptr (some (2, 0)))), (11, .s (.int .i64 ((N : Nat) : Int))), (12, .s (.slc (some (3, 0)) N (some N))), (13, .s (.slc (some (4, 0)) N (some N))), (14, .s (.slc (some (5, 0)) N (some N))), (15, .s (.int .i64 ((k : Nat) : Int)))])
        (fun k => [(2, some { cells := g.c, ty := 26 }), (3, some (bU G)), (4, some (bU O)), (5, some (bU (mL b n w)))]) (by omega) rfl rfl (fun k => ⟨rfl, rfl⟩) ?_ [] [] (by simp) ⟨rfl, rfl⟩ ⟨[.dec false], _, _, _, _, _, rfl, ?_, rfl, rfl⟩
    | (with_reducible show _ = true; kernel_rfl)
  · intro k hk
    have ho := ldU (l := O) (i := k) (by omega) (ty := 22) (m := false) (r := false) (s := true) (f := true) (gh := none)
    have hq := ldU (l := G) (i := k) (by omega) (ty := 22) (m := false) (r := false) (s := true) (f := true) (gh := none)
    have hmk := hmv k hk
    have hml : mv b n w k < 2 ^ 64 := (hmlt k).resolve_right (by omega)
    have ho2 := holt k
    have hq2 := hGlt k
    have hon := ones_lt w hw8
    have z1 := hones k hk
    have z2 := fun hu => hkeep hu k hk
    generalize O.getD k 0 = y at *
    generalize G.getD k 0 = z at *
    generalize mv b n w k = mm at *
    have e1 : bitV .xor .u64 (y : Int) (z : Int) = ((y ^^^ z : Nat) : Int) := xor64 ho2 hq2
    have e2 : bitV .and .u64 ((y ^^^ z : Nat) : Int) ((2 ^ (8 * w) - 1 : Nat) : Int) = (((y ^^^ z) &&& (2 ^ (8 * w) - 1) : Nat) : Int) := and64 (Nat.xor_lt_two_pow ho2 hq2) hon
    have e3 : bitV .andNot .u64 (((y ^^^ z) &&& (2 ^ (8 * w) - 1) : Nat) : Int) ((mm : Nat) : Int) = ((andN ((y ^^^ z) &&& (2 ^ (8 * w) - 1)) mm : Nat) : Int) := andNot64 _ _
    have e4 : bitV .andNot .u64 ((y : Nat) : Int) ((2 ^ (8 * w) - 1 : Nat) : Int) = ((0 : Nat) : Int) := by rw [andNot64, z1]
    by_cases hu : g.up = 0
    · have z2 := z2 hu
      rw [z2] at e3
      refine ⟨[.dec true, .dec true, .idx k, .val (.s (.int .u64 ((y : Nat) : Int))), .idx k, .val (.s (.int .u64 ((z : Nat) : Int))), .num ((y ^^^ z : Nat) : Int), .call [] [.s (.int .i64 g.wd)] [] (.s (.int .u64 ((2 ^ (8 * w) - 1 : Nat) : Int))) 0 [], .num (((y ^^^ z) &&& (2 ^ (8 * w) - 1) : Nat) : Int), .idx k, .val (.s (.int .u64 ((mm : Nat) : Int))), .num ((0 : Nat) : Int), .dec false,
        .idx k, .val (.s (.int .u64 ((y : Nat) : Int))), .call [] [.s (.int .i64 g.wd)] [] (.s (.int .u64 ((2 ^ (8 * w) - 1 : Nat) : Int))) 0 [], .num ((0 : Nat) : Int), .dec false, .num ((k + 1 : Nat) : Int)], _, _, _, _, _, rfl, ?_, rfl, rfl⟩
      simp only [true_and, and_true, and_assoc, decide_eq_true_eq, beq_iff_eq, bne_eq_false_iff_eq, ne_eq, i64_wrap, u64_wrap]
      repeat' apply And.intro
      all_goals first
        | exact True.intro
        | omega
        | exact call0 hfm rfl
        | exact ho
        | exact hq
        | exact hmk
        | exact e1
        | exact e2
        | exact e3
        | exact e4
        | (with_reducible show _ = true; kernel_rfl)
    · refine ⟨[.dec true, .dec false,
        .idx k, .val (.s (.int .u64 ((y : Nat) : Int))), .call [] [.s (.int .i64 g.wd)] [] (.s (.int .u64 ((2 ^ (8 * w) - 1 : Nat) : Int))) 0 [], .num ((0 : Nat) : Int), .dec false, .num ((k + 1 : Nat) : Int)], _, _, _, _, _, rfl, ?_, rfl, rfl⟩
      simp only [true_and, and_true, and_assoc, decide_eq_true_eq, beq_eq_false_iff_ne, bne_eq_false_iff_eq, ne_eq, i64_wrap, u64_wrap]
      repeat' apply And.intro
      all_goals first
        | exact True.intro
        | omega
        | exact call0 hfm rfl
        | exact ho
        | exact e4
        | (with_reducible show _ = true; kernel_rfl)
  · simp only [decide_eq_false_iff_not, and_true, true_and]; omega

theorem roundTrip_A (f : Fsp) (hf : f.ok) (x : Vl) (hx : x.n < 2 ^ 64)  : SC Try.prog 4 [f.v, x.v, .s (.slc none 0 (some 0))] 0 [] (.s (.bool true)) 0 [] := by
  cases h : vld (specF f) with
  | false => exact rtBad_A hf h x 
  | true =>
    obtain ⟨b, n, w, hv⟩ := FV.of h
    exact rt_A hf hv x hx 

theorem rtBad_E {f : Fsp} (hf : f.ok) (h : vld (specF f) = false) (x : Vl)  : SC Try.prog 4 [f.v, x.v, .s .emp] 0 [] (.s (.bool true)) 0 [] := by
  have hg := specF_ok hf
  have c1 := spec_s f hf
  have c2 := number_s x.n
  have c3 := rfrom_bad2 (specF f) hg ⟨1, x.n, [], 0⟩ rfl h
  generalize specF f = g at *
  refine SC.run hm Try.func4 rfl [.call [] [f.v] [] g.v 0 [], .call [] [.s (.int .u64 ((x.n : Nat) : Int))] [] (Vl.v ⟨1, x.n, [], 0⟩) 0 [], .call [] [g.v, Vl.v ⟨1, x.n, [], 0⟩] [] (.tup [.s (.str []), .s (.int .i64 1)]) 0 [], .dec true, .call [] [] [] (.s (.bool true)) 0 []] [] rfl rfl ?_ (.inl rfl) (EndOK.plain rfl no_mem rfl rfl)
  simp only [true_and, and_true, and_assoc, bne_iff_ne, ne_eq]
  repeat' apply And.intro
  all_goals first
    | exact True.intro
    | exact call0 c1 rfl
    | exact call0 c2 rfl
    | exact call0 c3 rfl
    | exact call0 awake_s rfl
    | omega
    | (with_reducible show _ = true; kernel_rfl)

set_option maxHeartbeats 4000000 in
theorem rt_E {f : Fsp} {b n w : Nat} (hf : f.ok) (h : FV (specF f) b n w) (x : Vl) (hx : x.n < 2 ^ 64)  : SC Try.prog 4 [f.v, x.v, .s .emp] 0 [] (.s (.bool true)) 0 [] := by
  have hg := specF_ok hf
  have c1 := spec_s f hf
  have c2 := number_s x.n
  have hN := nU_le h
  have hw0 : 0 < w := by have := h.w; omega
  have hw8 : w ≤ 8 := by have := h.w; omega
  have hn1 := h.n1
  have hup := h.up
  have ewd := h.wd
  have c3 := rfrom_1 hg h ⟨1, x.n, [], 0⟩ rfl hx rfl
  have c4 := runits_v hg h
  have c5 := fit_emp (nU b n w) (by omega)
  have hGl : (List.replicate (nU b n w) 0).length = nU b n w := List.length_replicate
  have hGlt : ∀ i, (List.replicate (nU b n w) 0).getD i 0 < 2 ^ 64 := fun i => by rw [rep_getD]; decide
  have hfm := ones_s (specF f).wd (by omega) (by omega)
  rw [show ones (specF f).wd = ((2 ^ (8 * w) - 1 : Nat) : Int) by rw [ewd]; exact ones_nat h.w] at hfm
  generalize (List.replicate (nU b n w) 0) = G at *
  have c6 := insert_s hg h (fvS n (lit x.n 8)) 22 false (cU G) (fun i => G.getD i 0) hGlt 0 (some (nU b n w)) (fun i hi => by rw [Nat.zero_add]; exact cU_get (by omega))
  have hol := inK_length b n w (specF f).up (fun i => G.getD i 0) (fvS n (lit x.n 8)) n
  have holt := inK_lt (b := b) (n := n) hw0 hw8 (specF f).up (fun i => G.getD i 0) (fvS n (lit x.n 8)) n
  have hex : exS b n w _ = fvS n _ := ex_in (b := b) (s := fvS n (lit x.n 8)) hw0 hw8 hn1 hGlt hup
  rw [fvS_fvS] at hex
  have hones : ∀ i, i < nU b n w → _ := fun i hi => in_ones (b := b) (n := n) (s := fvS n (lit x.n 8)) hw0 hw8 hGlt hup hi
  have hkeep : (specF f).up = 0 → ∀ i, i < nU b n w → _ := fun hu i hi => in_keep (b := b) (n := n) (s := fvS n (lit x.n 8)) hw0 hw8 hGlt hu hi
  have c7 := extract_s hg h 22 false (cU (inK b n w (specF f).up (fun i => G.getD i 0) (fvS n (lit x.n 8)) n)) (fun i => (inK b n w (specF f).up (fun i => G.getD i 0) (fvS n (lit x.n 8)) n).getD i 0) holt 0 (some (nU b n w)) (fun i hi => by rw [Nat.zero_add]; exact cU_get (by omega))
  rw [hex] at c7
  have c8 := rmasks_s hg h
  have hmv : ∀ k, k < nU b n w → ldAt false 1 (bU (mL b n w)) k = some (.s (.int .u64 ((mv b n w k : Nat) : Int))) := by
    intro k hk
    have := ldU (l := mL b n w) (i := k) (by rw [mL_length]; exact hk) (ty := 22) (m := false) (r := false) (s := true) (f := true) (gh := none)
    rw [mL_getD, if_pos hk] at this; exact this
  have hmlt : ∀ k, mv b n w k < 2 ^ 64 ∨ nU b n w ≤ k := fun k => by
    rcases Nat.lt_or_ge k (nU b n w) with hk | hk
    · exact .inl (Nat.lt_of_lt_of_le (mv_lt hw0 hn1 hk) (Nat.pow_le_pow_right (by decide) (by omega)))
    · exact .inr hk
  generalize hO : inK b n w (specF f).up (fun i => G.getD i 0) (fvS n (lit x.n 8)) n = O at *
  generalize hS : fvS n (lit x.n 8) = bs at *
  generalize specF f = g at *
  have hne : nU b n w ≠ 0 := by unfold nU; omega
  generalize hNN : nU b n w = N at *
  refine SC.run hm Try.func4 rfl [.call [] [f.v] [] g.v 0 [], .call [] [.s (.int .u64 ((x.n : Nat) : Int))] [] (Vl.v ⟨1, x.n, [], 0⟩) 0 [], .call [] [g.v, Vl.v ⟨1, x.n, [], 0⟩] [] (.tup [.s (.str bs), .s (.int .i64 0)]) 0 [], .dec false,
    .call [] [g.v] [] (.tup [.s (.int .i64 ((uf b w : Nat) : Int)), .s (.int .i64 ((N : Nat) : Int))]) 0 [], .call [] [.s .emp, .s (.int .i64 ((N : Nat) : Int))] [] (.s (.slc (some (0, 0)) N (some N))) 1 [(0, some (bU G))],
    .call [3] [g.v, .s (.str bs), .s (.slc (some (0, 0)) N (some N))] [(0, some (bR 22 false (cU G)))] (.s (.slc (some (1, 0)) N (some N))) 2 [(0, some (bR 22 false (cU G))), (1, some (bU O))],
    .call [] [] [] (.s (.bool true)) 0 [], .call [4] [g.v, .s (.slc (some (0, 0)) N (some N))] [(0, some (bR 22 false (cU O)))] (.s (.str bs)) 1 [(0, some (bR 22 false (cU O)))], .dec false, .dec false,
    .call [] [g.v] [] (.s (.slc (some (0, 0)) N (some N))) 1 [(0, some (bU (mL b n w)))],
    .loop (.exit 0) (sp 98 []) 6 []] [] rfl rfl ?_ (.inl rfl) (EndOK.plain rfl no_mem rfl rfl)
  simp only [true_and, and_true, and_assoc, bne_eq_false_iff_eq, decide_true, Bool.not_true]
  repeat' apply And.intro
  all_goals first
    | exact True.intro
    | exact call0 c1 rfl
    | exact call0 c2 rfl
    | exact call0 c3 rfl
    | exact call0 c4 rfl
    | exact call0 c5 rfl
    | exact ⟨c6, rfl, Fits.of rfl rfl ⟨⟨rfl, _, rfl, rfl, fun _ => rfl⟩, trivial⟩⟩
    | exact ⟨c7, rfl, Fits.of rfl rfl ⟨⟨rfl, _, rfl, rfl, fun _ => rfl⟩, trivial⟩⟩
    | exact call0 c8 rfl
    | exact call0 awake_s rfl
    | omega
    | refine Ex.turns hm [7, 11, 12, 13, 14, 15] [2, 3, 4, 5] N (fun k => sp 98 [(7, .s (.ptr (some (2, 0)))), (11, .s (.int .i64 ((N : Nat) : Int))), (12, .s (.slc (some (3, 0)) N (some N))), (13, .s (.slc (some (4, 0)) N (some N))), (14, .s (.slc (some (5, 0)) N (some N))), (15, .s (.int .i64 ((k : Nat) : Int)))])
        (fun k => [(2, some { cells := g.c, ty := 26 }), (3, some (bU G)), (4, some (bU O)), (5, some (bU (mL b n w)))]) (by omega) rfl rfl (fun k => ⟨rfl, rfl⟩) ?_ [] [] (by simp) ⟨rfl, rfl⟩ ⟨[.dec false], _, _, _, _, _, rfl, ?_, rfl, rfl⟩
    | (with_reducible show _ = true; kernel_rfl)
  · intro k hk
    have ho := ldU (l := O) (i := k) (by omega) (ty := 22) (m := false) (r := false) (s := true) (f := true) (gh := none)
    have hq := ldU (l := G) (i := k) (by omega) (ty := 22) (m := false) (r := false) (s := true) (f := true) (gh := none)
    have hmk := hmv k hk
    have hml : mv b n w k < 2 ^ 64 := (hmlt k).resolve_right (by omega)
    have ho2 := holt k
    have hq2 := hGlt k
    have hon := ones_lt w hw8
    have z1 := hones k hk
    have z2 := fun hu => hkeep hu k hk
    generalize O.getD k 0 = y at *
    generalize G.getD k 0 = z at *
    generalize mv b n w k = mm at *
    have e1 : bitV .xor .u64 (y : Int) (z : Int) = ((y ^^^ z : Nat) : Int) := xor64 ho2 hq2
    have e2 : bitV .and .u64 ((y ^^^ z : Nat) : Int) ((2 ^ (8 * w) - 1 : Nat) : Int) = (((y ^^^ z) &&& (2 ^ (8 * w) - 1) : Nat) : Int) := and64 (Nat.xor_lt_two_pow ho2 hq2) hon
    have e3 : bitV .andNot .u64 (((y ^^^ z) &&& (2 ^ (8 * w) - 1) : Nat) : Int) ((mm : Nat) : Int) = ((andN ((y ^^^ z) &&& (2 ^ (8 * w) - 1)) mm : Nat) : Int) := andNot64 _ _
    have e4 : bitV .andNot .u64 ((y : Nat) : Int) ((2 ^ (8 * w) - 1 : Nat) : Int) = ((0 : Nat) : Int) := by rw [andNot64, z1]
    by_cases hu : g.up = 0
    · have z2 := z2 hu
      rw [z2] at e3
      refine ⟨[.dec true, .dec true, .idx k, .val (.s (.int .u64 ((y : Nat) : Int))), .idx k, .val (.s (.int .u64 ((z : Nat) : Int))), .num ((y ^^^ z : Nat) : Int), .call [] [.s (.int .i64 g.wd)] [] (.s (.int .u64 ((2 ^ (8 * w) - 1 : Nat) : Int))) 0 [], .num (((y ^^^ z) &&& (2 ^ (8 * w) - 1) : Nat) : Int), .idx k, .val (.s (.int .u64 ((mm : Nat) : Int))), .num ((0 : Nat) : Int), .dec false,
        .idx k, .val (.s (.int .u64 ((y : Nat) : Int))), .call [] [.s (.int .i64 g.wd)] [] (.s (.int .u64 ((2 ^ (8 * w) - 1 : Nat) : Int))) 0 [], .num ((0 : Nat) : Int), .dec false, .num ((k + 1 : Nat) : Int)], _, _, _, _, _, rfl, ?_, rfl, rfl⟩
      simp only [true_and, and_true, and_assoc, decide_eq_true_eq, beq_iff_eq, bne_eq_false_iff_eq, ne_eq, i64_wrap, u64_wrap]
      repeat' apply And.intro
      all_goals first
        | exact True.intro
        | omega
        | exact call0 hfm rfl
        | exact ho
        | exact hq
        | exact hmk
        | exact e1
        | exact e2
        | exact e3
        | exact e4
        | (with_reducible show _ = true; kernel_rfl)
    · refine ⟨[.dec true, .dec false,
        .idx k, .val (.s (.int .u64 ((y : Nat) : Int))), .call [] [.s (.int .i64 g.wd)] [] (.s (.int .u64 ((2 ^ (8 * w) - 1 : Nat) : Int))) 0 [], .num ((0 : Nat) : Int), .dec false, .num ((k + 1 : Nat) : Int)], _, _, _, _, _, rfl, ?_, rfl, rfl⟩
      simp only [true_and, and_true, and_assoc, decide_eq_true_eq, beq_eq_false_iff_ne, bne_eq_false_iff_eq, ne_eq, i64_wrap, u64_wrap]
      repeat' apply And.intro
      all_goals first
        | exact True.intro
        | omega
        | exact call0 hfm rfl
        | exact ho
        | exact e4
        | (with_reducible show _ = true; kernel_rfl)
  · simp only [decide_eq_false_iff_not, and_true, true_and]; omega

theorem roundTrip_E (f : Fsp) (hf : f.ok) (x : Vl) (hx : x.n < 2 ^ 64)  : SC Try.prog 4 [f.v, x.v, .s .emp] 0 [] (.s (.bool true)) 0 [] := by
  cases h : vld (specF f) with
  | false => exact rtBad_E hf h x 
  | true =>
    obtain ⟨b, n, w, hv⟩ := FV.of h
    exact rt_E hf hv x hx 

theorem rtBad_B {f : Fsp} (hf : f.ok) (h : vld (specF f) = false) (x : Vl) (ty : TypeId) (mr : Bool) (C : List S) (gi : Nat → Nat) (hgi : ∀ i, gi i < 2 ^ 64) (o m : Nat) (c : Option Nat) (hC : ∀ i, i < m → C[o + i]? = some (.int .u64 ((gi i : Nat) : Int))) (ho : o + m ≤ C.length) : SC Try.prog 4 [f.v, x.v, .s (.slc (some (0, o)) m c)] 1 [(0, some (bR ty mr C))] (.s (.bool true)) 1 [(0, some (bR ty mr C))] := by
  have hg := specF_ok hf
  have c1 := spec_s f hf
  have c2 := number_s x.n
  have c3 := rfrom_bad2 (specF f) hg ⟨1, x.n, [], 0⟩ rfl h
  generalize specF f = g at *
  refine SC.run hm Try.func4 rfl [.call [] [f.v] [] g.v 0 [], .call [] [.s (.int .u64 ((x.n : Nat) : Int))] [] (Vl.v ⟨1, x.n, [], 0⟩) 0 [], .call [] [g.v, Vl.v ⟨1, x.n, [], 0⟩] [] (.tup [.s (.str []), .s (.int .i64 1)]) 0 [], .dec true, .call [] [] [] (.s (.bool true)) 0 []] [] rfl rfl ?_ (.inl rfl) (EndOK.by rfl ⟨rfl, trivial⟩ rfl rfl rfl rfl)
  simp only [true_and, and_true, and_assoc, bne_iff_ne, ne_eq]
  repeat' apply And.intro
  all_goals first
    | exact True.intro
    | exact call0 c1 rfl
    | exact call0 c2 rfl
    | exact call0 c3 rfl
    | exact call0 awake_s rfl
    | omega
    | (with_reducible show _ = true; kernel_rfl)

set_option maxHeartbeats 4000000 in
theorem rt_B {f : Fsp} {b n w : Nat} (hf : f.ok) (h : FV (specF f) b n w) (x : Vl) (hx : x.n < 2 ^ 64) (ty : TypeId) (mr : Bool) (C : List S) (gi : Nat → Nat) (hgi : ∀ i, gi i < 2 ^ 64) (o m : Nat) (c : Option Nat) (hC : ∀ i, i < m → C[o + i]? = some (.int .u64 ((gi i : Nat) : Int))) (ho : o + m ≤ C.length) : SC Try.prog 4 [f.v, x.v, .s (.slc (some (0, o)) m c)] 1 [(0, some (bR ty mr C))] (.s (.bool true)) 1 [(0, some (bR ty mr C))] := by
  have hg := specF_ok hf
  have c1 := spec_s f hf
  have c2 := number_s x.n
  have hN := nU_le h
  have hw0 : 0 < w := by have := h.w; omega
  have hw8 : w ≤ 8 := by have := h.w; omega
  have hn1 := h.n1
  have hup := h.up
  have ewd := h.wd
  have c3 := rfrom_1 hg h ⟨1, x.n, [], 0⟩ rfl hx rfl
  have c4 := runits_v hg h
  have c5 := fit_s ty mr C gi o m (nU b n w) c hC ho (by omega)
  have hGl : (fitL gi m (nU b n w)).length = nU b n w := fitL_length gi m (nU b n w)
  have hGlt : ∀ i, (fitL gi m (nU b n w)).getD i 0 < 2 ^ 64 := fitL_lt hgi
  have hfm := ones_s (specF f).wd (by omega) (by omega)
  rw [show ones (specF f).wd = ((2 ^ (8 * w) - 1 : Nat) : Int) by rw [ewd]; exact ones_nat h.w] at hfm
  generalize (fitL gi m (nU b n w)) = G at *
  have c6 := insert_s hg h (fvS n (lit x.n 8)) 22 false (cU G) (fun i => G.getD i 0) hGlt 0 (some (nU b n w)) (fun i hi => by rw [Nat.zero_add]; exact cU_get (by omega))
  have hol := inK_length b n w (specF f).up (fun i => G.getD i 0) (fvS n (lit x.n 8)) n
  have holt := inK_lt (b := b) (n := n) hw0 hw8 (specF f).up (fun i => G.getD i 0) (fvS n (lit x.n 8)) n
  have hex : exS b n w _ = fvS n _ := ex_in (b := b) (s := fvS n (lit x.n 8)) hw0 hw8 hn1 hGlt hup
  rw [fvS_fvS] at hex
  have hones : ∀ i, i < nU b n w → _ := fun i hi => in_ones (b := b) (n := n) (s := fvS n (lit x.n 8)) hw0 hw8 hGlt hup hi
  have hkeep : (specF f).up = 0 → ∀ i, i < nU b n w → _ := fun hu i hi => in_keep (b := b) (n := n) (s := fvS n (lit x.n 8)) hw0 hw8 hGlt hu hi
  have c7 := extract_s hg h 22 false (cU (inK b n w (specF f).up (fun i => G.getD i 0) (fvS n (lit x.n 8)) n)) (fun i => (inK b n w (specF f).up (fun i => G.getD i 0) (fvS n (lit x.n 8)) n).getD i 0) holt 0 (some (nU b n w)) (fun i hi => by rw [Nat.zero_add]; exact cU_get (by omega))
  rw [hex] at c7
  have c8 := rmasks_s hg h
  have hmv : ∀ k, k < nU b n w → ldAt false 1 (bU (mL b n w)) k = some (.s (.int .u64 ((mv b n w k : Nat) : Int))) := by
    intro k hk
    have := ldU (l := mL b n w) (i := k) (by rw [mL_length]; exact hk) (ty := 22) (m := false) (r := false) (s := true) (f := true) (gh := none)
    rw [mL_getD, if_pos hk] at this; exact this
  have hmlt : ∀ k, mv b n w k < 2 ^ 64 ∨ nU b n w ≤ k := fun k => by
    rcases Nat.lt_or_ge k (nU b n w) with hk | hk
    · exact .inl (Nat.lt_of_lt_of_le (mv_lt hw0 hn1 hk) (Nat.pow_le_pow_right (by decide) (by omega)))
    · exact .inr hk
  generalize hO : inK b n w (specF f).up (fun i => G.getD i 0) (fvS n (lit x.n 8)) n = O at *
  generalize hS : fvS n (lit x.n 8) = bs at *
  generalize specF f = g at *
  have hne : nU b n w ≠ 0 := by unfold nU; omega
  generalize hNN : nU b n w = N at *
  refine SC.run hm Try.func4 rfl [.call [] [f.v] [] g.v 0 [], .call [] [.s (.int .u64 ((x.n : Nat) : Int))] [] (Vl.v ⟨1, x.n, [], 0⟩) 0 [], .call [] [g.v, Vl.v ⟨1, x.n, [], 0⟩] [] (.tup [.s (.str bs), .s (.int .i64 0)]) 0 [], .dec false,
    .call [] [g.v] [] (.tup [.s (.int .i64 ((uf b w : Nat) : Int)), .s (.int .i64 ((N : Nat) : Int))]) 0 [], .call [0] [.s (.slc (some (0, o)) m c), .s (.int .i64 ((N : Nat) : Int))] [(0, some (bR ty mr C))] (.s (.slc (some (1, 0)) N (some N))) 2 [(0, some (bR ty mr C)), (1, some (bU G))],
    .call [4] [g.v, .s (.str bs), .s (.slc (some (0, 0)) N (some N))] [(0, some (bR 22 false (cU G)))] (.s (.slc (some (1, 0)) N (some N))) 2 [(0, some (bR 22 false (cU G))), (1, some (bU O))],
    .call [] [] [] (.s (.bool true)) 0 [], .call [5] [g.v, .s (.slc (some (0, 0)) N (some N))] [(0, some (bR 22 false (cU O)))] (.s (.str bs)) 1 [(0, some (bR 22 false (cU O)))], .dec false, .dec false,
    .call [] [g.v] [] (.s (.slc (some (0, 0)) N (some N))) 1 [(0, some (bU (mL b n w)))],
    .loop (.exit 0) (sp 98 []) 7 [(0, some (bR ty mr C))]] [] rfl rfl ?_ (.inl rfl) (EndOK.by rfl ⟨rfl, trivial⟩ rfl rfl rfl rfl)
  simp only [true_and, and_true, and_assoc, bne_eq_false_iff_eq, decide_true, Bool.not_true]
  repeat' apply And.intro
  all_goals first
    | exact True.intro
    | exact call0 c1 rfl
    | exact call0 c2 rfl
    | exact call0 c3 rfl
    | exact call0 c4 rfl
    | exact ⟨c5, rfl, Fits.of rfl rfl ⟨⟨rfl, _, rfl, rfl, fun _ => rfl⟩, trivial⟩⟩
    | exact ⟨c6, rfl, Fits.of rfl rfl ⟨⟨rfl, _, rfl, rfl, fun _ => rfl⟩, trivial⟩⟩
    | exact ⟨c7, rfl, Fits.of rfl rfl ⟨⟨rfl, _, rfl, rfl, fun _ => rfl⟩, trivial⟩⟩
    | exact call0 c8 rfl
    | exact call0 awake_s rfl
    | omega
    | refine Ex.turns hm [7, 11, 12, 13, 14, 15] [0, 3, 4, 5, 6] N (fun k => sp 98 [(7, .s (.ptr (some (3, 0)))), (11, .s (.int .i64 ((N : Nat) : Int))), (12, .s (.slc (some (4, 0)) N (some N))), (13, .s (.slc (some (5, 0)) N (some N))), (14, .s (.slc (some (6, 0)) N (some N))), (15, .s (.int .i64 ((k : Nat) : Int)))])
        (fun k => [(0, some (bR ty mr C)), (3, some { cells := g.c, ty := 26 }), (4, some (bU G)), (5, some (bU O)), (6, some (bU (mL b n w)))]) (by omega) rfl rfl (fun k => ⟨rfl, rfl⟩) ?_ [] [0] (by simp) ⟨rfl, rfl⟩ ⟨[.dec false], _, _, _, _, _, rfl, ?_, rfl, rfl⟩
    | (with_reducible show _ = true; kernel_rfl)
  · intro k hk
    have ho := ldU (l := O) (i := k) (by omega) (ty := 22) (m := false) (r := false) (s := true) (f := true) (gh := none)
    have hq := ldU (l := G) (i := k) (by omega) (ty := 22) (m := false) (r := false) (s := true) (f := true) (gh := none)
    have hmk := hmv k hk
    have hml : mv b n w k < 2 ^ 64 := (hmlt k).resolve_right (by omega)
    have ho2 := holt k
    have hq2 := hGlt k
    have hon := ones_lt w hw8
    have z1 := hones k hk
    have z2 := fun hu => hkeep hu k hk
    generalize O.getD k 0 = y at *
    generalize G.getD k 0 = z at *
    generalize mv b n w k = mm at *
    have e1 : bitV .xor .u64 (y : Int) (z : Int) = ((y ^^^ z : Nat) : Int) := xor64 ho2 hq2
    have e2 : bitV .and .u64 ((y ^^^ z : Nat) : Int) ((2 ^ (8 * w) - 1 : Nat) : Int) = (((y ^^^ z) &&& (2 ^ (8 * w) - 1) : Nat) : Int) := and64 (Nat.xor_lt_two_pow ho2 hq2) hon
    have e3 : bitV .andNot .u64 (((y ^^^ z) &&& (2 ^ (8 * w) - 1) : Nat) : Int) ((mm : Nat) : Int) = ((andN ((y ^^^ z) &&& (2 ^ (8 * w) - 1)) mm : Nat) : Int) := andNot64 _ _
    have e4 : bitV .andNot .u64 ((y : Nat) : Int) ((2 ^ (8 * w) - 1 : Nat) : Int) = ((0 : Nat) : Int) := by rw [andNot64, z1]
    by_cases hu : g.up = 0
    · have z2 := z2 hu
      rw [z2] at e3
      refine ⟨[.dec true, .dec true, .idx k, .val (.s (.int .u64 ((y : Nat) : Int))), .idx k, .val (.s (.int .u64 ((z : Nat) : Int))), .num ((y ^^^ z : Nat) : Int), .call [] [.s (.int .i64 g.wd)] [] (.s (.int .u64 ((2 ^ (8 * w) - 1 : Nat) : Int))) 0 [], .num (((y ^^^ z) &&& (2 ^ (8 * w) - 1) : Nat) : Int), .idx k, .val (.s (.int .u64 ((mm : Nat) : Int))), .num ((0 : Nat) : Int), .dec false,
        .idx k, .val (.s (.int .u64 ((y : Nat) : Int))), .call [] [.s (.int .i64 g.wd)] [] (.s (.int .u64 ((2 ^ (8 * w) - 1 : Nat) : Int))) 0 [], .num ((0 : Nat) : Int), .dec false, .num ((k + 1 : Nat) : Int)], _, _, _, _, _, rfl, ?_, rfl, rfl⟩
      simp only [true_and, and_true, and_assoc, decide_eq_true_eq, beq_iff_eq, bne_eq_false_iff_eq, ne_eq, i64_wrap, u64_wrap]
      repeat' apply And.intro
      all_goals first
        | exact True.intro
        | omega
        | exact call0 hfm rfl
        | exact ho
        | exact hq
        | exact hmk
        | exact e1
        | exact e2
        | exact e3
        | exact e4
        | (with_reducible show _ = true; kernel_rfl)
    · refine ⟨[.dec true, .dec false,
        .idx k, .val (.s (.int .u64 ((y : Nat) : Int))), .call [] [.s (.int .i64 g.wd)] [] (.s (.int .u64 ((2 ^ (8 * w) - 1 : Nat) : Int))) 0 [], .num ((0 : Nat) : Int), .dec false, .num ((k + 1 : Nat) : Int)], _, _, _, _, _, rfl, ?_, rfl, rfl⟩
      simp only [true_and, and_true, and_assoc, decide_eq_true_eq, beq_eq_false_iff_ne, bne_eq_false_iff_eq, ne_eq, i64_wrap, u64_wrap]
      repeat' apply And.intro
      all_goals first
        | exact True.intro
        | omega
        | exact call0 hfm rfl
        | exact ho
        | exact e4
        | (with_reducible show _ = true; kernel_rfl)
  · simp only [decide_eq_false_iff_not, and_true, true_and]; omega

theorem roundTrip_B (f : Fsp) (hf : f.ok) (x : Vl) (hx : x.n < 2 ^ 64) (ty : TypeId) (mr : Bool) (C : List S) (gi : Nat → Nat) (hgi : ∀ i, gi i < 2 ^ 64) (o m : Nat) (c : Option Nat) (hC : ∀ i, i < m → C[o + i]? = some (.int .u64 ((gi i : Nat) : Int))) (ho : o + m ≤ C.length) : SC Try.prog 4 [f.v, x.v, .s (.slc (some (0, o)) m c)] 1 [(0, some (bR ty mr C))] (.s (.bool true)) 1 [(0, some (bR ty mr C))] := by
  cases h : vld (specF f) with
  | false => exact rtBad_B hf h x ty mr C gi hgi o m c hC ho
  | true =>
    obtain ⟨b, n, w, hv⟩ := FV.of h
    exact rt_B hf hv x hx ty mr C gi hgi o m c hC ho

end Go.Proofs.Ytgnidbokllmhhaa
