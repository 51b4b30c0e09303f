/-
  Accesses and ref.Accesses: what they compute.
-/
import Derived.Test.YtgnidbokllmhhaaLd
import Derived.Test.YtgnidbokllmhhaaAb13
set_option linter.unusedSimpArgs false
set_option linter.unusedVariables false
namespace Go.Proofs.Ytgnidbokllmhhaa
open Go Ab
set_option maxRecDepth 100000

/-- the address of the unit i -/
def aA (f : Fsp) (b w : Nat) (i : Nat) : Int := f.ba + (((uf b w + i) * w : Nat) : Int)
def acC (f : Fsp) (b w : Nat) : Nat → List S
  | 0 => []
  | k + 1 => acC f b w k ++ [.int .i64 f.sp, .int .u64 (aA f b w k), .int .i64 f.wd, .bool false, .int .u64 0]
theorem acC_length (f : Fsp) (b w : Nat) : ∀ k, (acC f b w k).length = k * 5
  | 0 => rfl
  | k + 1 => by simp [acC, acC_length f b w k]; omega
theorem sz52 : ∀ h, (Try.prog.types[52]'h).size = 5 := fun _ => rfl
theorem by52 : ∀ h, (Try.prog.types[52]'h).bytes = 40 := fun _ => rfl
theorem acC_succ (f : Fsp) (b w k : Nat) : acC f b w (k + 1) = List.take (k * 5) (acC f b w k) ++ [.int .i64 f.sp, .int .u64 (aA f b w k), .int .i64 f.wd, .bool false, .int .u64 0] := by
  rw [List.take_of_length_le (by rw [acC_length]; exact Nat.le_refl _)]; rfl
def bA (l : List S) : Bl := { cells := l, ty := 52, more := true, sym := true, flat := true, gh := some (1, 5) }

theorem acc_no {f : Fsp} (hf : f.ok) (h : vld f = false) : SC Try.prog 25 [f.v] 0 [] (.s (.slc none 0 (some 0))) 0 [] := by
  have hu := units_no hf h
  refine SC.run hm Try.func25 rfl [.call [] [f.v] [] (.tup [.s (.int .i64 0), .s (.int .i64 0)]) 0 [],
    .loop (.exit 0) (sp 41 [(5, .s (.slc none 0 (some 0)))]) 1 []] [] rfl rfl ?_ (.inl rfl) (EndOK.plain rfl no_mem rfl rfl)
  simp only [true_and, and_true, and_assoc]
  refine ⟨by kernel_rfl, call0 hu rfl, ?_⟩
  exact Ex.turns hm [5, 13, 14] [] 0 (fun k => sp 41 [(5, .s (.slc none 0 (some 0))), (13, .s (.int .i64 0)), (14, .s (.int .i64 0))]) (fun _ => []) (by omega) rfl rfl (fun k => ⟨rfl, rfl⟩) (fun j hj => by omega) [5] [] (by simp) ⟨rfl, rfl⟩ ⟨[.dec false], _, _, _, _, _, rfl, by simp, rfl, rfl⟩

theorem acc_bound {f : Fsp} {b n w : Nat} (hf : f.ok) (h : FV f b n w) {i : Nat} (hi : i < nU b n w) : 0 ≤ f.ba ∧ aA f b w i + (w : Int) ≤ f.ba + f.rl ∧ aA f b w i ≤ 18446744073709551615 ∧ (uf b w + i) * w ≤ 1048576 := by
  obtain ⟨hw, u1, u2, b1, b2, l1, l2, hl⟩ := vld_facts h.v
  have hv := h.v
  have hba := hf.ba
  have hrl := hf.rl
  unfold vld vReg at hv
  simp only [Bool.and_eq_true, decide_eq_true_eq] at hv
  obtain ⟨⟨r1, r2, r3⟩, _⟩ := hv
  rw [h.bit, h.ln, h.wd] at hl
  have hi2 : (b + n - 1) / (8 * w) = uf b w + (nU b n w - 1) := by
    have := div_le b n (8 * w) h.n1
    unfold nU uf; omega
  have hn1 := h.n1
  have e1 : ((b : Int) + (n : Int) - 1) / (8 * (w : Int)) = ((uf b w + (nU b n w - 1) : Nat) : Int) := by
    rw [← hi2, Int.natCast_ediv]
    congr 1
    omega
  rw [e1] at hl
  have hw' := h.w
  unfold aA
  generalize hq : uf b w + i = q at *
  have hq2 : (q : Int) < f.rl / (w : Int) := by omega
  have hq3 : (q * w : Nat) + (w : Int) ≤ f.rl := by
    rcases hw' with e | e | e | e <;> subst e <;> omega
  omega

theorem acc_s {f : Fsp} {b n w : Nat} (hf : f.ok) (h : FV f b n w) : SC Try.prog 25 [f.v] 0 [] (.s (.sla 0 1 (nU b n w))) 2 [(0, some (bA (acC f b w (nU b n w))))] := by
  have hu := units_v hf h
  have hN : nU b n w ≤ 300 := nU_le h
  have hw0 : 0 < w := by have := h.w; omega
  have hw8 : w ≤ 8 := by have := h.w; omega
  have ewd := h.wd
  have hb2 := h.b2
  have hF := uf_le b w
  have hne : nU b n w ≠ 0 := by unfold nU; omega
  refine SC.run hm Try.func25 rfl [.call [] [f.v] [] (.tup [.s (.int .i64 ((uf b w : Nat) : Int)), .s (.int .i64 ((nU b n w : Nat) : Int))]) 0 [],
    .loop (.exit 0) (sp 41 [(5, .s (.sla 1 2 (nU b n w)))]) 3 [(1, some { bA (acC f b w (nU b n w)) with gh := some (2, 5) })]] [1, 2] rfl rfl ?_ (.inl rfl) (EndOK.by rfl ⟨rfl, trivial⟩ rfl rfl rfl rfl)
  simp only [true_and, and_true, and_assoc]
  refine ⟨by kernel_rfl, call0 hu rfl, ?_⟩
  obtain ⟨N, hNN⟩ : ∃ N, nU b n w = N + 1 := ⟨nU b n w - 1, by omega⟩
  rw [hNN] at hN hu ⊢
  refine Ex.moves hm [1, 3, 5, 13, 14] (N + 1)
    (fun k => match k with
      | 0 => sp 41 [(1, .s (.ptr (some (0, 0)))), (3, .s (.int .i64 ((uf b w : Nat) : Int))), (5, .s (.slc none 0 (some 0))), (13, .s (.int .i64 ((N + 1 : Nat) : Int))), (14, .s (.int .i64 ((0 : Nat) : Int)))]
      | k + 1 => sp 41 [(1, .s (.ptr (some (0, 0)))), (3, .s (.int .i64 ((uf b w : Nat) : Int))), (5, .s (.sla 1 2 (k + 1))), (13, .s (.int .i64 ((N + 1 : Nat) : Int))), (14, .s (.int .i64 ((k + 1 : Nat) : Int)))])
    (fun k => match k with
      | 0 => [(0, some { cells := f.c, ty := 26 })]
      | k + 1 => [(0, some { cells := f.c, ty := 26 }), (1, some { bA (acC f b w (k + 1)) with gh := some (2, 5) })])
    [0, 1, 2] [0, 4, 5] rfl rfl rfl ⟨rfl, trivial⟩ rfl (fun j => rfl) ?_ [5] [0, 1, 2] rfl (by simp) rfl ⟨[.dec false], _, _, _, _, _, rfl, ?_, rfl, ⟨rfl, trivial⟩⟩
  · intro k hk
    have hk' : k < nU b n w := by omega
    obtain ⟨q1, q2, q3, q4⟩ := acc_bound hf h hk'
    have e1 : ((uf b w + k : Nat) : Int) * ((w : Nat) : Int) = (((uf b w + k) * w : Nat) : Int) := by simp
    cases k with
    | zero =>
      refine ⟨[.dec true, .num ((uf b w + 0 : Nat) : Int), .num ((uf b w + 0 : Nat) : Int), .num ((w : Nat) : Int), .num (((uf b w + 0) * w : Nat) : Int), .num (aA f b w 0), .app (0 + 1) (acC f b w (0 + 1)), .num ((0 + 1 : Nat) : Int)], _, _, _, _, _, rfl, ?_, rfl, ⟨rfl, rfl, trivial⟩⟩
      simp only [true_and, and_true, and_assoc, decide_eq_true_eq, ne_eq, i64_wrap, u64_wrap, e1, sz52, by52]
      generalize hp : (uf b w + 0) * w = p at *
      have hq5 : aA f b w 0 = f.ba + (p : Int) := by unfold aA; rw [hp]
      repeat' apply And.intro
      all_goals first
        | exact True.intro
        | omega
        | (intro h; omega)
        | (intro h; cases h)
        | exact acC_succ _ _ _ _
        | exact Nat.le_of_eq (acC_length _ _ _ _).symm
        | exact Nat.le_refl 5
        | (with_reducible show _ = true; kernel_rfl)
    | succ k =>
      refine ⟨[.dec true, .num ((uf b w + (k + 1) : Nat) : Int), .num ((uf b w + (k + 1) : Nat) : Int), .num ((w : Nat) : Int), .num (((uf b w + (k + 1)) * w : Nat) : Int), .num (aA f b w (k + 1)), .app ((k + 1) + 1) (acC f b w ((k + 1) + 1)), .num (((k + 1) + 1 : Nat) : Int)], _, _, _, _, _, rfl, ?_, rfl, ⟨rfl, rfl, trivial⟩⟩
      simp only [true_and, and_true, and_assoc, decide_eq_true_eq, ne_eq, i64_wrap, u64_wrap, e1, sz52, by52]
      generalize hp : (uf b w + (k + 1)) * w = p at *
      have hq5 : aA f b w (k + 1) = f.ba + (p : Int) := by unfold aA; rw [hp]
      repeat' apply And.intro
      all_goals first
        | exact True.intro
        | omega
        | (intro h; omega)
        | (intro h; cases h)
        | exact acC_succ _ _ _ _
        | exact Nat.le_of_eq (acC_length _ _ _ _).symm
        | exact Nat.le_refl 5
        | (with_reducible show _ = true; kernel_rfl)
  · simp only [decide_eq_false_iff_not, and_true, true_and]; omega
theorem racc_no {f : Fsp} (hf : f.ok) (h : vld f = false) : SC Try.prog 38 [f.v] 0 [] (.s (.slc none 0 (some 0))) 0 [] := by
  have hu := runits_no hf h
  refine SC.run hm Try.func38 rfl [.call [] [f.v] [] (.tup [.s (.int .i64 0), .s (.int .i64 0)]) 0 [],
    .loop (.exit 0) (sp 39 [(5, .s (.slc none 0 (some 0)))]) 1 []] [] rfl rfl ?_ (.inl rfl) (EndOK.plain rfl no_mem rfl rfl)
  simp only [true_and, and_true, and_assoc]
  refine ⟨by kernel_rfl, call0 hu rfl, ?_⟩
  exact Ex.turns hm [3, 4, 5, 6] [] 0 (fun k => sp 39 [(3, .s (.int .i64 0)), (4, .s (.int .i64 0)), (5, .s (.slc none 0 (some 0))), (6, .s (.int .i64 0))]) (fun _ => []) (by omega) rfl rfl (fun k => ⟨rfl, rfl⟩) (fun j hj => by omega) [5] [] (by simp) ⟨rfl, rfl⟩ ⟨[.num 0, .dec false], _, _, _, _, _, rfl, by simp [i64_wrap], rfl, rfl⟩

theorem racc_s {f : Fsp} {b n w : Nat} (hf : f.ok) (h : FV f b n w) : SC Try.prog 38 [f.v] 0 [] (.s (.sla 0 1 (nU b n w))) 2 [(0, some (bA (acC f b w (nU b n w))))] := by
  have hu := runits_v hf h
  have hN : nU b n w ≤ 300 := nU_le h
  have hw0 : 0 < w := by have := h.w; omega
  have hw8 : w ≤ 8 := by have := h.w; omega
  have ewd := h.wd
  have hb2 := h.b2
  have hF := uf_le b w
  have hne : nU b n w ≠ 0 := by unfold nU; omega
  refine SC.run hm Try.func38 rfl [.call [] [f.v] [] (.tup [.s (.int .i64 ((uf b w : Nat) : Int)), .s (.int .i64 ((nU b n w : Nat) : Int))]) 0 [],
    .loop (.exit 0) (sp 39 [(5, .s (.sla 1 2 (nU b n w)))]) 3 [(1, some { bA (acC f b w (nU b n w)) with gh := some (2, 5) })]] [1, 2] rfl rfl ?_ (.inl rfl) (EndOK.by rfl ⟨rfl, trivial⟩ rfl rfl rfl rfl)
  simp only [true_and, and_true, and_assoc]
  refine ⟨by kernel_rfl, call0 hu rfl, ?_⟩
  obtain ⟨N, hNN⟩ : ∃ N, nU b n w = N + 1 := ⟨nU b n w - 1, by omega⟩
  rw [hNN] at hN hu ⊢
  refine Ex.moves hm [1, 3, 4, 5, 6] (N + 1)
    (fun k => match k with
      | 0 => sp 39 [(1, .s (.ptr (some (0, 0)))), (3, .s (.int .i64 ((uf b w : Nat) : Int))), (4, .s (.int .i64 ((N + 1 : Nat) : Int))), (5, .s (.slc none 0 (some 0))), (6, .s (.int .i64 ((uf b w + 0 : Nat) : Int)))]
      | k + 1 => sp 39 [(1, .s (.ptr (some (0, 0)))), (3, .s (.int .i64 ((uf b w : Nat) : Int))), (4, .s (.int .i64 ((N + 1 : Nat) : Int))), (5, .s (.sla 1 2 (k + 1))), (6, .s (.int .i64 ((uf b w + (k + 1) : Nat) : Int)))])
    (fun k => match k with
      | 0 => [(0, some { cells := f.c, ty := 26 })]
      | k + 1 => [(0, some { cells := f.c, ty := 26 }), (1, some { bA (acC f b w (k + 1)) with gh := some (2, 5) })])
    [0, 1, 2] [0, 4, 5] rfl rfl rfl ⟨rfl, trivial⟩ rfl (fun j => rfl) ?_ [5] [0, 1, 2] rfl (by simp) rfl ⟨[.num ((uf b w + (N + 1) : Nat) : Int), .dec false], _, _, _, _, _, rfl, ?_, rfl, ⟨rfl, trivial⟩⟩
  · intro k hk
    have hk' : k < nU b n w := by omega
    obtain ⟨q1, q2, q3, q4⟩ := acc_bound hf h hk'
    have e1 : ((uf b w + k : Nat) : Int) * f.wd = (((uf b w + k) * w : Nat) : Int) := by rw [ewd]; simp
    cases k with
    | zero =>
      refine ⟨[.num ((uf b w + (N + 1) : Nat) : Int), .dec true, .num (((uf b w + 0) * w : Nat) : Int), .num (((uf b w + 0) * w : Nat) : Int), .num (aA f b w 0), .app (0 + 1) (acC f b w (0 + 1)), .num ((uf b w + (0 + 1) : Nat) : Int)], _, _, _, _, _, rfl, ?_, rfl, ⟨rfl, rfl, trivial⟩⟩
      simp only [true_and, and_true, and_assoc, decide_eq_true_eq, ne_eq, i64_wrap, u64_wrap, e1, sz52, by52]
      generalize hp : (uf b w + 0) * w = p at *
      have hq5 : aA f b w 0 = f.ba + (p : Int) := by unfold aA; rw [hp]
      repeat' apply And.intro
      all_goals first
        | exact True.intro
        | omega
        | (intro h; omega)
        | (intro h; cases h)
        | exact acC_succ _ _ _ _
        | exact Nat.le_of_eq (acC_length _ _ _ _).symm
        | exact Nat.le_refl 5
        | (with_reducible show _ = true; kernel_rfl)
    | succ k =>
      refine ⟨[.num ((uf b w + (N + 1) : Nat) : Int), .dec true, .num (((uf b w + (k + 1)) * w : Nat) : Int), .num (((uf b w + (k + 1)) * w : Nat) : Int), .num (aA f b w (k + 1)), .app ((k + 1) + 1) (acC f b w ((k + 1) + 1)), .num ((uf b w + ((k + 1) + 1) : Nat) : Int)], _, _, _, _, _, rfl, ?_, rfl, ⟨rfl, rfl, trivial⟩⟩
      simp only [true_and, and_true, and_assoc, decide_eq_true_eq, ne_eq, i64_wrap, u64_wrap, e1, sz52, by52]
      generalize hp : (uf b w + (k + 1)) * w = p at *
      have hq5 : aA f b w (k + 1) = f.ba + (p : Int) := by unfold aA; rw [hp]
      repeat' apply And.intro
      all_goals first
        | exact True.intro
        | omega
        | (intro h; omega)
        | (intro h; cases h)
        | exact acC_succ _ _ _ _
        | exact Nat.le_of_eq (acC_length _ _ _ _).symm
        | exact Nat.le_refl 5
        | (with_reducible show _ = true; kernel_rfl)
  · simp only [decide_eq_false_iff_not, and_true, true_and, i64_wrap]; omega

/-! ### Equal of two lists of accesses that are the same -/
def bAr (l : List S) (g : Nat) : Bl := { cells := l, ty := 52, more := true, ro := true, sym := true, flat := true, gh := some (g, 5) }
theorem acC_get (f : Fsp) (b w : Nat) : ∀ {n k : Nat}, k < n → ((acC f b w n).drop (k * 5)).take 5 = [.int .i64 f.sp, .int .u64 (aA f b w k), .int .i64 f.wd, .bool false, .int .u64 0]
  | n + 1, k, h => by
    by_cases e : k = n
    · subst e
      simp only [acC]
      rw [List.drop_left' (acC_length f b w k)]; rfl
    · have := acC_get f b w (show k < n by omega)
      simp only [acC]
      rw [List.drop_append_of_le_length (by rw [acC_length]; omega), List.take_append_of_le_length (by rw [List.length_drop, acC_length]; omega)]
      exact this
theorem ldA {f : Fsp} {b w n k : Nat} (h : k < n) {bl : Bl} (hb : bl.cells = acC f b w n) : ldAt true 5 bl (k * 5) = some (.agg [.int .i64 f.sp, .int .u64 (aA f b w k), .int .i64 f.wd, .bool false, .int .u64 0]) := by
  have h1 : Nat.ble (k * 5 + 5) bl.cells.length = true := by rw [hb, acC_length]; exact Nat.ble_eq_true_of_le (by omega)
  simp only [ldAt, h1]
  rw [hb, acC_get f b w h]

theorem equalA_s (f : Fsp) (b w n : Nat) (hn : n ≤ 1000) :
    SC Try.prog 37 [.s (.sla 0 1 n), .s (.sla 2 3 n)] 4 [(0, some (bAr (acC f b w n) 1)), (2, some (bAr (acC f b w n) 3))] (.s (.bool true)) 4 [(0, some (bAr (acC f b w n) 1)), (2, some (bAr (acC f b w n) 3))] := by
  refine SC.run hm Try.func37 rfl [.dec false, .loop (.exit 0) (sp 26 []) 4 [(0, some (bAr (acC f b w n) 1)), (2, some (bAr (acC f b w n) 3))]] [] rfl rfl ?_ (.inl rfl) (EndOK.by rfl ⟨rfl, rfl, trivial⟩ rfl rfl rfl rfl)
  simp only [true_and, and_true, and_assoc, bne_eq_false_iff_eq]
  refine Ex.turns hm [0, 1, 5] [0, 2] n (fun k => sp 26 [(0, .s (.sla 0 1 n)), (1, .s (.sla 2 3 n)), (5, .s (.int .i64 ((k : Nat) : Int)))]) (fun k => [(0, some (bAr (acC f b w n) 1)), (2, some (bAr (acC f b w n) 3))]) (by omega) rfl rfl (fun k => ⟨rfl, rfl⟩) ?_ [] [0, 2] (by simp) ⟨rfl, rfl⟩ ⟨[.dec false], _, _, _, _, _, rfl, ?_, rfl, rfl⟩
  · intro k hk
    refine ⟨[.dec true, .idx k, .val (.agg [.int .i64 f.sp, .int .u64 (aA f b w k), .int .i64 f.wd, .bool false, .int .u64 0]), .idx k, .val (.agg [.int .i64 f.sp, .int .u64 (aA f b w k), .int .i64 f.wd, .bool false, .int .u64 0]), .dec false, .num ((k + 1 : Nat) : Int)], _, _, _, _, _, rfl, ?_, rfl, rfl⟩
    simp only [true_and, and_true, and_assoc, decide_eq_true_eq, ne_eq, i64_wrap, beq_self_eq_true, Bool.and_self, Bool.not_true]
    repeat' apply And.intro
    all_goals first
      | exact True.intro
      | omega
      | exact ldA hk rfl
      | (with_reducible show _ = true; kernel_rfl)
      | (with_reducible show _ = false; kernel_rfl)
  · simp only [decide_eq_false_iff_not, and_true, true_and]; omega

end Go.Proofs.Ytgnidbokllmhhaa
