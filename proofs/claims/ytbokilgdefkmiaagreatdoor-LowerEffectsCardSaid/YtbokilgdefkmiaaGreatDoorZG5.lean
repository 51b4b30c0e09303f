/-
  LowerEffects: for every instruction the statement returns true and leaves its argument as it was, where the listed package variables hold what the program's text lays; the card ties them to it.
-/
import Derived.Test.YtbokilgdefkmiaaGreatDoorGi
import Derived.Test.YtbokilgdefkmiaaGreatDoorCards
import Derived.Test.YtbokilgdefkmiaaGreatDoorTie
import Derived.SevenTiedAt
set_option linter.unusedSimpArgs false
set_option linter.unusedVariables false
namespace Go.Proofs.YtbokilgdefkmiaaGreatDoor
open Go Ab
open Go.ChangeShapes Go.WideShapes Go.ChangeAt Go.RowKit
set_option maxRecDepth 100000

def phG : Ph := fun i => if i < 3 then some (i, 0) else none
theorem row0 : (((begin Tryz.prog (fun _ _ => 0) default).world.heap[0]?).bind Obj.row?).map (·.2) = some 208 := by kernel_rfl
theorem gty0 : (Tryz.prog.globals[0]?).map (·.type) = some 208 := by kernel_rfl
theorem gcl0 : Tryz.prog.cellsOf 208 = 12 * 2 := by kernel_rfl
theorem row1 : (((begin Tryz.prog (fun _ _ => 0) default).world.heap[1]?).bind Obj.row?).map (·.2) = some 209 := by kernel_rfl
theorem gty1 : (Tryz.prog.globals[1]?).map (·.type) = some 209 := by kernel_rfl
theorem gcl1 : Tryz.prog.cellsOf 209 = 13 * 2 := by kernel_rfl
theorem row2 : (((begin Tryz.prog (fun _ _ => 0) default).world.heap[2]?).bind Obj.row?).map (·.2) = some 210 := by kernel_rfl
theorem gty2 : (Tryz.prog.globals[2]?).map (·.type) = some 210 := by kernel_rfl
theorem gcl2 : Tryz.prog.cellsOf 210 = 29 * 2 := by kernel_rfl
theorem glob_heap {W : World} (hS : W.ShapedOpen Tryz.prog) {g t : Nat} (hg : g < 6) (hr : (((begin Tryz.prog (fun _ _ => 0) default).world.heap[g]?).bind Obj.row?).map (·.2) = some t) : ∃ cs, W.heap[g]? = some (.cells cs t (0, 0)) := by
  cases hq : ((begin Tryz.prog (fun _ _ => 0) default).world.heap[g]?).bind Obj.row? with
  | none => rw [hq] at hr; cases hr
  | some x =>
    obtain ⟨z, t'⟩ := x
    rw [hq] at hr
    simp only [Option.map_some, Option.some.injEq] at hr
    subst hr
    obtain ⟨cs, h1, _⟩ := hS.1 g z t' (Nat.lt_of_lt_of_le hg (by decide +kernel)) hq
    exact ⟨cs, h1⟩
theorem glob_at {W : World} (hS : W.ShapedOpen Tryz.prog) {name : String} {i ty N : Nat} {d : DataW Unit} {ds : List (DataW Unit)} {l : List (String × DataW Unit)} {ps : List MemPlace} (hv : DataW.LaidVars Tryz.prog W ((name, d) :: l) ps) (hi : i < 6)
    (hr : (((begin Tryz.prog (fun _ _ => 0) default).world.heap[i]?).bind Obj.row?).map (·.2) = some ty) (hn : Tryz.prog.globalNamed name = some i) (ht : (Tryz.prog.globals[i]?).map (·.type) = some ty) (hu : Tryz.prog.underlying ty = some (.array N 190)) (hc : Tryz.prog.cellsOf ty = N * 2)
    (hd : d = .agg ds) (φ : Ph) : BlAt φ W (i, 0) (gB i (unDs ds) ty) := by
  obtain ⟨g, t, cs, fuel, p, q, h1, h2, h3, h4, _⟩ := hv
  rw [hn] at h1; cases h1
  rw [ht] at h2; cases h2
  obtain ⟨cs', h5⟩ := glob_heap hS hi hr
  have : cs = cs' := by
    simp only [World.var?, hn, Option.bind_some, h5, Option.some.injEq] at h3
    exact h3.symm
  subst this
  obtain ⟨ds', e, hall⟩ := table_open hu hc h4 φ
  rw [hd] at e
  cases e
  refine ⟨[], cs.toList, [], (0, 0), ?_, rfl, hall, fun _ => rfl, fun e => (by cases e), ⟨fun g z e => (by cases e), fun g e => (by cases e; rfl)⟩⟩
  rw [h5]; simp [objOf, gB]
theorem globals_good {W : World} (hS : W.ShapedOpen Tryz.prog) (hL : laidMet Tryz.prog Rows.lowerEffectsRow.laid W) : Ab.Good phG gL W := by
  obtain ⟨ps, hv, _⟩ := hL
  obtain ⟨_, _, _, _, _, q0, _, _, _, _, hv1, _⟩ := hv
  have b0 := glob_at hS (ty := 208) (N := 12) hv1 (by decide) row0 (by kernel_rfl) gty0 Tryz.underlying208 gcl0 rfl phG
  obtain ⟨_, _, _, _, _, q1, _, _, _, _, hv2, _⟩ := hv1
  have b1 := glob_at hS (ty := 209) (N := 13) hv2 (by decide) row1 (by kernel_rfl) gty1 Tryz.underlying209 gcl1 rfl phG
  obtain ⟨_, _, _, _, _, q2, _, _, _, _, hv3, _⟩ := hv2
  have b2 := glob_at hS (ty := 210) (N := 29) hv3 (by decide) row2 (by kernel_rfl) gty2 Tryz.underlying210 gcl2 rfl phG
  have one : ∀ i bl, lk gL i = some bl → i < 3 := by
    intro i bl h
    simp only [gL, lk_cons] at h
    split at h
    · omega
    · split at h
      · omega
      · split at h
        · omega
        · simp [lk] at h
  refine ⟨fun i bl hi => ?_, fun i j bl bl' b b' hi hj hb hb' hbb => ?_⟩
  · simp only [gL, lk_cons] at hi
    split at hi
    · rename_i e; subst e; cases hi; exact ⟨(0, 0), rfl, b0⟩
    · split at hi
      · rename_i e; subst e; cases hi; exact ⟨(1, 0), rfl, b1⟩
      · split at hi
        · rename_i e; subst e; cases hi; exact ⟨(2, 0), rfl, b2⟩
        · simp [lk] at hi
  · have h1 := one i bl hi
    have h2 := one j bl' hj
    simp only [phG, if_pos h1, Option.some.injEq] at hb
    simp only [phG, if_pos h2, Option.some.injEq] at hb'
    subst hb; subst hb'
    exact .inl hbb
theorem phG_none : ∀ i, 6 ≤ i → phG i = none := fun i hi => by simp only [phG]; rw [if_neg (by omega)]

theorem cells40 : Tryz.prog.cellsOf 40 = 3 := by kernel_rfl
theorem wf_u64 {n : Int} (h : (Lit.int .u64 n).wf = true) : 0 ≤ n ∧ n ≤ 18446744073709551615 := by
  simp only [Lit.wf, Bool.and_eq_true, decide_eq_true_eq] at h
  exact h
theorem open_in {H : Type} {enc : TypeId × Value → H} {w : World} {base : Nat} {spare : Nat → Bool} {held : Bool} {r : Reach} {b0 : Nat} {v : Value} {d : DataW H} {p : List MemPlace} (hv : Value.okWide Tryz.prog w r b0 40 v) (h : DataW.Trod enc Tryz.prog w base spare held 40 v d p) :
    ∃ (z : Int) (n : Nat) (s : List UInt8), v = .agg #[.int .i64 z, .int .u64 ((n : Nat) : Int), .string ⟨s.toArray⟩] ∧ n < 18446744073709551616 := by
  obtain ⟨v0, v1, v2, y0, y1, y2, n, rfl, _, _, h0, h1, h2⟩ := Go.Joins.open_agg3 Tryz.underlying40 (by kernel_rfl) cells40 hv h
  obtain ⟨n0, e0, _, w0⟩ := DataW.trod_int Tryz.underlying3 h0
  obtain ⟨n1, e1, _, w1⟩ := DataW.trod_int Tryz.underlying29 h1
  obtain ⟨s2, e2, _, m2⟩ := DataW.trod_string Tryz.underlying9 h2
  simp only [List.cons.injEq, and_true] at e0 e1 e2
  subst e0; subst e1; subst e2
  have w1 := wf_u64 w1
  refine ⟨n0, n1.toNat, s2.data.toList, ?_, by omega⟩
  rw [← str_val, show ((n1.toNat : Nat) : Int) = n1 by omega]

namespace LowerEffects
set_option maxHeartbeats 4000000 in
theorem lifted (os : Os) (started : os.Started) (H : Type) (enc : TypeId × Value → H) :
    ReturnsInHanded {} Tryz.checked os 5 .any (fun w args => (Rows.lowerEffectsSpec.pre enc Tryz.prog Tryz.f5 [] false w args ∧ laidMetH Tryz.prog Rows.lowerEffectsRow.laid w) ∧ sizedMet enc Tryz.prog Tryz.f5 (OpenSpec.ofChange Rows.lowerEffectsSpec) false w args)
      (Rows.lowerEffectsSpec.post enc Tryz.prog Tryz.f5 false true false false) := by
  refine handed_shaped (C := Tryz.checked) (X := fun w _ => laidMetH Tryz.prog Rows.lowerEffectsRow.laid w) (fun _ _ _ hh h => h.of_heap hh) own started (by kernel_rfl) Tryz.func5
    (ChangeSpec.witness_shaped (enc := enc) (C := Tryz.checked) (os := os) (X := fun w _ => laidMetH Tryz.prog Rows.lowerEffectsRow.laid w) false (World.laidAll Tryz.prog os Rows.lowerEffectsRow.laid) #[.agg #[.int .i64 0, .int .u64 0, .string ⟨#[]⟩]] 8 (World.laidAll_os _ _ _)
      (World.shaped_of_ZipB (by kernel_rfl) (by kernel_rfl)) (by kernel_rfl) (by kernel_rfl) (by kernel_rfl)
      (by rw [MakeChecks.laidMetH_plain _ _ _ (by kernel_rfl)]; exact laidMet_laidAll _ (by kernel_rfl) (by kernel_rfl))) ?_
  intro W base args ds gs before hS hval0 hW _ hsz hL _
  rw [MakeChecks.laidMetH_plain _ _ _ (by kernel_rfl)] at hL
  have hval : ∀ (j : Nat) t v, Tryz.f5.params[j]? = some t → args[j]? = some v → Value.okWide Tryz.prog W .any base t v := hval0
  have hW' := hW
  obtain ⟨p, q, hA0, hV, rfl, hfz, hnd⟩ := hW
  have hA : DataW.TrodAll enc Tryz.prog W 0 (fun _ => true) true Tryz.f5.params.toList args.toList ds p := hA0
  rw [Tryz.params5] at hA hval
  obtain ⟨v0, vs0, d0, ds0, p0, q0, hargs, rfl, rfl, h0, r0⟩ := trodAll_cons hA
  obtain ⟨rfl, rfl, rfl⟩ := trodAll_nil r0
  obtain rfl : args = #[v0] := by cases args; simp_all
  obtain ⟨rfl, rfl⟩ := trodVars_none hV
  have lt0 : ∀ x ∈ p0, x.block < W.heap.size := by obtain ⟨m, hm⟩ := h0; exact DataW.trod_lt m _ _ _ hm
  obtain ⟨z, n, s, rfl, hn⟩ := open_in (hval 0 40 v0 rfl rfl) h0
  clear hA0 hval0
  refine (SC.law (xs := [.agg #[.int .i64 z, .int .u64 ((n : Nat) : Int), .string ⟨s.toArray⟩]]) (effects_s z n s hn) gL_ro ⟨⟨[.int .i64 z, .int .u64 ((n : Nat) : Int), .string ⟨s.toArray⟩], rfl, rfl, rfl, rfl, trivial⟩, trivial⟩ (globals_good hS hL) phG_none).mono fun e W' ⟨he, bel⟩ => ?_
  subst he
  exact ⟨_, rfl, _, _, _, [], _, [], hW', trodAll_mk1 (shut_bool Tryz.underlying4 _),
    (trodAll_cons_mk (Below.trod laidOut (by kernel_rfl) (of_decide_eq_true (by kernel_rfl)) h0 bel lt0) trodAll_mk0), rfl, bel.frame _, fun h => by cases h⟩

theorem over : Rows.lowerEffectsRow.holds Tryz.pinned (OpenSpec.ofChange Rows.lowerEffectsSpec) :=
  OpenClaim.holds_of_wide 5 Tryz.f5 rfl rfl rfl rfl rfl rfl rfl ⟨rfl, rfl, rfl, rfl, rfl⟩ rfl rfl rfl rfl rfl (by kernel_rfl) Tryz.func5 (by kernel_rfl)
    (of_decide_eq_true (by kernel_rfl)) (by unfold Func.isWrapper; first | (rw [if_pos (by decide +kernel)]; kernel_rfl) | (rw [if_neg (by decide +kernel)]; exact ⟨rfl, rfl⟩))
    (fun os started H enc _ => lifted os started H enc)

theorem card : Rows.LowerEffectsCardSaid :=
  Claim7.holds_tied_plain_at .later [] [.data, .data, .data, .data, .pinned] true (true, "243892b285f9acb236f7bca336c9d9198fbb9dd687300925fa391b11f427df69") false over (fun _ h => by cases h) (by kernel_rfl) (fun _ h => by cases h) lowerEffects_row_tie rfl ⟨rfl, rfl⟩ (by kernel_rfl) rfl
    (fun f fn hf hfn => by
      obtain rfl : f = 5 := Option.some.inj ((show Tryz.prog.funcNamed "platformfw/platformfwlaw14.LowerEffects" = some 5 by kernel_rfl).symm.trans hf) |>.symm
      obtain rfl : fn = Tryz.f5 := (Option.some.inj (Tryz.func5.symm.trans hfn)).symm
      exact ⟨by kernel_rfl, fun j t ht => by
        rw [Tryz.params5] at ht
        have hm : t ∈ [40] := by simpa using Array.mem_of_getElem? ht
        have hall : ([40].all fun u => !Tryz.prog.wantsStandIn u) = true := by kernel_rfl
        exact (show Tryz.prog.wantsStandIn t = false by simpa using List.all_eq_true.1 hall t hm)⟩)
    (by kernel_rfl)
end LowerEffects
theorem lowerEffects : Rows.LowerEffectsCardSaid := LowerEffects.card

end Go.Proofs.YtbokilgdefkmiaaGreatDoor
