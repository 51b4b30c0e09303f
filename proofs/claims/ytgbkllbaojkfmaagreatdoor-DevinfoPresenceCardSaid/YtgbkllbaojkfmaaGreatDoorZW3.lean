/-
  DevinfoPresence: for all three bytes the statement returns true, where the listed package variables hold what the program's text lays; the card ties them to it.
-/
import Derived.Test.YtgbkllbaojkfmaaGreatDoorWi
import Derived.Test.YtgbkllbaojkfmaaGreatDoorCards
import Derived.Test.YtgbkllbaojkfmaaGreatDoorTie
import Derived.SevenTiedAt
set_option linter.unusedSimpArgs false
set_option linter.unusedVariables false
namespace Go.Proofs.YtgbkllbaojkfmaaGreatDoor
open Go Ab
open Go.ChangeShapes Go.WideShapes Go.ChangeAt Go.RowKit
set_option maxRecDepth 100000

theorem row2 : (((begin Tryz.prog (fun _ _ => 0) default).world.heap[2]?).bind Obj.row?).map (·.2) = some 288 := by kernel_rfl
theorem gty2 : (Tryz.prog.globals[2]?).map (·.type) = some 288 := by kernel_rfl
theorem gcl2 : Tryz.prog.cellsOf 288 = 12 * 2 := by kernel_rfl
theorem row3 : (((begin Tryz.prog (fun _ _ => 0) default).world.heap[3]?).bind Obj.row?).map (·.2) = some 289 := by kernel_rfl
theorem gty3 : (Tryz.prog.globals[3]?).map (·.type) = some 289 := by kernel_rfl
theorem gcl3 : Tryz.prog.cellsOf 289 = 13 * 2 := by kernel_rfl
theorem row4 : (((begin Tryz.prog (fun _ _ => 0) default).world.heap[4]?).bind Obj.row?).map (·.2) = some 290 := by kernel_rfl
theorem gty4 : (Tryz.prog.globals[4]?).map (·.type) = some 290 := by kernel_rfl
theorem gcl4 : Tryz.prog.cellsOf 290 = 29 * 2 := by kernel_rfl
theorem glob_heap {W : World} (hS : W.ShapedOpen Tryz.prog) {g t : Nat} (hg : g < 9) (hr : (((begin Tryz.prog (fun _ _ => 0) default).world.heap[g]?).bind Obj.row?).map (·.2) = some t) : ∃ cs, W.heap[g]? = some (.cells cs t (0, 0)) := by
  cases hq : ((begin Tryz.prog (fun _ _ => 0) default).world.heap[g]?).bind Obj.row? with
  | none => rw [hq] at hr; cases hr
  | some x =>
    obtain ⟨z, t'⟩ := x
    rw [hq] at hr
    simp only [Option.map_some, Option.some.injEq] at hr
    subst hr
    obtain ⟨cs, h1, _⟩ := hS.1 g z t' (Nat.lt_of_lt_of_le hg (by decide +kernel)) hq
    exact ⟨cs, h1⟩
theorem glob_at {W : World} (hS : W.ShapedOpen Tryz.prog) {name : String} {i ty N : Nat} {d : DataW Unit} {ds : List (DataW Unit)} {l : List (String × DataW Unit)} {ps : List MemPlace} (hv : DataW.LaidVars Tryz.prog W ((name, d) :: l) ps) (hi : i < 9)
    (hr : (((begin Tryz.prog (fun _ _ => 0) default).world.heap[i]?).bind Obj.row?).map (·.2) = some ty) (hn : Tryz.prog.globalNamed name = some i) (ht : (Tryz.prog.globals[i]?).map (·.type) = some ty) (hu : Tryz.prog.underlying ty = some (.array N 263)) (hc : Tryz.prog.cellsOf ty = N * 2)
    (hd : d = .agg ds) (φ : Ph) : BlAt φ W (i, 0) (gB i (unDs ds) ty) := by
  obtain ⟨g, t, cs, fuel, p, q, h1, h2, h3, h4, _⟩ := hv
  rw [hn] at h1; cases h1
  rw [ht] at h2; cases h2
  obtain ⟨cs', h5⟩ := glob_heap hS hi hr
  have : cs = cs' := by
    simp only [World.var?, hn, Option.bind_some, h5, Option.some.injEq] at h3
    exact h3.symm
  subst this
  obtain ⟨ds', e, hall⟩ := table_open hu hc h4 φ
  rw [hd] at e
  cases e
  refine ⟨[], cs.toList, [], (0, 0), ?_, rfl, hall, fun _ => rfl, fun e => (by cases e), ⟨fun g z e => (by cases e), fun g e => (by cases e; rfl)⟩⟩
  rw [h5]; simp [objOf, gB]
theorem globals_good {a b c : Nat} {W : World} (hS : W.ShapedOpen Tryz.prog) (hL : laidMet Tryz.prog Rows.devinfoPresenceRow.laid W) : Ab.Good (phG a b c) gH W := by
  obtain ⟨ps, hv, _⟩ := hL
  obtain ⟨_, _, _, _, _, q0, _, _, _, _, hv1, _⟩ := hv
  obtain ⟨_, _, _, _, _, q1, _, _, _, _, hv2, _⟩ := hv1
  obtain ⟨_, _, _, _, _, q2, _, _, _, _, hv3, _⟩ := hv2
  obtain ⟨_, _, _, _, _, q3, _, _, _, _, hv4, _⟩ := hv3
  have b0 := glob_at hS (ty := 288) (N := 12) hv4 (by decide) row2 (by kernel_rfl) gty2 Tryz.underlying288 gcl2 rfl (phG a b c)
  obtain ⟨_, _, _, _, _, q4, _, _, _, _, hv5, _⟩ := hv4
  have b1 := glob_at hS (ty := 289) (N := 13) hv5 (by decide) row3 (by kernel_rfl) gty3 Tryz.underlying289 gcl3 rfl (phG a b c)
  obtain ⟨_, _, _, _, _, q5, _, _, _, _, hv6, _⟩ := hv5
  have b2 := glob_at hS (ty := 290) (N := 29) hv6 (by decide) row4 (by kernel_rfl) gty4 Tryz.underlying290 gcl4 rfl (phG a b c)
  have one : ∀ i bl, lk gH i = some bl → phG a b c i = some (i, 0) := by
    intro i bl h
    have h : lk (puts [] (toW g13)) i = some bl := h
    simp only [g13, toW, puts, lk_put] at h
    split at h
    · rename_i e; subst e; rfl
    · split at h
      · rename_i e; subst e; rfl
      · split at h
        · rename_i e; subst e; rfl
        · simp [lk] at h
  refine ⟨fun i bl hi => ?_, fun i j bl bl' b b' hi hj hb hb' hbb => ?_⟩
  · have hi' : lk (puts [] (toW g13)) i = some bl := hi
    simp only [g13, toW, puts, lk_put] at hi'
    split at hi'
    · rename_i e; subst e; cases hi'; exact ⟨(4, 0), rfl, b2⟩
    · split at hi'
      · rename_i e; subst e; cases hi'; exact ⟨(3, 0), rfl, b1⟩
      · split at hi'
        · rename_i e; subst e; cases hi'; exact ⟨(2, 0), rfl, b0⟩
        · simp [lk] at hi'
  · have h1 := one i bl hi
    have h2 := one j bl' hj
    rw [h1] at hb; rw [h2] at hb'
    cases hb; cases hb'
    exact .inl hbb
theorem phG_none (a b c : Nat) : ∀ i, 12 ≤ i → phG a b c i = none := fun i hi => by
  unfold phG
  split <;> first | omega | rfl
theorem gH_ro : ∀ i bl, lk gH i = some bl → bl.ro = true := by
  intro i bl h
  have h : lk (puts [] (toW g13)) i = some bl := h
  simp only [g13, toW, puts, lk_put] at h
  split at h
  · cases h; rfl
  · split at h
    · cases h; rfl
    · split at h
      · cases h; rfl
      · simp [lk] at h
theorem wf_u8 {n : Int} (h : (Lit.int .u8 n).wf = true) : 0 ≤ n ∧ n ≤ 255 := by
  simp only [Lit.wf, Bool.and_eq_true, decide_eq_true_eq] at h
  exact h
theorem open_u8 {H : Type} {enc : TypeId × Value → H} {w : World} {base : Nat} {spare : Nat → Bool} {held : Bool} {r : Reach} {b0 : Nat} {v : Value} {d : DataW H} {p : List MemPlace} (hv : Value.okWide Tryz.prog w r b0 5 v) (h : DataW.Trod enc Tryz.prog w base spare held 5 v d p) :
    ∃ n : Nat, v = .int .u8 ((n : Nat) : Int) ∧ n < 256 := by
  obtain ⟨n, rfl, _, _, hw⟩ := open_int Tryz.underlying5 hv h
  have := wf_u8 hw
  exact ⟨n.toNat, by rw [show ((n.toNat : Nat) : Int) = n by omega], by omega⟩

namespace DevinfoPresence
set_option maxHeartbeats 4000000 in
theorem lifted (os : Os) (started : os.Started) (H : Type) (enc : TypeId × Value → H) :
    ReturnsInHanded {} Tryz.checked os 3 .any (fun w args => (Rows.devinfoPresenceSpec.pre enc Tryz.prog Tryz.f3 [] false w args ∧ laidMetH Tryz.prog Rows.devinfoPresenceRow.laid w) ∧ sizedMet enc Tryz.prog Tryz.f3 (OpenSpec.ofChange Rows.devinfoPresenceSpec) false w args)
      (Rows.devinfoPresenceSpec.post enc Tryz.prog Tryz.f3 false true false false) := by
  refine handed_shaped (C := Tryz.checked) (X := fun w _ => laidMetH Tryz.prog Rows.devinfoPresenceRow.laid w) (fun _ _ _ hh h => h.of_heap hh) own started (by kernel_rfl) Tryz.func3
    (ChangeSpec.witness_shaped (enc := enc) (C := Tryz.checked) (os := os) (X := fun w _ => laidMetH Tryz.prog Rows.devinfoPresenceRow.laid w) false (World.laidAll Tryz.prog os Rows.devinfoPresenceRow.laid) #[.int .u8 0, .int .u8 0, .int .u8 0] 8 (World.laidAll_os _ _ _)
      (World.shaped_of_ZipB (by kernel_rfl) (by kernel_rfl)) (by kernel_rfl) (by kernel_rfl) (by kernel_rfl)
      (by rw [MakeChecks.laidMetH_plain _ _ _ (by kernel_rfl)]; exact laidMet_laidAll _ (by kernel_rfl) (by kernel_rfl))) ?_
  intro W base args ds gs before hS hval0 hW _ hsz hL _
  rw [MakeChecks.laidMetH_plain _ _ _ (by kernel_rfl)] at hL
  have hval : ∀ (j : Nat) t v, Tryz.f3.params[j]? = some t → args[j]? = some v → Value.okWide Tryz.prog W .any base t v := hval0
  have hW' := hW
  obtain ⟨p, q, hA0, hV, rfl, hfz, hnd⟩ := hW
  have hA : DataW.TrodAll enc Tryz.prog W 0 (fun _ => true) true Tryz.f3.params.toList args.toList ds p := hA0
  rw [Tryz.params3] at hA hval
  obtain ⟨v0, vs0, d0, ds0, p0, q0, hargs, rfl, rfl, h0, r0⟩ := trodAll_cons hA
  obtain ⟨v1, vs1, d1, ds1, p1, q1, rfl, rfl, rfl, h1, r1⟩ := trodAll_cons r0
  obtain ⟨v2, vs2, d2, ds2, p2, q2, rfl, rfl, rfl, h2, r2⟩ := trodAll_cons r1
  obtain ⟨rfl, rfl, rfl⟩ := trodAll_nil r2
  obtain rfl : args = #[v0, v1, v2] := by cases args; simp_all
  obtain ⟨rfl, rfl⟩ := trodVars_none hV
  have lt0 : ∀ x ∈ p0, x.block < W.heap.size := by obtain ⟨m, hm⟩ := h0; exact DataW.trod_lt m _ _ _ hm
  have lt1 : ∀ x ∈ p1, x.block < W.heap.size := by obtain ⟨m, hm⟩ := h1; exact DataW.trod_lt m _ _ _ hm
  have lt2 : ∀ x ∈ p2, x.block < W.heap.size := by obtain ⟨m, hm⟩ := h2; exact DataW.trod_lt m _ _ _ hm
  obtain ⟨n0, rfl, hn0⟩ := open_u8 (hval 0 5 v0 rfl rfl) h0
  obtain ⟨n1, rfl, hn1⟩ := open_u8 (hval 1 5 v1 rfl rfl) h1
  obtain ⟨n2, rfl, hn2⟩ := open_u8 (hval 2 5 v2 rfl rfl) h2
  clear hA0 hval0
  obtain ⟨as0, n', hsc, har⟩ := law_any hn0 hn1 hn2
  refine (SC.law hsc gH_ro har (globals_good hS hL) (phG_none n0 n1 n2)).mono fun e W' ⟨he, bel⟩ => ?_
  subst he
  exact ⟨_, rfl, _, _, _, [], _, [], hW', trodAll_mk1 (shut_bool Tryz.underlying4 _),
    (trodAll_cons_mk (Below.trod laidOut (by kernel_rfl) (of_decide_eq_true (by kernel_rfl)) h0 bel lt0) (trodAll_cons_mk (Below.trod laidOut (by kernel_rfl) (of_decide_eq_true (by kernel_rfl)) h1 bel lt1) (trodAll_cons_mk (Below.trod laidOut (by kernel_rfl) (of_decide_eq_true (by kernel_rfl)) h2 bel lt2) trodAll_mk0))), rfl, bel.frame _, fun h => by cases h⟩

theorem over : Rows.devinfoPresenceRow.holds Tryz.pinned (OpenSpec.ofChange Rows.devinfoPresenceSpec) :=
  OpenClaim.holds_of_wide 3 Tryz.f3 rfl rfl rfl rfl rfl rfl rfl ⟨rfl, rfl, rfl, rfl, rfl⟩ rfl rfl rfl rfl rfl (by kernel_rfl) Tryz.func3 (by kernel_rfl)
    (of_decide_eq_true (by kernel_rfl)) (by unfold Func.isWrapper; first | (rw [if_pos (by decide +kernel)]; kernel_rfl) | (rw [if_neg (by decide +kernel)]; exact ⟨rfl, rfl⟩))
    (fun os started H enc _ => lifted os started H enc)

theorem card : Rows.DevinfoPresenceCardSaid :=
  Claim7.holds_tied_plain_at .later [] [.data, .data, .data, .data, .data, .data, .data, .pinned] true (true, "642b2a7d43d183c600b4f287236d8c999ed6dd67348abbad6ebce68784994d34") true over (fun _ h => by cases h) (by kernel_rfl) (fun _ h => by cases h) devinfoPresence_row_tie rfl ⟨rfl, rfl⟩ (by kernel_rfl) rfl
    (fun f fn hf hfn => by
      obtain rfl : f = 3 := Option.some.inj ((show Tryz.prog.funcNamed "platformfw/platformfwlaw13.DevinfoPresence" = some 3 by kernel_rfl).symm.trans hf) |>.symm
      obtain rfl : fn = Tryz.f3 := (Option.some.inj (Tryz.func3.symm.trans hfn)).symm
      exact ⟨by kernel_rfl, fun j t ht => by
        rw [Tryz.params3] at ht
        have hm : t ∈ [5, 5, 5] := by simpa using Array.mem_of_getElem? ht
        have hall : ([5, 5, 5].all fun u => !Tryz.prog.wantsStandIn u) = true := by kernel_rfl
        exact (show Tryz.prog.wantsStandIn t = false by simpa using List.all_eq_true.1 hall t hm)⟩)
    (by kernel_rfl)
end DevinfoPresence
theorem devinfoPresence : Rows.DevinfoPresenceCardSaid := DevinfoPresence.card

end Go.Proofs.YtgbkllbaojkfmaaGreatDoor
