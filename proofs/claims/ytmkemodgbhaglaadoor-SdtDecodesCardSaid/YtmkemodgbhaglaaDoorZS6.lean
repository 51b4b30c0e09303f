/-
  SdtDecodes: for every string, table, place and byte the statement returns true and leaves its arguments as they were. The listed variables of the row are tied by its card.
-/
import Derived.Test.YtmkemodgbhaglaaDoorSm
import Derived.Test.YtmkemodgbhaglaaDoorSo
import Derived.Test.YtmkemodgbhaglaaDoorCards
import Derived.Test.YtmkemodgbhaglaaDoorTie
import Derived.Lay
import Derived.LaidOnce
import Derived.SevenTiedAt
import Derived.Stop.Joined
set_option linter.unusedSimpArgs false
set_option linter.unusedVariables false
namespace Go.Proofs.YtmkemodgbhaglaaDoor.SdtDecodes
open Go Ab
open Go.ChangeShapes Go.WideShapes Go.ChangeAt Go.RowKit
set_option maxRecDepth 100000

set_option maxHeartbeats 4000000 in
theorem lifted (os : Os) (started : os.Started) (H : Type) (enc : TypeId × Value → H) :
    ReturnsInHanded {} Tryd.checked os 6 .any (fun w args => (Rows.sdtDecodesSpec.pre enc Tryd.prog Tryd.f6 [] false w args ∧ laidMetH Tryd.prog [("unicode/utf8.acceptRanges", Rows.laid_unicode_utf8_acceptRanges), ("unicode/utf8.first", Rows.laid_unicode_utf8_first)] w) ∧ sizedMet enc Tryd.prog Tryd.f6 (OpenSpec.ofChange Rows.sdtDecodesSpec) false w args)
      (Rows.sdtDecodesSpec.post enc Tryd.prog Tryd.f6 false true false false) := by
  refine returnsInHanded_of_change_and (C := Tryd.checked) (X := fun w _ => laidMetH Tryd.prog [("unicode/utf8.acceptRanges", Rows.laid_unicode_utf8_acceptRanges), ("unicode/utf8.first", Rows.laid_unicode_utf8_first)] w) (fun _ _ _ hh h => h.of_heap hh) own started (by kernel_rfl) Tryd.func6
    (ChangeSpec.witness_shaped (enc := enc) (C := Tryd.checked) (os := os) (X := fun w _ => laidMetH Tryd.prog [("unicode/utf8.acceptRanges", Rows.laid_unicode_utf8_acceptRanges), ("unicode/utf8.first", Rows.laid_unicode_utf8_first)] w) false (World.laidAll Tryd.prog os [("unicode/utf8.acceptRanges", Rows.laid_unicode_utf8_acceptRanges), ("unicode/utf8.first", Rows.laid_unicode_utf8_first)]) #[.string ⟨#[]⟩, .agg #[.string ⟨#[]⟩, .int .i64 0, .string ⟨#[]⟩, .string ⟨#[]⟩], .int .i64 0, .int .u8 0] 8 (World.laidAll_os _ _ _)
      (World.shaped_of_ZipB (by kernel_rfl) (by kernel_rfl)) (by kernel_rfl) (by kernel_rfl) (by kernel_rfl)
      (by rw [MakeChecks.laidMetH_plain _ _ _ (by kernel_rfl)]; exact laidMet_laidAll _ (by kernel_rfl) (by kernel_rfl))) ?_
  intro W base args ds gs before hval0 hW _ hsz hL _
  have hval : ∀ (j : Nat) t v, Tryd.f6.params[j]? = some t → args[j]? = some v → Value.okWide Tryd.prog W .any base t v := hval0
  have hW' := hW
  obtain ⟨p, q, hA0, hV, rfl, hfz, hnd⟩ := hW
  have hA : DataW.TrodAll enc Tryd.prog W 0 (fun _ => true) true Tryd.f6.params.toList args.toList ds p := hA0
  rw [Tryd.params6] at hA hval
  obtain ⟨v0, vs0, d0, ds0, p0, q0, hargs, rfl, rfl, h0, r0⟩ := trodAll_cons hA
  obtain ⟨v1, vs1, d1, ds1, p1, q1, rfl, rfl, rfl, h1, r1⟩ := trodAll_cons r0
  obtain ⟨v2, vs2, d2, ds2, p2, q2, rfl, rfl, rfl, h2, r2⟩ := trodAll_cons r1
  obtain ⟨v3, vs3, d3, ds3, p3, q3, rfl, rfl, rfl, h3, r3⟩ := trodAll_cons r2
  obtain ⟨rfl, rfl, rfl⟩ := trodAll_nil r3
  obtain rfl : args = #[v0, v1, v2, v3] := by cases args; simp_all
  obtain ⟨rfl, rfl⟩ := trodVars_none hV
  have lt0 : ∀ x ∈ p0, x.block < W.heap.size := by obtain ⟨m, hm⟩ := h0; exact DataW.trod_lt m _ _ _ hm
  have lt1 : ∀ x ∈ p1, x.block < W.heap.size := by obtain ⟨m, hm⟩ := h1; exact DataW.trod_lt m _ _ _ hm
  have lt2 : ∀ x ∈ p2, x.block < W.heap.size := by obtain ⟨m, hm⟩ := h2; exact DataW.trod_lt m _ _ _ hm
  have lt3 : ∀ x ∈ p3, x.block < W.heap.size := by obtain ⟨m, hm⟩ := h3; exact DataW.trod_lt m _ _ _ hm
  obtain ⟨s0, rfl, hd0⟩ := open_s (hval 0 9 v0 rfl rfl) h0
  subst hd0
  obtain ⟨t1, rfl, ht1⟩ := open_tab (hval 1 23 v1 rfl rfl) h1
  obtain ⟨z2, rfl, hz2⟩ := open_i64 (hval 2 3 v2 rfl rfl) h2
  obtain ⟨c3, rfl⟩ := open_u8 (hval 3 5 v3 rfl rfl) h3
  have hlen : s0.length ≤ reachBytes := by
    have hs : (DataW.weightsEach Tryd.prog [9, 23, 3, 5] [.lit (.string s0), d1, d2, d3]).all (· ≤ reachBytes) = true := by
      have h := hsz
      rw [Tryd.params6] at h
      exact h
    rw [show DataW.weightsEach Tryd.prog [9, 23, 3, 5] [.lit (.string s0), d1, d2, d3] = [s0.length] ++ DataW.weightsEach Tryd.prog [23, 3, 5] [d1, d2, d3] from rfl, List.all_append, Bool.and_eq_true] at hs
    simpa using hs.1
  clear hA0 hval0
  refine (SC.law (xs := [.string ⟨s0.toArray⟩, .agg #[.string ⟨t1.sg.toArray⟩, .int .i64 t1.rv, .string ⟨t1.om.toArray⟩, .string ⟨t1.bd.toArray⟩], .int .i64 z2, .int .u8 ((c3.toNat : Nat) : Int)]) (sdecodes_s s0 (short hlen) t1 ht1 z2 c3) no_ro ⟨rfl, ⟨[.string ⟨t1.sg.toArray⟩, .int .i64 t1.rv, .string ⟨t1.om.toArray⟩, .string ⟨t1.bd.toArray⟩], rfl, rfl, rfl, rfl, rfl, trivial⟩, rfl, rfl, trivial⟩ (no_good W) (fun _ _ => rfl)).mono fun e W' ⟨he, bel⟩ => ?_
  subst he
  exact ⟨_, rfl, _, _, _, [], _, [], hW', trodAll_mk1 (shut_bool Tryd.underlying4 _),
    (trodAll_cons_mk (Below.trod laidOut (by kernel_rfl) (of_decide_eq_true (by kernel_rfl)) h0 bel lt0) (trodAll_cons_mk (Below.trod laidOut (by kernel_rfl) (of_decide_eq_true (by kernel_rfl)) h1 bel lt1) (trodAll_cons_mk (Below.trod laidOut (by kernel_rfl) (of_decide_eq_true (by kernel_rfl)) h2 bel lt2) (trodAll_cons_mk (Below.trod laidOut (by kernel_rfl) (of_decide_eq_true (by kernel_rfl)) h3 bel lt3) trodAll_mk0)))), rfl, bel.frame _, fun h => by cases h⟩

theorem over : Rows.sdtDecodesRow.holds Tryd.pinned (OpenSpec.ofChange Rows.sdtDecodesSpec) :=
  OpenClaim.holds_of_wide 6 Tryd.f6 rfl rfl rfl rfl rfl rfl rfl ⟨rfl, rfl, rfl, rfl, rfl⟩ rfl rfl rfl rfl rfl (by kernel_rfl) Tryd.func6 (by kernel_rfl)
    (of_decide_eq_true (by kernel_rfl)) (by unfold Func.isWrapper; first | (rw [if_pos (by decide +kernel)]; kernel_rfl) | (rw [if_neg (by decide +kernel)]; exact ⟨rfl, rfl⟩))
    (fun os started H enc _ => lifted os started H enc)

theorem card : Rows.SdtDecodesCardSaid :=
  Claim7.holds_tied_plain_at .later [] [.data, .pinned] true (true, "638b674f36aaf655cb875a0461b4514b930e17fef20d62056a4fda08835a7d0e") false over (fun _ h => by cases h) (by kernel_rfl) (fun _ h => by cases h) sdtDecodes_row_tie rfl ⟨rfl, rfl⟩ (by kernel_rfl) rfl
    (fun f fn hf hfn => by
      obtain rfl : f = 6 := Option.some.inj ((show Tryd.prog.funcNamed "platformfw/platformfwlaw07.SdtDecodes" = some 6 by kernel_rfl).symm.trans hf) |>.symm
      obtain rfl : fn = Tryd.f6 := (Option.some.inj (Tryd.func6.symm.trans hfn)).symm
      exact ⟨by kernel_rfl, fun j t ht => by
        rw [Tryd.params6] at ht
        have hm : t ∈ [9, 23, 3, 5] := by simpa using Array.mem_of_getElem? ht
        have hall : ([9, 23, 3, 5].all fun u => !Tryd.prog.wantsStandIn u) = true := by kernel_rfl
        exact (show Tryd.prog.wantsStandIn t = false by simpa using List.all_eq_true.1 hall t hm)⟩)
    (by kernel_rfl)

end Go.Proofs.YtmkemodgbhaglaaDoor.SdtDecodes
namespace Go.Proofs.YtmkemodgbhaglaaDoor
theorem sdtDecodes : Rows.SdtDecodesCardSaid := SdtDecodes.card
end Go.Proofs.YtmkemodgbhaglaaDoor
