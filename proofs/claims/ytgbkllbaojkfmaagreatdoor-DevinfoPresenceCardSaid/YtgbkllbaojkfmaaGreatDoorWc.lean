/-
  (*Space).Children, at a map that is there: what it hands back, whatever order the map is ranged over in.
-/
import Derived.Test.YtgbkllbaojkfmaaGreatDoorRows
import Derived.Sort.MapsRangeIn
import Derived.Lib.SlKeysI
import Derived.Sort.KeysCollected
import Derived.Sort.OwnSorted
import Derived.Maps.AppendAt
import Derived.Maps.OwnIn
import Derived.WalkKit
import Derived.OwnWalkIn
import Derived.TacticsInMore
import Derived.RegionIn
import Derived.LoopNIn
import Derived.LoopIn
import Derived.CallsIn
set_option linter.unusedSimpArgs false
set_option linter.unusedVariables false
namespace Go.Proofs.YtgbkllbaojkfmaaGreatDoor
open Go.RowKit Go.Maps Go.Sort

/-- an entry of the map of objects: its cells; the parent is the third -/
abbrev Ent := ByteArray × Int × Int × Int × Int × Int × Int × Int × Int × Int × Int × Int × Int × Int
def entV : Ent → Value
  | (s, z1, p, z3, z4, z5, z6, z7, z8, z9, z10, z11, z12, z13) => .agg #[.string s, .int .i64 z1, .int .i64 p, .int .i64 z3, .int .i64 z4, .int .i64 z5, .int .u64 z6, .int .u64 z7, .int .i64 z8, .int .i64 z9, .int .i64 z10, .int .i64 z11, .int .i64 z12, .int .i64 z13]
def entO (l : List Value) : Option Ent :=
  match l with
  | [.string s, .int .i64 z1, .int .i64 p, .int .i64 z3, .int .i64 z4, .int .i64 z5, .int .u64 z6, .int .u64 z7, .int .i64 z8, .int .i64 z9, .int .i64 z10, .int .i64 z11, .int .i64 z12, .int .i64 z13] => some (s, z1, p, z3, z4, z5, z6, z7, z8, z9, z10, z11, z12, z13)
  | _ => none
def entR {H : Type} (v : Value) : Option (DataW H × List MemPlace) :=
  match v with
  | .agg a => match entO a.toList with | some c => some (.lit (.int .i64 c.2.2.1), []) | none => none
  | _ => none
theorem entO_inv {l : List Value} {c : Ent} (h : entO l = some c) : .agg l.toArray = entV c := by
  unfold entO at h
  split at h
  · cases h; rfl
  · cases h
theorem entR_inv {H : Type} {v : Value} {y : DataW H × List MemPlace} (h : entR v = some y) : ∃ c : Ent, v = entV c ∧ y = (.lit (.int .i64 c.2.2.1), []) := by
  unfold entR at h
  split at h
  · rename_i a
    split at h
    · rename_i c hc
      cases h
      exact ⟨c, by rw [← entO_inv hc], rfl⟩
    · cases h
  · cases h
theorem law3 : Keyed Tryz.prog 3 := int_keyed Tryz.underlying3
theorem info3 : (Tryz.prog.info? 3).map (fun i => (i.zero, i.size, i.bytes)) = some (some (.int .i64 0), 1, 8) := by kernel_rfl
theorem info76' : (Tryz.prog.info? 76).map (fun i => (i.zero, i.size)) = some (some (.agg #[.string ⟨#[]⟩, .int .i64 0, .int .i64 0, .int .i64 0, .int .i64 0, .int .i64 0, .int .u64 0, .int .u64 0, .int .i64 0, .int .i64 0, .int .i64 0, .int .i64 0, .int .i64 0, .int .i64 0]), 14) := by kernel_rfl

/-- the children of an object, collected: no number twice; just those whose parent it is and that have come -/
def Chd {H : Type} (D0 : DataW H) (id : Int) (left : Lit → Bool) (ss : List Int) : Prop := ss.Nodup ∧ ∀ x, x ∈ ss ↔ (has D0 (.int .i64 x) = true ∧ left (.int .i64 x) = false ∧ ∀ zd, D0.atKey (.int .i64 x) zd = .lit (.int .i64 id))
theorem Chd.start {H : Type} (D0 : DataW H) (id : Int) : Chd D0 id (has D0) [] := ⟨List.nodup_nil, fun x => by cases has D0 (.int .i64 x) <;> simp⟩
theorem Chd.step {H : Type} {D0 : DataW H} {id : Int} {left : Lit → Bool} {ss : List Int} (h : Chd D0 id left ss) {x p : Int} (hlk : left (.int .i64 x) = true) (hat : ∀ zd, D0.atKey (.int .i64 x) zd = .lit (.int .i64 p)) :
    Chd D0 id (fun z => left z && !z.sameKey (.int .i64 x)) (if p = id then ss ++ [x] else ss) := by
  have hhas : has D0 (.int .i64 x) = true := has_true_of_atKey hat
  have hnew : x ∉ ss := fun hx => by have := ((h.2 x).1 hx).2.1; rw [hlk] at this; cases this
  have same : ∀ y : Int, (Lit.int .i64 y).sameKey (.int .i64 x) = decide (y = x) := fun y => by simp [Lit.sameKey]
  split
  · rename_i hp
    subst hp
    refine ⟨List.nodup_append.2 ⟨h.1, by simp, fun a ha b hb => by simp at hb; subst hb; exact fun e => hnew (e ▸ ha)⟩, fun y => ?_⟩
    by_cases hy : y = x
    · subst hy; simp [hhas, hat, same]
    · simp [h.2 y, hy, same]
  · rename_i hp
    refine ⟨h.1, fun y => ?_⟩
    by_cases hy : y = x
    · subst hy
      simp only [hnew, false_iff, not_and]
      intro _ _ hz
      have := (hat (.lit (.int .i64 0))).symm.trans (hz _)
      simp at this
      exact hp this
    · simp [h.2 y, hy, same]

set_option maxRecDepth 100000 in
set_option maxHeartbeats 2000000 in
theorem children_any {H : Type} (bs os b n : Nat) (id : Int) (D0 : DataW H) (w : World)
    (hsort : ∀ m, (∀ (blk off cap : Nat) (ss : List Int) (W : World), Holds encZ W blk off ss.toArray → blk < W.heap.size → ss.length < 4611686018427387904 →
        CallsIn Fence.wide m Tryz.prog 139 #[.slice (some ⟨blk, off, none⟩) ss.length cap] W fun e w' => e = .returned (.tuple #[]) ∧ ∃ k os, w' = grow (putRow encZ (Sort.ahead W k) blk off (ss.mergeSort fun x y => decide (x ≤ y)).toArray) os) ∧
      (∀ (p : Option Addr) (cap : Nat) (W : World), CallsIn Fence.wide m Tryz.prog 139 #[.slice p 0 cap] W fun e w' => e = .returned (.tuple #[]) ∧ w' = W))
    (hcell : w.cell? ⟨bs, os, none⟩ = some (.map (some b))) (hbs : bs < w.heap.size) (hown : w.ownsMap Tryz.prog 3 entR b n D0) (hhas : has D0 (.int .i64 id) = true) (hwf : (Lit.int .i64 id).wf = true) (hmax : Maps.size D0 ≤ maxLen) (hbytes : Maps.size D0 * 8 ≤ 140737488355328) :
    CallsIn Fence.wide 8 Tryz.prog 86 #[.pointer (some ⟨bs, os, none⟩), .int .i64 id] w fun e w' => ∃ (v : Value) (ss : List Int), e = .returned v ∧ Chd D0 id (fun _ => false) ss ∧
      w'.ownsRow w.heap.size 3 1 v ss.length ((ss.mergeSort (fun x y => decide (x ≤ y))).map encZ) ∧ (v = .slice none 0 0 ↔ ss = []) ∧ Below w.heap.size w w' := by
  obtain ⟨i0, hi, hz0, hz1, hz2⟩ := info_parts info3
  have hbl := hown.lt
  have hkey : keyOf Tryz.prog 3 (.int .i64 id) = some (.int .i64 id) := by simp [keyOf, Tryz.underlying3, mapKey, hwf]
  obtain ⟨v0, ps0, hlook, hv0⟩ := hown.look_ok law3 Tryz.underlying65 (Tryz.zeroValue76 w) (zd := .lit (.int .i64 0)) (zp := []) rfl hkey
  rw [hhas] at hlook
  obtain ⟨⟨a0, a1, ap, a3, a4, a5, a6, a7, a8, a9, a10, a11, a12, a13⟩, rfl, _⟩ := entR_inv hv0
  rename_i hq0
  clear hv0 hq0
  simp only [entV] at hlook
  refine callsIn_of_wp Tryz.func86 rfl trivial ?_ rfl
  simp only [Tryz.ntmps86, List.size_toArray, List.length_cons, List.length_nil, Nat.reduceAdd, Nat.reduceSub, Array.replicate_succ, Array.replicate_zero, List.push_toArray, List.append_toArray, List.nil_append, List.cons_append]
  gi_wp2_with (first
    | (gi_at_range; refine wpListIn_range_own _ rfl _ 65 rfl 3 76 law3 Tryz.underlying65 _ b n _ rfl (hown.kept (World.grownBy_alloc w _ none) (by simp)) ?_; intro w0 hrg0 hg0 hs0)
    | gi_in)
  obtain ⟨rr, hrr⟩ : ∃ rr, rr = (w.alloc (.cells #[.string a0, .int .i64 a1, .int .i64 ap, .int .i64 a3, .int .i64 a4, .int .i64 a5, .int .u64 a6, .int .u64 a7, .int .i64 a8, .int .i64 a9, .int .i64 a10, .int .i64 a11, .int .i64 a12, .int .i64 a13] 76)).heap.size := ⟨_, rfl⟩
  rw [← hrr] at hrg0 ⊢
  have hrl : w.heap.size ≤ rr := by rw [hrr]; simp
  clear hrr
  have hf139 : Fence.wide.fn 139 := trivial
  go_frame
  gi_loopw [5] (fun v wr => ∃ (left : Lit → Bool) (cnt : Nat) (ss : List Int), wr.ranges Tryz.prog 3 entR b rr n D0 left cnt ∧ ss.length + cnt ≤ Maps.size D0 ∧
      wr.ownsRow w.heap.size 3 1 v ss.length (ss.map encZ) ∧ (v = .slice none 0 0 ↔ ss = []) ∧ Chd D0 id left ss ∧ Below w.heap.size w wr)
    (fun _ wr => wr.rangeLeft b rr)
  case atStart =>
    exact ⟨_, _, [], hrg0, by simp, ⟨by simp, .inl ⟨rfl, rfl⟩⟩, by simp, Chd.start D0 id, ((Below.refl _ _).alloc (Nat.le_refl _) _).grown hg0 (by simp) (fun j hj => by cases hj)⟩
  case round =>
    obtain ⟨left, cnt, ss, hrg, hcs, hrow, hnn, hC, hnx⟩ := hrel
    gi_wp2_with (first
      | (gi_at_next; refine wpListIn_next_ranges _ rfl _ rfl 3 law3 entR encZ entV (fun key kl hk => by obtain ⟨x, hx, _⟩ := Maps.keyOf_i64 Tryz.underlying3 hk; exact ⟨x, hx⟩) (fun v y hv => by obtain ⟨c, rfl, _⟩ := entR_inv hv; exact ⟨c, rfl⟩) b rr n _ _ _ rfl hrg ?_ ?_)
      | gi_in)
    · intro hc0 hl0
      have hCe : Chd D0 id (fun _ => false) ss := ⟨hC.1, fun x => by rw [hC.2 x, hl0]⟩
      rcases hrow.2 with ⟨hnil, hz⟩ | ⟨g, cap, cur, hv, hbase, hb, h1, h2, h3, h4⟩
      · have hss := hnn.1 hnil
        subst hss
        subst hnil
        have hc := (hsort 7).2 none 0 wr
        gi_wp2_with (gi_at_call 139; refine hc.mono ?_; rintro e w' ⟨rfl, rfl⟩)
        go_ret
        exact ⟨.slice none 0 0, [], rfl, hCe, by simpa using hrow, by simp, hnx⟩
      · subst hv
        have hH : Holds encZ wr g 0 ss.toArray := holds_of_block_i hb (by simpa using h4)
        have hgl : g < wr.heap.size := (Array.getElem?_eq_some_iff.1 hb).1
        have hc := (hsort 7).1 g 0 cap ss wr hH hgl (by unfold maxLen at hmax; omega)
        gi_wp2_with (gi_at_call 139; refine hc.mono ?_; rintro e w' ⟨rfl, nn, os, rfl⟩)
        go_ret
        exact ⟨_, ss, rfl, hCe, ownsRow_sorted_i (by simp) hbase hb h1 h2 h3, hnn, hnx.grown (grownBy_sorted_i _) hnx.size (fun j hj => by cases hj; exact hbase)⟩
    · intro x c0 c1 cp c3 c4 c5 c6 c7 c8 c9 c10 c11 c12 c13 kl yd yp w2 cnt2 hkey hlk hv hat hrg2 hlt hg2 hs2 hen
      obtain ⟨x', ex, rfl, _⟩ := Maps.keyOf_i64 Tryz.underlying3 hkey
      obtain rfl : x = x' := encZ_inj ex
      simp only [entR, entV, entO, Option.some.injEq, Prod.mk.injEq] at hv
      obtain ⟨rfl, rfl⟩ := hv
      simp only [entV] at hen
      have hrow2 := hrow.kept hg2 (Or.inr (row_ne_iter hrow hrg).symm)
      clear hs2
      have hnxs := hnx.size
      have hgsz := hg2.size
      gi_wp2_with (first
        | (gi_at_builtin; refine wpListIn_append_own _ rfl _ _ 33 rfl w.heap.size 3 i0 (.int .i64 0) 1 8 Tryz.underlying33 hi hz0 hz1 hz2 rfl (by decide) _ _ _ rfl ((hrow2.alloc _).alloc _) ⟨w2.heap.size + 1, 0, none⟩ 1 1 [encZ x] rfl rfl (by simpa using cell_one_new (w2.alloc _) _ _) (by simp [Value.oneCell', encZ]) (by unfold maxLen at *; omega) (by omega) (by simp; omega) ?_; intro v' w3 hown' hg3 hnil3; go_frame)
        | gi_in)
      · have hcp : cp = id := by simpa using ‹(cp == id) = true›
        have hst := hC.step hlk hat
        rw [if_pos hcp] at hst
        have hrg3 := ((hrg2.alloc _).alloc _).kept hg3 (row_ne_low hrow2 hbl) (row_ne_iter hrow2 hrg2)
        refine ⟨⟨_, cnt2, ss ++ [x], hrg3, by simp; omega, by simpa using hown', by rw [hnil3]; simp, hst, ?_⟩, by rw [hrg3.left_eq, hrg.left_eq]; exact hlt⟩
        exact (((hnx.grown hg2 hnx.size (fun j hj => by cases hj; exact hrl)).alloc (by omega) _).alloc (by simp; omega) _).grown hg3 (by simp; omega) (fun j hj => (hrow2.lt j hj).1)
      · have hcp : ¬ cp = id := by simpa using ‹(cp == id) = false›
        have hst := hC.step hlk hat
        rw [if_neg hcp] at hst
        refine ⟨⟨_, cnt2, ss, hrg2.alloc _, by omega, hrow2.alloc _, hnn, hst, (hnx.grown hg2 hnx.size (fun j hj => by cases hj; exact hrl)).alloc (by omega) _⟩, by rw [(hrg2.alloc _).left_eq, hrg.left_eq]; exact hlt⟩

end Go.Proofs.YtgbkllbaojkfmaaGreatDoor
