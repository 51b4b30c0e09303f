/-
  The arguments of a statement, opened for the frame; a statement out of a contract.
-/
import Derived.Test.YtgnidbokllmhhaaLa
import Derived.Test.YtgnidbokllmhhaaAb12
import Derived.WalkKit
import Derived.ProofKit
import Derived.OpenShut
import Derived.ShutString
import Derived.ChangeOld
import Derived.Below
import Derived.Lib.SmallJoins
set_option linter.unusedSimpArgs false
set_option linter.unusedVariables false
namespace Go.Proofs.Ytgnidbokllmhhaa
open Go Ab
open Go.ChangeShapes Go.WideShapes Go.ChangeAt Go.RowKit
set_option maxRecDepth 100000

theorem own : ownKnob Try.prog.godebug = none := by kernel_rfl
theorem laidOut : laidOutB Try.prog = true := by kernel_rfl

/-- a contract that hands back 'true' and may write nothing that was there -/
theorem SC.law {P : Program} {f : FuncId} {args : List V} {n : Nat} {L : Hp} {n' : Nat} {L' : Hp} (h : SC P f args n L (.s (.bool true)) n' L') (hro : ∀ i bl, lk L i = some bl → bl.ro = true) {φ : Ph} {xs : List Value} {w : World}
    (h1 : All2 (Vr φ) args xs) (h2 : Ab.Good φ L w) (h3 : ∀ i, n ≤ i → φ i = none) : Calls P f xs.toArray w fun e w' => e = .returned (.bool true) ∧ Below w.heap.size w w' := by
  refine Calls.mono (h φ xs w h1 h2 h3) ?_
  rintro e w' ⟨φ', x, rfl, hv, _, _, st, _⟩
  have hx : x = .bool true := hv
  refine ⟨by rw [hx], st.os, st.tape, st.output, st.size, fun k hk => st.keep k hk ?_⟩
  rintro ⟨i, bl, hl, _, hr⟩
  rw [hro i bl hl] at hr; cases hr

theorem wf_i64 {n : Int} (h : (Lit.int .i64 n).wf = true) : -9223372036854775808 ≤ n ∧ n ≤ 9223372036854775807 := by
  simp only [Lit.wf, Bool.and_eq_true, decide_eq_true_eq] at h
  exact h
theorem wf_u64 {n : Int} (h : (Lit.int .u64 n).wf = true) : 0 ≤ n ∧ n ≤ 18446744073709551615 := by
  simp only [Lit.wf, Bool.and_eq_true, decide_eq_true_eq] at h
  exact h

section
variable {H : Type} {enc : TypeId × Value → H} {w : World} {base : Nat} {spare : Nat → Bool} {held : Bool}

theorem list9 {α : Type} {l : List α} (h : l.length = 9) : ∃ a b c d e f g i j, l = [a, b, c, d, e, f, g, i, j] := by
  match l, h with
  | [a, b, c, d, e, f, g, i, j], _ => exact ⟨a, b, c, d, e, f, g, i, j, rfl⟩
theorem cells26 : Try.prog.cellsOf 26 = 9 := by kernel_rfl
theorem cells24 : Try.prog.cellsOf 24 = 3 := by kernel_rfl
theorem cells3 : Try.prog.cellsOf 3 = 1 := by kernel_rfl
theorem cells22 : Try.prog.cellsOf 22 = 1 := by kernel_rfl

theorem take_one {l : List Value} {k : Nat} {c : Value} (hc : l[k]? = some c) : (l.drop k).take 1 = [c] := by
  have hk : k < l.length := by
    rcases Nat.lt_or_ge k l.length with h | h
    · exact h
    · simp [List.getElem?_eq_none h] at hc
  rw [List.drop_eq_getElem_cons hk]
  rw [List.getElem?_eq_getElem hk] at hc
  cases hc
  rfl
theorem one_i {l : List Value} {k fuel : Nat} {x : Option (DataW H × List MemPlace)} (h : DataW.trod enc Try.prog w base spare held fuel 3 ((l.drop k).take (Try.prog.cellsOf 3)) = x) (hx : x.isSome = true) {c : Value} (hc : l[k]? = some c) : ∃ n, c = .int .i64 n ∧ -9223372036854775808 ≤ n ∧ n ≤ 9223372036854775807 := by
  cases x with
  | none => cases hx
  | some x =>
    obtain ⟨n, e, _, hwf⟩ := DataW.trod_int Try.underlying3 h
    rw [cells3, take_one hc] at e
    simp only [List.cons.injEq, and_true] at e
    exact ⟨n, e, wf_i64 hwf⟩
theorem one_u {l : List Value} {k fuel : Nat} {x : Option (DataW H × List MemPlace)} (h : DataW.trod enc Try.prog w base spare held fuel 22 ((l.drop k).take (Try.prog.cellsOf 22)) = x) (hx : x.isSome = true) {c : Value} (hc : l[k]? = some c) : ∃ n, c = .int .u64 n ∧ 0 ≤ n ∧ n ≤ 18446744073709551615 := by
  cases x with
  | none => cases hx
  | some x =>
    obtain ⟨n, e, _, hwf⟩ := DataW.trod_int Try.underlying22 h
    rw [cells22, take_one hc] at e
    simp only [List.cons.injEq, and_true] at e
    exact ⟨n, e, wf_u64 hwf⟩

/-- a field specification that came in -/
theorem open_fs {r : Reach} {b0 : Nat} {v : Value} {d : DataW H} {p : List MemPlace} (hv : Value.okWide Try.prog w r b0 26 v) (h : DataW.Trod enc Try.prog w base spare held 26 v d p) :
    ∃ f : Fsp, f.ok ∧ ∀ φ : Ph, Vr φ f.v v := by
  obtain ⟨cs, rfl, hsz⟩ := okWide_struct Try.underlying26 hv
  obtain ⟨l⟩ := cs
  obtain ⟨c0, c1, c2, c3, c4, c5, c6, c7, c8, rfl⟩ := list9 (show l.length = 9 from hsz.trans cells26)
  obtain ⟨fuel, hf⟩ := h
  obtain ⟨xs, n, _, _, _, hlen, hall⟩ := DataW.trod_struct Try.underlying26 hf
  have hlen : xs.length = 7 := hlen
  have g0 : DataW.trod enc Try.prog w base spare held n 24 (([c0, c1, c2, c3, c4, c5, c6, c7, c8].drop 0).take (Try.prog.cellsOf 24)) = xs[0]? := hall 0 _ rfl
  have g1 : DataW.trod enc Try.prog w base spare held n 3 (([c0, c1, c2, c3, c4, c5, c6, c7, c8].drop 3).take (Try.prog.cellsOf 3)) = xs[1]? := hall 1 _ rfl
  have g2 : DataW.trod enc Try.prog w base spare held n 3 (([c0, c1, c2, c3, c4, c5, c6, c7, c8].drop 4).take (Try.prog.cellsOf 3)) = xs[2]? := hall 2 _ rfl
  have g3 : DataW.trod enc Try.prog w base spare held n 3 (([c0, c1, c2, c3, c4, c5, c6, c7, c8].drop 5).take (Try.prog.cellsOf 3)) = xs[3]? := hall 3 _ rfl
  have g4 : DataW.trod enc Try.prog w base spare held n 3 (([c0, c1, c2, c3, c4, c5, c6, c7, c8].drop 6).take (Try.prog.cellsOf 3)) = xs[4]? := hall 4 _ rfl
  have g5 : DataW.trod enc Try.prog w base spare held n 3 (([c0, c1, c2, c3, c4, c5, c6, c7, c8].drop 7).take (Try.prog.cellsOf 3)) = xs[5]? := hall 5 _ rfl
  have g6 : DataW.trod enc Try.prog w base spare held n 3 (([c0, c1, c2, c3, c4, c5, c6, c7, c8].drop 8).take (Try.prog.cellsOf 3)) = xs[6]? := hall 6 _ rfl
  have s : ∀ i, i < 7 → (xs[i]?).isSome = true := fun i hi => by rw [List.getElem?_eq_getElem (by omega)]; rfl
  obtain ⟨bit, rfl, hbit⟩ := one_i (k := 3) g1 (s 1 (by omega)) (c := c3) rfl
  obtain ⟨ln, rfl, hln⟩ := one_i (k := 4) g2 (s 2 (by omega)) (c := c4) rfl
  obtain ⟨wd, rfl, hwd⟩ := one_i (k := 5) g3 (s 3 (by omega)) (c := c5) rfl
  obtain ⟨up, rfl, hup⟩ := one_i (k := 6) g4 (s 4 (by omega)) (c := c6) rfl
  obtain ⟨ix, rfl, hix⟩ := one_i (k := 7) g5 (s 5 (by omega)) (c := c7) rfl
  obtain ⟨da, rfl, hda⟩ := one_i (k := 8) g6 (s 6 (by omega)) (c := c8) rfl
  have s0 := s 0 (by omega)
  cases hx : xs[0]? with
  | none => rw [hx] at s0; cases s0
  | some x0 =>
    rw [hx] at g0
    obtain ⟨ys, n', _, _, _, hlen', hall'⟩ := DataW.trod_struct Try.underlying24 g0
    have hlen' : ys.length = 3 := hlen'
    have s' : ∀ i, i < 3 → (ys[i]?).isSome = true := fun i hi => by rw [List.getElem?_eq_getElem (by omega)]; rfl
    have k0 : DataW.trod enc Try.prog w base spare held n' 3 (((([c0, c1, c2, .int .i64 bit, .int .i64 ln, .int .i64 wd, .int .i64 up, .int .i64 ix, .int .i64 da].drop 0).take (Try.prog.cellsOf 24)).drop 0).take (Try.prog.cellsOf 3)) = ys[0]? := hall' 0 _ rfl
    have k1 : DataW.trod enc Try.prog w base spare held n' 22 (((([c0, c1, c2, .int .i64 bit, .int .i64 ln, .int .i64 wd, .int .i64 up, .int .i64 ix, .int .i64 da].drop 0).take (Try.prog.cellsOf 24)).drop 1).take (Try.prog.cellsOf 22)) = ys[1]? := hall' 1 _ rfl
    have k2 : DataW.trod enc Try.prog w base spare held n' 22 (((([c0, c1, c2, .int .i64 bit, .int .i64 ln, .int .i64 wd, .int .i64 up, .int .i64 ix, .int .i64 da].drop 0).take (Try.prog.cellsOf 24)).drop 2).take (Try.prog.cellsOf 22)) = ys[2]? := hall' 2 _ rfl
    obtain ⟨sp, rfl, hsp⟩ := one_i (k := 0) k0 (s' 0 (by omega)) (c := c0) (by rw [cells24]; rfl)
    obtain ⟨ba, rfl, hba⟩ := one_u (k := 1) k1 (s' 1 (by omega)) (c := c1) (by rw [cells24]; rfl)
    obtain ⟨rl, rfl, hrl⟩ := one_u (k := 2) k2 (s' 2 (by omega)) (c := c2) (by rw [cells24]; rfl)
    exact ⟨⟨sp, ba, rl, bit, ln, wd, up, ix, da⟩, ⟨hsp, hba, hrl, hbit, hln, hwd, hup, hix, hda⟩, fun φ => ⟨_, rfl, rfl, rfl, rfl, rfl, rfl, rfl, rfl, rfl, rfl, trivial⟩⟩
end

/-- a list of numbers that came in: what the frame is told of it -/
inductive UsIn (W : World) (v : Value) : Prop
  | nil (h : v = .slice none 0 0)
  | emp (a : Addr) (h : v = .slice (some a) 0 0)
  | blk (b : Nat) (ty : TypeId) (C : List S) (g : Nat → Nat) (o m cap : Nat) (h : v = .slice (some ⟨b, o, none⟩) m cap) (hm : m ≤ cap) (hg : ∀ i, g i < 2 ^ 64) (hC : ∀ i, i < m → C[o + i]? = some (.int .u64 ((g i : Nat) : Int))) (ho : o + m ≤ C.length)
      (hat : ∀ φ : Ph, BlAt φ W b { cells := C, ty, more := true, ro := true, sym := true, flat := true })

theorem junks {φ : Ph} : ∀ (xs : List Value), All2 (Sr φ) (List.replicate xs.length .junk) xs
  | [] => trivial
  | _ :: xs => ⟨trivial, junks xs⟩

theorem lits_nat {zs : List Int} (h : ∀ n ∈ zs, (Lit.int .u64 n).wf = true) (i : Nat) : (zs.getD i 0).toNat < 2 ^ 64 ∧ ((zs.getD i 0).toNat : Int) = zs.getD i 0 := by
  by_cases hi : i < zs.length
  · have := wf_u64 (h (zs.getD i 0) (by rw [List.getD_eq_getElem?_getD, List.getElem?_eq_getElem hi]; simp))
    omega
  · rw [List.getD_eq_getElem?_getD, List.getElem?_eq_none (by omega)]; simp

theorem open_us {H : Type} {enc : TypeId × Value → H} {W : World} {r : Reach} {b0 base : Nat} {held : Bool} {v : Value} {d : DataW H} {p : List MemPlace} (hv : Value.okWide Try.prog W r b0 27 v) (h : DataW.Trod enc Try.prog W base (fun _ => true) held 27 v d p) : UsIn W v := by
  obtain ⟨a0, len0, cap0, rfl⟩ := okWide_slice Try.underlying27 hv
  obtain ⟨fuel, hf⟩ := h
  rcases open_ints Try.underlying27 Try.underlying22 cells22 hf with ⟨hcs, _⟩ | ⟨x, l, c, zs, hcs, _, hl, hm, hz, _, hcell, hwz⟩
  · simp [Value.cells] at hcs
    obtain ⟨rfl, rfl, rfl⟩ := hcs
    exact .nil rfl
  · simp [Value.cells] at hcs
    obtain ⟨rfl, rfl, rfl⟩ := hcs
    simp only [if_true] at hz
    by_cases h0 : cap0 = 0
    · subst h0
      obtain rfl : len0 = 0 := by omega
      exact .emp x rfl
    · obtain ⟨b, off, spot⟩ := x
      have hspot : spot = none := by simpa [Addr.add] using World.cell?_spot (hcell 0 (by omega))
      subst hspot
      have hcell' : ∀ i, i < cap0 → W.cell? ⟨b, off + i, none⟩ = some (.int .u64 (zs.getD i 0)) := fun i hi => by
        have := hcell i (by omega)
        rwa [addr_add] at this
      have hblock : ∃ arr ty fr, W.heap[b]? = some (.cells arr ty fr) := by
        have := hcell' 0 (by omega)
        unfold World.cell? at this
        split at this
        · rename_i arr ty fr hb; exact ⟨arr, ty, fr, hb⟩
        · cases this
      obtain ⟨arr, ty, fr, hb⟩ := hblock
      have harr : ∀ i, i < cap0 → arr.toList[off + i]? = some (.int .u64 (zs.getD i 0)) := fun i hi => by
        have := hcell' i hi
        simp only [World.cell?, hb] at this
        simpa using this
      have hlen : off + cap0 ≤ arr.toList.length := by
        have := harr (cap0 - 1) (by omega)
        rcases Nat.lt_or_ge (off + (cap0 - 1)) arr.toList.length with h | h
        · omega
        · rw [List.getElem?_eq_none h] at this; cases this
      refine .blk b ty (List.replicate off .junk ++ (List.range cap0).map fun i => .int .u64 (((zs.getD i 0).toNat : Nat) : Int)) (fun i => (zs.getD i 0).toNat) off len0 cap0 rfl hl (fun i => (lits_nat hwz i).1) ?_ ?_ ?_
      · intro i hi
        rw [List.getElem?_append_right (by simp), List.length_replicate, show off + i - off = i by omega, List.getElem?_map, List.getElem?_range (by omega)]
        rfl
      · simp; omega
      · intro φ
        refine ⟨arr.toList.take (off + cap0), arr.toList.drop (off + cap0), fr, by rw [List.take_append_drop]; exact hb, ?_, (fun e => by cases e), (fun e => by cases e), (fun _ _ e => by cases e)⟩
        have e1 : arr.toList.take (off + cap0) = arr.toList.take off ++ (arr.toList.drop off).take cap0 := by rw [List.take_add]
        rw [e1]
        refine All2.append ?_ ?_
        · have := junks (φ := Bl.ph { cells := List.replicate off .junk ++ (List.range cap0).map fun i => .int .u64 (((zs.getD i 0).toNat : Nat) : Int), ty, more := true, ro := true, sym := true, flat := true } φ) (arr.toList.take off)
          rwa [List.length_take, Nat.min_eq_left (by omega)] at this
        · refine All2.of_get (by rw [List.length_take, List.length_drop, List.length_map, List.length_range]; omega) fun i s y hs hy => ?_
          rw [List.getElem?_map] at hs
          rw [List.getElem?_take] at hy
          split at hy
          · rename_i hi
            rw [List.getElem?_range hi] at hs
            rw [List.getElem?_drop, harr i hi] at hy
            cases hs; cases hy
            show Value.int .u64 (zs.getD i 0) = Value.int .u64 (((zs.getD i 0).toNat : Nat) : Int)
            rw [(lits_nat hwz i).2]
          · cases hy

end Go.Proofs.Ytgnidbokllmhhaa
