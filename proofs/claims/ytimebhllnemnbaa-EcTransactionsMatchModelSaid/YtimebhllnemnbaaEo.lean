/-
  The arguments of a statement, opened for the frame; a statement out of a contract.
-/
import Derived.Test.YtimebhllnemnbaaEa
import Derived.WalkKit
import Derived.ProofKit
import Derived.OpenShut
import Derived.ShutString
import Derived.ChangeOld
import Derived.Below
import Derived.Lib.SmallJoins
set_option linter.unusedSimpArgs false
set_option linter.unusedVariables false
namespace Go.Proofs.Ytimebhllnemnbaa
open Go Ab
open Go.ChangeShapes Go.WideShapes Go.ChangeAt Go.RowKit
set_option maxRecDepth 100000

theorem own : ownKnob Try.prog.godebug = none := by kernel_rfl
theorem laidOut : laidOutB Try.prog = true := by kernel_rfl

/-- a contract that hands back 'true' and may write nothing that was there -/
theorem SC.law {P : Program} {f : FuncId} {args : List V} {n : Nat} {L : Hp} {n' : Nat} {L' : Hp} (h : SC P f args n L (.s (.bool true)) n' L') (hro : ∀ i bl, lk L i = some bl → bl.ro = true) {φ : Ph} {xs : List Value} {w : World}
    (h1 : All2 (Vr φ) args xs) (h2 : Ab.Good φ L w) (h3 : ∀ i, n ≤ i → φ i = none) : Calls P f xs.toArray w fun e w' => e = .returned (.bool true) ∧ Below w.heap.size w w' := by
  refine Calls.mono (h φ xs w h1 h2 h3) ?_
  rintro e w' ⟨φ', x, rfl, hv, _, _, st, _⟩
  have hx : x = .bool true := hv
  refine ⟨by rw [hx], st.os, st.tape, st.output, st.size, fun k hk => st.keep k hk ?_⟩
  rintro ⟨i, bl, c, hl, _, _, hr⟩
  rw [hro i bl hl] at hr; cases hr

theorem wf_u8 {n : Int} (h : (Lit.int .u8 n).wf = true) : 0 ≤ n ∧ n ≤ 255 := by
  simp only [Lit.wf, Bool.and_eq_true, decide_eq_true_eq] at h
  exact h
theorem wf_i64 {n : Int} (h : (Lit.int .i64 n).wf = true) : -9223372036854775808 ≤ n ∧ n ≤ 9223372036854775807 := by
  simp only [Lit.wf, Bool.and_eq_true, decide_eq_true_eq] at h
  exact h
theorem wf_u64 {n : Int} (h : (Lit.int .u64 n).wf = true) : 0 ≤ n ∧ n ≤ 18446744073709551615 := by
  simp only [Lit.wf, Bool.and_eq_true, decide_eq_true_eq] at h
  exact h

theorem cells5 : Try.prog.cellsOf 5 = 1 := by kernel_rfl
section
variable {H : Type} {enc : TypeId × Value → H} {w : World} {base : Nat} {spare : Nat → Bool} {held : Bool}
theorem open_u64 {r : Reach} {b0 : Nat} {v : Value} {d : DataW H} {p : List MemPlace} (hv : Value.okWide Try.prog w r b0 22 v) (h : DataW.Trod enc Try.prog w base spare held 22 v d p) :
    ∃ n : Nat, v = .int .u64 ((n : Nat) : Int) ∧ n < 2 ^ 64 := by
  obtain ⟨n, rfl, _, _, hw⟩ := open_int Try.underlying22 hv h
  have := wf_u64 hw
  exact ⟨n.toNat, by rw [show ((n.toNat : Nat) : Int) = n by omega], by omega⟩
theorem open_u8 {r : Reach} {b0 : Nat} {v : Value} {d : DataW H} {p : List MemPlace} (hv : Value.okWide Try.prog w r b0 5 v) (h : DataW.Trod enc Try.prog w base spare held 5 v d p) :
    ∃ n : Nat, v = .int .u8 ((n : Nat) : Int) ∧ n < 256 := by
  obtain ⟨n, rfl, _, _, hw⟩ := open_int Try.underlying5 hv h
  have := wf_u8 hw
  exact ⟨n.toNat, by rw [show ((n.toNat : Nat) : Int) = n by omega], by omega⟩
end

/-- a list of bytes that came in: what the frame is told of it -/
inductive BsIn (W : World) (v : Value) : Prop
  | nil (h : v = .slice none 0 0)
  | emp (a : Addr) (h : v = .slice (some a) 0 0)
  | blk (b : Nat) (ty : TypeId) (C : List S) (g : Nat → Nat) (o m cap : Nat) (h : v = .slice (some ⟨b, o, none⟩) m cap) (hm : m ≤ cap) (hg : ∀ i, g i < 256) (hC : ∀ i, i < m → C[o + i]? = some (.int .u8 ((g i : Nat) : Int))) (ho : o + m ≤ C.length)
      (hat : ∀ φ : Ph, BlAt φ W (b, 0) { cells := C, ty, more := true, ro := true, sym := true, flat := true })

theorem junks {φ : Ph} : ∀ (xs : List Value), All2 (Sr φ) (List.replicate xs.length .junk) xs
  | [] => trivial
  | _ :: xs => ⟨trivial, junks xs⟩

theorem lits_nat {zs : List Int} (h : ∀ n ∈ zs, (Lit.int .u8 n).wf = true) (i : Nat) : (zs.getD i 0).toNat < 256 ∧ ((zs.getD i 0).toNat : Int) = zs.getD i 0 := by
  by_cases hi : i < zs.length
  · have := wf_u8 (h (zs.getD i 0) (by rw [List.getD_eq_getElem?_getD, List.getElem?_eq_getElem hi]; simp))
    omega
  · rw [List.getD_eq_getElem?_getD, List.getElem?_eq_none (by omega)]; simp

theorem open_bs {H : Type} {enc : TypeId × Value → H} {W : World} {r : Reach} {b0 base : Nat} {held : Bool} {v : Value} {d : DataW H} {p : List MemPlace} (hv : Value.okWide Try.prog W r b0 29 v) (h : DataW.Trod enc Try.prog W base (fun _ => true) held 29 v d p) : BsIn W v := by
  obtain ⟨a0, len0, cap0, rfl⟩ := okWide_slice Try.underlying29 hv
  obtain ⟨fuel, hf⟩ := h
  rcases open_ints Try.underlying29 Try.underlying5 cells5 hf with ⟨hcs, _⟩ | ⟨x, l, c, zs, hcs, _, hl, hm, hz, _, hcell, hwz⟩
  · simp [Value.cells] at hcs
    obtain ⟨rfl, rfl, rfl⟩ := hcs
    exact .nil rfl
  · simp [Value.cells] at hcs
    obtain ⟨rfl, rfl, rfl⟩ := hcs
    simp only [if_true] at hz
    by_cases h0 : cap0 = 0
    · subst h0
      obtain rfl : len0 = 0 := by omega
      exact .emp x rfl
    · obtain ⟨b, off, spot⟩ := x
      have hspot : spot = none := by simpa [Addr.add] using World.cell?_spot (hcell 0 (by omega))
      subst hspot
      have hcell' : ∀ i, i < cap0 → W.cell? ⟨b, off + i, none⟩ = some (.int .u8 (zs.getD i 0)) := fun i hi => by
        have := hcell i (by omega)
        rwa [addr_add] at this
      have hblock : ∃ arr ty fr, W.heap[b]? = some (.cells arr ty fr) := by
        have := hcell' 0 (by omega)
        unfold World.cell? at this
        split at this
        · rename_i arr ty fr hb; exact ⟨arr, ty, fr, hb⟩
        · cases this
      obtain ⟨arr, ty, fr, hb⟩ := hblock
      have harr : ∀ i, i < cap0 → arr.toList[off + i]? = some (.int .u8 (zs.getD i 0)) := fun i hi => by
        have := hcell' i hi
        simp only [World.cell?, hb] at this
        simpa using this
      have hlen : off + cap0 ≤ arr.toList.length := by
        have := harr (cap0 - 1) (by omega)
        rcases Nat.lt_or_ge (off + (cap0 - 1)) arr.toList.length with h | h
        · omega
        · rw [List.getElem?_eq_none h] at this; cases this
      refine .blk b ty (List.replicate off .junk ++ (List.range cap0).map fun i => .int .u8 (((zs.getD i 0).toNat : Nat) : Int)) (fun i => (zs.getD i 0).toNat) off len0 cap0 rfl hl (fun i => (lits_nat hwz i).1) ?_ ?_ ?_
      · intro i hi
        rw [List.getElem?_append_right (by simp), List.length_replicate, show off + i - off = i by omega, List.getElem?_map, List.getElem?_range (by omega)]
        rfl
      · simp; omega
      · intro φ
        refine ⟨[], arr.toList.take (off + cap0), arr.toList.drop (off + cap0), fr, by rw [List.take_append_drop]; exact hb, rfl, ?_, (fun e => by cases e), (fun e => by cases e), (fun _ _ e => by cases e)⟩
        have e1 : arr.toList.take (off + cap0) = arr.toList.take off ++ (arr.toList.drop off).take cap0 := by rw [List.take_add]
        rw [e1]
        refine All2.append ?_ ?_
        · have := junks (φ := Bl.ph { cells := List.replicate off .junk ++ (List.range cap0).map fun i => .int .u8 (((zs.getD i 0).toNat : Nat) : Int), ty, more := true, ro := true, sym := true, flat := true } φ) (arr.toList.take off)
          rwa [List.length_take, Nat.min_eq_left (by omega)] at this
        · refine All2.of_get (by rw [List.length_take, List.length_drop, List.length_map, List.length_range]; omega) fun i s y hs hy => ?_
          rw [List.getElem?_map] at hs
          rw [List.getElem?_take] at hy
          split at hy
          · rename_i hi
            rw [List.getElem?_range hi] at hs
            rw [List.getElem?_drop, harr i hi] at hy
            cases hs; cases hy
            show Value.int .u8 (zs.getD i 0) = Value.int .u8 (((zs.getD i 0).toNat : Nat) : Int)
            rw [(lits_nat hwz i).2]
          · cases hy

theorem no_good (W : World) : Ab.Good (fun _ => none) [] W := ⟨fun i bl h => by simp [lk] at h, fun i j bl bl' c c' h => by simp [lk] at h⟩
theorem no_ro : ∀ i bl, lk ([] : Hp) i = some bl → bl.ro = true := fun i bl h => by simp [lk] at h

end Go.Proofs.Ytimebhllnemnbaa
