/-
  A list of operations that came in, opened for the frame.
-/
import Derived.Test.YtimebhllnemnbaaEo
import Derived.Deep.Slices
import Derived.ChangeSame
set_option linter.unusedSimpArgs false
set_option linter.unusedVariables false
namespace Go.Proofs.Ytimebhllnemnbaa
open Go Ab
open Go.ChangeShapes Go.WideShapes Go.ChangeAt Go.RowKit
set_option maxRecDepth 100000

structure OpV where
  k : Int
  v : Nat
  r : Nat
  p : Nat
instance : Inhabited OpV := ⟨⟨0, 0, 0, 0⟩⟩
structure OpV.ok (x : OpV) : Prop where
  k1 : -9223372036854775808 ≤ x.k
  k2 : x.k ≤ 9223372036854775807
  v : x.v < 256
  r : x.r < 256
  p : x.p < 2 ^ 64
def OpV.c (x : OpV) : List S := [.int .i64 x.k, .int .u8 ((x.v : Nat) : Int), .int .u8 ((x.r : Nat) : Int), .int .u64 ((x.p : Nat) : Int)]
def mkO (f : Nat → OpV) : Nat → Nat → List S
  | _, 0 => []
  | i, n + 1 => (f i).c ++ mkO f (i + 1) n
theorem mkO_len (f : Nat → OpV) : ∀ n i, (mkO f i n).length = n * 4
  | 0, _ => by simp [mkO]
  | n + 1, i => by simp only [mkO, List.length_append, mkO_len f n (i + 1), OpV.c, List.length_cons, List.length_nil]; omega
theorem mkO_at (f : Nat → OpV) : ∀ n i j, j < n → ((mkO f i n).drop (j * 4)).take 4 = (f (i + j)).c
  | n + 1, i, 0, _ => by
    simp only [mkO, Nat.zero_mul, List.drop_zero, Nat.add_zero]
    rw [List.take_append_of_le_length (by simp [OpV.c])]; rfl
  | n + 1, i, j + 1, h => by
    simp only [mkO]
    rw [show (j + 1) * 4 = (f i).c.length + j * 4 by simp only [OpV.c, List.length_cons, List.length_nil]; omega, List.drop_append, List.drop_eq_nil_of_le (by omega), List.nil_append, Nat.add_sub_cancel_left, mkO_at f n (i + 1) j (by omega), show i + 1 + j = i + (j + 1) by omega]
def bOp (ty : TypeId) (f : Nat → OpV) (m : Nat) : Bl := { cells := mkO f 0 m, ty, more := true, ro := true, sym := true, flat := true }
theorem op_ld (ty : TypeId) (f : Nat → OpV) (m : Nat) {j : Nat} (h : j < m) : ldAt true 4 (bOp ty f m) (plus 0 (times j 4)) = some (.agg (f j).c) := by
  rw [plus_eq, times_eq, Nat.zero_add]
  simp only [ldAt, bOp]
  rw [mkO_len]
  have : Nat.ble (j * 4 + 4) (m * 4) = true := by rw [Nat.ble_eq]; omega
  rw [this]
  simp only [mkO_at f m 0 j h, Nat.zero_add]

/-- a list of operations that came in: what the frame is told of it -/
inductive OpsIn (W : World) (v : Value) : Prop
  | nil (h : v = .slice none 0 0)
  | emp (a : Addr) (h : v = .slice (some a) 0 0)
  | blk (b : Nat) (ty : TypeId) (f : Nat → OpV) (o m cap : Nat) (h : v = .slice (some ⟨b, o, none⟩) m cap) (hm : m ≤ cap) (hf : ∀ i, i < m → (f i).ok) (hat : ∀ φ : Ph, BlAt φ W (b, o) (bOp ty f m))

theorem cells45 : Try.prog.cellsOf 45 = 4 := by kernel_rfl
theorem cells3 : Try.prog.cellsOf 3 = 1 := by kernel_rfl
theorem cells22 : Try.prog.cellsOf 22 = 1 := by kernel_rfl

theorem mkO_all {φ : Ph} (f : Nat → OpV) (g : Nat → List Value) : ∀ n i, (∀ j, i ≤ j → j < i + n → All2 (Sr φ) (f j).c (g j)) → All2 (Sr φ) (mkO f i n) ((List.range n).flatMap fun j => g (i + j))
  | 0, i, _ => by simp [mkO, All2]
  | n + 1, i, h => by
    rw [List.range_succ_eq_map, List.flatMap_cons, List.flatMap_map]
    simp only [mkO]
    refine All2.append (h i (Nat.le_refl _) (by omega)) ?_
    have := mkO_all f g n (i + 1) fun j h1 h2 => h j (by omega) (by omega)
    simpa [Nat.add_assoc, Nat.add_comm 1] using this

theorem flat4 (arr : List Value) (o : Nat) (g : Nat → List Value) : ∀ n, (∀ j, j < n → ((arr.drop (o + j * 4)).take 4 = g j)) → (∀ j, j < n → (g j).length = 4) → (arr.drop o).take (n * 4) = (List.range n).flatMap g
  | 0, _, _ => by simp
  | n + 1, h, hl => by
    rw [List.range_succ, List.flatMap_append, ← flat4 arr o g n (fun j hj => h j (by omega)) (fun j hj => hl j (by omega))]
    rw [Nat.add_mul, Nat.one_mul, List.take_add, List.drop_drop, h n (by omega)]
    simp

theorem open_ops {H : Type} {enc : TypeId × Value → H} {W : World} {r : Reach} {b0 base : Nat} {held : Bool} {v : Value} {d : DataW H} {p : List MemPlace} (hv : Value.okWide Try.prog W r b0 41 v) (h : DataW.Trod enc Try.prog W base (fun _ => true) held 41 v d p) : OpsIn W v := by
  obtain ⟨a0, len0, cap0, rfl⟩ := okWide_slice Try.underlying41 hv
  obtain ⟨fuel, hf⟩ := h
  rcases Go.Deep.open_slice Try.underlying41 hf with ⟨hcs, _⟩ | ⟨a, len, cap, m, n, D, Pl, hcs, _, hl, _, hm, _, hx⟩
  · simp [Value.cells] at hcs
    obtain ⟨rfl, rfl, rfl⟩ := hcs
    exact .nil rfl
  · simp [Value.cells] at hcs
    obtain ⟨rfl, rfl, rfl⟩ := hcs
    simp only [if_true] at hm
    subst hm
    by_cases h0 : m = 0
    · subst h0
      obtain rfl : len0 = 0 := by omega
      exact .emp a rfl
    rw [cells45] at hx
    have each : ∀ i, i < m → ∃ q : OpV, q.ok ∧ ∀ j, j < 4 → W.cell? (a.add (i * 4 + j)) = ([Value.int .i64 q.k, .int .u8 ((q.v : Nat) : Int), .int .u8 ((q.r : Nat) : Int), .int .u64 ((q.p : Nat) : Int)])[j]? := by
      intro i hi
      obtain ⟨cs', h1, h2⟩ := hx i hi
      obtain ⟨_, hlen, hcell⟩ := World.cells?_some h1
      obtain ⟨xs, k, hk, hxy, _, hxl, hfld⟩ := DataW.trod_struct Try.underlying45 h2
      match xs, hxl, cs', hlen with
      | [y0, y1, y2, y3], _, [v0, v1, v2, v3], _ =>
        have g0 := hfld 0 _ rfl
        have g1 := hfld 1 _ rfl
        have g2 := hfld 2 _ rfl
        have g3 := hfld 3 _ rfl
        simp [cells3, cells5, cells22] at g0 g1 g2 g3
        obtain ⟨n0, e0, _, w0⟩ := DataW.trod_int Try.underlying3 g0
        obtain ⟨n1, e1, _, w1⟩ := DataW.trod_int Try.underlying5 g1
        obtain ⟨n2, e2, _, w2⟩ := DataW.trod_int Try.underlying5 g2
        obtain ⟨n3, e3, _, w3⟩ := DataW.trod_int Try.underlying22 g3
        simp only [List.cons.injEq, and_true] at e0 e1 e2 e3
        subst e0; subst e1; subst e2; subst e3
        have w0 := wf_i64 w0
        have w1 := wf_u8 w1
        have w2 := wf_u8 w2
        have w3 := wf_u64 w3
        refine ⟨⟨n0, n1.toNat, n2.toNat, n3.toNat⟩, ⟨w0.1, w0.2, by show n1.toNat < 256; omega, by show n2.toNat < 256; omega, by show n3.toNat < 2 ^ 64; omega⟩, fun j hj => ?_⟩
        have hc := hcell j (by simpa using hj)
        rw [Go.Deep.add_add] at hc
        rw [hc]
        have t1 : ((n1.toNat : Nat) : Int) = n1 := by omega
        have t2 : ((n2.toNat : Nat) : Int) = n2 := by omega
        have t3 : ((n3.toNat : Nat) : Int) = n3 := by omega
        simp only [t1, t2, t3]
    obtain ⟨f, hfq⟩ := Go.Deep.choose_lt each
    obtain ⟨b, off, spot⟩ := a
    have hspot : spot = none := by simpa [Addr.add] using World.cell?_spot ((hfq 0 (by omega)).2 0 (by omega))
    subst hspot
    let g : Nat → List Value := fun i => [Value.int .i64 (f i).k, .int .u8 (((f i).v : Nat) : Int), .int .u8 (((f i).r : Nat) : Int), .int .u64 (((f i).p : Nat) : Int)]
    have hcell : ∀ i j, i < m → j < 4 → W.cell? ⟨b, off + (i * 4 + j), none⟩ = (g i)[j]? := fun i j hi hj => by
      have := (hfq i hi).2 j hj
      rwa [addr_add] at this
    have hblock : ∃ arr ty fr, W.heap[b]? = some (.cells arr ty fr) := by
      have := hcell 0 0 (by omega) (by omega)
      unfold World.cell? at this
      split at this
      · rename_i arr ty fr hb; exact ⟨arr, ty, fr, hb⟩
      · cases this
    obtain ⟨arr, ty, fr, hb⟩ := hblock
    have harr : ∀ i j, i < m → j < 4 → arr.toList[off + (i * 4 + j)]? = (g i)[j]? := fun i j hi hj => by
      have := hcell i j hi hj
      simp only [World.cell?, hb] at this
      simpa using this
    have hlen : off + m * 4 ≤ arr.toList.length := by
      have := harr (m - 1) 3 (by omega) (by omega)
      rcases Nat.lt_or_ge (off + ((m - 1) * 4 + 3)) arr.toList.length with h | h
      · omega
      · rw [List.getElem?_eq_none h] at this; cases this
    have hrow : ∀ j, j < m → (arr.toList.drop (off + j * 4)).take 4 = g j := by
      intro j hj
      apply List.ext_getElem?
      intro i
      rw [List.getElem?_take]
      split
      · rename_i hi
        rw [List.getElem?_drop, show off + j * 4 + i = off + (j * 4 + i) by omega]; exact harr j i hj hi
      · rename_i hi
        rw [List.getElem?_eq_none]; simp only [g, List.length_cons, List.length_nil]; omega
    refine .blk b ty f off len0 m rfl hl (fun i hi => (hfq i (by omega)).1) fun φ => ?_
    have hflat := flat4 arr.toList off g len0 (fun j hj => hrow j (by omega)) (fun j _ => rfl)
    refine ⟨arr.toList.take off, (arr.toList.drop off).take (len0 * 4), (arr.toList.drop off).drop (len0 * 4), fr, ?_, by rw [List.length_take]; show min off _ = off; omega, ?_, (fun e => by cases e), (fun e => by cases e), (fun _ _ e => by cases e)⟩
    · rw [List.take_append_drop, List.take_append_drop]; exact hb
    · rw [hflat]
      have := mkO_all (φ := (bOp ty f len0).ph φ) f g len0 0 fun j _ _ => ⟨rfl, rfl, rfl, rfl, trivial⟩
      simp only [Nat.zero_add] at this
      exact this

end Go.Proofs.Ytimebhllnemnbaa
