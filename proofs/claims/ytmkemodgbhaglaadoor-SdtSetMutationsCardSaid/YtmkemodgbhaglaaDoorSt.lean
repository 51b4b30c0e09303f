/-
  A list of tables that came in, opened for the frame.
-/
import Derived.Test.YtmkemodgbhaglaaDoorSr
import Derived.Test.YtmkemodgbhaglaaDoorSo
set_option linter.unusedSimpArgs false
set_option linter.unusedVariables false
namespace Go.Proofs.YtmkemodgbhaglaaDoor
open Go Ab
open Go.ChangeShapes Go.WideShapes Go.ChangeAt Go.RowKit
set_option maxRecDepth 100000

/-- a list of tables that came in: what the frame is told of it -/
inductive TabsIn (W : World) (v : Value) : Prop
  | nil (h : v = .slice none 0 0)
  | emp (a : Addr) (h : v = .slice (some a) 0 0)
  | blk (b : Nat) (ty : TypeId) (l : List Tb) (o cap : Nat) (h : v = .slice (some ⟨b, o, none⟩) l.length cap) (hm : l.length ≤ cap) (hf : ∀ i, i < l.length → (l.getD i tb0).fit) (hat : ∀ φ : Ph, BlAt φ W (b, o) (bI ty l))

theorem cells3 : Tryd.prog.cellsOf 3 = 1 := by kernel_rfl
theorem cells9 : Tryd.prog.cellsOf 9 = 1 := by kernel_rfl
instance : Inhabited Tb := ⟨tb0⟩
def gT (t : Tb) : List Value := [.string ⟨t.sg.toArray⟩, .int .i64 t.rv, .string ⟨t.om.toArray⟩, .string ⟨t.bd.toArray⟩]
theorem cellsT_all {φ : Ph} : ∀ l : List Tb, All2 (Sr φ) (cellsT l) (l.flatMap gT)
  | [] => trivial
  | t :: r => by
    rw [List.flatMap_cons]
    simp only [cellsT]
    exact All2.append ⟨rfl, rfl, rfl, rfl, trivial⟩ (cellsT_all r)
theorem flat4 (arr : List Value) (o : Nat) (g : Nat → List Value) : ∀ n, (∀ j, j < n → ((arr.drop (o + j * 4)).take 4 = g j)) → (∀ j, j < n → (g j).length = 4) → (arr.drop o).take (n * 4) = (List.range n).flatMap g
  | 0, _, _ => by simp
  | n + 1, h, hl => by
    rw [List.range_succ, List.flatMap_append, ← flat4 arr o g n (fun j hj => h j (by omega)) (fun j hj => hl j (by omega))]
    rw [Nat.add_mul, Nat.one_mul, List.take_add, List.drop_drop, h n (by omega)]
    simp

theorem open_tabs {H : Type} {enc : TypeId × Value → H} {W : World} {r : Reach} {b0 base : Nat} {held : Bool} {v : Value} {d : DataW H} {p : List MemPlace} (hv : Value.okWide Tryd.prog W r b0 39 v) (h : DataW.Trod enc Tryd.prog W base (fun _ => true) held 39 v d p) : TabsIn W v := by
  obtain ⟨a0, len0, cap0, rfl⟩ := okWide_slice Tryd.underlying39 hv
  obtain ⟨fuel, hf⟩ := h
  rcases Go.Deep.open_slice Tryd.underlying39 hf with ⟨hcs, _⟩ | ⟨a, len, cap, m, n, D, Pl, hcs, _, hl, _, hm, _, hx⟩
  · simp [Value.cells] at hcs
    obtain ⟨rfl, rfl, rfl⟩ := hcs
    exact .nil rfl
  · simp [Value.cells] at hcs
    obtain ⟨rfl, rfl, rfl⟩ := hcs
    simp only [if_true] at hm
    subst hm
    by_cases h0 : m = 0
    · subst h0
      obtain rfl : len0 = 0 := by omega
      exact .emp a rfl
    rw [cells23] at hx
    have each : ∀ i, i < m → ∃ q : Tb, q.fit ∧ ∀ j, j < 4 → W.cell? (a.add (i * 4 + j)) = (gT q)[j]? := by
      intro i hi
      obtain ⟨cs', h1, h2⟩ := hx i hi
      obtain ⟨_, hlen, hcell⟩ := World.cells?_some h1
      obtain ⟨xs, k, hk, hxy, _, hxl, hfld⟩ := DataW.trod_struct Tryd.underlying23 h2
      match xs, hxl, cs', hlen with
      | [y0, y1, y2, y3], _, [v0, v1, v2, v3], _ =>
        have g0 := hfld 0 _ rfl
        have g1 := hfld 1 _ rfl
        have g2 := hfld 2 _ rfl
        have g3 := hfld 3 _ rfl
        simp [cells3, cells9] at g0 g1 g2 g3
        obtain ⟨s0, e0, _, m0⟩ := DataW.trod_string Tryd.underlying9 g0
        obtain ⟨n1, e1, _, w1⟩ := DataW.trod_int Tryd.underlying3 g1
        obtain ⟨s2, e2, _, m2⟩ := DataW.trod_string Tryd.underlying9 g2
        obtain ⟨s3, e3, _, m3⟩ := DataW.trod_string Tryd.underlying9 g3
        simp only [List.cons.injEq, and_true] at e0 e1 e2 e3
        subst e0; subst e1; subst e2; subst e3
        have w1 := wf_i64 w1
        have l0 := max_len m0
        have l2 := max_len m2
        have l3 := max_len m3
        refine ⟨⟨s0.data.toList, n1, s2.data.toList, s3.data.toList⟩, ⟨by show s0.data.toList.length < _; omega, by show s2.data.toList.length < _; omega, by show s3.data.toList.length < _; omega, w1.1, w1.2⟩, fun j hj => ?_⟩
        have hc := hcell j (by simpa using hj)
        rw [Go.Deep.add_add] at hc
        rw [hc]
        simp only [gT]
        try rw [← str_val s0, ← str_val s2, ← str_val s3]
    obtain ⟨f, hfq⟩ := Go.Deep.choose_lt each
    obtain ⟨b, off, spot⟩ := a
    have hspot : spot = none := by simpa [Addr.add] using World.cell?_spot ((hfq 0 (by omega)).2 0 (by omega))
    subst hspot
    let g : Nat → List Value := fun i => gT (f i)
    have hcell : ∀ i j, i < m → j < 4 → W.cell? ⟨b, off + (i * 4 + j), none⟩ = (g i)[j]? := fun i j hi hj => by
      have := (hfq i hi).2 j hj
      rwa [addr_add] at this
    have hblock : ∃ arr ty fr, W.heap[b]? = some (.cells arr ty fr) := by
      have := hcell 0 0 (by omega) (by omega)
      unfold World.cell? at this
      split at this
      · rename_i arr ty fr hb; exact ⟨arr, ty, fr, hb⟩
      · cases this
    obtain ⟨arr, ty, fr, hb⟩ := hblock
    have harr : ∀ i j, i < m → j < 4 → arr.toList[off + (i * 4 + j)]? = (g i)[j]? := fun i j hi hj => by
      have := hcell i j hi hj
      simp only [World.cell?, hb] at this
      simpa using this
    have hlen : off + m * 4 ≤ arr.toList.length := by
      have := harr (m - 1) 3 (by omega) (by omega)
      rcases Nat.lt_or_ge (off + ((m - 1) * 4 + 3)) arr.toList.length with h | h
      · omega
      · rw [List.getElem?_eq_none h] at this; cases this
    have hrow : ∀ j, j < m → (arr.toList.drop (off + j * 4)).take 4 = g j := by
      intro j hj
      apply List.ext_getElem?
      intro i
      rw [List.getElem?_take]
      split
      · rename_i hi
        rw [List.getElem?_drop, show off + j * 4 + i = off + (j * 4 + i) by omega]; exact harr j i hj hi
      · rename_i hi
        rw [List.getElem?_eq_none]; simp only [g, gT, List.length_cons, List.length_nil]; omega
    have hl' : ((List.range len0).map f).length = len0 := by simp
    refine .blk b ty ((List.range len0).map f) off m (by rw [hl']) (by rw [hl']; exact hl) (fun i hi => ?_) fun φ => ?_
    · rw [hl'] at hi
      have : ((List.range len0).map f).getD i tb0 = f i := by
        rw [List.getD_eq_getElem?_getD, List.getElem?_map, List.getElem?_range hi]; rfl
      rw [this]
      exact (hfq i (by omega)).1
    have hflat := flat4 arr.toList off g len0 (fun j hj => hrow j (by omega)) (fun j _ => rfl)
    refine ⟨arr.toList.take off, (arr.toList.drop off).take (len0 * 4), (arr.toList.drop off).drop (len0 * 4), fr, ?_, by rw [List.length_take]; show min off _ = off; omega, ?_, (fun e => by cases e), (fun e => by cases e), (fun _ _ e => by cases e)⟩
    · rw [List.take_append_drop, List.take_append_drop]; exact hb
    · rw [hflat]
      have := cellsT_all (φ := (bI ty ((List.range len0).map f)).ph φ) ((List.range len0).map f)
      rw [List.flatMap_map] at this
      exact this
theorem ro1 {bl0 : Bl} (h0 : bl0.ro = true) : ∀ i bl, lk [(0, some bl0)] i = some bl → bl.ro = true := by
  intro i bl h
  rw [lk_cons] at h
  split at h
  · cases h; exact h0
  · simp [lk] at h
def phO (b o : Nat) : Ph := fun i => if i = 0 then some (b, o) else none
theorem phO_good {W : World} {b o : Nat} {bl0 : Bl} (h0 : bl0.ro = true) (h : BlAt (phO b o) W (b, o) bl0) : Ab.Good (phO b o) [(0, some bl0)] W := by
  refine ⟨fun i bl hi => ?_, fun i j bl bl' c c' hi hj _ _ _ => ?_⟩
  · rw [lk_cons] at hi
    split at hi
    · rename_i e; subst e; cases hi; exact ⟨(b, o), rfl, h⟩
    · simp [lk] at hi
  · exact .inr ⟨ro1 h0 i bl hi, ro1 h0 j bl' hj⟩
theorem phO_none (b o : Nat) : ∀ i, 1 ≤ i → phO b o i = none := fun i hi => by unfold phO; rw [if_neg (by omega)]
theorem sets_walk (W : World) (v : Value) (h1 : TabsIn W v) :
    Calls Tryd.prog 8 #[v] W fun e W' => e = .returned (.bool true) ∧ Below W.heap.size W W' := by
  cases h1 with
  | nil h =>
    subst h
    exact SC.law (xs := [.slice none 0 0]) sets_nil no_ro ⟨⟨rfl, rfl, rfl⟩, trivial⟩ (no_good W) (fun _ _ => rfl)
  | emp a h =>
    subst h
    exact SC.law (xs := [.slice (some a) 0 0]) sets_emp no_ro ⟨⟨a, rfl⟩, trivial⟩ (no_good W) (fun _ _ => rfl)
  | blk bb ty l o cap h hm hf hat =>
    subst h
    by_cases hl : 1 ≤ l.length
    · exact SC.law (xs := [.slice (some ⟨bb, o, none⟩) l.length cap]) (sets_s ty l hf hl) (ro1 rfl) ⟨⟨(bb, o), cap, rfl, by rw [Nat.zero_add], hm, .inl rfl⟩, trivial⟩ (phO_good rfl (hat _)) (phO_none bb o)
    · obtain rfl : l = [] := by cases l with | nil => rfl | cons _ _ => simp at hl
      exact SC.law (xs := [.slice (some ⟨bb, o, none⟩) 0 cap]) (sets_0 ty) (ro1 rfl) ⟨⟨(bb, o), cap, rfl, by rw [Nat.zero_add], hm, .inl rfl⟩, trivial⟩ (phO_good rfl (hat _)) (phO_none bb o)

end Go.Proofs.YtmkemodgbhaglaaDoor
