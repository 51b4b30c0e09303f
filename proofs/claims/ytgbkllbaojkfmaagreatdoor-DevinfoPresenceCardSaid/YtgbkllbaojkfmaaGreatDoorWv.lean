/-
  Children, Objects and Clone for the quick machine: what they hand back at a map that is known, by their contracts.
-/
import Derived.Test.YtgbkllbaojkfmaaGreatDoorWo
import Derived.Test.YtgbkllbaojkfmaaGreatDoorKs
set_option linter.unusedSimpArgs false
set_option linter.unusedVariables false
namespace Go.Proofs.YtgbkllbaojkfmaaGreatDoor
open Go Ab
set_option maxRecDepth 100000

/-! ### sorted lists of numbers -/
def insI (x : Int) : List Int → List Int
  | [] => [x]
  | y :: t => match ltI y x with | true => y :: insI x t | false => x :: y :: t
def sortI : List Int → List Int
  | [] => []
  | x :: t => insI x (sortI t)
theorem insI_perm (x : Int) : ∀ l, (insI x l).Perm (x :: l)
  | [] => List.Perm.refl _
  | y :: t => by
    simp only [insI]
    split
    · exact ((insI_perm x t).cons y).trans (List.Perm.swap x y t)
    · exact List.Perm.refl _
theorem sortI_perm : ∀ l, (sortI l).Perm l
  | [] => List.Perm.refl _
  | x :: t => (insI_perm x _).trans ((sortI_perm t).cons x)
theorem insI_sorted (x : Int) : ∀ {l : List Int}, l.Pairwise (· ≤ ·) → (insI x l).Pairwise (· ≤ ·)
  | [], _ => by simp [insI]
  | y :: t, h => by
    have h1 := List.pairwise_cons.1 h
    simp only [insI]
    split
    · rename_i hl
      rw [ltI_eq] at hl
      have hl := of_decide_eq_true hl
      refine List.pairwise_cons.2 ⟨fun z hz => ?_, insI_sorted x h1.2⟩
      rcases List.mem_cons.1 ((insI_perm x t).mem_iff.1 hz) with rfl | hz
      · omega
      · exact h1.1 z hz
    · rename_i hl
      rw [ltI_eq] at hl
      have hl := of_decide_eq_false hl
      refine List.pairwise_cons.2 ⟨fun z hz => ?_, h⟩
      rcases List.mem_cons.1 hz with rfl | hz
      · omega
      · have := h1.1 z hz; omega
theorem sortI_sorted : ∀ l : List Int, (sortI l).Pairwise (· ≤ ·)
  | [] => List.Pairwise.nil
  | x :: t => insI_sorted x (sortI_sorted t)
theorem sortI_eq {l ss : List Int} (h : ss.Perm l) : ss.mergeSort (fun x y => decide (x ≤ y)) = sortI l := by
  have tr : ∀ a b c : Int, decide (a ≤ b) = true → decide (b ≤ c) = true → decide (a ≤ c) = true := fun a b c h1 h2 => by simp only [decide_eq_true_eq] at *; omega
  have to : ∀ a b : Int, (decide (a ≤ b) || decide (b ≤ a)) = true := fun a b => by simp only [Bool.or_eq_true, decide_eq_true_eq]; omega
  refine List.Perm.eq_of_pairwise (le := fun a b => decide (a ≤ b) = true) (fun a b _ _ h1 h2 => ?_) (List.pairwise_mergeSort tr to ss) ((sortI_sorted l).imp fun h => by simpa using h) (((List.mergeSort_perm ss _).trans h).trans (sortI_perm l).symm)
  simp only [decide_eq_true_eq] at h1 h2
  omega

/-! ### a map's rows -/
def keyZ (x : S) : Option Int :=
  match x with
  | .int k z => (match kEq k .i64 && notB (ltI z (-9223372036854775808)) && notB (ltI 9223372036854775807 z) with | true => some z | false => none)
  | _ => none
theorem keyZ_ok {x : S} {z : Int} (h : keyZ x = some z) : x = .int .i64 z ∧ -9223372036854775808 ≤ z ∧ z ≤ 9223372036854775807 := by
  unfold keyZ at h
  split at h
  · rename_i k q
    split at h
    · rename_i hc
      cases h
      simp only [Bool.and_eq_true, notB_eq, Bool.not_eq_true', ltI_eq, decide_eq_false_iff_not] at hc
      have := kEq_ok hc.1.1
      subst this
      exact ⟨rfl, by omega, by omega⟩
    · cases h
  · cases h
def rowsE (f : Bool → List S → Option Int) (ag : Bool) : List (Nat × S × List S) → Option (List (Int × Int))
  | [] => some []
  | (b, k, l) :: t => match keyZ k, f ag l, rowsE f ag t with | some z, some p, some r => some ((z, p) :: r) | _, _, _ => none
def memI (x : Int) : List (Int × Int) → Bool
  | [] => false
  | r :: t => match eqI r.1 x with | true => true | false => memI x t
def nodupI : List (Int × Int) → Bool
  | [] => true
  | r :: t => match memI r.1 t with | true => false | false => nodupI t
def nodupN : List Nat → Bool
  | [] => true
  | x :: t => match t.elem x with | true => false | false => nodupN t
def ltAll (c : Nat) : List Nat → Bool
  | [] => true
  | x :: t => match Nat.blt x c with | true => ltAll c t | false => false
theorem memI_iff {x : Int} : ∀ {l : List (Int × Int)}, memI x l = true ↔ x ∈ l.map (·.1)
  | [] => by simp [memI]
  | r :: t => by
    simp only [memI, List.map_cons, List.mem_cons]
    rw [eqI_eq]
    cases h : (r.1 == x) with
    | true => have : r.1 = x := by simpa using h
              simp [this]
    | false => have : ¬ x = r.1 := fun e => by rw [e] at h; simp at h
               simp [this, memI_iff]
theorem nodupI_ok : ∀ {l : List (Int × Int)}, nodupI l = true → (l.map (·.1)).Nodup
  | [], _ => List.nodup_nil
  | r :: t, h => by
    simp only [nodupI] at h
    split at h
    · cases h
    · rename_i hm
      refine List.nodup_cons.2 ⟨fun hx => ?_, nodupI_ok h⟩
      rw [memI_iff.2 hx] at hm; cases hm
theorem nodupN_ok : ∀ {l : List Nat}, nodupN l = true → l.Nodup
  | [], _ => List.nodup_nil
  | x :: t, h => by
    simp only [nodupN] at h
    split at h
    · cases h
    · rename_i hm
      exact List.nodup_cons.2 ⟨fun hx => (by rw [List.elem_iff.2 hx] at hm; exact Bool.noConfusion hm), nodupN_ok h⟩
theorem ltAll_ok {c : Nat} : ∀ {l : List Nat}, ltAll c l = true → ∀ x ∈ l, x < c
  | y :: t, h, x, hx => by
    simp only [ltAll] at h
    split at h
    · rename_i e
      rcases List.mem_cons.1 hx with rfl | hx
      · exact blt_iff.1 e
      · exact ltAll_ok h x hx
    · cases h
def mapRows (f : Bool → List S → Option Int) (h : T Bl) (i o : Nat) : Option (List (Int × Int)) :=
  match h.get i with
  | some bs =>
    match bs.kind, bs.cells[o]? with
    | none, some (.map (some j)) =>
      match h.get j with
      | some bm =>
        match bm.kind with
        | some m =>
          match notB m.it && notB bm.more && nodupN m.born && ltAll m.clock m.born && Nat.ble m.born.length 1000, entL m.w m.born bm.cells with
          | true, some es =>
            match rowsE f m.agg es with
            | some rs => (match nodupI rs with | true => some rs | false => none)
            | none => none
          | _, _ => none
        | none => none
      | none => none
    | _, _ => none
  | none => none

abbrev Rel := Value → Option (DataW Unit × List MemPlace)
def FOK (f : Bool → List S → Option Int) (R : Rel) : Prop := ∀ (φ : Ph) (ag : Bool) (l : List S) (p : Int) (ys : List Value), f ag l = some p → All2 (Sr φ) l ys → R (valV ag ys) = some (.lit (.int .i64 p), [])
def RowR (R : Rel) (r : Int × Int) (m : MapEntry) : Prop := m.key = .int .i64 r.1 ∧ (-9223372036854775808 ≤ r.1 ∧ r.1 ≤ 9223372036854775807) ∧ R m.val = some (.lit (.int .i64 r.2), [])
theorem rowsE_ok {f : Bool → List S → Option Int} {R : Rel} (hf : FOK f R) {φ : Ph} {ag : Bool} : ∀ {es : List (Nat × S × List S)} {ms : List MapEntry} {rs : List (Int × Int)}, rowsE f ag es = some rs → All2 (EntR φ ag) es ms → All2 (RowR R) rs ms
  | [], [], rs, h, _ => by simp only [rowsE, Option.some.injEq] at h; subst h; trivial
  | (b, k, l) :: es, m :: ms, rs, h, ha => by
    simp only [rowsE] at h
    split at h
    · rename_i z p r h1 h2 h3
      cases h
      obtain ⟨_, hk, ys, hy, hv⟩ := ha.1
      obtain ⟨rfl, k1, k2⟩ := keyZ_ok h1
      exact ⟨⟨hk, ⟨k1, k2⟩, by rw [hv]; exact hf _ _ _ _ _ h2 hy⟩, rowsE_ok hf h3 ha.2⟩
    · cases h
  | [], _ :: _, _, _, h => h.elim
  | _ :: _, [], _, _, h => h.elim

theorem keyOf3 {z : Int} (h1 : -9223372036854775808 ≤ z) (h2 : z ≤ 9223372036854775807) : keyOf Tryz.prog 3 (.int .i64 z) = some (.int .i64 z) := by
  have hw : (Lit.int .i64 z).wf = true := by
    simp only [Lit.wf, Bool.and_eq_true, decide_eq_true_eq]
    exact ⟨by simpa [IntKind.min, IntKind.bits, IntKind.signed] using h1, by simpa [IntKind.max, IntKind.bits, IntKind.signed] using h2⟩
  simp [keyOf, Tryz.underlying3, mapKey, hw]
def rowD (r : Int × Int) : Lit × DataW Unit := (.int .i64 r.1, .lit (.int .i64 r.2))
theorem rows_rg {R : Rel} : ∀ {rs : List (Int × Int)} {ms : List MapEntry}, All2 (RowR R) rs ms → ms.map (WideElems.rg Tryz.prog 3 R) = rs.map rowD ∧ (ms.map (·.key) = rs.map fun r => Value.int .i64 r.1) ∧ ∀ x ∈ ms, ∃ y, WideElems.rd Tryz.prog 3 R x = some y
  | [], [], _ => ⟨rfl, rfl, fun x hx => by cases hx⟩
  | r :: rs, m :: ms, h => by
    obtain ⟨i1, i2, i3⟩ := rows_rg h.2
    obtain ⟨hk, ⟨k1, k2⟩, hv⟩ := h.1
    have hrd : WideElems.rd Tryz.prog 3 R m = some (rowD r) := by simp [WideElems.rd, hk, keyOf3 k1 k2, hv, rowD]
    refine ⟨by simp [WideElems.rg, hrd, i1], by simp [hk, i2], fun x hx => ?_⟩
    rcases List.mem_cons.1 hx with rfl | hx
    · exact ⟨_, hrd⟩
    · exact i3 x hx
  | [], _ :: _, h => h.elim
  | _ :: _, [], h => h.elim

def datum (rs : List (Int × Int)) : DataW Unit := .map ((rs.map rowD).foldr DataW.insert [])
theorem datum_size (rs : List (Int × Int)) : Maps.size (datum rs) = rs.length := by
  show ((rs.map rowD).foldr DataW.insert []).length = _
  rw [(WideShapes.sorted_perm _).length_eq]; simp
theorem same_i (x y : Int) : (Lit.int .i64 x).sameKey (.int .i64 y) = decide (x = y) := by simp [Lit.sameKey]
theorem datum_has (rs : List (Int × Int)) (x : Int) : Maps.has (datum rs) (.int .i64 x) = true ↔ x ∈ rs.map (·.1) := by
  show (((rs.map rowD).foldr DataW.insert []).any fun p => p.1.sameKey (.int .i64 x)) = true ↔ _
  rw [List.any_eq_true]
  constructor
  · rintro ⟨p, hp, hs⟩
    obtain ⟨r, hr, rfl⟩ := List.mem_map.1 ((WideShapes.sorted_perm _).mem_iff.1 hp)
    rw [rowD, same_i] at hs
    exact List.mem_map.2 ⟨r, hr, of_decide_eq_true hs⟩
  · intro hx
    obtain ⟨r, hr, rfl⟩ := List.mem_map.1 hx
    exact ⟨rowD r, (WideShapes.sorted_perm _).mem_iff.2 (List.mem_map.2 ⟨r, hr, rfl⟩), by rw [rowD, same_i]; simp⟩
theorem datum_at {rs : List (Int × Int)} (hn : (rs.map (·.1)).Nodup) {r : Int × Int} (hr : r ∈ rs) (zd : DataW Unit) : (datum rs).atKey (.int .i64 r.1) zd = .lit (.int .i64 r.2) := by
  unfold datum DataW.atKey
  have hin : rowD r ∈ (rs.map rowD).foldr DataW.insert [] := (WideShapes.sorted_perm _).mem_iff.2 (List.mem_map.2 ⟨r, hr, rfl⟩)
  cases hq : ((rs.map rowD).foldr DataW.insert []).find? (fun p => p.1.sameKey (.int .i64 r.1)) with
  | none =>
    have := List.find?_eq_none.1 hq _ hin
    simp only [rowD, same_i] at this
    simp at this
  | some p =>
    have h1 := List.find?_some hq
    have h2 := List.mem_of_find?_eq_some hq
    obtain ⟨r', hr', rfl⟩ := List.mem_map.1 ((WideShapes.sorted_perm _).mem_iff.1 h2)
    simp only [rowD, same_i, decide_eq_true_eq] at h1
    have : r' = r := by
      have hp : rs.Pairwise (fun a b => a.1 ≠ b.1) := List.pairwise_map.1 hn
      clear hq h2 hin
      induction rs with
      | nil => cases hr
      | cons q t ih =>
        have hp' := List.pairwise_cons.1 hp
        rcases List.mem_cons.1 hr with e | hx <;> rcases List.mem_cons.1 hr' with e' | hx'
        · exact e'.trans e.symm
        · exact absurd (by rw [← e]; exact h1.symm) (hp'.1 r' hx')
        · exact absurd (by rw [← e']; exact h1) (hp'.1 r hx)
        · exact ih (List.nodup_cons.1 (by simpa using hn)).2 hx hx' hp'.2
    subst this
    simp only [hq, rowD]

/-- what the world holds where the rows are read -/
theorem mapRows_ok {f : Bool → List S → Option Int} {R : Rel} (hf : FOK f R) {h : T Bl} {L : Hp} (hv : HV L h) {i o : Nat} {rs : List (Int × Int)} (hr : mapRows f h i o = some rs) {φ : Ph} {w : World} (hg : Ab.Good φ L w) {b : Nat × Nat} (hb : φ i = some b) :
    ∃ bm, w.cell? ⟨b.1, o + b.2, none⟩ = some (.map (some bm)) ∧ b.1 < w.heap.size ∧ w.ownsMap Tryz.prog 3 R bm rs.length (datum rs) ∧ rs.length ≤ 1000 ∧ (rs.map (·.1)).Nodup := by
  unfold mapRows at hr
  split at hr
  · rename_i bs hbs
    split at hr
    · rename_i j hkind hcell
      split at hr
      · rename_i bm hbm
        split at hr
        · rename_i m hkd
          split at hr
          · rename_i es hc hes
            split at hr
            · rename_i rs' hrs
              split at hr
              · rename_i hnd
                cases hr
                simp only [Bool.and_eq_true, notB_eq, Bool.not_eq_true'] at hc
                obtain ⟨⟨⟨⟨c1, c2⟩, c3⟩, c4⟩, c5⟩ := hc
                have hli : lk L i = some bs := by rw [hv i]; exact hbs
                have hlj : lk L j = some bm := by rw [hv j]; exact hbm
                obtain ⟨b', hb', hat⟩ := hg.hr i bs hli
                rw [hb] at hb'; cases hb'
                have hlt := hat.lt
                obtain ⟨pre, xs, rest, fr, h1, hp, h2, _⟩ := hat
                rw [hkind] at h1
                simp only [objOf] at h1
                obtain ⟨y, hy, hyr⟩ := h2.get hcell
                have hyr := Sr.mono (bs.ph_le_self φ) hyr
                obtain ⟨q, hq, hq2, rfl⟩ := hyr
                obtain ⟨zs, hz, hzall⟩ := map_at hg hlj hkd c2 hq hq2
                simp only [objOf, c1] at hz
                obtain ⟨f1, f2⟩ := entL_ok (ag := m.agg) hes hzall
                have hrr := rowsE_ok hf hrs f1
                obtain ⟨g1, g2, g3⟩ := rows_rg hrr
                have hlen : (ents m.agg m.w m.born zs).length = rs.length := hrr.len
                have hnd' := nodupI_ok hnd
                refine ⟨q.1, ?_, hlt, ⟨(ents m.agg m.w m.born zs).toArray, m.clock, hz, ⟨?_, ⟨?_, ?_, ?_⟩, by simpa using g3⟩, by simp [hlen], by simp only [datum, ← g1]⟩, ?_, hnd'⟩
                · simp only [World.cell?, h1]
                  have hoc : o < xs.length := by
                    rcases Nat.lt_or_ge o xs.length with e | e
                    · exact e
                    · rw [List.getElem?_eq_none (by omega)] at hy; cases hy
                  simp only [Option.isSome_none, Bool.false_eq_true, if_false, List.getElem?_toArray]
                  rw [List.getElem?_append_right (by omega), show o + b.2 - pre.length = o by omega, List.getElem?_append_left hoc]
                  exact hy
                · have : m.born.length = rs.length := by rw [← f2]; simp [hlen]
                  have := Nat.le_of_ble_eq_true c5
                  simp only [List.size_toArray]; unfold maxLen; omega
                · intro x hx
                  have : x.born ∈ (ents m.agg m.w m.born zs).map (·.born) := List.mem_map.2 ⟨x, by simpa using hx, rfl⟩
                  rw [f2] at this
                  exact ltAll_ok c4 _ this
                · show ((ents m.agg m.w m.born zs).toArray.toList.map (·.born)).Nodup
                  rw [show (ents m.agg m.w m.born zs).toArray.toList = ents m.agg m.w m.born zs by simp, f2]
                  exact nodupN_ok c3
                · show ((ents m.agg m.w m.born zs).toArray.toList.map (·.key)).Nodup
                  rw [show (ents m.agg m.w m.born zs).toArray.toList = ents m.agg m.w m.born zs by simp, g2]
                  refine List.pairwise_map.2 ((List.pairwise_map.1 hnd').imp fun h e => h ?_)
                  simpa using e
                · have : m.born.length = rs.length := by rw [← f2]; simp [hlen]
                  have := Nat.le_of_ble_eq_true c5
                  omega
              · cases hr
            · cases hr
          · cases hr
        · cases hr
      · cases hr
    · cases hr
  · cases hr

/-! ### a new slice of numbers -/
def slB (K : List Int) (n : Nat) : Bl := { cells := K.map fun z => .int .i64 z, ty := 3, more := true, gh := some (n + 1, 1) }
theorem cells_r (φ : Ph) : ∀ K : List Int, All2 (Sr φ) (K.map fun z => S.int .i64 z) (K.map encZ)
  | [] => trivial
  | z :: t => ⟨rfl, cells_r φ t⟩
theorem SC.sliceI {P : Program} {f : FuncId} {args : List V} {n : Nat} {L : Hp} (K : List Int) (oh : OH n L)
    (h : ∀ (φ : Ph) (xs : List Value) (w : World), All2 (Vr φ) args xs → Ab.Good φ L w → Calls P f xs.toArray w fun e w' => ∃ v, e = .returned v ∧ w'.ownsRow w.heap.size 3 1 v K.length (K.map encZ) ∧ (v = .slice none 0 0 ↔ K = []) ∧ RowKit.Below w.heap.size w w') :
    (K = [] → SC P f args n L (.s (.slc none 0 (some 0))) n L) ∧ (K ≠ [] → SC P f args n L (.s (.sla n (n + 1) K.length)) (n + 2) (put L n (some (slB K n)))) := by
  refine ⟨fun hK φ xs w h1 h2 h3 => ?_, fun hK φ xs w h1 h2 h3 => ?_⟩
  · refine Calls.mono (h φ xs w h1 h2) ?_
    rintro e w' ⟨v, rfl, _, hn, hb⟩
    have hv := hn.2 hK
    refine ⟨φ, v, rfl, ⟨rfl, rfl, hv⟩, ⟨fun i bl hi => ?_, h2.inj⟩, h3, ⟨hb.os, hb.tape, hb.output, hb.size, fun b hb' _ => hb.block b hb', fun j bl b hj hp hlt => ⟨j, bl, b, hj, hp, rfl, id, .inl rfl⟩⟩, Nat.le_refl _, fun _ _ => rfl⟩
    obtain ⟨b, hb1, hat⟩ := h2.hr i bl hi
    exact ⟨b, hb1, hat.mono (Ph.le_refl _) (hb.block _ hat.lt)⟩
  · refine Calls.mono (h φ xs w h1 h2) ?_
    rintro e w' ⟨v, rfl, hrow, hn, hb⟩
    rcases hrow.2 with ⟨hnil, _⟩ | ⟨g, cap, cur, hv, hbase, hheap, r1, r2, r3, r4⟩
    · exact absurd (hn.1 hnil) hK
    · have f0 := h3 n (Nat.le_refl _)
      have f1 := h3 (n + 1) (by omega)
      let φ' : Ph := fun j => if j = n then some (g, 0) else if j = n + 1 then some (cap, 0) else φ j
      have hle : φ.le φ' := by
        intro j b hj
        simp only [φ']
        split
        · rename_i e; subst e; rw [f0] at hj; cases hj
        · split
          · rename_i e; subst e; rw [f1] at hj; cases hj
          · exact hj
      have hφn : φ' n = some (g, 0) := by simp [φ']
      have hφ1 : φ' (n + 1) = some (cap, 0) := by simp [φ']
      have old : ∀ j bj, lk (put L n (some (slB K n))) j = some bj → n ≠ j → lk L j = some bj ∧ φ' j = φ j := by
        intro j bj hj hne
        rw [lk_put, if_neg hne] at hj
        have hjn := (oh j bj hj).1
        exact ⟨hj, by simp only [φ']; rw [if_neg (Ne.symm hne), if_neg (by omega)]⟩
      have hcur : cur.toList = K.map encZ ++ cur.toList.drop K.length := by
        have := List.take_append_drop K.length cur.toList
        rw [Nat.mul_one] at r4
        rw [r4] at this
        exact this.symm
      refine ⟨φ', v, rfl, ⟨(g, 0), cap, hφn, hφ1, hv, r1⟩, ⟨fun j bj hj => ?_, fun j j' bj bj' b b₂ hj hj' hb1 hb2 hbb => ?_⟩, fun i hi => ?_, ⟨hb.os, hb.tape, hb.output, hb.size, fun b hb' _ => hb.block b hb', fun j bj b hj hp hlt => ?_⟩, by omega, fun i hi => ?_⟩
      · by_cases e : n = j
        · subst e
          rw [lk_put, if_pos rfl] at hj; cases hj
          refine ⟨(g, 0), hφn, [], K.map encZ, cur.toList.drop K.length, (0, 0), ?_, rfl, cells_r _ K, fun h => (by cases h), fun _ o _ => (by simp), fun g' z' e => ?_, fun g' e => (by cases e)⟩
          · show w'.heap[g]? = some (.cells ([] ++ (K.map encZ ++ cur.toList.drop K.length)).toArray 3 (0, 0))
            rw [List.nil_append, ← hcur]; simpa using hheap
          · cases e
            refine ⟨cap, hφ1, ?_⟩
            rw [← hcur]; simp [r3]
        · obtain ⟨hm, hφ⟩ := old j bj hj e
          obtain ⟨b, hb1, hat⟩ := h2.hr j bj hm
          exact ⟨b, by rw [hφ]; exact hb1, hat.mono hle (hb.block _ hat.lt)⟩
      · have new : ∀ j bj b, lk L j = some bj → φ j = some b → b.1 ≠ g := by
          intro j bj b hj hbj e
          obtain ⟨b', hb', hat⟩ := h2.hr j bj hj
          rw [hbj] at hb'; cases hb'
          have := hat.lt
          omega
        by_cases e : n = j <;> by_cases e' : n = j'
        · exact .inl (e ▸ e')
        · subst e
          obtain ⟨hm, hφ⟩ := old j' bj' hj' e'
          rw [hφn] at hb1; cases hb1
          exact absurd hbb.symm (new j' bj' b₂ hm (by rw [← hφ]; exact hb2))
        · subst e'
          obtain ⟨hm, hφ⟩ := old j bj hj e
          rw [hφn] at hb2; cases hb2
          exact absurd hbb (new j bj b hm (by rw [← hφ]; exact hb1))
        · obtain ⟨hm, hφ⟩ := old j bj hj e
          obtain ⟨hm', hφ'⟩ := old j' bj' hj' e'
          exact h2.inj j j' bj bj' b b₂ hm hm' (by rw [← hφ]; exact hb1) (by rw [← hφ']; exact hb2) hbb
      · simp only [φ']; rw [if_neg (by omega), if_neg (by omega)]; exact h3 i (by omega)
      · by_cases e : n = j
        · subst e
          rw [hφn] at hp; cases hp
          have : g < w.heap.size := hlt
          omega
        · obtain ⟨hm, hφ⟩ := old j bj hj e
          exact ⟨j, bj, b, hm, by rw [← hφ]; exact hp, rfl, id, .inl rfl⟩
      · simp only [φ']; rw [if_neg (by omega), if_neg (by omega)]
def sliceK (K : List Int) (n : Nat) (h : T Bl) : KC :=
  match K with
  | [] => .ok (.s (.slc none 0 (some 0))) n h
  | K => frc (K.map fun z => S.int .i64 z) [] fun cs => T.putK (some { cells := cs, ty := 3, more := true, gh := some (n + 1, 1) }) h n fun h => .ok (.s (.sla n (n + 1) K.length)) (n + 2) h
theorem sliceK_ok {P : Program} {f : FuncId} {fn : Func} (hfn : P.funcs[f]? = some fn) (hbody : fn.body.isSome = true) (hname : (fn.name == "runtime.NumGoroutine") = false) {args : List V} {n : Nat} {L : Hp} {h : T Bl} {K : List Int} {v : V} {n' : Nat} {h' : T Bl} (hk : sliceK K n h = .ok v n' h') (hv : HV L h) (oh : OH n L)
    (hc : ∀ (φ : Ph) (xs : List Value) (w : World), All2 (Vr φ) args xs → Ab.Good φ L w → Calls P f xs.toArray w fun e w' => ∃ v, e = .returned v ∧ w'.ownsRow w.heap.size 3 1 v K.length (K.map encZ) ∧ (v = .slice none 0 0 ↔ K = []) ∧ RowKit.Below w.heap.size w w') :
    ∃ L', HV L' h' ∧ OH n' L' ∧ okV n' v = true ∧ n ≤ n' ∧ CallOK P f args n L v n' L' := by
  obtain ⟨s1, s2⟩ := SC.sliceI K oh hc
  unfold sliceK at hk
  split at hk
  · cases hk
    exact ⟨L, hv, oh, rfl, Nat.le_refl _, SC.callOK (s1 rfl) hfn hbody hname⟩
  · rename_i hne
    rw [frc_eq, T.putK_eq] at hk
    cases hk
    refine ⟨put L n (some (slB K n)), fun i => ?_, fun i bl hi => ?_, ?_, by omega, SC.callOK (s2 (by rintro rfl; exact hne rfl)) hfn hbody hname⟩
    · rw [lk_put]
      show _ = (h.put n (some (slB K n))).get i
      rw [T.get_put, hv i]
    · rw [lk_put] at hi
      split at hi
      · rename_i e
        cases hi
        refine ⟨by omega, ?_⟩
        simp only [okB, slB, okG, Bool.and_eq_true]
        refine ⟨blt_iff.2 (by omega), ?_⟩
        rw [List.all_eq_true]
        intro x hx
        obtain ⟨z, _, rfl⟩ := List.mem_map.1 hx
        rfl
      · have := oh i bl hi
        exact ⟨by omega, okB_mono (by omega) this.2⟩
    · simp only [okV, okS, Bool.and_eq_true]; exact ⟨blt_iff.2 (by omega), blt_iff.2 (by omega)⟩

/-! ### the functions -/
def entS (ag : Bool) (l : List S) : Option Int :=
  match ag, l with
  | true, [.str _, .int .i64 _, .int .i64 p, .int .i64 _, .int .i64 _, .int .i64 _, .int .u64 _, .int .u64 _, .int .i64 _, .int .i64 _, .int .i64 _, .int .i64 _, .int .i64 _, .int .i64 _] => some p
  | _, _ => none
theorem entS_ok : FOK entS entR := by
  intro φ ag l p ys h ha
  unfold entS at h
  split at h
  · cases h
    match ys, ha with
    | [y0, y1, y2, y3, y4, y5, y6, y7, y8, y9, y10, y11, y12, y13], ⟨h0, h1, h2, h3, h4, h5, h6, h7, h8, h9, h10, h11, h12, h13, _⟩ =>
      simp only [Sr] at h0 h1 h2 h3 h4 h5 h6 h7 h8 h9 h10 h11 h12 h13
      subst h0; subst h1; subst h2; subst h3; subst h4; subst h5; subst h6; subst h7; subst h8; subst h9; subst h10; subst h11; subst h12; subst h13
      simp [entR, valV, entO]
  · cases h
def anyS (ag : Bool) (l : List S) : Option Int := some 0
def anyR : Rel := fun _ => some (.lit (.int .i64 0), [])
theorem anyS_ok : FOK anyS anyR := fun φ ag l p ys h _ => by cases h; rfl
def kidsOf (id : Int) : List (Int × Int) → List Int
  | [] => []
  | r :: t => match eqI r.2 id with | true => r.1 :: kidsOf id t | false => kidsOf id t
theorem kidsOf_eq (id : Int) : ∀ rs, kidsOf id rs = (rs.filter fun r => decide (r.2 = id)).map (·.1)
  | [] => rfl
  | r :: t => by
    simp only [kidsOf, List.filter_cons]
    rw [eqI_eq]
    cases h : (r.2 == id) with
    | true => have : r.2 = id := by simpa using h
              simp [this, kidsOf_eq id t]
    | false => have : ¬ r.2 = id := by simpa using h
               simp [this, kidsOf_eq id t]
def ovC (f : FuncId) (args : List V) (n : Nat) (h : T Bl) : Option KC :=
  match Nat.beq f 86 with
  | true =>
    match args with
    | [.s (.ptr (some (i, o))), .s (.int k id)] =>
      match kEq k .i64, mapRows entS h i o with
      | true, some rs => (match memI id rs with | true => some (sliceK (sortI (kidsOf id rs)) n h) | false => none)
      | _, _ => none
    | _ => none
  | false =>
    match Nat.beq f 44 with
    | true =>
      match args with
      | [.s (.ptr (some (i, o)))] => (match mapRows anyS h i o with | some rs => some (sliceK (sortI (rs.map (·.1))) n h) | none => none)
      | _ => none
    | false => none
theorem map_nodup {rs : List (Int × Int)} (h : (rs.map (·.1)).Nodup) (p : Int × Int → Bool) : ((rs.filter p).map (·.1)).Nodup :=
  List.pairwise_map.2 ((List.pairwise_map.1 h).filter _)
theorem ovC_ok : OvOK Tryz.prog ovC := by
  intro f args n h r hr v n' h' e L hv oh oe
  subst e
  unfold ovC at hr
  split at hr
  · rename_i hf
    have hf := Nat.eq_of_beq_eq_true hf
    subst hf
    split at hr
    · rename_i i o k id
      split at hr
      · rename_i rs hk hrs
        have hk := kEq_ok hk
        subst hk
        split at hr
        · rename_i hmem
          have hr := Option.some.inj hr
          refine sliceK_ok Tryz.func86 (by rfl) (by kernel_rfl) hr hv oh fun φ xs w ha hg => ?_
          match xs, ha with
          | [x, y], ⟨h1, h2, _⟩ =>
            obtain ⟨b, hb, hx⟩ := h1
            have hy : y = .int .i64 id := h2
            subst hx; subst hy
            obtain ⟨bm, g1, g2, g3, g4, g5⟩ := mapRows_ok entS_ok hv hrs hg hb
            have hhas := (datum_has rs id).2 (memI_iff.1 hmem)
            obtain ⟨r, hr', hid⟩ := List.mem_map.1 (memI_iff.1 hmem)
            have hwf : (Lit.int .i64 id).wf = true := by
              obtain ⟨es, _, _, F, _, hD⟩ := g3
              have : (rowD r) ∈ (rs.map rowD).foldr DataW.insert [] := (WideShapes.sorted_perm _).mem_iff.2 (List.mem_map.2 ⟨r, hr', rfl⟩)
              have hD' : (rs.map rowD).foldr DataW.insert [] = (es.toList.map (WideElems.rg Tryz.prog 3 entR)).foldr DataW.insert [] := by simpa [datum] using hD
              rw [hD'] at this
              obtain ⟨m, hm, hmr⟩ := List.mem_map.1 ((WideShapes.sorted_perm _).mem_iff.1 this)
              obtain ⟨y, hy⟩ := F.reads m hm
              have hk := WideElems.rd_key hy
              have e1 : WideElems.rg Tryz.prog 3 entR m = y := by simp [WideElems.rg, hy]
              rw [e1] at hmr
              rw [hmr] at hk
              obtain ⟨x', _, e3, e4⟩ := Maps.keyOf_i64 Tryz.underlying3 hk
              simp only [rowD, Lit.int.injEq, true_and] at e3
              rw [← e3, hid] at e4
              exact e4
            refine Calls.mono (children_c b.1 (o + b.2) bm rs.length id (datum rs) w g1 g2 g3 hhas hwf (by rw [datum_size]; unfold maxLen; omega) (by rw [datum_size]; omega)) ?_
            rintro e w' ⟨v, ss, rfl, hC, hrow, hn, hbw⟩
            have hperm : ss.Perm (kidsOf id rs) := by
              rw [kidsOf_eq]
              refine (List.perm_ext_iff_of_nodup hC.1 (map_nodup g5 _)).2 fun x => ?_
              rw [hC.2 x]
              constructor
              · rintro ⟨h1, _, h3⟩
                obtain ⟨r, hr, rfl⟩ := List.mem_map.1 ((datum_has rs x).1 h1)
                have := (datum_at g5 hr .nil).symm.trans (h3 .nil)
                simp only [DataW.lit.injEq, Lit.int.injEq, true_and] at this
                exact List.mem_map.2 ⟨r, List.mem_filter.2 ⟨hr, by simp [this]⟩, rfl⟩
              · intro hx
                obtain ⟨r, hr, rfl⟩ := List.mem_map.1 hx
                obtain ⟨hr1, hr2⟩ := List.mem_filter.1 hr
                have hr2 := of_decide_eq_true hr2
                exact ⟨(datum_has rs _).2 (List.mem_map.2 ⟨r, hr1, rfl⟩), rfl, fun zd => by rw [datum_at g5 hr1 zd, hr2]⟩
            have hs := sortI_eq hperm
            have hlen : (sortI (kidsOf id rs)).length = ss.length := by rw [← hs]; simp
            refine ⟨v, rfl, by rw [hlen, ← hs]; exact hrow, ?_, hbw⟩
            rw [hn, ← hs]
            constructor
            · rintro rfl; simp
            · intro e; exact List.eq_nil_of_length_eq_zero (by rw [← hlen, ← hs, e]; rfl)
        · cases hr
      · cases hr
    · cases hr
  · split at hr
    · rename_i hf
      have hf := Nat.eq_of_beq_eq_true hf
      subst hf
      split at hr
      · rename_i i o
        split at hr
        · rename_i rs hrs
          have hr := Option.some.inj hr
          refine sliceK_ok Tryz.func44 (by rfl) (by kernel_rfl) hr hv oh fun φ xs w ha hg => ?_
          match xs, ha with
          | [x], ⟨h1, _⟩ =>
            obtain ⟨b, hb, hx⟩ := h1
            subst hx
            obtain ⟨bm, g1, g2, g3, g4, g5⟩ := mapRows_ok anyS_ok hv hrs hg hb
            refine Calls.mono (objects_c b.1 (o + b.2) bm rs.length (datum rs) anyR w g1 g3 (by rw [datum_size]; unfold maxLen; omega) (by rw [datum_size]; omega)) ?_
            rintro e w' ⟨v, ss, rfl, hC, hrow, hn, hbw⟩
            have hperm : ss.Perm (rs.map (·.1)) := by
              refine hC.trans ?_
              simp only [datum, intKeys]
              refine ((WideShapes.sorted_perm (rs.map rowD)).map _).trans ?_
              rw [List.map_map]
              exact List.Perm.refl _
            have hs := sortI_eq hperm
            have hlen : (sortI (rs.map (·.1))).length = ss.length := by rw [← hs]; simp
            refine ⟨v, rfl, by rw [hlen, ← hs]; exact hrow, ?_, hbw⟩
            rw [hn, ← hs]
            constructor
            · rintro rfl; simp
            · intro e; exact List.eq_nil_of_length_eq_zero (by rw [← hlen, ← hs, e]; rfl)
        · cases hr
      · cases hr
    · cases hr

end Go.Proofs.YtgbkllbaojkfmaaGreatDoor
