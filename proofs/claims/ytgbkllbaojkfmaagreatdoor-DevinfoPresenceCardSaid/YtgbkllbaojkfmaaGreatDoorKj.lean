/-
  strings.Join by its contract, for the quick machine.
-/
import Derived.Shelf.Strings.OnBuilder
import Derived.Below
import Derived.Test.YtgbkllbaojkfmaaGreatDoorKo
import Derived.Test.YtgbkllbaojkfmaaGreatDoorRows
set_option linter.unusedSimpArgs false
set_option linter.unusedVariables false
namespace Go.Proofs.YtgbkllbaojkfmaaGreatDoor
open Go.Shelf Go.RowKit
def Tryz.lays156_ren : Go.Shelf.Ren := ⟨fun | 156 => 39 | 165 => 88 | 166 => 89 | 169 => 90 | 240 => 145 | 241 => 146 | 276 => 193 | 277 => 194 | n => n, fun | 31 => 70 | 9 => 9 | 3 => 3 | 4 => 4 | 0 => 0 | 20 => 20 | 72 => 170 | 76 => 173 | 70 => 167 | 37 => 168 | 75 => 172 | 127 => 227 | 164 => 254 | 5 => 5 | 80 => 175 | n => n, fun | n => n⟩
theorem Tryz.lays156 : Go.Proofs.Lays.n156 Tryz.prog Tryz.lays156_ren := {
  mixed := by kernel_rfl
  f156 := Tryz.func39.trans (congrArg some (by kernel_rfl))
  f165 := Tryz.func88.trans (congrArg some (by kernel_rfl))
  f166 := Tryz.func89.trans (congrArg some (by kernel_rfl))
  f169 := Tryz.func90.trans (congrArg some (by kernel_rfl))
  f240 := Tryz.func145.trans (congrArg some (by kernel_rfl))
  f241 := Tryz.func146.trans (congrArg some (by kernel_rfl))
  f276 := Tryz.func193.trans (congrArg some (by kernel_rfl))
  f277 := Tryz.func194.trans (congrArg some (by kernel_rfl))
  t0 := Tryz.underlying0
  a0 := Tryz.isAgg0
  z0 := Tryz.sizeOf0
  v0 := Tryz.zeroValue0
  t3 := Tryz.underlying3
  a3 := Tryz.isAgg3
  z3 := Tryz.sizeOf3
  v3 := Tryz.zeroValue3
  t4 := Tryz.underlying4
  a4 := Tryz.isAgg4
  z4 := Tryz.sizeOf4
  v4 := Tryz.zeroValue4
  t9 := Tryz.underlying9
  a9 := Tryz.isAgg9
  z9 := Tryz.sizeOf9
  v9 := Tryz.zeroValue9
  t20 := Tryz.underlying20
  a20 := Tryz.isAgg20
  z20 := Tryz.sizeOf20
  v20 := Tryz.zeroValue20
  t31 := Tryz.underlying70
  a31 := Tryz.isAgg70
  z31 := Tryz.sizeOf70
  v31 := Tryz.zeroValue70
  t37 := Tryz.underlying168
  a37 := Tryz.isAgg168
  z37 := Tryz.sizeOf168
  v37 := Tryz.zeroValue168
  t70 := Tryz.underlying167
  a70 := Tryz.isAgg167
  z70 := Tryz.sizeOf167
  v70 := Tryz.zeroValue167
  t72 := Tryz.underlying170
  a72 := Tryz.isAgg170
  z72 := Tryz.sizeOf170
  v72 := Tryz.zeroValue170
  t75 := Tryz.underlying172
  a75 := Tryz.isAgg172
  z75 := Tryz.sizeOf172
  v75 := Tryz.zeroValue172
  t76 := Tryz.underlying173
  a76 := Tryz.isAgg173
  z76 := Tryz.sizeOf173
  v76 := Tryz.zeroValue173
  t127 := Tryz.underlying227
  a127 := Tryz.isAgg227
  z127 := Tryz.sizeOf227
  v127 := Tryz.zeroValue227
  t164 := Tryz.underlying254
  a164 := Tryz.isAgg254
  z164 := Tryz.sizeOf254
  v164 := Tryz.zeroValue254 }
theorem Tryz.Builder_Extra_156 : Builder.Extra Tryz.prog Tryz.lays156_ren := {
  sizeBuilder := by kernel_rfl
  liesBuilder := by kernel_rfl
  t5 := Tryz.underlying5
  a5 := Tryz.isAgg5
  z5 := Tryz.sizeOf5
  v5 := Tryz.zeroValue5
  infoByte := by kernel_rfl
  cellsByte := by kernel_rfl
  sizeByte := by kernel_rfl
  neB5 := by decide }
open Go.RowKit in
/-- No element: the empty string; the world is as it was. (Whatever the slice's address and capacity: a nil slice too.) (LAID: no walk: one application.) -/
theorem Tryz.strings_Join_none (a : Option Addr) (c : Nat) (sep : ByteArray) (w : World) :
    Calls Tryz.prog 39 #[.slice a 0 c, .string sep] w fun e w' => e = .returned (.string ⟨#[]⟩) ∧ w' = w := Any.strings_Join_none Tryz.lays156 Tryz.Builder_Extra_156 a c sep w
open Go.RowKit in
/-- strings.Join: "Join concatenates the elements of its first argument to create a single string. The separator string sep is placed between elements in the resulting string.": HOWEVER MANY ELEMENTS. Below the heap's end the world is as it was. (LAID: no walk: one application.) -/
theorem Tryz.strings_Join (bk o c : Nat) (xs : List ByteArray) (sep : ByteArray) (w : World) (hcells : ∀ (j : Nat) x, xs[j]? = some x → w.cell? ⟨bk, o + j, none⟩ = some (.string x)) (hbk : bk < w.heap.size) (hN : xs.length ≤ 140737488355328) (hcap : xs.length ≤ c) (hlen : (Lib.join (xs.map (·.data.toList)) sep.data.toList).length ≤ 140737488355328) :
    Calls Tryz.prog 39 #[.slice (some ⟨bk, o, none⟩) xs.length c, .string sep] w fun e w' => e = .returned (.string ⟨(Lib.join (xs.map (·.data.toList)) sep.data.toList).toArray⟩) ∧ Below w.heap.size w w' := Any.strings_Join Tryz.lays156 Tryz.Builder_Extra_156 bk o c xs sep w hcells hbk hN hcap hlen
end Go.Proofs.YtgbkllbaojkfmaaGreatDoor
namespace Go.Proofs.YtgbkllbaojkfmaaGreatDoor
open Go Ab
set_option maxRecDepth 100000

def strsOf : List S → Option (List (List UInt8))
  | [] => some []
  | c :: t => match c with | .str l => (match strsOf t with | some r => some (l :: r) | none => none) | _ => none
theorem strsOf_ok {φ : Ph} : ∀ {cs : List S} {ls : List (List UInt8)} {vs : List Value}, strsOf cs = some ls → All2 (Sr φ) cs vs → vs = ls.map fun l => Value.string ⟨l.toArray⟩
  | [], ls, vs, h, ha => by simp [strsOf] at h; subst h; cases vs <;> first | rfl | exact ha.elim
  | c :: t, ls, vs, h, ha => by
    cases c with
    | str l =>
      simp only [strsOf] at h
      split at h
      · rename_i r hr
        cases h
        cases vs with
        | nil => exact ha.elim
        | cons v vt =>
          have h1 : v = .string ⟨l.toArray⟩ := ha.1
          rw [h1, strsOf_ok hr ha.2]; rfl
      · cases h
    | _ => simp only [strsOf] at h; cases h
def sumL : List (List UInt8) → Nat
  | [] => 0
  | l :: t => l.length + sumL t
def appB : List UInt8 → List UInt8 → List UInt8
  | [], r => r
  | a :: t, r => a :: appB t r
theorem appB_eq : ∀ (l r : List UInt8), appB l r = l ++ r
  | [], r => rfl
  | a :: t, r => by simp [appB, appB_eq t r]
def joinB (sep : List UInt8) : List (List UInt8) → List UInt8
  | [] => []
  | [x] => x
  | x :: y :: t => appB x (appB sep (joinB sep (y :: t)))
theorem joinB_eq (sep : List UInt8) : ∀ l, joinB sep l = Lib.join l sep
  | [] => rfl
  | [x] => (Lib.join_one x sep).symm
  | x :: y :: t => by
    simp only [joinB, appB_eq, joinB_eq sep (y :: t)]
    simp [Lib.join, List.intercalate]
def joinCell (h : T Bl) (i o len : Nat) (sep : List UInt8) : Option (List UInt8) :=
  match h.get i with
  | some bl =>
    match bl.kind, strsOf ((bl.cells.drop o).take len) with
    | none, some l =>
      match Nat.beq l.length len && Nat.ble len 140737488355328 && Nat.ble (joinB sep l).length 140737488355328 with
      | true => some (joinB sep l)
      | false => none
    | _, _ => none
  | none => none
def ovJ (f : FuncId) (args : List V) (n : Nat) (h : T Bl) : Option KC :=
  match Nat.beq f 39 with
  | false => none
  | true =>
    match args with
    | [.s (.slc (some (i, o)) len _), .s (.str sep)] => match joinCell h i o len sep with | some r => frcW (.s (.str r)) fun v => some (.ok v n h) | none => none
    | [.s (.sla i g len), .s (.str sep)] => match joinCell h i 0 len sep with | some r => frcW (.s (.str r)) fun v => some (.ok v n h) | none => none
    | _ => none
theorem SC.below {P : Program} {f : FuncId} {args : List V} {n : Nat} {L : Hp} {x : S} (hx : okS 0 x = true) (h : ∀ (φ : Ph) (xs : List Value) (w : World), All2 (Vr φ) args xs → Ab.Good φ L w → Calls P f xs.toArray w fun e w' => ∃ y, e = .returned y ∧ Sr φ x y ∧ RowKit.Below w.heap.size w w') : SC P f args n L (.s x) n L := by
  intro φ xs w h1 h2 h3
  refine Calls.mono (h φ xs w h1 h2) ?_
  rintro e w' ⟨y, rfl, hy, hb⟩
  refine ⟨φ, y, rfl, hy, ⟨fun i bl hi => ?_, h2.inj⟩, h3, ⟨hb.os, hb.tape, hb.output, hb.size, fun b hb' _ => hb.block b hb', fun j bl b hj hp hlt => ⟨j, bl, b, hj, hp, rfl, id, .inl rfl⟩⟩, Nat.le_refl _, fun _ _ => rfl⟩
  obtain ⟨b, hb1, hat⟩ := h2.hr i bl hi
  exact ⟨b, hb1, hat.mono (Ph.le_refl _) (hb.block _ hat.lt)⟩
theorem join_s {h : T Bl} {L : Hp} {n i o len : Nat} {sep r : List UInt8} (hv : HV L h) (hj : joinCell h i o len sep = some r) {arg : S} (ha : ∀ φ v, Sr φ arg v → ∃ b k, φ i = some b ∧ v = .slice (some ⟨b.1, o + b.2, none⟩) len k ∧ len ≤ k) :
    SC Tryz.prog 39 [.s arg, .s (.str sep)] n L (.s (.str r)) n L := by
  unfold joinCell at hj
  split at hj
  · rename_i bl hbl
    split at hj
    · rename_i l hkind hs
      split at hj
      · rename_i hc
        cases hj
        simp only [Bool.and_eq_true] at hc
        have c1 := Nat.eq_of_beq_eq_true hc.1.1
        have c2 := Nat.le_of_ble_eq_true hc.1.2
        have c3 := Nat.le_of_ble_eq_true hc.2
        refine SC.below rfl fun φ xs w h1 h2 => ?_
        match xs, h1 with
        | [x, y], ⟨g1, g2, _⟩ =>
          obtain ⟨b, k, hb, hx, hk⟩ := ha φ x g1
          have hy : y = .string ⟨sep.toArray⟩ := g2
          subst hx; subst hy
          have hl : lk L i = some bl := by rw [hv i]; exact hbl
          obtain ⟨b', hb', hat⟩ := h2.hr i bl hl
          rw [hb] at hb'; cases hb'
          have hlt := hat.lt
          obtain ⟨pre, cs, rest, fr, hheap, hpre, hall, _⟩ := hat
          rw [hkind] at hheap
          have hall' := (hall.drop o).take len
          have hcs := strsOf_ok hs hall'
          have hbs : (l.map fun q => (⟨q.toArray⟩ : ByteArray)).length = len := by simpa using c1
          have hmap : (l.map fun q => (⟨q.toArray⟩ : ByteArray)).map (·.data.toList) = l := by
            rw [List.map_map]; conv => rhs; rw [← List.map_id l]
            congr 1
          have key := Tryz.strings_Join b.1 (o + b.2) k (l.map fun q => ⟨q.toArray⟩) ⟨sep.toArray⟩ w ?_ hlt (by rw [hbs]; exact c2) (by rw [hbs]; exact hk) ?_
          · rw [hmap, hbs] at key
            refine Calls.mono key ?_
            rintro e w' ⟨rfl, hbw⟩
            exact ⟨_, rfl, by rw [show joinB sep l = Lib.join l sep from joinB_eq sep l]; rfl, hbw⟩
          · intro j x hx
            simp only [List.getElem?_map, Option.map_eq_some_iff] at hx
            obtain ⟨q, hq, rfl⟩ := hx
            have hget : ((cs.drop o).take len)[j]? = some (.string ⟨q.toArray⟩) := by rw [hcs]; simp [hq]
            have hjlen : j < len := by
              rcases Nat.lt_or_ge j len with e | e
              · exact e
              · rw [List.getElem?_take_eq_none (by omega)] at hget; cases hget
            rw [List.getElem?_take_of_lt hjlen, List.getElem?_drop] at hget
            simp only [World.cell?, hheap, objOf]
            have hoj : o + j < cs.length := by
              rcases Nat.lt_or_ge (o + j) cs.length with e | e
              · exact e
              · rw [List.getElem?_eq_none (by omega)] at hget; cases hget
            simp only [Option.isSome_none, Bool.false_eq_true, if_false, List.getElem?_toArray]
            rw [List.getElem?_append_right (by omega), List.getElem?_append_left (by omega), show o + b.2 + j - pre.length = o + j by omega]
            exact hget
          · rw [hmap]
            show (Lib.join l sep).length ≤ _
            rw [← joinB_eq]; exact c3
      · cases hj
    · cases hj
  · cases hj
theorem func_join : Tryz.prog.funcs[39]? = some Tryz.f39 := Tryz.func39
theorem ovJ_ok : OvOK Tryz.prog ovJ := by
  intro f args n h r hr v n' h' e L hv oh oe
  unfold ovJ at hr
  split at hr
  · cases hr
  · rename_i hf
    have hf := Nat.eq_of_beq_eq_true hf
    subst hf
    split at hr
    · rename_i i o len c sep
      split at hr
      · rename_i q hq
        rw [frcW_eq] at hr
        cases hr; cases e
        refine ⟨L, hv, oh, rfl, Nat.le_refl _, SC.callOK (join_s hv hq fun φ v hv => ?_) func_join (by rfl) (by kernel_rfl)⟩
        obtain ⟨b, k, h1, h2, h3, _⟩ := hv
        exact ⟨b, k, h1, h2, h3⟩
      · cases hr
    · rename_i i g len sep
      split at hr
      · rename_i q hq
        rw [frcW_eq] at hr
        cases hr; cases e
        refine ⟨L, hv, oh, rfl, Nat.le_refl _, SC.callOK (join_s hv hq fun φ v hv => ?_) func_join (by rfl) (by kernel_rfl)⟩
        obtain ⟨b, k, h1, h2, h3, h4⟩ := hv
        exact ⟨b, k, h1, by rw [h3, Nat.zero_add], h4⟩
      · cases hr
    · cases hr

end Go.Proofs.YtgbkllbaojkfmaaGreatDoor
