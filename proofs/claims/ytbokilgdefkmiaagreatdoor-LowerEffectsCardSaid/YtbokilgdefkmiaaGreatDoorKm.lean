/-
  The quick machine, part 10: maps, zeros appended, the greatest of three: what they come to is true.
-/
import Derived.Test.YtbokilgdefkmiaaGreatDoorKh
set_option linter.unusedSimpArgs false
set_option linter.unusedVariables false
namespace Go.Proofs.YtbokilgdefkmiaaGreatDoor
namespace Ab
open Go Go.MapKept
set_option maxRecDepth 100000

/-! ### keys -/
theorem keyOK_is {φ : Ph} {d : TypeDesc} {x : S} {v : Value} (h : keyOK d x = true) (hv : Sr φ x v) : IsKey d v := by
  unfold keyOK at h
  split at h
  · simp only [Sr] at hv; subst hv; exact (kEq_ok h).symm
  · simp only [Sr] at hv; subst hv; trivial
  · cases h
theorem bytesEq (x y : List UInt8) : ((⟨x.toArray⟩ : ByteArray) == ⟨y.toArray⟩) = decide (x = y) := by
  by_cases h : x = y
  · subst h; simp only [decide_true]; exact (bytes_beq _ _).2 rfl
  · have hne : ¬ ((⟨x.toArray⟩ : ByteArray) = ⟨y.toArray⟩) := fun e => h (by
      have := congrArg ByteArray.data e
      simpa using this)
    simp only [h, decide_false]
    cases hb : ((⟨x.toArray⟩ : ByteArray) == ⟨y.toArray⟩) with
    | false => rfl
    | true => exact absurd ((bytes_beq _ _).1 hb) hne
theorem sameK_ok {φ φ' : Ph} {d : TypeDesc} {a b : S} {u v : Value} {r : Bool} (hk : keyOK d a = true) (h : sameK a b = some r) (hu : Sr φ a u) (hv : Sr φ' b v) : Instr.sameNow d u v = some r := by
  unfold sameK at h
  split at h
  · split at h
    · rename_i k x k' y hkk
      cases h
      have := kEq_ok hkk; subst this
      simp only [Sr] at hu hv; subst hu; subst hv
      unfold keyOK at hk
      split at hk
      · rename_i e; cases e; simp only [Instr.sameNow, if_true, eqI_eq]
      · rename_i e; cases e
      · cases hk
    · cases h
  · rename_i x y
    cases h
    simp only [Sr] at hu hv; subst hu; subst hv
    unfold keyOK at hk
    split at hk
    · rename_i e; cases e
    · simp only [Instr.sameNow, bytesEq, eqB_eq]
    · cases hk
  · cases h

theorem ents_length {ag : Bool} {w : Nat} : ∀ {born : List Nat} {xs : List Value}, xs.length = born.length * (w + 1) → (ents ag w born xs).length = born.length
  | [], [], _ => rfl
  | [], _ :: _, h => by simp at h
  | b :: bs, [], h => by simp [Nat.add_mul] at h
  | b :: bs, x :: t, h => by
    simp only [ents, List.length_cons]
    rw [ents_length (by simp only [List.length_drop, List.length_cons, Nat.add_mul] at h ⊢; omega)]

/-- a look-up in the flat list is a look-up among the entries -/
theorem findK_ok {φ φ' : Ph} {d : TypeDesc} {key : S} {kv : Value} (hk : keyOK d key = true) (hkv : Sr φ' key kv) {ag : Bool} {w : Nat} : ∀ {born : List Nat} {cs : List S} {xs : List Value} {i : Nat} {r : Option (Nat × List S)}, All2 (Sr φ) cs xs → findK key w born cs i = some r →
    match r with
    | none => Instr.findNow d kv (ents ag w born xs) i = some none
    | some (j, l) => ∃ q, j = i + q ∧ q < born.length ∧ l = (cs.drop (q * (w + 1) + 1)).take w ∧ q * (w + 1) + 1 + w ≤ cs.length ∧ (∃ e, (ents ag w born xs)[q]? = some e ∧ Instr.findNow d kv (ents ag w born xs) i = some (some (j, e.val)) ∧ e.key = xs.getD (q * (w + 1)) default ∧
        e.val = (match ag with | true => .agg ((xs.drop (q * (w + 1) + 1)).take w).toArray | false => ((xs.drop (q * (w + 1) + 1)).take w).headD default)) ∧ sameK key (cs.getD (q * (w + 1)) .unk) = some true
  | [], [], [], i, r, _, h => by simp only [findK] at h; cases h; rfl
  | [], [], _ :: _, i, r, ha, h => ha.elim
  | [], c :: cs, xs, i, r, ha, h => by simp [findK] at h
  | b :: bs, [], xs, i, r, ha, h => by simp [findK] at h
  | b :: bs, c :: cs, [], i, r, ha, h => ha.elim
  | b :: bs, c :: cs, x :: xs, i, r, ha, h => by
    simp only [findK] at h
    split at h
    · rename_i hle
      have hle := Nat.le_of_ble_eq_true hle
      split at h
      · rename_i hs
        cases h
        have hsn := sameK_ok hk hs hkv ha.1
        refine ⟨0, rfl, by simp, by simp, by simp; omega, ⟨_, rfl, by simp only [ents, Instr.findNow, hsn], by simp, by cases ag <;> simp⟩, by simpa using hs⟩
      · rename_i hs
        have hsn := sameK_ok hk hs hkv ha.1
        have ih := findK_ok (d := d) hk hkv (ag := ag) (ha.2.drop w) h
        cases r with
        | none => simp only [ents, Instr.findNow, hsn]; exact ih
        | some p =>
          obtain ⟨j, l⟩ := p
          obtain ⟨q, e1, e2, e3, e4, ⟨e, f1, f2, f3, f4⟩, e5⟩ := ih
          have hq : (q + 1) * (w + 1) = q * (w + 1) + (w + 1) := by rw [Nat.add_mul]; omega
          refine ⟨q + 1, by omega, by simp; omega, ?_, ?_, ⟨e, by simpa [ents] using f1, by simp only [ents, Instr.findNow, hsn]; exact f2, ?_, ?_⟩, ?_⟩
          · rw [e3, hq, List.drop_drop, show q * (w + 1) + (w + 1) + 1 = (w + (q * (w + 1) + 1)) + 1 by omega, List.drop_succ_cons]
          · simp only [List.length_drop, List.length_cons] at e4 ⊢; omega
          · rw [f3, hq]
            simp only [List.getD_eq_getElem?_getD, List.getElem?_drop]
            rw [show q * (w + 1) + (w + 1) = (w + q * (w + 1)) + 1 by omega, List.getElem?_cons_succ]
          · rw [f4, hq, List.drop_drop, show q * (w + 1) + (w + 1) + 1 = (w + (q * (w + 1) + 1)) + 1 by omega, List.drop_succ_cons]
          · rw [← e5, hq]
            simp only [List.getD_eq_getElem?_getD, List.getElem?_drop]
            rw [show q * (w + 1) + (w + 1) = (w + q * (w + 1)) + 1 by omega, List.getElem?_cons_succ]
      · cases h
    · cases h

def valV (ag : Bool) (xs : List Value) : Value := match ag with | true => .agg xs.toArray | false => xs.headD default
theorem valOf_r {φ : Ph} {ag : Bool} {l : List S} {v : V} {xs : List Value} (h : valOf ag l = some v) (ha : All2 (Sr φ) l xs) : Vr φ v (valV ag xs) := by
  cases ag with
  | true => simp only [valOf] at h; cases h; exact ⟨xs, rfl, ha⟩
  | false =>
    simp only [valOf] at h
    match l, xs, h, ha with
    | [x], [y], h, ha =>
      simp only at h
      split at h
      · cases h; exact ha.1
      · cases h
    | [], _, h, _ => cases h
    | _ :: _ :: _, _, h, _ => cases h
    | [_], [], _, ha => exact ha.elim
    | [_], _ :: _ :: _, _, ha => exact ha.2.elim
theorem withOk_r {φ : Ph} {ok : Bool} {c : Bool} {v u : V} {y : Value} (h : withOk c v ok = some u) (hv : Vr φ v y) : Vr φ u (if c then .tuple #[y, .bool ok] else y) := by
  unfold withOk at h
  split at h
  · cases h; simpa using hv
  · split at h
    · rename_i w hw
      cases h
      exact ⟨[y, .bool ok], by simp, toU_r hw hv, rfl, trivial⟩
    · cases h

theorem zero_run {P : Program} {t : TypeId} {ag : Bool} {zs : List S} (hz : zeroOf P t = some zs) (hi : zeroIs P t ag = true) (w : World) : ∃ z, (zeroValue t).run P w = .ok z w ∧ ∀ φ v, valOf ag zs = some v → Vr φ v z := by
  unfold zeroOf at hz
  split at hz
  · rename_i i hinf
    split at hz
    · rename_i z hzv
      refine ⟨z, by simp [zeroValue, typeInfo, hinf, hzv], fun φ v hv => ?_⟩
      have hall := toSs_r (φ := φ) hz
      simp only [zeroIs, hinf, hzv] at hi
      have := valOf_r hv hall
      cases ag <;> cases z <;> simp only [notB] at hi <;> first | (cases hi; done) | (simpa [valV, Value.cells] using this)
    · cases hz
  · cases hz

/-! ### a map made -/
theorem kMakeMap_ok {P : Program} {env : List V} {n : Nat} {L : Hp} {t : TypeId} {x : Option Operand} {r : R} {o : Oper} (ho : o.op = .makeMap t x) (h : kMakeMap P n t (x.map (ev env)) = some r) : OutR P o env n L r := by
  unfold kMakeMap at h
  split at h
  · rename_i kt et hty
    split at h
    · rename_i ag sz ht hx
      cases h
      refine ⟨?_, Nat.le_succ _⟩
      have e : puts (res ([] : List Nat) L) [(n, some { cells := [], ty := 0, kind := some ⟨sz, ag, [], 0⟩ })] = put [] n (some { cells := [], ty := 0, kind := some ⟨sz, ag, [], 0⟩ }) := by simp [res, puts]
      rw [e]
      refine OpL.fresh (L := []) (by simp [lk]) fun φ a w hop _ => ?_
      have hrun : (Instr.makeMap t (x.map a.eval)).run P w = .ok (.map (some w.heap.size)) { w with heap := w.heap.push (.map #[] 0) } := by
        cases x with
        | none => simp [Instr.makeMap, newObj, Sem.run]
        | some y => cases hx
      refine ⟨.map (some w.heap.size), { w with heap := w.heap.push (.map #[] 0) }, ?_, rfl, rfl, rfl, ⟨_, rfl⟩, ?_, fun φ' hn _ => ⟨_, hn, rfl, rfl⟩⟩
      · simp only [execOp, ho]
        rw [Sem.run_bind, hrun]; rfl
      · exact ⟨[], [], [], (0, 0), by simp [objOf, ents], rfl, trivial, fun _ => rfl, fun _ o ho => by simp at ho, ⟨fun g z e => (by cases e), fun g e => (by cases e)⟩⟩
    · cases h
  · cases h

/-! ### a look-up -/
theorem kLookup_ok {P : Program} {env : List V} {n : Nat} {L : Hp} {t : TypeId} {x ix : Operand} {ok : Bool} {r : R} {o : Oper} (ho : o.op = .lookup t x ix ok) (h : kLookup P n L t (ev env x) (ev env ix) ok = some r) : OutR P o env n L r := by
  unfold kLookup at h
  split at h
  · rename_i kt et hty
    split at h
    · rename_i d ag sz zs hd ht hz
      split at h
      · rename_i key hix
        split at h
        · rename_i hk
          simp only [Bool.and_eq_true] at hk
          obtain ⟨hk, hzi⟩ := hk
          have base : ∀ (foot : List Nat) (v : V), (∀ φ (a : Act) (w : World), Good φ (res foot L) w → Vr φ (ev env x) (a.eval x) → Sr φ key (a.eval ix) → ∃ y, (Instr.lookup t (a.eval x) (a.eval ix) ok).run P w = .ok y w ∧ Vr φ v y) → OutR P o env n L ⟨foot, v, [], n⟩ := by
            intro foot v hrun
            refine ⟨OpL.light fun φ a w hop hg => ?_, Nat.le_refl _⟩
            have g1 := hop x (by simp [ho, Op.operands])
            have g2 := hop ix (by simp [ho, Op.operands])
            rw [hix] at g2
            obtain ⟨y, hy, hr⟩ := hrun φ a w hg g1 g2
            exact ⟨y, by simp only [execOp, ho]; rw [Sem.run_bind, hy]; rfl, hr⟩
          split at h
          · rename_i hx
            split at h
            · rename_i v hv
              split at h
              · rename_i u hu
                cases h
                refine base [] u fun φ a w hg g1 g2 => ?_
                rw [hx] at g1
                simp only [Vr, Sr] at g1
                obtain ⟨z, hzr, hzv⟩ := zero_run hz hzi w
                refine ⟨_, ?_, withOk_r hu (hzv φ v hv)⟩
                have hc := run_checkKey (P := P) (w := w) hd (keyOK_is hk g2) true 9999
                have hf := run_findKey (P := P) (w := w) (l := []) (a := none) hd (k := a.eval ix) rfl
                simp only [Instr.lookup, Sem.run_bind, Ab.run_underlying hty, Result.andThen_ok, g1, Sem.run_pure]
                simp [hc, hf, hzr]
              · cases h
            · cases h
          · rename_i i hx
            split at h
            · rename_i bl hl
              split at h
              · rename_i m hkd
                split at h
                · rename_i hchk
                  simp only [Bool.and_eq_true, notB_eq, Bool.not_eq_true'] at hchk
                  obtain ⟨⟨c1, c2⟩, c3⟩ := hchk
                  have c1 := eq_of_beq c1
                  have c2 := Nat.eq_of_beq_eq_true c2
                  subst c1; subst c2
                  -- what the world holds
                  have world : ∀ φ (a : Act) (w : World), Good φ (res [i] L) w → Vr φ (ev env x) (a.eval x) → ∃ b xs, a.eval x = .map (some b) ∧ w.heap[b]? = some (.map (ents m.agg m.w m.born xs).toArray m.clock) ∧ All2 (Sr φ) bl.cells xs := by
                    intro φ a w hg g1
                    rw [hx] at g1
                    obtain ⟨b, hb, hb2, hv⟩ := g1
                    obtain ⟨b', hb', hat⟩ := hg.hr i bl (by rw [lk_res]; simp [hl])
                    rw [hb] at hb'; cases hb'
                    obtain ⟨pre, xs, rest, fr, h1, hp, h2, h3, _⟩ := hat
                    rw [hb2] at hp
                    have := List.eq_nil_of_length_eq_zero hp
                    subst this
                    have := h3 c3
                    subst this
                    rw [hkd] at h1
                    exact ⟨b.1, xs, hv, by simpa [objOf] using h1, h2.mono fun _ _ => Sr.mono (bl.ph_le_self φ)⟩
                  split at h
                  · rename_i hf0
                    split at h
                    · rename_i v hv
                      split at h
                      · rename_i u hu
                        cases h
                        refine base [i] u fun φ a w hg g1 g2 => ?_
                        obtain ⟨b, xs, e1, e2, e3⟩ := world φ a w hg g1
                        obtain ⟨z, hzr, hzv⟩ := zero_run hz hzi w
                        refine ⟨_, ?_, withOk_r hu (hzv φ v hv)⟩
                        have hfn := findK_ok (d := d) hk g2 (ag := m.agg) e3 hf0
                        have hc := fun em => run_checkKey (P := P) (w := w) hd (keyOK_is hk g2) em 9999
                        have hf := run_findKey (P := P) (w := w) hd hfn
                        simp only [Instr.lookup, Sem.run_bind, Ab.run_underlying hty, Result.andThen_ok, e1, Go.MapKept.run_getObj_map e2, Sem.run_pure]
                        simp [hc, hf, hzr]
                      · cases h
                    · cases h
                  · rename_i j l hf0
                    split at h
                    · rename_i v hv
                      split at h
                      · rename_i u hu
                        cases h
                        refine base [i] u fun φ a w hg g1 g2 => ?_
                        obtain ⟨b, xs, e1, e2, e3⟩ := world φ a w hg g1
                        obtain ⟨q, q1, q2, q3, q4, ⟨e, f1, f2, f3, f4⟩, _⟩ := findK_ok (d := d) hk g2 (ag := m.agg) e3 hf0
                        have hall : All2 (Sr φ) l ((xs.drop (q * (m.w + 1) + 1)).take m.w) := by rw [q3]; exact (e3.drop _).take _
                        have hval := valOf_r hv hall
                        have hev : valV m.agg ((xs.drop (q * (m.w + 1) + 1)).take m.w) = e.val := by
                          rw [f4]; rfl
                        rw [hev] at hval
                        refine ⟨_, ?_, withOk_r hu hval⟩
                        have hc := fun em => run_checkKey (P := P) (w := w) hd (keyOK_is hk g2) em 9999
                        have hf := run_findKey (P := P) (w := w) hd f2
                        simp only [Instr.lookup, Sem.run_bind, Ab.run_underlying hty, Result.andThen_ok, e1, Go.MapKept.run_getObj_map e2, Sem.run_pure]
                        simp [hc, hf]
                      · cases h
                    · cases h
                  · cases h
                · cases h
              · cases h
            · cases h
          · cases h
        · cases h
      · cases h
    · cases h
  · cases h

/-! ### a map written -/
theorem setL_cons0 {α : Type} (k : α) (vs : List α) : ∀ (x : α) (t : List α), setL (x :: t) 0 (k :: vs) = k :: setL t 0 vs := by
  intro x t
  have h1 : ∀ (vs : List α) (k : α) (t : List α) (o : Nat), setL (k :: t) (o + 1) vs = k :: setL t o vs := by
    intro vs
    induction vs with
    | nil => intro k t o; rfl
    | cons v r ih => intro k t o; simp only [setL, List.set_cons_succ]; exact ih k _ _
  simp only [setL, List.set_cons_zero]
  exact h1 vs k t 0
theorem setL_cons_succ {α : Type} : ∀ (vs : List α) (k : α) (t : List α) (o : Nat), setL (k :: t) (o + 1) vs = k :: setL t o vs
  | [], _, _, _ => rfl
  | v :: r, k, t, o => by simp only [setL, List.set_cons_succ]; exact setL_cons_succ r k _ _
theorem setL_zero {α : Type} : ∀ (vs t : List α), vs.length ≤ t.length → setL t 0 vs = vs ++ t.drop vs.length
  | [], t, _ => rfl
  | v :: r, [], h => by simp at h
  | v :: r, x :: t, h => by rw [setL_cons0, setL_zero r t (by simpa using h)]; rfl
theorem setL_shift {α : Type} (vs : List α) : ∀ (w : Nat) (t : List α) (o : Nat), w ≤ t.length → setL t (w + o) vs = t.take w ++ setL (t.drop w) o vs
  | 0, t, o, _ => by simp
  | w + 1, [], o, h => by simp at h
  | w + 1, x :: t, o, h => by
    rw [show w + 1 + o = (w + o) + 1 by omega, setL_cons_succ, setL_shift vs w t o (by simpa using h)]; rfl

theorem ents_set {ag : Bool} {w : Nat} {kv : Value} {vs : List Value} (hvs : vs.length = w) : ∀ {q : Nat} {born : List Nat} {xs : List Value}, q < born.length → q * (w + 1) + 1 + w ≤ xs.length →
    ents ag w born (setL xs (q * (w + 1)) (kv :: vs)) = (ents ag w born xs).modify q (fun e => { e with key := kv, val := valV ag vs })
  | _, [], _, h, _ => by simp at h
  | _, _ :: _, [], _, h => by simp at h
  | 0, b :: bs, x :: t, _, h => by
    have hw : w ≤ t.length := by simp at h; omega
    rw [Nat.zero_mul, setL_cons0, setL_zero _ _ (by rw [hvs]; exact hw)]
    simp only [ents, List.modify_zero_cons, hvs]
    rw [List.take_append_of_le_length (by omega), List.take_of_length_le (by omega), List.drop_append_of_le_length (by omega), List.drop_of_length_le (by omega)]
    cases ag <;> simp [valV]
  | q + 1, b :: bs, x :: t, hq, h => by
    have hw : w ≤ t.length := by simp [Nat.add_mul] at h; omega
    rw [show (q + 1) * (w + 1) = (w + q * (w + 1)) + 1 by rw [Nat.add_mul]; omega, setL_cons_succ, setL_shift _ _ _ _ hw]
    have hlen : (t.take w).length = w := by simp; omega
    simp only [ents, List.modify_succ_cons]
    rw [List.take_append_of_le_length (by omega), List.take_of_length_le (by omega), List.drop_append_of_le_length (by omega), List.drop_of_length_le (by omega), List.nil_append,
      ents_set hvs (by simpa using hq) (by simp only [List.length_drop, List.length_cons, Nat.add_mul] at h ⊢; omega)]
theorem ents_push {ag : Bool} {w : Nat} {kv : Value} {vs : List Value} (hvs : vs.length = w) {clock : Nat} : ∀ {born : List Nat} {xs : List Value}, xs.length = born.length * (w + 1) →
    ents ag w (born ++ [clock]) (xs ++ (kv :: vs)) = ents ag w born xs ++ [{ key := kv, val := valV ag vs, born := clock }]
  | [], [], _ => by
    simp only [List.nil_append, ents]
    rw [List.take_of_length_le (by omega)]
    cases ag <;> rfl
  | [], _ :: _, h => by simp at h
  | b :: bs, [], h => by simp [Nat.add_mul] at h
  | b :: bs, x :: t, h => by
    have hw : w ≤ t.length := by simp [Nat.add_mul] at h; omega
    simp only [List.cons_append, ents]
    rw [List.take_append_of_le_length hw, List.drop_append_of_le_length hw, ents_push hvs (by simp only [List.length_drop, List.length_cons, Nat.add_mul] at h ⊢; omega)]
theorem findK_len {key : S} {w : Nat} : ∀ {born : List Nat} {cs : List S} {i : Nat}, findK key w born cs i = some none → cs.length = born.length * (w + 1)
  | [], [], _, _ => by simp
  | [], _ :: _, _, h => by simp [findK] at h
  | _ :: _, [], _, h => by simp [findK] at h
  | b :: bs, c :: cs, i, h => by
    simp only [findK] at h
    split at h
    · rename_i hle
      have hle := Nat.le_of_ble_eq_true hle
      split at h
      · cases h
      · have := findK_len h
        simp only [List.length_drop, List.length_cons, Nat.add_mul] at this ⊢
        omega
      · cases h
    · cases h

/-- an object that a block is laid in, set anew -/
theorem obj_good {φ : Ph} {w : World} {i : Nat} {b : Nat × Nat} {bl : Bl} {cs' : List S} {kd : Option MapK} {xs' : List Value} (hg : Good φ [(i, some bl)] w) (hb : φ i = some b) (hb2 : b.2 = 0) (hro : bl.ro = false) (hfl : bl.flat = false) (hgh : bl.gh = none) (hxs : All2 (Sr φ) cs' xs') :
    Good φ [(i, some { bl with cells := cs', kind := kd })] { w with heap := w.heap.setIfInBounds b.1 (objOf kd xs' bl.ty (0, 0)) } ∧ Stp φ [(i, some bl)] w φ [(i, some { bl with cells := cs', kind := kd })] { w with heap := w.heap.setIfInBounds b.1 (objOf kd xs' bl.ty (0, 0)) } := by
  obtain ⟨b', hb', hat⟩ := hg.hr i bl (by simp [lk])
  rw [hb] at hb'; cases hb'
  have hlt := hat.lt
  obtain ⟨_, _, _, _, _, _, _, _, _, _, habs⟩ := hat
  have one : ∀ (c : Bl) j bj, lk [(i, some c)] j = some bj → j = i ∧ bj = c := by
    intro c j bj hj
    rw [lk_cons] at hj
    split at hj
    · rename_i e; cases hj; exact ⟨e.symm, rfl⟩
    · simp [lk] at hj
  refine ⟨⟨?_, ?_⟩, ⟨rfl, rfl, rfl, by simp, ?_, ?_⟩⟩
  · intro j bj hj
    obtain ⟨rfl, rfl⟩ := one _ _ _ hj
    refine ⟨b, hb, [], xs', [], (0, 0), ?_, by rw [hb2]; rfl, ?_, fun _ => rfl, fun _ o _ => by simp, ⟨fun g z e => (by simp only [hgh] at e; cases e), habs⟩⟩
    · simp [hlt]
    · have : ({ bl with cells := cs', kind := kd } : Bl).ph φ = φ := by unfold Bl.ph; simp only [hfl]
      rw [this]; exact hxs
  · intro j k bj bk c c' hj hk _ _ _
    obtain ⟨rfl, _⟩ := one _ _ _ hj
    obtain ⟨rfl, _⟩ := one _ _ _ hk
    exact .inl rfl
  · intro c _ hn
    have : c ≠ b.1 := fun e => hn ⟨i, bl, b, by simp [lk], hb, e.symm, hro⟩
    simp [Array.getElem?_setIfInBounds_ne (Ne.symm this)]
  · intro j bj c hj hc _
    obtain ⟨rfl, rfl⟩ := one _ _ _ hj
    exact ⟨j, bl, c, by simp [lk], hc, rfl, fun e => e, .inl rfl⟩

theorem isKey_same {d : TypeDesc} {u v : Value} (hk : IsKey d u) (h : Instr.sameNow d u v = some true) : v = u := by
  cases d <;> cases u <;> simp only [IsKey] at hk <;> cases v <;> simp [Instr.sameNow] at h
  · rw [h]
  · obtain ⟨rfl, h⟩ := h; rw [h]
  · have := (bytes_beq _ _).1 h; rw [this]

theorem kMapUp_ok {P : Program} {env : List V} {n : Nat} {L : Hp} {t : TypeId} {x ix y : Operand} {r : R} {o : Oper} (ho : o.op = .mapUpdate t x ix y) (h : kMapUp P n L t (ev env x) (ev env ix) (ev env y) = some r) : OutR P o env n L r := by
  unfold kMapUp at h
  split at h
  · rename_i kt et hty
    split at h
    · rename_i d ag sz hd ht
      split at h
      · rename_i key i l hix hx hcl
        split at h
        · rename_i bl hl
          split at h
          · rename_i m hkd
            split at h
            · rename_i hchk
              simp only [Bool.and_eq_true, notB_eq, Bool.not_eq_true', Option.isNone_iff_eq_none] at hchk
              obtain ⟨⟨⟨⟨⟨⟨⟨⟨⟨hk, c1⟩, c2⟩, c3⟩, c4⟩, c5⟩, c6⟩, c7⟩, c8⟩, c9⟩ := hchk
              have c1 := eq_of_beq c1
              have c2 := Nat.eq_of_beq_eq_true c2
              have c6 := Nat.eq_of_beq_eq_true c6
              subst c1; subst c2
              have e1 : res [i] L = [(i, some bl)] := by simp [res, hl]
              -- what comes of the world
              have fin : ∀ (cs : List S) (kd : Option MapK), (∀ φ (a : Act) (w : World) (b : Nat) (xs : List Value) (kv : Value) (vs : List Value), a.eval x = .map (some b) → a.eval ix = kv → Sr φ key kv → (a.eval y).cells.toList = vs → a.eval y = valV m.agg vs → All2 (Sr φ) l vs → vs.length = m.w →
                    w.heap[b]? = some (.map (ents m.agg m.w m.born xs).toArray m.clock) → All2 (Sr φ) bl.cells xs →
                    ∃ xs', All2 (Sr φ) cs xs' ∧ (Instr.mapUpdate t (a.eval x) (a.eval ix) (a.eval y)).run P w = .ok () { w with heap := w.heap.setIfInBounds b (objOf kd xs' bl.ty (0, 0)) }) → OutR P o env n L ⟨[i], .undef, [(i, some { bl with cells := cs, kind := kd })], n⟩ := by
                intro cs kd hrun
                refine ⟨?_, Nat.le_refl _⟩
                intro φ a w Q hop hg hf
                have g1 := hop x (by simp [ho, Op.operands])
                have g2 := hop ix (by simp [ho, Op.operands])
                have g3 := hop y (by simp [ho, Op.operands])
                rw [hx] at g1; rw [hix] at g2
                obtain ⟨b, hb, hb2, hv⟩ := g1
                have hg' : Good φ [(i, some bl)] w := by rw [e1] at hg; exact hg
                obtain ⟨b', hb', hat⟩ := hg'.hr i bl (by simp [lk])
                rw [hb] at hb'; cases hb'
                obtain ⟨pre, xs, rest, fr, h1, hp, h2, h3, _⟩ := hat
                rw [hb2] at hp
                have := List.eq_nil_of_length_eq_zero hp
                subst this
                have := h3 c3
                subst this
                rw [hkd] at h1
                have hall := cellsOf_r hcl g3
                have hyv : a.eval y = valV m.agg (a.eval y).cells.toList := by
                  cases hev : ev env y with
                  | s s =>
                    rw [hev] at g3 hcl c7
                    simp only [notB, Bool.not_eq_true'] at c7
                    have hj : isJ s = false := by
                      simp only [cellsOf] at hcl
                      split at hcl
                      · assumption
                      · cases hcl
                    have := cells_of_cell (Sr.cell g3 hj)
                    rw [this]
                    cases hag : m.agg with
                    | true => rw [hag] at c7; cases c7
                    | false => rfl
                  | agg q =>
                    rw [hev] at g3 c7
                    obtain ⟨zs, hz, _⟩ := g3
                    simp only at c7
                    rw [hz, c7]; simp [valV, Value.cells]
                  | _ => rw [hev] at hcl; simp [cellsOf] at hcl
                obtain ⟨xs', hxs', hrun'⟩ := hrun φ a w b.1 xs (a.eval ix) _ hv rfl g2 rfl hyv hall (by rw [hall.len]; exact c6) (by simpa [objOf] using h1) (h2.mono fun _ _ => Sr.mono (bl.ph_le_self φ))
                obtain ⟨good, stp⟩ := obj_good (cs' := cs) (kd := kd) (xs' := xs') hg' hb hb2 c4 c5 c9 hxs'
                have e2 : puts (res [i] L) [(i, some { bl with cells := cs, kind := kd })] = [(i, some { bl with cells := cs, kind := kd })] := by rw [e1]; simp [puts, put]
                unfold Oper.wp
                have : (execOp a.eval o).run P w = .ok .skip { w with heap := w.heap.setIfInBounds b.1 (objOf kd xs' bl.ty (0, 0)) } := by
                  simp only [execOp, ho]
                  rw [Sem.run_bind, hrun']; rfl
                rw [this, Oper.upon_skip]
                exact ⟨φ, Go.undef, rfl, rfl, by rw [e2]; exact good, by rw [e2, e1]; exact stp, fun _ _ => rfl⟩
              split at h
              · rename_i hf0
                rw [frc_eq, frc_eq] at h
                cases h
                refine fin _ _ fun φ a w b xs kv vs e1 e2 e3 e4 e5 e6 e7 e8 e9 => ?_
                refine ⟨xs ++ (kv :: vs), e9.append ⟨e3, e6⟩, ?_⟩
                have hlen : xs.length = m.born.length * (m.w + 1) := by rw [e9.len]; exact findK_len hf0
                have hfn := findK_ok (d := d) hk e3 (ag := m.agg) e9 hf0
                have hc := run_checkKey (P := P) (w := w) hd (keyOK_is hk e3) false 9999
                have hf := run_findKey (P := P) (w := w) hd hfn
                simp only [Instr.mapUpdate, Sem.run_bind, Ab.run_underlying hty, Result.andThen_ok, e1, Go.MapKept.run_getObj_map e8, e2, hc, hf]
                rw [run_setObj_map _ e8]
                simp only [objOf, ents_push e7 hlen, e5]
                simp
              · rename_i j l' hf0
                rw [frc_eq] at h
                cases h
                rw [show ({ bl with cells := setL bl.cells (j * (m.w + 1)) (key :: l) } : Bl) = { bl with cells := setL bl.cells (j * (m.w + 1)) (key :: l), kind := some m } by rw [← hkd]]
                refine fin _ _ fun φ a w b xs kv vs e1 e2 e3 e4 e5 e6 e7 e8 e9 => ?_
                obtain ⟨q, q1, q2, q3, q4, ⟨e, f1, f2, f3, f4⟩, q5⟩ := findK_ok (d := d) hk e3 (ag := m.agg) e9 hf0
                rw [Nat.zero_add] at q1
                subst q1
                refine ⟨setL xs (j * (m.w + 1)) (kv :: vs), setL_r _ e9 ⟨e3, e6⟩, ?_⟩
                have hc := run_checkKey (P := P) (w := w) hd (keyOK_is hk e3) false 9999
                have hf := run_findKey (P := P) (w := w) hd f2
                have hold : e.key = kv := by
                  rw [f3]
                  have hlt : j * (m.w + 1) < bl.cells.length := by omega
                  obtain ⟨z, hz, hzr⟩ := e9.get (i := j * (m.w + 1)) (a := bl.cells[j * (m.w + 1)]) (by simp [hlt])
                  have hgd : bl.cells.getD (j * (m.w + 1)) .unk = bl.cells[j * (m.w + 1)] := by simp [List.getD, hlt]
                  rw [hgd] at q5
                  have := isKey_same (keyOK_is hk e3) (sameK_ok hk q5 e3 hzr)
                  simp only [List.getD_eq_getElem?_getD, hz, Option.getD_some, this]
                have hkey : (((ents m.agg m.w m.born xs).toArray[j]?).map (·.key)).getD kv = kv := by simp [f1, hold]
                have hst := run_keyThatStays (P := P) (w := w) (keyOK_is hk e3)
                simp only [Instr.mapUpdate, Sem.run_bind, Ab.run_underlying hty, Result.andThen_ok, e1, Go.MapKept.run_getObj_map e8, e2, hc, hf, hkey, hst]
                rw [run_setObj_map _ e8]
                simp only [objOf, ents_set e7 q2 (by rw [e9.len]; exact q4), e5]
                congr 4
                apply Array.ext'
                simp [Array.toList_modify]
              · cases h
            · cases h
          · cases h
        · cases h
      · cases h
    · cases h
  · cases h

/-! ### zeros appended to nil -/
theorem kAppZ_ok {P : Program} {env : List V} {n : Nat} {L : Hp} {o : Oper} {c : Call} {d x : Operand} {r : R} (ho : o.op = .call c) (hc : c.callee = .builtin .append) (hargs : c.args.toList = [d, x]) (h : kAppZ P c.argTypes n (ev env d) (ev env x) = some r) : OutR P o env n L r := by
  unfold kAppZ at h
  split at h
  · rename_i t tx ht0 ht1
    split at h
    · rename_i e ik ht htx
      split at h
      · rename_i inf zs hi hz
        split at h
        · rename_i ln cp kk z hd hx
          split at h
          · rename_i m hm
            split at h
            · rename_i hck
              rw [frc_eq] at h
              cases h
              simp only [Bool.and_eq_true] at hck
              obtain ⟨⟨⟨⟨c1, c2⟩, c3⟩, c4⟩, c5⟩ := hck
              have c1 := Nat.eq_of_beq_eq_true c1
              have c2 := Nat.le_of_ble_eq_true c2
              have c3 := Nat.le_of_ble_eq_true c3
              have c4 := Nat.le_of_ble_eq_true c4
              have c5 := Nat.le_of_ble_eq_true c5
              have hzm := natOf_eq hm
              subst hzm
              refine ⟨?_, Nat.le_add_right _ _⟩
              have hmv := OpL.moved (P := P) (o := o) (env := env) (n := n) (M := res [] L) (bi := none) (r := m) (bl' := { cells := rep m zs, ty := e, more := true, gh := some (n + 1, inf.size) }) (fun φ a w hop hg => ?_) rfl
              · simpa [dropB] using hmv
              have opd : d ∈ o.op.operands := by rw [ho]; simp only [Op.operands, Call.operands, hc]; simp [← Array.mem_toList_iff, hargs]
              have opx : x ∈ o.op.operands := by rw [ho]; simp only [Op.operands, Call.operands, hc]; simp [← Array.mem_toList_iff, hargs]
              have g1 := hop d opd
              have g2 := hop x opx
              rw [hd] at g1; rw [hx] at g2
              obtain ⟨_, _, hv⟩ := g1
              simp only [Vr, Sr] at g2
              obtain ⟨zv, hzv⟩ : ∃ zv, inf.zero = some zv := by
                unfold zeroOf at hz
                rw [hi] at hz
                simp only at hz
                split at hz
                · rename_i v hv; exact ⟨v, hv⟩
                · cases hz
              have hzc : ∀ φ, All2 (Sr φ) zs zv.cells.toList := by
                intro φ
                unfold zeroOf at hz
                rw [hi] at hz
                simp only [hzv] at hz
                exact toSs_r hz
              have hzl : zv.cells.size = inf.size := by rw [← Array.length_toList, (hzc φ).len, c1]
              have hsz : ∀ w, (sizeOf e).run P w = .ok inf.size w := fun w => by simp [sizeOf, typeInfo, hi]
              have hti : ∀ w, (typeInfo e).run P w = .ok inf w := fun w => by simp [typeInfo, hi]
              have hzr : ∀ w, (zeroValue e).run P w = .ok zv w := fun w => by simp [zeroValue, typeInfo, hi, hzv]
              have hwr : IntKind.i64.wrap (m : Int) = (m : Int) := i64_in (by omega) (by omega)
              have q1 : ¬ ((m : Int) < 0) := by omega
              have q2 : ¬ ((m : Int) * (inf.bytes : Int) > 2 ^ 48) := by
                have e48 : (2 : Int) ^ 48 = 281474976710656 := by decide
                rw [e48]
                have : (m : Int) * (inf.bytes : Int) = ((m * inf.bytes : Nat) : Int) := by simp
                rw [this]; omega
              have q3 : ¬ (0 + m ≤ 0) := by omega
              have q4 : ¬ (((0 + m : Nat) : Int) > IntKind.i64.max ∧ (True ∨ inf.bytes = 0)) := by
                have : IntKind.i64.max = 9223372036854775807 := by decide
                rw [this]; omega
              have q5 : ¬ (Builtin.nextslicecap (0 + m) 0 * inf.bytes > 2 ^ 48) := by
                have : Builtin.nextslicecap (0 + m) 0 = m := by unfold Builtin.nextslicecap; rw [if_pos (by omega)]; omega
                have e48 : (2 : Nat) ^ 48 = 281474976710656 := by decide
                rw [this, e48]; omega
              have q6 : ¬ (m * inf.size = 0) := by
                have : 1 * 1 ≤ m * inf.size := Nat.mul_le_mul c2 c3
                omega
              have ea : c.args.map a.eval = #[a.eval d, a.eval x] := by apply Array.ext'; simp [hargs]
              let cap := (Question.appendCap (0 + m) 0 e).cut (w.tape w.drawn (.appendCap (0 + m) 0 e))
              have hcap : m ≤ cap := by simp only [cap, Question.cut]; omega
              have hrun : (Builtin.append_ c.argTypes o.type #[a.eval d, a.eval x]).run P w = .ok (.slice (some ⟨w.heap.size, 0, none⟩) (0 + m) cap) { w with drawn := w.drawn + 1, heap := w.heap.push (.cells (#[] ++ Builtin.zeroCells zv.cells m ++ Builtin.zeroCells zv.cells (cap - (0 + m))) e) } := by
                unfold Builtin.append_
                simp only [ht0, ht1, hv, g2, List.getElem?_toArray, List.getElem?_cons_zero, List.getElem?_cons_succ, Sem.run_bind, Ab.run_underlying ht, Ab.run_underlying htx, Result.andThen_ok, hsz, Sem.run_pure,
                  asInt, asIntOf, hwr, if_true, if_neg q1, if_neg q2, hti, Int.toNat_natCast, if_neg q3, if_neg q4, if_neg q5, run_choose, Question.forced, run_askRoom, Builtin.firstCells, Bool.not_true, Bool.false_eq_true, if_false, if_neg q6, hzr, newRow, run_newObj]
                rfl
              refine ⟨(w.heap.size, 0), cap, { w with drawn := w.drawn + 1, heap := w.heap.push (.cells (#[] ++ Builtin.zeroCells zv.cells m ++ Builtin.zeroCells zv.cells (cap - (0 + m))) e) }, by simp only [execOp, ho, resolve, hc, Sem.run_bind, Sem.run_pure, Result.andThen_ok, invoke, builtin, ea, hrun, Nat.zero_add], rfl, rfl, rfl, hcap, by simp, fun c' hc' _ => ?_, fun h => absurd h (Nat.lt_irrefl _), fun φ' hle hk' => ?_⟩
              · show (w.heap.push _)[c']? = _
                rw [Array.getElem?_push_lt hc']; simp [hc']
              · refine ⟨[], (Builtin.zeroCells zv.cells m).toList, (Builtin.zeroCells zv.cells (cap - (0 + m))).toList, (0, 0), ?_, rfl, ?_, (fun e => by cases e), (fun _ o' ho' => by simp), ⟨fun g z' e' => ?_, fun g e' => (by cases e')⟩⟩
                · show (w.heap.push _)[w.heap.size]? = _
                  simp [objOf]
                · have := rep_r (hzc φ') m
                  simpa [Bl.ph, Builtin.zeroCells] using this
                · simp only [Option.some.injEq, Prod.mk.injEq] at e'
                  obtain ⟨rfl, rfl⟩ := e'
                  refine ⟨cap, hk', ?_⟩
                  simp only [List.length_append, Array.length_toList, zeroCells_size, hzl]
                  rw [← Nat.add_mul]
                  exact Nat.mul_le_mul_right _ (by omega)
            · cases h
          · cases h
        · cases h
      · cases h
    · cases h
  · cases h

theorem maxI_eq (a b : Int) : maxI a b = if b > a then b else a := by
  unfold maxI
  rw [ltI_eq]
  by_cases h : a < b
  · simp [h]
  · simp [h]
theorem kMax3_ok {P : Program} {env : List V} {n : Nat} {L : Hp} {o : Oper} {c : Call} {x y z : Operand} {s : S} (ho : o.op = .call c) (hc : c.callee = .builtin .max) (hargs : c.args.toList = [x, y, z]) (h : kMax3 (ev env x) (ev env y) (ev env z) = some s) : OutR P o env n L ⟨[], .s s, [], n⟩ := by
  unfold kMax3 at h
  split at h
  · rename_i k a k' b k'' cc hx hy hz
    cases h
    refine ⟨OpL.light fun φ act w hop _ => ?_, Nat.le_refl _⟩
    have ea : c.args.map act.eval = #[act.eval x, act.eval y, act.eval z] := by apply Array.ext'; simp [hargs]
    have op : ∀ q ∈ [x, y, z], q ∈ o.op.operands := fun q hq => by
      have hq' : q ∈ c.args := by rw [← Array.mem_toList_iff, hargs]; exact hq
      rw [ho]; simp only [Op.operands, Call.operands, hc]; simp [hq']
    have g1 := hop x (op x (by simp)); have g2 := hop y (op y (by simp)); have g3 := hop z (op z (by simp))
    rw [hx] at g1; rw [hy] at g2; rw [hz] at g3
    simp only [Vr, Sr] at g1 g2 g3
    refine ⟨.int k (maxI (maxI a b) cc), ?_, rfl⟩
    simp only [execOp, ho, resolve, hc, Sem.run_bind, Sem.run_pure, Result.andThen_ok, invoke, builtin, ea, g1, g2, g3, Builtin.max_, maxI_eq]
    simp [Builtin.max2]
  · cases h

theorem kx_ok (P : Program) : KxOK P (kx P) := by
  intro o env n L r h
  unfold kx at h
  split at h
  · rename_i t x ix ok ho; exact kLookup_ok ho h
  · rename_i t m k v ho; exact kMapUp_ok ho h
  · rename_i t r' ho; exact kMakeMap_ok ho h
  · rename_i c ho
    split at h
    · rename_i r' hr; cases h; exact kop_ok hr
    · split at h
      · rename_i x y hc hargs; exact kAppZ_ok ho hc hargs h
      · rename_i x y z hc hargs
        obtain ⟨s, hs, rfl⟩ := lgt_some h
        exact kMax3_ok ho hc hargs hs
      · cases h
  · exact kop_ok h

end Ab
end Go.Proofs.YtbokilgdefkmiaaGreatDoor
