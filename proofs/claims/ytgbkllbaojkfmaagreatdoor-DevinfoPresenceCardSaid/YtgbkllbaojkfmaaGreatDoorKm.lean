/-
  The quick machine, part 10: maps, zeros appended, the greatest of three: what they come to is true.
-/
import Derived.Test.YtgbkllbaojkfmaaGreatDoorKh
set_option linter.unusedSimpArgs false
set_option linter.unusedVariables false
namespace Go.Proofs.YtgbkllbaojkfmaaGreatDoor
namespace Ab
open Go Go.MapKept
set_option maxRecDepth 100000

/-! ### keys -/
theorem keyOK_is {φ : Ph} {d : TypeDesc} {x : S} {v : Value} (h : keyOK d x = true) (hv : Sr φ x v) : IsKey d v := by
  unfold keyOK at h
  split at h
  · simp only [Sr] at hv; subst hv; exact (kEq_ok h).symm
  · simp only [Sr] at hv; subst hv; trivial
  · cases h
theorem bytesEq (x y : List UInt8) : ((⟨x.toArray⟩ : ByteArray) == ⟨y.toArray⟩) = decide (x = y) := by
  by_cases h : x = y
  · subst h; simp only [decide_true]; exact (bytes_beq _ _).2 rfl
  · have hne : ¬ ((⟨x.toArray⟩ : ByteArray) = ⟨y.toArray⟩) := fun e => h (by
      have := congrArg ByteArray.data e
      simpa using this)
    simp only [h, decide_false]
    cases hb : ((⟨x.toArray⟩ : ByteArray) == ⟨y.toArray⟩) with
    | false => rfl
    | true => exact absurd ((bytes_beq _ _).1 hb) hne
theorem sameK_ok {φ φ' : Ph} {d : TypeDesc} {a b : S} {u v : Value} {r : Bool} (hk : keyOK d a = true) (h : sameK a b = some r) (hu : Sr φ a u) (hv : Sr φ' b v) : Instr.sameNow d u v = some r := by
  unfold sameK at h
  split at h
  · split at h
    · rename_i k x k' y hkk
      cases h
      have := kEq_ok hkk; subst this
      simp only [Sr] at hu hv; subst hu; subst hv
      unfold keyOK at hk
      split at hk
      · rename_i e; cases e; simp only [Instr.sameNow, if_true, eqI_eq]
      · rename_i e; cases e
      · cases hk
    · cases h
  · rename_i x y
    cases h
    simp only [Sr] at hu hv; subst hu; subst hv
    unfold keyOK at hk
    split at hk
    · rename_i e; cases e
    · simp only [Instr.sameNow, bytesEq, eqB_eq]
    · cases hk
  · cases h

theorem ents_length {ag : Bool} {w : Nat} : ∀ {born : List Nat} {xs : List Value}, xs.length = born.length * (w + 1) → (ents ag w born xs).length = born.length
  | [], [], _ => rfl
  | [], _ :: _, h => by simp at h
  | b :: bs, [], h => by simp [Nat.add_mul] at h
  | b :: bs, x :: t, h => by
    simp only [ents, List.length_cons]
    rw [ents_length (by simp only [List.length_drop, List.length_cons, Nat.add_mul] at h ⊢; omega)]

/-- a look-up in the flat list is a look-up among the entries -/
theorem findK_ok {φ φ' : Ph} {d : TypeDesc} {key : S} {kv : Value} (hk : keyOK d key = true) (hkv : Sr φ' key kv) {ag : Bool} {w : Nat} : ∀ {born : List Nat} {cs : List S} {xs : List Value} {i : Nat} {r : Option (Nat × List S)}, All2 (Sr φ) cs xs → findK key w born cs i = some r →
    match r with
    | none => Instr.findNow d kv (ents ag w born xs) i = some none
    | some (j, l) => ∃ q, j = i + q ∧ q < born.length ∧ l = (cs.drop (q * (w + 1) + 1)).take w ∧ q * (w + 1) + 1 + w ≤ cs.length ∧ (∃ e, (ents ag w born xs)[q]? = some e ∧ Instr.findNow d kv (ents ag w born xs) i = some (some (j, e.val)) ∧ e.key = xs.getD (q * (w + 1)) default ∧
        e.val = (match ag with | true => .agg ((xs.drop (q * (w + 1) + 1)).take w).toArray | false => ((xs.drop (q * (w + 1) + 1)).take w).headD default)) ∧ sameK key (cs.getD (q * (w + 1)) .unk) = some true
  | [], [], [], i, r, _, h => by simp only [findK] at h; cases h; rfl
  | [], [], _ :: _, i, r, ha, h => ha.elim
  | [], c :: cs, xs, i, r, ha, h => by simp [findK] at h
  | b :: bs, [], xs, i, r, ha, h => by simp [findK] at h
  | b :: bs, c :: cs, [], i, r, ha, h => ha.elim
  | b :: bs, c :: cs, x :: xs, i, r, ha, h => by
    simp only [findK] at h
    split at h
    · rename_i hle
      have hle := Nat.le_of_ble_eq_true hle
      split at h
      · rename_i hs
        cases h
        have hsn := sameK_ok hk hs hkv ha.1
        refine ⟨0, rfl, by simp, by simp, by simp; omega, ⟨_, rfl, by simp only [ents, Instr.findNow, hsn], by simp, by cases ag <;> simp⟩, by simpa using hs⟩
      · rename_i hs
        have hsn := sameK_ok hk hs hkv ha.1
        have ih := findK_ok (d := d) hk hkv (ag := ag) (ha.2.drop w) h
        cases r with
        | none => simp only [ents, Instr.findNow, hsn]; exact ih
        | some p =>
          obtain ⟨j, l⟩ := p
          obtain ⟨q, e1, e2, e3, e4, ⟨e, f1, f2, f3, f4⟩, e5⟩ := ih
          have hq : (q + 1) * (w + 1) = q * (w + 1) + (w + 1) := by rw [Nat.add_mul]; omega
          refine ⟨q + 1, by omega, by simp; omega, ?_, ?_, ⟨e, by simpa [ents] using f1, by simp only [ents, Instr.findNow, hsn]; exact f2, ?_, ?_⟩, ?_⟩
          · rw [e3, hq, List.drop_drop, show q * (w + 1) + (w + 1) + 1 = (w + (q * (w + 1) + 1)) + 1 by omega, List.drop_succ_cons]
          · simp only [List.length_drop, List.length_cons] at e4 ⊢; omega
          · rw [f3, hq]
            simp only [List.getD_eq_getElem?_getD, List.getElem?_drop]
            rw [show q * (w + 1) + (w + 1) = (w + q * (w + 1)) + 1 by omega, List.getElem?_cons_succ]
          · rw [f4, hq, List.drop_drop, show q * (w + 1) + (w + 1) + 1 = (w + (q * (w + 1) + 1)) + 1 by omega, List.drop_succ_cons]
          · rw [← e5, hq]
            simp only [List.getD_eq_getElem?_getD, List.getElem?_drop]
            rw [show q * (w + 1) + (w + 1) = (w + q * (w + 1)) + 1 by omega, List.getElem?_cons_succ]
      · cases h
    · cases h

def valV (ag : Bool) (xs : List Value) : Value := match ag with | true => .agg xs.toArray | false => xs.headD default
theorem valOf_r {φ : Ph} {ag : Bool} {l : List S} {v : V} {xs : List Value} (h : valOf ag l = some v) (ha : All2 (Sr φ) l xs) : Vr φ v (valV ag xs) := by
  cases ag with
  | true => simp only [valOf] at h; cases h; exact ⟨xs, rfl, ha⟩
  | false =>
    simp only [valOf] at h
    match l, xs, h, ha with
    | [x], [y], h, ha =>
      simp only at h
      split at h
      · cases h; exact ha.1
      · cases h
    | [], _, h, _ => cases h
    | _ :: _ :: _, _, h, _ => cases h
    | [_], [], _, ha => exact ha.elim
    | [_], _ :: _ :: _, _, ha => exact ha.2.elim
theorem withOk_r {φ : Ph} {ok : Bool} {c : Bool} {v u : V} {y : Value} (h : withOk c v ok = some u) (hv : Vr φ v y) : Vr φ u (if c then .tuple #[y, .bool ok] else y) := by
  unfold withOk at h
  split at h
  · cases h; simpa using hv
  · split at h
    · rename_i w hw
      cases h
      exact ⟨[y, .bool ok], by simp, toU_r hw hv, rfl, trivial⟩
    · cases h

theorem zero_run {P : Program} {t : TypeId} {ag : Bool} {zs : List S} (hz : zeroOf P t = some zs) (hi : zeroIs P t ag = true) (w : World) : ∃ z, (zeroValue t).run P w = .ok z w ∧ ∀ φ v, valOf ag zs = some v → Vr φ v z := by
  unfold zeroOf at hz
  split at hz
  · rename_i i hinf
    split at hz
    · rename_i z hzv
      refine ⟨z, by simp [zeroValue, typeInfo, hinf, hzv], fun φ v hv => ?_⟩
      have hall := toSs_r (φ := φ) hz
      simp only [zeroIs, hinf, hzv] at hi
      have := valOf_r hv hall
      cases ag <;> cases z <;> simp only [notB] at hi <;> first | (cases hi; done) | (simpa [valV, Value.cells] using this)
    · cases hz
  · cases hz

/-! ### a map made -/
theorem kMakeMap_ok {P : Program} {env : List V} {n : Nat} {L : Hp} {t : TypeId} {x : Option Operand} {r : R} {o : Oper} (ho : o.op = .makeMap t x) (h : kMakeMap P n t (x.map (ev env)) = some r) : OutR P o env n L r := by
  unfold kMakeMap at h
  split at h
  · rename_i kt et hty
    split at h
    · rename_i ag sz ht hx
      cases h
      refine ⟨?_, Nat.le_succ _⟩
      have e : puts (res ([] : List Nat) L) [(n, some { cells := [], ty := 0, kind := some ⟨sz, ag, [], 0, false⟩ })] = put [] n (some { cells := [], ty := 0, kind := some ⟨sz, ag, [], 0, false⟩ }) := by simp [res, puts]
      rw [e]
      refine OpL.fresh (L := []) (by simp [lk]) fun φ a w hop _ => ?_
      have hrun : (Instr.makeMap t (x.map a.eval)).run P w = .ok (.map (some w.heap.size)) { w with heap := w.heap.push (.map #[] 0) } := by
        cases x with
        | none => simp [Instr.makeMap, newObj, Sem.run]
        | some y => cases hx
      refine ⟨.map (some w.heap.size), { w with heap := w.heap.push (.map #[] 0) }, ?_, rfl, rfl, rfl, ⟨_, rfl⟩, ?_, fun φ' hn _ => ⟨_, hn, rfl, rfl⟩⟩
      · simp only [execOp, ho]
        rw [Sem.run_bind, hrun]; rfl
      · exact ⟨[], [], [], (0, 0), by simp [objOf, ents], rfl, trivial, fun _ => rfl, fun _ o ho => by simp at ho, ⟨fun g z e => (by cases e), fun g e => (by cases e)⟩⟩
    · cases h
  · cases h

/-! ### a look-up -/
theorem kLookup_ok {P : Program} {env : List V} {n : Nat} {L : Hp} {t : TypeId} {x ix : Operand} {ok : Bool} {r : R} {o : Oper} (ho : o.op = .lookup t x ix ok) (h : kLookup P n L t (ev env x) (ev env ix) ok = some r) : OutR P o env n L r := by
  unfold kLookup at h
  split at h
  · rename_i kt et hty
    split at h
    · rename_i d ag sz zs hd ht hz
      split at h
      · rename_i key hix
        split at h
        · rename_i hk
          simp only [Bool.and_eq_true] at hk
          obtain ⟨hk, hzi⟩ := hk
          have base : ∀ (foot : List Nat) (v : V), (∀ φ (a : Act) (w : World), Good φ (res foot L) w → Vr φ (ev env x) (a.eval x) → Sr φ key (a.eval ix) → ∃ y, (Instr.lookup t (a.eval x) (a.eval ix) ok).run P w = .ok y w ∧ Vr φ v y) → OutR P o env n L ⟨foot, v, [], n⟩ := by
            intro foot v hrun
            refine ⟨OpL.light fun φ a w hop hg => ?_, Nat.le_refl _⟩
            have g1 := hop x (by simp [ho, Op.operands])
            have g2 := hop ix (by simp [ho, Op.operands])
            rw [hix] at g2
            obtain ⟨y, hy, hr⟩ := hrun φ a w hg g1 g2
            exact ⟨y, by simp only [execOp, ho]; rw [Sem.run_bind, hy]; rfl, hr⟩
          split at h
          · rename_i hx
            split at h
            · rename_i v hv
              split at h
              · rename_i u hu
                cases h
                refine base [] u fun φ a w hg g1 g2 => ?_
                rw [hx] at g1
                simp only [Vr, Sr] at g1
                obtain ⟨z, hzr, hzv⟩ := zero_run hz hzi w
                refine ⟨_, ?_, withOk_r hu (hzv φ v hv)⟩
                have hc := run_checkKey (P := P) (w := w) hd (keyOK_is hk g2) true 9999
                have hf := run_findKey (P := P) (w := w) (l := []) (a := none) hd (k := a.eval ix) rfl
                simp only [Instr.lookup, Sem.run_bind, Ab.run_underlying hty, Result.andThen_ok, g1, Sem.run_pure]
                simp [hc, hf, hzr]
              · cases h
            · cases h
          · rename_i i hx
            split at h
            · rename_i bl hl
              split at h
              · rename_i m hkd
                split at h
                · rename_i hchk
                  simp only [Bool.and_eq_true, notB_eq, Bool.not_eq_true'] at hchk
                  obtain ⟨⟨⟨c1, c2⟩, c3⟩, c4⟩ := hchk
                  have c1 := eq_of_beq c1
                  have c2 := Nat.eq_of_beq_eq_true c2
                  subst c1; subst c2
                  -- what the world holds
                  have world : ∀ φ (a : Act) (w : World), Good φ (res [i] L) w → Vr φ (ev env x) (a.eval x) → ∃ b xs, a.eval x = .map (some b) ∧ w.heap[b]? = some (.map (ents m.agg m.w m.born xs).toArray m.clock) ∧ All2 (Sr φ) bl.cells xs := by
                    intro φ a w hg g1
                    rw [hx] at g1
                    obtain ⟨b, hb, hb2, hv⟩ := g1
                    obtain ⟨b', hb', hat⟩ := hg.hr i bl (by rw [lk_res]; simp [hl])
                    rw [hb] at hb'; cases hb'
                    obtain ⟨pre, xs, rest, fr, h1, hp, h2, h3, _⟩ := hat
                    rw [hb2] at hp
                    have := List.eq_nil_of_length_eq_zero hp
                    subst this
                    have := h3 c3
                    subst this
                    rw [hkd] at h1
                    exact ⟨b.1, xs, hv, by simpa [objOf, c4] using h1, h2.mono fun _ _ => Sr.mono (bl.ph_le_self φ)⟩
                  split at h
                  · rename_i hf0
                    split at h
                    · rename_i v hv
                      split at h
                      · rename_i u hu
                        cases h
                        refine base [i] u fun φ a w hg g1 g2 => ?_
                        obtain ⟨b, xs, e1, e2, e3⟩ := world φ a w hg g1
                        obtain ⟨z, hzr, hzv⟩ := zero_run hz hzi w
                        refine ⟨_, ?_, withOk_r hu (hzv φ v hv)⟩
                        have hfn := findK_ok (d := d) hk g2 (ag := m.agg) e3 hf0
                        have hc := fun em => run_checkKey (P := P) (w := w) hd (keyOK_is hk g2) em 9999
                        have hf := run_findKey (P := P) (w := w) hd hfn
                        simp only [Instr.lookup, Sem.run_bind, Ab.run_underlying hty, Result.andThen_ok, e1, Go.MapKept.run_getObj_map e2, Sem.run_pure]
                        simp [hc, hf, hzr]
                      · cases h
                    · cases h
                  · rename_i j l hf0
                    split at h
                    · rename_i v hv
                      split at h
                      · rename_i u hu
                        cases h
                        refine base [i] u fun φ a w hg g1 g2 => ?_
                        obtain ⟨b, xs, e1, e2, e3⟩ := world φ a w hg g1
                        obtain ⟨q, q1, q2, q3, q4, ⟨e, f1, f2, f3, f4⟩, _⟩ := findK_ok (d := d) hk g2 (ag := m.agg) e3 hf0
                        have hall : All2 (Sr φ) l ((xs.drop (q * (m.w + 1) + 1)).take m.w) := by rw [q3]; exact (e3.drop _).take _
                        have hval := valOf_r hv hall
                        have hev : valV m.agg ((xs.drop (q * (m.w + 1) + 1)).take m.w) = e.val := by
                          rw [f4]; rfl
                        rw [hev] at hval
                        refine ⟨_, ?_, withOk_r hu hval⟩
                        have hc := fun em => run_checkKey (P := P) (w := w) hd (keyOK_is hk g2) em 9999
                        have hf := run_findKey (P := P) (w := w) hd f2
                        simp only [Instr.lookup, Sem.run_bind, Ab.run_underlying hty, Result.andThen_ok, e1, Go.MapKept.run_getObj_map e2, Sem.run_pure]
                        simp [hc, hf]
                      · cases h
                    · cases h
                  · cases h
                · cases h
              · cases h
            · cases h
          · cases h
        · cases h
      · cases h
    · cases h
  · cases h

/-! ### a map written -/
theorem setL_cons0 {α : Type} (k : α) (vs : List α) : ∀ (x : α) (t : List α), setL (x :: t) 0 (k :: vs) = k :: setL t 0 vs := by
  intro x t
  have h1 : ∀ (vs : List α) (k : α) (t : List α) (o : Nat), setL (k :: t) (o + 1) vs = k :: setL t o vs := by
    intro vs
    induction vs with
    | nil => intro k t o; rfl
    | cons v r ih => intro k t o; simp only [setL, List.set_cons_succ]; exact ih k _ _
  simp only [setL, List.set_cons_zero]
  exact h1 vs k t 0
theorem setL_cons_succ {α : Type} : ∀ (vs : List α) (k : α) (t : List α) (o : Nat), setL (k :: t) (o + 1) vs = k :: setL t o vs
  | [], _, _, _ => rfl
  | v :: r, k, t, o => by simp only [setL, List.set_cons_succ]; exact setL_cons_succ r k _ _
theorem setL_zero {α : Type} : ∀ (vs t : List α), vs.length ≤ t.length → setL t 0 vs = vs ++ t.drop vs.length
  | [], t, _ => rfl
  | v :: r, [], h => by simp at h
  | v :: r, x :: t, h => by rw [setL_cons0, setL_zero r t (by simpa using h)]; rfl
theorem setL_shift {α : Type} (vs : List α) : ∀ (w : Nat) (t : List α) (o : Nat), w ≤ t.length → setL t (w + o) vs = t.take w ++ setL (t.drop w) o vs
  | 0, t, o, _ => by simp
  | w + 1, [], o, h => by simp at h
  | w + 1, x :: t, o, h => by
    rw [show w + 1 + o = (w + o) + 1 by omega, setL_cons_succ, setL_shift vs w t o (by simpa using h)]; rfl

theorem ents_set {ag : Bool} {w : Nat} {kv : Value} {vs : List Value} (hvs : vs.length = w) : ∀ {q : Nat} {born : List Nat} {xs : List Value}, q < born.length → q * (w + 1) + 1 + w ≤ xs.length →
    ents ag w born (setL xs (q * (w + 1)) (kv :: vs)) = (ents ag w born xs).modify q (fun e => { e with key := kv, val := valV ag vs })
  | _, [], _, h, _ => by simp at h
  | _, _ :: _, [], _, h => by simp at h
  | 0, b :: bs, x :: t, _, h => by
    have hw : w ≤ t.length := by simp at h; omega
    rw [Nat.zero_mul, setL_cons0, setL_zero _ _ (by rw [hvs]; exact hw)]
    simp only [ents, List.modify_zero_cons, hvs]
    rw [List.take_append_of_le_length (by omega), List.take_of_length_le (by omega), List.drop_append_of_le_length (by omega), List.drop_of_length_le (by omega)]
    cases ag <;> simp [valV]
  | q + 1, b :: bs, x :: t, hq, h => by
    have hw : w ≤ t.length := by simp [Nat.add_mul] at h; omega
    rw [show (q + 1) * (w + 1) = (w + q * (w + 1)) + 1 by rw [Nat.add_mul]; omega, setL_cons_succ, setL_shift _ _ _ _ hw]
    have hlen : (t.take w).length = w := by simp; omega
    simp only [ents, List.modify_succ_cons]
    rw [List.take_append_of_le_length (by omega), List.take_of_length_le (by omega), List.drop_append_of_le_length (by omega), List.drop_of_length_le (by omega), List.nil_append,
      ents_set hvs (by simpa using hq) (by simp only [List.length_drop, List.length_cons, Nat.add_mul] at h ⊢; omega)]
theorem ents_push {ag : Bool} {w : Nat} {kv : Value} {vs : List Value} (hvs : vs.length = w) {clock : Nat} : ∀ {born : List Nat} {xs : List Value}, xs.length = born.length * (w + 1) →
    ents ag w (born ++ [clock]) (xs ++ (kv :: vs)) = ents ag w born xs ++ [{ key := kv, val := valV ag vs, born := clock }]
  | [], [], _ => by
    simp only [List.nil_append, ents]
    rw [List.take_of_length_le (by omega)]
    cases ag <;> rfl
  | [], _ :: _, h => by simp at h
  | b :: bs, [], h => by simp [Nat.add_mul] at h
  | b :: bs, x :: t, h => by
    have hw : w ≤ t.length := by simp [Nat.add_mul] at h; omega
    simp only [List.cons_append, ents]
    rw [List.take_append_of_le_length hw, List.drop_append_of_le_length hw, ents_push hvs (by simp only [List.length_drop, List.length_cons, Nat.add_mul] at h ⊢; omega)]
theorem findK_len {key : S} {w : Nat} : ∀ {born : List Nat} {cs : List S} {i : Nat}, findK key w born cs i = some none → cs.length = born.length * (w + 1)
  | [], [], _, _ => by simp
  | [], _ :: _, _, h => by simp [findK] at h
  | _ :: _, [], _, h => by simp [findK] at h
  | b :: bs, c :: cs, i, h => by
    simp only [findK] at h
    split at h
    · rename_i hle
      have hle := Nat.le_of_ble_eq_true hle
      split at h
      · cases h
      · have := findK_len h
        simp only [List.length_drop, List.length_cons, Nat.add_mul] at this ⊢
        omega
      · cases h
    · cases h

/-- an object that a block is laid in, set anew -/
theorem obj_good {φ : Ph} {w : World} {i : Nat} {b : Nat × Nat} {bl : Bl} {cs' : List S} {kd : Option MapK} {xs' : List Value} (hg : Good φ [(i, some bl)] w) (hb : φ i = some b) (hb2 : b.2 = 0) (hro : bl.ro = false) (hfl : bl.flat = false) (hgh : bl.gh = none) (hxs : All2 (Sr φ) cs' xs') :
    Good φ [(i, some { bl with cells := cs', kind := kd })] { w with heap := w.heap.setIfInBounds b.1 (objOf kd xs' bl.ty (0, 0)) } ∧ Stp φ [(i, some bl)] w φ [(i, some { bl with cells := cs', kind := kd })] { w with heap := w.heap.setIfInBounds b.1 (objOf kd xs' bl.ty (0, 0)) } := by
  obtain ⟨b', hb', hat⟩ := hg.hr i bl (by simp [lk])
  rw [hb] at hb'; cases hb'
  have hlt := hat.lt
  obtain ⟨_, _, _, _, _, _, _, _, _, _, habs⟩ := hat
  have one : ∀ (c : Bl) j bj, lk [(i, some c)] j = some bj → j = i ∧ bj = c := by
    intro c j bj hj
    rw [lk_cons] at hj
    split at hj
    · rename_i e; cases hj; exact ⟨e.symm, rfl⟩
    · simp [lk] at hj
  refine ⟨⟨?_, ?_⟩, ⟨rfl, rfl, rfl, by simp, ?_, ?_⟩⟩
  · intro j bj hj
    obtain ⟨rfl, rfl⟩ := one _ _ _ hj
    refine ⟨b, hb, [], xs', [], (0, 0), ?_, by rw [hb2]; rfl, ?_, fun _ => rfl, fun _ o _ => by simp, ⟨fun g z e => (by simp only [hgh] at e; cases e), habs⟩⟩
    · simp [hlt]
    · have : ({ bl with cells := cs', kind := kd } : Bl).ph φ = φ := by unfold Bl.ph; simp only [hfl]
      rw [this]; exact hxs
  · intro j k bj bk c c' hj hk _ _ _
    obtain ⟨rfl, _⟩ := one _ _ _ hj
    obtain ⟨rfl, _⟩ := one _ _ _ hk
    exact .inl rfl
  · intro c _ hn
    have : c ≠ b.1 := fun e => hn ⟨i, bl, b, by simp [lk], hb, e.symm, hro⟩
    simp [Array.getElem?_setIfInBounds_ne (Ne.symm this)]
  · intro j bj c hj hc _
    obtain ⟨rfl, rfl⟩ := one _ _ _ hj
    exact ⟨j, bl, c, by simp [lk], hc, rfl, fun e => e, .inl rfl⟩

theorem isKey_same {d : TypeDesc} {u v : Value} (hk : IsKey d u) (h : Instr.sameNow d u v = some true) : v = u := by
  cases d <;> cases u <;> simp only [IsKey] at hk <;> cases v <;> simp [Instr.sameNow] at h
  · rw [h]
  · obtain ⟨rfl, h⟩ := h; rw [h]
  · have := (bytes_beq _ _).1 h; rw [this]

theorem kMapUp_ok {P : Program} {env : List V} {n : Nat} {L : Hp} {t : TypeId} {x ix y : Operand} {r : R} {o : Oper} (ho : o.op = .mapUpdate t x ix y) (h : kMapUp P n L t (ev env x) (ev env ix) (ev env y) = some r) : OutR P o env n L r := by
  unfold kMapUp at h
  split at h
  · rename_i kt et hty
    split at h
    · rename_i d ag sz hd ht
      split at h
      · rename_i key i l hix hx hcl
        split at h
        · rename_i bl hl
          split at h
          · rename_i m hkd
            split at h
            · rename_i hchk
              simp only [Bool.and_eq_true, notB_eq, Bool.not_eq_true', Option.isNone_iff_eq_none] at hchk
              obtain ⟨⟨⟨⟨⟨⟨⟨⟨⟨⟨hk, c1⟩, c2⟩, c3⟩, c4⟩, c5⟩, c6⟩, c7⟩, c8⟩, c9⟩, c10⟩ := hchk
              have c1 := eq_of_beq c1
              have c2 := Nat.eq_of_beq_eq_true c2
              have c6 := Nat.eq_of_beq_eq_true c6
              subst c1; subst c2
              have e1 : res [i] L = [(i, some bl)] := by simp [res, hl]
              -- what comes of the world
              have fin : ∀ (cs : List S) (kd : Option MapK), (∀ φ (a : Act) (w : World) (b : Nat) (xs : List Value) (kv : Value) (vs : List Value), a.eval x = .map (some b) → a.eval ix = kv → Sr φ key kv → (a.eval y).cells.toList = vs → a.eval y = valV m.agg vs → All2 (Sr φ) l vs → vs.length = m.w →
                    w.heap[b]? = some (.map (ents m.agg m.w m.born xs).toArray m.clock) → All2 (Sr φ) bl.cells xs →
                    ∃ xs', All2 (Sr φ) cs xs' ∧ (Instr.mapUpdate t (a.eval x) (a.eval ix) (a.eval y)).run P w = .ok () { w with heap := w.heap.setIfInBounds b (objOf kd xs' bl.ty (0, 0)) }) → OutR P o env n L ⟨[i], .undef, [(i, some { bl with cells := cs, kind := kd })], n⟩ := by
                intro cs kd hrun
                refine ⟨?_, Nat.le_refl _⟩
                intro φ a w Q hop hg hf
                have g1 := hop x (by simp [ho, Op.operands])
                have g2 := hop ix (by simp [ho, Op.operands])
                have g3 := hop y (by simp [ho, Op.operands])
                rw [hx] at g1; rw [hix] at g2
                obtain ⟨b, hb, hb2, hv⟩ := g1
                have hg' : Good φ [(i, some bl)] w := by rw [e1] at hg; exact hg
                obtain ⟨b', hb', hat⟩ := hg'.hr i bl (by simp [lk])
                rw [hb] at hb'; cases hb'
                obtain ⟨pre, xs, rest, fr, h1, hp, h2, h3, _⟩ := hat
                rw [hb2] at hp
                have := List.eq_nil_of_length_eq_zero hp
                subst this
                have := h3 c3
                subst this
                rw [hkd] at h1
                have hall := cellsOf_r hcl g3
                have hyv : a.eval y = valV m.agg (a.eval y).cells.toList := by
                  cases hev : ev env y with
                  | s s =>
                    rw [hev] at g3 hcl c7
                    simp only [notB, Bool.not_eq_true'] at c7
                    have hj : isJ s = false := by
                      simp only [cellsOf] at hcl
                      split at hcl
                      · assumption
                      · cases hcl
                    have := cells_of_cell (Sr.cell g3 hj)
                    rw [this]
                    cases hag : m.agg with
                    | true => rw [hag] at c7; cases c7
                    | false => rfl
                  | agg q =>
                    rw [hev] at g3 c7
                    obtain ⟨zs, hz, _⟩ := g3
                    simp only at c7
                    rw [hz, c7]; simp [valV, Value.cells]
                  | _ => rw [hev] at hcl; simp [cellsOf] at hcl
                obtain ⟨xs', hxs', hrun'⟩ := hrun φ a w b.1 xs (a.eval ix) _ hv rfl g2 rfl hyv hall (by rw [hall.len]; exact c6) (by simpa [objOf, c10] using h1) (h2.mono fun _ _ => Sr.mono (bl.ph_le_self φ))
                obtain ⟨good, stp⟩ := obj_good (cs' := cs) (kd := kd) (xs' := xs') hg' hb hb2 c4 c5 c9 hxs'
                have e2 : puts (res [i] L) [(i, some { bl with cells := cs, kind := kd })] = [(i, some { bl with cells := cs, kind := kd })] := by rw [e1]; simp [puts, put]
                unfold Oper.wp
                have : (execOp a.eval o).run P w = .ok .skip { w with heap := w.heap.setIfInBounds b.1 (objOf kd xs' bl.ty (0, 0)) } := by
                  simp only [execOp, ho]
                  rw [Sem.run_bind, hrun']; rfl
                rw [this, Oper.upon_skip]
                exact ⟨φ, Go.undef, rfl, rfl, by rw [e2]; exact good, by rw [e2, e1]; exact stp, fun _ _ => rfl⟩
              split at h
              · rename_i hf0
                rw [frc_eq, frc_eq] at h
                cases h
                refine fin _ _ fun φ a w b xs kv vs e1 e2 e3 e4 e5 e6 e7 e8 e9 => ?_
                refine ⟨xs ++ (kv :: vs), e9.append ⟨e3, e6⟩, ?_⟩
                have hlen : xs.length = m.born.length * (m.w + 1) := by rw [e9.len]; exact findK_len hf0
                have hfn := findK_ok (d := d) hk e3 (ag := m.agg) e9 hf0
                have hc := run_checkKey (P := P) (w := w) hd (keyOK_is hk e3) false 9999
                have hf := run_findKey (P := P) (w := w) hd hfn
                simp only [Instr.mapUpdate, Sem.run_bind, Ab.run_underlying hty, Result.andThen_ok, e1, Go.MapKept.run_getObj_map e8, e2, hc, hf]
                rw [run_setObj_map _ e8]
                simp only [objOf, ents_push e7 hlen, e5]
                simp
              · rename_i j l' hf0
                rw [frc_eq] at h
                cases h
                rw [show ({ bl with cells := setL bl.cells (j * (m.w + 1)) (key :: l) } : Bl) = { bl with cells := setL bl.cells (j * (m.w + 1)) (key :: l), kind := some m } by rw [← hkd]]
                refine fin _ _ fun φ a w b xs kv vs e1 e2 e3 e4 e5 e6 e7 e8 e9 => ?_
                obtain ⟨q, q1, q2, q3, q4, ⟨e, f1, f2, f3, f4⟩, q5⟩ := findK_ok (d := d) hk e3 (ag := m.agg) e9 hf0
                rw [Nat.zero_add] at q1
                subst q1
                refine ⟨setL xs (j * (m.w + 1)) (kv :: vs), setL_r _ e9 ⟨e3, e6⟩, ?_⟩
                have hc := run_checkKey (P := P) (w := w) hd (keyOK_is hk e3) false 9999
                have hf := run_findKey (P := P) (w := w) hd f2
                have hold : e.key = kv := by
                  rw [f3]
                  have hlt : j * (m.w + 1) < bl.cells.length := by omega
                  obtain ⟨z, hz, hzr⟩ := e9.get (i := j * (m.w + 1)) (a := bl.cells[j * (m.w + 1)]) (by simp [hlt])
                  have hgd : bl.cells.getD (j * (m.w + 1)) .unk = bl.cells[j * (m.w + 1)] := by simp [List.getD, hlt]
                  rw [hgd] at q5
                  have := isKey_same (keyOK_is hk e3) (sameK_ok hk q5 e3 hzr)
                  simp only [List.getD_eq_getElem?_getD, hz, Option.getD_some, this]
                have hkey : (((ents m.agg m.w m.born xs).toArray[j]?).map (·.key)).getD kv = kv := by simp [f1, hold]
                have hst := run_keyThatStays (P := P) (w := w) (keyOK_is hk e3)
                simp only [Instr.mapUpdate, Sem.run_bind, Ab.run_underlying hty, Result.andThen_ok, e1, Go.MapKept.run_getObj_map e8, e2, hc, hf, hkey, hst]
                rw [run_setObj_map _ e8]
                simp only [objOf, c10, ents_set e7 q2 (by rw [e9.len]; exact q4), e5]
                congr 4
                apply Array.ext'
                simp [Array.toList_modify]
              · cases h
            · cases h
          · cases h
        · cases h
      · cases h
    · cases h
  · cases h

/-! ### zeros appended to nil -/
theorem kAppZ_ok {P : Program} {env : List V} {n : Nat} {L : Hp} {o : Oper} {c : Call} {d x : Operand} {r : R} (ho : o.op = .call c) (hc : c.callee = .builtin .append) (hargs : c.args.toList = [d, x]) (h : kAppZ P c.argTypes n (ev env d) (ev env x) = some r) : OutR P o env n L r := by
  unfold kAppZ at h
  split at h
  · rename_i t tx ht0 ht1
    split at h
    · rename_i e ik ht htx
      split at h
      · rename_i inf zs hi hz
        split at h
        · rename_i ln cp kk z hd hx
          split at h
          · rename_i m hm
            split at h
            · rename_i hck
              rw [frc_eq] at h
              cases h
              simp only [Bool.and_eq_true] at hck
              obtain ⟨⟨⟨⟨c1, c2⟩, c3⟩, c4⟩, c5⟩ := hck
              have c1 := Nat.eq_of_beq_eq_true c1
              have c2 := Nat.le_of_ble_eq_true c2
              have c3 := Nat.le_of_ble_eq_true c3
              have c4 := Nat.le_of_ble_eq_true c4
              have c5 := Nat.le_of_ble_eq_true c5
              have hzm := natOf_eq hm
              subst hzm
              refine ⟨?_, Nat.le_add_right _ _⟩
              have hmv := OpL.moved (P := P) (o := o) (env := env) (n := n) (M := res [] L) (bi := none) (r := m) (bl' := { cells := rep m zs, ty := e, more := true, gh := some (n + 1, inf.size) }) (fun φ a w hop hg => ?_) rfl
              · simpa [dropB] using hmv
              have opd : d ∈ o.op.operands := by rw [ho]; simp only [Op.operands, Call.operands, hc]; simp [← Array.mem_toList_iff, hargs]
              have opx : x ∈ o.op.operands := by rw [ho]; simp only [Op.operands, Call.operands, hc]; simp [← Array.mem_toList_iff, hargs]
              have g1 := hop d opd
              have g2 := hop x opx
              rw [hd] at g1; rw [hx] at g2
              obtain ⟨_, _, hv⟩ := g1
              simp only [Vr, Sr] at g2
              obtain ⟨zv, hzv⟩ : ∃ zv, inf.zero = some zv := by
                unfold zeroOf at hz
                rw [hi] at hz
                simp only at hz
                split at hz
                · rename_i v hv; exact ⟨v, hv⟩
                · cases hz
              have hzc : ∀ φ, All2 (Sr φ) zs zv.cells.toList := by
                intro φ
                unfold zeroOf at hz
                rw [hi] at hz
                simp only [hzv] at hz
                exact toSs_r hz
              have hzl : zv.cells.size = inf.size := by rw [← Array.length_toList, (hzc φ).len, c1]
              have hsz : ∀ w, (sizeOf e).run P w = .ok inf.size w := fun w => by simp [sizeOf, typeInfo, hi]
              have hti : ∀ w, (typeInfo e).run P w = .ok inf w := fun w => by simp [typeInfo, hi]
              have hzr : ∀ w, (zeroValue e).run P w = .ok zv w := fun w => by simp [zeroValue, typeInfo, hi, hzv]
              have hwr : IntKind.i64.wrap (m : Int) = (m : Int) := i64_in (by omega) (by omega)
              have q1 : ¬ ((m : Int) < 0) := by omega
              have q2 : ¬ ((m : Int) * (inf.bytes : Int) > 2 ^ 48) := by
                have e48 : (2 : Int) ^ 48 = 281474976710656 := by decide
                rw [e48]
                have : (m : Int) * (inf.bytes : Int) = ((m * inf.bytes : Nat) : Int) := by simp
                rw [this]; omega
              have q3 : ¬ (0 + m ≤ 0) := by omega
              have q4 : ¬ (((0 + m : Nat) : Int) > IntKind.i64.max ∧ (True ∨ inf.bytes = 0)) := by
                have : IntKind.i64.max = 9223372036854775807 := by decide
                rw [this]; omega
              have q5 : ¬ (Builtin.nextslicecap (0 + m) 0 * inf.bytes > 2 ^ 48) := by
                have : Builtin.nextslicecap (0 + m) 0 = m := by unfold Builtin.nextslicecap; rw [if_pos (by omega)]; omega
                have e48 : (2 : Nat) ^ 48 = 281474976710656 := by decide
                rw [this, e48]; omega
              have q6 : ¬ (m * inf.size = 0) := by
                have : 1 * 1 ≤ m * inf.size := Nat.mul_le_mul c2 c3
                omega
              have ea : c.args.map a.eval = #[a.eval d, a.eval x] := by apply Array.ext'; simp [hargs]
              let cap := (Question.appendCap (0 + m) 0 e).cut (w.tape w.drawn (.appendCap (0 + m) 0 e))
              have hcap : m ≤ cap := by simp only [cap, Question.cut]; omega
              have hrun : (Builtin.append_ c.argTypes o.type #[a.eval d, a.eval x]).run P w = .ok (.slice (some ⟨w.heap.size, 0, none⟩) (0 + m) cap) { w with drawn := w.drawn + 1, heap := w.heap.push (.cells (#[] ++ Builtin.zeroCells zv.cells m ++ Builtin.zeroCells zv.cells (cap - (0 + m))) e) } := by
                unfold Builtin.append_
                simp only [ht0, ht1, hv, g2, List.getElem?_toArray, List.getElem?_cons_zero, List.getElem?_cons_succ, Sem.run_bind, Ab.run_underlying ht, Ab.run_underlying htx, Result.andThen_ok, hsz, Sem.run_pure,
                  asInt, asIntOf, hwr, if_true, if_neg q1, if_neg q2, hti, Int.toNat_natCast, if_neg q3, if_neg q4, if_neg q5, run_choose, Question.forced, run_askRoom, Builtin.firstCells, Bool.not_true, Bool.false_eq_true, if_false, if_neg q6, hzr, newRow, run_newObj]
                rfl
              refine ⟨(w.heap.size, 0), cap, { w with drawn := w.drawn + 1, heap := w.heap.push (.cells (#[] ++ Builtin.zeroCells zv.cells m ++ Builtin.zeroCells zv.cells (cap - (0 + m))) e) }, by simp only [execOp, ho, resolve, hc, Sem.run_bind, Sem.run_pure, Result.andThen_ok, invoke, builtin, ea, hrun, Nat.zero_add], rfl, rfl, rfl, hcap, by simp, fun c' hc' _ => ?_, fun h => absurd h (Nat.lt_irrefl _), fun φ' hle hk' => ?_⟩
              · show (w.heap.push _)[c']? = _
                rw [Array.getElem?_push_lt hc']; simp [hc']
              · refine ⟨[], (Builtin.zeroCells zv.cells m).toList, (Builtin.zeroCells zv.cells (cap - (0 + m))).toList, (0, 0), ?_, rfl, ?_, (fun e => by cases e), (fun _ o' ho' => by simp), ⟨fun g z' e' => ?_, fun g e' => (by cases e')⟩⟩
                · show (w.heap.push _)[w.heap.size]? = _
                  simp [objOf]
                · have := rep_r (hzc φ') m
                  simpa [Bl.ph, Builtin.zeroCells] using this
                · simp only [Option.some.injEq, Prod.mk.injEq] at e'
                  obtain ⟨rfl, rfl⟩ := e'
                  refine ⟨cap, hk', ?_⟩
                  simp only [List.length_append, Array.length_toList, zeroCells_size, hzl]
                  rw [← Nat.add_mul]
                  exact Nat.mul_le_mul_right _ (by omega)
            · cases h
          · cases h
        · cases h
      · cases h
    · cases h
  · cases h

theorem maxI_eq (a b : Int) : maxI a b = if b > a then b else a := by
  unfold maxI
  rw [ltI_eq]
  by_cases h : a < b
  · simp [h]
  · simp [h]
theorem kMax3_ok {P : Program} {env : List V} {n : Nat} {L : Hp} {o : Oper} {c : Call} {x y z : Operand} {s : S} (ho : o.op = .call c) (hc : c.callee = .builtin .max) (hargs : c.args.toList = [x, y, z]) (h : kMax3 (ev env x) (ev env y) (ev env z) = some s) : OutR P o env n L ⟨[], .s s, [], n⟩ := by
  unfold kMax3 at h
  split at h
  · rename_i k a k' b k'' cc hx hy hz
    cases h
    refine ⟨OpL.light fun φ act w hop _ => ?_, Nat.le_refl _⟩
    have ea : c.args.map act.eval = #[act.eval x, act.eval y, act.eval z] := by apply Array.ext'; simp [hargs]
    have op : ∀ q ∈ [x, y, z], q ∈ o.op.operands := fun q hq => by
      have hq' : q ∈ c.args := by rw [← Array.mem_toList_iff, hargs]; exact hq
      rw [ho]; simp only [Op.operands, Call.operands, hc]; simp [hq']
    have g1 := hop x (op x (by simp)); have g2 := hop y (op y (by simp)); have g3 := hop z (op z (by simp))
    rw [hx] at g1; rw [hy] at g2; rw [hz] at g3
    simp only [Vr, Sr] at g1 g2 g3
    refine ⟨.int k (maxI (maxI a b) cc), ?_, rfl⟩
    simp only [execOp, ho, resolve, hc, Sem.run_bind, Sem.run_pure, Result.andThen_ok, invoke, builtin, ea, g1, g2, g3, Builtin.max_, maxI_eq]
    simp [Builtin.max2]
  · cases h

/-! ### opaque integers -/
theorem maxN_max (k : IntKind) : k.max = (maxN k : Int) := by cases k <;> rfl
theorem wrap_n {k : IntKind} {n : Nat} (h : n ≤ maxN k) : k.wrap (n : Int) = (n : Int) := by
  refine wrap_in ?_ ?_
  · have : k.min ≤ 0 := by cases k <;> decide
    omega
  · rw [maxN_max]; omega
theorem wrap_u {k : IntKind} (hk : isU k = true) (x : Int) : ∃ r : Nat, k.wrap x = (r : Int) ∧ r ≤ maxN k := by
  have : ∀ m : Int, 0 < m → ∃ r : Nat, x % m = (r : Int) ∧ (r : Int) < m := fun m hm => ⟨(x % m).toNat, by have := Int.emod_nonneg x (Int.ne_of_gt hm); omega, by have := Int.emod_nonneg x (Int.ne_of_gt hm); have := Int.emod_lt_of_pos x hm; omega⟩
  cases k <;> simp only [isU, Bool.false_eq_true] at hk
  · obtain ⟨r, h1, h2⟩ := this 256 (by decide); exact ⟨r, by simpa [IntKind.wrap, IntKind.bits, IntKind.signed] using h1, by simp only [maxN]; omega⟩
  · obtain ⟨r, h1, h2⟩ := this 65536 (by decide); exact ⟨r, by simpa [IntKind.wrap, IntKind.bits, IntKind.signed] using h1, by simp only [maxN]; omega⟩
  · obtain ⟨r, h1, h2⟩ := this 4294967296 (by decide); exact ⟨r, by simpa [IntKind.wrap, IntKind.bits, IntKind.signed] using h1, by simp only [maxN]; omega⟩
  · obtain ⟨r, h1, h2⟩ := this 18446744073709551616 (by decide); exact ⟨r, by simpa [IntKind.wrap, IntKind.bits, IntKind.signed] using h1, by simp only [maxN]; omega⟩
theorem bitV_u {k : IntKind} (hk : isU k = true) (op : BinOp) (x y : Int) : ∃ r : Nat, bitV op k x y = (r : Int) ∧ r ≤ maxN k := by
  unfold bitV; split <;> exact wrap_u hk _
theorem and_one {k : IntKind} (hk : isU k = true) (z : Nat) : bitV .and k ((z : Nat) : Int) 1 = ((z % 2 : Nat) : Int) := by
  have key : ∀ w : Nat, 0 < w → (BitVec.ofInt w ((z : Nat) : Int) &&& BitVec.ofInt w 1).toNat = z % 2 := by
    intro w hw
    have e1 : BitVec.ofInt w ((z : Nat) : Int) = BitVec.ofNat w z := by apply BitVec.eq_of_toNat_eq; simp [BitVec.toNat_ofInt, BitVec.toNat_ofNat]
    have e2 : BitVec.ofInt w 1 = BitVec.ofNat w 1 := by apply BitVec.eq_of_toNat_eq; simp [BitVec.toNat_ofInt, BitVec.toNat_ofNat]
    rw [e1, e2, BitVec.toNat_and, BitVec.toNat_ofNat, BitVec.toNat_ofNat]
    have : 1 % 2 ^ w = 1 := Nat.mod_eq_of_lt (by have := Nat.one_lt_two_pow (n := w) (by omega); omega)
    rw [this, Nat.and_one_is_mod]
    obtain ⟨m, rfl⟩ : ∃ m, w = m + 1 := ⟨w - 1, by omega⟩
    rw [Nat.pow_succ]
    have := Nat.mod_mul_left_mod z (2 ^ m) 2
    exact this
  have hb : 0 < k.bits := by cases k <;> decide
  show k.wrap _ = _
  rw [key _ hb]
  exact wrap_n (by have : 1 ≤ maxN k := by cases k <;> decide
                   omega)
theorem ltK_ok {K K' : Kn} {b : Bool} {z z' : Nat} (h : ltK K K' = some b) (k1 : K.ok z) (k2 : K'.ok z') : b = decide ((z : Int) < (z' : Int)) := by
  unfold ltK at h
  have p1 := k1.1; have p2 := k1.2.1; have p3 := k2.1; have p4 := k2.2.1
  split at h
  · rename_i hc; cases h; have := blt_iff.1 hc; symm; rw [decide_eq_true_iff]; omega
  · split at h
    · rename_i hc; cases h; have := Nat.le_of_ble_eq_true hc; symm; rw [decide_eq_false_iff_not]; omega
    · cases h
theorem mkO_ok {φ : Ph} {k : IntKind} {t : Tm} {lo hi z : Nat} {s : S} (h : mkO k t lo hi = some s) (ht : t.ev φ = some z) (h1 : lo ≤ z) (h2 : z ≤ hi) : Sr φ s (.int k ((z : Nat) : Int)) := by
  unfold mkO at h
  split at h
  · rename_i hc
    cases h
    have := Nat.eq_of_beq_eq_true hc
    have : z = lo := by omega
    subst this; rfl
  · cases h
    exact ⟨z, ht, ⟨h1, h2, fun d r hc => by cases hc⟩, rfl⟩
theorem ev_bin {φ : Ph} {o : BinOp} {k : IntKind} {t t' : Tm} {z z' r : Nat} (h1 : t.ev φ = some z) (h2 : t'.ev φ = some z') (h : tmE o k ((z : Nat) : Int) ((z' : Nat) : Int) = some (r : Int)) : (Tm.bin o k t t').ev φ = some r := by
  simp only [Tm.ev, h1, h2, ev2, h]; rfl
theorem fullO_ok {φ : Ph} {k : IntKind} {o : BinOp} {t t' : Tm} {z z' : Nat} {q : Int} {s : S} (h : fullO o k t t' = some s) (h1 : t.ev φ = some z) (h2 : t'.ev φ = some z') (hq : tmE o k ((z : Nat) : Int) ((z' : Nat) : Int) = some q)
    (hu : isU k = true → ∃ r : Nat, q = (r : Int) ∧ r ≤ maxN k) : Sr φ s (.int k q) := by
  unfold fullO at h
  split at h
  · rename_i hk
    obtain ⟨r, rfl, hr⟩ := hu hk
    exact mkO_ok h (ev_bin h1 h2 hq) (Nat.zero_le _) hr
  · cases h
theorem boolO_some {b : Option Bool} {s : S} (h : boolO b = some s) : ∃ c, b = some c ∧ s = .bool c := by cases b <;> simp [boolO] at h; exact ⟨_, rfl, h.symm⟩
theorem notO_some {b : Option Bool} {s : S} (h : notO b = some s) : ∃ c, b = some c ∧ s = .bool (notB c) := by cases b <;> simp [notO] at h; exact ⟨_, rfl, h.symm⟩

/-- what is said of two integers that are not looked at holds of them -/
theorem kOpq_ok {φ : Ph} {op : BinOp} {k : IntKind} {t t' : Tm} {K K' : Kn} {s : S} {z z' : Nat} (h : kOpq op k t K t' K' = some s) (h1 : t.ev φ = some z) (h2 : t'.ev φ = some z') (k1 : K.ok z) (k2 : K'.ok z') :
    ∃ s0, kInt op k ((z : Nat) : Int) k ((z' : Nat) : Int) = some s0 ∧ ∀ v, Sr φ s0 v → Sr φ s v := by
  have p1 := k1.1; have p2 := k1.2.1; have p3 := k2.1; have p4 := k2.2.1
  have hkk : kEq k k = true := by cases k <;> rfl
  have same : ∀ {q : Int} {v : Value}, Sr φ s (.int k q) → Sr φ (.int k q) v → Sr φ s v := fun hs hv => by simp only [Sr] at hv; rw [hv]; exact hs
  have ni : ∀ x y : Nat, ((x : Int) == (y : Int)) = decide (x = y) := by
    intro x y
    by_cases e : x = y
    · subst e; simp
    · have : ¬ ((x : Int) = (y : Int)) := by omega
      simp [e, this]
  cases op <;> simp only [kOpq, reduceCtorEq] at h
  case eql =>
    obtain ⟨c, hc, rfl⟩ := boolO_some h
    refine ⟨_, by simp only [kInt, hkk, kIntE]; rfl, fun v hv => ?_⟩
    rw [eqK_ok hc h1 h2 k1 k2, ← ni, ← eqI_eq]; exact hv
  case neq =>
    obtain ⟨c, hc, rfl⟩ := notO_some h
    refine ⟨_, by simp only [kInt, hkk, kIntE]; rfl, fun v hv => ?_⟩
    rw [eqK_ok hc h1 h2 k1 k2, ← ni, ← eqI_eq]; exact hv
  case lss =>
    obtain ⟨c, hc, rfl⟩ := boolO_some h
    refine ⟨_, by simp only [kInt, hkk, kIntE]; rfl, fun v hv => ?_⟩
    rw [ltK_ok hc k1 k2, ← ltI_eq]; exact hv
  case gtr =>
    obtain ⟨c, hc, rfl⟩ := boolO_some h
    refine ⟨_, by simp only [kInt, hkk, kIntE]; rfl, fun v hv => ?_⟩
    rw [ltK_ok hc k2 k1, ← ltI_eq]; exact hv
  case leq =>
    obtain ⟨c, hc, rfl⟩ := notO_some h
    refine ⟨_, by simp only [kInt, hkk, kIntE]; rfl, fun v hv => ?_⟩
    rw [ltK_ok hc k2 k1, ← ltI_eq]; exact hv
  case geq =>
    obtain ⟨c, hc, rfl⟩ := notO_some h
    refine ⟨_, by simp only [kInt, hkk, kIntE]; rfl, fun v hv => ?_⟩
    rw [ltK_ok hc k1 k2, ← ltI_eq]; exact hv
  case add =>
    refine ⟨_, by simp only [kInt, hkk, kIntE, wrapF_eq]; rfl, fun v hv => same ?_ hv⟩
    split at h
    · rename_i hc
      have hc := Nat.le_of_ble_eq_true hc
      have e : k.wrap (((z : Nat) : Int) + ((z' : Nat) : Int)) = ((z + z' : Nat) : Int) := by rw [← Int.natCast_add]; exact wrap_n (by omega)
      rw [e]
      exact mkO_ok h (ev_bin h1 h2 (by simp only [tmE, e])) (by omega) (by omega)
    · exact fullO_ok h h1 h2 (by simp only [tmE]) fun hk => wrap_u hk _
  case sub =>
    refine ⟨_, by simp only [kInt, hkk, kIntE, wrapF_eq]; rfl, fun v hv => same ?_ hv⟩
    split at h
    · rename_i hc
      simp only [Bool.and_eq_true] at hc
      have hc1 := Nat.le_of_ble_eq_true hc.1
      have hc2 := Nat.le_of_ble_eq_true hc.2
      have e : k.wrap (((z : Nat) : Int) - ((z' : Nat) : Int)) = ((z - z' : Nat) : Int) := by rw [← Int.natCast_sub (by omega)]; exact wrap_n (by omega)
      rw [e]
      exact mkO_ok h (ev_bin h1 h2 (by simp only [tmE, e])) (by omega) (by omega)
    · exact fullO_ok h h1 h2 (by simp only [tmE]) fun hk => wrap_u hk _
  case mul =>
    refine ⟨_, by simp only [kInt, hkk, kIntE, wrapF_eq]; rfl, fun v hv => same ?_ hv⟩
    split at h
    · rename_i hc
      have hc := Nat.le_of_ble_eq_true hc
      have m1 : z * z' ≤ K.hi * K'.hi := Nat.mul_le_mul p2 p4
      have m2 : K.lo * K'.lo ≤ z * z' := Nat.mul_le_mul p1 p3
      have e : k.wrap (((z : Nat) : Int) * ((z' : Nat) : Int)) = ((z * z' : Nat) : Int) := by rw [← Int.natCast_mul]; exact wrap_n (by omega)
      rw [e]
      exact mkO_ok h (ev_bin h1 h2 (by simp only [tmE, e])) m2 m1
    · exact fullO_ok h h1 h2 (by simp only [tmE]) fun hk => wrap_u hk _
  case or => exact ⟨_, by simp only [kInt, hkk, kIntE]; rfl, fun v hv => same (fullO_ok h h1 h2 (by simp only [tmE]) fun hk => bitV_u hk _ _ _) hv⟩
  case xor => exact ⟨_, by simp only [kInt, hkk, kIntE]; rfl, fun v hv => same (fullO_ok h h1 h2 (by simp only [tmE]) fun hk => bitV_u hk _ _ _) hv⟩
  case andNot => exact ⟨_, by simp only [kInt, hkk, kIntE]; rfl, fun v hv => same (fullO_ok h h1 h2 (by simp only [tmE]) fun hk => bitV_u hk _ _ _) hv⟩
  case and =>
    refine ⟨_, by simp only [kInt, hkk, kIntE]; rfl, fun v hv => same ?_ hv⟩
    split at h
    · rename_i d r hc hb
      simp only [Bool.and_eq_true] at hc
      have a1 := Nat.eq_of_beq_eq_true hc.1.1
      have a2 := Nat.eq_of_beq_eq_true hc.1.2
      split at h
      · rename_i hd
        cases h
        have := Nat.eq_of_beq_eq_true hd
        subst this
        have : z' = 1 := by omega
        subst this
        have hr := k1.2.2 2 r hb
        show Value.int k _ = Value.int k _
        rw [show bitV .and k ((z : Nat) : Int) ((1 : Nat) : Int) = ((z % 2 : Nat) : Int) from and_one hc.2 z, hr]; rfl
      · exact fullO_ok h h1 h2 (by simp only [tmE]) fun hk => bitV_u hk _ _ _
    · exact fullO_ok h h1 h2 (by simp only [tmE]) fun hk => bitV_u hk _ _ _
  case rem =>
    split at h
    · rename_i hc
      simp only [Bool.and_eq_true] at hc
      have a1 := Nat.eq_of_beq_eq_true hc.1
      have a2 := Nat.le_of_ble_eq_true hc.2
      have hz : z' = K'.lo := by omega
      have hnz : eqI ((z' : Nat) : Int) 0 = false := by rw [eqI_eq]; simp; omega
      have e : Int.tmod ((z : Nat) : Int) ((z' : Nat) : Int) = ((z % z' : Nat) : Int) := by rw [Int.tmod_eq_emod_of_nonneg (by omega)]; rfl
      refine ⟨_, by simp only [kInt, hkk, kIntE, hnz]; rfl, fun v hv => same ?_ hv⟩
      rw [e]
      split at h
      · rename_i hlt
        cases h
        have := blt_iff.1 hlt
        exact ⟨z, h1, k1, by rw [Nat.mod_eq_of_lt (by omega)]⟩
      · have hm : z % z' ≤ K'.lo - 1 := by have := Nat.mod_lt z (show z' > 0 by omega); omega
        split at h
        · rename_i d r hb
          split at h
          · rename_i hd
            cases h
            have := Nat.eq_of_beq_eq_true hd
            have hr := k1.2.2 d r hb
            show Value.int k _ = Value.int k _
            rw [show z' = d by omega, hr]; rfl
          · exact mkO_ok h (ev_bin h1 h2 (by simp only [tmE, e])) (Nat.zero_le _) hm
        · exact mkO_ok h (ev_bin h1 h2 (by simp only [tmE, e])) (Nat.zero_le _) hm
    · cases h
theorem kOpqB_ok {P : Program} {env : List V} {n : Nat} {L : Hp} {op : BinOp} {t ty : TypeId} {x y : Operand} {s : S} {o : Oper} (ho : o.op = .binOp op t x y ty) (h : kOpqB op (ev env x) (ev env y) = some s) : OutR P o env n L ⟨[], .s s, [], n⟩ := by
  unfold kOpqB at h
  split at h
  · rename_i a b hx hy
    split at h
    · rename_i k tm K k' tm' K' hka hkb
      split at h
      · rename_i hk
        have := kEq_ok hk; subst this
        refine ⟨OpL.light fun φ act w hop _ => ?_, Nat.le_refl _⟩
        have g1 := hop x (by simp [ho, Op.operands])
        have g2 := hop y (by simp [ho, Op.operands])
        rw [hx] at g1; rw [hy] at g2
        obtain ⟨z, e1, e2, e3⟩ := knO_ok hka g1
        obtain ⟨z', f1, f2, f3⟩ := knO_ok hkb g2
        obtain ⟨s0, c1, c2⟩ := kOpq_ok h e1 f1 e2 f2
        obtain ⟨ans, as, C, d1, d2⟩ := kBin_ok (P := P) (t := t) (x := .s (.int k ((z : Nat) : Int))) (y := .s (.int k ((z' : Nat) : Int))) (show kBin P op t _ _ = some s0 from c1)
        obtain ⟨v, r1, r2⟩ := aBin2_ok (P := P) (φ := φ) (ox := x) (oy := y) (u := act.eval x) (v := act.eval y) d1 d2 (show Sr φ (.int k _) _ from e3) (show Sr φ (.int k _) _ from f3) w
        exact ⟨v, by simp only [execOp, ho]; rw [Sem.run_bind, r1]; rfl, c2 v r2⟩
      · cases h
    · cases h
  · cases h
theorem kOpqC_ok {P : Program} {env : List V} {n : Nat} {L : Hp} {src dst : TypeId} {x : Operand} {s : S} {o : Oper} (ho : o.op = .convert src dst x) (h : kOpqC P src dst (ev env x) = some s) : OutR P o env n L ⟨[], .s s, [], n⟩ := by
  unfold kOpqC at h
  split at h
  · rename_i k0 t K hx
    split at h
    · rename_i d k hs hd
      split at h
      · rename_i hu
        cases h
        refine ⟨OpL.light fun φ a w hop _ => ?_, Nat.le_refl _⟩
        have g1 := hop x (by simp [ho, Op.operands])
        rw [hx] at g1
        obtain ⟨q, hq, hK, hv⟩ := g1
        have hw : k.wrap ((q : Nat) : Int) = ((q : Nat) : Int) := wrap_n (by have := Nat.le_of_ble_eq_true hu; have := hK.2.1; omega)
        have hc : aConvI P src dst (.s (.int k0 ((q : Nat) : Int))) [.num ((q : Nat) : Int)] = some (.int k ((q : Nat) : Int), [], True ∧ k.wrap ((q : Nat) : Int) = ((q : Nat) : Int)) := by simp only [aConvI, hs, hd]; rfl
        obtain ⟨v, h1, h2⟩ := aConvI_ok (P := P) (φ := φ) hc ⟨trivial, hw⟩ (show Vr φ (.s (.int k0 ((q : Nat) : Int))) (a.eval x) from hv) w
        refine ⟨v, by simp only [execOp, ho]; rw [Sem.run_bind, h1]; rfl, q, hq, hK, h2⟩
      · cases h
    · cases h
  · cases h
theorem entN_ok {agg : Bool} {w : Nat} : ∀ {born : List Nat} {cs : List S} {k0 k : Nat} {xs : List Value}, entN w born cs k0 = some k → xs.length = cs.length → (ents agg w born xs).length + k0 = k
  | [], cs, k0, k, xs, h, hl => by
    simp only [entN, Option.some.injEq] at h
    simp [ents, h]
  | b :: bs, c :: t, k0, k, [], h, hl => by simp at hl
  | b :: bs, c :: t, k0, k, x :: xt, h, hl => by
    simp only [entN] at h
    split at h
    · rename_i hw
      have hw := Nat.le_of_ble_eq_true hw
      simp only [List.length_cons, Nat.add_right_cancel_iff] at hl
      have := entN_ok (agg := agg) (xs := xt.drop w) h (by simp [hl])
      simp only [ents, List.length_cons]
      omega
    · cases h
  | _ :: _, [], _, _, _, h, _ => by cases h
theorem kLenM_ok {P : Program} {env : List V} {n : Nat} {L : Hp} {o : Oper} {c : Call} {d : Operand} {r : R} (ho : o.op = .call c) (hc : c.callee = .builtin .len) (hargs : c.args.toList = [d]) (h : kLenM P c.argTypes n L (ev env d) = some r) : OutR P o env n L r := by
  have ea : ∀ a : Act, c.args.map a.eval = #[a.eval d] := fun a => by apply Array.ext'; simp [hargs]
  have opd : d ∈ o.op.operands := by rw [ho]; simp only [Op.operands, Call.operands, hc]; simp [← Array.mem_toList_iff, hargs]
  unfold kLenM at h
  split at h
  · rename_i t ht
    split at h
    · rename_i kt et hty hx
      cases h
      refine ⟨OpL.light fun φ a w hop _ => ?_, Nat.le_refl _⟩
      have g := hop d opd
      rw [hx] at g
      have g : a.eval d = .map none := g
      exact ⟨.int .i64 0, by simp [execOp, ho, resolve, hc, invoke, builtin, ea, g, Builtin.len_, ht, Ab.run_underlying hty, goInt], rfl⟩
    · rename_i kt et i hty hx
      split at h
      · rename_i bl hl
        split at h
        · rename_i m hkd hmore
          split at h
          · cases h
          rename_i hit
          split at h
          · rename_i k hk
            rw [frcN_eq] at h
            cases h
            refine ⟨OpL.light fun φ a w hop hg => ?_, Nat.le_refl _⟩
            have g := hop d opd
            rw [hx] at g
            obtain ⟨b, hb, hb2, hv⟩ := g
            obtain ⟨b', hb', hat⟩ := hg.hr i bl (by rw [lk_res]; simp [hl])
            rw [hb] at hb'; cases hb'
            obtain ⟨pre, xs, rest, fr, h1, hp, h2, h3, _⟩ := hat
            rw [hb2] at hp
            have := List.eq_nil_of_length_eq_zero hp
            subst this
            have := h3 hmore
            subst this
            rw [hkd] at h1
            have h1 : w.heap[b.1]? = some (.map (ents m.agg m.w m.born xs).toArray m.clock) := by simpa [objOf, hit] using h1
            have hlen := entN_ok (agg := m.agg) hk h2.len
            refine ⟨.int .i64 ((k : Nat) : Int), ?_, rfl⟩
            have hsz : (ents m.agg m.w m.born xs).length = k := by omega
            simp [execOp, ho, resolve, hc, invoke, builtin, ea, hv, Builtin.len_, ht, Ab.run_underlying hty, goInt, Go.MapKept.run_getObj_map h1, hsz]
          · cases h
        · cases h
      · cases h
    · cases h
  · cases h
theorem capP_r {φ : Ph} : ∀ {l : List V} {ps : List (Nat × Nat)} {vs : List Value}, capP l = some ps → All2 (Vr φ) l vs → All2 (PtrR φ) ps vs
  | [], ps, vs, h, ha => by
    simp only [capP, Option.some.injEq] at h
    subst h
    cases vs <;> first | trivial | exact ha.elim
  | x :: t, ps, [], h, ha => ha.elim
  | x :: t, ps, v :: vs, h, ha => by
    unfold capP at h
    split at h
    · cases ‹_ :: _ = []›
    · rename_i p t' e
      cases e
      split at h
      · rename_i r hr
        cases h
        obtain ⟨b, hb, hv⟩ := ha.1
        exact ⟨⟨b, hb, hv⟩, capP_r hr ha.2⟩
      · cases h
    · cases h
theorem kFunc_ok {P : Program} {env : List V} {n : Nat} {L : Hp} {fn : Fn} {a b : Array Operand} {s : S} {o : Oper} (ho : o.op = .makeFunc fn a b) (h : kFunc fn a (b.toList.map (ev env)) = some s) : OutR P o env n L ⟨[], .s s, [], n⟩ := by
  unfold kFunc at h
  split at h
  · rename_i f
    split at h
    · rename_i h1 h2
      cases h
      have ha : a = #[] := Array.eq_empty_of_size_eq_zero (by simpa using h1)
      have hb : b = #[] := by
        have : b.toList = [] := by simpa using h2
        exact Array.toList_eq_nil_iff.1 this
      subst ha; subst hb
      refine ⟨OpL.light fun φ act w hop _ => ⟨.func (.func f) #[] #[], ?_, rfl⟩, Nat.le_refl _⟩
      simp [execOp, ho, Instr.makeFunc]
    · rename_i cap h1 h2
      split at h
      · rename_i ps hps
        cases h
        have ha : a = #[] := Array.eq_empty_of_size_eq_zero (by simpa using h1)
        subst ha
        refine ⟨OpL.light fun φ act w hop _ => ⟨.func (.func f) #[] (b.map act.eval), ?_, b.toList.map act.eval, ?_, capP_r hps ?_⟩, Nat.le_refl _⟩
        · simp [execOp, ho, Instr.makeFunc]
        · congr 1; apply Array.ext'; simp
        · have key : ∀ l : List Operand, (∀ y ∈ l, Vr φ (ev env y) (act.eval y)) → All2 (Vr φ) (l.map (ev env)) (l.map act.eval) := by
            intro l
            induction l with
            | nil => intro _; trivial
            | cons y t ih => intro hl; exact ⟨hl y (.head _), ih fun z hz => hl z (.tail _ hz)⟩
          exact key _ fun y hy => hop y (by rw [ho]; simp only [Op.operands]; simp at hy ⊢; exact hy)
      · cases h
    · cases h
  · cases h

/-! ### iterators -/
theorem run_getObj_iter {P : Program} {w : World} {r : Nat} {m : Option Nat} {a c : Nat} {s : Array Nat} (hb : w.heap[r]? = some (.mapIter m a s c)) : (getObj r).run P w = .ok (.mapIter m a s c) w := by
  simp [getObj, Sem.run, hb]
theorem run_setObj_iter {P : Program} {w : World} {r : Nat} {m : Option Nat} {a c : Nat} {s : Array Nat} (o : Obj) (hb : w.heap[r]? = some (.mapIter m a s c)) : (setObj r o).run P w = .ok () { w with heap := w.heap.setIfInBounds r o } := by
  simp [setObj, Sem.run, hb]
theorem forced_one : (Question.mapNext 1).forced = true := rfl
theorem run_choose_one {P : Program} (w : World) : (choose (.mapNext 1)).run P w = .ok 0 w := by
  simp [choose, Sem.run, Question.forced]
/-- what a map's block holds -/
theorem map_at {φ : Ph} {L : Hp} {w : World} {i : Nat} {bl : Bl} {m : MapK} (hg : Good φ L w) (hl : lk L i = some bl) (hkd : bl.kind = some m) (hmore : bl.more = false) {b : Nat × Nat} (hb : φ i = some b) (hb2 : b.2 = 0) :
    ∃ xs, w.heap[b.1]? = some (objOf (some m) xs bl.ty (0, 0)) ∧ All2 (Sr φ) bl.cells xs := by
  obtain ⟨b', hb', hat⟩ := hg.hr i bl hl
  rw [hb] at hb'; cases hb'
  obtain ⟨pre, xs, rest, fr, h1, hp, h2, h3, _⟩ := hat
  rw [hb2] at hp
  have := List.eq_nil_of_length_eq_zero hp
  subst this
  have := h3 hmore
  subst this
  rw [hkd] at h1
  exact ⟨xs, by simpa [objOf] using h1, h2.mono fun _ _ => Sr.mono (bl.ph_le_self φ)⟩
theorem kRange_ok {P : Program} {env : List V} {n : Nat} {L : Hp} {t : TypeId} {x : Operand} {r : R} {o : Oper} (ho : o.op = .range t x) (h : kRange P n L t (ev env x) = some r) : OutR P o env n L r := by
  unfold kRange at h
  split at h
  · rename_i kt et hty hx
    cases h
    refine ⟨?_, Nat.le_succ _⟩
    have e : puts (res ([] : List Nat) L) [(n, some { cells := [.map none], ty := 0, kind := some ⟨0, false, [], 0, true⟩ })] = put [] n (some { cells := [.map none], ty := 0, kind := some ⟨0, false, [], 0, true⟩ }) := by simp [res, puts]
    rw [e]
    refine OpL.fresh (L := []) (by simp [lk]) fun φ a w hop _ => ?_
    have g1 := hop x (by simp [ho, Op.operands])
    rw [hx] at g1
    have g1 : a.eval x = .map none := g1
    have hrun : (Instr.range t (a.eval x)).run P w = .ok (.pointer (some ⟨w.heap.size, 0, none⟩)) { w with heap := w.heap.push (.mapIter none 0 #[] 0) } := by
      simp [Instr.range, Ab.run_underlying hty, g1, newObj, Sem.run]
    refine ⟨.pointer (some ⟨w.heap.size, 0, none⟩), { w with heap := w.heap.push (.mapIter none 0 #[] 0) }, ?_, rfl, rfl, rfl, ⟨_, rfl⟩, ?_, fun φ' hn _ => ⟨_, hn, rfl, rfl⟩⟩
    · simp only [execOp, ho]
      rw [Sem.run_bind, hrun]; rfl
    · exact ⟨[], [.map none], [], (0, 0), by simp [objOf, mapOf], rfl, ⟨rfl, trivial⟩, fun _ => rfl, fun _ o ho => by simp at ho ⊢, ⟨fun g z e => (by cases e), fun g e => (by cases e)⟩⟩
  · rename_i kt et i hty hx
    split at h
    · rename_i bl hl
      split at h
      · rename_i m hkd
        split at h
        · rename_i hc
          cases h
          simp only [Bool.or_eq_false_iff] at hc
          obtain ⟨hit, hin⟩ := hc
          have hne : i ≠ n := fun e => by subst e; simp at hin
          refine ⟨?_, Nat.le_succ _⟩
          have e : puts (res [i] L) [(n, some { cells := [.map (some i)], ty := 0, kind := some ⟨m.clock, false, [], m.clock, true⟩ })] = put (res [i] L) n (some { cells := [.map (some i)], ty := 0, kind := some ⟨m.clock, false, [], m.clock, true⟩ }) := by simp [puts]
          rw [e]
          refine OpL.fresh (L := res [i] L) (by simp [res, lk_cons, lk, hne]) fun φ a w hop hg => ?_
          have g1 := hop x (by simp [ho, Op.operands])
          rw [hx] at g1
          obtain ⟨b, hb, hb2, hv⟩ := g1
          obtain ⟨b', hb', hat⟩ := hg.hr i bl (by rw [lk_res]; simp [hl])
          rw [hb] at hb'; cases hb'
          obtain ⟨pre, xs, rest, fr, h1, hp, h2, h3, _⟩ := hat
          rw [hkd] at h1
          simp only [objOf, hit] at h1
          have hrun : (Instr.range t (a.eval x)).run P w = .ok (.pointer (some ⟨w.heap.size, 0, none⟩)) { w with heap := w.heap.push (.mapIter (some b.1) m.clock #[] m.clock) } := by
            simp only [Instr.range, Sem.run_bind, Ab.run_underlying hty, Result.andThen_ok, hv, Go.MapKept.run_getObj_map h1]
            simp [newObj, Sem.run]
          refine ⟨.pointer (some ⟨w.heap.size, 0, none⟩), { w with heap := w.heap.push (.mapIter (some b.1) m.clock #[] m.clock) }, ?_, rfl, rfl, rfl, ⟨_, rfl⟩, ?_, fun φ' hn _ => ⟨_, hn, rfl, rfl⟩⟩
          · simp only [execOp, ho]
            rw [Sem.run_bind, hrun]; rfl
          · exact ⟨[], [.map (some b.1)], [], (0, 0), by simp [objOf, mapOf], rfl, ⟨⟨b, hb, hb2, rfl⟩, trivial⟩, fun _ => rfl, fun _ o ho => by simp at ho ⊢, ⟨fun g z e => (by cases e), fun g e => (by cases e)⟩⟩
        · cases h
      · cases h
    · cases h
  · cases h

def EntR (φ : Ph) (ag : Bool) (e : Nat × S × List S) (m : MapEntry) : Prop := m.born = e.1 ∧ Sr φ e.2.1 m.key ∧ ∃ ys, All2 (Sr φ) e.2.2 ys ∧ m.val = valV ag ys
theorem entL_ok {φ : Ph} {ag : Bool} {w : Nat} : ∀ {born : List Nat} {cs : List S} {xs : List Value} {es : List (Nat × S × List S)}, entL w born cs = some es → All2 (Sr φ) cs xs → All2 (EntR φ ag) es (ents ag w born xs) ∧ (ents ag w born xs).map (·.born) = born
  | [], cs, xs, es, h, ha => by
    simp only [entL, Option.some.injEq] at h
    subst h
    cases xs <;> exact ⟨trivial, rfl⟩
  | b :: bs, k :: t, [], es, h, ha => ha.elim
  | b :: bs, k :: t, x :: xt, es, h, ha => by
    simp only [entL] at h
    split at h
    · split at h
      · rename_i r hr
        cases h
        obtain ⟨ih1, ih2⟩ := entL_ok (ag := ag) hr (ha.2.drop w)
        refine ⟨⟨⟨rfl, ha.1, xt.take w, ha.2.take w, ?_⟩, ih1⟩, ?_⟩
        · cases ag <;> rfl
        · simp only [ents, List.map_cons, ih2]
      · cases h
    · cases h
  | _ :: _, [], _, _, h, _ => by cases h
theorem leftL_ok {φ : Ph} {ag : Bool} {seen : List Nat} : ∀ {es : List (Nat × S × List S)} {ms : List MapEntry}, All2 (EntR φ ag) es ms → All2 (EntR φ ag) (leftL seen es) (ms.filter fun e => !seen.contains e.born)
  | [], [], _ => trivial
  | e :: es, m :: ms, h => by
    have ih := leftL_ok (seen := seen) h.2
    have hb := h.1.1
    simp only [leftL, List.filter_cons, List.contains_eq_mem, hb]
    simp only [List.contains_eq_mem] at ih
    cases hc : seen.elem e.1 with
    | true => have : e.1 ∈ seen := List.elem_iff.1 hc; simp only [this, decide_true, Bool.not_true, Bool.false_eq_true, if_false]; exact ih
    | false => have : ¬ e.1 ∈ seen := fun hm => by rw [List.elem_iff.2 hm] at hc; cases hc
               simp only [this, decide_false, Bool.not_false, if_true]; exact ⟨h.1, ih⟩
  | [], _ :: _, h => h.elim
  | _ :: _, [], h => h.elim
theorem toU_s {x : S} : toU (.s x) = some (.s x) := rfl
theorem tup3_r {φ : Ph} {b : Bool} {x y u : V} {p q : Value} (h : tup3 b x y = some u) (hx : Vr φ x p) (hy : Vr φ y q) : Vr φ u (.tuple #[.bool b, p, q]) := by
  unfold tup3 at h
  split at h
  · rename_i u1 u2 h1 h2
    cases h
    exact ⟨[.bool b, p, q], rfl, rfl, toU_r h1 hx, toU_r h2 hy, trivial⟩
  · cases h
theorem tup2_r {φ : Ph} {x y u : V} {p q : Value} (h : tup2 x y = some u) (hx : Vr φ x p) (hy : Vr φ y q) : Vr φ u (.tuple #[p, q]) := by
  unfold tup2 at h
  split at h
  · rename_i u1 u2 h1 h2
    cases h
    exact ⟨[p, q], rfl, toU_r h1 hx, toU_r h2 hy, trivial⟩
  · cases h
theorem unsp_ok {k m : MapK} (h : unsp k m = false) {ms : List MapEntry} (hb : ms.map (·.born) = m.born) : (!k.born.toArray.isEmpty && !ms.toArray.isEmpty && ms.toArray.all (fun e => decide (e.born ≥ k.clock))) = false := by
  unfold unsp at h
  cases hk : k.born with
  | nil => simp
  | cons a t =>
    cases hm : m.born with
    | nil => rw [hm] at hb; have : ms = [] := by simpa using hb
             subst this; simp
    | cons c r =>
      rw [hk, hm] at h
      simp only [nilB, notB, Bool.true_and] at h
      have : ms.toArray.all (fun e => decide (e.born ≥ k.clock)) = false := by
        rw [Bool.eq_false_iff]
        intro hall
        simp only [List.all_toArray, List.all_eq_true, decide_eq_true_eq] at hall
        have hge : ∀ l : List Nat, (∀ x ∈ l, k.clock ≤ x) → geAll k.clock l = true := by
          intro l
          induction l with
          | nil => intro _; rfl
          | cons y q ih =>
            intro hq
            simp only [geAll, Nat.ble_eq_true_of_le (hq y (by simp))]
            exact ih fun x hx => hq x (by simp [hx])
        rw [hge] at h
        · cases h
        · intro x hx
          rw [← hm, ← hb] at hx
          obtain ⟨e, he, rfl⟩ := List.mem_map.1 hx
          exact hall e he
      rw [this, Bool.and_false]
theorem kNext_ok {P : Program} {env : List V} {n : Nat} {L : Hp} {x : Operand} {s : Bool} {r : R} {o : Oper} (ho : o.op = .next x s) (h : kNext n L (ev env x) s = some r) : OutR P o env n L r := by
  unfold kNext at h
  split at h
  · rename_i rr i hx
    split at h
    · rename_i b hl
      split at h
      · rename_i k hkd
        split at h
        · rename_i hc hcells
          cases h
          simp only [Bool.and_eq_true, notB_eq, Bool.not_eq_true'] at hc
          refine ⟨OpL.light fun φ a w hop hg => ?_, Nat.le_refl _⟩
          have g1 := hop x (by simp [ho, Op.operands])
          rw [hx] at g1
          obtain ⟨p, hp, hp2, hv⟩ := g1
          obtain ⟨xs, hw, hall⟩ := map_at hg (i := rr) (bl := b) (by rw [lk_res]; simp [hl]) hkd hc.2 hp hp2
          rw [hcells] at hall
          match xs, hall with
          | [y], ⟨hy, _⟩ =>
            have hy : y = .map none := hy
            subst hy
            simp only [objOf, hc.1, mapOf] at hw
            refine ⟨.tuple #[.bool false], ?_, [.bool false], rfl, rfl, trivial⟩
            simp only [execOp, ho, hv, Instr.next, Sem.run_bind, run_getObj_iter hw, Result.andThen_ok]
            simp
        · rename_i j hc hcells
          simp only [Bool.and_eq_true, notB_eq, Bool.not_eq_true'] at hc
          split at h
          · rename_i bl hji hl2
            simp only [Bool.and_eq_true, notB_eq, Bool.not_eq_true'] at hji
            have e1 := Nat.eq_of_beq_eq_true hji.1
            have hri : rr ≠ i := fun e => by have := hji.2; rw [e] at this; simp at this
            subst e1
            split at h
            · rename_i m hkd2
              split at h
              · rename_i es hc2 hes
                simp only [Bool.and_eq_true, notB_eq, Bool.not_eq_true'] at hc2
                obtain ⟨⟨d1, d2⟩, d3⟩ := hc2
                -- what the world holds
                have world : ∀ φ (a : Act) (w : World), (∀ x ∈ o.op.operands, Vr φ (ev env x) (a.eval x)) → Good φ (res [rr, j] L) w → ∃ (p : Nat × Nat) (bm : Nat) (ms : List MapEntry), φ rr = some p ∧ p.2 = 0 ∧ a.eval x = .pointer (some ⟨p.1, 0, none⟩) ∧ w.heap[p.1]? = some (.mapIter (some bm) k.w k.born.toArray k.clock) ∧
                    w.heap[bm]? = some (.map ms.toArray m.clock) ∧ All2 (EntR φ m.agg) es ms ∧ ms.map (·.born) = m.born ∧ All2 (Sr φ) b.cells [.map (some bm)] := by
                  intro φ a w hop hg
                  have g1 := hop x (by simp [ho, Op.operands])
                  rw [hx] at g1
                  obtain ⟨p, hp, hp2, hv⟩ := g1
                  obtain ⟨xs, hw, hall⟩ := map_at hg (i := rr) (bl := b) (by rw [lk_res]; simp [hl]) hkd hc.2 hp hp2
                  have hall0 := hall
                  rw [hcells] at hall
                  match xs, hall, hall0, hw with
                  | [y], ⟨hy, _⟩, hall0, hw =>
                    obtain ⟨q, hq, hq2, hyv⟩ := hy
                    subst hyv
                    simp only [objOf, hc.1, mapOf] at hw
                    obtain ⟨zs, hz, hzall⟩ := map_at hg (i := j) (bl := bl) (by rw [lk_res]; simp [hl2]) hkd2 d2 hq hq2
                    simp only [objOf, d1] at hz
                    obtain ⟨f1, f2⟩ := entL_ok (ag := m.agg) hes hzall
                    exact ⟨p, q.1, _, hp, hp2, hv, hw, hz, f1, f2, hall0⟩
                split at h
                · rename_i hleft
                  cases h
                  refine ⟨OpL.light fun φ a w hop hg => ?_, Nat.le_refl _⟩
                  obtain ⟨p, bm, ms, hp, hp2, hv, hw, hz, f1, f2, _⟩ := world φ a w hop hg
                  have hL := leftL_ok (seen := k.born) f1
                  rw [hleft] at hL
                  have hnil : (ms.filter fun e => !k.born.contains e.born) = [] := by
                    cases hq : (ms.filter fun e => !k.born.contains e.born) with
                    | nil => rfl
                    | cons _ _ => rw [hq] at hL; exact hL.elim
                  have hnilA : (ms.toArray.filter fun e => !k.born.toArray.contains e.born) = #[] := by simp only [List.contains_toArray, List.filter_toArray]; rw [hnil]
                  refine ⟨.tuple #[.bool false], ?_, [.bool false], rfl, rfl, trivial⟩
                  have hu := unsp_ok d3 f2
                  simp only [execOp, ho, hv, Instr.next, Sem.run_bind, run_getObj_iter hw, Go.MapKept.run_getObj_map hz, Result.andThen_ok]
                  rw [hu]
                  simp only [Bool.false_eq_true, if_false, hnilA]
                  simp [run_choose_one, forced_one]
                · rename_i e hleft
                  split at h
                  · rename_i v hc3 hval
                    simp only [Bool.and_eq_true, notB_eq, Bool.not_eq_true', okIt, Option.isNone_iff_eq_none] at hc3
                    obtain ⟨⟨g1, ⟨⟨⟨g2, g3⟩, g4⟩, g5⟩⟩, g6⟩ := hc3
                    split at h
                    · rename_i u hu3
                      rw [frc_eq] at h
                      cases h
                      refine ⟨?_, Nat.le_refl _⟩
                      intro φ a w Q hop hg hf
                      obtain ⟨p, bm, ms, hp, hp2, hv, hw, hz, f1, f2, hcl⟩ := world φ a w hop hg
                      have hL := leftL_ok (seen := k.born) f1
                      rw [hleft] at hL
                      obtain ⟨q, hq⟩ : ∃ q, (ms.filter fun e => !k.born.contains e.born) = [q] := by
                        rcases hqq : (ms.filter fun e => !k.born.contains e.born) with _ | ⟨q, _ | ⟨q2, t⟩⟩
                        · rw [hqq] at hL; exact hL.elim
                        · exact ⟨q, hqq⟩
                        · rw [hqq] at hL; exact hL.2.elim
                      rw [hq] at hL
                      obtain ⟨⟨q1, q2, ys, q3, q4⟩, _⟩ := hL
                      have hA : (ms.toArray.filter fun e => !k.born.toArray.contains e.born) = #[q] := by simp only [List.contains_toArray, List.filter_toArray]; rw [hq]
                      have hlt : q.born < k.w := by rw [q1]; exact blt_iff.1 g1
                      have hu := unsp_ok d3 f2
                      have hrun : (Instr.next (a.eval x) false o.type).run P w = .ok (.tuple #[.bool true, q.key, q.val]) { w with heap := w.heap.setIfInBounds p.1 (.mapIter (some bm) k.w (k.born.toArray.push q.born) m.clock) } := by
                        simp only [hv, Instr.next, Sem.run_bind, run_getObj_iter hw, Go.MapKept.run_getObj_map hz, Result.andThen_ok]
                        rw [hu]
                        simp only [Bool.false_eq_true, if_false, hA]
                        have h1 : (#[q].filter fun x => decide (x.born < k.w)) = #[q] := by simp [hlt]
                        have h2 : (#[q].filter fun x => decide (x.born ≥ k.w)) = #[] := by simp; omega
                        simp only [h1, h2]
                        simp [run_choose_one, forced_one, run_setObj_iter _ hw]
                      have hs : Sub [(rr, some b)] (res [rr, j] L) := by
                        intro i' bl' hi'
                        rw [lk_cons] at hi'
                        split at hi'
                        · rename_i e; subst e; cases hi'; rw [lk_res]; simp [hl]
                        · simp [lk] at hi'
                      obtain ⟨good, stp⟩ := obj_good (cs' := b.cells) (kd := some ⟨k.w, k.agg, k.born ++ [e.1], m.clock, true⟩) (xs' := [.map (some bm)]) (hg.sub hs) hp hp2 g3 g4 g5 hcl
                      have eo : objOf (some ⟨k.w, k.agg, k.born ++ [e.1], m.clock, true⟩) [.map (some bm)] b.ty (0, 0) = .mapIter (some bm) k.w (k.born.toArray.push q.born) m.clock := by
                        simp [objOf, mapOf, q1]
                      rw [eo] at good stp
                      obtain ⟨G, ST⟩ := frame (M' := puts (res [rr, j] L) [(rr, some { b with kind := some ⟨k.w, k.agg, k.born ++ [e.1], m.clock, true⟩ })]) hg hs good stp (Ph.le_refl _) (by
                        intro i' bl' hi'
                        simp only [puts, lk_put] at hi'
                        split at hi'
                        · rename_i e; subst e; cases hi'; exact .inl (by simp [lk_cons])
                        · rename_i hne
                          exact .inr ⟨by rw [lk_cons, if_neg hne]; rfl, hi'⟩)
                      unfold Oper.wp
                      have : (execOp a.eval o).run P w = .ok (.value (.tuple #[.bool true, q.key, q.val])) { w with heap := w.heap.setIfInBounds p.1 (.mapIter (some bm) k.w (k.born.toArray.push q.born) m.clock) } := by
                        simp only [execOp, ho]
                        rw [Sem.run_bind, hrun]; rfl
                      rw [this, Oper.upon_value]
                      refine ⟨φ, _, rfl, ?_, G, ST, fun _ _ => rfl⟩
                      refine tup3_r hu3 q2 ?_
                      rw [q4]
                      exact valOf_r hval q3
                    · cases h
                  · cases h
                · cases h
              · cases h
            · cases h
          · cases h
        · cases h
      · cases h
    · cases h
  · cases h
theorem lastN_ok : ∀ {l : List Nat} {s : Nat}, lastN l = some s → l.toArray.back? = some s
  | [x], s, h => by simp only [lastN, Option.some.injEq] at h; subst h; rfl
  | x :: y :: t, s, h => by
    have := lastN_ok (l := y :: t) h
    simp only [Array.back?, List.getElem?_toArray, List.size_toArray] at this ⊢
    simpa using this
theorem findB_ok {φ : Ph} {ag : Bool} {s : Nat} : ∀ {es : List (Nat × S × List S)} {ms : List MapEntry} {e : Nat × S × List S}, All2 (EntR φ ag) es ms → findB s es = some e → ∃ m, (ms.find? fun x => x.born == s) = some m ∧ EntR φ ag e m
  | e :: es, m :: ms, e', h, hf => by
    simp only [findB] at hf
    split at hf
    · rename_i hb
      cases hf
      have := Nat.eq_of_beq_eq_true hb
      exact ⟨m, by simp [List.find?_cons, h.1.1, this], h.1⟩
    · rename_i hb
      obtain ⟨m', h1, h2⟩ := findB_ok h.2 hf
      refine ⟨m', ?_, h2⟩
      have : ¬ (e.1 = s) := fun e' => by rw [e'] at hb; simp at hb
      simp only [List.find?_cons, h.1.1]
      have hb' : (e.1 == s) = false := by simpa using this
      rw [hb']; exact h1
  | [], _, _, _, hf => by cases hf
  | _ :: _, [], _, h, _ => h.elim
theorem kEntry_ok {P : Program} {env : List V} {n : Nat} {L : Hp} {x : Operand} {r : R} {o : Oper} (ho : o.op = .entry x) (h : kEntry n L (ev env x) = some r) : OutR P o env n L r := by
  unfold kEntry at h
  split at h
  · rename_i rr i hx
    split at h
    · rename_i b bl hl hl2
      split at h
      · rename_i k m hkd hkd2
        split at h
        · rename_i j hc hcells
          simp only [Bool.and_eq_true, notB_eq, Bool.not_eq_true'] at hc
          obtain ⟨⟨⟨⟨c1, c2⟩, c3⟩, c4⟩, c5⟩ := hc
          have c5 := Nat.eq_of_beq_eq_true c5
          split at h
          · rename_i s es hji hlast hes
            have e1 := Nat.eq_of_beq_eq_true hji
            subst e1
            split at h
            · rename_i e hfind
              split at h
              · rename_i v hj hval
                split at h
                · rename_i u hu
                  cases h
                  refine ⟨OpL.light fun φ a w hop hg => ?_, Nat.le_refl _⟩
                  have g1 := hop x (by simp [ho, Op.operands])
                  rw [hx] at g1
                  obtain ⟨p, hp, hp2, hv⟩ := g1
                  obtain ⟨xs, hw, hall⟩ := map_at hg (i := rr) (bl := b) (by rw [lk_res]; simp [hl]) hkd c2 hp hp2
                  rw [hcells] at hall
                  match xs, hall, hw with
                  | [y], ⟨hy, _⟩, hw =>
                    obtain ⟨q, hq, hq2, hyv⟩ := hy
                    subst hyv
                    simp only [objOf, c1, mapOf] at hw
                    obtain ⟨zs, hz, hzall⟩ := map_at hg (i := j) (bl := bl) (by rw [lk_res]; simp [hl2]) hkd2 c4 hq hq2
                    simp only [objOf, c3] at hz
                    obtain ⟨f1, f2⟩ := entL_ok (ag := m.agg) hes hzall
                    obtain ⟨me, f3, ⟨f4, f5, ys, f6, f7⟩⟩ := findB_ok f1 hfind
                    refine ⟨.tuple #[me.key, me.val], ?_, tup2_r hu f5 (by rw [f7]; exact valOf_r hval f6)⟩
                    have hb := lastN_ok hlast
                    simp only [execOp, ho, hv, Instr.entry, Sem.run_bind, run_getObj_iter hw, Result.andThen_ok, hb, Go.MapKept.run_getObj_map hz, c5]
                    simp [f3]
                · cases h
              · cases h
            · cases h
          · cases h
        · cases h
      · cases h
    · cases h
  · cases h
theorem ents_erase {ag : Bool} {w : Nat} : ∀ {born : List Nat} {xs : List Value} {j : Nat}, j < born.length → born.length * (w + 1) ≤ xs.length → (ents ag w born xs).eraseIdx j = ents ag w (born.take j ++ born.drop (j + 1)) (xs.take (j * (w + 1)) ++ xs.drop ((j + 1) * (w + 1)))
  | [], xs, j, hj, _ => by simp at hj
  | b :: bs, [], j, hj, hl => by simp at hl
  | b :: bs, x :: xt, 0, hj, hl => by
    simp only [ents, List.eraseIdx_cons_zero, List.take_zero, List.nil_append, Nat.zero_mul, Nat.zero_add, Nat.one_mul, List.drop_succ_cons, List.drop_zero]
  | b :: bs, x :: xt, j + 1, hj, hl => by
    simp only [List.length_cons] at hj hl
    have hmul : (bs.length + 1) * (w + 1) = bs.length * (w + 1) + (w + 1) := by rw [Nat.add_mul]; omega
    have hl' : bs.length * (w + 1) ≤ (xt.drop w).length := by simp only [List.length_drop]; omega
    have ih := ents_erase (ag := ag) (w := w) (born := bs) (xs := xt.drop w) (j := j) (by omega) hl'
    have e1 : (j + 1) * (w + 1) = (j * (w + 1) + w) + 1 := by rw [Nat.add_mul]; omega
    have e2 : (j + 1 + 1) * (w + 1) = ((j + 1) * (w + 1) + w) + 1 := by rw [Nat.add_mul (j + 1)]; omega
    simp only [ents, List.eraseIdx_cons_succ, ih, List.take_succ_cons, List.drop_succ_cons, List.cons_append]
    rw [e2, e1]
    simp only [List.take_succ_cons, List.drop_succ_cons, List.cons_append, ents]
    have hjw : j * (w + 1) + w ≤ xt.length := by
      have : j * (w + 1) ≤ bs.length * (w + 1) := Nat.mul_le_mul_right _ (by omega)
      omega
    have t1 : (List.take (j * (w + 1) + w) xt ++ List.drop (j * (w + 1) + w + 1 + w) xt).take w = xt.take w := by
      rw [List.take_append_of_le_length (by simp; omega), List.take_take, Nat.min_eq_left (by omega)]
    have t2 : (List.take (j * (w + 1) + w) xt ++ List.drop (j * (w + 1) + w + 1 + w) xt).drop w = (xt.drop w).take (j * (w + 1)) ++ (xt.drop w).drop ((j + 1) * (w + 1)) := by
      rw [List.drop_append_of_le_length (by simp; omega), List.drop_take, List.drop_drop, show j * (w + 1) + w - w = j * (w + 1) by omega]
      congr 2
      rw [e1]; omega
    rw [t1, t2, e1]
theorem kDel_ok {P : Program} {env : List V} {n : Nat} {L : Hp} {o : Oper} {c : Call} {x ix : Operand} {r : R} (ho : o.op = .call c) (hc : c.callee = .builtin .delete) (hargs : c.args.toList = [x, ix]) (h : kDel P c.argTypes n L (ev env x) (ev env ix) = some r) : OutR P o env n L r := by
  have ea : ∀ a : Act, c.args.map a.eval = #[a.eval x, a.eval ix] := fun a => by apply Array.ext'; simp [hargs]
  have opx : x ∈ o.op.operands := by rw [ho]; simp only [Op.operands, Call.operands, hc]; simp [← Array.mem_toList_iff, hargs]
  have opi : ix ∈ o.op.operands := by rw [ho]; simp only [Op.operands, Call.operands, hc]; simp [← Array.mem_toList_iff, hargs]
  unfold kDel at h
  split at h
  · rename_i t ht
    split at h
    · rename_i kt et hty
      split at h
      · rename_i d key i hd hix hx
        split at h
        · rename_i bl hl
          split at h
          · rename_i m hkd
            split at h
            · rename_i hck
              simp only [Bool.and_eq_true, notB_eq, Bool.not_eq_true', okIt, Option.isNone_iff_eq_none] at hck
              obtain ⟨⟨⟨hk, hit⟩, ⟨⟨⟨c3, c4⟩, c5⟩, c9⟩⟩, c11⟩ := hck
              have c11 := Nat.le_of_ble_eq_true c11
              have e1 : res [i] L = [(i, some bl)] := by simp [res, hl]
              have fin : ∀ (cs : List S) (kd : MapK), kd.it = false → (∀ φ (a : Act) (w : World) (b : Nat) (xs : List Value), w.heap[b]? = some (.map (ents m.agg m.w m.born xs).toArray m.clock) → All2 (Sr φ) bl.cells xs → Sr φ key (a.eval ix) →
                  ∃ xs', All2 (Sr φ) cs xs' ∧ (Builtin.delete_ c.argTypes o.type #[.map (some b), a.eval ix]).run P w = .ok (.tuple #[]) { w with heap := w.heap.setIfInBounds b (objOf (some kd) xs' bl.ty (0, 0)) }) → OutR P o env n L ⟨[i], .tup [], [(i, some { bl with cells := cs, kind := some kd })], n⟩ := by
                intro cs kd hkit hrun
                refine ⟨?_, Nat.le_refl _⟩
                intro φ a w Q hop hg hf
                have g1 := hop x opx
                have g2 := hop ix opi
                rw [hx] at g1; rw [hix] at g2
                obtain ⟨b, hb, hb2, hv⟩ := g1
                have hg' : Good φ [(i, some bl)] w := by rw [e1] at hg; exact hg
                obtain ⟨xs, hw, hall⟩ := map_at hg' (i := i) (bl := bl) (by simp [lk]) hkd c3 hb hb2
                simp only [objOf, hit] at hw
                obtain ⟨xs', hxs', hrun'⟩ := hrun φ a w b.1 xs hw hall g2
                obtain ⟨good, stp⟩ := obj_good (cs' := cs) (kd := some kd) (xs' := xs') hg' hb hb2 c4 c5 c9 hxs'
                have e2 : puts (res [i] L) [(i, some { bl with cells := cs, kind := some kd })] = [(i, some { bl with cells := cs, kind := some kd })] := by rw [e1]; simp [puts, put]
                unfold Oper.wp
                have : (execOp a.eval o).run P w = .ok (.value (.tuple #[])) { w with heap := w.heap.setIfInBounds b.1 (objOf (some kd) xs' bl.ty (0, 0)) } := by
                  simp only [execOp, ho, resolve, hc, invoke, builtin, ea, hv]
                  simp only [Sem.run_bind, Sem.run_pure, Result.andThen_ok, hrun']
                rw [this, Oper.upon_value]
                exact ⟨φ, .tuple #[], rfl, ⟨[], rfl, trivial⟩, by rw [e2]; exact good, by rw [e2, e1]; exact stp, fun _ _ => rfl⟩
              split at h
              · rename_i hf0
                cases h
                rw [show (some bl : Option Bl) = some { bl with cells := bl.cells, kind := some m } by rw [← hkd]]
                refine fin _ _ hit fun φ a w b xs e8 e9 e3 => ?_
                have hfn := findK_ok (d := d) hk e3 (ag := m.agg) e9 hf0
                have hc := fun e => run_checkKey (P := P) (w := w) hd (keyOK_is hk e3) e 9999
                have hf := run_findKey (P := P) (w := w) hd hfn
                refine ⟨xs, e9, ?_⟩
                simp only [Builtin.delete_, ht, List.getElem?_toArray, List.getElem?_cons_zero, List.getElem?_cons_succ, Sem.run_bind, Ab.run_underlying hty, Result.andThen_ok, Go.MapKept.run_getObj_map e8, hc, hf]
                rw [run_setObj_map _ e8]
                simp [objOf, hit]
              · rename_i j l hf0
                rw [frc_eq, frc_eq] at h
                cases h
                refine fin _ _ rfl fun φ a w b xs e8 e9 e3 => ?_
                obtain ⟨q, q1, q2, q3, q4, ⟨e, f1, f2, f3, f4⟩, q5⟩ := findK_ok (d := d) hk e3 (ag := m.agg) e9 hf0
                rw [Nat.zero_add] at q1
                subst q1
                have hc := fun e => run_checkKey (P := P) (w := w) hd (keyOK_is hk e3) e 9999
                have hf := run_findKey (P := P) (w := w) hd f2
                refine ⟨xs.take (j * (m.w + 1)) ++ xs.drop ((j + 1) * (m.w + 1)), (e9.take _).append (e9.drop _), ?_⟩
                simp only [Builtin.delete_, ht, List.getElem?_toArray, List.getElem?_cons_zero, List.getElem?_cons_succ, Sem.run_bind, Ab.run_underlying hty, Result.andThen_ok, Go.MapKept.run_getObj_map e8, hc, hf]
                rw [run_setObj_map _ e8]
                simp only [objOf, ← ents_erase q2 (by rw [e9.len]; exact c11)]
                simp
              · cases h
            · cases h
          · cases h
        · cases h
      · cases h
    · cases h
  · cases h

theorem kx_ok (P : Program) : KxOK P (kx P) := by
  intro o env n L r h
  unfold kx at h
  split at h
  · rename_i t x ix ok ho; exact kLookup_ok ho h
  · rename_i t m k v ho; exact kMapUp_ok ho h
  · rename_i t r' ho; exact kMakeMap_ok ho h
  · rename_i fn a b ho
    obtain ⟨s, hs, rfl⟩ := lgt_some h
    exact kFunc_ok ho hs
  · rename_i t x ho; exact kRange_ok ho h
  · rename_i x s ho; exact kNext_ok ho h
  · rename_i x ho; exact kEntry_ok ho h
  · rename_i op t x y ty ho
    split at h
    · rename_i s hs
      cases h
      refine kop_ok ?_
      simp only [kop, ho, hs, lgt]
    · obtain ⟨s, hs, rfl⟩ := lgt_some h
      exact kOpqB_ok ho hs
  · rename_i src dst x ho
    split at h
    · rename_i r' hr; cases h; exact kop_ok hr
    · obtain ⟨s, hs, rfl⟩ := lgt_some h
      exact kOpqC_ok ho hs
  · rename_i c ho
    split at h
    · rename_i r' hr; cases h; exact kop_ok hr
    · split at h
      · rename_i x y hc hargs; exact kAppZ_ok ho hc hargs h
      · rename_i x hc hargs; exact kLenM_ok ho hc hargs h
      · rename_i x y hc hargs; exact kDel_ok ho hc hargs h
      · rename_i x y z hc hargs
        obtain ⟨s, hs, rfl⟩ := lgt_some h
        exact kMax3_ok ho hc hargs hs
      · cases h
  · exact kop_ok h

end Ab
end Go.Proofs.YtgbkllbaojkfmaaGreatDoor
