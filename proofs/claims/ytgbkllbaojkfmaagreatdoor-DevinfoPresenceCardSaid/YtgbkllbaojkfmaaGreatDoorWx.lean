/-
  maps.Clone over the quick machine: a new block with the old entries.
-/
import Derived.Test.YtgbkllbaojkfmaaGreatDoorWv
import Derived.Shelf.SlMaps.Clone
set_option linter.unusedSimpArgs false
set_option linter.unusedVariables false
namespace Go.Proofs.YtgbkllbaojkfmaaGreatDoor
open Go Ab
set_option maxRecDepth 100000

theorem SC.newB {P : Program} {f : FuncId} {args : List V} {n : Nat} {L : Hp} (bl : Bl) (oh : OH n L)
    (h : ∀ (φ : Ph) (xs : List Value) (w : World), All2 (Vr φ) args xs → Ab.Good φ L w → Calls P f xs.toArray w fun e w' => e = .returned (.map (some w.heap.size)) ∧ RowKit.Below w.heap.size w w' ∧ w.heap.size < w'.heap.size ∧ ∀ φ', φ.le φ' → BlAt φ' w' (w.heap.size, 0) bl) :
    SC P f args n L (.s (.map (some n))) (n + 1) (put L n (some bl)) := by
  intro φ xs w h1 h2 h3
  refine Calls.mono (h φ xs w h1 h2) ?_
  rintro e w' ⟨rfl, hb, hlt, hat0⟩
  have f0 := h3 n (Nat.le_refl _)
  let g := w.heap.size
  let φ' : Ph := fun j => if j = n then some (g, 0) else φ j
  have hle : φ.le φ' := by
    intro j b hj
    simp only [φ']
    split
    · rename_i e; subst e; rw [f0] at hj; cases hj
    · exact hj
  have hφn : φ' n = some (g, 0) := by simp [φ']
  have old : ∀ j bj, lk (put L n (some bl)) j = some bj → n ≠ j → lk L j = some bj ∧ φ' j = φ j := by
    intro j bj hj hne
    rw [lk_put, if_neg hne] at hj
    exact ⟨hj, by simp only [φ']; rw [if_neg (Ne.symm hne)]⟩
  refine ⟨φ', _, rfl, ⟨(g, 0), hφn, rfl, rfl⟩, ⟨fun j bj hj => ?_, fun j j' bj bj' b b₂ hj hj' hb1 hb2 hbb => ?_⟩, fun i hi => ?_, ⟨hb.os, hb.tape, hb.output, hb.size, fun b hb' _ => hb.block b hb', fun j bj b hj hp hlt => ?_⟩, by omega, fun i hi => ?_⟩
  · by_cases e : n = j
    · subst e
      rw [lk_put, if_pos rfl] at hj; cases hj
      exact ⟨(g, 0), hφn, hat0 φ' hle⟩
    · obtain ⟨hm, hφ⟩ := old j bj hj e
      obtain ⟨b, hb1, hat⟩ := h2.hr j bj hm
      exact ⟨b, by rw [hφ]; exact hb1, hat.mono hle (hb.block _ hat.lt)⟩
  · have new : ∀ j bj b, lk L j = some bj → φ j = some b → b.1 ≠ g := by
      intro j bj b hj hbj e
      obtain ⟨b', hb', hat⟩ := h2.hr j bj hj
      rw [hbj] at hb'; cases hb'
      have := hat.lt
      omega
    by_cases e : n = j <;> by_cases e' : n = j'
    · exact .inl (e ▸ e')
    · subst e
      obtain ⟨hm, hφ⟩ := old j' bj' hj' e'
      rw [hφn] at hb1; cases hb1
      exact absurd hbb.symm (new j' bj' b₂ hm (by rw [← hφ]; exact hb2))
    · subst e'
      obtain ⟨hm, hφ⟩ := old j bj hj e
      rw [hφn] at hb2; cases hb2
      exact absurd hbb (new j bj b hm (by rw [← hφ]; exact hb1))
    · obtain ⟨hm, hφ⟩ := old j bj hj e
      obtain ⟨hm', hφ'⟩ := old j' bj' hj' e'
      exact h2.inj j j' bj bj' b b₂ hm hm' (by rw [← hφ]; exact hb1) (by rw [← hφ']; exact hb2) hbb
  · simp only [φ']; rw [if_neg (by omega)]; exact h3 i (by omega)
  · by_cases e : n = j
    · subst e
      rw [hφn] at hp; cases hp
      have : g < w.heap.size := hlt
      omega
    · obtain ⟨hm, hφ⟩ := old j bj hj e
      exact ⟨j, bj, b, hm, by rw [← hφ]; exact hp, rfl, id, .inl rfl⟩
  · simp only [φ']; rw [if_neg (by omega)]

theorem heap_lt (w : World) (o : Obj) : w.heap.size < (w.alloc o).heap.size := by
  show w.heap.size < (w.heap.push o).size
  rw [Array.size_push]; omega
theorem heap_at (w : World) (o : Obj) : (w.alloc o).heap[w.heap.size]? = some o := by
  show (w.heap.push o)[w.heap.size]? = some o
  simp
def cpB (bl : Bl) : Bl := { cells := bl.cells, ty := bl.ty, kind := bl.kind }
def cloneK (n : Nat) (h : T Bl) (i : Nat) : Option KC :=
  match h.get i with
  | some bl =>
    match bl.kind with
    | some m =>
      match notB m.it && notB bl.more && notB bl.flat with
      | true => some (T.putK (some (cpB bl)) h n fun h => .ok (.s (.map (some n))) (n + 1) h)
      | false => none
    | none => none
  | none => none
def cln (f : FuncId) : Bool := match Nat.beq f 54 with | true => true | false => match Nat.beq f 55 with | true => true | false => Nat.beq f 56
def ovK (f : FuncId) (args : List V) (n : Nat) (h : T Bl) : Option KC :=
  match cln f with
  | true =>
    match args with
    | [.s (.map none)] => some (.ok (.s (.map none)) n h)
    | [.s (.map (some i))] => cloneK n h i
    | _ => none
  | false => none
theorem cln_ok {f : FuncId} (h : cln f = true) : f = 54 ∨ f = 55 ∨ f = 56 := by
  unfold cln at h
  split at h
  · rename_i e; exact .inl (Nat.eq_of_beq_eq_true e)
  · split at h
    · rename_i e; exact .inr (.inl (Nat.eq_of_beq_eq_true e))
    · exact .inr (.inr (Nat.eq_of_beq_eq_true h))
theorem clone_some {f : FuncId} (h : cln f = true) (b : Nat) (es : Array MapEntry) (clock : Nat) (w : World) (hb : w.heap[b]? = some (.map es clock)) :
    Calls Tryz.prog f #[.map (some b)] w fun e w' => e = .returned (.map (some w.heap.size)) ∧ w' = w.alloc (.map es clock) := by
  rcases cln_ok h with rfl | rfl | rfl
  · exact AnyW.maps_Clone Tryz.cloneA b es clock w hb
  · exact AnyW.maps_Clone Tryz.cloneB b es clock w hb
  · exact AnyW.maps_Clone Tryz.cloneC b es clock w hb
theorem clone_nil {f : FuncId} (h : cln f = true) (w : World) :
    Calls Tryz.prog f #[.map none] w fun e w' => e = .returned (.map none) ∧ w' = w := by
  rcases cln_ok h with rfl | rfl | rfl
  · exact AnyW.maps_Clone_nil Tryz.cloneA w
  · exact AnyW.maps_Clone_nil Tryz.cloneB w
  · exact AnyW.maps_Clone_nil Tryz.cloneC w
theorem cln_call {f : FuncId} (h : cln f = true) {args : List V} {n : Nat} {L : Hp} {v : V} {n' : Nat} {L' : Hp} (hs : SC Tryz.prog f args n L v n' L') : CallOK Tryz.prog f args n L v n' L' := by
  rcases cln_ok h with rfl | rfl | rfl
  · exact SC.callOK hs Tryz.func54 (by rfl) (by kernel_rfl)
  · exact SC.callOK hs Tryz.func55 (by rfl) (by kernel_rfl)
  · exact SC.callOK hs Tryz.func56 (by rfl) (by kernel_rfl)
theorem ovK_ok : OvOK Tryz.prog ovK := by
  intro f args n h r hr v n' h' e L hv oh oe
  subst e
  unfold ovK at hr
  split at hr
  · rename_i hf
    split at hr
    · have hr := Option.some.inj hr
      cases hr
      refine ⟨L, hv, oh, rfl, Nat.le_refl _, cln_call hf fun φ xs w h1 h2 h3 => ?_⟩
      match xs, h1 with
      | [x], ⟨hx, _⟩ =>
        have hx : x = .map none := hx
        subst hx
        refine Calls.mono (clone_nil hf w) ?_
        rintro e w' ⟨rfl, rfl⟩
        exact ⟨φ, _, rfl, rfl, h2, h3, Stp.refl _ _ _, Nat.le_refl _, fun _ _ => rfl⟩
    · rename_i i
      unfold cloneK at hr
      split at hr
      · rename_i bl hbl
        split at hr
        · rename_i m hkd
          split at hr
          · rename_i hc
            simp only [Bool.and_eq_true, notB_eq, Bool.not_eq_true'] at hc
            obtain ⟨⟨c1, c2⟩, c3⟩ := hc
            have hr := Option.some.inj hr
            rw [T.putK_eq] at hr
            cases hr
            have hl : lk L i = some bl := by rw [hv i]; exact hbl
            refine ⟨put L n (some (cpB bl)), fun j => ?_, fun j bj hj => ?_, ?_, by omega, cln_call hf (SC.newB (cpB bl) oh fun φ xs w ha hg => ?_)⟩
            · rw [lk_put]
              show _ = (h.put n (some (cpB bl))).get j
              rw [T.get_put, hv j]
            · rw [lk_put] at hj
              split at hj
              · cases hj
                refine ⟨by omega, ?_⟩
                have h0 := (oh i bl hl).2
                simp only [okB, Bool.and_eq_true, c3] at h0
                simp only [okB, cpB, okG, Bool.true_and]
                rw [List.all_eq_true] at *
                exact fun x hx => okS_mono (by omega) (h0.2 x hx)
              · have := oh j bj hj
                exact ⟨by omega, okB_mono (by omega) this.2⟩
            · simp only [okV, okS]; exact blt_iff.2 (by omega)
            · match xs, ha with
              | [x], ⟨hx, _⟩ =>
                obtain ⟨b, hb, hb2, rfl⟩ := hx
                obtain ⟨zs, hz, hzall⟩ := map_at hg hl hkd c2 hb hb2
                simp only [objOf, c1] at hz
                refine Calls.mono (clone_some hf b.1 _ _ w hz) ?_
                rintro e w' ⟨rfl, rfl⟩
                refine ⟨rfl, (RowKit.Below.refl _ w).alloc (Nat.le_refl _) _, heap_lt w _, fun φ' hle => ?_⟩
                refine ⟨[], zs, [], (0, 0), ?_, rfl, ?_, fun _ => rfl, fun _ o ho => (by simp), fun g z e => (by cases e), fun g e => (by cases e)⟩
                · have e1 : objOf (cpB bl).kind ([] ++ (zs ++ [])) (cpB bl).ty (0, 0) = .map (ents m.agg m.w m.born zs).toArray m.clock := by
                    simp only [cpB, hkd, List.nil_append, List.append_nil, objOf, c1]
                  rw [e1]
                  exact heap_at w _
                · have : (cpB bl).ph φ' = φ' := rfl
                  rw [this]
                  exact hzall.mono fun _ _ => Sr.mono hle
          · cases hr
        · cases hr
      · cases hr
    · cases hr
  · cases hr
end Go.Proofs.YtgbkllbaojkfmaaGreatDoor
