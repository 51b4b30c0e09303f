/-
  The quick machine, part 16: a run's outcome kept, used where more is known of the opaque integers.
-/
import Derived.Test.YtgbkllbaojkfmaaGreatDoorKp
import Derived.Test.YtgbkllbaojkfmaaGreatDoorKs
set_option linter.unusedSimpArgs false
set_option linter.unusedVariables false
namespace Go.Proofs.YtgbkllbaojkfmaaGreatDoor
namespace Ab
open Go
set_option maxRecDepth 100000

abbrev Kns := List (Nat × Kn)
def tight : Kns → Bs → Bs
  | [], hs => hs
  | (g, K) :: t, hs => tight t (knSB g K hs)
def within (K K0 : Kn) : Bool := (match K0.m with | none => true | some _ => false) && Nat.ble K0.lo K.lo && Nat.ble K.hi K0.hi
theorem within_ok {K K0 : Kn} (h : within K K0 = true) {z : Nat} (hz : K.ok z) : K0.ok z := by
  simp only [within, Bool.and_eq_true] at h
  obtain ⟨⟨h1, h2⟩, h3⟩ := h
  have h2 := Nat.le_of_ble_eq_true h2
  have h3 := Nat.le_of_ble_eq_true h3
  refine ⟨by have := hz.1; omega, by have := hz.2.1; omega, fun d r e => ?_⟩
  rw [e] at h1; cases h1
def looseS (g : Nat) (K : Kn) (x : S) : Bool :=
  match x with
  | .opq _ t K0 => match t with | .v i => (match Nat.beq i g with | true => within K K0 | false => true) | _ => true
  | _ => true
def looseL (g : Nat) (K : Kn) : List S → Bool
  | [] => true
  | x :: t => match looseS g K x with | true => looseL g K t | false => false
def looseB (g : Nat) (K : Kn) : Bs → Bool
  | [] => true
  | (_, b) :: t => match looseL g K b.cells with | true => looseB g K t | false => false
theorem Sr.loose {φ : Ph} {g : Nat} {K : Kn} {x : S} {v : Value} (hl : looseS g K x = true) (h : Sr φ (Ab.knS g K x) v) : Sr φ x v := by
  cases x with
  | opq k t K0 =>
    cases t with
    | v i =>
      simp only [Ab.knS, looseS] at h hl
      cases hb : Nat.beq i g with
      | true =>
        rw [hb] at h hl
        obtain ⟨q, h1, h2, h3⟩ := h
        exact ⟨q, h1, within_ok hl h2, h3⟩
      | false => rw [hb] at h; exact h
    | _ => exact h
  | _ => exact h
theorem all2_loose {φ : Ph} {g : Nat} {K : Kn} : ∀ {l : List S} {xs : List Value}, looseL g K l = true → All2 (Sr φ) (knSL g K l) xs → All2 (Sr φ) l xs
  | [], [], _, _ => trivial
  | x :: l, _ :: _, hl, h => by
    simp only [looseL] at hl
    split at hl
    · rename_i e; exact ⟨Sr.loose e h.1, all2_loose hl h.2⟩
    · cases hl
  | [], _ :: _, _, h => h.elim
  | _ :: _, [], _, h => h.elim
theorem looseB_lk {g : Nat} {K : Kn} : ∀ (hs : Bs) (L : Hp), looseB g K hs = true → (∀ i b, lk L i = some b → looseL g K b.cells = true) → ∀ i b, lk (puts L (toW hs)) i = some b → looseL g K b.cells = true
  | [], L, _, hL, i, b, hi => hL i b hi
  | (j, d) :: t, L, h, hL, i, b, hi => by
    simp only [looseB] at h
    split at h
    · rename_i e
      refine looseB_lk t (put L j (some d)) h (fun i b hi => ?_) i b hi
      rw [lk_put] at hi
      split at hi
      · cases hi; exact e
      · exact hL i b hi
    · cases h
theorem Good.loose {φ : Ph} {g : Nat} {K : Kn} {hs : Bs} {w : World} (hl : looseB g K hs = true) (h : Good φ (puts [] (toW (knSB g K hs))) w) : Good φ (puts [] (toW hs)) w := by
  have he := fun i => lk_knSB (g := g) (K := K) hs [] [] i rfl
  have hlo := looseB_lk hs [] hl (fun i b hi => by cases hi)
  refine ⟨fun i bl hi => ?_, fun i j bl bl' b b' hi hj hb hb' hbb => ?_⟩
  · obtain ⟨b, hb, pre, xs, rest, fr, h1, h2, h3, h4, h5, h6⟩ := h.hr i { bl with cells := knSL g K bl.cells } (by rw [he i, hi]; rfl)
    refine ⟨b, hb, pre, xs, rest, fr, h1, h2, ?_, h4, h5, h6⟩
    have h3 : All2 (Sr (bl.ph φ)) (knSL g K bl.cells) xs := h3
    exact all2_loose (hlo i bl hi) h3
  · exact h.inj i j { bl with cells := knSL g K bl.cells } { bl' with cells := knSL g K bl'.cells } b b' (by rw [he i, hi]; rfl) (by rw [he j, hj]; rfl) hb hb' hbb
def looseA : Kns → Bs → Bool
  | [], _ => true
  | (g, K) :: t, hs => match looseB g K hs with | true => looseA t (knSB g K hs) | false => false
theorem Good.looseA {φ : Ph} {w : World} : ∀ {ks : Kns} {hs : Bs}, Ab.looseA ks hs = true → Good φ (puts [] (toW (tight ks hs))) w → Good φ (puts [] (toW hs)) w
  | [], hs, _, h => h
  | (g, K) :: t, hs, hl, h => by
    simp only [Ab.looseA] at hl
    split at hl
    · rename_i e; exact Good.loose e (Good.looseA hl h)
    · cases hl
def Kns.ok (φ : Ph) : Kns → Prop
  | [] => True
  | (g, K) :: t => (∃ z, φ g = some (z, 0) ∧ K.ok z) ∧ Kns.ok φ t
theorem Good.tight {φ : Ph} {w : World} : ∀ {ks : Kns} {hs : Bs}, Kns.ok φ ks → Good φ (puts [] (toW hs)) w → Good φ (puts [] (toW (Ab.tight ks hs))) w
  | [], hs, _, h => h
  | (g, K) :: t, hs, hk, h => by
    obtain ⟨⟨z, h1, h2⟩, h3⟩ := hk
    exact Good.tight (ks := t) (hs := knSB g K hs) h3 (Good.knS h1 h2 h)
theorem Kns.ok_mono {φ φ' : Ph} (hl : φ.le φ') : ∀ {ks : Kns}, Kns.ok φ ks → Kns.ok φ' ks
  | [], _ => trivial
  | (g, K) :: t, ⟨⟨z, h1, h2⟩, h3⟩ => ⟨⟨z, hl _ _ h1, h2⟩, Kns.ok_mono hl h3⟩
/-- the same numbers, the same leave to write -/
def Like (L M : Hp) : Prop := ∀ i, (lk L i).map Bl.ro = (lk M i).map Bl.ro
theorem Like.symm {L M : Hp} (h : Like L M) : Like M L := fun i => (h i).symm
theorem Like.get {L M : Hp} (h : Like L M) {i : Nat} {b : Bl} (hi : lk L i = some b) : ∃ c, lk M i = some c ∧ c.ro = b.ro := by
  have := h i
  rw [hi] at this
  cases hq : lk M i with
  | none => rw [hq] at this; cases this
  | some c => rw [hq] at this; simp only [Option.map_some, Option.some.injEq] at this; exact ⟨c, rfl, this.symm⟩
theorem Like.tight : ∀ (ks : Kns) (hs : Bs), Like (puts [] (toW hs)) (puts [] (toW (Ab.tight ks hs)))
  | [], hs => fun i => rfl
  | (g, K) :: t, hs => fun i => by
    have h1 := Like.tight t (knSB g K hs) i
    rw [lk_knSB (g := g) (K := K) hs [] [] i rfl] at h1
    simp only [Ab.tight]
    rw [← h1]
    cases lk (puts [] (toW hs)) i <;> rfl
theorem Stp.like {φ φ' : Ph} {L L' M M' : Hp} {w w' : World} (h : Like L M) (h' : Like L' M') (st : Stp φ L w φ' L' w') : Stp φ M w φ' M' w' := by
  refine ⟨st.os, st.tape, st.output, st.size, fun b hb hn => st.keep b hb ?_, fun j bl b hj hp hb => ?_⟩
  · rintro ⟨i, bl, c, hi, hp, hc, hr⟩
    obtain ⟨d, hd, he⟩ := h.get hi
    exact hn ⟨i, d, c, hd, hp, hc, by rw [he, hr]⟩
  · obtain ⟨bl0, hj0, e0⟩ := h'.symm.get hj
    obtain ⟨k, bk, c, hk, hpk, hc, hr, ho⟩ := st.fresh j bl0 b hj0 hp hb
    obtain ⟨d, hd, he⟩ := h.get hk
    exact ⟨k, d, c, hd, hpk, hc, fun e => by rw [← e0]; exact hr (by rw [← he]; exact e), by rw [he]; exact ho⟩
/-! ### what is known is read off the heap -/
def rdK (h : T Bl) (g i o : Nat) : Option Kn :=
  match h.get i with
  | some b => match b.cells[o]? with
    | some x => (match x with | .opq _ t K => (match t with | .v j => (match Nat.beq j g with | true => some K | false => none) | _ => none) | _ => none)
    | none => none
  | none => none
theorem rdK_ok {h : T Bl} {L : Hp} (hv : HV L h) {g i o : Nat} {K : Kn} (hr : rdK h g i o = some K) {φ : Ph} {w : World} (hg : Good φ L w) : ∃ z, φ g = some (z, 0) ∧ K.ok z := by
  unfold rdK at hr
  split at hr
  · rename_i b hb
    split at hr
    · rename_i x hx
      split at hr
      · rename_i k t K0
        split at hr
        · rename_i j
          split at hr
          · rename_i e
            have e := Nat.eq_of_beq_eq_true e
            subst e
            cases hr
            obtain ⟨q, hq, pre, xs, rest, fr, h1, h2, h3, _⟩ := hg.hr i b (by rw [hv i]; exact hb)
            obtain ⟨y, hy, hyr⟩ := h3.get hx
            obtain ⟨z, g1, g2, _⟩ := Sr.mono (b.ph_le_self φ) hyr
            refine ⟨z, ?_, g2⟩
            simp only [Tm.ev] at g1
            revert g1
            cases φ j with
            | none => intro g1; cases g1
            | some p =>
              obtain ⟨a, c⟩ := p
              cases c with
              | zero => intro g1; simp only [ev1, Option.some.injEq] at g1; rw [g1]
              | succ c => intro g1; cases g1
          · cases hr
        · cases hr
      · cases hr
    · cases hr
  · cases hr
def rdKs (h : T Bl) : List (Nat × Nat × Nat) → Option Kns
  | [] => some []
  | (g, i, o) :: t => match rdK h g i o with | some K => (match rdKs h t with | some r => some ((g, K) :: r) | none => none) | none => none
theorem rdKs_ok {h : T Bl} {L : Hp} (hv : HV L h) {φ : Ph} {w : World} (hg : Good φ L w) : ∀ {l : List (Nat × Nat × Nat)} {ks : Kns}, rdKs h l = some ks → Kns.ok φ ks
  | [], ks, hr => by cases hr; trivial
  | (g, i, o) :: t, ks, hr => by
    simp only [rdKs] at hr
    split at hr
    · rename_i K hK
      split at hr
      · rename_i r hr'
        cases hr
        exact ⟨rdK_ok hv hK hg, rdKs_ok hv hg hr'⟩
      · cases hr
    · cases hr
def Memo.ovW (M : Memo) (hin : Bs) (wit : List (Nat × Nat × Nat)) (f : FuncId) (args : List V) (n : Nat) (h : T Bl) : Option KC :=
  match Nat.beq f M.f with
  | false => none
  | true =>
    match Nat.beq n M.n && eqVs args M.args, rdKs h wit with
    | true, some ks =>
      match looseA ks hin && allIn h (tight ks hin) && okW M.n' (toW (tight ks M.hs)) with
      | true => some (.ok M.v M.n' (putsB (nones (tight ks hin) ++ toW (tight ks M.hs)) h id))
      | false => none
    | _, _ => none
theorem Memo.ovW_ok {P : Program} {M : Memo} {hin : Bs} {wit : List (Nat × Nat × Nat)} (hh : M.h = tOf hin) (h : M.OK P) (hk : okW M.n (toW hin) = true) : OvOK P (M.ovW hin wit) := by
  intro f args n hh' r hr v n' h' e L hv oh oe
  unfold Memo.ovW at hr
  split at hr
  · cases hr
  · rename_i hf
    split at hr
    · rename_i ks hc hks
      split at hr
      · rename_i hd
        simp only [Bool.and_eq_true] at hc hd
        obtain ⟨c1, c2⟩ := hc
        obtain ⟨⟨d1, d2⟩, d3⟩ := hd
        have hf := Nat.eq_of_beq_eq_true hf
        have c1 := Nat.eq_of_beq_eq_true c1
        have c2 := eqVs_ok c2
        subst hf; subst c1; subst c2
        cases hr; cases e
        have hs := sub_toW hv d2
        obtain ⟨L0', g1, g2, g3, g4, g5⟩ := h (puts [] (toW hin)) (by rw [hh]; exact hv_tOf _) (OH.puts (L := []) (toW hin) (fun i bl hi => by cases hi) hk) oe
        have g5 : CallOK P M.f M.args M.n (puts [] (toW hin)) M.v M.n' (puts [] (toW M.hs)) := g5.sub fun i bl hi => by rw [g1 i, ← hv_tOf M.hs i]; exact hi
        refine ⟨puts L (nones (tight ks hin) ++ toW (tight ks M.hs)), ?_, ?_, g3, g4, ?_⟩
        · rw [putsB_eq]; exact HV.puts (h := hh') _ hv
        · intro i bl hi
          rcases lk_after hi with e1 | ⟨_, e1⟩
          · exact OH.puts (L := []) _ (fun i bl hi => by cases hi) d3 i bl e1
          · have := oh i bl e1
            exact ⟨by omega, okB_mono g4 this.2⟩
        · intro φ a w o c x cap Q h1 h2 h3 h4 h5 h6
          have hko := rdKs_ok hv h5 hks
          refine Oper.wp_mono ?_ (g5 φ a w o c x cap Q h1 h2 h3 h4 (Good.looseA d1 (h5.sub hs)) h6)
          rintro a' w' ⟨φ', y, e, hv', hg, st, r1, r2⟩
          have hle : φ.le φ' := by
            intro j b hj
            rcases Nat.lt_or_ge j M.n with hjn | hjn
            · rw [r1 j hjn]; exact hj
            · rw [h6 j hjn] at hj; cases hj
          have hg' := Good.tight (Kns.ok_mono hle hko) hg
          have st' := Stp.like (Like.tight ks hin) (Like.tight ks M.hs) st
          obtain ⟨k1, k2⟩ := Ab.frame (M' := puts L (nones (tight ks hin) ++ toW (tight ks M.hs))) h5 hs hg' st' hle (fun i bl hi => lk_after hi)
          exact ⟨φ', y, e, hv', k1, k2, r1, r2⟩
      · cases hr
    · cases hr

end Ab
end Go.Proofs.YtgbkllbaojkfmaaGreatDoor
