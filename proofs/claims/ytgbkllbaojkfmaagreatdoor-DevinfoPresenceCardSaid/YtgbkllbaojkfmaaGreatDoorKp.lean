/-
  The quick machine, part 15: a run's outcome kept, whatever else the heap holds.
-/
import Derived.Test.YtgbkllbaojkfmaaGreatDoorKo
set_option linter.unusedSimpArgs false
set_option linter.unusedVariables false
namespace Go.Proofs.YtgbkllbaojkfmaaGreatDoor
namespace Ab
open Go
set_option maxRecDepth 100000

theorem lk_puts_any : ∀ (W L M : Hp) (x : Nat), x ∈ keys W → lk (puts L W) x = lk (puts M W) x
  | (j, d) :: t, L, M, x, h => by
    simp only [puts]
    by_cases ht : x ∈ keys t
    · exact lk_puts_any t _ _ x ht
    · rw [lk_puts_out _ _ _ ht, lk_puts_out _ _ _ ht, lk_put, lk_put]
      have : x = j := by
        simp only [keys, List.map_cons, List.mem_cons] at h ht
        rcases h with h | h
        · exact h
        · exact absurd h ht
      subst this
      simp
theorem CallOK.frame {P : Program} {f : FuncId} {args : List V} {n : Nat} {L0 : Hp} {v : V} {n' : Nat} {L0' L L' : Hp} (h : CallOK P f args n L0 v n' L0') (hs : Sub L0 L)
    (hM : ∀ i bl, lk L' i = some bl → lk L0' i = some bl ∨ (lk L0 i = none ∧ lk L i = some bl)) : CallOK P f args n L v n' L' := by
  intro φ a w o c x cap Q h1 h2 h3 h4 h5 h6
  refine Oper.wp_mono ?_ (h φ a w o c x cap Q h1 h2 h3 h4 (h5.sub hs) h6)
  rintro a' w' ⟨φ', y, e, hv, hg, st, r1, r2⟩
  have hle : φ.le φ' := by
    intro j b hj
    rcases Nat.lt_or_ge j n with hjn | hjn
    · rw [r1 j hjn]; exact hj
    · rw [h6 j hjn] at hj; cases hj
  obtain ⟨g1, g2⟩ := Ab.frame h5 hs hg st hle hM
  exact ⟨φ', y, e, hv, g1, g2, r1, r2⟩
def nones : Bs → Hp
  | [] => []
  | (i, _) :: t => (i, none) :: nones t
theorem puts_apd : ∀ (A B L : Hp), puts L (A ++ B) = puts (puts L A) B
  | [], B, L => rfl
  | (j, d) :: t, B, L => by simp only [List.cons_append, puts]; exact puts_apd t B _
theorem nones_keys : ∀ (hs : Bs), keys (nones hs) = keys (toW hs)
  | [] => rfl
  | (j, b) :: t => by simp only [nones, toW, keys, List.map_cons]; rw [show List.map (·.1) (nones t) = List.map (·.1) (toW t) from nones_keys t]
theorem nones_mem : ∀ {hs : Bs} {i : Nat} {c : Option Bl}, (i, c) ∈ nones hs → c = none
  | (j, b) :: t, i, c, h => by
    simp only [nones, List.mem_cons, Prod.mk.injEq] at h
    rcases h with ⟨_, h⟩ | h
    · exact h
    · exact nones_mem h
/-- what is known behind: the blocks handed back; of the old ones none; the rest as it was -/
theorem lk_after {L : Hp} {hin hs : Bs} {i : Nat} {bl : Bl} (h : lk (puts L (nones hin ++ toW hs)) i = some bl) : lk (puts [] (toW hs)) i = some bl ∨ (lk (puts [] (toW hin)) i = none ∧ lk L i = some bl) := by
  rw [puts_apd] at h
  by_cases hik : i ∈ keys (toW hs)
  · rw [lk_puts_any _ _ [] i hik] at h; exact .inl h
  · rw [lk_puts_out _ _ _ hik] at h
    by_cases hin' : i ∈ keys (toW hin)
    · obtain ⟨c, hc, he⟩ := lk_puts_mem (nones hin) L i (by rw [nones_keys]; exact hin')
      rw [he, nones_mem hc] at h; cases h
    · rw [lk_puts_out _ _ _ (by rw [nones_keys]; exact hin')] at h
      refine .inr ⟨?_, h⟩
      rw [lk_puts_out _ _ _ hin']; rfl
def Memo.ovF (M : Memo) (hin : Bs) (f : FuncId) (args : List V) (n : Nat) (h : T Bl) : Option KC :=
  match Nat.beq f M.f with
  | false => none
  | true => match Nat.beq n M.n && eqVs args M.args && allIn h hin with | true => some (.ok M.v M.n' (putsB (nones hin ++ toW M.hs) h id)) | false => none
theorem Memo.ovF_ok {P : Program} {M : Memo} {hin : Bs} (hh : M.h = tOf hin) (h : M.OK P) : OvOK P (M.ovF hin) := by
  intro f args n hh' r hr v n' h' e L hv oh oe
  unfold Memo.ovF at hr
  split at hr
  · cases hr
  · rename_i hf
    split at hr
    · rename_i hc
      simp only [Bool.and_eq_true] at hc
      obtain ⟨⟨c1, c2⟩, c3⟩ := hc
      have hf := Nat.eq_of_beq_eq_true hf
      have c1 := Nat.eq_of_beq_eq_true c1
      have c2 := eqVs_ok c2
      subst hf; subst c1; subst c2
      cases hr; cases e
      have hs := sub_toW hv c3
      obtain ⟨L0', g1, g2, g3, g4, g5⟩ := h (puts [] (toW hin)) (by rw [hh]; exact hv_tOf _) (fun i bl hi => oh i bl (hs i bl hi)) oe
      have key : ∀ i bl, lk (puts [] (toW M.hs)) i = some bl → lk L0' i = some bl := fun i bl hi => by rw [g1 i, ← hv_tOf M.hs i]; exact hi
      refine ⟨puts L (nones hin ++ toW M.hs), ?_, ?_, g3, g4, g5.frame hs ?_⟩
      · rw [putsB_eq]; exact HV.puts (h := hh') _ hv
      · intro i bl hi
        rcases lk_after hi with h1 | ⟨_, h1⟩
        · exact g2 i bl (key i bl h1)
        · have := oh i bl h1
          exact ⟨by omega, okB_mono g4 this.2⟩
      · intro i bl hi
        rcases lk_after hi with h1 | h1
        · exact .inl (key i bl h1)
        · exact .inr h1
    · cases hr

end Ab
end Go.Proofs.YtgbkllbaojkfmaaGreatDoor
