/-
  The frame, part 10: a function's contract out of one run.
-/
import Derived.Test.YtbokilgdefkmiaaGreatDoorAb9
set_option linter.unusedSimpArgs false
set_option linter.unusedVariables false
namespace Go.Proofs.YtbokilgdefkmiaaGreatDoor
namespace Ab
open Go

theorem SC.run {P : Program} (hm : P.follows .mixedOrders = true) {f : FuncId} {fn : Func} {c : Code} {args : List V} {n : Nat} {L : Hp} {v : V} {n' : Nat} {L' : Hp} (hf : P.funcs[f]? = some fn) (hb : fn.body = some c)
    (ans : List Ans) (new : List Nat) {x : Exit} {e : List V} {m : Nat} {M : Hp} {as : List Ans} {C : Prop} {env : List V} (henv : args ++ List.replicate (fn.ntmps - args.length) .undef = env)
    (hr : runC P n c env n L ans = some (x, e, m, M, as, C)) (hC : C) (hx : x = .ret ∨ x = .normal) (fin : EndOK P fn n v n' L' new e M) : SC P f args n L v n' L' :=
  SC.intro hf hb ((henv ▸ runC_ok hm c env n L ans x e m M as C hr hC).mono fun x' e' m' M' h => by
    obtain ⟨rfl, rfl, rfl, rfl⟩ := h
    exact ⟨hx, new, fin⟩)

/-- nothing of memory is handed back -/
theorem EndOK.plain {P : Program} {fn : Func} {n : Nat} {v : V} {L : Hp} {env : List V} {M : Hp} (h1 : resV P fn env M = some (renV (rn (List.range n ++ []) 0) v))
    (h2 : ∀ i bl, lk L i = some bl → lk M (rn (List.range n ++ []) 0 i) = some (renB (rn (List.range n ++ []) 0) bl)) (h3 : okV n v = true) (h4 : okH n L = true) : EndOK P fn n v n L [] env M :=
  .nodup h1 h2 h3 h4 rfl (by simpa using List.nodup_range)

theorem no_mem {M : Hp} {r : Nat → Nat} : ∀ i bl, lk ([] : Hp) i = some bl → lk M (r i) = some (renB r bl) := fun _ _ h => by simp [lk] at h

theorem i64_wrap (z : Int) : IntKind.i64.wrap z = (z + 9223372036854775808) % 18446744073709551616 - 9223372036854775808 := by
  simp only [IntKind.wrap, IntKind.bits, IntKind.signed, Bool.true_and]
  split <;> rename_i h <;> simp at h <;> omega
theorem u8_wrap (z : Int) : IntKind.u8.wrap z = z % 256 := by simp [IntKind.wrap, IntKind.bits, IntKind.signed]

/-! ### calls -/
def aliB (tbl : List Nat) (L0 : Hp) : Bool := L0.all fun x => L0.all fun y => Nat.beq x.1 y.1 || !Nat.beq (tbl.getD x.1 0) (tbl.getD y.1 0) || ((match x.2 with | some b => b.ro | none => true) && (match y.2 with | some b => b.ro | none => true))
def oldB (tbl : List Nat) (new n0' : Nat) : Bool := tbl.all fun x => !(Nat.ble new x && Nat.blt x (new + (n0' - tbl.length)))
def FitP (tbl : List Nat) (new : Nat) (M : Hp) : Hp → Prop
  | [] => True
  | (_, none) :: t => FitP tbl new M t
  | (i, some bl0) :: t => (Nat.blt i tbl.length = true ∧ ∃ bl', lk M (tbl.getD i 0) = some bl' ∧ { renB (rn tbl new) bl0 with ro := bl'.ro } = bl' ∧ (bl'.ro = true → bl0.ro = true)) ∧ FitP tbl new M t

theorem FitP.at {tbl : List Nat} {new : Nat} {M : Hp} : ∀ {L0 : Hp}, FitP tbl new M L0 → ∀ i bl0, (i, some bl0) ∈ L0 → i < tbl.length ∧ ∃ bl', lk M (tbl.getD i 0) = some bl' ∧ { renB (rn tbl new) bl0 with ro := bl'.ro } = bl' ∧ (bl'.ro = true → bl0.ro = true)
  | (j, c) :: t, h, i, bl0, hm => by
    cases hm with
    | head => exact ⟨blt_iff.1 h.1.1, h.1.2⟩
    | tail _ hm =>
      cases c with
      | none => exact FitP.at (L0 := t) h i bl0 hm
      | some c => exact FitP.at (L0 := t) h.2 i bl0 hm

theorem Fits.of {tbl : List Nat} {new n0' : Nat} {L0 M : Hp} (h1 : oldB tbl new n0' = true) (h2 : aliB tbl L0 = true) (h3 : FitP tbl new M L0) : Fits tbl new n0' L0 M := by
  refine ⟨fun i hi => ?_, fun i bl hl => h3.at i bl (lk_mem hl), fun i j bl bl' hi hj e => ?_⟩
  · have hm : tbl.getD i 0 ∈ tbl := by rw [List.getD_eq_getElem?_getD, List.getElem?_eq_getElem hi]; simp
    have := List.all_eq_true.1 h1 _ hm
    simp only [Bool.not_eq_true', Bool.and_eq_false_iff] at this
    rintro ⟨a, b⟩
    rcases this with h | h
    · rw [Nat.ble_eq_true_of_le a] at h; cases h
    · rw [blt_iff.2 b] at h; cases h
  · have g1 := List.all_eq_true.1 h2 _ (lk_mem hi)
    have g2 := List.all_eq_true.1 g1 _ (lk_mem hj)
    simp only [Bool.or_eq_true, Bool.not_eq_true', Bool.and_eq_true] at g2
    rcases g2 with (h | h) | h
    · exact .inl (Nat.eq_of_beq_eq_true h)
    · rw [e, Nat.beq_refl] at h; cases h
    · exact .inr h

theorem fits_nil {n n0' : Nat} {M : Hp} : Fits [] n n0' [] M := ⟨fun i hi => by simp at hi, fun i bl h => by simp [lk] at h, fun i j bl bl' h => by simp [lk] at h⟩

/-- a call of a function that is handed no memory -/
theorem call0 {P : Program} {f : FuncId} {args args0 : List V} {n : Nat} {L : Hp} {v0 : V} {n0' : Nat} {L0' : Hp} (h : SC P f args0 0 [] v0 n0' L0') (ha : args = args0.map (renV (rn [] n))) : callC P f args n L [] args0 [] v0 n0' L0' := ⟨h, ha, fits_nil⟩

theorem fn_ok {P : Program} {f : FuncId} (h : fnOK P f = true) : fnOK P f = true := h

end Ab
end Go.Proofs.YtbokilgdefkmiaaGreatDoor
