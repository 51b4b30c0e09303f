/-
  The frame, part 12: a contract for blocks that are written down in another way.
-/
import Derived.Test.YtbokilgdefkmiaaGreatDoorAb11
set_option linter.unusedSimpArgs false
set_option linter.unusedVariables false
namespace Go.Proofs.YtbokilgdefkmiaaGreatDoor
namespace Ab
open Go

structure LikeB (a b : Bl) : Prop where
  ro : a.ro = b.ro
  cells : a.cells = b.cells
  ty : a.ty = b.ty
  more : b.more = a.more ∨ b.more = true
  flat : a.flat = b.flat ∨ a.cells.all noPtr = true
  gh : ∀ g z, b.gh = some (g, z) → a.gh = some (g, z)
  kind : a.kind = b.kind
  abs : ∀ g, b.abs = some g → a.abs = some g

theorem all2_noPtr {φ ψ : Ph} : ∀ {l : List S} {xs : List Value}, All2 (Sr φ) l xs → l.all noPtr = true → All2 (Sr ψ) l xs
  | [], [], _, _ => trivial
  | _ :: _, _ :: _, h, ok => by
    simp only [List.all_cons, Bool.and_eq_true] at ok
    exact ⟨noPtr_r ok.1 h.1, all2_noPtr h.2 ok.2⟩
  | [], _ :: _, h, _ => h.elim
  | _ :: _, [], h, _ => h.elim

theorem LikeB.at {φ : Ph} {w : World} {x : Nat × Nat} {a b : Bl} (h : LikeB a b) (hat : BlAt φ w x a) : BlAt φ w x b := by
  obtain ⟨pre, xs, rest, fr, h1, hp, h2, h3, h4, h5⟩ := hat
  refine ⟨pre, xs, rest, fr, by rw [← h.kind, ← h.ty]; exact h1, hp, ?_, fun e => ?_, fun e => h4 (h.ro.trans e), ⟨fun g z e => h5.1 g z (h.gh g z e), fun g e => h5.2 g (h.abs g e)⟩⟩
  · rcases h.flat with e | e
    · have : b.ph φ = a.ph φ := by unfold Bl.ph; rw [e]
      rw [this, ← h.cells]; exact h2
    · rw [← h.cells]; exact all2_noPtr h2 e
  · rcases h.more with e' | e'
    · exact h3 (e' ▸ e)
    · rw [e'] at e; cases e

def LikeH : Hp → Hp → Prop
  | [], [] => True
  | (i, some a) :: s, (j, some b) :: t => i = j ∧ LikeB a b ∧ LikeH s t
  | _, _ => False
theorem LikeH.right : ∀ {L M : Hp}, LikeH L M → ∀ {i : Nat} {b : Bl}, lk M i = some b → ∃ a, lk L i = some a ∧ LikeB a b
  | [], [], _, i, b, h => by simp [lk] at h
  | (i, some a) :: s, (j, some c) :: t, h, k, b, hk => by
    obtain ⟨rfl, h1, h2⟩ := h
    rw [lk_cons] at hk ⊢
    split at hk
    · cases hk; rename_i e; exact ⟨a, by rw [if_pos e], h1⟩
    · rename_i e; rw [if_neg e]; exact h2.right hk
  | [], (_, some _) :: _, h, _, _, _ => h.elim
  | [], (_, none) :: _, h, _, _, _ => h.elim
  | (_, none) :: _, _, h, _, _, _ => h.elim
  | (_, some _) :: _, [], h, _, _, _ => h.elim
  | (_, some _) :: _, (_, none) :: _, h, _, _, _ => h.elim

theorem SC.like {P : Program} {f : FuncId} {args : List V} {n : Nat} {L M : Hp} {v : V} {n' : Nat} {L' : Hp} (h : SC P f args n M v n' L') (hl : LikeH L M) : SC P f args n L v n' L' := by
  intro φ xs w h1 h2 h3
  have hg : Good φ M w := by
    refine ⟨fun i bl hi => ?_, fun i j bl bl' b b' hi hj hb hb' => ?_⟩
    · obtain ⟨a, ha, hla⟩ := hl.right hi
      obtain ⟨b, hb, hat⟩ := h2.hr i a ha
      exact ⟨b, hb, hla.at hat⟩
    · obtain ⟨a, ha, hla⟩ := hl.right hi
      obtain ⟨c, hc, hlc⟩ := hl.right hj
      rw [← hla.ro, ← hlc.ro]
      exact h2.inj i j a c b b' ha hc hb hb'
  refine Calls.mono (h φ xs w h1 hg h3) ?_
  rintro e w' ⟨φ', x, rfl, g1, g2, g3, g4, g5, g6⟩
  refine ⟨φ', x, rfl, g1, g2, g3, ⟨g4.os, g4.tape, g4.output, g4.size, fun b hb hn => g4.keep b hb ?_, ?_⟩, g5, g6⟩
  · rintro ⟨j, bj, c, hj, hpj, hcc, hrj⟩
    obtain ⟨a, ha, hla⟩ := hl.right hj
    exact hn ⟨j, a, c, ha, hpj, hcc, hla.ro.trans hrj⟩
  · intro j bl b hj hb hlt
    obtain ⟨k, bk, c, hk, hpk, hcc, hr, ho⟩ := g4.fresh j bl b hj hb hlt
    obtain ⟨a, ha, hla⟩ := hl.right hk
    exact ⟨k, a, c, ha, hpk, hcc, fun e => hr (hla.ro.symm.trans e), ho.imp id fun e => hla.ro.trans e⟩

end Ab
end Go.Proofs.YtbokilgdefkmiaaGreatDoor
