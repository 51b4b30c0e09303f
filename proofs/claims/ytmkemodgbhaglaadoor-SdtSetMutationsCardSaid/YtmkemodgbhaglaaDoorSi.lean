/-
  Sets of tables: what is read of one. No program in sight.
-/
import Derived.Test.YtmkemodgbhaglaaDoorSh
set_option linter.unusedSimpArgs false
set_option linter.unusedVariables false
namespace Go.Proofs.YtmkemodgbhaglaaDoor
open Go Ab
set_option maxRecDepth 100000

def rsdt : By := [82, 83, 68, 84]
def plat : By := [80, 76, 65, 84, 70, 87]
/-- one table of a set: the error, the table, the place behind it -/
def one (s offs : By) (pos : Nat) : Nat × Tb × Nat :=
  if num4 offs ≠ pos then (3, tb0, pos)
  else if (decB (s.drop pos)).2.2 ≠ 0 then ((decB (s.drop pos)).2.2, tb0, pos)
  else if (decB (s.drop pos)).1.sg = rsdt then (3, tb0, pos)
  else (0, (decB (s.drop pos)).1, pos + (decB (s.drop pos)).2.1)
/-- the tables read in j rounds, and the place behind them -/
def got (s dir : By) (p0 : Nat) : Nat → List Tb × Nat
  | 0 => ([], p0)
  | j + 1 => ((got s dir p0 j).1 ++ [(one s (dir.drop (4 * j)) (got s dir p0 j).2).2.1], (one s (dir.drop (4 * j)) (got s dir p0 j).2).2.2)
def errJ (s dir : By) (p0 j : Nat) : Nat := (one s (dir.drop (4 * j)) (got s dir p0 j).2).1
/-- is the directory a directory? -/
def dirOK (t : Tb) : Bool := decide (t.sg = rsdt) && decide (t.rv = 1) && decide (t.om = plat) && decide (t.bd ≠ []) && Nat.beq (t.bd.length % 4) 0 && decide (t.bd.length / 4 ≤ 16)
/-- the first round that fails, if any of the first n does -/
theorem first_bad (e : Nat → Nat) : ∀ n, (∀ j, j < n → e j = 0) ∨ ∃ k, k < n ∧ (∀ j, j < k → e j = 0) ∧ e k ≠ 0
  | 0 => .inl fun j h => absurd h (Nat.not_lt_zero _)
  | n + 1 => by
    rcases first_bad e n with h | ⟨k, h1, h2, h3⟩
    · by_cases hn : e n = 0
      · refine .inl fun j hj => ?_
        rcases Nat.lt_succ_iff_lt_or_eq.1 hj with h' | rfl
        · exact h j h'
        · exact hn
      · exact .inr ⟨n, by omega, h, hn⟩
    · exact .inr ⟨k, by omega, h2, h3⟩

end Go.Proofs.YtmkemodgbhaglaaDoor
