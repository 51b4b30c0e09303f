/-
  Mod; LowerEffects: it returns true.
-/
import Derived.Test.YtbokilgdefkmiaaGreatDoorGf
set_option linter.unusedSimpArgs false
set_option linter.unusedVariables false
namespace Go.Proofs.YtbokilgdefkmiaaGreatDoor
open Go Ab
set_option maxRecDepth 100000

/-- the first loop's body -/
def fstLoop : Code → Option Code
  | .loop c => some c
  | .seq a b => match fstLoop a with | some c => some c | none => fstLoop b
  | .block _ c => fstLoop c
  | .cond _ a b => match fstLoop a with | some c => some c | none => fstLoop b
  | _ => none
def modM (z : Int) (n : Nat) : Nat := (z % 18446744073709551616).toNat % n
theorem mod_s (z : Int) (n : Nat) (h : 0 < n) (hn : n < 9223372036854775808) : SC Tryz.prog 9 [.s (.int .i64 z), iN n] 0 [] (iN (modM z n)) 0 [] := by
  have h1 : (((z % 18446744073709551616).toNat : Nat) : Int) = z % 18446744073709551616 := by omega
  have m1 : Int.tmod ((((z % 18446744073709551616).toNat : Nat)) : Int) ((n : Nat) : Int) = ((modM z n : Nat) : Int) := rfl
  have h2 : modM z n < n := Nat.mod_lt _ h
  refine SC.run hm Tryz.func9 rfl [.num (((z % 18446744073709551616).toNat : Nat) : Int), .num ((n : Nat) : Int), .num ((modM z n : Nat) : Int), .num ((modM z n : Nat) : Int)] [] rfl rfl ?_ (.inl rfl) (EndOK.plain rfl no_mem rfl rfl)
  simp only [true_and, and_true, and_assoc, beq_eq_false_iff_ne, ne_eq]
  rw [m1, u64_wrap, u64_wrap]
  exact ⟨h1.symm, by omega, by omega, rfl, i64_in (by omega) (by omega)⟩

def gL : Hp := [(0, some (gB 0 gC0 208)), (1, some (gB 1 gC1 209)), (2, some (gB 2 gC2 210))]
theorem awake_g : SC Tryz.prog 7 [] 6 gL (bV true) 926 gL := awake_s
theorem gL_ro : ∀ i bl, lk gL i = some bl → bl.ro = true := by
  intro i bl h
  simp only [gL, lk_cons] at h
  split at h
  · cases h; rfl
  · split at h
    · cases h; rfl
    · split at h
      · cases h; rfl
      · simp [lk] at h
def opJ (z : Int) : Nat → Int
  | 0 => z
  | j + 1 => ((modM (opJ z j) 37 : Nat) : Int)
def nJ (n : Nat) (j : Nat) : Nat := match j with | 0 => n | 1 => n | _ => n % 10
def xB (z : Int) (n : Nat) (s : List UInt8) (j : Nat) : Bl := { cells := inC (opJ z j) (nJ n j) s, ty := 40 }
def eE (j : Nat) : List V := sp 50 [(1, .s (.ptr (some (6, 0)))), (3, .s (.int .i64 ((j : Nat) : Int)))]
def eH (z : Int) (n : Nat) (s : List UInt8) (j : Nat) : Hp := gL ++ [(6, some (xB z n s j))]
theorem rem10 (n : Nat) : Int.tmod ((n : Nat) : Int) 10 = ((n % 10 : Nat) : Int) := by rw [Int.tmod_eq_emod_of_nonneg (by omega)]; omega
theorem rnd0 (z : Int) (n : Nat) (s : List UInt8) (hn : n < 18446744073709551616) : ∃ ans e m M ra C, runC Tryz.prog 6 ((Tryz.f5.body.bind fstLoop).getD .skip) (eE 0) 7 (eH z n s 0) ans = some (.normal, e, m, M, ra, C) ∧ C ∧ wkE [1, 3] 0 e = eE 1 ∧ keepH [0, 1, 2, 6] M = eH z n s 1 := by
  have g1 := eff14_s (opJ z 0) (nJ n 0) s
  have g2 := eff15_s (opJ z 0) (nJ n 0) s
  have g3 := mod_s (opJ z 0) 37 (by decide) (by decide)
  refine ⟨[.dec true, .call [] [inV (opJ z 0) (nJ n 0) s] [] (effV (effT (kOf (opJ z 0)) (nJ n 0))) 0 [], .call [] [inV (opJ z 0) (nJ n 0) s] [] (effV (effT (kOf (opJ z 0)) (nJ n 0))) 0 [], .dec false, .dec false, .dec false, .call [] [.s (.int .i64 (opJ z 0)), iN 37] [] (iN (modM (opJ z 0) 37)) 0 [], .dec false, .num ((1 : Nat) : Int)], _, _, _, _, _, rfl, ?_, rfl, rfl⟩
  simp only [true_and, and_true, and_assoc, decide_eq_true_eq, decide_eq_false_iff_not, ne_eq, beq_iff_eq, beq_eq_false_iff_ne, bne_eq_false_iff_eq, bne_iff_ne, bne_self_eq_false, beq_self_eq_true, Bool.not_true]
  repeat' apply And.intro
  all_goals first
    | exact True.intro
    | exact call0 g1 rfl
    | exact call0 g2 rfl
    | exact call0 g3 rfl
    | rfl
    | exact rem10 n
    | decide
    | omega
    | (rw [i64_in] <;> omega)
    | (with_reducible show _ = true; kernel_rfl)
theorem rnd1 (z : Int) (n : Nat) (s : List UInt8) (hn : n < 18446744073709551616) : ∃ ans e m M ra C, runC Tryz.prog 6 ((Tryz.f5.body.bind fstLoop).getD .skip) (eE 1) 7 (eH z n s 1) ans = some (.normal, e, m, M, ra, C) ∧ C ∧ wkE [1, 3] 0 e = eE 2 ∧ keepH [0, 1, 2, 6] M = eH z n s 2 := by
  have g1 := eff14_s (opJ z 1) (nJ n 1) s
  have g2 := eff15_s (opJ z 1) (nJ n 1) s
  have g3 := mod_s (opJ z 1) 37 (by decide) (by decide)
  refine ⟨[.dec true, .call [] [inV (opJ z 1) (nJ n 1) s] [] (effV (effT (kOf (opJ z 1)) (nJ n 1))) 0 [], .call [] [inV (opJ z 1) (nJ n 1) s] [] (effV (effT (kOf (opJ z 1)) (nJ n 1))) 0 [], .dec false, .dec false, .dec false, .call [] [.s (.int .i64 (opJ z 1)), iN 37] [] (iN (modM (opJ z 1) 37)) 0 [], .dec true, .num ((n % 10 : Nat) : Int), .num ((2 : Nat) : Int)], _, _, _, _, _, rfl, ?_, rfl, rfl⟩
  simp only [true_and, and_true, and_assoc, decide_eq_true_eq, decide_eq_false_iff_not, ne_eq, beq_iff_eq, beq_eq_false_iff_ne, bne_eq_false_iff_eq, bne_iff_ne, bne_self_eq_false, beq_self_eq_true, Bool.not_true]
  repeat' apply And.intro
  all_goals first
    | exact True.intro
    | exact call0 g1 rfl
    | exact call0 g2 rfl
    | exact call0 g3 rfl
    | rfl
    | exact rem10 n
    | decide
    | omega
    | (rw [i64_in] <;> omega)
    | (with_reducible show _ = true; kernel_rfl)
theorem rnd2 (z : Int) (n : Nat) (s : List UInt8) (hn : n < 18446744073709551616) : ∃ ans e m M ra C, runC Tryz.prog 6 ((Tryz.f5.body.bind fstLoop).getD .skip) (eE 2) 7 (eH z n s 2) ans = some (.normal, e, m, M, ra, C) ∧ C ∧ wkE [1, 3] 0 e = eE 3 ∧ keepH [0, 1, 2, 6] M = eH z n s 3 := by
  have g1 := eff14_s (opJ z 2) (nJ n 2) s
  have g2 := eff15_s (opJ z 2) (nJ n 2) s
  have g3 := mod_s (opJ z 2) 37 (by decide) (by decide)
  refine ⟨[.dec true, .call [] [inV (opJ z 2) (nJ n 2) s] [] (effV (effT (kOf (opJ z 2)) (nJ n 2))) 0 [], .call [] [inV (opJ z 2) (nJ n 2) s] [] (effV (effT (kOf (opJ z 2)) (nJ n 2))) 0 [], .dec false, .dec false, .dec false, .call [] [.s (.int .i64 (opJ z 2)), iN 37] [] (iN (modM (opJ z 2) 37)) 0 [], .dec false, .num ((3 : Nat) : Int)], _, _, _, _, _, rfl, ?_, rfl, rfl⟩
  simp only [true_and, and_true, and_assoc, decide_eq_true_eq, decide_eq_false_iff_not, ne_eq, beq_iff_eq, beq_eq_false_iff_ne, bne_eq_false_iff_eq, bne_iff_ne, bne_self_eq_false, beq_self_eq_true, Bool.not_true]
  repeat' apply And.intro
  all_goals first
    | exact True.intro
    | exact call0 g1 rfl
    | exact call0 g2 rfl
    | exact call0 g3 rfl
    | rfl
    | exact rem10 n
    | decide
    | omega
    | (rw [i64_in] <;> omega)
    | (with_reducible show _ = true; kernel_rfl)
theorem lst (z : Int) (n : Nat) (s : List UInt8) : ∃ ans e m M ra C, runC Tryz.prog 6 ((Tryz.f5.body.bind fstLoop).getD .skip) (eE 3) 7 (eH z n s 3) ans = some (.exit 0, e, m, M, ra, C) ∧ C ∧ wkE [1] 0 e = sp 50 [(1, .s (.ptr (some (6, 0))))] ∧ keepH [0, 1, 2, 6] M = eH z n s 3 := by
  refine ⟨[.dec false], _, _, _, _, _, rfl, ?_, rfl, rfl⟩
  simp only [true_and, and_true, and_assoc, decide_eq_true_eq, decide_eq_false_iff_not, ne_eq, beq_iff_eq, beq_eq_false_iff_ne, bne_eq_false_iff_eq, bne_iff_ne, bne_self_eq_false, beq_self_eq_true, Bool.not_true]
  decide
theorem effects_s (z : Int) (n : Nat) (s : List UInt8) (hn : n < 18446744073709551616) : SC Tryz.prog 5 [inV z n s] 6 gL (bV true) 6 gL := by
  refine SC.run hm Tryz.func5 rfl [.loop (.exit 0) (sp 50 [(1, .s (.ptr (some (6, 0))))]) 7 (eH z n s 3), .call [0, 1, 2, 3, 4, 5] [] gL (bV true) 926 gL] [] rfl rfl ?_ (.inl rfl) (EndOK.by rfl ⟨rfl, rfl, rfl, trivial⟩ rfl rfl rfl rfl)
  simp only [true_and, and_true, and_assoc, decide_eq_true_eq, decide_eq_false_iff_not, ne_eq, beq_iff_eq, beq_eq_false_iff_ne, bne_eq_false_iff_eq, bne_iff_ne, bne_self_eq_false, beq_self_eq_true, Bool.not_true]
  refine ⟨?_, by kernel_rfl, awake_g, rfl, Fits.of (by kernel_rfl) (by kernel_rfl) ⟨⟨by decide, _, rfl, rfl, fun _ => rfl⟩, ⟨by decide, _, rfl, rfl, fun _ => rfl⟩, ⟨by decide, _, rfl, rfl, fun _ => rfl⟩, trivial⟩⟩
  refine Ex.turns hm [1, 3] [0, 1, 2, 6] 3 eE (eH z n s) (by decide) rfl rfl (fun j => ⟨rfl, rfl⟩) (fun j hj => ?_) [1] [0, 1, 2, 6] (fun e => by cases e) ⟨rfl, rfl⟩ (lst z n s)
  match j, hj with
  | 0, _ => exact rnd0 z n s hn
  | 1, _ => exact rnd1 z n s hn
  | 2, _ => exact rnd2 z n s hn

end Go.Proofs.YtbokilgdefkmiaaGreatDoor
