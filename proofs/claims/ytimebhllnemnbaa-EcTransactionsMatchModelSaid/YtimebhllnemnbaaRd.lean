/-
  EcTransactionsMatchModel: the small pieces of its loop.
-/
import Derived.Test.YtimebhllnemnbaaRc
set_option linter.unusedSimpArgs false
set_option linter.unusedVariables false
namespace Go.Proofs.Ytimebhllnemnbaa
open Go Ab
set_option maxRecDepth 100000

theorem pA_A0 (v tm m : Nat) (ty1 : TypeId) (f : Nat → OpV) (now i : Nat) (x : OpV) (hi : i < m) (h8 : i < 80) : Ex Try.prog 24 (sub [0] ((Try.f8.body.bind fstLoop).getD .skip)) (e9 (.s (.slc none 0 (some 0))) v tm (.s (.slc (some (1, 0)) m none)) nilV nilV now i) 24 ([]) (One .normal (e9 (.s (.slc none 0 (some 0))) v tm (.s (.slc (some (1, 0)) m none)) nilV nilV now i) 24 ([])) := by
  refine Ex.stage hm [0, 1, 2, 3, 4, 5, 6, 7, 8, 9, 10, 11, 12, 13, 14, 15, 16, 17, 18, 19, 20, 21, 22, 23] [1, 2, 3, 4, 11, 13, 14, 15, 16, 17] rfl rfl ⟨[.dec true, .dec true], _, _, _, _, _, rfl, ?_, rfl, trivial⟩
  simp only [true_and, and_true, and_assoc, decide_eq_true_eq, decide_eq_false_iff_not, ne_eq, beq_iff_eq, beq_eq_false_iff_ne, bne_eq_false_iff_eq, bne_iff_ne, bne_self_eq_false, beq_self_eq_true]
  repeat' apply And.intro
  all_goals first
    | exact True.intro
    | exact xa hi
    | exact xb h8
    | (with_reducible show _ = true; kernel_rfl)
    | (with_reducible exact rfl)
    | omega
    | rfl
theorem pX1_A0 (v tm m : Nat) (ty1 : TypeId) (f : Nat → OpV) (now i : Nat) (x : OpV) (hi : ¬ i < m) : Ex Try.prog 24 (sub [0] ((Try.f8.body.bind fstLoop).getD .skip)) (e9 (.s (.slc none 0 (some 0))) v tm (.s (.slc (some (1, 0)) m none)) nilV nilV now i) 24 ([]) (One (.exit 0) (e9 (.s (.slc none 0 (some 0))) v tm (.s (.slc (some (1, 0)) m none)) nilV nilV now i) 24 ([])) := by
  refine Ex.stage hm [0, 1, 2, 3, 4, 5, 6, 7, 8, 9, 10, 11, 12, 13, 14, 15, 16, 17, 18, 19, 20, 21, 22, 23] [1, 2, 3, 4, 11, 13, 14, 15, 16, 17] rfl rfl ⟨[.dec false], _, _, _, _, _, rfl, ?_, rfl, trivial⟩
  simp only [true_and, and_true, and_assoc, decide_eq_true_eq, decide_eq_false_iff_not, ne_eq, beq_iff_eq, beq_eq_false_iff_ne, bne_eq_false_iff_eq, bne_iff_ne, bne_self_eq_false, beq_self_eq_true]
  repeat' apply And.intro
  all_goals first
    | exact True.intro
    | (with_reducible show _ = true; kernel_rfl)
    | (with_reducible exact rfl)
    | omega
    | rfl
theorem pX2_A0 (v tm m : Nat) (ty1 : TypeId) (f : Nat → OpV) (now i : Nat) (x : OpV) (hi : i < m) (h8 : ¬ i < 80) : Ex Try.prog 24 (sub [0] ((Try.f8.body.bind fstLoop).getD .skip)) (e9 (.s (.slc none 0 (some 0))) v tm (.s (.slc (some (1, 0)) m none)) nilV nilV now i) 24 ([]) (One (.exit 0) (e9 (.s (.slc none 0 (some 0))) v tm (.s (.slc (some (1, 0)) m none)) nilV nilV now i) 24 ([])) := by
  refine Ex.stage hm [0, 1, 2, 3, 4, 5, 6, 7, 8, 9, 10, 11, 12, 13, 14, 15, 16, 17, 18, 19, 20, 21, 22, 23] [1, 2, 3, 4, 11, 13, 14, 15, 16, 17] rfl rfl ⟨[.dec true, .dec false], _, _, _, _, _, rfl, ?_, rfl, trivial⟩
  simp only [true_and, and_true, and_assoc, decide_eq_true_eq, decide_eq_false_iff_not, ne_eq, beq_iff_eq, beq_eq_false_iff_ne, bne_eq_false_iff_eq, bne_iff_ne, bne_self_eq_false, beq_self_eq_true]
  repeat' apply And.intro
  all_goals first
    | exact True.intro
    | exact xa hi
    | (with_reducible show _ = true; kernel_rfl)
    | (with_reducible exact rfl)
    | omega
    | rfl
theorem pR12_A0 (v tm m : Nat) (ty1 : TypeId) (f : Nat → OpV) (now i : Nat) (x : OpV) (hi : i < m) (hx : f i = x) : Ex Try.prog 24 (sub [1, 0, 0, 0] ((Try.f8.body.bind fstLoop).getD .skip)) (e9 (.s (.slc none 0 (some 0))) v tm (.s (.slc (some (1, 0)) m none)) nilV nilV now i) 24 ([(1, some (bOp ty1 f m))]) (One .normal (f9 (.s (.slc none 0 (some 0))) v tm (.s (.slc (some (1, 0)) m none)) nilV nilV now i) 25 ([(1, some (bOp ty1 f m))] ++ [(24, some (opB x))])) := by
  have hop : ldAt true 4 (bOp ty1 f m) (plus 0 (times i 4)) = some (.agg x.c) := by rw [← hx]; exact op_ld ty1 f m hi
  refine Ex.stage hm [0, 1, 2, 3, 4, 5, 6, 7, 8, 9, 10, 11, 12, 13, 14, 15, 16, 17, 18, 19, 20, 21, 22, 23, 24] [1, 2, 3, 4, 11, 13, 14, 15, 16, 17, 18] rfl rfl ⟨[.idx i, .val (.agg x.c)], _, _, _, _, _, rfl, ?_, rfl, ⟨rfl, rfl, trivial⟩⟩
  simp only [true_and, and_true, and_assoc, decide_eq_true_eq, decide_eq_false_iff_not, ne_eq, beq_iff_eq, beq_eq_false_iff_ne, bne_eq_false_iff_eq, bne_iff_ne, bne_self_eq_false, beq_self_eq_true]
  repeat' apply And.intro
  all_goals first
    | exact True.intro
    | exact hop
    | exact xa hi
    | (with_reducible show _ = true; kernel_rfl)
    | (with_reducible exact rfl)
    | omega
    | rfl
theorem pR13_A0 (v tm m : Nat) (ty1 : TypeId) (f : Nat → OpV) (now i : Nat) (x : OpV) (ht : now + x.p % 3 < 2 ^ 64) : Ex Try.prog 24 (sub [1, 0, 0, 1, 0] ((Try.f8.body.bind fstLoop).getD .skip)) (f9 (.s (.slc none 0 (some 0))) v tm (.s (.slc (some (1, 0)) m none)) nilV nilV now i) 25 ([(24, some (opB x))]) (One .normal (f9 (.s (.slc none 0 (some 0))) v tm (.s (.slc (some (1, 0)) m none)) nilV nilV (now + x.p % 3) i) 25 ([(24, some (opB x))])) := by
  have m3 : Int.tmod ((x.p : Nat) : Int) 3 = ((x.p % 3 : Nat) : Int) := rfl
  refine Ex.stage hm [0, 1, 2, 3, 4, 5, 6, 7, 8, 9, 10, 11, 12, 13, 14, 15, 16, 17, 18, 19, 20, 21, 22, 23, 24] [1, 2, 3, 4, 11, 13, 14, 15, 16, 17, 18] rfl rfl ⟨[.num ((x.p % 3 : Nat) : Int), .num ((now + x.p % 3 : Nat) : Int)], _, _, _, _, _, rfl, ?_, rfl, ⟨rfl, trivial⟩⟩
  simp only [true_and, and_true, and_assoc, decide_eq_true_eq, decide_eq_false_iff_not, ne_eq, beq_iff_eq, beq_eq_false_iff_ne, bne_eq_false_iff_eq, bne_iff_ne, bne_self_eq_false, beq_self_eq_true]
  repeat' apply And.intro
  all_goals first
    | exact True.intro
    | exact xc ht
    | (with_reducible show _ = true; kernel_rfl)
    | (with_reducible exact rfl)
    | omega
    | rfl
theorem pR11_A0 (v tm m : Nat) (ty1 : TypeId) (f : Nat → OpV) (now i : Nat) (x : OpV) (h8 : i < 80) : Ex Try.prog 24 (sub [1, 1] ((Try.f8.body.bind fstLoop).getD .skip)) (f9 (.s (.slc none 0 (some 0))) v tm (.s (.slc (some (1, 0)) m none)) nilV nilV now i) 25 ([(24, some (opB x))]) (One .normal (e9 (.s (.slc none 0 (some 0))) v tm (.s (.slc (some (1, 0)) m none)) nilV nilV now (i + 1)) 24 ([])) := by
  refine Ex.stage hm [0, 1, 2, 3, 4, 5, 6, 7, 8, 9, 10, 11, 12, 13, 14, 15, 16, 17, 18, 19, 20, 21, 22, 23] [1, 2, 3, 4, 11, 13, 14, 15, 16, 17] rfl rfl ⟨[.num ((i + 1 : Nat) : Int)], _, _, _, _, _, rfl, ?_, rfl, trivial⟩
  simp only [true_and, and_true, and_assoc, decide_eq_true_eq, decide_eq_false_iff_not, ne_eq, beq_iff_eq, beq_eq_false_iff_ne, bne_eq_false_iff_eq, bne_iff_ne, bne_self_eq_false, beq_self_eq_true]
  repeat' apply And.intro
  all_goals first
    | exact True.intro
    | exact xd h8
    | (with_reducible show _ = true; kernel_rfl)
    | (with_reducible exact rfl)
    | omega
    | rfl
theorem pS1_A0 (v tm m : Nat) (ty1 : TypeId) (f : Nat → OpV) (now i : Nat) (x : OpV)  : Ex Try.prog 25 (sub [1, 0, 0, 1, 1, 0] ((Try.f8.body.bind fstLoop).getD .skip)) (f9 (.s (.slc none 0 (some 0))) v tm (.s (.slc (some (1, 0)) m none)) nilV nilV now i) 25 ([]) (One .normal (f9 (.s (.slc none 0 (some 0))) v tm (.s (.slc (some (1, 0)) m none)) nilV nilV now i) 25 ([])) := by
  refine Ex.stage hm [0, 1, 2, 3, 4, 5, 6, 7, 8, 9, 10, 11, 12, 13, 14, 15, 16, 17, 18, 19, 20, 21, 22, 23, 24] [1, 2, 3, 4, 11, 13, 14, 15, 16, 17, 18] rfl rfl ⟨[.dec false], _, _, _, _, _, rfl, ?_, rfl, trivial⟩
  simp only [true_and, and_true, and_assoc, decide_eq_true_eq, decide_eq_false_iff_not, ne_eq, beq_iff_eq, beq_eq_false_iff_ne, bne_eq_false_iff_eq, bne_iff_ne, bne_self_eq_false, beq_self_eq_true]
  repeat' apply And.intro
  all_goals first
    | exact True.intro
    | (with_reducible show _ = true; kernel_rfl)
    | (with_reducible exact rfl)
    | omega
    | rfl
theorem pS2n_A0 (v tm m : Nat) (ty1 : TypeId) (f : Nat → OpV) (now i : Nat) (x : OpV) (h7 : Int.tmod x.k 7 ≠ 6) : Ex Try.prog 24 (sub [1, 0, 0, 1, 1, 1, 0] ((Try.f8.body.bind fstLoop).getD .skip)) (f9 (.s (.slc none 0 (some 0))) v tm (.s (.slc (some (1, 0)) m none)) nilV nilV now i) 25 ([(24, some (opB x))]) (One .normal (f9 (.s (.slc none 0 (some 0))) v tm (.s (.slc (some (1, 0)) m none)) nilV nilV now i) 25 ([(24, some (opB x))])) := by
  refine Ex.stage hm [0, 1, 2, 3, 4, 5, 6, 7, 8, 9, 10, 11, 12, 13, 14, 15, 16, 17, 18, 19, 20, 21, 22, 23, 24] [1, 2, 3, 4, 11, 13, 14, 15, 16, 17, 18] rfl rfl ⟨[.num (Int.tmod x.k 7), .dec false], _, _, _, _, _, rfl, ?_, rfl, ⟨rfl, trivial⟩⟩
  simp only [true_and, and_true, and_assoc, decide_eq_true_eq, decide_eq_false_iff_not, ne_eq, beq_iff_eq, beq_eq_false_iff_ne, bne_eq_false_iff_eq, bne_iff_ne, bne_self_eq_false, beq_self_eq_true]
  repeat' apply And.intro
  all_goals first
    | exact True.intro
    | (with_reducible show _ = true; kernel_rfl)
    | (with_reducible exact rfl)
    | omega
    | rfl
theorem pS3n_A0 (v tm m : Nat) (ty1 : TypeId) (f : Nat → OpV) (now i : Nat) (x : OpV) (h5 : Int.tmod x.k 5 ≠ 4) : Ex Try.prog 24 (sub [1, 0, 0, 1, 1, 1, 1, 0] ((Try.f8.body.bind fstLoop).getD .skip)) (f9 (.s (.slc none 0 (some 0))) v tm (.s (.slc (some (1, 0)) m none)) nilV nilV now i) 25 ([(24, some (opB x))]) (One .normal (f9 (.s (.slc none 0 (some 0))) v tm (.s (.slc (some (1, 0)) m none)) nilV nilV now i) 25 ([(24, some (opB x))])) := by
  refine Ex.stage hm [0, 1, 2, 3, 4, 5, 6, 7, 8, 9, 10, 11, 12, 13, 14, 15, 16, 17, 18, 19, 20, 21, 22, 23, 24] [1, 2, 3, 4, 11, 13, 14, 15, 16, 17, 18] rfl rfl ⟨[.num (Int.tmod x.k 5), .dec false], _, _, _, _, _, rfl, ?_, rfl, ⟨rfl, trivial⟩⟩
  simp only [true_and, and_true, and_assoc, decide_eq_true_eq, decide_eq_false_iff_not, ne_eq, beq_iff_eq, beq_eq_false_iff_ne, bne_eq_false_iff_eq, bne_iff_ne, bne_self_eq_false, beq_self_eq_true]
  repeat' apply And.intro
  all_goals first
    | exact True.intro
    | (with_reducible show _ = true; kernel_rfl)
    | (with_reducible exact rfl)
    | omega
    | rfl
theorem pS2y_A0N (v tm m : Nat) (ty1 : TypeId) (f : Nat → OpV) (now i : Nat) (x : OpV) (c : Cq) (o : Nat) (h : c.ok) (hn : now < 2 ^ 64) (hq : c.q = []) (h7 : Int.tmod x.k 7 = 6) : Ex Try.prog 20 (sub [1, 0, 0, 1, 1, 1, 0] ((Try.f8.body.bind fstLoop).getD .skip)) (f9 (.s (.slc none 0 (some 0))) v tm (.s (.slc (some (1, 0)) m none)) nilV nilV now i) 25 ([(24, some (opB x))] ++ coN c o) (One .normal (f9 (.s (.slc none 0 (some 0))) v tm (.s (.slc (some (1, 0)) m none)) nilV nilV now i) 25 ([(24, some (opB x))] ++ coN (wrtq c now (v % 4) false) o)) := by
  have m4 : Int.tmod ((v : Nat) : Int) 4 = ((v % 4 : Nat) : Int) := rfl
  have g1 := writeData_N c now (v % 4) h hn hq
  have g2 := rwriteData_N c o now (v % 4) h hn hq
  refine Ex.stage hm [0, 1, 2, 3, 4, 5, 6, 7, 8, 9, 10, 11, 12, 13, 14, 15, 16, 17, 18, 19, 20, 21, 22, 23, 24] [1, 2, 3, 4, 11, 13, 14, 15, 16, 17, 18] rfl rfl ⟨[.num (Int.tmod x.k 7), .dec true, .num ((v % 4 : Nat) : Int), .call [2] [pC, n64 now, n8 (v % 4)] [(0, some (bN c))] (.tup []) 1 [(0, some (bN (wrtq c now (v % 4) false)))], .num ((v % 4 : Nat) : Int), .call [3] [pC, n64 now, n8 (v % 4)] [(0, some (bR c o nilS))] (.tup []) 1 [(0, some (bR (wrtq c now (v % 4) false) o nilS))]], _, _, _, _, _, rfl, ?_, rfl, ⟨rfl, rfl, rfl, trivial⟩⟩
  simp only [true_and, and_true, and_assoc, decide_eq_true_eq, decide_eq_false_iff_not, ne_eq, beq_iff_eq, beq_eq_false_iff_ne, bne_eq_false_iff_eq, bne_iff_ne, bne_self_eq_false, beq_self_eq_true]
  repeat' apply And.intro
  all_goals first
    | exact True.intro
    | exact ⟨g1, rfl, Fits.of rfl rfl ⟨⟨rfl, _, rfl, rfl, fun h => h⟩, trivial⟩⟩
    | exact ⟨g2, rfl, Fits.of rfl rfl ⟨⟨rfl, _, rfl, rfl, fun h => h⟩, trivial⟩⟩
    | (with_reducible show _ = true; kernel_rfl)
    | (with_reducible exact rfl)
    | omega
    | rfl
theorem pS3y_A0N (v tm m : Nat) (ty1 : TypeId) (f : Nat → OpV) (now i : Nat) (x : OpV) (c : Cq) (o : Nat) (h : c.ok) (hq : c.q = []) (h5 : Int.tmod x.k 5 = 4) : Ex Try.prog 20 (sub [1, 0, 0, 1, 1, 1, 1, 0] ((Try.f8.body.bind fstLoop).getD .skip)) (f9 (.s (.slc none 0 (some 0))) v tm (.s (.slc (some (1, 0)) m none)) nilV nilV now i) 25 ([(24, some (opB x))] ++ coN c o) (One .normal (f9 (.s (.slc none 0 (some 0))) v tm (.s (.slc (some (1, 0)) m none)) nilV nilV now i) 25 ([(24, some (opB x))] ++ coQ ({ c with q := [(1 + v % 8)] } : Cq) o)) := by
  have m8 : Int.tmod ((v : Nat) : Int) 8 = ((v % 8 : Nat) : Int) := rfl
  have g1 := raise_N c (1 + v % 8) (by omega) hq
  have g2 := rraise_N c o (1 + v % 8) (by omega)
  refine Ex.stage hm [0, 1, 2, 3, 4, 5, 6, 7, 8, 9, 10, 11, 12, 13, 14, 15, 16, 17, 18, 19, 25, 26, 27, 28, 24] [1, 2, 3, 4, 11, 13, 14, 15, 16, 17, 18] rfl rfl ⟨[.num (Int.tmod x.k 5), .dec true, .num ((v % 8 : Nat) : Int), .num (((1 + v % 8) : Nat) : Int), .call [2] [pC, n8 (1 + v % 8)] [(0, some (bN c))] (errS 0) 3 [(0, some (bQ ({ c with q := [(1 + v % 8)] } : Cq) 1 2)), (1, some (qB [(1 + v % 8)] 2))], .num ((v % 8 : Nat) : Int), .num (((1 + v % 8) : Nat) : Int), .call [3] [pC, n8 (1 + v % 8)] [(0, some (bR c o nilS))] (errS 0) 3 [(0, some (bR ({ c with q := [(1 + v % 8)] } : Cq) o (.sla 1 2 1))), (1, some (qB [(1 + v % 8)] 2))], .dec false], _, _, _, _, _, rfl, ?_, rfl, ⟨rfl, rfl, rfl, rfl, rfl, trivial⟩⟩
  simp only [true_and, and_true, and_assoc, decide_eq_true_eq, decide_eq_false_iff_not, ne_eq, beq_iff_eq, beq_eq_false_iff_ne, bne_eq_false_iff_eq, bne_iff_ne, bne_self_eq_false, beq_self_eq_true]
  repeat' apply And.intro
  all_goals first
    | exact True.intro
    | exact ⟨g1, rfl, Fits.of rfl rfl ⟨⟨rfl, _, rfl, rfl, fun h => h⟩, trivial⟩⟩
    | exact ⟨g2, rfl, Fits.of rfl rfl ⟨⟨rfl, _, rfl, rfl, fun h => h⟩, trivial⟩⟩
    | exact xv v
    | (with_reducible show _ = true; kernel_rfl)
    | (with_reducible exact rfl)
    | omega
    | rfl
theorem pS2y_A0Q (v tm m : Nat) (ty1 : TypeId) (f : Nat → OpV) (now i : Nat) (x : OpV) (c : Cq) (o : Nat) (h : c.ok) (hn : now < 2 ^ 64) (h7 : Int.tmod x.k 7 = 6) : Ex Try.prog 20 (sub [1, 0, 0, 1, 1, 1, 0] ((Try.f8.body.bind fstLoop).getD .skip)) (f9 (.s (.slc none 0 (some 0))) v tm (.s (.slc (some (1, 0)) m none)) nilV nilV now i) 25 ([(24, some (opB x))] ++ coQ c o) (One .normal (f9 (.s (.slc none 0 (some 0))) v tm (.s (.slc (some (1, 0)) m none)) nilV nilV now i) 25 ([(24, some (opB x))] ++ coQ (wrtq c now (v % 4) false) o)) := by
  have m4 : Int.tmod ((v : Nat) : Int) 4 = ((v % 4 : Nat) : Int) := rfl
  have g1 := writeData_Q c now (v % 4) h hn
  have g2 := rwriteData_Q c o now (v % 4) h hn
  refine Ex.stage hm [0, 1, 2, 3, 4, 5, 6, 7, 8, 9, 10, 11, 12, 13, 14, 15, 16, 17, 18, 19, 25, 26, 27, 28, 24] [1, 2, 3, 4, 11, 13, 14, 15, 16, 17, 18] rfl rfl ⟨[.num (Int.tmod x.k 7), .dec true, .num ((v % 4 : Nat) : Int), .call [2, 20, 21] [pC, n64 now, n8 (v % 4)] (sQ c) (.tup []) 5 (eQ (wrtq c now (v % 4) false)), .num ((v % 4 : Nat) : Int), .call [3, 22, 23] [pC, n64 now, n8 (v % 4)] (sR c o) (.tup []) 5 (eR (wrtq c now (v % 4) false) o)], _, _, _, _, _, rfl, ?_, rfl, ⟨rfl, rfl, rfl, rfl, rfl, trivial⟩⟩
  simp only [true_and, and_true, and_assoc, decide_eq_true_eq, decide_eq_false_iff_not, ne_eq, beq_iff_eq, beq_eq_false_iff_ne, bne_eq_false_iff_eq, bne_iff_ne, bne_self_eq_false, beq_self_eq_true]
  repeat' apply And.intro
  all_goals first
    | exact True.intro
    | exact ⟨g1, rfl, Fits.of rfl rfl ⟨⟨rfl, _, rfl, rfl, fun h => h⟩, ⟨rfl, _, rfl, rfl, fun h => h⟩, trivial⟩⟩
    | exact ⟨g2, rfl, Fits.of rfl rfl ⟨⟨rfl, _, rfl, rfl, fun h => h⟩, ⟨rfl, _, rfl, rfl, fun h => h⟩, trivial⟩⟩
    | (with_reducible show _ = true; kernel_rfl)
    | (with_reducible exact rfl)
    | omega
    | rfl
theorem pS3y_A0Q (v tm m : Nat) (ty1 : TypeId) (f : Nat → OpV) (now i : Nat) (x : OpV) (c : Cq) (o : Nat) (h : c.ok) (h5 : Int.tmod x.k 5 = 4) : Ex Try.prog 20 (sub [1, 0, 0, 1, 1, 1, 1, 0] ((Try.f8.body.bind fstLoop).getD .skip)) (f9 (.s (.slc none 0 (some 0))) v tm (.s (.slc (some (1, 0)) m none)) nilV nilV now i) 25 ([(24, some (opB x))] ++ coQ c o) (One .normal (f9 (.s (.slc none 0 (some 0))) v tm (.s (.slc (some (1, 0)) m none)) nilV nilV now i) 25 ([(24, some (opB x))] ++ coQ (raiq c (1 + v % 8)) o)) := by
  have m8 : Int.tmod ((v : Nat) : Int) 8 = ((v % 8 : Nat) : Int) := rfl
  have g1 := raise_Q c (1 + v % 8) h.ql
  have g2 := rraise_Q c o (1 + v % 8) h.ql
  refine Ex.stage hm [0, 1, 2, 3, 4, 5, 6, 7, 8, 9, 10, 11, 12, 13, 14, 15, 16, 17, 18, 19, 25, 26, 27, 28, 24] [1, 2, 3, 4, 11, 13, 14, 15, 16, 17, 18] rfl rfl ⟨[.num (Int.tmod x.k 5), .dec true, .num ((v % 8 : Nat) : Int), .num (((1 + v % 8) : Nat) : Int), .call [2, 20, 21] [pC, n8 (1 + v % 8)] (sQ c) (errS (raiE c (1 + v % 8))) 5 (eQ (raiq c (1 + v % 8))), .num ((v % 8 : Nat) : Int), .num (((1 + v % 8) : Nat) : Int), .call [3, 22, 23] [pC, n8 (1 + v % 8)] (sR c o) (errS (raiE c (1 + v % 8))) 5 (eR (raiq c (1 + v % 8)) o), .dec false], _, _, _, _, _, rfl, ?_, rfl, ⟨rfl, rfl, rfl, rfl, rfl, trivial⟩⟩
  simp only [true_and, and_true, and_assoc, decide_eq_true_eq, decide_eq_false_iff_not, ne_eq, beq_iff_eq, beq_eq_false_iff_ne, bne_eq_false_iff_eq, bne_iff_ne, bne_self_eq_false, beq_self_eq_true]
  repeat' apply And.intro
  all_goals first
    | exact True.intro
    | exact ⟨g1, rfl, Fits.of rfl rfl ⟨⟨rfl, _, rfl, rfl, fun h => h⟩, ⟨rfl, _, rfl, rfl, fun h => h⟩, trivial⟩⟩
    | exact ⟨g2, rfl, Fits.of rfl rfl ⟨⟨rfl, _, rfl, rfl, fun h => h⟩, ⟨rfl, _, rfl, rfl, fun h => h⟩, trivial⟩⟩
    | exact xv v
    | (with_reducible show _ = true; kernel_rfl)
    | (with_reducible exact rfl)
    | omega
    | rfl
theorem pS4n_A0 (v tm m : Nat) (ty1 : TypeId) (f : Nat → OpV) (now i : Nat) (x : OpV)  : Ex Try.prog 25 (sub [1, 0, 0, 1, 1, 1, 1, 1] ((Try.f8.body.bind fstLoop).getD .skip)) (f9 (.s (.slc none 0 (some 0))) v tm (.s (.slc (some (1, 0)) m none)) nilV nilV now i) 25 ([]) (One .normal (f9 (.s (.slc none 0 (some 0))) v tm (.s (.slc (some (1, 0)) m none)) nilV nilV now i) 25 ([])) := by
  refine Ex.stage hm [0, 1, 2, 3, 4, 5, 6, 7, 8, 9, 10, 11, 12, 13, 14, 15, 16, 17, 18, 19, 20, 21, 22, 23, 24] [1, 2, 3, 4, 11, 13, 14, 15, 16, 17, 18] rfl rfl ⟨[.dec false], _, _, _, _, _, rfl, ?_, rfl, trivial⟩
  simp only [true_and, and_true, and_assoc, decide_eq_true_eq, decide_eq_false_iff_not, ne_eq, beq_iff_eq, beq_eq_false_iff_ne, bne_eq_false_iff_eq, bne_iff_ne, bne_self_eq_false, beq_self_eq_true]
  repeat' apply And.intro
  all_goals first
    | exact True.intro
    | (with_reducible show _ = true; kernel_rfl)
    | (with_reducible exact rfl)
    | omega
    | rfl
theorem pA_E0 (v tm m : Nat) (ty1 : TypeId) (f : Nat → OpV) (now i : Nat) (x : OpV) (hi : i < m) (h8 : i < 80) : Ex Try.prog 24 (sub [0] ((Try.f8.body.bind fstLoop).getD .skip)) (e9 (.s .emp) v tm (.s (.slc (some (1, 0)) m none)) nilV nilV now i) 24 ([]) (One .normal (e9 (.s .emp) v tm (.s (.slc (some (1, 0)) m none)) nilV nilV now i) 24 ([])) := by
  refine Ex.stage hm [0, 1, 2, 3, 4, 5, 6, 7, 8, 9, 10, 11, 12, 13, 14, 15, 16, 17, 18, 19, 20, 21, 22, 23] [1, 2, 3, 4, 11, 13, 14, 15, 16, 17] rfl rfl ⟨[.dec true, .dec true], _, _, _, _, _, rfl, ?_, rfl, trivial⟩
  simp only [true_and, and_true, and_assoc, decide_eq_true_eq, decide_eq_false_iff_not, ne_eq, beq_iff_eq, beq_eq_false_iff_ne, bne_eq_false_iff_eq, bne_iff_ne, bne_self_eq_false, beq_self_eq_true]
  repeat' apply And.intro
  all_goals first
    | exact True.intro
    | exact xa hi
    | exact xb h8
    | (with_reducible show _ = true; kernel_rfl)
    | (with_reducible exact rfl)
    | omega
    | rfl
theorem pX1_E0 (v tm m : Nat) (ty1 : TypeId) (f : Nat → OpV) (now i : Nat) (x : OpV) (hi : ¬ i < m) : Ex Try.prog 24 (sub [0] ((Try.f8.body.bind fstLoop).getD .skip)) (e9 (.s .emp) v tm (.s (.slc (some (1, 0)) m none)) nilV nilV now i) 24 ([]) (One (.exit 0) (e9 (.s .emp) v tm (.s (.slc (some (1, 0)) m none)) nilV nilV now i) 24 ([])) := by
  refine Ex.stage hm [0, 1, 2, 3, 4, 5, 6, 7, 8, 9, 10, 11, 12, 13, 14, 15, 16, 17, 18, 19, 20, 21, 22, 23] [1, 2, 3, 4, 11, 13, 14, 15, 16, 17] rfl rfl ⟨[.dec false], _, _, _, _, _, rfl, ?_, rfl, trivial⟩
  simp only [true_and, and_true, and_assoc, decide_eq_true_eq, decide_eq_false_iff_not, ne_eq, beq_iff_eq, beq_eq_false_iff_ne, bne_eq_false_iff_eq, bne_iff_ne, bne_self_eq_false, beq_self_eq_true]
  repeat' apply And.intro
  all_goals first
    | exact True.intro
    | (with_reducible show _ = true; kernel_rfl)
    | (with_reducible exact rfl)
    | omega
    | rfl
theorem pX2_E0 (v tm m : Nat) (ty1 : TypeId) (f : Nat → OpV) (now i : Nat) (x : OpV) (hi : i < m) (h8 : ¬ i < 80) : Ex Try.prog 24 (sub [0] ((Try.f8.body.bind fstLoop).getD .skip)) (e9 (.s .emp) v tm (.s (.slc (some (1, 0)) m none)) nilV nilV now i) 24 ([]) (One (.exit 0) (e9 (.s .emp) v tm (.s (.slc (some (1, 0)) m none)) nilV nilV now i) 24 ([])) := by
  refine Ex.stage hm [0, 1, 2, 3, 4, 5, 6, 7, 8, 9, 10, 11, 12, 13, 14, 15, 16, 17, 18, 19, 20, 21, 22, 23] [1, 2, 3, 4, 11, 13, 14, 15, 16, 17] rfl rfl ⟨[.dec true, .dec false], _, _, _, _, _, rfl, ?_, rfl, trivial⟩
  simp only [true_and, and_true, and_assoc, decide_eq_true_eq, decide_eq_false_iff_not, ne_eq, beq_iff_eq, beq_eq_false_iff_ne, bne_eq_false_iff_eq, bne_iff_ne, bne_self_eq_false, beq_self_eq_true]
  repeat' apply And.intro
  all_goals first
    | exact True.intro
    | exact xa hi
    | (with_reducible show _ = true; kernel_rfl)
    | (with_reducible exact rfl)
    | omega
    | rfl
theorem pR12_E0 (v tm m : Nat) (ty1 : TypeId) (f : Nat → OpV) (now i : Nat) (x : OpV) (hi : i < m) (hx : f i = x) : Ex Try.prog 24 (sub [1, 0, 0, 0] ((Try.f8.body.bind fstLoop).getD .skip)) (e9 (.s .emp) v tm (.s (.slc (some (1, 0)) m none)) nilV nilV now i) 24 ([(1, some (bOp ty1 f m))]) (One .normal (f9 (.s .emp) v tm (.s (.slc (some (1, 0)) m none)) nilV nilV now i) 25 ([(1, some (bOp ty1 f m))] ++ [(24, some (opB x))])) := by
  have hop : ldAt true 4 (bOp ty1 f m) (plus 0 (times i 4)) = some (.agg x.c) := by rw [← hx]; exact op_ld ty1 f m hi
  refine Ex.stage hm [0, 1, 2, 3, 4, 5, 6, 7, 8, 9, 10, 11, 12, 13, 14, 15, 16, 17, 18, 19, 20, 21, 22, 23, 24] [1, 2, 3, 4, 11, 13, 14, 15, 16, 17, 18] rfl rfl ⟨[.idx i, .val (.agg x.c)], _, _, _, _, _, rfl, ?_, rfl, ⟨rfl, rfl, trivial⟩⟩
  simp only [true_and, and_true, and_assoc, decide_eq_true_eq, decide_eq_false_iff_not, ne_eq, beq_iff_eq, beq_eq_false_iff_ne, bne_eq_false_iff_eq, bne_iff_ne, bne_self_eq_false, beq_self_eq_true]
  repeat' apply And.intro
  all_goals first
    | exact True.intro
    | exact hop
    | exact xa hi
    | (with_reducible show _ = true; kernel_rfl)
    | (with_reducible exact rfl)
    | omega
    | rfl
theorem pR13_E0 (v tm m : Nat) (ty1 : TypeId) (f : Nat → OpV) (now i : Nat) (x : OpV) (ht : now + x.p % 3 < 2 ^ 64) : Ex Try.prog 24 (sub [1, 0, 0, 1, 0] ((Try.f8.body.bind fstLoop).getD .skip)) (f9 (.s .emp) v tm (.s (.slc (some (1, 0)) m none)) nilV nilV now i) 25 ([(24, some (opB x))]) (One .normal (f9 (.s .emp) v tm (.s (.slc (some (1, 0)) m none)) nilV nilV (now + x.p % 3) i) 25 ([(24, some (opB x))])) := by
  have m3 : Int.tmod ((x.p : Nat) : Int) 3 = ((x.p % 3 : Nat) : Int) := rfl
  refine Ex.stage hm [0, 1, 2, 3, 4, 5, 6, 7, 8, 9, 10, 11, 12, 13, 14, 15, 16, 17, 18, 19, 20, 21, 22, 23, 24] [1, 2, 3, 4, 11, 13, 14, 15, 16, 17, 18] rfl rfl ⟨[.num ((x.p % 3 : Nat) : Int), .num ((now + x.p % 3 : Nat) : Int)], _, _, _, _, _, rfl, ?_, rfl, ⟨rfl, trivial⟩⟩
  simp only [true_and, and_true, and_assoc, decide_eq_true_eq, decide_eq_false_iff_not, ne_eq, beq_iff_eq, beq_eq_false_iff_ne, bne_eq_false_iff_eq, bne_iff_ne, bne_self_eq_false, beq_self_eq_true]
  repeat' apply And.intro
  all_goals first
    | exact True.intro
    | exact xc ht
    | (with_reducible show _ = true; kernel_rfl)
    | (with_reducible exact rfl)
    | omega
    | rfl
theorem pR11_E0 (v tm m : Nat) (ty1 : TypeId) (f : Nat → OpV) (now i : Nat) (x : OpV) (h8 : i < 80) : Ex Try.prog 24 (sub [1, 1] ((Try.f8.body.bind fstLoop).getD .skip)) (f9 (.s .emp) v tm (.s (.slc (some (1, 0)) m none)) nilV nilV now i) 25 ([(24, some (opB x))]) (One .normal (e9 (.s .emp) v tm (.s (.slc (some (1, 0)) m none)) nilV nilV now (i + 1)) 24 ([])) := by
  refine Ex.stage hm [0, 1, 2, 3, 4, 5, 6, 7, 8, 9, 10, 11, 12, 13, 14, 15, 16, 17, 18, 19, 20, 21, 22, 23] [1, 2, 3, 4, 11, 13, 14, 15, 16, 17] rfl rfl ⟨[.num ((i + 1 : Nat) : Int)], _, _, _, _, _, rfl, ?_, rfl, trivial⟩
  simp only [true_and, and_true, and_assoc, decide_eq_true_eq, decide_eq_false_iff_not, ne_eq, beq_iff_eq, beq_eq_false_iff_ne, bne_eq_false_iff_eq, bne_iff_ne, bne_self_eq_false, beq_self_eq_true]
  repeat' apply And.intro
  all_goals first
    | exact True.intro
    | exact xd h8
    | (with_reducible show _ = true; kernel_rfl)
    | (with_reducible exact rfl)
    | omega
    | rfl
theorem pS1_E0 (v tm m : Nat) (ty1 : TypeId) (f : Nat → OpV) (now i : Nat) (x : OpV)  : Ex Try.prog 25 (sub [1, 0, 0, 1, 1, 0] ((Try.f8.body.bind fstLoop).getD .skip)) (f9 (.s .emp) v tm (.s (.slc (some (1, 0)) m none)) nilV nilV now i) 25 ([]) (One .normal (f9 (.s .emp) v tm (.s (.slc (some (1, 0)) m none)) nilV nilV now i) 25 ([])) := by
  refine Ex.stage hm [0, 1, 2, 3, 4, 5, 6, 7, 8, 9, 10, 11, 12, 13, 14, 15, 16, 17, 18, 19, 20, 21, 22, 23, 24] [1, 2, 3, 4, 11, 13, 14, 15, 16, 17, 18] rfl rfl ⟨[.dec false], _, _, _, _, _, rfl, ?_, rfl, trivial⟩
  simp only [true_and, and_true, and_assoc, decide_eq_true_eq, decide_eq_false_iff_not, ne_eq, beq_iff_eq, beq_eq_false_iff_ne, bne_eq_false_iff_eq, bne_iff_ne, bne_self_eq_false, beq_self_eq_true]
  repeat' apply And.intro
  all_goals first
    | exact True.intro
    | (with_reducible show _ = true; kernel_rfl)
    | (with_reducible exact rfl)
    | omega
    | rfl
theorem pS2n_E0 (v tm m : Nat) (ty1 : TypeId) (f : Nat → OpV) (now i : Nat) (x : OpV) (h7 : Int.tmod x.k 7 ≠ 6) : Ex Try.prog 24 (sub [1, 0, 0, 1, 1, 1, 0] ((Try.f8.body.bind fstLoop).getD .skip)) (f9 (.s .emp) v tm (.s (.slc (some (1, 0)) m none)) nilV nilV now i) 25 ([(24, some (opB x))]) (One .normal (f9 (.s .emp) v tm (.s (.slc (some (1, 0)) m none)) nilV nilV now i) 25 ([(24, some (opB x))])) := by
  refine Ex.stage hm [0, 1, 2, 3, 4, 5, 6, 7, 8, 9, 10, 11, 12, 13, 14, 15, 16, 17, 18, 19, 20, 21, 22, 23, 24] [1, 2, 3, 4, 11, 13, 14, 15, 16, 17, 18] rfl rfl ⟨[.num (Int.tmod x.k 7), .dec false], _, _, _, _, _, rfl, ?_, rfl, ⟨rfl, trivial⟩⟩
  simp only [true_and, and_true, and_assoc, decide_eq_true_eq, decide_eq_false_iff_not, ne_eq, beq_iff_eq, beq_eq_false_iff_ne, bne_eq_false_iff_eq, bne_iff_ne, bne_self_eq_false, beq_self_eq_true]
  repeat' apply And.intro
  all_goals first
    | exact True.intro
    | (with_reducible show _ = true; kernel_rfl)
    | (with_reducible exact rfl)
    | omega
    | rfl
theorem pS3n_E0 (v tm m : Nat) (ty1 : TypeId) (f : Nat → OpV) (now i : Nat) (x : OpV) (h5 : Int.tmod x.k 5 ≠ 4) : Ex Try.prog 24 (sub [1, 0, 0, 1, 1, 1, 1, 0] ((Try.f8.body.bind fstLoop).getD .skip)) (f9 (.s .emp) v tm (.s (.slc (some (1, 0)) m none)) nilV nilV now i) 25 ([(24, some (opB x))]) (One .normal (f9 (.s .emp) v tm (.s (.slc (some (1, 0)) m none)) nilV nilV now i) 25 ([(24, some (opB x))])) := by
  refine Ex.stage hm [0, 1, 2, 3, 4, 5, 6, 7, 8, 9, 10, 11, 12, 13, 14, 15, 16, 17, 18, 19, 20, 21, 22, 23, 24] [1, 2, 3, 4, 11, 13, 14, 15, 16, 17, 18] rfl rfl ⟨[.num (Int.tmod x.k 5), .dec false], _, _, _, _, _, rfl, ?_, rfl, ⟨rfl, trivial⟩⟩
  simp only [true_and, and_true, and_assoc, decide_eq_true_eq, decide_eq_false_iff_not, ne_eq, beq_iff_eq, beq_eq_false_iff_ne, bne_eq_false_iff_eq, bne_iff_ne, bne_self_eq_false, beq_self_eq_true]
  repeat' apply And.intro
  all_goals first
    | exact True.intro
    | (with_reducible show _ = true; kernel_rfl)
    | (with_reducible exact rfl)
    | omega
    | rfl
theorem pS2y_E0N (v tm m : Nat) (ty1 : TypeId) (f : Nat → OpV) (now i : Nat) (x : OpV) (c : Cq) (o : Nat) (h : c.ok) (hn : now < 2 ^ 64) (hq : c.q = []) (h7 : Int.tmod x.k 7 = 6) : Ex Try.prog 20 (sub [1, 0, 0, 1, 1, 1, 0] ((Try.f8.body.bind fstLoop).getD .skip)) (f9 (.s .emp) v tm (.s (.slc (some (1, 0)) m none)) nilV nilV now i) 25 ([(24, some (opB x))] ++ coN c o) (One .normal (f9 (.s .emp) v tm (.s (.slc (some (1, 0)) m none)) nilV nilV now i) 25 ([(24, some (opB x))] ++ coN (wrtq c now (v % 4) false) o)) := by
  have m4 : Int.tmod ((v : Nat) : Int) 4 = ((v % 4 : Nat) : Int) := rfl
  have g1 := writeData_N c now (v % 4) h hn hq
  have g2 := rwriteData_N c o now (v % 4) h hn hq
  refine Ex.stage hm [0, 1, 2, 3, 4, 5, 6, 7, 8, 9, 10, 11, 12, 13, 14, 15, 16, 17, 18, 19, 20, 21, 22, 23, 24] [1, 2, 3, 4, 11, 13, 14, 15, 16, 17, 18] rfl rfl ⟨[.num (Int.tmod x.k 7), .dec true, .num ((v % 4 : Nat) : Int), .call [2] [pC, n64 now, n8 (v % 4)] [(0, some (bN c))] (.tup []) 1 [(0, some (bN (wrtq c now (v % 4) false)))], .num ((v % 4 : Nat) : Int), .call [3] [pC, n64 now, n8 (v % 4)] [(0, some (bR c o nilS))] (.tup []) 1 [(0, some (bR (wrtq c now (v % 4) false) o nilS))]], _, _, _, _, _, rfl, ?_, rfl, ⟨rfl, rfl, rfl, trivial⟩⟩
  simp only [true_and, and_true, and_assoc, decide_eq_true_eq, decide_eq_false_iff_not, ne_eq, beq_iff_eq, beq_eq_false_iff_ne, bne_eq_false_iff_eq, bne_iff_ne, bne_self_eq_false, beq_self_eq_true]
  repeat' apply And.intro
  all_goals first
    | exact True.intro
    | exact ⟨g1, rfl, Fits.of rfl rfl ⟨⟨rfl, _, rfl, rfl, fun h => h⟩, trivial⟩⟩
    | exact ⟨g2, rfl, Fits.of rfl rfl ⟨⟨rfl, _, rfl, rfl, fun h => h⟩, trivial⟩⟩
    | (with_reducible show _ = true; kernel_rfl)
    | (with_reducible exact rfl)
    | omega
    | rfl
theorem pS3y_E0N (v tm m : Nat) (ty1 : TypeId) (f : Nat → OpV) (now i : Nat) (x : OpV) (c : Cq) (o : Nat) (h : c.ok) (hq : c.q = []) (h5 : Int.tmod x.k 5 = 4) : Ex Try.prog 20 (sub [1, 0, 0, 1, 1, 1, 1, 0] ((Try.f8.body.bind fstLoop).getD .skip)) (f9 (.s .emp) v tm (.s (.slc (some (1, 0)) m none)) nilV nilV now i) 25 ([(24, some (opB x))] ++ coN c o) (One .normal (f9 (.s .emp) v tm (.s (.slc (some (1, 0)) m none)) nilV nilV now i) 25 ([(24, some (opB x))] ++ coQ ({ c with q := [(1 + v % 8)] } : Cq) o)) := by
  have m8 : Int.tmod ((v : Nat) : Int) 8 = ((v % 8 : Nat) : Int) := rfl
  have g1 := raise_N c (1 + v % 8) (by omega) hq
  have g2 := rraise_N c o (1 + v % 8) (by omega)
  refine Ex.stage hm [0, 1, 2, 3, 4, 5, 6, 7, 8, 9, 10, 11, 12, 13, 14, 15, 16, 17, 18, 19, 25, 26, 27, 28, 24] [1, 2, 3, 4, 11, 13, 14, 15, 16, 17, 18] rfl rfl ⟨[.num (Int.tmod x.k 5), .dec true, .num ((v % 8 : Nat) : Int), .num (((1 + v % 8) : Nat) : Int), .call [2] [pC, n8 (1 + v % 8)] [(0, some (bN c))] (errS 0) 3 [(0, some (bQ ({ c with q := [(1 + v % 8)] } : Cq) 1 2)), (1, some (qB [(1 + v % 8)] 2))], .num ((v % 8 : Nat) : Int), .num (((1 + v % 8) : Nat) : Int), .call [3] [pC, n8 (1 + v % 8)] [(0, some (bR c o nilS))] (errS 0) 3 [(0, some (bR ({ c with q := [(1 + v % 8)] } : Cq) o (.sla 1 2 1))), (1, some (qB [(1 + v % 8)] 2))], .dec false], _, _, _, _, _, rfl, ?_, rfl, ⟨rfl, rfl, rfl, rfl, rfl, trivial⟩⟩
  simp only [true_and, and_true, and_assoc, decide_eq_true_eq, decide_eq_false_iff_not, ne_eq, beq_iff_eq, beq_eq_false_iff_ne, bne_eq_false_iff_eq, bne_iff_ne, bne_self_eq_false, beq_self_eq_true]
  repeat' apply And.intro
  all_goals first
    | exact True.intro
    | exact ⟨g1, rfl, Fits.of rfl rfl ⟨⟨rfl, _, rfl, rfl, fun h => h⟩, trivial⟩⟩
    | exact ⟨g2, rfl, Fits.of rfl rfl ⟨⟨rfl, _, rfl, rfl, fun h => h⟩, trivial⟩⟩
    | exact xv v
    | (with_reducible show _ = true; kernel_rfl)
    | (with_reducible exact rfl)
    | omega
    | rfl
theorem pS2y_E0Q (v tm m : Nat) (ty1 : TypeId) (f : Nat → OpV) (now i : Nat) (x : OpV) (c : Cq) (o : Nat) (h : c.ok) (hn : now < 2 ^ 64) (h7 : Int.tmod x.k 7 = 6) : Ex Try.prog 20 (sub [1, 0, 0, 1, 1, 1, 0] ((Try.f8.body.bind fstLoop).getD .skip)) (f9 (.s .emp) v tm (.s (.slc (some (1, 0)) m none)) nilV nilV now i) 25 ([(24, some (opB x))] ++ coQ c o) (One .normal (f9 (.s .emp) v tm (.s (.slc (some (1, 0)) m none)) nilV nilV now i) 25 ([(24, some (opB x))] ++ coQ (wrtq c now (v % 4) false) o)) := by
  have m4 : Int.tmod ((v : Nat) : Int) 4 = ((v % 4 : Nat) : Int) := rfl
  have g1 := writeData_Q c now (v % 4) h hn
  have g2 := rwriteData_Q c o now (v % 4) h hn
  refine Ex.stage hm [0, 1, 2, 3, 4, 5, 6, 7, 8, 9, 10, 11, 12, 13, 14, 15, 16, 17, 18, 19, 25, 26, 27, 28, 24] [1, 2, 3, 4, 11, 13, 14, 15, 16, 17, 18] rfl rfl ⟨[.num (Int.tmod x.k 7), .dec true, .num ((v % 4 : Nat) : Int), .call [2, 20, 21] [pC, n64 now, n8 (v % 4)] (sQ c) (.tup []) 5 (eQ (wrtq c now (v % 4) false)), .num ((v % 4 : Nat) : Int), .call [3, 22, 23] [pC, n64 now, n8 (v % 4)] (sR c o) (.tup []) 5 (eR (wrtq c now (v % 4) false) o)], _, _, _, _, _, rfl, ?_, rfl, ⟨rfl, rfl, rfl, rfl, rfl, trivial⟩⟩
  simp only [true_and, and_true, and_assoc, decide_eq_true_eq, decide_eq_false_iff_not, ne_eq, beq_iff_eq, beq_eq_false_iff_ne, bne_eq_false_iff_eq, bne_iff_ne, bne_self_eq_false, beq_self_eq_true]
  repeat' apply And.intro
  all_goals first
    | exact True.intro
    | exact ⟨g1, rfl, Fits.of rfl rfl ⟨⟨rfl, _, rfl, rfl, fun h => h⟩, ⟨rfl, _, rfl, rfl, fun h => h⟩, trivial⟩⟩
    | exact ⟨g2, rfl, Fits.of rfl rfl ⟨⟨rfl, _, rfl, rfl, fun h => h⟩, ⟨rfl, _, rfl, rfl, fun h => h⟩, trivial⟩⟩
    | (with_reducible show _ = true; kernel_rfl)
    | (with_reducible exact rfl)
    | omega
    | rfl
theorem pS3y_E0Q (v tm m : Nat) (ty1 : TypeId) (f : Nat → OpV) (now i : Nat) (x : OpV) (c : Cq) (o : Nat) (h : c.ok) (h5 : Int.tmod x.k 5 = 4) : Ex Try.prog 20 (sub [1, 0, 0, 1, 1, 1, 1, 0] ((Try.f8.body.bind fstLoop).getD .skip)) (f9 (.s .emp) v tm (.s (.slc (some (1, 0)) m none)) nilV nilV now i) 25 ([(24, some (opB x))] ++ coQ c o) (One .normal (f9 (.s .emp) v tm (.s (.slc (some (1, 0)) m none)) nilV nilV now i) 25 ([(24, some (opB x))] ++ coQ (raiq c (1 + v % 8)) o)) := by
  have m8 : Int.tmod ((v : Nat) : Int) 8 = ((v % 8 : Nat) : Int) := rfl
  have g1 := raise_Q c (1 + v % 8) h.ql
  have g2 := rraise_Q c o (1 + v % 8) h.ql
  refine Ex.stage hm [0, 1, 2, 3, 4, 5, 6, 7, 8, 9, 10, 11, 12, 13, 14, 15, 16, 17, 18, 19, 25, 26, 27, 28, 24] [1, 2, 3, 4, 11, 13, 14, 15, 16, 17, 18] rfl rfl ⟨[.num (Int.tmod x.k 5), .dec true, .num ((v % 8 : Nat) : Int), .num (((1 + v % 8) : Nat) : Int), .call [2, 20, 21] [pC, n8 (1 + v % 8)] (sQ c) (errS (raiE c (1 + v % 8))) 5 (eQ (raiq c (1 + v % 8))), .num ((v % 8 : Nat) : Int), .num (((1 + v % 8) : Nat) : Int), .call [3, 22, 23] [pC, n8 (1 + v % 8)] (sR c o) (errS (raiE c (1 + v % 8))) 5 (eR (raiq c (1 + v % 8)) o), .dec false], _, _, _, _, _, rfl, ?_, rfl, ⟨rfl, rfl, rfl, rfl, rfl, trivial⟩⟩
  simp only [true_and, and_true, and_assoc, decide_eq_true_eq, decide_eq_false_iff_not, ne_eq, beq_iff_eq, beq_eq_false_iff_ne, bne_eq_false_iff_eq, bne_iff_ne, bne_self_eq_false, beq_self_eq_true]
  repeat' apply And.intro
  all_goals first
    | exact True.intro
    | exact ⟨g1, rfl, Fits.of rfl rfl ⟨⟨rfl, _, rfl, rfl, fun h => h⟩, ⟨rfl, _, rfl, rfl, fun h => h⟩, trivial⟩⟩
    | exact ⟨g2, rfl, Fits.of rfl rfl ⟨⟨rfl, _, rfl, rfl, fun h => h⟩, ⟨rfl, _, rfl, rfl, fun h => h⟩, trivial⟩⟩
    | exact xv v
    | (with_reducible show _ = true; kernel_rfl)
    | (with_reducible exact rfl)
    | omega
    | rfl
theorem pS4n_E0 (v tm m : Nat) (ty1 : TypeId) (f : Nat → OpV) (now i : Nat) (x : OpV)  : Ex Try.prog 25 (sub [1, 0, 0, 1, 1, 1, 1, 1] ((Try.f8.body.bind fstLoop).getD .skip)) (f9 (.s .emp) v tm (.s (.slc (some (1, 0)) m none)) nilV nilV now i) 25 ([]) (One .normal (f9 (.s .emp) v tm (.s (.slc (some (1, 0)) m none)) nilV nilV now i) 25 ([])) := by
  refine Ex.stage hm [0, 1, 2, 3, 4, 5, 6, 7, 8, 9, 10, 11, 12, 13, 14, 15, 16, 17, 18, 19, 20, 21, 22, 23, 24] [1, 2, 3, 4, 11, 13, 14, 15, 16, 17, 18] rfl rfl ⟨[.dec false], _, _, _, _, _, rfl, ?_, rfl, trivial⟩
  simp only [true_and, and_true, and_assoc, decide_eq_true_eq, decide_eq_false_iff_not, ne_eq, beq_iff_eq, beq_eq_false_iff_ne, bne_eq_false_iff_eq, bne_iff_ne, bne_self_eq_false, beq_self_eq_true]
  repeat' apply And.intro
  all_goals first
    | exact True.intro
    | (with_reducible show _ = true; kernel_rfl)
    | (with_reducible exact rfl)
    | omega
    | rfl
theorem pA_B0 (ty : TypeId) (mr : Bool) (C : List S) (oo nk : Nat) (cc : Option Nat) (v tm m : Nat) (ty1 : TypeId) (f : Nat → OpV) (now i : Nat) (x : OpV) (hi : i < m) (h8 : i < 80) : Ex Try.prog 24 (sub [0] ((Try.f8.body.bind fstLoop).getD .skip)) (e9 (.s (.slc (some (0, oo)) nk cc)) v tm (.s (.slc (some (1, 0)) m none)) nilV nilV now i) 24 ([]) (One .normal (e9 (.s (.slc (some (0, oo)) nk cc)) v tm (.s (.slc (some (1, 0)) m none)) nilV nilV now i) 24 ([])) := by
  refine Ex.stage hm [0, 1, 2, 3, 4, 5, 6, 7, 8, 9, 10, 11, 12, 13, 14, 15, 16, 17, 18, 19, 20, 21, 22, 23] [1, 2, 3, 4, 11, 13, 14, 15, 16, 17] rfl rfl ⟨[.dec true, .dec true], _, _, _, _, _, rfl, ?_, rfl, trivial⟩
  simp only [true_and, and_true, and_assoc, decide_eq_true_eq, decide_eq_false_iff_not, ne_eq, beq_iff_eq, beq_eq_false_iff_ne, bne_eq_false_iff_eq, bne_iff_ne, bne_self_eq_false, beq_self_eq_true]
  repeat' apply And.intro
  all_goals first
    | exact True.intro
    | exact xa hi
    | exact xb h8
    | (with_reducible show _ = true; kernel_rfl)
    | (with_reducible exact rfl)
    | omega
    | rfl
theorem pX1_B0 (ty : TypeId) (mr : Bool) (C : List S) (oo nk : Nat) (cc : Option Nat) (v tm m : Nat) (ty1 : TypeId) (f : Nat → OpV) (now i : Nat) (x : OpV) (hi : ¬ i < m) : Ex Try.prog 24 (sub [0] ((Try.f8.body.bind fstLoop).getD .skip)) (e9 (.s (.slc (some (0, oo)) nk cc)) v tm (.s (.slc (some (1, 0)) m none)) nilV nilV now i) 24 ([]) (One (.exit 0) (e9 (.s (.slc (some (0, oo)) nk cc)) v tm (.s (.slc (some (1, 0)) m none)) nilV nilV now i) 24 ([])) := by
  refine Ex.stage hm [0, 1, 2, 3, 4, 5, 6, 7, 8, 9, 10, 11, 12, 13, 14, 15, 16, 17, 18, 19, 20, 21, 22, 23] [1, 2, 3, 4, 11, 13, 14, 15, 16, 17] rfl rfl ⟨[.dec false], _, _, _, _, _, rfl, ?_, rfl, trivial⟩
  simp only [true_and, and_true, and_assoc, decide_eq_true_eq, decide_eq_false_iff_not, ne_eq, beq_iff_eq, beq_eq_false_iff_ne, bne_eq_false_iff_eq, bne_iff_ne, bne_self_eq_false, beq_self_eq_true]
  repeat' apply And.intro
  all_goals first
    | exact True.intro
    | (with_reducible show _ = true; kernel_rfl)
    | (with_reducible exact rfl)
    | omega
    | rfl
theorem pX2_B0 (ty : TypeId) (mr : Bool) (C : List S) (oo nk : Nat) (cc : Option Nat) (v tm m : Nat) (ty1 : TypeId) (f : Nat → OpV) (now i : Nat) (x : OpV) (hi : i < m) (h8 : ¬ i < 80) : Ex Try.prog 24 (sub [0] ((Try.f8.body.bind fstLoop).getD .skip)) (e9 (.s (.slc (some (0, oo)) nk cc)) v tm (.s (.slc (some (1, 0)) m none)) nilV nilV now i) 24 ([]) (One (.exit 0) (e9 (.s (.slc (some (0, oo)) nk cc)) v tm (.s (.slc (some (1, 0)) m none)) nilV nilV now i) 24 ([])) := by
  refine Ex.stage hm [0, 1, 2, 3, 4, 5, 6, 7, 8, 9, 10, 11, 12, 13, 14, 15, 16, 17, 18, 19, 20, 21, 22, 23] [1, 2, 3, 4, 11, 13, 14, 15, 16, 17] rfl rfl ⟨[.dec true, .dec false], _, _, _, _, _, rfl, ?_, rfl, trivial⟩
  simp only [true_and, and_true, and_assoc, decide_eq_true_eq, decide_eq_false_iff_not, ne_eq, beq_iff_eq, beq_eq_false_iff_ne, bne_eq_false_iff_eq, bne_iff_ne, bne_self_eq_false, beq_self_eq_true]
  repeat' apply And.intro
  all_goals first
    | exact True.intro
    | exact xa hi
    | (with_reducible show _ = true; kernel_rfl)
    | (with_reducible exact rfl)
    | omega
    | rfl
theorem pR12_B0 (ty : TypeId) (mr : Bool) (C : List S) (oo nk : Nat) (cc : Option Nat) (v tm m : Nat) (ty1 : TypeId) (f : Nat → OpV) (now i : Nat) (x : OpV) (hi : i < m) (hx : f i = x) : Ex Try.prog 24 (sub [1, 0, 0, 0] ((Try.f8.body.bind fstLoop).getD .skip)) (e9 (.s (.slc (some (0, oo)) nk cc)) v tm (.s (.slc (some (1, 0)) m none)) nilV nilV now i) 24 ([(0, some (bRb ty mr C)), (1, some (bOp ty1 f m))]) (One .normal (f9 (.s (.slc (some (0, oo)) nk cc)) v tm (.s (.slc (some (1, 0)) m none)) nilV nilV now i) 25 ([(0, some (bRb ty mr C)), (1, some (bOp ty1 f m))] ++ [(24, some (opB x))])) := by
  have hop : ldAt true 4 (bOp ty1 f m) (plus 0 (times i 4)) = some (.agg x.c) := by rw [← hx]; exact op_ld ty1 f m hi
  refine Ex.stage hm [0, 1, 2, 3, 4, 5, 6, 7, 8, 9, 10, 11, 12, 13, 14, 15, 16, 17, 18, 19, 20, 21, 22, 23, 24] [1, 2, 3, 4, 11, 13, 14, 15, 16, 17, 18] rfl rfl ⟨[.idx i, .val (.agg x.c)], _, _, _, _, _, rfl, ?_, rfl, ⟨rfl, rfl, rfl, trivial⟩⟩
  simp only [true_and, and_true, and_assoc, decide_eq_true_eq, decide_eq_false_iff_not, ne_eq, beq_iff_eq, beq_eq_false_iff_ne, bne_eq_false_iff_eq, bne_iff_ne, bne_self_eq_false, beq_self_eq_true]
  repeat' apply And.intro
  all_goals first
    | exact True.intro
    | exact hop
    | exact xa hi
    | (with_reducible show _ = true; kernel_rfl)
    | (with_reducible exact rfl)
    | omega
    | rfl
theorem pR13_B0 (ty : TypeId) (mr : Bool) (C : List S) (oo nk : Nat) (cc : Option Nat) (v tm m : Nat) (ty1 : TypeId) (f : Nat → OpV) (now i : Nat) (x : OpV) (ht : now + x.p % 3 < 2 ^ 64) : Ex Try.prog 24 (sub [1, 0, 0, 1, 0] ((Try.f8.body.bind fstLoop).getD .skip)) (f9 (.s (.slc (some (0, oo)) nk cc)) v tm (.s (.slc (some (1, 0)) m none)) nilV nilV now i) 25 ([(24, some (opB x))]) (One .normal (f9 (.s (.slc (some (0, oo)) nk cc)) v tm (.s (.slc (some (1, 0)) m none)) nilV nilV (now + x.p % 3) i) 25 ([(24, some (opB x))])) := by
  have m3 : Int.tmod ((x.p : Nat) : Int) 3 = ((x.p % 3 : Nat) : Int) := rfl
  refine Ex.stage hm [0, 1, 2, 3, 4, 5, 6, 7, 8, 9, 10, 11, 12, 13, 14, 15, 16, 17, 18, 19, 20, 21, 22, 23, 24] [1, 2, 3, 4, 11, 13, 14, 15, 16, 17, 18] rfl rfl ⟨[.num ((x.p % 3 : Nat) : Int), .num ((now + x.p % 3 : Nat) : Int)], _, _, _, _, _, rfl, ?_, rfl, ⟨rfl, trivial⟩⟩
  simp only [true_and, and_true, and_assoc, decide_eq_true_eq, decide_eq_false_iff_not, ne_eq, beq_iff_eq, beq_eq_false_iff_ne, bne_eq_false_iff_eq, bne_iff_ne, bne_self_eq_false, beq_self_eq_true]
  repeat' apply And.intro
  all_goals first
    | exact True.intro
    | exact xc ht
    | (with_reducible show _ = true; kernel_rfl)
    | (with_reducible exact rfl)
    | omega
    | rfl
theorem pR11_B0 (ty : TypeId) (mr : Bool) (C : List S) (oo nk : Nat) (cc : Option Nat) (v tm m : Nat) (ty1 : TypeId) (f : Nat → OpV) (now i : Nat) (x : OpV) (h8 : i < 80) : Ex Try.prog 24 (sub [1, 1] ((Try.f8.body.bind fstLoop).getD .skip)) (f9 (.s (.slc (some (0, oo)) nk cc)) v tm (.s (.slc (some (1, 0)) m none)) nilV nilV now i) 25 ([(24, some (opB x))]) (One .normal (e9 (.s (.slc (some (0, oo)) nk cc)) v tm (.s (.slc (some (1, 0)) m none)) nilV nilV now (i + 1)) 24 ([])) := by
  refine Ex.stage hm [0, 1, 2, 3, 4, 5, 6, 7, 8, 9, 10, 11, 12, 13, 14, 15, 16, 17, 18, 19, 20, 21, 22, 23] [1, 2, 3, 4, 11, 13, 14, 15, 16, 17] rfl rfl ⟨[.num ((i + 1 : Nat) : Int)], _, _, _, _, _, rfl, ?_, rfl, trivial⟩
  simp only [true_and, and_true, and_assoc, decide_eq_true_eq, decide_eq_false_iff_not, ne_eq, beq_iff_eq, beq_eq_false_iff_ne, bne_eq_false_iff_eq, bne_iff_ne, bne_self_eq_false, beq_self_eq_true]
  repeat' apply And.intro
  all_goals first
    | exact True.intro
    | exact xd h8
    | (with_reducible show _ = true; kernel_rfl)
    | (with_reducible exact rfl)
    | omega
    | rfl
theorem pS1a_B0 (ty : TypeId) (mr : Bool) (C : List S) (oo nk : Nat) (cc : Option Nat) (v tm m : Nat) (ty1 : TypeId) (f : Nat → OpV) (now i : Nat) (x : OpV) (hk : ¬ i < nk) : Ex Try.prog 25 (sub [1, 0, 0, 1, 1, 0] ((Try.f8.body.bind fstLoop).getD .skip)) (f9 (.s (.slc (some (0, oo)) nk cc)) v tm (.s (.slc (some (1, 0)) m none)) nilV nilV now i) 25 ([]) (One .normal (f9 (.s (.slc (some (0, oo)) nk cc)) v tm (.s (.slc (some (1, 0)) m none)) nilV nilV now i) 25 ([])) := by
  refine Ex.stage hm [0, 1, 2, 3, 4, 5, 6, 7, 8, 9, 10, 11, 12, 13, 14, 15, 16, 17, 18, 19, 20, 21, 22, 23, 24] [1, 2, 3, 4, 11, 13, 14, 15, 16, 17, 18] rfl rfl ⟨[.dec false], _, _, _, _, _, rfl, ?_, rfl, trivial⟩
  simp only [true_and, and_true, and_assoc, decide_eq_true_eq, decide_eq_false_iff_not, ne_eq, beq_iff_eq, beq_eq_false_iff_ne, bne_eq_false_iff_eq, bne_iff_ne, bne_self_eq_false, beq_self_eq_true]
  repeat' apply And.intro
  all_goals first
    | exact True.intro
    | (with_reducible show _ = true; kernel_rfl)
    | (with_reducible exact rfl)
    | omega
    | rfl
theorem pS1b_B0 (ty : TypeId) (mr : Bool) (C : List S) (oo nk : Nat) (cc : Option Nat) (v tm m : Nat) (ty1 : TypeId) (f : Nat → OpV) (now i : Nat) (x : OpV) (kd : Nat) (hk : i < nk) (hld : ldAt false 1 (bRb ty mr C) (plus oo i) = some (.s (.int .u8 ((kd : Nat) : Int)))) (h3 : kd % 3 ≠ 0) : Ex Try.prog 25 (sub [1, 0, 0, 1, 1, 0] ((Try.f8.body.bind fstLoop).getD .skip)) (f9 (.s (.slc (some (0, oo)) nk cc)) v tm (.s (.slc (some (1, 0)) m none)) nilV nilV now i) 25 ([(0, some (bRb ty mr C)), (1, some (bOp ty1 f m))]) (One .normal (f9 (.s (.slc (some (0, oo)) nk cc)) v tm (.s (.slc (some (1, 0)) m none)) nilV nilV now i) 25 ([(0, some (bRb ty mr C)), (1, some (bOp ty1 f m))])) := by
  have m3 : Int.tmod ((kd : Nat) : Int) 3 = ((kd % 3 : Nat) : Int) := rfl
  refine Ex.stage hm [0, 1, 2, 3, 4, 5, 6, 7, 8, 9, 10, 11, 12, 13, 14, 15, 16, 17, 18, 19, 20, 21, 22, 23, 24] [1, 2, 3, 4, 11, 13, 14, 15, 16, 17, 18] rfl rfl ⟨[.dec true, .idx i, .val (n8 kd), .num ((kd % 3 : Nat) : Int), .dec false], _, _, _, _, _, rfl, ?_, rfl, ⟨rfl, rfl, trivial⟩⟩
  simp only [true_and, and_true, and_assoc, decide_eq_true_eq, decide_eq_false_iff_not, ne_eq, beq_iff_eq, beq_eq_false_iff_ne, bne_eq_false_iff_eq, bne_iff_ne, bne_self_eq_false, beq_self_eq_true]
  repeat' apply And.intro
  all_goals first
    | exact True.intro
    | exact hld
    | exact xa hk
    | (with_reducible show _ = true; kernel_rfl)
    | (with_reducible exact rfl)
    | omega
    | rfl
theorem pS2n_B0 (ty : TypeId) (mr : Bool) (C : List S) (oo nk : Nat) (cc : Option Nat) (v tm m : Nat) (ty1 : TypeId) (f : Nat → OpV) (now i : Nat) (x : OpV) (h7 : Int.tmod x.k 7 ≠ 6) : Ex Try.prog 24 (sub [1, 0, 0, 1, 1, 1, 0] ((Try.f8.body.bind fstLoop).getD .skip)) (f9 (.s (.slc (some (0, oo)) nk cc)) v tm (.s (.slc (some (1, 0)) m none)) nilV nilV now i) 25 ([(24, some (opB x))]) (One .normal (f9 (.s (.slc (some (0, oo)) nk cc)) v tm (.s (.slc (some (1, 0)) m none)) nilV nilV now i) 25 ([(24, some (opB x))])) := by
  refine Ex.stage hm [0, 1, 2, 3, 4, 5, 6, 7, 8, 9, 10, 11, 12, 13, 14, 15, 16, 17, 18, 19, 20, 21, 22, 23, 24] [1, 2, 3, 4, 11, 13, 14, 15, 16, 17, 18] rfl rfl ⟨[.num (Int.tmod x.k 7), .dec false], _, _, _, _, _, rfl, ?_, rfl, ⟨rfl, trivial⟩⟩
  simp only [true_and, and_true, and_assoc, decide_eq_true_eq, decide_eq_false_iff_not, ne_eq, beq_iff_eq, beq_eq_false_iff_ne, bne_eq_false_iff_eq, bne_iff_ne, bne_self_eq_false, beq_self_eq_true]
  repeat' apply And.intro
  all_goals first
    | exact True.intro
    | (with_reducible show _ = true; kernel_rfl)
    | (with_reducible exact rfl)
    | omega
    | rfl
theorem pS3n_B0 (ty : TypeId) (mr : Bool) (C : List S) (oo nk : Nat) (cc : Option Nat) (v tm m : Nat) (ty1 : TypeId) (f : Nat → OpV) (now i : Nat) (x : OpV) (h5 : Int.tmod x.k 5 ≠ 4) : Ex Try.prog 24 (sub [1, 0, 0, 1, 1, 1, 1, 0] ((Try.f8.body.bind fstLoop).getD .skip)) (f9 (.s (.slc (some (0, oo)) nk cc)) v tm (.s (.slc (some (1, 0)) m none)) nilV nilV now i) 25 ([(24, some (opB x))]) (One .normal (f9 (.s (.slc (some (0, oo)) nk cc)) v tm (.s (.slc (some (1, 0)) m none)) nilV nilV now i) 25 ([(24, some (opB x))])) := by
  refine Ex.stage hm [0, 1, 2, 3, 4, 5, 6, 7, 8, 9, 10, 11, 12, 13, 14, 15, 16, 17, 18, 19, 20, 21, 22, 23, 24] [1, 2, 3, 4, 11, 13, 14, 15, 16, 17, 18] rfl rfl ⟨[.num (Int.tmod x.k 5), .dec false], _, _, _, _, _, rfl, ?_, rfl, ⟨rfl, trivial⟩⟩
  simp only [true_and, and_true, and_assoc, decide_eq_true_eq, decide_eq_false_iff_not, ne_eq, beq_iff_eq, beq_eq_false_iff_ne, bne_eq_false_iff_eq, bne_iff_ne, bne_self_eq_false, beq_self_eq_true]
  repeat' apply And.intro
  all_goals first
    | exact True.intro
    | (with_reducible show _ = true; kernel_rfl)
    | (with_reducible exact rfl)
    | omega
    | rfl
theorem pS2y_B0N (ty : TypeId) (mr : Bool) (C : List S) (oo nk : Nat) (cc : Option Nat) (v tm m : Nat) (ty1 : TypeId) (f : Nat → OpV) (now i : Nat) (x : OpV) (c : Cq) (o : Nat) (h : c.ok) (hn : now < 2 ^ 64) (hq : c.q = []) (h7 : Int.tmod x.k 7 = 6) : Ex Try.prog 20 (sub [1, 0, 0, 1, 1, 1, 0] ((Try.f8.body.bind fstLoop).getD .skip)) (f9 (.s (.slc (some (0, oo)) nk cc)) v tm (.s (.slc (some (1, 0)) m none)) nilV nilV now i) 25 ([(24, some (opB x))] ++ coN c o) (One .normal (f9 (.s (.slc (some (0, oo)) nk cc)) v tm (.s (.slc (some (1, 0)) m none)) nilV nilV now i) 25 ([(24, some (opB x))] ++ coN (wrtq c now (v % 4) false) o)) := by
  have m4 : Int.tmod ((v : Nat) : Int) 4 = ((v % 4 : Nat) : Int) := rfl
  have g1 := writeData_N c now (v % 4) h hn hq
  have g2 := rwriteData_N c o now (v % 4) h hn hq
  refine Ex.stage hm [0, 1, 2, 3, 4, 5, 6, 7, 8, 9, 10, 11, 12, 13, 14, 15, 16, 17, 18, 19, 20, 21, 22, 23, 24] [1, 2, 3, 4, 11, 13, 14, 15, 16, 17, 18] rfl rfl ⟨[.num (Int.tmod x.k 7), .dec true, .num ((v % 4 : Nat) : Int), .call [2] [pC, n64 now, n8 (v % 4)] [(0, some (bN c))] (.tup []) 1 [(0, some (bN (wrtq c now (v % 4) false)))], .num ((v % 4 : Nat) : Int), .call [3] [pC, n64 now, n8 (v % 4)] [(0, some (bR c o nilS))] (.tup []) 1 [(0, some (bR (wrtq c now (v % 4) false) o nilS))]], _, _, _, _, _, rfl, ?_, rfl, ⟨rfl, rfl, rfl, trivial⟩⟩
  simp only [true_and, and_true, and_assoc, decide_eq_true_eq, decide_eq_false_iff_not, ne_eq, beq_iff_eq, beq_eq_false_iff_ne, bne_eq_false_iff_eq, bne_iff_ne, bne_self_eq_false, beq_self_eq_true]
  repeat' apply And.intro
  all_goals first
    | exact True.intro
    | exact ⟨g1, rfl, Fits.of rfl rfl ⟨⟨rfl, _, rfl, rfl, fun h => h⟩, trivial⟩⟩
    | exact ⟨g2, rfl, Fits.of rfl rfl ⟨⟨rfl, _, rfl, rfl, fun h => h⟩, trivial⟩⟩
    | (with_reducible show _ = true; kernel_rfl)
    | (with_reducible exact rfl)
    | omega
    | rfl
theorem pS3y_B0N (ty : TypeId) (mr : Bool) (C : List S) (oo nk : Nat) (cc : Option Nat) (v tm m : Nat) (ty1 : TypeId) (f : Nat → OpV) (now i : Nat) (x : OpV) (c : Cq) (o : Nat) (h : c.ok) (hq : c.q = []) (h5 : Int.tmod x.k 5 = 4) : Ex Try.prog 20 (sub [1, 0, 0, 1, 1, 1, 1, 0] ((Try.f8.body.bind fstLoop).getD .skip)) (f9 (.s (.slc (some (0, oo)) nk cc)) v tm (.s (.slc (some (1, 0)) m none)) nilV nilV now i) 25 ([(24, some (opB x))] ++ coN c o) (One .normal (f9 (.s (.slc (some (0, oo)) nk cc)) v tm (.s (.slc (some (1, 0)) m none)) nilV nilV now i) 25 ([(24, some (opB x))] ++ coQ ({ c with q := [(1 + v % 8)] } : Cq) o)) := by
  have m8 : Int.tmod ((v : Nat) : Int) 8 = ((v % 8 : Nat) : Int) := rfl
  have g1 := raise_N c (1 + v % 8) (by omega) hq
  have g2 := rraise_N c o (1 + v % 8) (by omega)
  refine Ex.stage hm [0, 1, 2, 3, 4, 5, 6, 7, 8, 9, 10, 11, 12, 13, 14, 15, 16, 17, 18, 19, 25, 26, 27, 28, 24] [1, 2, 3, 4, 11, 13, 14, 15, 16, 17, 18] rfl rfl ⟨[.num (Int.tmod x.k 5), .dec true, .num ((v % 8 : Nat) : Int), .num (((1 + v % 8) : Nat) : Int), .call [2] [pC, n8 (1 + v % 8)] [(0, some (bN c))] (errS 0) 3 [(0, some (bQ ({ c with q := [(1 + v % 8)] } : Cq) 1 2)), (1, some (qB [(1 + v % 8)] 2))], .num ((v % 8 : Nat) : Int), .num (((1 + v % 8) : Nat) : Int), .call [3] [pC, n8 (1 + v % 8)] [(0, some (bR c o nilS))] (errS 0) 3 [(0, some (bR ({ c with q := [(1 + v % 8)] } : Cq) o (.sla 1 2 1))), (1, some (qB [(1 + v % 8)] 2))], .dec false], _, _, _, _, _, rfl, ?_, rfl, ⟨rfl, rfl, rfl, rfl, rfl, trivial⟩⟩
  simp only [true_and, and_true, and_assoc, decide_eq_true_eq, decide_eq_false_iff_not, ne_eq, beq_iff_eq, beq_eq_false_iff_ne, bne_eq_false_iff_eq, bne_iff_ne, bne_self_eq_false, beq_self_eq_true]
  repeat' apply And.intro
  all_goals first
    | exact True.intro
    | exact ⟨g1, rfl, Fits.of rfl rfl ⟨⟨rfl, _, rfl, rfl, fun h => h⟩, trivial⟩⟩
    | exact ⟨g2, rfl, Fits.of rfl rfl ⟨⟨rfl, _, rfl, rfl, fun h => h⟩, trivial⟩⟩
    | exact xv v
    | (with_reducible show _ = true; kernel_rfl)
    | (with_reducible exact rfl)
    | omega
    | rfl
theorem pS2y_B0Q (ty : TypeId) (mr : Bool) (C : List S) (oo nk : Nat) (cc : Option Nat) (v tm m : Nat) (ty1 : TypeId) (f : Nat → OpV) (now i : Nat) (x : OpV) (c : Cq) (o : Nat) (h : c.ok) (hn : now < 2 ^ 64) (h7 : Int.tmod x.k 7 = 6) : Ex Try.prog 20 (sub [1, 0, 0, 1, 1, 1, 0] ((Try.f8.body.bind fstLoop).getD .skip)) (f9 (.s (.slc (some (0, oo)) nk cc)) v tm (.s (.slc (some (1, 0)) m none)) nilV nilV now i) 25 ([(24, some (opB x))] ++ coQ c o) (One .normal (f9 (.s (.slc (some (0, oo)) nk cc)) v tm (.s (.slc (some (1, 0)) m none)) nilV nilV now i) 25 ([(24, some (opB x))] ++ coQ (wrtq c now (v % 4) false) o)) := by
  have m4 : Int.tmod ((v : Nat) : Int) 4 = ((v % 4 : Nat) : Int) := rfl
  have g1 := writeData_Q c now (v % 4) h hn
  have g2 := rwriteData_Q c o now (v % 4) h hn
  refine Ex.stage hm [0, 1, 2, 3, 4, 5, 6, 7, 8, 9, 10, 11, 12, 13, 14, 15, 16, 17, 18, 19, 25, 26, 27, 28, 24] [1, 2, 3, 4, 11, 13, 14, 15, 16, 17, 18] rfl rfl ⟨[.num (Int.tmod x.k 7), .dec true, .num ((v % 4 : Nat) : Int), .call [2, 20, 21] [pC, n64 now, n8 (v % 4)] (sQ c) (.tup []) 5 (eQ (wrtq c now (v % 4) false)), .num ((v % 4 : Nat) : Int), .call [3, 22, 23] [pC, n64 now, n8 (v % 4)] (sR c o) (.tup []) 5 (eR (wrtq c now (v % 4) false) o)], _, _, _, _, _, rfl, ?_, rfl, ⟨rfl, rfl, rfl, rfl, rfl, trivial⟩⟩
  simp only [true_and, and_true, and_assoc, decide_eq_true_eq, decide_eq_false_iff_not, ne_eq, beq_iff_eq, beq_eq_false_iff_ne, bne_eq_false_iff_eq, bne_iff_ne, bne_self_eq_false, beq_self_eq_true]
  repeat' apply And.intro
  all_goals first
    | exact True.intro
    | exact ⟨g1, rfl, Fits.of rfl rfl ⟨⟨rfl, _, rfl, rfl, fun h => h⟩, ⟨rfl, _, rfl, rfl, fun h => h⟩, trivial⟩⟩
    | exact ⟨g2, rfl, Fits.of rfl rfl ⟨⟨rfl, _, rfl, rfl, fun h => h⟩, ⟨rfl, _, rfl, rfl, fun h => h⟩, trivial⟩⟩
    | (with_reducible show _ = true; kernel_rfl)
    | (with_reducible exact rfl)
    | omega
    | rfl
theorem pS3y_B0Q (ty : TypeId) (mr : Bool) (C : List S) (oo nk : Nat) (cc : Option Nat) (v tm m : Nat) (ty1 : TypeId) (f : Nat → OpV) (now i : Nat) (x : OpV) (c : Cq) (o : Nat) (h : c.ok) (h5 : Int.tmod x.k 5 = 4) : Ex Try.prog 20 (sub [1, 0, 0, 1, 1, 1, 1, 0] ((Try.f8.body.bind fstLoop).getD .skip)) (f9 (.s (.slc (some (0, oo)) nk cc)) v tm (.s (.slc (some (1, 0)) m none)) nilV nilV now i) 25 ([(24, some (opB x))] ++ coQ c o) (One .normal (f9 (.s (.slc (some (0, oo)) nk cc)) v tm (.s (.slc (some (1, 0)) m none)) nilV nilV now i) 25 ([(24, some (opB x))] ++ coQ (raiq c (1 + v % 8)) o)) := by
  have m8 : Int.tmod ((v : Nat) : Int) 8 = ((v % 8 : Nat) : Int) := rfl
  have g1 := raise_Q c (1 + v % 8) h.ql
  have g2 := rraise_Q c o (1 + v % 8) h.ql
  refine Ex.stage hm [0, 1, 2, 3, 4, 5, 6, 7, 8, 9, 10, 11, 12, 13, 14, 15, 16, 17, 18, 19, 25, 26, 27, 28, 24] [1, 2, 3, 4, 11, 13, 14, 15, 16, 17, 18] rfl rfl ⟨[.num (Int.tmod x.k 5), .dec true, .num ((v % 8 : Nat) : Int), .num (((1 + v % 8) : Nat) : Int), .call [2, 20, 21] [pC, n8 (1 + v % 8)] (sQ c) (errS (raiE c (1 + v % 8))) 5 (eQ (raiq c (1 + v % 8))), .num ((v % 8 : Nat) : Int), .num (((1 + v % 8) : Nat) : Int), .call [3, 22, 23] [pC, n8 (1 + v % 8)] (sR c o) (errS (raiE c (1 + v % 8))) 5 (eR (raiq c (1 + v % 8)) o), .dec false], _, _, _, _, _, rfl, ?_, rfl, ⟨rfl, rfl, rfl, rfl, rfl, trivial⟩⟩
  simp only [true_and, and_true, and_assoc, decide_eq_true_eq, decide_eq_false_iff_not, ne_eq, beq_iff_eq, beq_eq_false_iff_ne, bne_eq_false_iff_eq, bne_iff_ne, bne_self_eq_false, beq_self_eq_true]
  repeat' apply And.intro
  all_goals first
    | exact True.intro
    | exact ⟨g1, rfl, Fits.of rfl rfl ⟨⟨rfl, _, rfl, rfl, fun h => h⟩, ⟨rfl, _, rfl, rfl, fun h => h⟩, trivial⟩⟩
    | exact ⟨g2, rfl, Fits.of rfl rfl ⟨⟨rfl, _, rfl, rfl, fun h => h⟩, ⟨rfl, _, rfl, rfl, fun h => h⟩, trivial⟩⟩
    | exact xv v
    | (with_reducible show _ = true; kernel_rfl)
    | (with_reducible exact rfl)
    | omega
    | rfl
theorem pS4n_B0 (ty : TypeId) (mr : Bool) (C : List S) (oo nk : Nat) (cc : Option Nat) (v tm m : Nat) (ty1 : TypeId) (f : Nat → OpV) (now i : Nat) (x : OpV)  : Ex Try.prog 25 (sub [1, 0, 0, 1, 1, 1, 1, 1] ((Try.f8.body.bind fstLoop).getD .skip)) (f9 (.s (.slc (some (0, oo)) nk cc)) v tm (.s (.slc (some (1, 0)) m none)) nilV nilV now i) 25 ([]) (One .normal (f9 (.s (.slc (some (0, oo)) nk cc)) v tm (.s (.slc (some (1, 0)) m none)) nilV nilV now i) 25 ([])) := by
  refine Ex.stage hm [0, 1, 2, 3, 4, 5, 6, 7, 8, 9, 10, 11, 12, 13, 14, 15, 16, 17, 18, 19, 20, 21, 22, 23, 24] [1, 2, 3, 4, 11, 13, 14, 15, 16, 17, 18] rfl rfl ⟨[.dec false], _, _, _, _, _, rfl, ?_, rfl, trivial⟩
  simp only [true_and, and_true, and_assoc, decide_eq_true_eq, decide_eq_false_iff_not, ne_eq, beq_iff_eq, beq_eq_false_iff_ne, bne_eq_false_iff_eq, bne_iff_ne, bne_self_eq_false, beq_self_eq_true]
  repeat' apply And.intro
  all_goals first
    | exact True.intro
    | (with_reducible show _ = true; kernel_rfl)
    | (with_reducible exact rfl)
    | omega
    | rfl
theorem pA_B1 (ty : TypeId) (mr : Bool) (C : List S) (oo nk : Nat) (cc : Option Nat) (z : Nat) (v tm m : Nat) (ty1 : TypeId) (f : Nat → OpV) (now i : Nat) (x : OpV) (hi : i < m) (h8 : i < 80) : Ex Try.prog 24 (sub [0] ((Try.f8.body.bind fstLoop).getD .skip)) (e9 (.s (.slc (some (0, oo)) nk cc)) v tm (.s (.slc (some (1, 0)) m none)) (va (z + 1)) (vb (z + 1)) now i) 24 ([]) (One .normal (e9 (.s (.slc (some (0, oo)) nk cc)) v tm (.s (.slc (some (1, 0)) m none)) (va (z + 1)) (vb (z + 1)) now i) 24 ([])) := by
  refine Ex.stage hm [0, 1, 2, 3, 4, 5, 6, 7, 8, 9, 10, 11, 12, 13, 14, 15, 16, 17, 18, 19, 20, 21, 22, 23] [1, 2, 3, 4, 11, 13, 14, 15, 16, 17] rfl rfl ⟨[.dec true, .dec true], _, _, _, _, _, rfl, ?_, rfl, trivial⟩
  simp only [true_and, and_true, and_assoc, decide_eq_true_eq, decide_eq_false_iff_not, ne_eq, beq_iff_eq, beq_eq_false_iff_ne, bne_eq_false_iff_eq, bne_iff_ne, bne_self_eq_false, beq_self_eq_true]
  repeat' apply And.intro
  all_goals first
    | exact True.intro
    | exact xa hi
    | exact xb h8
    | (with_reducible show _ = true; kernel_rfl)
    | (with_reducible exact rfl)
    | omega
    | rfl
theorem pX1_B1 (ty : TypeId) (mr : Bool) (C : List S) (oo nk : Nat) (cc : Option Nat) (z : Nat) (v tm m : Nat) (ty1 : TypeId) (f : Nat → OpV) (now i : Nat) (x : OpV) (hi : ¬ i < m) : Ex Try.prog 24 (sub [0] ((Try.f8.body.bind fstLoop).getD .skip)) (e9 (.s (.slc (some (0, oo)) nk cc)) v tm (.s (.slc (some (1, 0)) m none)) (va (z + 1)) (vb (z + 1)) now i) 24 ([]) (One (.exit 0) (e9 (.s (.slc (some (0, oo)) nk cc)) v tm (.s (.slc (some (1, 0)) m none)) (va (z + 1)) (vb (z + 1)) now i) 24 ([])) := by
  refine Ex.stage hm [0, 1, 2, 3, 4, 5, 6, 7, 8, 9, 10, 11, 12, 13, 14, 15, 16, 17, 18, 19, 20, 21, 22, 23] [1, 2, 3, 4, 11, 13, 14, 15, 16, 17] rfl rfl ⟨[.dec false], _, _, _, _, _, rfl, ?_, rfl, trivial⟩
  simp only [true_and, and_true, and_assoc, decide_eq_true_eq, decide_eq_false_iff_not, ne_eq, beq_iff_eq, beq_eq_false_iff_ne, bne_eq_false_iff_eq, bne_iff_ne, bne_self_eq_false, beq_self_eq_true]
  repeat' apply And.intro
  all_goals first
    | exact True.intro
    | (with_reducible show _ = true; kernel_rfl)
    | (with_reducible exact rfl)
    | omega
    | rfl
theorem pX2_B1 (ty : TypeId) (mr : Bool) (C : List S) (oo nk : Nat) (cc : Option Nat) (z : Nat) (v tm m : Nat) (ty1 : TypeId) (f : Nat → OpV) (now i : Nat) (x : OpV) (hi : i < m) (h8 : ¬ i < 80) : Ex Try.prog 24 (sub [0] ((Try.f8.body.bind fstLoop).getD .skip)) (e9 (.s (.slc (some (0, oo)) nk cc)) v tm (.s (.slc (some (1, 0)) m none)) (va (z + 1)) (vb (z + 1)) now i) 24 ([]) (One (.exit 0) (e9 (.s (.slc (some (0, oo)) nk cc)) v tm (.s (.slc (some (1, 0)) m none)) (va (z + 1)) (vb (z + 1)) now i) 24 ([])) := by
  refine Ex.stage hm [0, 1, 2, 3, 4, 5, 6, 7, 8, 9, 10, 11, 12, 13, 14, 15, 16, 17, 18, 19, 20, 21, 22, 23] [1, 2, 3, 4, 11, 13, 14, 15, 16, 17] rfl rfl ⟨[.dec true, .dec false], _, _, _, _, _, rfl, ?_, rfl, trivial⟩
  simp only [true_and, and_true, and_assoc, decide_eq_true_eq, decide_eq_false_iff_not, ne_eq, beq_iff_eq, beq_eq_false_iff_ne, bne_eq_false_iff_eq, bne_iff_ne, bne_self_eq_false, beq_self_eq_true]
  repeat' apply And.intro
  all_goals first
    | exact True.intro
    | exact xa hi
    | (with_reducible show _ = true; kernel_rfl)
    | (with_reducible exact rfl)
    | omega
    | rfl
theorem pR12_B1 (ty : TypeId) (mr : Bool) (C : List S) (oo nk : Nat) (cc : Option Nat) (z : Nat) (v tm m : Nat) (ty1 : TypeId) (f : Nat → OpV) (now i : Nat) (x : OpV) (hi : i < m) (hx : f i = x) : Ex Try.prog 24 (sub [1, 0, 0, 0] ((Try.f8.body.bind fstLoop).getD .skip)) (e9 (.s (.slc (some (0, oo)) nk cc)) v tm (.s (.slc (some (1, 0)) m none)) (va (z + 1)) (vb (z + 1)) now i) 24 ([(0, some (bRb ty mr C)), (1, some (bOp ty1 f m))]) (One .normal (f9 (.s (.slc (some (0, oo)) nk cc)) v tm (.s (.slc (some (1, 0)) m none)) (va (z + 1)) (vb (z + 1)) now i) 25 ([(0, some (bRb ty mr C)), (1, some (bOp ty1 f m))] ++ [(24, some (opB x))])) := by
  have hop : ldAt true 4 (bOp ty1 f m) (plus 0 (times i 4)) = some (.agg x.c) := by rw [← hx]; exact op_ld ty1 f m hi
  refine Ex.stage hm [0, 1, 2, 3, 4, 5, 6, 7, 8, 9, 10, 11, 12, 13, 14, 15, 16, 17, 18, 19, 20, 21, 22, 23, 24] [1, 2, 3, 4, 11, 13, 14, 15, 16, 17, 18] rfl rfl ⟨[.idx i, .val (.agg x.c)], _, _, _, _, _, rfl, ?_, rfl, ⟨rfl, rfl, rfl, trivial⟩⟩
  simp only [true_and, and_true, and_assoc, decide_eq_true_eq, decide_eq_false_iff_not, ne_eq, beq_iff_eq, beq_eq_false_iff_ne, bne_eq_false_iff_eq, bne_iff_ne, bne_self_eq_false, beq_self_eq_true]
  repeat' apply And.intro
  all_goals first
    | exact True.intro
    | exact hop
    | exact xa hi
    | (with_reducible show _ = true; kernel_rfl)
    | (with_reducible exact rfl)
    | omega
    | rfl
theorem pR13_B1 (ty : TypeId) (mr : Bool) (C : List S) (oo nk : Nat) (cc : Option Nat) (z : Nat) (v tm m : Nat) (ty1 : TypeId) (f : Nat → OpV) (now i : Nat) (x : OpV) (ht : now + x.p % 3 < 2 ^ 64) : Ex Try.prog 24 (sub [1, 0, 0, 1, 0] ((Try.f8.body.bind fstLoop).getD .skip)) (f9 (.s (.slc (some (0, oo)) nk cc)) v tm (.s (.slc (some (1, 0)) m none)) (va (z + 1)) (vb (z + 1)) now i) 25 ([(24, some (opB x))]) (One .normal (f9 (.s (.slc (some (0, oo)) nk cc)) v tm (.s (.slc (some (1, 0)) m none)) (va (z + 1)) (vb (z + 1)) (now + x.p % 3) i) 25 ([(24, some (opB x))])) := by
  have m3 : Int.tmod ((x.p : Nat) : Int) 3 = ((x.p % 3 : Nat) : Int) := rfl
  refine Ex.stage hm [0, 1, 2, 3, 4, 5, 6, 7, 8, 9, 10, 11, 12, 13, 14, 15, 16, 17, 18, 19, 20, 21, 22, 23, 24] [1, 2, 3, 4, 11, 13, 14, 15, 16, 17, 18] rfl rfl ⟨[.num ((x.p % 3 : Nat) : Int), .num ((now + x.p % 3 : Nat) : Int)], _, _, _, _, _, rfl, ?_, rfl, ⟨rfl, trivial⟩⟩
  simp only [true_and, and_true, and_assoc, decide_eq_true_eq, decide_eq_false_iff_not, ne_eq, beq_iff_eq, beq_eq_false_iff_ne, bne_eq_false_iff_eq, bne_iff_ne, bne_self_eq_false, beq_self_eq_true]
  repeat' apply And.intro
  all_goals first
    | exact True.intro
    | exact xc ht
    | (with_reducible show _ = true; kernel_rfl)
    | (with_reducible exact rfl)
    | omega
    | rfl
theorem pR11_B1 (ty : TypeId) (mr : Bool) (C : List S) (oo nk : Nat) (cc : Option Nat) (z : Nat) (v tm m : Nat) (ty1 : TypeId) (f : Nat → OpV) (now i : Nat) (x : OpV) (h8 : i < 80) : Ex Try.prog 24 (sub [1, 1] ((Try.f8.body.bind fstLoop).getD .skip)) (f9 (.s (.slc (some (0, oo)) nk cc)) v tm (.s (.slc (some (1, 0)) m none)) (va (z + 1)) (vb (z + 1)) now i) 25 ([(24, some (opB x))]) (One .normal (e9 (.s (.slc (some (0, oo)) nk cc)) v tm (.s (.slc (some (1, 0)) m none)) (va (z + 1)) (vb (z + 1)) now (i + 1)) 24 ([])) := by
  refine Ex.stage hm [0, 1, 2, 3, 4, 5, 6, 7, 8, 9, 10, 11, 12, 13, 14, 15, 16, 17, 18, 19, 20, 21, 22, 23] [1, 2, 3, 4, 11, 13, 14, 15, 16, 17] rfl rfl ⟨[.num ((i + 1 : Nat) : Int)], _, _, _, _, _, rfl, ?_, rfl, trivial⟩
  simp only [true_and, and_true, and_assoc, decide_eq_true_eq, decide_eq_false_iff_not, ne_eq, beq_iff_eq, beq_eq_false_iff_ne, bne_eq_false_iff_eq, bne_iff_ne, bne_self_eq_false, beq_self_eq_true]
  repeat' apply And.intro
  all_goals first
    | exact True.intro
    | exact xd h8
    | (with_reducible show _ = true; kernel_rfl)
    | (with_reducible exact rfl)
    | omega
    | rfl
theorem pS1a_B1 (ty : TypeId) (mr : Bool) (C : List S) (oo nk : Nat) (cc : Option Nat) (z : Nat) (v tm m : Nat) (ty1 : TypeId) (f : Nat → OpV) (now i : Nat) (x : OpV) (hk : ¬ i < nk) : Ex Try.prog 25 (sub [1, 0, 0, 1, 1, 0] ((Try.f8.body.bind fstLoop).getD .skip)) (f9 (.s (.slc (some (0, oo)) nk cc)) v tm (.s (.slc (some (1, 0)) m none)) (va (z + 1)) (vb (z + 1)) now i) 25 ([]) (One .normal (f9 (.s (.slc (some (0, oo)) nk cc)) v tm (.s (.slc (some (1, 0)) m none)) (va (z + 1)) (vb (z + 1)) now i) 25 ([])) := by
  refine Ex.stage hm [0, 1, 2, 3, 4, 5, 6, 7, 8, 9, 10, 11, 12, 13, 14, 15, 16, 17, 18, 19, 20, 21, 22, 23, 24] [1, 2, 3, 4, 11, 13, 14, 15, 16, 17, 18] rfl rfl ⟨[.dec false], _, _, _, _, _, rfl, ?_, rfl, trivial⟩
  simp only [true_and, and_true, and_assoc, decide_eq_true_eq, decide_eq_false_iff_not, ne_eq, beq_iff_eq, beq_eq_false_iff_ne, bne_eq_false_iff_eq, bne_iff_ne, bne_self_eq_false, beq_self_eq_true]
  repeat' apply And.intro
  all_goals first
    | exact True.intro
    | (with_reducible show _ = true; kernel_rfl)
    | (with_reducible exact rfl)
    | omega
    | rfl
theorem pS1b_B1 (ty : TypeId) (mr : Bool) (C : List S) (oo nk : Nat) (cc : Option Nat) (z : Nat) (v tm m : Nat) (ty1 : TypeId) (f : Nat → OpV) (now i : Nat) (x : OpV) (kd : Nat) (hk : i < nk) (hld : ldAt false 1 (bRb ty mr C) (plus oo i) = some (.s (.int .u8 ((kd : Nat) : Int)))) (h3 : kd % 3 ≠ 0) : Ex Try.prog 25 (sub [1, 0, 0, 1, 1, 0] ((Try.f8.body.bind fstLoop).getD .skip)) (f9 (.s (.slc (some (0, oo)) nk cc)) v tm (.s (.slc (some (1, 0)) m none)) (va (z + 1)) (vb (z + 1)) now i) 25 ([(0, some (bRb ty mr C)), (1, some (bOp ty1 f m))]) (One .normal (f9 (.s (.slc (some (0, oo)) nk cc)) v tm (.s (.slc (some (1, 0)) m none)) (va (z + 1)) (vb (z + 1)) now i) 25 ([(0, some (bRb ty mr C)), (1, some (bOp ty1 f m))])) := by
  have m3 : Int.tmod ((kd : Nat) : Int) 3 = ((kd % 3 : Nat) : Int) := rfl
  refine Ex.stage hm [0, 1, 2, 3, 4, 5, 6, 7, 8, 9, 10, 11, 12, 13, 14, 15, 16, 17, 18, 19, 20, 21, 22, 23, 24] [1, 2, 3, 4, 11, 13, 14, 15, 16, 17, 18] rfl rfl ⟨[.dec true, .idx i, .val (n8 kd), .num ((kd % 3 : Nat) : Int), .dec false], _, _, _, _, _, rfl, ?_, rfl, ⟨rfl, rfl, trivial⟩⟩
  simp only [true_and, and_true, and_assoc, decide_eq_true_eq, decide_eq_false_iff_not, ne_eq, beq_iff_eq, beq_eq_false_iff_ne, bne_eq_false_iff_eq, bne_iff_ne, bne_self_eq_false, beq_self_eq_true]
  repeat' apply And.intro
  all_goals first
    | exact True.intro
    | exact hld
    | exact xa hk
    | (with_reducible show _ = true; kernel_rfl)
    | (with_reducible exact rfl)
    | omega
    | rfl
theorem pS1c_B1 (ty : TypeId) (mr : Bool) (C : List S) (oo nk : Nat) (cc : Option Nat) (z : Nat) (v tm m : Nat) (ty1 : TypeId) (f : Nat → OpV) (now i : Nat) (x : OpV) (kd : Nat) (hk : i < nk) (hld : ldAt false 1 (bRb ty mr C) (plus oo i) = some (.s (.int .u8 ((kd : Nat) : Int)))) (h3 : kd % 3 = 0) (hz : 6 ≤ z + 1) : Ex Try.prog 25 (sub [1, 0, 0, 1, 1, 0] ((Try.f8.body.bind fstLoop).getD .skip)) (f9 (.s (.slc (some (0, oo)) nk cc)) v tm (.s (.slc (some (1, 0)) m none)) (va (z + 1)) (vb (z + 1)) now i) 25 ([(0, some (bRb ty mr C)), (1, some (bOp ty1 f m))]) (One .normal (f9 (.s (.slc (some (0, oo)) nk cc)) v tm (.s (.slc (some (1, 0)) m none)) (va (z + 1)) (vb (z + 1)) now i) 25 ([(0, some (bRb ty mr C)), (1, some (bOp ty1 f m))])) := by
  have m3 : Int.tmod ((kd : Nat) : Int) 3 = ((kd % 3 : Nat) : Int) := rfl
  refine Ex.stage hm [0, 1, 2, 3, 4, 5, 6, 7, 8, 9, 10, 11, 12, 13, 14, 15, 16, 17, 18, 19, 20, 21, 22, 23, 24] [1, 2, 3, 4, 11, 13, 14, 15, 16, 17, 18] rfl rfl ⟨[.dec true, .idx i, .val (n8 kd), .num ((kd % 3 : Nat) : Int), .dec true, .dec false], _, _, _, _, _, rfl, ?_, rfl, ⟨rfl, rfl, trivial⟩⟩
  simp only [true_and, and_true, and_assoc, decide_eq_true_eq, decide_eq_false_iff_not, ne_eq, beq_iff_eq, beq_eq_false_iff_ne, bne_eq_false_iff_eq, bne_iff_ne, bne_self_eq_false, beq_self_eq_true]
  repeat' apply And.intro
  all_goals first
    | exact True.intro
    | exact hld
    | exact xa hk
    | (with_reducible show _ = true; kernel_rfl)
    | (with_reducible exact rfl)
    | omega
    | rfl
theorem pS2n_B1 (ty : TypeId) (mr : Bool) (C : List S) (oo nk : Nat) (cc : Option Nat) (z : Nat) (v tm m : Nat) (ty1 : TypeId) (f : Nat → OpV) (now i : Nat) (x : OpV) (h7 : Int.tmod x.k 7 ≠ 6) : Ex Try.prog 24 (sub [1, 0, 0, 1, 1, 1, 0] ((Try.f8.body.bind fstLoop).getD .skip)) (f9 (.s (.slc (some (0, oo)) nk cc)) v tm (.s (.slc (some (1, 0)) m none)) (va (z + 1)) (vb (z + 1)) now i) 25 ([(24, some (opB x))]) (One .normal (f9 (.s (.slc (some (0, oo)) nk cc)) v tm (.s (.slc (some (1, 0)) m none)) (va (z + 1)) (vb (z + 1)) now i) 25 ([(24, some (opB x))])) := by
  refine Ex.stage hm [0, 1, 2, 3, 4, 5, 6, 7, 8, 9, 10, 11, 12, 13, 14, 15, 16, 17, 18, 19, 20, 21, 22, 23, 24] [1, 2, 3, 4, 11, 13, 14, 15, 16, 17, 18] rfl rfl ⟨[.num (Int.tmod x.k 7), .dec false], _, _, _, _, _, rfl, ?_, rfl, ⟨rfl, trivial⟩⟩
  simp only [true_and, and_true, and_assoc, decide_eq_true_eq, decide_eq_false_iff_not, ne_eq, beq_iff_eq, beq_eq_false_iff_ne, bne_eq_false_iff_eq, bne_iff_ne, bne_self_eq_false, beq_self_eq_true]
  repeat' apply And.intro
  all_goals first
    | exact True.intro
    | (with_reducible show _ = true; kernel_rfl)
    | (with_reducible exact rfl)
    | omega
    | rfl
theorem pS3n_B1 (ty : TypeId) (mr : Bool) (C : List S) (oo nk : Nat) (cc : Option Nat) (z : Nat) (v tm m : Nat) (ty1 : TypeId) (f : Nat → OpV) (now i : Nat) (x : OpV) (h5 : Int.tmod x.k 5 ≠ 4) : Ex Try.prog 24 (sub [1, 0, 0, 1, 1, 1, 1, 0] ((Try.f8.body.bind fstLoop).getD .skip)) (f9 (.s (.slc (some (0, oo)) nk cc)) v tm (.s (.slc (some (1, 0)) m none)) (va (z + 1)) (vb (z + 1)) now i) 25 ([(24, some (opB x))]) (One .normal (f9 (.s (.slc (some (0, oo)) nk cc)) v tm (.s (.slc (some (1, 0)) m none)) (va (z + 1)) (vb (z + 1)) now i) 25 ([(24, some (opB x))])) := by
  refine Ex.stage hm [0, 1, 2, 3, 4, 5, 6, 7, 8, 9, 10, 11, 12, 13, 14, 15, 16, 17, 18, 19, 20, 21, 22, 23, 24] [1, 2, 3, 4, 11, 13, 14, 15, 16, 17, 18] rfl rfl ⟨[.num (Int.tmod x.k 5), .dec false], _, _, _, _, _, rfl, ?_, rfl, ⟨rfl, trivial⟩⟩
  simp only [true_and, and_true, and_assoc, decide_eq_true_eq, decide_eq_false_iff_not, ne_eq, beq_iff_eq, beq_eq_false_iff_ne, bne_eq_false_iff_eq, bne_iff_ne, bne_self_eq_false, beq_self_eq_true]
  repeat' apply And.intro
  all_goals first
    | exact True.intro
    | (with_reducible show _ = true; kernel_rfl)
    | (with_reducible exact rfl)
    | omega
    | rfl
theorem pS2y_B1N (ty : TypeId) (mr : Bool) (C : List S) (oo nk : Nat) (cc : Option Nat) (z : Nat) (v tm m : Nat) (ty1 : TypeId) (f : Nat → OpV) (now i : Nat) (x : OpV) (c : Cq) (o : Nat) (h : c.ok) (hn : now < 2 ^ 64) (hq : c.q = []) (h7 : Int.tmod x.k 7 = 6) : Ex Try.prog 20 (sub [1, 0, 0, 1, 1, 1, 0] ((Try.f8.body.bind fstLoop).getD .skip)) (f9 (.s (.slc (some (0, oo)) nk cc)) v tm (.s (.slc (some (1, 0)) m none)) (va (z + 1)) (vb (z + 1)) now i) 25 ([(24, some (opB x))] ++ coN c o) (One .normal (f9 (.s (.slc (some (0, oo)) nk cc)) v tm (.s (.slc (some (1, 0)) m none)) (va (z + 1)) (vb (z + 1)) now i) 25 ([(24, some (opB x))] ++ coN (wrtq c now (v % 4) false) o)) := by
  have m4 : Int.tmod ((v : Nat) : Int) 4 = ((v % 4 : Nat) : Int) := rfl
  have g1 := writeData_N c now (v % 4) h hn hq
  have g2 := rwriteData_N c o now (v % 4) h hn hq
  refine Ex.stage hm [0, 1, 2, 3, 4, 5, 6, 7, 8, 9, 10, 11, 12, 13, 14, 15, 16, 17, 18, 19, 20, 21, 22, 23, 24] [1, 2, 3, 4, 11, 13, 14, 15, 16, 17, 18] rfl rfl ⟨[.num (Int.tmod x.k 7), .dec true, .num ((v % 4 : Nat) : Int), .call [2] [pC, n64 now, n8 (v % 4)] [(0, some (bN c))] (.tup []) 1 [(0, some (bN (wrtq c now (v % 4) false)))], .num ((v % 4 : Nat) : Int), .call [3] [pC, n64 now, n8 (v % 4)] [(0, some (bR c o nilS))] (.tup []) 1 [(0, some (bR (wrtq c now (v % 4) false) o nilS))]], _, _, _, _, _, rfl, ?_, rfl, ⟨rfl, rfl, rfl, trivial⟩⟩
  simp only [true_and, and_true, and_assoc, decide_eq_true_eq, decide_eq_false_iff_not, ne_eq, beq_iff_eq, beq_eq_false_iff_ne, bne_eq_false_iff_eq, bne_iff_ne, bne_self_eq_false, beq_self_eq_true]
  repeat' apply And.intro
  all_goals first
    | exact True.intro
    | exact ⟨g1, rfl, Fits.of rfl rfl ⟨⟨rfl, _, rfl, rfl, fun h => h⟩, trivial⟩⟩
    | exact ⟨g2, rfl, Fits.of rfl rfl ⟨⟨rfl, _, rfl, rfl, fun h => h⟩, trivial⟩⟩
    | (with_reducible show _ = true; kernel_rfl)
    | (with_reducible exact rfl)
    | omega
    | rfl
theorem pS3y_B1N (ty : TypeId) (mr : Bool) (C : List S) (oo nk : Nat) (cc : Option Nat) (z : Nat) (v tm m : Nat) (ty1 : TypeId) (f : Nat → OpV) (now i : Nat) (x : OpV) (c : Cq) (o : Nat) (h : c.ok) (hq : c.q = []) (h5 : Int.tmod x.k 5 = 4) : Ex Try.prog 20 (sub [1, 0, 0, 1, 1, 1, 1, 0] ((Try.f8.body.bind fstLoop).getD .skip)) (f9 (.s (.slc (some (0, oo)) nk cc)) v tm (.s (.slc (some (1, 0)) m none)) (va (z + 1)) (vb (z + 1)) now i) 25 ([(24, some (opB x))] ++ coN c o) (One .normal (f9 (.s (.slc (some (0, oo)) nk cc)) v tm (.s (.slc (some (1, 0)) m none)) (va (z + 1)) (vb (z + 1)) now i) 25 ([(24, some (opB x))] ++ coQ ({ c with q := [(1 + v % 8)] } : Cq) o)) := by
  have m8 : Int.tmod ((v : Nat) : Int) 8 = ((v % 8 : Nat) : Int) := rfl
  have g1 := raise_N c (1 + v % 8) (by omega) hq
  have g2 := rraise_N c o (1 + v % 8) (by omega)
  refine Ex.stage hm [0, 1, 2, 3, 4, 5, 6, 7, 8, 9, 10, 11, 12, 13, 14, 15, 16, 17, 18, 19, 25, 26, 27, 28, 24] [1, 2, 3, 4, 11, 13, 14, 15, 16, 17, 18] rfl rfl ⟨[.num (Int.tmod x.k 5), .dec true, .num ((v % 8 : Nat) : Int), .num (((1 + v % 8) : Nat) : Int), .call [2] [pC, n8 (1 + v % 8)] [(0, some (bN c))] (errS 0) 3 [(0, some (bQ ({ c with q := [(1 + v % 8)] } : Cq) 1 2)), (1, some (qB [(1 + v % 8)] 2))], .num ((v % 8 : Nat) : Int), .num (((1 + v % 8) : Nat) : Int), .call [3] [pC, n8 (1 + v % 8)] [(0, some (bR c o nilS))] (errS 0) 3 [(0, some (bR ({ c with q := [(1 + v % 8)] } : Cq) o (.sla 1 2 1))), (1, some (qB [(1 + v % 8)] 2))], .dec false], _, _, _, _, _, rfl, ?_, rfl, ⟨rfl, rfl, rfl, rfl, rfl, trivial⟩⟩
  simp only [true_and, and_true, and_assoc, decide_eq_true_eq, decide_eq_false_iff_not, ne_eq, beq_iff_eq, beq_eq_false_iff_ne, bne_eq_false_iff_eq, bne_iff_ne, bne_self_eq_false, beq_self_eq_true]
  repeat' apply And.intro
  all_goals first
    | exact True.intro
    | exact ⟨g1, rfl, Fits.of rfl rfl ⟨⟨rfl, _, rfl, rfl, fun h => h⟩, trivial⟩⟩
    | exact ⟨g2, rfl, Fits.of rfl rfl ⟨⟨rfl, _, rfl, rfl, fun h => h⟩, trivial⟩⟩
    | exact xv v
    | (with_reducible show _ = true; kernel_rfl)
    | (with_reducible exact rfl)
    | omega
    | rfl
theorem pS2y_B1Q (ty : TypeId) (mr : Bool) (C : List S) (oo nk : Nat) (cc : Option Nat) (z : Nat) (v tm m : Nat) (ty1 : TypeId) (f : Nat → OpV) (now i : Nat) (x : OpV) (c : Cq) (o : Nat) (h : c.ok) (hn : now < 2 ^ 64) (h7 : Int.tmod x.k 7 = 6) : Ex Try.prog 20 (sub [1, 0, 0, 1, 1, 1, 0] ((Try.f8.body.bind fstLoop).getD .skip)) (f9 (.s (.slc (some (0, oo)) nk cc)) v tm (.s (.slc (some (1, 0)) m none)) (va (z + 1)) (vb (z + 1)) now i) 25 ([(24, some (opB x))] ++ coQ c o) (One .normal (f9 (.s (.slc (some (0, oo)) nk cc)) v tm (.s (.slc (some (1, 0)) m none)) (va (z + 1)) (vb (z + 1)) now i) 25 ([(24, some (opB x))] ++ coQ (wrtq c now (v % 4) false) o)) := by
  have m4 : Int.tmod ((v : Nat) : Int) 4 = ((v % 4 : Nat) : Int) := rfl
  have g1 := writeData_Q c now (v % 4) h hn
  have g2 := rwriteData_Q c o now (v % 4) h hn
  refine Ex.stage hm [0, 1, 2, 3, 4, 5, 6, 7, 8, 9, 10, 11, 12, 13, 14, 15, 16, 17, 18, 19, 25, 26, 27, 28, 24] [1, 2, 3, 4, 11, 13, 14, 15, 16, 17, 18] rfl rfl ⟨[.num (Int.tmod x.k 7), .dec true, .num ((v % 4 : Nat) : Int), .call [2, 20, 21] [pC, n64 now, n8 (v % 4)] (sQ c) (.tup []) 5 (eQ (wrtq c now (v % 4) false)), .num ((v % 4 : Nat) : Int), .call [3, 22, 23] [pC, n64 now, n8 (v % 4)] (sR c o) (.tup []) 5 (eR (wrtq c now (v % 4) false) o)], _, _, _, _, _, rfl, ?_, rfl, ⟨rfl, rfl, rfl, rfl, rfl, trivial⟩⟩
  simp only [true_and, and_true, and_assoc, decide_eq_true_eq, decide_eq_false_iff_not, ne_eq, beq_iff_eq, beq_eq_false_iff_ne, bne_eq_false_iff_eq, bne_iff_ne, bne_self_eq_false, beq_self_eq_true]
  repeat' apply And.intro
  all_goals first
    | exact True.intro
    | exact ⟨g1, rfl, Fits.of rfl rfl ⟨⟨rfl, _, rfl, rfl, fun h => h⟩, ⟨rfl, _, rfl, rfl, fun h => h⟩, trivial⟩⟩
    | exact ⟨g2, rfl, Fits.of rfl rfl ⟨⟨rfl, _, rfl, rfl, fun h => h⟩, ⟨rfl, _, rfl, rfl, fun h => h⟩, trivial⟩⟩
    | (with_reducible show _ = true; kernel_rfl)
    | (with_reducible exact rfl)
    | omega
    | rfl
theorem pS3y_B1Q (ty : TypeId) (mr : Bool) (C : List S) (oo nk : Nat) (cc : Option Nat) (z : Nat) (v tm m : Nat) (ty1 : TypeId) (f : Nat → OpV) (now i : Nat) (x : OpV) (c : Cq) (o : Nat) (h : c.ok) (h5 : Int.tmod x.k 5 = 4) : Ex Try.prog 20 (sub [1, 0, 0, 1, 1, 1, 1, 0] ((Try.f8.body.bind fstLoop).getD .skip)) (f9 (.s (.slc (some (0, oo)) nk cc)) v tm (.s (.slc (some (1, 0)) m none)) (va (z + 1)) (vb (z + 1)) now i) 25 ([(24, some (opB x))] ++ coQ c o) (One .normal (f9 (.s (.slc (some (0, oo)) nk cc)) v tm (.s (.slc (some (1, 0)) m none)) (va (z + 1)) (vb (z + 1)) now i) 25 ([(24, some (opB x))] ++ coQ (raiq c (1 + v % 8)) o)) := by
  have m8 : Int.tmod ((v : Nat) : Int) 8 = ((v % 8 : Nat) : Int) := rfl
  have g1 := raise_Q c (1 + v % 8) h.ql
  have g2 := rraise_Q c o (1 + v % 8) h.ql
  refine Ex.stage hm [0, 1, 2, 3, 4, 5, 6, 7, 8, 9, 10, 11, 12, 13, 14, 15, 16, 17, 18, 19, 25, 26, 27, 28, 24] [1, 2, 3, 4, 11, 13, 14, 15, 16, 17, 18] rfl rfl ⟨[.num (Int.tmod x.k 5), .dec true, .num ((v % 8 : Nat) : Int), .num (((1 + v % 8) : Nat) : Int), .call [2, 20, 21] [pC, n8 (1 + v % 8)] (sQ c) (errS (raiE c (1 + v % 8))) 5 (eQ (raiq c (1 + v % 8))), .num ((v % 8 : Nat) : Int), .num (((1 + v % 8) : Nat) : Int), .call [3, 22, 23] [pC, n8 (1 + v % 8)] (sR c o) (errS (raiE c (1 + v % 8))) 5 (eR (raiq c (1 + v % 8)) o), .dec false], _, _, _, _, _, rfl, ?_, rfl, ⟨rfl, rfl, rfl, rfl, rfl, trivial⟩⟩
  simp only [true_and, and_true, and_assoc, decide_eq_true_eq, decide_eq_false_iff_not, ne_eq, beq_iff_eq, beq_eq_false_iff_ne, bne_eq_false_iff_eq, bne_iff_ne, bne_self_eq_false, beq_self_eq_true]
  repeat' apply And.intro
  all_goals first
    | exact True.intro
    | exact ⟨g1, rfl, Fits.of rfl rfl ⟨⟨rfl, _, rfl, rfl, fun h => h⟩, ⟨rfl, _, rfl, rfl, fun h => h⟩, trivial⟩⟩
    | exact ⟨g2, rfl, Fits.of rfl rfl ⟨⟨rfl, _, rfl, rfl, fun h => h⟩, ⟨rfl, _, rfl, rfl, fun h => h⟩, trivial⟩⟩
    | exact xv v
    | (with_reducible show _ = true; kernel_rfl)
    | (with_reducible exact rfl)
    | omega
    | rfl

end Go.Proofs.Ytimebhllnemnbaa
