/-
  EcTransactionsMatchModel: steps.
-/
import Derived.Test.YtimebhllnemnbaaRc
set_option linter.unusedSimpArgs false
set_option linter.unusedVariables false
namespace Go.Proofs.Ytimebhllnemnbaa
open Go Ab
set_option maxRecDepth 100000

theorem spQ1_0 (ty : TypeId) (mr : Bool) (C : List S) (oo nk : Nat) (cc : Option Nat) (v tm m : Nat) (ty1 : TypeId) (f : Nat → OpV) (now i : Nat) (x : OpV) (c : Cq) (o : Nat) (x0 : Tx) (t' : Tr) (c' : Cq) (o' pe' : Nat) (hk : modM x.k 1 = 0)
    (g1 : SC Try.prog 13 [pT, pC1, n64 now] 4 (sTQ x0.t c) (.tup [.s (.int .u8 ((outR t' : Nat) : Int)), .s (.bool (outD t')), .s (.int .i64 ((outE t' : Nat) : Int))]) 6 (eTQ t' c')) (g2 : SC Try.prog 36 [pT, pC1, n64 now] 4 (sUQ x0.t x0.st x0.tm (phU x0.t x0.pe) (erU x0.t) c o) (.tup [.s (.int .u8 ((outR t' : Nat) : Int)), .s (.bool (outD t')), .s (.int .i64 ((outE t' : Nat) : Int))]) 6 (eUQ t' x0.st x0.tm (phU t' pe') (erU t') c' o')) :
    Ex Try.prog 2 (sub [1, 0, 0, 1, 1, 1, 1, 1] ((Try.f8.body.bind fstLoop).getD .skip)) (f9 (.s (.slc (some (0, oo)) nk cc)) v tm (.s (.slc (some (1, 0)) m none)) (va 1) (vb 1) now i) 25 ([(0, some (bRb ty mr C)), (1, some (bOp ty1 f m))] ++ ([(24, some (opB x))] ++ coQ c o) ++ TH [x0]) (One .normal (f9 (.s (.slc (some (0, oo)) nk cc)) v tm (.s (.slc (some (1, 0)) m none)) (va 1) (vb 1) now i) 25 ([(0, some (bRb ty mr C)), (1, some (bOp ty1 f m))] ++ ([(24, some (opB x))] ++ coQ c' o') ++ TH [⟨t', pe', x0.st, x0.tm⟩])) := by
  have gm := mod_s x.k 1 (by decide) (by decide)
  rw [hk] at gm
  refine Ex.stage hm [0, 1, 2, 3, 4, 5, 6, 7, 8, 9, 10, 11, 12, 13, 14, 15, 16, 17, 18, 19, 25, 26, 27, 28, 24] [1, 2, 3, 4, 11, 13, 14, 15, 16, 17, 18] rfl rfl ⟨[.dec true, .call [] [.s (.int .i64 x.k), .s (.int .i64 ((1 : Nat) : Int))] [] (.s (.int .i64 ((0 : Nat) : Int))) 0 [], .idx 0, .call [8, 2, 20, 21] [pT, pC1, n64 now] (sTQ x0.t c) (.tup [.s (.int .u8 ((outR t' : Nat) : Int)), .s (.bool (outD t')), .s (.int .i64 ((outE t' : Nat) : Int))]) 6 (eTQ t' c'), .idx 0, .call [14, 3, 22, 23] [pT, pC1, n64 now] (sUQ x0.t x0.st x0.tm (phU x0.t x0.pe) (erU x0.t) c o) (.tup [.s (.int .u8 ((outR t' : Nat) : Int)), .s (.bool (outD t')), .s (.int .i64 ((outE t' : Nat) : Int))]) 6 (eUQ t' x0.st x0.tm (phU t' pe') (erU t') c' o'), .dec false, .dec false, .dec false], _, _, _, _, _, rfl, ?_, rfl, ⟨rfl, rfl, rfl, rfl, rfl, rfl, rfl, rfl, rfl, rfl, rfl, trivial⟩⟩
  simp only [true_and, and_true, and_assoc, decide_eq_true_eq, decide_eq_false_iff_not, ne_eq, beq_iff_eq, beq_eq_false_iff_ne, bne_eq_false_iff_eq, bne_iff_ne, bne_self_eq_false, beq_self_eq_true]
  repeat' apply And.intro
  all_goals first
    | exact True.intro
    | exact call0 gm rfl
    | exact ⟨g1, rfl, Fits.of rfl rfl ⟨⟨rfl, _, rfl, rfl, fun h => h⟩, ⟨rfl, _, rfl, rfl, fun h => h⟩, ⟨rfl, _, rfl, rfl, fun h => h⟩, trivial⟩⟩
    | exact ⟨g2, rfl, Fits.of rfl rfl ⟨⟨rfl, _, rfl, rfl, fun h => h⟩, ⟨rfl, _, rfl, rfl, fun h => h⟩, ⟨rfl, _, rfl, rfl, fun h => h⟩, trivial⟩⟩
    | (with_reducible show _ = true; kernel_rfl)
    | (with_reducible exact rfl)
    | decide
    | omega
    | rfl
    | exact bne_self_eq_false' _
theorem spQ2_0 (ty : TypeId) (mr : Bool) (C : List S) (oo nk : Nat) (cc : Option Nat) (v tm m : Nat) (ty1 : TypeId) (f : Nat → OpV) (now i : Nat) (x : OpV) (c : Cq) (o : Nat) (x0 x1 : Tx) (t' : Tr) (c' : Cq) (o' pe' : Nat) (hk : modM x.k 2 = 0)
    (g1 : SC Try.prog 13 [pT, pC1, n64 now] 4 (sTQ x0.t c) (.tup [.s (.int .u8 ((outR t' : Nat) : Int)), .s (.bool (outD t')), .s (.int .i64 ((outE t' : Nat) : Int))]) 6 (eTQ t' c')) (g2 : SC Try.prog 36 [pT, pC1, n64 now] 4 (sUQ x0.t x0.st x0.tm (phU x0.t x0.pe) (erU x0.t) c o) (.tup [.s (.int .u8 ((outR t' : Nat) : Int)), .s (.bool (outD t')), .s (.int .i64 ((outE t' : Nat) : Int))]) 6 (eUQ t' x0.st x0.tm (phU t' pe') (erU t') c' o')) :
    Ex Try.prog 2 (sub [1, 0, 0, 1, 1, 1, 1, 1] ((Try.f8.body.bind fstLoop).getD .skip)) (f9 (.s (.slc (some (0, oo)) nk cc)) v tm (.s (.slc (some (1, 0)) m none)) (va 2) (vb 2) now i) 25 ([(0, some (bRb ty mr C)), (1, some (bOp ty1 f m))] ++ ([(24, some (opB x))] ++ coQ c o) ++ TH [x0, x1]) (One .normal (f9 (.s (.slc (some (0, oo)) nk cc)) v tm (.s (.slc (some (1, 0)) m none)) (va 2) (vb 2) now i) 25 ([(0, some (bRb ty mr C)), (1, some (bOp ty1 f m))] ++ ([(24, some (opB x))] ++ coQ c' o') ++ TH [⟨t', pe', x0.st, x0.tm⟩, x1])) := by
  have gm := mod_s x.k 2 (by decide) (by decide)
  rw [hk] at gm
  refine Ex.stage hm [0, 1, 2, 3, 4, 5, 6, 7, 8, 9, 10, 11, 12, 13, 14, 15, 16, 17, 18, 19, 25, 26, 27, 28, 24] [1, 2, 3, 4, 11, 13, 14, 15, 16, 17, 18] rfl rfl ⟨[.dec true, .call [] [.s (.int .i64 x.k), .s (.int .i64 ((2 : Nat) : Int))] [] (.s (.int .i64 ((0 : Nat) : Int))) 0 [], .idx 0, .call [8, 2, 20, 21] [pT, pC1, n64 now] (sTQ x0.t c) (.tup [.s (.int .u8 ((outR t' : Nat) : Int)), .s (.bool (outD t')), .s (.int .i64 ((outE t' : Nat) : Int))]) 6 (eTQ t' c'), .idx 0, .call [14, 3, 22, 23] [pT, pC1, n64 now] (sUQ x0.t x0.st x0.tm (phU x0.t x0.pe) (erU x0.t) c o) (.tup [.s (.int .u8 ((outR t' : Nat) : Int)), .s (.bool (outD t')), .s (.int .i64 ((outE t' : Nat) : Int))]) 6 (eUQ t' x0.st x0.tm (phU t' pe') (erU t') c' o'), .dec false, .dec false, .dec false], _, _, _, _, _, rfl, ?_, rfl, ⟨rfl, rfl, rfl, rfl, rfl, rfl, rfl, rfl, rfl, rfl, rfl, rfl, rfl, trivial⟩⟩
  simp only [true_and, and_true, and_assoc, decide_eq_true_eq, decide_eq_false_iff_not, ne_eq, beq_iff_eq, beq_eq_false_iff_ne, bne_eq_false_iff_eq, bne_iff_ne, bne_self_eq_false, beq_self_eq_true]
  repeat' apply And.intro
  all_goals first
    | exact True.intro
    | exact call0 gm rfl
    | exact ⟨g1, rfl, Fits.of rfl rfl ⟨⟨rfl, _, rfl, rfl, fun h => h⟩, ⟨rfl, _, rfl, rfl, fun h => h⟩, ⟨rfl, _, rfl, rfl, fun h => h⟩, trivial⟩⟩
    | exact ⟨g2, rfl, Fits.of rfl rfl ⟨⟨rfl, _, rfl, rfl, fun h => h⟩, ⟨rfl, _, rfl, rfl, fun h => h⟩, ⟨rfl, _, rfl, rfl, fun h => h⟩, trivial⟩⟩
    | (with_reducible show _ = true; kernel_rfl)
    | (with_reducible exact rfl)
    | decide
    | omega
    | rfl
    | exact bne_self_eq_false' _
theorem spQ2_1 (ty : TypeId) (mr : Bool) (C : List S) (oo nk : Nat) (cc : Option Nat) (v tm m : Nat) (ty1 : TypeId) (f : Nat → OpV) (now i : Nat) (x : OpV) (c : Cq) (o : Nat) (x0 x1 : Tx) (t' : Tr) (c' : Cq) (o' pe' : Nat) (hk : modM x.k 2 = 1)
    (g1 : SC Try.prog 13 [pT, pC1, n64 now] 4 (sTQ x1.t c) (.tup [.s (.int .u8 ((outR t' : Nat) : Int)), .s (.bool (outD t')), .s (.int .i64 ((outE t' : Nat) : Int))]) 6 (eTQ t' c')) (g2 : SC Try.prog 36 [pT, pC1, n64 now] 4 (sUQ x1.t x1.st x1.tm (phU x1.t x1.pe) (erU x1.t) c o) (.tup [.s (.int .u8 ((outR t' : Nat) : Int)), .s (.bool (outD t')), .s (.int .i64 ((outE t' : Nat) : Int))]) 6 (eUQ t' x1.st x1.tm (phU t' pe') (erU t') c' o')) :
    Ex Try.prog 2 (sub [1, 0, 0, 1, 1, 1, 1, 1] ((Try.f8.body.bind fstLoop).getD .skip)) (f9 (.s (.slc (some (0, oo)) nk cc)) v tm (.s (.slc (some (1, 0)) m none)) (va 2) (vb 2) now i) 25 ([(0, some (bRb ty mr C)), (1, some (bOp ty1 f m))] ++ ([(24, some (opB x))] ++ coQ c o) ++ TH [x0, x1]) (One .normal (f9 (.s (.slc (some (0, oo)) nk cc)) v tm (.s (.slc (some (1, 0)) m none)) (va 2) (vb 2) now i) 25 ([(0, some (bRb ty mr C)), (1, some (bOp ty1 f m))] ++ ([(24, some (opB x))] ++ coQ c' o') ++ TH [x0, ⟨t', pe', x1.st, x1.tm⟩])) := by
  have gm := mod_s x.k 2 (by decide) (by decide)
  rw [hk] at gm
  refine Ex.stage hm [0, 1, 2, 3, 4, 5, 6, 7, 8, 9, 10, 11, 12, 13, 14, 15, 16, 17, 18, 19, 25, 26, 27, 28, 24] [1, 2, 3, 4, 11, 13, 14, 15, 16, 17, 18] rfl rfl ⟨[.dec true, .call [] [.s (.int .i64 x.k), .s (.int .i64 ((2 : Nat) : Int))] [] (.s (.int .i64 ((1 : Nat) : Int))) 0 [], .idx 1, .call [9, 2, 20, 21] [pT, pC1, n64 now] (sTQ x1.t c) (.tup [.s (.int .u8 ((outR t' : Nat) : Int)), .s (.bool (outD t')), .s (.int .i64 ((outE t' : Nat) : Int))]) 6 (eTQ t' c'), .idx 1, .call [15, 3, 22, 23] [pT, pC1, n64 now] (sUQ x1.t x1.st x1.tm (phU x1.t x1.pe) (erU x1.t) c o) (.tup [.s (.int .u8 ((outR t' : Nat) : Int)), .s (.bool (outD t')), .s (.int .i64 ((outE t' : Nat) : Int))]) 6 (eUQ t' x1.st x1.tm (phU t' pe') (erU t') c' o'), .dec false, .dec false, .dec false], _, _, _, _, _, rfl, ?_, rfl, ⟨rfl, rfl, rfl, rfl, rfl, rfl, rfl, rfl, rfl, rfl, rfl, rfl, rfl, trivial⟩⟩
  simp only [true_and, and_true, and_assoc, decide_eq_true_eq, decide_eq_false_iff_not, ne_eq, beq_iff_eq, beq_eq_false_iff_ne, bne_eq_false_iff_eq, bne_iff_ne, bne_self_eq_false, beq_self_eq_true]
  repeat' apply And.intro
  all_goals first
    | exact True.intro
    | exact call0 gm rfl
    | exact ⟨g1, rfl, Fits.of rfl rfl ⟨⟨rfl, _, rfl, rfl, fun h => h⟩, ⟨rfl, _, rfl, rfl, fun h => h⟩, ⟨rfl, _, rfl, rfl, fun h => h⟩, trivial⟩⟩
    | exact ⟨g2, rfl, Fits.of rfl rfl ⟨⟨rfl, _, rfl, rfl, fun h => h⟩, ⟨rfl, _, rfl, rfl, fun h => h⟩, ⟨rfl, _, rfl, rfl, fun h => h⟩, trivial⟩⟩
    | (with_reducible show _ = true; kernel_rfl)
    | (with_reducible exact rfl)
    | decide
    | omega
    | rfl
    | exact bne_self_eq_false' _
theorem spQ3_0 (ty : TypeId) (mr : Bool) (C : List S) (oo nk : Nat) (cc : Option Nat) (v tm m : Nat) (ty1 : TypeId) (f : Nat → OpV) (now i : Nat) (x : OpV) (c : Cq) (o : Nat) (x0 x1 x2 : Tx) (t' : Tr) (c' : Cq) (o' pe' : Nat) (hk : modM x.k 3 = 0)
    (g1 : SC Try.prog 13 [pT, pC1, n64 now] 4 (sTQ x0.t c) (.tup [.s (.int .u8 ((outR t' : Nat) : Int)), .s (.bool (outD t')), .s (.int .i64 ((outE t' : Nat) : Int))]) 6 (eTQ t' c')) (g2 : SC Try.prog 36 [pT, pC1, n64 now] 4 (sUQ x0.t x0.st x0.tm (phU x0.t x0.pe) (erU x0.t) c o) (.tup [.s (.int .u8 ((outR t' : Nat) : Int)), .s (.bool (outD t')), .s (.int .i64 ((outE t' : Nat) : Int))]) 6 (eUQ t' x0.st x0.tm (phU t' pe') (erU t') c' o')) :
    Ex Try.prog 2 (sub [1, 0, 0, 1, 1, 1, 1, 1] ((Try.f8.body.bind fstLoop).getD .skip)) (f9 (.s (.slc (some (0, oo)) nk cc)) v tm (.s (.slc (some (1, 0)) m none)) (va 3) (vb 3) now i) 25 ([(0, some (bRb ty mr C)), (1, some (bOp ty1 f m))] ++ ([(24, some (opB x))] ++ coQ c o) ++ TH [x0, x1, x2]) (One .normal (f9 (.s (.slc (some (0, oo)) nk cc)) v tm (.s (.slc (some (1, 0)) m none)) (va 3) (vb 3) now i) 25 ([(0, some (bRb ty mr C)), (1, some (bOp ty1 f m))] ++ ([(24, some (opB x))] ++ coQ c' o') ++ TH [⟨t', pe', x0.st, x0.tm⟩, x1, x2])) := by
  have gm := mod_s x.k 3 (by decide) (by decide)
  rw [hk] at gm
  refine Ex.stage hm [0, 1, 2, 3, 4, 5, 6, 7, 8, 9, 10, 11, 12, 13, 14, 15, 16, 17, 18, 19, 25, 26, 27, 28, 24] [1, 2, 3, 4, 11, 13, 14, 15, 16, 17, 18] rfl rfl ⟨[.dec true, .call [] [.s (.int .i64 x.k), .s (.int .i64 ((3 : Nat) : Int))] [] (.s (.int .i64 ((0 : Nat) : Int))) 0 [], .idx 0, .call [8, 2, 20, 21] [pT, pC1, n64 now] (sTQ x0.t c) (.tup [.s (.int .u8 ((outR t' : Nat) : Int)), .s (.bool (outD t')), .s (.int .i64 ((outE t' : Nat) : Int))]) 6 (eTQ t' c'), .idx 0, .call [14, 3, 22, 23] [pT, pC1, n64 now] (sUQ x0.t x0.st x0.tm (phU x0.t x0.pe) (erU x0.t) c o) (.tup [.s (.int .u8 ((outR t' : Nat) : Int)), .s (.bool (outD t')), .s (.int .i64 ((outE t' : Nat) : Int))]) 6 (eUQ t' x0.st x0.tm (phU t' pe') (erU t') c' o'), .dec false, .dec false, .dec false], _, _, _, _, _, rfl, ?_, rfl, ⟨rfl, rfl, rfl, rfl, rfl, rfl, rfl, rfl, rfl, rfl, rfl, rfl, rfl, rfl, rfl, trivial⟩⟩
  simp only [true_and, and_true, and_assoc, decide_eq_true_eq, decide_eq_false_iff_not, ne_eq, beq_iff_eq, beq_eq_false_iff_ne, bne_eq_false_iff_eq, bne_iff_ne, bne_self_eq_false, beq_self_eq_true]
  repeat' apply And.intro
  all_goals first
    | exact True.intro
    | exact call0 gm rfl
    | exact ⟨g1, rfl, Fits.of rfl rfl ⟨⟨rfl, _, rfl, rfl, fun h => h⟩, ⟨rfl, _, rfl, rfl, fun h => h⟩, ⟨rfl, _, rfl, rfl, fun h => h⟩, trivial⟩⟩
    | exact ⟨g2, rfl, Fits.of rfl rfl ⟨⟨rfl, _, rfl, rfl, fun h => h⟩, ⟨rfl, _, rfl, rfl, fun h => h⟩, ⟨rfl, _, rfl, rfl, fun h => h⟩, trivial⟩⟩
    | (with_reducible show _ = true; kernel_rfl)
    | (with_reducible exact rfl)
    | decide
    | omega
    | rfl
    | exact bne_self_eq_false' _
theorem spQ3_1 (ty : TypeId) (mr : Bool) (C : List S) (oo nk : Nat) (cc : Option Nat) (v tm m : Nat) (ty1 : TypeId) (f : Nat → OpV) (now i : Nat) (x : OpV) (c : Cq) (o : Nat) (x0 x1 x2 : Tx) (t' : Tr) (c' : Cq) (o' pe' : Nat) (hk : modM x.k 3 = 1)
    (g1 : SC Try.prog 13 [pT, pC1, n64 now] 4 (sTQ x1.t c) (.tup [.s (.int .u8 ((outR t' : Nat) : Int)), .s (.bool (outD t')), .s (.int .i64 ((outE t' : Nat) : Int))]) 6 (eTQ t' c')) (g2 : SC Try.prog 36 [pT, pC1, n64 now] 4 (sUQ x1.t x1.st x1.tm (phU x1.t x1.pe) (erU x1.t) c o) (.tup [.s (.int .u8 ((outR t' : Nat) : Int)), .s (.bool (outD t')), .s (.int .i64 ((outE t' : Nat) : Int))]) 6 (eUQ t' x1.st x1.tm (phU t' pe') (erU t') c' o')) :
    Ex Try.prog 2 (sub [1, 0, 0, 1, 1, 1, 1, 1] ((Try.f8.body.bind fstLoop).getD .skip)) (f9 (.s (.slc (some (0, oo)) nk cc)) v tm (.s (.slc (some (1, 0)) m none)) (va 3) (vb 3) now i) 25 ([(0, some (bRb ty mr C)), (1, some (bOp ty1 f m))] ++ ([(24, some (opB x))] ++ coQ c o) ++ TH [x0, x1, x2]) (One .normal (f9 (.s (.slc (some (0, oo)) nk cc)) v tm (.s (.slc (some (1, 0)) m none)) (va 3) (vb 3) now i) 25 ([(0, some (bRb ty mr C)), (1, some (bOp ty1 f m))] ++ ([(24, some (opB x))] ++ coQ c' o') ++ TH [x0, ⟨t', pe', x1.st, x1.tm⟩, x2])) := by
  have gm := mod_s x.k 3 (by decide) (by decide)
  rw [hk] at gm
  refine Ex.stage hm [0, 1, 2, 3, 4, 5, 6, 7, 8, 9, 10, 11, 12, 13, 14, 15, 16, 17, 18, 19, 25, 26, 27, 28, 24] [1, 2, 3, 4, 11, 13, 14, 15, 16, 17, 18] rfl rfl ⟨[.dec true, .call [] [.s (.int .i64 x.k), .s (.int .i64 ((3 : Nat) : Int))] [] (.s (.int .i64 ((1 : Nat) : Int))) 0 [], .idx 1, .call [9, 2, 20, 21] [pT, pC1, n64 now] (sTQ x1.t c) (.tup [.s (.int .u8 ((outR t' : Nat) : Int)), .s (.bool (outD t')), .s (.int .i64 ((outE t' : Nat) : Int))]) 6 (eTQ t' c'), .idx 1, .call [15, 3, 22, 23] [pT, pC1, n64 now] (sUQ x1.t x1.st x1.tm (phU x1.t x1.pe) (erU x1.t) c o) (.tup [.s (.int .u8 ((outR t' : Nat) : Int)), .s (.bool (outD t')), .s (.int .i64 ((outE t' : Nat) : Int))]) 6 (eUQ t' x1.st x1.tm (phU t' pe') (erU t') c' o'), .dec false, .dec false, .dec false], _, _, _, _, _, rfl, ?_, rfl, ⟨rfl, rfl, rfl, rfl, rfl, rfl, rfl, rfl, rfl, rfl, rfl, rfl, rfl, rfl, rfl, trivial⟩⟩
  simp only [true_and, and_true, and_assoc, decide_eq_true_eq, decide_eq_false_iff_not, ne_eq, beq_iff_eq, beq_eq_false_iff_ne, bne_eq_false_iff_eq, bne_iff_ne, bne_self_eq_false, beq_self_eq_true]
  repeat' apply And.intro
  all_goals first
    | exact True.intro
    | exact call0 gm rfl
    | exact ⟨g1, rfl, Fits.of rfl rfl ⟨⟨rfl, _, rfl, rfl, fun h => h⟩, ⟨rfl, _, rfl, rfl, fun h => h⟩, ⟨rfl, _, rfl, rfl, fun h => h⟩, trivial⟩⟩
    | exact ⟨g2, rfl, Fits.of rfl rfl ⟨⟨rfl, _, rfl, rfl, fun h => h⟩, ⟨rfl, _, rfl, rfl, fun h => h⟩, ⟨rfl, _, rfl, rfl, fun h => h⟩, trivial⟩⟩
    | (with_reducible show _ = true; kernel_rfl)
    | (with_reducible exact rfl)
    | decide
    | omega
    | rfl
    | exact bne_self_eq_false' _
theorem spQ3_2 (ty : TypeId) (mr : Bool) (C : List S) (oo nk : Nat) (cc : Option Nat) (v tm m : Nat) (ty1 : TypeId) (f : Nat → OpV) (now i : Nat) (x : OpV) (c : Cq) (o : Nat) (x0 x1 x2 : Tx) (t' : Tr) (c' : Cq) (o' pe' : Nat) (hk : modM x.k 3 = 2)
    (g1 : SC Try.prog 13 [pT, pC1, n64 now] 4 (sTQ x2.t c) (.tup [.s (.int .u8 ((outR t' : Nat) : Int)), .s (.bool (outD t')), .s (.int .i64 ((outE t' : Nat) : Int))]) 6 (eTQ t' c')) (g2 : SC Try.prog 36 [pT, pC1, n64 now] 4 (sUQ x2.t x2.st x2.tm (phU x2.t x2.pe) (erU x2.t) c o) (.tup [.s (.int .u8 ((outR t' : Nat) : Int)), .s (.bool (outD t')), .s (.int .i64 ((outE t' : Nat) : Int))]) 6 (eUQ t' x2.st x2.tm (phU t' pe') (erU t') c' o')) :
    Ex Try.prog 2 (sub [1, 0, 0, 1, 1, 1, 1, 1] ((Try.f8.body.bind fstLoop).getD .skip)) (f9 (.s (.slc (some (0, oo)) nk cc)) v tm (.s (.slc (some (1, 0)) m none)) (va 3) (vb 3) now i) 25 ([(0, some (bRb ty mr C)), (1, some (bOp ty1 f m))] ++ ([(24, some (opB x))] ++ coQ c o) ++ TH [x0, x1, x2]) (One .normal (f9 (.s (.slc (some (0, oo)) nk cc)) v tm (.s (.slc (some (1, 0)) m none)) (va 3) (vb 3) now i) 25 ([(0, some (bRb ty mr C)), (1, some (bOp ty1 f m))] ++ ([(24, some (opB x))] ++ coQ c' o') ++ TH [x0, x1, ⟨t', pe', x2.st, x2.tm⟩])) := by
  have gm := mod_s x.k 3 (by decide) (by decide)
  rw [hk] at gm
  refine Ex.stage hm [0, 1, 2, 3, 4, 5, 6, 7, 8, 9, 10, 11, 12, 13, 14, 15, 16, 17, 18, 19, 25, 26, 27, 28, 24] [1, 2, 3, 4, 11, 13, 14, 15, 16, 17, 18] rfl rfl ⟨[.dec true, .call [] [.s (.int .i64 x.k), .s (.int .i64 ((3 : Nat) : Int))] [] (.s (.int .i64 ((2 : Nat) : Int))) 0 [], .idx 2, .call [10, 2, 20, 21] [pT, pC1, n64 now] (sTQ x2.t c) (.tup [.s (.int .u8 ((outR t' : Nat) : Int)), .s (.bool (outD t')), .s (.int .i64 ((outE t' : Nat) : Int))]) 6 (eTQ t' c'), .idx 2, .call [16, 3, 22, 23] [pT, pC1, n64 now] (sUQ x2.t x2.st x2.tm (phU x2.t x2.pe) (erU x2.t) c o) (.tup [.s (.int .u8 ((outR t' : Nat) : Int)), .s (.bool (outD t')), .s (.int .i64 ((outE t' : Nat) : Int))]) 6 (eUQ t' x2.st x2.tm (phU t' pe') (erU t') c' o'), .dec false, .dec false, .dec false], _, _, _, _, _, rfl, ?_, rfl, ⟨rfl, rfl, rfl, rfl, rfl, rfl, rfl, rfl, rfl, rfl, rfl, rfl, rfl, rfl, rfl, trivial⟩⟩
  simp only [true_and, and_true, and_assoc, decide_eq_true_eq, decide_eq_false_iff_not, ne_eq, beq_iff_eq, beq_eq_false_iff_ne, bne_eq_false_iff_eq, bne_iff_ne, bne_self_eq_false, beq_self_eq_true]
  repeat' apply And.intro
  all_goals first
    | exact True.intro
    | exact call0 gm rfl
    | exact ⟨g1, rfl, Fits.of rfl rfl ⟨⟨rfl, _, rfl, rfl, fun h => h⟩, ⟨rfl, _, rfl, rfl, fun h => h⟩, ⟨rfl, _, rfl, rfl, fun h => h⟩, trivial⟩⟩
    | exact ⟨g2, rfl, Fits.of rfl rfl ⟨⟨rfl, _, rfl, rfl, fun h => h⟩, ⟨rfl, _, rfl, rfl, fun h => h⟩, ⟨rfl, _, rfl, rfl, fun h => h⟩, trivial⟩⟩
    | (with_reducible show _ = true; kernel_rfl)
    | (with_reducible exact rfl)
    | decide
    | omega
    | rfl
    | exact bne_self_eq_false' _
theorem spQ4_0 (ty : TypeId) (mr : Bool) (C : List S) (oo nk : Nat) (cc : Option Nat) (v tm m : Nat) (ty1 : TypeId) (f : Nat → OpV) (now i : Nat) (x : OpV) (c : Cq) (o : Nat) (x0 x1 x2 x3 : Tx) (t' : Tr) (c' : Cq) (o' pe' : Nat) (hk : modM x.k 4 = 0)
    (g1 : SC Try.prog 13 [pT, pC1, n64 now] 4 (sTQ x0.t c) (.tup [.s (.int .u8 ((outR t' : Nat) : Int)), .s (.bool (outD t')), .s (.int .i64 ((outE t' : Nat) : Int))]) 6 (eTQ t' c')) (g2 : SC Try.prog 36 [pT, pC1, n64 now] 4 (sUQ x0.t x0.st x0.tm (phU x0.t x0.pe) (erU x0.t) c o) (.tup [.s (.int .u8 ((outR t' : Nat) : Int)), .s (.bool (outD t')), .s (.int .i64 ((outE t' : Nat) : Int))]) 6 (eUQ t' x0.st x0.tm (phU t' pe') (erU t') c' o')) :
    Ex Try.prog 2 (sub [1, 0, 0, 1, 1, 1, 1, 1] ((Try.f8.body.bind fstLoop).getD .skip)) (f9 (.s (.slc (some (0, oo)) nk cc)) v tm (.s (.slc (some (1, 0)) m none)) (va 4) (vb 4) now i) 25 ([(0, some (bRb ty mr C)), (1, some (bOp ty1 f m))] ++ ([(24, some (opB x))] ++ coQ c o) ++ TH [x0, x1, x2, x3]) (One .normal (f9 (.s (.slc (some (0, oo)) nk cc)) v tm (.s (.slc (some (1, 0)) m none)) (va 4) (vb 4) now i) 25 ([(0, some (bRb ty mr C)), (1, some (bOp ty1 f m))] ++ ([(24, some (opB x))] ++ coQ c' o') ++ TH [⟨t', pe', x0.st, x0.tm⟩, x1, x2, x3])) := by
  have gm := mod_s x.k 4 (by decide) (by decide)
  rw [hk] at gm
  refine Ex.stage hm [0, 1, 2, 3, 4, 5, 6, 7, 8, 9, 10, 11, 12, 13, 14, 15, 16, 17, 18, 19, 25, 26, 27, 28, 24] [1, 2, 3, 4, 11, 13, 14, 15, 16, 17, 18] rfl rfl ⟨[.dec true, .call [] [.s (.int .i64 x.k), .s (.int .i64 ((4 : Nat) : Int))] [] (.s (.int .i64 ((0 : Nat) : Int))) 0 [], .idx 0, .call [8, 2, 20, 21] [pT, pC1, n64 now] (sTQ x0.t c) (.tup [.s (.int .u8 ((outR t' : Nat) : Int)), .s (.bool (outD t')), .s (.int .i64 ((outE t' : Nat) : Int))]) 6 (eTQ t' c'), .idx 0, .call [14, 3, 22, 23] [pT, pC1, n64 now] (sUQ x0.t x0.st x0.tm (phU x0.t x0.pe) (erU x0.t) c o) (.tup [.s (.int .u8 ((outR t' : Nat) : Int)), .s (.bool (outD t')), .s (.int .i64 ((outE t' : Nat) : Int))]) 6 (eUQ t' x0.st x0.tm (phU t' pe') (erU t') c' o'), .dec false, .dec false, .dec false], _, _, _, _, _, rfl, ?_, rfl, ⟨rfl, rfl, rfl, rfl, rfl, rfl, rfl, rfl, rfl, rfl, rfl, rfl, rfl, rfl, rfl, rfl, rfl, trivial⟩⟩
  simp only [true_and, and_true, and_assoc, decide_eq_true_eq, decide_eq_false_iff_not, ne_eq, beq_iff_eq, beq_eq_false_iff_ne, bne_eq_false_iff_eq, bne_iff_ne, bne_self_eq_false, beq_self_eq_true]
  repeat' apply And.intro
  all_goals first
    | exact True.intro
    | exact call0 gm rfl
    | exact ⟨g1, rfl, Fits.of rfl rfl ⟨⟨rfl, _, rfl, rfl, fun h => h⟩, ⟨rfl, _, rfl, rfl, fun h => h⟩, ⟨rfl, _, rfl, rfl, fun h => h⟩, trivial⟩⟩
    | exact ⟨g2, rfl, Fits.of rfl rfl ⟨⟨rfl, _, rfl, rfl, fun h => h⟩, ⟨rfl, _, rfl, rfl, fun h => h⟩, ⟨rfl, _, rfl, rfl, fun h => h⟩, trivial⟩⟩
    | (with_reducible show _ = true; kernel_rfl)
    | (with_reducible exact rfl)
    | decide
    | omega
    | rfl
    | exact bne_self_eq_false' _
theorem spQ4_1 (ty : TypeId) (mr : Bool) (C : List S) (oo nk : Nat) (cc : Option Nat) (v tm m : Nat) (ty1 : TypeId) (f : Nat → OpV) (now i : Nat) (x : OpV) (c : Cq) (o : Nat) (x0 x1 x2 x3 : Tx) (t' : Tr) (c' : Cq) (o' pe' : Nat) (hk : modM x.k 4 = 1)
    (g1 : SC Try.prog 13 [pT, pC1, n64 now] 4 (sTQ x1.t c) (.tup [.s (.int .u8 ((outR t' : Nat) : Int)), .s (.bool (outD t')), .s (.int .i64 ((outE t' : Nat) : Int))]) 6 (eTQ t' c')) (g2 : SC Try.prog 36 [pT, pC1, n64 now] 4 (sUQ x1.t x1.st x1.tm (phU x1.t x1.pe) (erU x1.t) c o) (.tup [.s (.int .u8 ((outR t' : Nat) : Int)), .s (.bool (outD t')), .s (.int .i64 ((outE t' : Nat) : Int))]) 6 (eUQ t' x1.st x1.tm (phU t' pe') (erU t') c' o')) :
    Ex Try.prog 2 (sub [1, 0, 0, 1, 1, 1, 1, 1] ((Try.f8.body.bind fstLoop).getD .skip)) (f9 (.s (.slc (some (0, oo)) nk cc)) v tm (.s (.slc (some (1, 0)) m none)) (va 4) (vb 4) now i) 25 ([(0, some (bRb ty mr C)), (1, some (bOp ty1 f m))] ++ ([(24, some (opB x))] ++ coQ c o) ++ TH [x0, x1, x2, x3]) (One .normal (f9 (.s (.slc (some (0, oo)) nk cc)) v tm (.s (.slc (some (1, 0)) m none)) (va 4) (vb 4) now i) 25 ([(0, some (bRb ty mr C)), (1, some (bOp ty1 f m))] ++ ([(24, some (opB x))] ++ coQ c' o') ++ TH [x0, ⟨t', pe', x1.st, x1.tm⟩, x2, x3])) := by
  have gm := mod_s x.k 4 (by decide) (by decide)
  rw [hk] at gm
  refine Ex.stage hm [0, 1, 2, 3, 4, 5, 6, 7, 8, 9, 10, 11, 12, 13, 14, 15, 16, 17, 18, 19, 25, 26, 27, 28, 24] [1, 2, 3, 4, 11, 13, 14, 15, 16, 17, 18] rfl rfl ⟨[.dec true, .call [] [.s (.int .i64 x.k), .s (.int .i64 ((4 : Nat) : Int))] [] (.s (.int .i64 ((1 : Nat) : Int))) 0 [], .idx 1, .call [9, 2, 20, 21] [pT, pC1, n64 now] (sTQ x1.t c) (.tup [.s (.int .u8 ((outR t' : Nat) : Int)), .s (.bool (outD t')), .s (.int .i64 ((outE t' : Nat) : Int))]) 6 (eTQ t' c'), .idx 1, .call [15, 3, 22, 23] [pT, pC1, n64 now] (sUQ x1.t x1.st x1.tm (phU x1.t x1.pe) (erU x1.t) c o) (.tup [.s (.int .u8 ((outR t' : Nat) : Int)), .s (.bool (outD t')), .s (.int .i64 ((outE t' : Nat) : Int))]) 6 (eUQ t' x1.st x1.tm (phU t' pe') (erU t') c' o'), .dec false, .dec false, .dec false], _, _, _, _, _, rfl, ?_, rfl, ⟨rfl, rfl, rfl, rfl, rfl, rfl, rfl, rfl, rfl, rfl, rfl, rfl, rfl, rfl, rfl, rfl, rfl, trivial⟩⟩
  simp only [true_and, and_true, and_assoc, decide_eq_true_eq, decide_eq_false_iff_not, ne_eq, beq_iff_eq, beq_eq_false_iff_ne, bne_eq_false_iff_eq, bne_iff_ne, bne_self_eq_false, beq_self_eq_true]
  repeat' apply And.intro
  all_goals first
    | exact True.intro
    | exact call0 gm rfl
    | exact ⟨g1, rfl, Fits.of rfl rfl ⟨⟨rfl, _, rfl, rfl, fun h => h⟩, ⟨rfl, _, rfl, rfl, fun h => h⟩, ⟨rfl, _, rfl, rfl, fun h => h⟩, trivial⟩⟩
    | exact ⟨g2, rfl, Fits.of rfl rfl ⟨⟨rfl, _, rfl, rfl, fun h => h⟩, ⟨rfl, _, rfl, rfl, fun h => h⟩, ⟨rfl, _, rfl, rfl, fun h => h⟩, trivial⟩⟩
    | (with_reducible show _ = true; kernel_rfl)
    | (with_reducible exact rfl)
    | decide
    | omega
    | rfl
    | exact bne_self_eq_false' _
theorem spQ4_2 (ty : TypeId) (mr : Bool) (C : List S) (oo nk : Nat) (cc : Option Nat) (v tm m : Nat) (ty1 : TypeId) (f : Nat → OpV) (now i : Nat) (x : OpV) (c : Cq) (o : Nat) (x0 x1 x2 x3 : Tx) (t' : Tr) (c' : Cq) (o' pe' : Nat) (hk : modM x.k 4 = 2)
    (g1 : SC Try.prog 13 [pT, pC1, n64 now] 4 (sTQ x2.t c) (.tup [.s (.int .u8 ((outR t' : Nat) : Int)), .s (.bool (outD t')), .s (.int .i64 ((outE t' : Nat) : Int))]) 6 (eTQ t' c')) (g2 : SC Try.prog 36 [pT, pC1, n64 now] 4 (sUQ x2.t x2.st x2.tm (phU x2.t x2.pe) (erU x2.t) c o) (.tup [.s (.int .u8 ((outR t' : Nat) : Int)), .s (.bool (outD t')), .s (.int .i64 ((outE t' : Nat) : Int))]) 6 (eUQ t' x2.st x2.tm (phU t' pe') (erU t') c' o')) :
    Ex Try.prog 2 (sub [1, 0, 0, 1, 1, 1, 1, 1] ((Try.f8.body.bind fstLoop).getD .skip)) (f9 (.s (.slc (some (0, oo)) nk cc)) v tm (.s (.slc (some (1, 0)) m none)) (va 4) (vb 4) now i) 25 ([(0, some (bRb ty mr C)), (1, some (bOp ty1 f m))] ++ ([(24, some (opB x))] ++ coQ c o) ++ TH [x0, x1, x2, x3]) (One .normal (f9 (.s (.slc (some (0, oo)) nk cc)) v tm (.s (.slc (some (1, 0)) m none)) (va 4) (vb 4) now i) 25 ([(0, some (bRb ty mr C)), (1, some (bOp ty1 f m))] ++ ([(24, some (opB x))] ++ coQ c' o') ++ TH [x0, x1, ⟨t', pe', x2.st, x2.tm⟩, x3])) := by
  have gm := mod_s x.k 4 (by decide) (by decide)
  rw [hk] at gm
  refine Ex.stage hm [0, 1, 2, 3, 4, 5, 6, 7, 8, 9, 10, 11, 12, 13, 14, 15, 16, 17, 18, 19, 25, 26, 27, 28, 24] [1, 2, 3, 4, 11, 13, 14, 15, 16, 17, 18] rfl rfl ⟨[.dec true, .call [] [.s (.int .i64 x.k), .s (.int .i64 ((4 : Nat) : Int))] [] (.s (.int .i64 ((2 : Nat) : Int))) 0 [], .idx 2, .call [10, 2, 20, 21] [pT, pC1, n64 now] (sTQ x2.t c) (.tup [.s (.int .u8 ((outR t' : Nat) : Int)), .s (.bool (outD t')), .s (.int .i64 ((outE t' : Nat) : Int))]) 6 (eTQ t' c'), .idx 2, .call [16, 3, 22, 23] [pT, pC1, n64 now] (sUQ x2.t x2.st x2.tm (phU x2.t x2.pe) (erU x2.t) c o) (.tup [.s (.int .u8 ((outR t' : Nat) : Int)), .s (.bool (outD t')), .s (.int .i64 ((outE t' : Nat) : Int))]) 6 (eUQ t' x2.st x2.tm (phU t' pe') (erU t') c' o'), .dec false, .dec false, .dec false], _, _, _, _, _, rfl, ?_, rfl, ⟨rfl, rfl, rfl, rfl, rfl, rfl, rfl, rfl, rfl, rfl, rfl, rfl, rfl, rfl, rfl, rfl, rfl, trivial⟩⟩
  simp only [true_and, and_true, and_assoc, decide_eq_true_eq, decide_eq_false_iff_not, ne_eq, beq_iff_eq, beq_eq_false_iff_ne, bne_eq_false_iff_eq, bne_iff_ne, bne_self_eq_false, beq_self_eq_true]
  repeat' apply And.intro
  all_goals first
    | exact True.intro
    | exact call0 gm rfl
    | exact ⟨g1, rfl, Fits.of rfl rfl ⟨⟨rfl, _, rfl, rfl, fun h => h⟩, ⟨rfl, _, rfl, rfl, fun h => h⟩, ⟨rfl, _, rfl, rfl, fun h => h⟩, trivial⟩⟩
    | exact ⟨g2, rfl, Fits.of rfl rfl ⟨⟨rfl, _, rfl, rfl, fun h => h⟩, ⟨rfl, _, rfl, rfl, fun h => h⟩, ⟨rfl, _, rfl, rfl, fun h => h⟩, trivial⟩⟩
    | (with_reducible show _ = true; kernel_rfl)
    | (with_reducible exact rfl)
    | decide
    | omega
    | rfl
    | exact bne_self_eq_false' _
theorem spQ4_3 (ty : TypeId) (mr : Bool) (C : List S) (oo nk : Nat) (cc : Option Nat) (v tm m : Nat) (ty1 : TypeId) (f : Nat → OpV) (now i : Nat) (x : OpV) (c : Cq) (o : Nat) (x0 x1 x2 x3 : Tx) (t' : Tr) (c' : Cq) (o' pe' : Nat) (hk : modM x.k 4 = 3)
    (g1 : SC Try.prog 13 [pT, pC1, n64 now] 4 (sTQ x3.t c) (.tup [.s (.int .u8 ((outR t' : Nat) : Int)), .s (.bool (outD t')), .s (.int .i64 ((outE t' : Nat) : Int))]) 6 (eTQ t' c')) (g2 : SC Try.prog 36 [pT, pC1, n64 now] 4 (sUQ x3.t x3.st x3.tm (phU x3.t x3.pe) (erU x3.t) c o) (.tup [.s (.int .u8 ((outR t' : Nat) : Int)), .s (.bool (outD t')), .s (.int .i64 ((outE t' : Nat) : Int))]) 6 (eUQ t' x3.st x3.tm (phU t' pe') (erU t') c' o')) :
    Ex Try.prog 2 (sub [1, 0, 0, 1, 1, 1, 1, 1] ((Try.f8.body.bind fstLoop).getD .skip)) (f9 (.s (.slc (some (0, oo)) nk cc)) v tm (.s (.slc (some (1, 0)) m none)) (va 4) (vb 4) now i) 25 ([(0, some (bRb ty mr C)), (1, some (bOp ty1 f m))] ++ ([(24, some (opB x))] ++ coQ c o) ++ TH [x0, x1, x2, x3]) (One .normal (f9 (.s (.slc (some (0, oo)) nk cc)) v tm (.s (.slc (some (1, 0)) m none)) (va 4) (vb 4) now i) 25 ([(0, some (bRb ty mr C)), (1, some (bOp ty1 f m))] ++ ([(24, some (opB x))] ++ coQ c' o') ++ TH [x0, x1, x2, ⟨t', pe', x3.st, x3.tm⟩])) := by
  have gm := mod_s x.k 4 (by decide) (by decide)
  rw [hk] at gm
  refine Ex.stage hm [0, 1, 2, 3, 4, 5, 6, 7, 8, 9, 10, 11, 12, 13, 14, 15, 16, 17, 18, 19, 25, 26, 27, 28, 24] [1, 2, 3, 4, 11, 13, 14, 15, 16, 17, 18] rfl rfl ⟨[.dec true, .call [] [.s (.int .i64 x.k), .s (.int .i64 ((4 : Nat) : Int))] [] (.s (.int .i64 ((3 : Nat) : Int))) 0 [], .idx 3, .call [11, 2, 20, 21] [pT, pC1, n64 now] (sTQ x3.t c) (.tup [.s (.int .u8 ((outR t' : Nat) : Int)), .s (.bool (outD t')), .s (.int .i64 ((outE t' : Nat) : Int))]) 6 (eTQ t' c'), .idx 3, .call [17, 3, 22, 23] [pT, pC1, n64 now] (sUQ x3.t x3.st x3.tm (phU x3.t x3.pe) (erU x3.t) c o) (.tup [.s (.int .u8 ((outR t' : Nat) : Int)), .s (.bool (outD t')), .s (.int .i64 ((outE t' : Nat) : Int))]) 6 (eUQ t' x3.st x3.tm (phU t' pe') (erU t') c' o'), .dec false, .dec false, .dec false], _, _, _, _, _, rfl, ?_, rfl, ⟨rfl, rfl, rfl, rfl, rfl, rfl, rfl, rfl, rfl, rfl, rfl, rfl, rfl, rfl, rfl, rfl, rfl, trivial⟩⟩
  simp only [true_and, and_true, and_assoc, decide_eq_true_eq, decide_eq_false_iff_not, ne_eq, beq_iff_eq, beq_eq_false_iff_ne, bne_eq_false_iff_eq, bne_iff_ne, bne_self_eq_false, beq_self_eq_true]
  repeat' apply And.intro
  all_goals first
    | exact True.intro
    | exact call0 gm rfl
    | exact ⟨g1, rfl, Fits.of rfl rfl ⟨⟨rfl, _, rfl, rfl, fun h => h⟩, ⟨rfl, _, rfl, rfl, fun h => h⟩, ⟨rfl, _, rfl, rfl, fun h => h⟩, trivial⟩⟩
    | exact ⟨g2, rfl, Fits.of rfl rfl ⟨⟨rfl, _, rfl, rfl, fun h => h⟩, ⟨rfl, _, rfl, rfl, fun h => h⟩, ⟨rfl, _, rfl, rfl, fun h => h⟩, trivial⟩⟩
    | (with_reducible show _ = true; kernel_rfl)
    | (with_reducible exact rfl)
    | decide
    | omega
    | rfl
    | exact bne_self_eq_false' _
theorem spQ5_0 (ty : TypeId) (mr : Bool) (C : List S) (oo nk : Nat) (cc : Option Nat) (v tm m : Nat) (ty1 : TypeId) (f : Nat → OpV) (now i : Nat) (x : OpV) (c : Cq) (o : Nat) (x0 x1 x2 x3 x4 : Tx) (t' : Tr) (c' : Cq) (o' pe' : Nat) (hk : modM x.k 5 = 0)
    (g1 : SC Try.prog 13 [pT, pC1, n64 now] 4 (sTQ x0.t c) (.tup [.s (.int .u8 ((outR t' : Nat) : Int)), .s (.bool (outD t')), .s (.int .i64 ((outE t' : Nat) : Int))]) 6 (eTQ t' c')) (g2 : SC Try.prog 36 [pT, pC1, n64 now] 4 (sUQ x0.t x0.st x0.tm (phU x0.t x0.pe) (erU x0.t) c o) (.tup [.s (.int .u8 ((outR t' : Nat) : Int)), .s (.bool (outD t')), .s (.int .i64 ((outE t' : Nat) : Int))]) 6 (eUQ t' x0.st x0.tm (phU t' pe') (erU t') c' o')) :
    Ex Try.prog 2 (sub [1, 0, 0, 1, 1, 1, 1, 1] ((Try.f8.body.bind fstLoop).getD .skip)) (f9 (.s (.slc (some (0, oo)) nk cc)) v tm (.s (.slc (some (1, 0)) m none)) (va 5) (vb 5) now i) 25 ([(0, some (bRb ty mr C)), (1, some (bOp ty1 f m))] ++ ([(24, some (opB x))] ++ coQ c o) ++ TH [x0, x1, x2, x3, x4]) (One .normal (f9 (.s (.slc (some (0, oo)) nk cc)) v tm (.s (.slc (some (1, 0)) m none)) (va 5) (vb 5) now i) 25 ([(0, some (bRb ty mr C)), (1, some (bOp ty1 f m))] ++ ([(24, some (opB x))] ++ coQ c' o') ++ TH [⟨t', pe', x0.st, x0.tm⟩, x1, x2, x3, x4])) := by
  have gm := mod_s x.k 5 (by decide) (by decide)
  rw [hk] at gm
  refine Ex.stage hm [0, 1, 2, 3, 4, 5, 6, 7, 8, 9, 10, 11, 12, 13, 14, 15, 16, 17, 18, 19, 25, 26, 27, 28, 24] [1, 2, 3, 4, 11, 13, 14, 15, 16, 17, 18] rfl rfl ⟨[.dec true, .call [] [.s (.int .i64 x.k), .s (.int .i64 ((5 : Nat) : Int))] [] (.s (.int .i64 ((0 : Nat) : Int))) 0 [], .idx 0, .call [8, 2, 20, 21] [pT, pC1, n64 now] (sTQ x0.t c) (.tup [.s (.int .u8 ((outR t' : Nat) : Int)), .s (.bool (outD t')), .s (.int .i64 ((outE t' : Nat) : Int))]) 6 (eTQ t' c'), .idx 0, .call [14, 3, 22, 23] [pT, pC1, n64 now] (sUQ x0.t x0.st x0.tm (phU x0.t x0.pe) (erU x0.t) c o) (.tup [.s (.int .u8 ((outR t' : Nat) : Int)), .s (.bool (outD t')), .s (.int .i64 ((outE t' : Nat) : Int))]) 6 (eUQ t' x0.st x0.tm (phU t' pe') (erU t') c' o'), .dec false, .dec false, .dec false], _, _, _, _, _, rfl, ?_, rfl, ⟨rfl, rfl, rfl, rfl, rfl, rfl, rfl, rfl, rfl, rfl, rfl, rfl, rfl, rfl, rfl, rfl, rfl, rfl, rfl, trivial⟩⟩
  simp only [true_and, and_true, and_assoc, decide_eq_true_eq, decide_eq_false_iff_not, ne_eq, beq_iff_eq, beq_eq_false_iff_ne, bne_eq_false_iff_eq, bne_iff_ne, bne_self_eq_false, beq_self_eq_true]
  repeat' apply And.intro
  all_goals first
    | exact True.intro
    | exact call0 gm rfl
    | exact ⟨g1, rfl, Fits.of rfl rfl ⟨⟨rfl, _, rfl, rfl, fun h => h⟩, ⟨rfl, _, rfl, rfl, fun h => h⟩, ⟨rfl, _, rfl, rfl, fun h => h⟩, trivial⟩⟩
    | exact ⟨g2, rfl, Fits.of rfl rfl ⟨⟨rfl, _, rfl, rfl, fun h => h⟩, ⟨rfl, _, rfl, rfl, fun h => h⟩, ⟨rfl, _, rfl, rfl, fun h => h⟩, trivial⟩⟩
    | (with_reducible show _ = true; kernel_rfl)
    | (with_reducible exact rfl)
    | decide
    | omega
    | rfl
    | exact bne_self_eq_false' _
theorem spQ5_1 (ty : TypeId) (mr : Bool) (C : List S) (oo nk : Nat) (cc : Option Nat) (v tm m : Nat) (ty1 : TypeId) (f : Nat → OpV) (now i : Nat) (x : OpV) (c : Cq) (o : Nat) (x0 x1 x2 x3 x4 : Tx) (t' : Tr) (c' : Cq) (o' pe' : Nat) (hk : modM x.k 5 = 1)
    (g1 : SC Try.prog 13 [pT, pC1, n64 now] 4 (sTQ x1.t c) (.tup [.s (.int .u8 ((outR t' : Nat) : Int)), .s (.bool (outD t')), .s (.int .i64 ((outE t' : Nat) : Int))]) 6 (eTQ t' c')) (g2 : SC Try.prog 36 [pT, pC1, n64 now] 4 (sUQ x1.t x1.st x1.tm (phU x1.t x1.pe) (erU x1.t) c o) (.tup [.s (.int .u8 ((outR t' : Nat) : Int)), .s (.bool (outD t')), .s (.int .i64 ((outE t' : Nat) : Int))]) 6 (eUQ t' x1.st x1.tm (phU t' pe') (erU t') c' o')) :
    Ex Try.prog 2 (sub [1, 0, 0, 1, 1, 1, 1, 1] ((Try.f8.body.bind fstLoop).getD .skip)) (f9 (.s (.slc (some (0, oo)) nk cc)) v tm (.s (.slc (some (1, 0)) m none)) (va 5) (vb 5) now i) 25 ([(0, some (bRb ty mr C)), (1, some (bOp ty1 f m))] ++ ([(24, some (opB x))] ++ coQ c o) ++ TH [x0, x1, x2, x3, x4]) (One .normal (f9 (.s (.slc (some (0, oo)) nk cc)) v tm (.s (.slc (some (1, 0)) m none)) (va 5) (vb 5) now i) 25 ([(0, some (bRb ty mr C)), (1, some (bOp ty1 f m))] ++ ([(24, some (opB x))] ++ coQ c' o') ++ TH [x0, ⟨t', pe', x1.st, x1.tm⟩, x2, x3, x4])) := by
  have gm := mod_s x.k 5 (by decide) (by decide)
  rw [hk] at gm
  refine Ex.stage hm [0, 1, 2, 3, 4, 5, 6, 7, 8, 9, 10, 11, 12, 13, 14, 15, 16, 17, 18, 19, 25, 26, 27, 28, 24] [1, 2, 3, 4, 11, 13, 14, 15, 16, 17, 18] rfl rfl ⟨[.dec true, .call [] [.s (.int .i64 x.k), .s (.int .i64 ((5 : Nat) : Int))] [] (.s (.int .i64 ((1 : Nat) : Int))) 0 [], .idx 1, .call [9, 2, 20, 21] [pT, pC1, n64 now] (sTQ x1.t c) (.tup [.s (.int .u8 ((outR t' : Nat) : Int)), .s (.bool (outD t')), .s (.int .i64 ((outE t' : Nat) : Int))]) 6 (eTQ t' c'), .idx 1, .call [15, 3, 22, 23] [pT, pC1, n64 now] (sUQ x1.t x1.st x1.tm (phU x1.t x1.pe) (erU x1.t) c o) (.tup [.s (.int .u8 ((outR t' : Nat) : Int)), .s (.bool (outD t')), .s (.int .i64 ((outE t' : Nat) : Int))]) 6 (eUQ t' x1.st x1.tm (phU t' pe') (erU t') c' o'), .dec false, .dec false, .dec false], _, _, _, _, _, rfl, ?_, rfl, ⟨rfl, rfl, rfl, rfl, rfl, rfl, rfl, rfl, rfl, rfl, rfl, rfl, rfl, rfl, rfl, rfl, rfl, rfl, rfl, trivial⟩⟩
  simp only [true_and, and_true, and_assoc, decide_eq_true_eq, decide_eq_false_iff_not, ne_eq, beq_iff_eq, beq_eq_false_iff_ne, bne_eq_false_iff_eq, bne_iff_ne, bne_self_eq_false, beq_self_eq_true]
  repeat' apply And.intro
  all_goals first
    | exact True.intro
    | exact call0 gm rfl
    | exact ⟨g1, rfl, Fits.of rfl rfl ⟨⟨rfl, _, rfl, rfl, fun h => h⟩, ⟨rfl, _, rfl, rfl, fun h => h⟩, ⟨rfl, _, rfl, rfl, fun h => h⟩, trivial⟩⟩
    | exact ⟨g2, rfl, Fits.of rfl rfl ⟨⟨rfl, _, rfl, rfl, fun h => h⟩, ⟨rfl, _, rfl, rfl, fun h => h⟩, ⟨rfl, _, rfl, rfl, fun h => h⟩, trivial⟩⟩
    | (with_reducible show _ = true; kernel_rfl)
    | (with_reducible exact rfl)
    | decide
    | omega
    | rfl
    | exact bne_self_eq_false' _
theorem spQ5_2 (ty : TypeId) (mr : Bool) (C : List S) (oo nk : Nat) (cc : Option Nat) (v tm m : Nat) (ty1 : TypeId) (f : Nat → OpV) (now i : Nat) (x : OpV) (c : Cq) (o : Nat) (x0 x1 x2 x3 x4 : Tx) (t' : Tr) (c' : Cq) (o' pe' : Nat) (hk : modM x.k 5 = 2)
    (g1 : SC Try.prog 13 [pT, pC1, n64 now] 4 (sTQ x2.t c) (.tup [.s (.int .u8 ((outR t' : Nat) : Int)), .s (.bool (outD t')), .s (.int .i64 ((outE t' : Nat) : Int))]) 6 (eTQ t' c')) (g2 : SC Try.prog 36 [pT, pC1, n64 now] 4 (sUQ x2.t x2.st x2.tm (phU x2.t x2.pe) (erU x2.t) c o) (.tup [.s (.int .u8 ((outR t' : Nat) : Int)), .s (.bool (outD t')), .s (.int .i64 ((outE t' : Nat) : Int))]) 6 (eUQ t' x2.st x2.tm (phU t' pe') (erU t') c' o')) :
    Ex Try.prog 2 (sub [1, 0, 0, 1, 1, 1, 1, 1] ((Try.f8.body.bind fstLoop).getD .skip)) (f9 (.s (.slc (some (0, oo)) nk cc)) v tm (.s (.slc (some (1, 0)) m none)) (va 5) (vb 5) now i) 25 ([(0, some (bRb ty mr C)), (1, some (bOp ty1 f m))] ++ ([(24, some (opB x))] ++ coQ c o) ++ TH [x0, x1, x2, x3, x4]) (One .normal (f9 (.s (.slc (some (0, oo)) nk cc)) v tm (.s (.slc (some (1, 0)) m none)) (va 5) (vb 5) now i) 25 ([(0, some (bRb ty mr C)), (1, some (bOp ty1 f m))] ++ ([(24, some (opB x))] ++ coQ c' o') ++ TH [x0, x1, ⟨t', pe', x2.st, x2.tm⟩, x3, x4])) := by
  have gm := mod_s x.k 5 (by decide) (by decide)
  rw [hk] at gm
  refine Ex.stage hm [0, 1, 2, 3, 4, 5, 6, 7, 8, 9, 10, 11, 12, 13, 14, 15, 16, 17, 18, 19, 25, 26, 27, 28, 24] [1, 2, 3, 4, 11, 13, 14, 15, 16, 17, 18] rfl rfl ⟨[.dec true, .call [] [.s (.int .i64 x.k), .s (.int .i64 ((5 : Nat) : Int))] [] (.s (.int .i64 ((2 : Nat) : Int))) 0 [], .idx 2, .call [10, 2, 20, 21] [pT, pC1, n64 now] (sTQ x2.t c) (.tup [.s (.int .u8 ((outR t' : Nat) : Int)), .s (.bool (outD t')), .s (.int .i64 ((outE t' : Nat) : Int))]) 6 (eTQ t' c'), .idx 2, .call [16, 3, 22, 23] [pT, pC1, n64 now] (sUQ x2.t x2.st x2.tm (phU x2.t x2.pe) (erU x2.t) c o) (.tup [.s (.int .u8 ((outR t' : Nat) : Int)), .s (.bool (outD t')), .s (.int .i64 ((outE t' : Nat) : Int))]) 6 (eUQ t' x2.st x2.tm (phU t' pe') (erU t') c' o'), .dec false, .dec false, .dec false], _, _, _, _, _, rfl, ?_, rfl, ⟨rfl, rfl, rfl, rfl, rfl, rfl, rfl, rfl, rfl, rfl, rfl, rfl, rfl, rfl, rfl, rfl, rfl, rfl, rfl, trivial⟩⟩
  simp only [true_and, and_true, and_assoc, decide_eq_true_eq, decide_eq_false_iff_not, ne_eq, beq_iff_eq, beq_eq_false_iff_ne, bne_eq_false_iff_eq, bne_iff_ne, bne_self_eq_false, beq_self_eq_true]
  repeat' apply And.intro
  all_goals first
    | exact True.intro
    | exact call0 gm rfl
    | exact ⟨g1, rfl, Fits.of rfl rfl ⟨⟨rfl, _, rfl, rfl, fun h => h⟩, ⟨rfl, _, rfl, rfl, fun h => h⟩, ⟨rfl, _, rfl, rfl, fun h => h⟩, trivial⟩⟩
    | exact ⟨g2, rfl, Fits.of rfl rfl ⟨⟨rfl, _, rfl, rfl, fun h => h⟩, ⟨rfl, _, rfl, rfl, fun h => h⟩, ⟨rfl, _, rfl, rfl, fun h => h⟩, trivial⟩⟩
    | (with_reducible show _ = true; kernel_rfl)
    | (with_reducible exact rfl)
    | decide
    | omega
    | rfl
    | exact bne_self_eq_false' _
theorem spQ5_3 (ty : TypeId) (mr : Bool) (C : List S) (oo nk : Nat) (cc : Option Nat) (v tm m : Nat) (ty1 : TypeId) (f : Nat → OpV) (now i : Nat) (x : OpV) (c : Cq) (o : Nat) (x0 x1 x2 x3 x4 : Tx) (t' : Tr) (c' : Cq) (o' pe' : Nat) (hk : modM x.k 5 = 3)
    (g1 : SC Try.prog 13 [pT, pC1, n64 now] 4 (sTQ x3.t c) (.tup [.s (.int .u8 ((outR t' : Nat) : Int)), .s (.bool (outD t')), .s (.int .i64 ((outE t' : Nat) : Int))]) 6 (eTQ t' c')) (g2 : SC Try.prog 36 [pT, pC1, n64 now] 4 (sUQ x3.t x3.st x3.tm (phU x3.t x3.pe) (erU x3.t) c o) (.tup [.s (.int .u8 ((outR t' : Nat) : Int)), .s (.bool (outD t')), .s (.int .i64 ((outE t' : Nat) : Int))]) 6 (eUQ t' x3.st x3.tm (phU t' pe') (erU t') c' o')) :
    Ex Try.prog 2 (sub [1, 0, 0, 1, 1, 1, 1, 1] ((Try.f8.body.bind fstLoop).getD .skip)) (f9 (.s (.slc (some (0, oo)) nk cc)) v tm (.s (.slc (some (1, 0)) m none)) (va 5) (vb 5) now i) 25 ([(0, some (bRb ty mr C)), (1, some (bOp ty1 f m))] ++ ([(24, some (opB x))] ++ coQ c o) ++ TH [x0, x1, x2, x3, x4]) (One .normal (f9 (.s (.slc (some (0, oo)) nk cc)) v tm (.s (.slc (some (1, 0)) m none)) (va 5) (vb 5) now i) 25 ([(0, some (bRb ty mr C)), (1, some (bOp ty1 f m))] ++ ([(24, some (opB x))] ++ coQ c' o') ++ TH [x0, x1, x2, ⟨t', pe', x3.st, x3.tm⟩, x4])) := by
  have gm := mod_s x.k 5 (by decide) (by decide)
  rw [hk] at gm
  refine Ex.stage hm [0, 1, 2, 3, 4, 5, 6, 7, 8, 9, 10, 11, 12, 13, 14, 15, 16, 17, 18, 19, 25, 26, 27, 28, 24] [1, 2, 3, 4, 11, 13, 14, 15, 16, 17, 18] rfl rfl ⟨[.dec true, .call [] [.s (.int .i64 x.k), .s (.int .i64 ((5 : Nat) : Int))] [] (.s (.int .i64 ((3 : Nat) : Int))) 0 [], .idx 3, .call [11, 2, 20, 21] [pT, pC1, n64 now] (sTQ x3.t c) (.tup [.s (.int .u8 ((outR t' : Nat) : Int)), .s (.bool (outD t')), .s (.int .i64 ((outE t' : Nat) : Int))]) 6 (eTQ t' c'), .idx 3, .call [17, 3, 22, 23] [pT, pC1, n64 now] (sUQ x3.t x3.st x3.tm (phU x3.t x3.pe) (erU x3.t) c o) (.tup [.s (.int .u8 ((outR t' : Nat) : Int)), .s (.bool (outD t')), .s (.int .i64 ((outE t' : Nat) : Int))]) 6 (eUQ t' x3.st x3.tm (phU t' pe') (erU t') c' o'), .dec false, .dec false, .dec false], _, _, _, _, _, rfl, ?_, rfl, ⟨rfl, rfl, rfl, rfl, rfl, rfl, rfl, rfl, rfl, rfl, rfl, rfl, rfl, rfl, rfl, rfl, rfl, rfl, rfl, trivial⟩⟩
  simp only [true_and, and_true, and_assoc, decide_eq_true_eq, decide_eq_false_iff_not, ne_eq, beq_iff_eq, beq_eq_false_iff_ne, bne_eq_false_iff_eq, bne_iff_ne, bne_self_eq_false, beq_self_eq_true]
  repeat' apply And.intro
  all_goals first
    | exact True.intro
    | exact call0 gm rfl
    | exact ⟨g1, rfl, Fits.of rfl rfl ⟨⟨rfl, _, rfl, rfl, fun h => h⟩, ⟨rfl, _, rfl, rfl, fun h => h⟩, ⟨rfl, _, rfl, rfl, fun h => h⟩, trivial⟩⟩
    | exact ⟨g2, rfl, Fits.of rfl rfl ⟨⟨rfl, _, rfl, rfl, fun h => h⟩, ⟨rfl, _, rfl, rfl, fun h => h⟩, ⟨rfl, _, rfl, rfl, fun h => h⟩, trivial⟩⟩
    | (with_reducible show _ = true; kernel_rfl)
    | (with_reducible exact rfl)
    | decide
    | omega
    | rfl
    | exact bne_self_eq_false' _
theorem spQ5_4 (ty : TypeId) (mr : Bool) (C : List S) (oo nk : Nat) (cc : Option Nat) (v tm m : Nat) (ty1 : TypeId) (f : Nat → OpV) (now i : Nat) (x : OpV) (c : Cq) (o : Nat) (x0 x1 x2 x3 x4 : Tx) (t' : Tr) (c' : Cq) (o' pe' : Nat) (hk : modM x.k 5 = 4)
    (g1 : SC Try.prog 13 [pT, pC1, n64 now] 4 (sTQ x4.t c) (.tup [.s (.int .u8 ((outR t' : Nat) : Int)), .s (.bool (outD t')), .s (.int .i64 ((outE t' : Nat) : Int))]) 6 (eTQ t' c')) (g2 : SC Try.prog 36 [pT, pC1, n64 now] 4 (sUQ x4.t x4.st x4.tm (phU x4.t x4.pe) (erU x4.t) c o) (.tup [.s (.int .u8 ((outR t' : Nat) : Int)), .s (.bool (outD t')), .s (.int .i64 ((outE t' : Nat) : Int))]) 6 (eUQ t' x4.st x4.tm (phU t' pe') (erU t') c' o')) :
    Ex Try.prog 2 (sub [1, 0, 0, 1, 1, 1, 1, 1] ((Try.f8.body.bind fstLoop).getD .skip)) (f9 (.s (.slc (some (0, oo)) nk cc)) v tm (.s (.slc (some (1, 0)) m none)) (va 5) (vb 5) now i) 25 ([(0, some (bRb ty mr C)), (1, some (bOp ty1 f m))] ++ ([(24, some (opB x))] ++ coQ c o) ++ TH [x0, x1, x2, x3, x4]) (One .normal (f9 (.s (.slc (some (0, oo)) nk cc)) v tm (.s (.slc (some (1, 0)) m none)) (va 5) (vb 5) now i) 25 ([(0, some (bRb ty mr C)), (1, some (bOp ty1 f m))] ++ ([(24, some (opB x))] ++ coQ c' o') ++ TH [x0, x1, x2, x3, ⟨t', pe', x4.st, x4.tm⟩])) := by
  have gm := mod_s x.k 5 (by decide) (by decide)
  rw [hk] at gm
  refine Ex.stage hm [0, 1, 2, 3, 4, 5, 6, 7, 8, 9, 10, 11, 12, 13, 14, 15, 16, 17, 18, 19, 25, 26, 27, 28, 24] [1, 2, 3, 4, 11, 13, 14, 15, 16, 17, 18] rfl rfl ⟨[.dec true, .call [] [.s (.int .i64 x.k), .s (.int .i64 ((5 : Nat) : Int))] [] (.s (.int .i64 ((4 : Nat) : Int))) 0 [], .idx 4, .call [12, 2, 20, 21] [pT, pC1, n64 now] (sTQ x4.t c) (.tup [.s (.int .u8 ((outR t' : Nat) : Int)), .s (.bool (outD t')), .s (.int .i64 ((outE t' : Nat) : Int))]) 6 (eTQ t' c'), .idx 4, .call [18, 3, 22, 23] [pT, pC1, n64 now] (sUQ x4.t x4.st x4.tm (phU x4.t x4.pe) (erU x4.t) c o) (.tup [.s (.int .u8 ((outR t' : Nat) : Int)), .s (.bool (outD t')), .s (.int .i64 ((outE t' : Nat) : Int))]) 6 (eUQ t' x4.st x4.tm (phU t' pe') (erU t') c' o'), .dec false, .dec false, .dec false], _, _, _, _, _, rfl, ?_, rfl, ⟨rfl, rfl, rfl, rfl, rfl, rfl, rfl, rfl, rfl, rfl, rfl, rfl, rfl, rfl, rfl, rfl, rfl, rfl, rfl, trivial⟩⟩
  simp only [true_and, and_true, and_assoc, decide_eq_true_eq, decide_eq_false_iff_not, ne_eq, beq_iff_eq, beq_eq_false_iff_ne, bne_eq_false_iff_eq, bne_iff_ne, bne_self_eq_false, beq_self_eq_true]
  repeat' apply And.intro
  all_goals first
    | exact True.intro
    | exact call0 gm rfl
    | exact ⟨g1, rfl, Fits.of rfl rfl ⟨⟨rfl, _, rfl, rfl, fun h => h⟩, ⟨rfl, _, rfl, rfl, fun h => h⟩, ⟨rfl, _, rfl, rfl, fun h => h⟩, trivial⟩⟩
    | exact ⟨g2, rfl, Fits.of rfl rfl ⟨⟨rfl, _, rfl, rfl, fun h => h⟩, ⟨rfl, _, rfl, rfl, fun h => h⟩, ⟨rfl, _, rfl, rfl, fun h => h⟩, trivial⟩⟩
    | (with_reducible show _ = true; kernel_rfl)
    | (with_reducible exact rfl)
    | decide
    | omega
    | rfl
    | exact bne_self_eq_false' _
theorem spQ6_0 (ty : TypeId) (mr : Bool) (C : List S) (oo nk : Nat) (cc : Option Nat) (v tm m : Nat) (ty1 : TypeId) (f : Nat → OpV) (now i : Nat) (x : OpV) (c : Cq) (o : Nat) (x0 x1 x2 x3 x4 x5 : Tx) (t' : Tr) (c' : Cq) (o' pe' : Nat) (hk : modM x.k 6 = 0)
    (g1 : SC Try.prog 13 [pT, pC1, n64 now] 4 (sTQ x0.t c) (.tup [.s (.int .u8 ((outR t' : Nat) : Int)), .s (.bool (outD t')), .s (.int .i64 ((outE t' : Nat) : Int))]) 6 (eTQ t' c')) (g2 : SC Try.prog 36 [pT, pC1, n64 now] 4 (sUQ x0.t x0.st x0.tm (phU x0.t x0.pe) (erU x0.t) c o) (.tup [.s (.int .u8 ((outR t' : Nat) : Int)), .s (.bool (outD t')), .s (.int .i64 ((outE t' : Nat) : Int))]) 6 (eUQ t' x0.st x0.tm (phU t' pe') (erU t') c' o')) :
    Ex Try.prog 2 (sub [1, 0, 0, 1, 1, 1, 1, 1] ((Try.f8.body.bind fstLoop).getD .skip)) (f9 (.s (.slc (some (0, oo)) nk cc)) v tm (.s (.slc (some (1, 0)) m none)) (va 6) (vb 6) now i) 25 ([(0, some (bRb ty mr C)), (1, some (bOp ty1 f m))] ++ ([(24, some (opB x))] ++ coQ c o) ++ TH [x0, x1, x2, x3, x4, x5]) (One .normal (f9 (.s (.slc (some (0, oo)) nk cc)) v tm (.s (.slc (some (1, 0)) m none)) (va 6) (vb 6) now i) 25 ([(0, some (bRb ty mr C)), (1, some (bOp ty1 f m))] ++ ([(24, some (opB x))] ++ coQ c' o') ++ TH [⟨t', pe', x0.st, x0.tm⟩, x1, x2, x3, x4, x5])) := by
  have gm := mod_s x.k 6 (by decide) (by decide)
  rw [hk] at gm
  refine Ex.stage hm [0, 1, 2, 3, 4, 5, 6, 7, 8, 9, 10, 11, 12, 13, 14, 15, 16, 17, 18, 19, 25, 26, 27, 28, 24] [1, 2, 3, 4, 11, 13, 14, 15, 16, 17, 18] rfl rfl ⟨[.dec true, .call [] [.s (.int .i64 x.k), .s (.int .i64 ((6 : Nat) : Int))] [] (.s (.int .i64 ((0 : Nat) : Int))) 0 [], .idx 0, .call [8, 2, 20, 21] [pT, pC1, n64 now] (sTQ x0.t c) (.tup [.s (.int .u8 ((outR t' : Nat) : Int)), .s (.bool (outD t')), .s (.int .i64 ((outE t' : Nat) : Int))]) 6 (eTQ t' c'), .idx 0, .call [14, 3, 22, 23] [pT, pC1, n64 now] (sUQ x0.t x0.st x0.tm (phU x0.t x0.pe) (erU x0.t) c o) (.tup [.s (.int .u8 ((outR t' : Nat) : Int)), .s (.bool (outD t')), .s (.int .i64 ((outE t' : Nat) : Int))]) 6 (eUQ t' x0.st x0.tm (phU t' pe') (erU t') c' o'), .dec false, .dec false, .dec false], _, _, _, _, _, rfl, ?_, rfl, ⟨rfl, rfl, rfl, rfl, rfl, rfl, rfl, rfl, rfl, rfl, rfl, rfl, rfl, rfl, rfl, rfl, rfl, rfl, rfl, rfl, rfl, trivial⟩⟩
  simp only [true_and, and_true, and_assoc, decide_eq_true_eq, decide_eq_false_iff_not, ne_eq, beq_iff_eq, beq_eq_false_iff_ne, bne_eq_false_iff_eq, bne_iff_ne, bne_self_eq_false, beq_self_eq_true]
  repeat' apply And.intro
  all_goals first
    | exact True.intro
    | exact call0 gm rfl
    | exact ⟨g1, rfl, Fits.of rfl rfl ⟨⟨rfl, _, rfl, rfl, fun h => h⟩, ⟨rfl, _, rfl, rfl, fun h => h⟩, ⟨rfl, _, rfl, rfl, fun h => h⟩, trivial⟩⟩
    | exact ⟨g2, rfl, Fits.of rfl rfl ⟨⟨rfl, _, rfl, rfl, fun h => h⟩, ⟨rfl, _, rfl, rfl, fun h => h⟩, ⟨rfl, _, rfl, rfl, fun h => h⟩, trivial⟩⟩
    | (with_reducible show _ = true; kernel_rfl)
    | (with_reducible exact rfl)
    | decide
    | omega
    | rfl
    | exact bne_self_eq_false' _
theorem spQ6_1 (ty : TypeId) (mr : Bool) (C : List S) (oo nk : Nat) (cc : Option Nat) (v tm m : Nat) (ty1 : TypeId) (f : Nat → OpV) (now i : Nat) (x : OpV) (c : Cq) (o : Nat) (x0 x1 x2 x3 x4 x5 : Tx) (t' : Tr) (c' : Cq) (o' pe' : Nat) (hk : modM x.k 6 = 1)
    (g1 : SC Try.prog 13 [pT, pC1, n64 now] 4 (sTQ x1.t c) (.tup [.s (.int .u8 ((outR t' : Nat) : Int)), .s (.bool (outD t')), .s (.int .i64 ((outE t' : Nat) : Int))]) 6 (eTQ t' c')) (g2 : SC Try.prog 36 [pT, pC1, n64 now] 4 (sUQ x1.t x1.st x1.tm (phU x1.t x1.pe) (erU x1.t) c o) (.tup [.s (.int .u8 ((outR t' : Nat) : Int)), .s (.bool (outD t')), .s (.int .i64 ((outE t' : Nat) : Int))]) 6 (eUQ t' x1.st x1.tm (phU t' pe') (erU t') c' o')) :
    Ex Try.prog 2 (sub [1, 0, 0, 1, 1, 1, 1, 1] ((Try.f8.body.bind fstLoop).getD .skip)) (f9 (.s (.slc (some (0, oo)) nk cc)) v tm (.s (.slc (some (1, 0)) m none)) (va 6) (vb 6) now i) 25 ([(0, some (bRb ty mr C)), (1, some (bOp ty1 f m))] ++ ([(24, some (opB x))] ++ coQ c o) ++ TH [x0, x1, x2, x3, x4, x5]) (One .normal (f9 (.s (.slc (some (0, oo)) nk cc)) v tm (.s (.slc (some (1, 0)) m none)) (va 6) (vb 6) now i) 25 ([(0, some (bRb ty mr C)), (1, some (bOp ty1 f m))] ++ ([(24, some (opB x))] ++ coQ c' o') ++ TH [x0, ⟨t', pe', x1.st, x1.tm⟩, x2, x3, x4, x5])) := by
  have gm := mod_s x.k 6 (by decide) (by decide)
  rw [hk] at gm
  refine Ex.stage hm [0, 1, 2, 3, 4, 5, 6, 7, 8, 9, 10, 11, 12, 13, 14, 15, 16, 17, 18, 19, 25, 26, 27, 28, 24] [1, 2, 3, 4, 11, 13, 14, 15, 16, 17, 18] rfl rfl ⟨[.dec true, .call [] [.s (.int .i64 x.k), .s (.int .i64 ((6 : Nat) : Int))] [] (.s (.int .i64 ((1 : Nat) : Int))) 0 [], .idx 1, .call [9, 2, 20, 21] [pT, pC1, n64 now] (sTQ x1.t c) (.tup [.s (.int .u8 ((outR t' : Nat) : Int)), .s (.bool (outD t')), .s (.int .i64 ((outE t' : Nat) : Int))]) 6 (eTQ t' c'), .idx 1, .call [15, 3, 22, 23] [pT, pC1, n64 now] (sUQ x1.t x1.st x1.tm (phU x1.t x1.pe) (erU x1.t) c o) (.tup [.s (.int .u8 ((outR t' : Nat) : Int)), .s (.bool (outD t')), .s (.int .i64 ((outE t' : Nat) : Int))]) 6 (eUQ t' x1.st x1.tm (phU t' pe') (erU t') c' o'), .dec false, .dec false, .dec false], _, _, _, _, _, rfl, ?_, rfl, ⟨rfl, rfl, rfl, rfl, rfl, rfl, rfl, rfl, rfl, rfl, rfl, rfl, rfl, rfl, rfl, rfl, rfl, rfl, rfl, rfl, rfl, trivial⟩⟩
  simp only [true_and, and_true, and_assoc, decide_eq_true_eq, decide_eq_false_iff_not, ne_eq, beq_iff_eq, beq_eq_false_iff_ne, bne_eq_false_iff_eq, bne_iff_ne, bne_self_eq_false, beq_self_eq_true]
  repeat' apply And.intro
  all_goals first
    | exact True.intro
    | exact call0 gm rfl
    | exact ⟨g1, rfl, Fits.of rfl rfl ⟨⟨rfl, _, rfl, rfl, fun h => h⟩, ⟨rfl, _, rfl, rfl, fun h => h⟩, ⟨rfl, _, rfl, rfl, fun h => h⟩, trivial⟩⟩
    | exact ⟨g2, rfl, Fits.of rfl rfl ⟨⟨rfl, _, rfl, rfl, fun h => h⟩, ⟨rfl, _, rfl, rfl, fun h => h⟩, ⟨rfl, _, rfl, rfl, fun h => h⟩, trivial⟩⟩
    | (with_reducible show _ = true; kernel_rfl)
    | (with_reducible exact rfl)
    | decide
    | omega
    | rfl
    | exact bne_self_eq_false' _
theorem spQ6_2 (ty : TypeId) (mr : Bool) (C : List S) (oo nk : Nat) (cc : Option Nat) (v tm m : Nat) (ty1 : TypeId) (f : Nat → OpV) (now i : Nat) (x : OpV) (c : Cq) (o : Nat) (x0 x1 x2 x3 x4 x5 : Tx) (t' : Tr) (c' : Cq) (o' pe' : Nat) (hk : modM x.k 6 = 2)
    (g1 : SC Try.prog 13 [pT, pC1, n64 now] 4 (sTQ x2.t c) (.tup [.s (.int .u8 ((outR t' : Nat) : Int)), .s (.bool (outD t')), .s (.int .i64 ((outE t' : Nat) : Int))]) 6 (eTQ t' c')) (g2 : SC Try.prog 36 [pT, pC1, n64 now] 4 (sUQ x2.t x2.st x2.tm (phU x2.t x2.pe) (erU x2.t) c o) (.tup [.s (.int .u8 ((outR t' : Nat) : Int)), .s (.bool (outD t')), .s (.int .i64 ((outE t' : Nat) : Int))]) 6 (eUQ t' x2.st x2.tm (phU t' pe') (erU t') c' o')) :
    Ex Try.prog 2 (sub [1, 0, 0, 1, 1, 1, 1, 1] ((Try.f8.body.bind fstLoop).getD .skip)) (f9 (.s (.slc (some (0, oo)) nk cc)) v tm (.s (.slc (some (1, 0)) m none)) (va 6) (vb 6) now i) 25 ([(0, some (bRb ty mr C)), (1, some (bOp ty1 f m))] ++ ([(24, some (opB x))] ++ coQ c o) ++ TH [x0, x1, x2, x3, x4, x5]) (One .normal (f9 (.s (.slc (some (0, oo)) nk cc)) v tm (.s (.slc (some (1, 0)) m none)) (va 6) (vb 6) now i) 25 ([(0, some (bRb ty mr C)), (1, some (bOp ty1 f m))] ++ ([(24, some (opB x))] ++ coQ c' o') ++ TH [x0, x1, ⟨t', pe', x2.st, x2.tm⟩, x3, x4, x5])) := by
  have gm := mod_s x.k 6 (by decide) (by decide)
  rw [hk] at gm
  refine Ex.stage hm [0, 1, 2, 3, 4, 5, 6, 7, 8, 9, 10, 11, 12, 13, 14, 15, 16, 17, 18, 19, 25, 26, 27, 28, 24] [1, 2, 3, 4, 11, 13, 14, 15, 16, 17, 18] rfl rfl ⟨[.dec true, .call [] [.s (.int .i64 x.k), .s (.int .i64 ((6 : Nat) : Int))] [] (.s (.int .i64 ((2 : Nat) : Int))) 0 [], .idx 2, .call [10, 2, 20, 21] [pT, pC1, n64 now] (sTQ x2.t c) (.tup [.s (.int .u8 ((outR t' : Nat) : Int)), .s (.bool (outD t')), .s (.int .i64 ((outE t' : Nat) : Int))]) 6 (eTQ t' c'), .idx 2, .call [16, 3, 22, 23] [pT, pC1, n64 now] (sUQ x2.t x2.st x2.tm (phU x2.t x2.pe) (erU x2.t) c o) (.tup [.s (.int .u8 ((outR t' : Nat) : Int)), .s (.bool (outD t')), .s (.int .i64 ((outE t' : Nat) : Int))]) 6 (eUQ t' x2.st x2.tm (phU t' pe') (erU t') c' o'), .dec false, .dec false, .dec false], _, _, _, _, _, rfl, ?_, rfl, ⟨rfl, rfl, rfl, rfl, rfl, rfl, rfl, rfl, rfl, rfl, rfl, rfl, rfl, rfl, rfl, rfl, rfl, rfl, rfl, rfl, rfl, trivial⟩⟩
  simp only [true_and, and_true, and_assoc, decide_eq_true_eq, decide_eq_false_iff_not, ne_eq, beq_iff_eq, beq_eq_false_iff_ne, bne_eq_false_iff_eq, bne_iff_ne, bne_self_eq_false, beq_self_eq_true]
  repeat' apply And.intro
  all_goals first
    | exact True.intro
    | exact call0 gm rfl
    | exact ⟨g1, rfl, Fits.of rfl rfl ⟨⟨rfl, _, rfl, rfl, fun h => h⟩, ⟨rfl, _, rfl, rfl, fun h => h⟩, ⟨rfl, _, rfl, rfl, fun h => h⟩, trivial⟩⟩
    | exact ⟨g2, rfl, Fits.of rfl rfl ⟨⟨rfl, _, rfl, rfl, fun h => h⟩, ⟨rfl, _, rfl, rfl, fun h => h⟩, ⟨rfl, _, rfl, rfl, fun h => h⟩, trivial⟩⟩
    | (with_reducible show _ = true; kernel_rfl)
    | (with_reducible exact rfl)
    | decide
    | omega
    | rfl
    | exact bne_self_eq_false' _
theorem spQ6_3 (ty : TypeId) (mr : Bool) (C : List S) (oo nk : Nat) (cc : Option Nat) (v tm m : Nat) (ty1 : TypeId) (f : Nat → OpV) (now i : Nat) (x : OpV) (c : Cq) (o : Nat) (x0 x1 x2 x3 x4 x5 : Tx) (t' : Tr) (c' : Cq) (o' pe' : Nat) (hk : modM x.k 6 = 3)
    (g1 : SC Try.prog 13 [pT, pC1, n64 now] 4 (sTQ x3.t c) (.tup [.s (.int .u8 ((outR t' : Nat) : Int)), .s (.bool (outD t')), .s (.int .i64 ((outE t' : Nat) : Int))]) 6 (eTQ t' c')) (g2 : SC Try.prog 36 [pT, pC1, n64 now] 4 (sUQ x3.t x3.st x3.tm (phU x3.t x3.pe) (erU x3.t) c o) (.tup [.s (.int .u8 ((outR t' : Nat) : Int)), .s (.bool (outD t')), .s (.int .i64 ((outE t' : Nat) : Int))]) 6 (eUQ t' x3.st x3.tm (phU t' pe') (erU t') c' o')) :
    Ex Try.prog 2 (sub [1, 0, 0, 1, 1, 1, 1, 1] ((Try.f8.body.bind fstLoop).getD .skip)) (f9 (.s (.slc (some (0, oo)) nk cc)) v tm (.s (.slc (some (1, 0)) m none)) (va 6) (vb 6) now i) 25 ([(0, some (bRb ty mr C)), (1, some (bOp ty1 f m))] ++ ([(24, some (opB x))] ++ coQ c o) ++ TH [x0, x1, x2, x3, x4, x5]) (One .normal (f9 (.s (.slc (some (0, oo)) nk cc)) v tm (.s (.slc (some (1, 0)) m none)) (va 6) (vb 6) now i) 25 ([(0, some (bRb ty mr C)), (1, some (bOp ty1 f m))] ++ ([(24, some (opB x))] ++ coQ c' o') ++ TH [x0, x1, x2, ⟨t', pe', x3.st, x3.tm⟩, x4, x5])) := by
  have gm := mod_s x.k 6 (by decide) (by decide)
  rw [hk] at gm
  refine Ex.stage hm [0, 1, 2, 3, 4, 5, 6, 7, 8, 9, 10, 11, 12, 13, 14, 15, 16, 17, 18, 19, 25, 26, 27, 28, 24] [1, 2, 3, 4, 11, 13, 14, 15, 16, 17, 18] rfl rfl ⟨[.dec true, .call [] [.s (.int .i64 x.k), .s (.int .i64 ((6 : Nat) : Int))] [] (.s (.int .i64 ((3 : Nat) : Int))) 0 [], .idx 3, .call [11, 2, 20, 21] [pT, pC1, n64 now] (sTQ x3.t c) (.tup [.s (.int .u8 ((outR t' : Nat) : Int)), .s (.bool (outD t')), .s (.int .i64 ((outE t' : Nat) : Int))]) 6 (eTQ t' c'), .idx 3, .call [17, 3, 22, 23] [pT, pC1, n64 now] (sUQ x3.t x3.st x3.tm (phU x3.t x3.pe) (erU x3.t) c o) (.tup [.s (.int .u8 ((outR t' : Nat) : Int)), .s (.bool (outD t')), .s (.int .i64 ((outE t' : Nat) : Int))]) 6 (eUQ t' x3.st x3.tm (phU t' pe') (erU t') c' o'), .dec false, .dec false, .dec false], _, _, _, _, _, rfl, ?_, rfl, ⟨rfl, rfl, rfl, rfl, rfl, rfl, rfl, rfl, rfl, rfl, rfl, rfl, rfl, rfl, rfl, rfl, rfl, rfl, rfl, rfl, rfl, trivial⟩⟩
  simp only [true_and, and_true, and_assoc, decide_eq_true_eq, decide_eq_false_iff_not, ne_eq, beq_iff_eq, beq_eq_false_iff_ne, bne_eq_false_iff_eq, bne_iff_ne, bne_self_eq_false, beq_self_eq_true]
  repeat' apply And.intro
  all_goals first
    | exact True.intro
    | exact call0 gm rfl
    | exact ⟨g1, rfl, Fits.of rfl rfl ⟨⟨rfl, _, rfl, rfl, fun h => h⟩, ⟨rfl, _, rfl, rfl, fun h => h⟩, ⟨rfl, _, rfl, rfl, fun h => h⟩, trivial⟩⟩
    | exact ⟨g2, rfl, Fits.of rfl rfl ⟨⟨rfl, _, rfl, rfl, fun h => h⟩, ⟨rfl, _, rfl, rfl, fun h => h⟩, ⟨rfl, _, rfl, rfl, fun h => h⟩, trivial⟩⟩
    | (with_reducible show _ = true; kernel_rfl)
    | (with_reducible exact rfl)
    | decide
    | omega
    | rfl
    | exact bne_self_eq_false' _
theorem spQ6_4 (ty : TypeId) (mr : Bool) (C : List S) (oo nk : Nat) (cc : Option Nat) (v tm m : Nat) (ty1 : TypeId) (f : Nat → OpV) (now i : Nat) (x : OpV) (c : Cq) (o : Nat) (x0 x1 x2 x3 x4 x5 : Tx) (t' : Tr) (c' : Cq) (o' pe' : Nat) (hk : modM x.k 6 = 4)
    (g1 : SC Try.prog 13 [pT, pC1, n64 now] 4 (sTQ x4.t c) (.tup [.s (.int .u8 ((outR t' : Nat) : Int)), .s (.bool (outD t')), .s (.int .i64 ((outE t' : Nat) : Int))]) 6 (eTQ t' c')) (g2 : SC Try.prog 36 [pT, pC1, n64 now] 4 (sUQ x4.t x4.st x4.tm (phU x4.t x4.pe) (erU x4.t) c o) (.tup [.s (.int .u8 ((outR t' : Nat) : Int)), .s (.bool (outD t')), .s (.int .i64 ((outE t' : Nat) : Int))]) 6 (eUQ t' x4.st x4.tm (phU t' pe') (erU t') c' o')) :
    Ex Try.prog 2 (sub [1, 0, 0, 1, 1, 1, 1, 1] ((Try.f8.body.bind fstLoop).getD .skip)) (f9 (.s (.slc (some (0, oo)) nk cc)) v tm (.s (.slc (some (1, 0)) m none)) (va 6) (vb 6) now i) 25 ([(0, some (bRb ty mr C)), (1, some (bOp ty1 f m))] ++ ([(24, some (opB x))] ++ coQ c o) ++ TH [x0, x1, x2, x3, x4, x5]) (One .normal (f9 (.s (.slc (some (0, oo)) nk cc)) v tm (.s (.slc (some (1, 0)) m none)) (va 6) (vb 6) now i) 25 ([(0, some (bRb ty mr C)), (1, some (bOp ty1 f m))] ++ ([(24, some (opB x))] ++ coQ c' o') ++ TH [x0, x1, x2, x3, ⟨t', pe', x4.st, x4.tm⟩, x5])) := by
  have gm := mod_s x.k 6 (by decide) (by decide)
  rw [hk] at gm
  refine Ex.stage hm [0, 1, 2, 3, 4, 5, 6, 7, 8, 9, 10, 11, 12, 13, 14, 15, 16, 17, 18, 19, 25, 26, 27, 28, 24] [1, 2, 3, 4, 11, 13, 14, 15, 16, 17, 18] rfl rfl ⟨[.dec true, .call [] [.s (.int .i64 x.k), .s (.int .i64 ((6 : Nat) : Int))] [] (.s (.int .i64 ((4 : Nat) : Int))) 0 [], .idx 4, .call [12, 2, 20, 21] [pT, pC1, n64 now] (sTQ x4.t c) (.tup [.s (.int .u8 ((outR t' : Nat) : Int)), .s (.bool (outD t')), .s (.int .i64 ((outE t' : Nat) : Int))]) 6 (eTQ t' c'), .idx 4, .call [18, 3, 22, 23] [pT, pC1, n64 now] (sUQ x4.t x4.st x4.tm (phU x4.t x4.pe) (erU x4.t) c o) (.tup [.s (.int .u8 ((outR t' : Nat) : Int)), .s (.bool (outD t')), .s (.int .i64 ((outE t' : Nat) : Int))]) 6 (eUQ t' x4.st x4.tm (phU t' pe') (erU t') c' o'), .dec false, .dec false, .dec false], _, _, _, _, _, rfl, ?_, rfl, ⟨rfl, rfl, rfl, rfl, rfl, rfl, rfl, rfl, rfl, rfl, rfl, rfl, rfl, rfl, rfl, rfl, rfl, rfl, rfl, rfl, rfl, trivial⟩⟩
  simp only [true_and, and_true, and_assoc, decide_eq_true_eq, decide_eq_false_iff_not, ne_eq, beq_iff_eq, beq_eq_false_iff_ne, bne_eq_false_iff_eq, bne_iff_ne, bne_self_eq_false, beq_self_eq_true]
  repeat' apply And.intro
  all_goals first
    | exact True.intro
    | exact call0 gm rfl
    | exact ⟨g1, rfl, Fits.of rfl rfl ⟨⟨rfl, _, rfl, rfl, fun h => h⟩, ⟨rfl, _, rfl, rfl, fun h => h⟩, ⟨rfl, _, rfl, rfl, fun h => h⟩, trivial⟩⟩
    | exact ⟨g2, rfl, Fits.of rfl rfl ⟨⟨rfl, _, rfl, rfl, fun h => h⟩, ⟨rfl, _, rfl, rfl, fun h => h⟩, ⟨rfl, _, rfl, rfl, fun h => h⟩, trivial⟩⟩
    | (with_reducible show _ = true; kernel_rfl)
    | (with_reducible exact rfl)
    | decide
    | omega
    | rfl
    | exact bne_self_eq_false' _
theorem spQ6_5 (ty : TypeId) (mr : Bool) (C : List S) (oo nk : Nat) (cc : Option Nat) (v tm m : Nat) (ty1 : TypeId) (f : Nat → OpV) (now i : Nat) (x : OpV) (c : Cq) (o : Nat) (x0 x1 x2 x3 x4 x5 : Tx) (t' : Tr) (c' : Cq) (o' pe' : Nat) (hk : modM x.k 6 = 5)
    (g1 : SC Try.prog 13 [pT, pC1, n64 now] 4 (sTQ x5.t c) (.tup [.s (.int .u8 ((outR t' : Nat) : Int)), .s (.bool (outD t')), .s (.int .i64 ((outE t' : Nat) : Int))]) 6 (eTQ t' c')) (g2 : SC Try.prog 36 [pT, pC1, n64 now] 4 (sUQ x5.t x5.st x5.tm (phU x5.t x5.pe) (erU x5.t) c o) (.tup [.s (.int .u8 ((outR t' : Nat) : Int)), .s (.bool (outD t')), .s (.int .i64 ((outE t' : Nat) : Int))]) 6 (eUQ t' x5.st x5.tm (phU t' pe') (erU t') c' o')) :
    Ex Try.prog 2 (sub [1, 0, 0, 1, 1, 1, 1, 1] ((Try.f8.body.bind fstLoop).getD .skip)) (f9 (.s (.slc (some (0, oo)) nk cc)) v tm (.s (.slc (some (1, 0)) m none)) (va 6) (vb 6) now i) 25 ([(0, some (bRb ty mr C)), (1, some (bOp ty1 f m))] ++ ([(24, some (opB x))] ++ coQ c o) ++ TH [x0, x1, x2, x3, x4, x5]) (One .normal (f9 (.s (.slc (some (0, oo)) nk cc)) v tm (.s (.slc (some (1, 0)) m none)) (va 6) (vb 6) now i) 25 ([(0, some (bRb ty mr C)), (1, some (bOp ty1 f m))] ++ ([(24, some (opB x))] ++ coQ c' o') ++ TH [x0, x1, x2, x3, x4, ⟨t', pe', x5.st, x5.tm⟩])) := by
  have gm := mod_s x.k 6 (by decide) (by decide)
  rw [hk] at gm
  refine Ex.stage hm [0, 1, 2, 3, 4, 5, 6, 7, 8, 9, 10, 11, 12, 13, 14, 15, 16, 17, 18, 19, 25, 26, 27, 28, 24] [1, 2, 3, 4, 11, 13, 14, 15, 16, 17, 18] rfl rfl ⟨[.dec true, .call [] [.s (.int .i64 x.k), .s (.int .i64 ((6 : Nat) : Int))] [] (.s (.int .i64 ((5 : Nat) : Int))) 0 [], .idx 5, .call [13, 2, 20, 21] [pT, pC1, n64 now] (sTQ x5.t c) (.tup [.s (.int .u8 ((outR t' : Nat) : Int)), .s (.bool (outD t')), .s (.int .i64 ((outE t' : Nat) : Int))]) 6 (eTQ t' c'), .idx 5, .call [19, 3, 22, 23] [pT, pC1, n64 now] (sUQ x5.t x5.st x5.tm (phU x5.t x5.pe) (erU x5.t) c o) (.tup [.s (.int .u8 ((outR t' : Nat) : Int)), .s (.bool (outD t')), .s (.int .i64 ((outE t' : Nat) : Int))]) 6 (eUQ t' x5.st x5.tm (phU t' pe') (erU t') c' o'), .dec false, .dec false, .dec false], _, _, _, _, _, rfl, ?_, rfl, ⟨rfl, rfl, rfl, rfl, rfl, rfl, rfl, rfl, rfl, rfl, rfl, rfl, rfl, rfl, rfl, rfl, rfl, rfl, rfl, rfl, rfl, trivial⟩⟩
  simp only [true_and, and_true, and_assoc, decide_eq_true_eq, decide_eq_false_iff_not, ne_eq, beq_iff_eq, beq_eq_false_iff_ne, bne_eq_false_iff_eq, bne_iff_ne, bne_self_eq_false, beq_self_eq_true]
  repeat' apply And.intro
  all_goals first
    | exact True.intro
    | exact call0 gm rfl
    | exact ⟨g1, rfl, Fits.of rfl rfl ⟨⟨rfl, _, rfl, rfl, fun h => h⟩, ⟨rfl, _, rfl, rfl, fun h => h⟩, ⟨rfl, _, rfl, rfl, fun h => h⟩, trivial⟩⟩
    | exact ⟨g2, rfl, Fits.of rfl rfl ⟨⟨rfl, _, rfl, rfl, fun h => h⟩, ⟨rfl, _, rfl, rfl, fun h => h⟩, ⟨rfl, _, rfl, rfl, fun h => h⟩, trivial⟩⟩
    | (with_reducible show _ = true; kernel_rfl)
    | (with_reducible exact rfl)
    | decide
    | omega
    | rfl
    | exact bne_self_eq_false' _

end Go.Proofs.Ytimebhllnemnbaa
