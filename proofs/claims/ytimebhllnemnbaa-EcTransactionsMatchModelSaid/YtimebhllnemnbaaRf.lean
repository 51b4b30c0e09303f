/-
  EcTransactionsMatchModel: transactions are made.
-/
import Derived.Test.YtimebhllnemnbaaRc
set_option linter.unusedSimpArgs false
set_option linter.unusedVariables false
namespace Go.Proofs.Ytimebhllnemnbaa
open Go Ab
set_option maxRecDepth 100000

theorem crN0_0 (ty : TypeId) (mr : Bool) (C : List S) (oo nk : Nat) (cc : Option Nat) (v tm m : Nat) (ty1 : TypeId) (f : Nat → OpV) (now i : Nat) (x : OpV) (c : Cq) (o : Nat) (kd : Nat) (hk : i < nk) (hld : ldAt false 1 (bRb ty mr C) (plus oo i) = some (.s (.int .u8 ((kd : Nat) : Int)))) (h3 : kd % 3 = 0) (hkd : kd / 3 % 3 = 0) (hb : kd < 256) (hx : x.ok) (hn : now < 2 ^ 64) (htm : tm < 2 ^ 64) :
    Ex Try.prog 2 (sub [1, 0, 0, 1, 1, 0] ((Try.f8.body.bind fstLoop).getD .skip)) (f9 (.s (.slc (some (0, oo)) nk cc)) v tm (.s (.slc (some (1, 0)) m none)) (va 0) (vb 0) now i) 25 ([(0, some (bRb ty mr C)), (1, some (bOp ty1 f m))] ++ ([(24, some (opB x))] ++ coN c o) ++ TH []) (One .normal (f9 (.s (.slc (some (0, oo)) nk cc)) v tm (.s (.slc (some (1, 0)) m none)) (va 1) (vb 1) now i) 25 ([(0, some (bRb ty mr C)), (1, some (bOp ty1 f m))] ++ ([(24, some (opB x))] ++ coN c o) ++ TH [⟨tR (valM x.r false) now tm, 0, now, tm⟩])) := by
  have m3 : Int.tmod ((kd : Nat) : Int) 3 = ((kd % 3 : Nat) : Int) := rfl
  have m4 : Int.tmod ((kd / 3 : Nat) : Int) 3 = ((kd / 3 % 3 : Nat) : Int) := rfl
  have d3 : Int.tdiv ((kd : Nat) : Int) 3 = ((kd / 3 : Nat) : Int) := rfl
  have w3 : IntKind.u8.wrap ((kd / 3 : Nat) : Int) = ((kd / 3 : Nat) : Int) := by rw [u8_in] <;> omega
  have gv := value_s x.r false hx.r
  have g1 := read_s (valM x.r false) now tm hn htm
  have g2 := rread_s (valM x.r false) now tm
  refine Ex.stage hm [0, 1, 2, 3, 27, 28, 31, 32, 25, 9, 10, 11, 12, 13, 29, 15, 16, 17, 18, 19, 20, 21, 22, 23, 24] [1, 2, 3, 4, 11, 13, 14, 15, 16, 17, 18] rfl rfl ⟨[.dec true, .idx i, .val (n8 kd), .num ((kd % 3 : Nat) : Int), .dec true, .dec true, .call [] [n8 x.r, .s (.bool false)] [] (n8 (valM x.r false)) 0 [], .idx i, .val (n8 kd), .num ((kd / 3 : Nat) : Int), .num ((kd / 3 % 3 : Nat) : Int), .dec true, .call [] [n8 (valM x.r false), n64 now, n64 tm] [] (.s (.ptr (some (0, 0)))) 1 [(0, some (bT (tR (valM x.r false) now tm)))], .call [] [n8 (valM x.r false), n64 now, n64 tm] [] (.s (.ptr (some (0, 0)))) 1 [(0, some (uB ⟨tR (valM x.r false) now tm, 0, now, tm⟩))]], _, _, _, _, _, rfl, ?_, rfl, ⟨rfl, rfl, rfl, rfl, rfl, rfl, rfl, rfl, rfl, trivial⟩⟩
  simp only [true_and, and_true, and_assoc, decide_eq_true_eq, decide_eq_false_iff_not, ne_eq, beq_iff_eq, beq_eq_false_iff_ne, bne_eq_false_iff_eq, bne_iff_ne, bne_self_eq_false, beq_self_eq_true]
  have e1 : Try.prog.types[30].size = 1 := by kernel_rfl
  have e2 : Try.prog.types[30].bytes = 8 := by kernel_rfl
  have e3 : Try.prog.types[56].size = 1 := by kernel_rfl
  have e4 : Try.prog.types[56].bytes = 8 := by kernel_rfl
  repeat' apply And.intro
  all_goals try rw [e1]
  all_goals try rw [e2]
  all_goals try rw [e3]
  all_goals try rw [e4]
  all_goals first
    | exact True.intro
    | exact hld
    | exact xa hk
    | exact call0 gv rfl
    | exact call0 g1 rfl
    | exact call0 g2 rfl
    | (with_reducible show _ = true; kernel_rfl)
    | (with_reducible exact rfl)
    | (rw [d3]; exact w3)
    | exact Nat.le_refl _
    | omega
    | decide
    | rfl
    | (intro e; cases e)
    | (intro _; exact Nat.le_refl _)
theorem crN0_1 (ty : TypeId) (mr : Bool) (C : List S) (oo nk : Nat) (cc : Option Nat) (v tm m : Nat) (ty1 : TypeId) (f : Nat → OpV) (now i : Nat) (x : OpV) (c : Cq) (o : Nat) (kd : Nat) (hk : i < nk) (hld : ldAt false 1 (bRb ty mr C) (plus oo i) = some (.s (.int .u8 ((kd : Nat) : Int)))) (h3 : kd % 3 = 0) (hkd : kd / 3 % 3 = 1) (hb : kd < 256) (hx : x.ok) (hn : now < 2 ^ 64) (htm : tm < 2 ^ 64) :
    Ex Try.prog 2 (sub [1, 0, 0, 1, 1, 0] ((Try.f8.body.bind fstLoop).getD .skip)) (f9 (.s (.slc (some (0, oo)) nk cc)) v tm (.s (.slc (some (1, 0)) m none)) (va 0) (vb 0) now i) 25 ([(0, some (bRb ty mr C)), (1, some (bOp ty1 f m))] ++ ([(24, some (opB x))] ++ coN c o) ++ TH []) (One .normal (f9 (.s (.slc (some (0, oo)) nk cc)) v tm (.s (.slc (some (1, 0)) m none)) (va 1) (vb 1) now i) 25 ([(0, some (bRb ty mr C)), (1, some (bOp ty1 f m))] ++ ([(24, some (opB x))] ++ coN c o) ++ TH [⟨tW (valM x.r false) x.v now tm, 0, now, tm⟩])) := by
  have m3 : Int.tmod ((kd : Nat) : Int) 3 = ((kd % 3 : Nat) : Int) := rfl
  have m4 : Int.tmod ((kd / 3 : Nat) : Int) 3 = ((kd / 3 % 3 : Nat) : Int) := rfl
  have d3 : Int.tdiv ((kd : Nat) : Int) 3 = ((kd / 3 : Nat) : Int) := rfl
  have w3 : IntKind.u8.wrap ((kd / 3 : Nat) : Int) = ((kd / 3 : Nat) : Int) := by rw [u8_in] <;> omega
  have gv := value_s x.r false hx.r
  have g1 := writeT_s (valM x.r false) x.v now tm hn htm
  have g2 := rwriteT_s (valM x.r false) x.v now tm
  refine Ex.stage hm [0, 1, 2, 3, 27, 28, 31, 32, 25, 9, 10, 11, 12, 13, 29, 15, 16, 17, 18, 19, 20, 21, 22, 23, 24] [1, 2, 3, 4, 11, 13, 14, 15, 16, 17, 18] rfl rfl ⟨[.dec true, .idx i, .val (n8 kd), .num ((kd % 3 : Nat) : Int), .dec true, .dec true, .call [] [n8 x.r, .s (.bool false)] [] (n8 (valM x.r false)) 0 [], .idx i, .val (n8 kd), .num ((kd / 3 : Nat) : Int), .num ((kd / 3 % 3 : Nat) : Int), .dec false, .dec true, .call [] [n8 (valM x.r false), n8 x.v, n64 now, n64 tm] [] (.s (.ptr (some (0, 0)))) 1 [(0, some (bT (tW (valM x.r false) x.v now tm)))], .call [] [n8 (valM x.r false), n8 x.v, n64 now, n64 tm] [] (.s (.ptr (some (0, 0)))) 1 [(0, some (uB ⟨tW (valM x.r false) x.v now tm, 0, now, tm⟩))]], _, _, _, _, _, rfl, ?_, rfl, ⟨rfl, rfl, rfl, rfl, rfl, rfl, rfl, rfl, rfl, trivial⟩⟩
  simp only [true_and, and_true, and_assoc, decide_eq_true_eq, decide_eq_false_iff_not, ne_eq, beq_iff_eq, beq_eq_false_iff_ne, bne_eq_false_iff_eq, bne_iff_ne, bne_self_eq_false, beq_self_eq_true]
  have e1 : Try.prog.types[30].size = 1 := by kernel_rfl
  have e2 : Try.prog.types[30].bytes = 8 := by kernel_rfl
  have e3 : Try.prog.types[56].size = 1 := by kernel_rfl
  have e4 : Try.prog.types[56].bytes = 8 := by kernel_rfl
  repeat' apply And.intro
  all_goals try rw [e1]
  all_goals try rw [e2]
  all_goals try rw [e3]
  all_goals try rw [e4]
  all_goals first
    | exact True.intro
    | exact hld
    | exact xa hk
    | exact call0 gv rfl
    | exact call0 g1 rfl
    | exact call0 g2 rfl
    | (with_reducible show _ = true; kernel_rfl)
    | (with_reducible exact rfl)
    | (rw [d3]; exact w3)
    | exact Nat.le_refl _
    | omega
    | decide
    | rfl
    | (intro e; cases e)
    | (intro _; exact Nat.le_refl _)
theorem crN0_2 (ty : TypeId) (mr : Bool) (C : List S) (oo nk : Nat) (cc : Option Nat) (v tm m : Nat) (ty1 : TypeId) (f : Nat → OpV) (now i : Nat) (x : OpV) (c : Cq) (o : Nat) (kd : Nat) (hk : i < nk) (hld : ldAt false 1 (bRb ty mr C) (plus oo i) = some (.s (.int .u8 ((kd : Nat) : Int)))) (h3 : kd % 3 = 0) (hkd : kd / 3 % 3 = 2) (hb : kd < 256) (hx : x.ok) (hn : now < 2 ^ 64) (htm : tm < 2 ^ 64) :
    Ex Try.prog 2 (sub [1, 0, 0, 1, 1, 0] ((Try.f8.body.bind fstLoop).getD .skip)) (f9 (.s (.slc (some (0, oo)) nk cc)) v tm (.s (.slc (some (1, 0)) m none)) (va 0) (vb 0) now i) 25 ([(0, some (bRb ty mr C)), (1, some (bOp ty1 f m))] ++ ([(24, some (opB x))] ++ coN c o) ++ TH []) (One .normal (f9 (.s (.slc (some (0, oo)) nk cc)) v tm (.s (.slc (some (1, 0)) m none)) (va 1) (vb 1) now i) 25 ([(0, some (bRb ty mr C)), (1, some (bOp ty1 f m))] ++ ([(24, some (opB x))] ++ coN c o) ++ TH [⟨tQ now tm, 0, now, tm⟩])) := by
  have m3 : Int.tmod ((kd : Nat) : Int) 3 = ((kd % 3 : Nat) : Int) := rfl
  have m4 : Int.tmod ((kd / 3 : Nat) : Int) 3 = ((kd / 3 % 3 : Nat) : Int) := rfl
  have d3 : Int.tdiv ((kd : Nat) : Int) 3 = ((kd / 3 : Nat) : Int) := rfl
  have w3 : IntKind.u8.wrap ((kd / 3 : Nat) : Int) = ((kd / 3 : Nat) : Int) := by rw [u8_in] <;> omega
  have gv := value_s x.r false hx.r
  have g1 := qry_s now tm hn htm
  have g2 := rqry_s now tm
  refine Ex.stage hm [0, 1, 2, 3, 27, 28, 31, 32, 25, 9, 10, 11, 12, 13, 29, 15, 16, 17, 18, 19, 20, 21, 22, 23, 24] [1, 2, 3, 4, 11, 13, 14, 15, 16, 17, 18] rfl rfl ⟨[.dec true, .idx i, .val (n8 kd), .num ((kd % 3 : Nat) : Int), .dec true, .dec true, .call [] [n8 x.r, .s (.bool false)] [] (n8 (valM x.r false)) 0 [], .idx i, .val (n8 kd), .num ((kd / 3 : Nat) : Int), .num ((kd / 3 % 3 : Nat) : Int), .dec false, .dec false, .call [] [n64 now, n64 tm] [] (.s (.ptr (some (0, 0)))) 1 [(0, some (bT (tQ now tm)))], .call [] [n64 now, n64 tm] [] (.s (.ptr (some (0, 0)))) 1 [(0, some (uB ⟨tQ now tm, 0, now, tm⟩))]], _, _, _, _, _, rfl, ?_, rfl, ⟨rfl, rfl, rfl, rfl, rfl, rfl, rfl, rfl, rfl, trivial⟩⟩
  simp only [true_and, and_true, and_assoc, decide_eq_true_eq, decide_eq_false_iff_not, ne_eq, beq_iff_eq, beq_eq_false_iff_ne, bne_eq_false_iff_eq, bne_iff_ne, bne_self_eq_false, beq_self_eq_true]
  have e1 : Try.prog.types[30].size = 1 := by kernel_rfl
  have e2 : Try.prog.types[30].bytes = 8 := by kernel_rfl
  have e3 : Try.prog.types[56].size = 1 := by kernel_rfl
  have e4 : Try.prog.types[56].bytes = 8 := by kernel_rfl
  repeat' apply And.intro
  all_goals try rw [e1]
  all_goals try rw [e2]
  all_goals try rw [e3]
  all_goals try rw [e4]
  all_goals first
    | exact True.intro
    | exact hld
    | exact xa hk
    | exact call0 gv rfl
    | exact call0 g1 rfl
    | exact call0 g2 rfl
    | (with_reducible show _ = true; kernel_rfl)
    | (with_reducible exact rfl)
    | (rw [d3]; exact w3)
    | exact Nat.le_refl _
    | omega
    | decide
    | rfl
    | (intro e; cases e)
    | (intro _; exact Nat.le_refl _)
theorem crN1_0 (ty : TypeId) (mr : Bool) (C : List S) (oo nk : Nat) (cc : Option Nat) (v tm m : Nat) (ty1 : TypeId) (f : Nat → OpV) (now i : Nat) (x : OpV) (c : Cq) (o : Nat) (x0 : Tx) (kd : Nat) (hk : i < nk) (hld : ldAt false 1 (bRb ty mr C) (plus oo i) = some (.s (.int .u8 ((kd : Nat) : Int)))) (h3 : kd % 3 = 0) (hkd : kd / 3 % 3 = 0) (hb : kd < 256) (hx : x.ok) (hn : now < 2 ^ 64) (htm : tm < 2 ^ 64) :
    Ex Try.prog 2 (sub [1, 0, 0, 1, 1, 0] ((Try.f8.body.bind fstLoop).getD .skip)) (f9 (.s (.slc (some (0, oo)) nk cc)) v tm (.s (.slc (some (1, 0)) m none)) (va 1) (vb 1) now i) 25 ([(0, some (bRb ty mr C)), (1, some (bOp ty1 f m))] ++ ([(24, some (opB x))] ++ coN c o) ++ TH [x0]) (One .normal (f9 (.s (.slc (some (0, oo)) nk cc)) v tm (.s (.slc (some (1, 0)) m none)) (va 2) (vb 2) now i) 25 ([(0, some (bRb ty mr C)), (1, some (bOp ty1 f m))] ++ ([(24, some (opB x))] ++ coN c o) ++ TH [x0, ⟨tR (valM x.r false) now tm, 0, now, tm⟩])) := by
  have m3 : Int.tmod ((kd : Nat) : Int) 3 = ((kd % 3 : Nat) : Int) := rfl
  have m4 : Int.tmod ((kd / 3 : Nat) : Int) 3 = ((kd / 3 % 3 : Nat) : Int) := rfl
  have d3 : Int.tdiv ((kd : Nat) : Int) 3 = ((kd / 3 : Nat) : Int) := rfl
  have w3 : IntKind.u8.wrap ((kd / 3 : Nat) : Int) = ((kd / 3 : Nat) : Int) := by rw [u8_in] <;> omega
  have gv := value_s x.r false hx.r
  have g1 := read_s (valM x.r false) now tm hn htm
  have g2 := rread_s (valM x.r false) now tm
  refine Ex.stage hm [0, 1, 2, 3, 27, 28, 31, 32, 8, 25, 10, 11, 12, 13, 14, 29, 16, 17, 18, 19, 20, 21, 22, 23, 24] [1, 2, 3, 4, 11, 13, 14, 15, 16, 17, 18] rfl rfl ⟨[.dec true, .idx i, .val (n8 kd), .num ((kd % 3 : Nat) : Int), .dec true, .dec true, .call [] [n8 x.r, .s (.bool false)] [] (n8 (valM x.r false)) 0 [], .idx i, .val (n8 kd), .num ((kd / 3 : Nat) : Int), .num ((kd / 3 % 3 : Nat) : Int), .dec true, .call [] [n8 (valM x.r false), n64 now, n64 tm] [] (.s (.ptr (some (0, 0)))) 1 [(0, some (bT (tR (valM x.r false) now tm)))], .call [] [n8 (valM x.r false), n64 now, n64 tm] [] (.s (.ptr (some (0, 0)))) 1 [(0, some (uB ⟨tR (valM x.r false) now tm, 0, now, tm⟩))]], _, _, _, _, _, rfl, ?_, rfl, ⟨rfl, rfl, rfl, rfl, rfl, rfl, rfl, rfl, rfl, rfl, rfl, trivial⟩⟩
  simp only [true_and, and_true, and_assoc, decide_eq_true_eq, decide_eq_false_iff_not, ne_eq, beq_iff_eq, beq_eq_false_iff_ne, bne_eq_false_iff_eq, bne_iff_ne, bne_self_eq_false, beq_self_eq_true]
  have e1 : Try.prog.types[30].size = 1 := by kernel_rfl
  have e2 : Try.prog.types[30].bytes = 8 := by kernel_rfl
  have e3 : Try.prog.types[56].size = 1 := by kernel_rfl
  have e4 : Try.prog.types[56].bytes = 8 := by kernel_rfl
  repeat' apply And.intro
  all_goals try rw [e1]
  all_goals try rw [e2]
  all_goals try rw [e3]
  all_goals try rw [e4]
  all_goals first
    | exact True.intro
    | exact hld
    | exact xa hk
    | exact call0 gv rfl
    | exact call0 g1 rfl
    | exact call0 g2 rfl
    | (with_reducible show _ = true; kernel_rfl)
    | (with_reducible exact rfl)
    | (rw [d3]; exact w3)
    | exact Nat.le_refl _
    | omega
    | decide
    | rfl
    | (intro e; cases e)
    | (intro _; exact Nat.le_refl _)
theorem crN1_1 (ty : TypeId) (mr : Bool) (C : List S) (oo nk : Nat) (cc : Option Nat) (v tm m : Nat) (ty1 : TypeId) (f : Nat → OpV) (now i : Nat) (x : OpV) (c : Cq) (o : Nat) (x0 : Tx) (kd : Nat) (hk : i < nk) (hld : ldAt false 1 (bRb ty mr C) (plus oo i) = some (.s (.int .u8 ((kd : Nat) : Int)))) (h3 : kd % 3 = 0) (hkd : kd / 3 % 3 = 1) (hb : kd < 256) (hx : x.ok) (hn : now < 2 ^ 64) (htm : tm < 2 ^ 64) :
    Ex Try.prog 2 (sub [1, 0, 0, 1, 1, 0] ((Try.f8.body.bind fstLoop).getD .skip)) (f9 (.s (.slc (some (0, oo)) nk cc)) v tm (.s (.slc (some (1, 0)) m none)) (va 1) (vb 1) now i) 25 ([(0, some (bRb ty mr C)), (1, some (bOp ty1 f m))] ++ ([(24, some (opB x))] ++ coN c o) ++ TH [x0]) (One .normal (f9 (.s (.slc (some (0, oo)) nk cc)) v tm (.s (.slc (some (1, 0)) m none)) (va 2) (vb 2) now i) 25 ([(0, some (bRb ty mr C)), (1, some (bOp ty1 f m))] ++ ([(24, some (opB x))] ++ coN c o) ++ TH [x0, ⟨tW (valM x.r false) x.v now tm, 0, now, tm⟩])) := by
  have m3 : Int.tmod ((kd : Nat) : Int) 3 = ((kd % 3 : Nat) : Int) := rfl
  have m4 : Int.tmod ((kd / 3 : Nat) : Int) 3 = ((kd / 3 % 3 : Nat) : Int) := rfl
  have d3 : Int.tdiv ((kd : Nat) : Int) 3 = ((kd / 3 : Nat) : Int) := rfl
  have w3 : IntKind.u8.wrap ((kd / 3 : Nat) : Int) = ((kd / 3 : Nat) : Int) := by rw [u8_in] <;> omega
  have gv := value_s x.r false hx.r
  have g1 := writeT_s (valM x.r false) x.v now tm hn htm
  have g2 := rwriteT_s (valM x.r false) x.v now tm
  refine Ex.stage hm [0, 1, 2, 3, 27, 28, 31, 32, 8, 25, 10, 11, 12, 13, 14, 29, 16, 17, 18, 19, 20, 21, 22, 23, 24] [1, 2, 3, 4, 11, 13, 14, 15, 16, 17, 18] rfl rfl ⟨[.dec true, .idx i, .val (n8 kd), .num ((kd % 3 : Nat) : Int), .dec true, .dec true, .call [] [n8 x.r, .s (.bool false)] [] (n8 (valM x.r false)) 0 [], .idx i, .val (n8 kd), .num ((kd / 3 : Nat) : Int), .num ((kd / 3 % 3 : Nat) : Int), .dec false, .dec true, .call [] [n8 (valM x.r false), n8 x.v, n64 now, n64 tm] [] (.s (.ptr (some (0, 0)))) 1 [(0, some (bT (tW (valM x.r false) x.v now tm)))], .call [] [n8 (valM x.r false), n8 x.v, n64 now, n64 tm] [] (.s (.ptr (some (0, 0)))) 1 [(0, some (uB ⟨tW (valM x.r false) x.v now tm, 0, now, tm⟩))]], _, _, _, _, _, rfl, ?_, rfl, ⟨rfl, rfl, rfl, rfl, rfl, rfl, rfl, rfl, rfl, rfl, rfl, trivial⟩⟩
  simp only [true_and, and_true, and_assoc, decide_eq_true_eq, decide_eq_false_iff_not, ne_eq, beq_iff_eq, beq_eq_false_iff_ne, bne_eq_false_iff_eq, bne_iff_ne, bne_self_eq_false, beq_self_eq_true]
  have e1 : Try.prog.types[30].size = 1 := by kernel_rfl
  have e2 : Try.prog.types[30].bytes = 8 := by kernel_rfl
  have e3 : Try.prog.types[56].size = 1 := by kernel_rfl
  have e4 : Try.prog.types[56].bytes = 8 := by kernel_rfl
  repeat' apply And.intro
  all_goals try rw [e1]
  all_goals try rw [e2]
  all_goals try rw [e3]
  all_goals try rw [e4]
  all_goals first
    | exact True.intro
    | exact hld
    | exact xa hk
    | exact call0 gv rfl
    | exact call0 g1 rfl
    | exact call0 g2 rfl
    | (with_reducible show _ = true; kernel_rfl)
    | (with_reducible exact rfl)
    | (rw [d3]; exact w3)
    | exact Nat.le_refl _
    | omega
    | decide
    | rfl
    | (intro e; cases e)
    | (intro _; exact Nat.le_refl _)
theorem crN1_2 (ty : TypeId) (mr : Bool) (C : List S) (oo nk : Nat) (cc : Option Nat) (v tm m : Nat) (ty1 : TypeId) (f : Nat → OpV) (now i : Nat) (x : OpV) (c : Cq) (o : Nat) (x0 : Tx) (kd : Nat) (hk : i < nk) (hld : ldAt false 1 (bRb ty mr C) (plus oo i) = some (.s (.int .u8 ((kd : Nat) : Int)))) (h3 : kd % 3 = 0) (hkd : kd / 3 % 3 = 2) (hb : kd < 256) (hx : x.ok) (hn : now < 2 ^ 64) (htm : tm < 2 ^ 64) :
    Ex Try.prog 2 (sub [1, 0, 0, 1, 1, 0] ((Try.f8.body.bind fstLoop).getD .skip)) (f9 (.s (.slc (some (0, oo)) nk cc)) v tm (.s (.slc (some (1, 0)) m none)) (va 1) (vb 1) now i) 25 ([(0, some (bRb ty mr C)), (1, some (bOp ty1 f m))] ++ ([(24, some (opB x))] ++ coN c o) ++ TH [x0]) (One .normal (f9 (.s (.slc (some (0, oo)) nk cc)) v tm (.s (.slc (some (1, 0)) m none)) (va 2) (vb 2) now i) 25 ([(0, some (bRb ty mr C)), (1, some (bOp ty1 f m))] ++ ([(24, some (opB x))] ++ coN c o) ++ TH [x0, ⟨tQ now tm, 0, now, tm⟩])) := by
  have m3 : Int.tmod ((kd : Nat) : Int) 3 = ((kd % 3 : Nat) : Int) := rfl
  have m4 : Int.tmod ((kd / 3 : Nat) : Int) 3 = ((kd / 3 % 3 : Nat) : Int) := rfl
  have d3 : Int.tdiv ((kd : Nat) : Int) 3 = ((kd / 3 : Nat) : Int) := rfl
  have w3 : IntKind.u8.wrap ((kd / 3 : Nat) : Int) = ((kd / 3 : Nat) : Int) := by rw [u8_in] <;> omega
  have gv := value_s x.r false hx.r
  have g1 := qry_s now tm hn htm
  have g2 := rqry_s now tm
  refine Ex.stage hm [0, 1, 2, 3, 27, 28, 31, 32, 8, 25, 10, 11, 12, 13, 14, 29, 16, 17, 18, 19, 20, 21, 22, 23, 24] [1, 2, 3, 4, 11, 13, 14, 15, 16, 17, 18] rfl rfl ⟨[.dec true, .idx i, .val (n8 kd), .num ((kd % 3 : Nat) : Int), .dec true, .dec true, .call [] [n8 x.r, .s (.bool false)] [] (n8 (valM x.r false)) 0 [], .idx i, .val (n8 kd), .num ((kd / 3 : Nat) : Int), .num ((kd / 3 % 3 : Nat) : Int), .dec false, .dec false, .call [] [n64 now, n64 tm] [] (.s (.ptr (some (0, 0)))) 1 [(0, some (bT (tQ now tm)))], .call [] [n64 now, n64 tm] [] (.s (.ptr (some (0, 0)))) 1 [(0, some (uB ⟨tQ now tm, 0, now, tm⟩))]], _, _, _, _, _, rfl, ?_, rfl, ⟨rfl, rfl, rfl, rfl, rfl, rfl, rfl, rfl, rfl, rfl, rfl, trivial⟩⟩
  simp only [true_and, and_true, and_assoc, decide_eq_true_eq, decide_eq_false_iff_not, ne_eq, beq_iff_eq, beq_eq_false_iff_ne, bne_eq_false_iff_eq, bne_iff_ne, bne_self_eq_false, beq_self_eq_true]
  have e1 : Try.prog.types[30].size = 1 := by kernel_rfl
  have e2 : Try.prog.types[30].bytes = 8 := by kernel_rfl
  have e3 : Try.prog.types[56].size = 1 := by kernel_rfl
  have e4 : Try.prog.types[56].bytes = 8 := by kernel_rfl
  repeat' apply And.intro
  all_goals try rw [e1]
  all_goals try rw [e2]
  all_goals try rw [e3]
  all_goals try rw [e4]
  all_goals first
    | exact True.intro
    | exact hld
    | exact xa hk
    | exact call0 gv rfl
    | exact call0 g1 rfl
    | exact call0 g2 rfl
    | (with_reducible show _ = true; kernel_rfl)
    | (with_reducible exact rfl)
    | (rw [d3]; exact w3)
    | exact Nat.le_refl _
    | omega
    | decide
    | rfl
    | (intro e; cases e)
    | (intro _; exact Nat.le_refl _)
theorem crN2_0 (ty : TypeId) (mr : Bool) (C : List S) (oo nk : Nat) (cc : Option Nat) (v tm m : Nat) (ty1 : TypeId) (f : Nat → OpV) (now i : Nat) (x : OpV) (c : Cq) (o : Nat) (x0 x1 : Tx) (kd : Nat) (hk : i < nk) (hld : ldAt false 1 (bRb ty mr C) (plus oo i) = some (.s (.int .u8 ((kd : Nat) : Int)))) (h3 : kd % 3 = 0) (hkd : kd / 3 % 3 = 0) (hb : kd < 256) (hx : x.ok) (hn : now < 2 ^ 64) (htm : tm < 2 ^ 64) :
    Ex Try.prog 2 (sub [1, 0, 0, 1, 1, 0] ((Try.f8.body.bind fstLoop).getD .skip)) (f9 (.s (.slc (some (0, oo)) nk cc)) v tm (.s (.slc (some (1, 0)) m none)) (va 2) (vb 2) now i) 25 ([(0, some (bRb ty mr C)), (1, some (bOp ty1 f m))] ++ ([(24, some (opB x))] ++ coN c o) ++ TH [x0, x1]) (One .normal (f9 (.s (.slc (some (0, oo)) nk cc)) v tm (.s (.slc (some (1, 0)) m none)) (va 3) (vb 3) now i) 25 ([(0, some (bRb ty mr C)), (1, some (bOp ty1 f m))] ++ ([(24, some (opB x))] ++ coN c o) ++ TH [x0, x1, ⟨tR (valM x.r false) now tm, 0, now, tm⟩])) := by
  have m3 : Int.tmod ((kd : Nat) : Int) 3 = ((kd % 3 : Nat) : Int) := rfl
  have m4 : Int.tmod ((kd / 3 : Nat) : Int) 3 = ((kd / 3 % 3 : Nat) : Int) := rfl
  have d3 : Int.tdiv ((kd : Nat) : Int) 3 = ((kd / 3 : Nat) : Int) := rfl
  have w3 : IntKind.u8.wrap ((kd / 3 : Nat) : Int) = ((kd / 3 : Nat) : Int) := by rw [u8_in] <;> omega
  have gv := value_s x.r false hx.r
  have g1 := read_s (valM x.r false) now tm hn htm
  have g2 := rread_s (valM x.r false) now tm
  refine Ex.stage hm [0, 1, 2, 3, 27, 28, 31, 32, 8, 9, 25, 11, 12, 13, 14, 15, 29, 17, 18, 19, 20, 21, 22, 23, 24] [1, 2, 3, 4, 11, 13, 14, 15, 16, 17, 18] rfl rfl ⟨[.dec true, .idx i, .val (n8 kd), .num ((kd % 3 : Nat) : Int), .dec true, .dec true, .call [] [n8 x.r, .s (.bool false)] [] (n8 (valM x.r false)) 0 [], .idx i, .val (n8 kd), .num ((kd / 3 : Nat) : Int), .num ((kd / 3 % 3 : Nat) : Int), .dec true, .call [] [n8 (valM x.r false), n64 now, n64 tm] [] (.s (.ptr (some (0, 0)))) 1 [(0, some (bT (tR (valM x.r false) now tm)))], .call [] [n8 (valM x.r false), n64 now, n64 tm] [] (.s (.ptr (some (0, 0)))) 1 [(0, some (uB ⟨tR (valM x.r false) now tm, 0, now, tm⟩))]], _, _, _, _, _, rfl, ?_, rfl, ⟨rfl, rfl, rfl, rfl, rfl, rfl, rfl, rfl, rfl, rfl, rfl, rfl, rfl, trivial⟩⟩
  simp only [true_and, and_true, and_assoc, decide_eq_true_eq, decide_eq_false_iff_not, ne_eq, beq_iff_eq, beq_eq_false_iff_ne, bne_eq_false_iff_eq, bne_iff_ne, bne_self_eq_false, beq_self_eq_true]
  have e1 : Try.prog.types[30].size = 1 := by kernel_rfl
  have e2 : Try.prog.types[30].bytes = 8 := by kernel_rfl
  have e3 : Try.prog.types[56].size = 1 := by kernel_rfl
  have e4 : Try.prog.types[56].bytes = 8 := by kernel_rfl
  repeat' apply And.intro
  all_goals try rw [e1]
  all_goals try rw [e2]
  all_goals try rw [e3]
  all_goals try rw [e4]
  all_goals first
    | exact True.intro
    | exact hld
    | exact xa hk
    | exact call0 gv rfl
    | exact call0 g1 rfl
    | exact call0 g2 rfl
    | (with_reducible show _ = true; kernel_rfl)
    | (with_reducible exact rfl)
    | (rw [d3]; exact w3)
    | exact Nat.le_refl _
    | omega
    | decide
    | rfl
    | (intro e; cases e)
    | (intro _; exact Nat.le_refl _)
theorem crN2_1 (ty : TypeId) (mr : Bool) (C : List S) (oo nk : Nat) (cc : Option Nat) (v tm m : Nat) (ty1 : TypeId) (f : Nat → OpV) (now i : Nat) (x : OpV) (c : Cq) (o : Nat) (x0 x1 : Tx) (kd : Nat) (hk : i < nk) (hld : ldAt false 1 (bRb ty mr C) (plus oo i) = some (.s (.int .u8 ((kd : Nat) : Int)))) (h3 : kd % 3 = 0) (hkd : kd / 3 % 3 = 1) (hb : kd < 256) (hx : x.ok) (hn : now < 2 ^ 64) (htm : tm < 2 ^ 64) :
    Ex Try.prog 2 (sub [1, 0, 0, 1, 1, 0] ((Try.f8.body.bind fstLoop).getD .skip)) (f9 (.s (.slc (some (0, oo)) nk cc)) v tm (.s (.slc (some (1, 0)) m none)) (va 2) (vb 2) now i) 25 ([(0, some (bRb ty mr C)), (1, some (bOp ty1 f m))] ++ ([(24, some (opB x))] ++ coN c o) ++ TH [x0, x1]) (One .normal (f9 (.s (.slc (some (0, oo)) nk cc)) v tm (.s (.slc (some (1, 0)) m none)) (va 3) (vb 3) now i) 25 ([(0, some (bRb ty mr C)), (1, some (bOp ty1 f m))] ++ ([(24, some (opB x))] ++ coN c o) ++ TH [x0, x1, ⟨tW (valM x.r false) x.v now tm, 0, now, tm⟩])) := by
  have m3 : Int.tmod ((kd : Nat) : Int) 3 = ((kd % 3 : Nat) : Int) := rfl
  have m4 : Int.tmod ((kd / 3 : Nat) : Int) 3 = ((kd / 3 % 3 : Nat) : Int) := rfl
  have d3 : Int.tdiv ((kd : Nat) : Int) 3 = ((kd / 3 : Nat) : Int) := rfl
  have w3 : IntKind.u8.wrap ((kd / 3 : Nat) : Int) = ((kd / 3 : Nat) : Int) := by rw [u8_in] <;> omega
  have gv := value_s x.r false hx.r
  have g1 := writeT_s (valM x.r false) x.v now tm hn htm
  have g2 := rwriteT_s (valM x.r false) x.v now tm
  refine Ex.stage hm [0, 1, 2, 3, 27, 28, 31, 32, 8, 9, 25, 11, 12, 13, 14, 15, 29, 17, 18, 19, 20, 21, 22, 23, 24] [1, 2, 3, 4, 11, 13, 14, 15, 16, 17, 18] rfl rfl ⟨[.dec true, .idx i, .val (n8 kd), .num ((kd % 3 : Nat) : Int), .dec true, .dec true, .call [] [n8 x.r, .s (.bool false)] [] (n8 (valM x.r false)) 0 [], .idx i, .val (n8 kd), .num ((kd / 3 : Nat) : Int), .num ((kd / 3 % 3 : Nat) : Int), .dec false, .dec true, .call [] [n8 (valM x.r false), n8 x.v, n64 now, n64 tm] [] (.s (.ptr (some (0, 0)))) 1 [(0, some (bT (tW (valM x.r false) x.v now tm)))], .call [] [n8 (valM x.r false), n8 x.v, n64 now, n64 tm] [] (.s (.ptr (some (0, 0)))) 1 [(0, some (uB ⟨tW (valM x.r false) x.v now tm, 0, now, tm⟩))]], _, _, _, _, _, rfl, ?_, rfl, ⟨rfl, rfl, rfl, rfl, rfl, rfl, rfl, rfl, rfl, rfl, rfl, rfl, rfl, trivial⟩⟩
  simp only [true_and, and_true, and_assoc, decide_eq_true_eq, decide_eq_false_iff_not, ne_eq, beq_iff_eq, beq_eq_false_iff_ne, bne_eq_false_iff_eq, bne_iff_ne, bne_self_eq_false, beq_self_eq_true]
  have e1 : Try.prog.types[30].size = 1 := by kernel_rfl
  have e2 : Try.prog.types[30].bytes = 8 := by kernel_rfl
  have e3 : Try.prog.types[56].size = 1 := by kernel_rfl
  have e4 : Try.prog.types[56].bytes = 8 := by kernel_rfl
  repeat' apply And.intro
  all_goals try rw [e1]
  all_goals try rw [e2]
  all_goals try rw [e3]
  all_goals try rw [e4]
  all_goals first
    | exact True.intro
    | exact hld
    | exact xa hk
    | exact call0 gv rfl
    | exact call0 g1 rfl
    | exact call0 g2 rfl
    | (with_reducible show _ = true; kernel_rfl)
    | (with_reducible exact rfl)
    | (rw [d3]; exact w3)
    | exact Nat.le_refl _
    | omega
    | decide
    | rfl
    | (intro e; cases e)
    | (intro _; exact Nat.le_refl _)
theorem crN2_2 (ty : TypeId) (mr : Bool) (C : List S) (oo nk : Nat) (cc : Option Nat) (v tm m : Nat) (ty1 : TypeId) (f : Nat → OpV) (now i : Nat) (x : OpV) (c : Cq) (o : Nat) (x0 x1 : Tx) (kd : Nat) (hk : i < nk) (hld : ldAt false 1 (bRb ty mr C) (plus oo i) = some (.s (.int .u8 ((kd : Nat) : Int)))) (h3 : kd % 3 = 0) (hkd : kd / 3 % 3 = 2) (hb : kd < 256) (hx : x.ok) (hn : now < 2 ^ 64) (htm : tm < 2 ^ 64) :
    Ex Try.prog 2 (sub [1, 0, 0, 1, 1, 0] ((Try.f8.body.bind fstLoop).getD .skip)) (f9 (.s (.slc (some (0, oo)) nk cc)) v tm (.s (.slc (some (1, 0)) m none)) (va 2) (vb 2) now i) 25 ([(0, some (bRb ty mr C)), (1, some (bOp ty1 f m))] ++ ([(24, some (opB x))] ++ coN c o) ++ TH [x0, x1]) (One .normal (f9 (.s (.slc (some (0, oo)) nk cc)) v tm (.s (.slc (some (1, 0)) m none)) (va 3) (vb 3) now i) 25 ([(0, some (bRb ty mr C)), (1, some (bOp ty1 f m))] ++ ([(24, some (opB x))] ++ coN c o) ++ TH [x0, x1, ⟨tQ now tm, 0, now, tm⟩])) := by
  have m3 : Int.tmod ((kd : Nat) : Int) 3 = ((kd % 3 : Nat) : Int) := rfl
  have m4 : Int.tmod ((kd / 3 : Nat) : Int) 3 = ((kd / 3 % 3 : Nat) : Int) := rfl
  have d3 : Int.tdiv ((kd : Nat) : Int) 3 = ((kd / 3 : Nat) : Int) := rfl
  have w3 : IntKind.u8.wrap ((kd / 3 : Nat) : Int) = ((kd / 3 : Nat) : Int) := by rw [u8_in] <;> omega
  have gv := value_s x.r false hx.r
  have g1 := qry_s now tm hn htm
  have g2 := rqry_s now tm
  refine Ex.stage hm [0, 1, 2, 3, 27, 28, 31, 32, 8, 9, 25, 11, 12, 13, 14, 15, 29, 17, 18, 19, 20, 21, 22, 23, 24] [1, 2, 3, 4, 11, 13, 14, 15, 16, 17, 18] rfl rfl ⟨[.dec true, .idx i, .val (n8 kd), .num ((kd % 3 : Nat) : Int), .dec true, .dec true, .call [] [n8 x.r, .s (.bool false)] [] (n8 (valM x.r false)) 0 [], .idx i, .val (n8 kd), .num ((kd / 3 : Nat) : Int), .num ((kd / 3 % 3 : Nat) : Int), .dec false, .dec false, .call [] [n64 now, n64 tm] [] (.s (.ptr (some (0, 0)))) 1 [(0, some (bT (tQ now tm)))], .call [] [n64 now, n64 tm] [] (.s (.ptr (some (0, 0)))) 1 [(0, some (uB ⟨tQ now tm, 0, now, tm⟩))]], _, _, _, _, _, rfl, ?_, rfl, ⟨rfl, rfl, rfl, rfl, rfl, rfl, rfl, rfl, rfl, rfl, rfl, rfl, rfl, trivial⟩⟩
  simp only [true_and, and_true, and_assoc, decide_eq_true_eq, decide_eq_false_iff_not, ne_eq, beq_iff_eq, beq_eq_false_iff_ne, bne_eq_false_iff_eq, bne_iff_ne, bne_self_eq_false, beq_self_eq_true]
  have e1 : Try.prog.types[30].size = 1 := by kernel_rfl
  have e2 : Try.prog.types[30].bytes = 8 := by kernel_rfl
  have e3 : Try.prog.types[56].size = 1 := by kernel_rfl
  have e4 : Try.prog.types[56].bytes = 8 := by kernel_rfl
  repeat' apply And.intro
  all_goals try rw [e1]
  all_goals try rw [e2]
  all_goals try rw [e3]
  all_goals try rw [e4]
  all_goals first
    | exact True.intro
    | exact hld
    | exact xa hk
    | exact call0 gv rfl
    | exact call0 g1 rfl
    | exact call0 g2 rfl
    | (with_reducible show _ = true; kernel_rfl)
    | (with_reducible exact rfl)
    | (rw [d3]; exact w3)
    | exact Nat.le_refl _
    | omega
    | decide
    | rfl
    | (intro e; cases e)
    | (intro _; exact Nat.le_refl _)
theorem crN3_0 (ty : TypeId) (mr : Bool) (C : List S) (oo nk : Nat) (cc : Option Nat) (v tm m : Nat) (ty1 : TypeId) (f : Nat → OpV) (now i : Nat) (x : OpV) (c : Cq) (o : Nat) (x0 x1 x2 : Tx) (kd : Nat) (hk : i < nk) (hld : ldAt false 1 (bRb ty mr C) (plus oo i) = some (.s (.int .u8 ((kd : Nat) : Int)))) (h3 : kd % 3 = 0) (hkd : kd / 3 % 3 = 0) (hb : kd < 256) (hx : x.ok) (hn : now < 2 ^ 64) (htm : tm < 2 ^ 64) :
    Ex Try.prog 2 (sub [1, 0, 0, 1, 1, 0] ((Try.f8.body.bind fstLoop).getD .skip)) (f9 (.s (.slc (some (0, oo)) nk cc)) v tm (.s (.slc (some (1, 0)) m none)) (va 3) (vb 3) now i) 25 ([(0, some (bRb ty mr C)), (1, some (bOp ty1 f m))] ++ ([(24, some (opB x))] ++ coN c o) ++ TH [x0, x1, x2]) (One .normal (f9 (.s (.slc (some (0, oo)) nk cc)) v tm (.s (.slc (some (1, 0)) m none)) (va 4) (vb 4) now i) 25 ([(0, some (bRb ty mr C)), (1, some (bOp ty1 f m))] ++ ([(24, some (opB x))] ++ coN c o) ++ TH [x0, x1, x2, ⟨tR (valM x.r false) now tm, 0, now, tm⟩])) := by
  have m3 : Int.tmod ((kd : Nat) : Int) 3 = ((kd % 3 : Nat) : Int) := rfl
  have m4 : Int.tmod ((kd / 3 : Nat) : Int) 3 = ((kd / 3 % 3 : Nat) : Int) := rfl
  have d3 : Int.tdiv ((kd : Nat) : Int) 3 = ((kd / 3 : Nat) : Int) := rfl
  have w3 : IntKind.u8.wrap ((kd / 3 : Nat) : Int) = ((kd / 3 : Nat) : Int) := by rw [u8_in] <;> omega
  have gv := value_s x.r false hx.r
  have g1 := read_s (valM x.r false) now tm hn htm
  have g2 := rread_s (valM x.r false) now tm
  refine Ex.stage hm [0, 1, 2, 3, 27, 28, 31, 32, 8, 9, 10, 25, 12, 13, 14, 15, 16, 29, 18, 19, 20, 21, 22, 23, 24] [1, 2, 3, 4, 11, 13, 14, 15, 16, 17, 18] rfl rfl ⟨[.dec true, .idx i, .val (n8 kd), .num ((kd % 3 : Nat) : Int), .dec true, .dec true, .call [] [n8 x.r, .s (.bool false)] [] (n8 (valM x.r false)) 0 [], .idx i, .val (n8 kd), .num ((kd / 3 : Nat) : Int), .num ((kd / 3 % 3 : Nat) : Int), .dec true, .call [] [n8 (valM x.r false), n64 now, n64 tm] [] (.s (.ptr (some (0, 0)))) 1 [(0, some (bT (tR (valM x.r false) now tm)))], .call [] [n8 (valM x.r false), n64 now, n64 tm] [] (.s (.ptr (some (0, 0)))) 1 [(0, some (uB ⟨tR (valM x.r false) now tm, 0, now, tm⟩))]], _, _, _, _, _, rfl, ?_, rfl, ⟨rfl, rfl, rfl, rfl, rfl, rfl, rfl, rfl, rfl, rfl, rfl, rfl, rfl, rfl, rfl, trivial⟩⟩
  simp only [true_and, and_true, and_assoc, decide_eq_true_eq, decide_eq_false_iff_not, ne_eq, beq_iff_eq, beq_eq_false_iff_ne, bne_eq_false_iff_eq, bne_iff_ne, bne_self_eq_false, beq_self_eq_true]
  have e1 : Try.prog.types[30].size = 1 := by kernel_rfl
  have e2 : Try.prog.types[30].bytes = 8 := by kernel_rfl
  have e3 : Try.prog.types[56].size = 1 := by kernel_rfl
  have e4 : Try.prog.types[56].bytes = 8 := by kernel_rfl
  repeat' apply And.intro
  all_goals try rw [e1]
  all_goals try rw [e2]
  all_goals try rw [e3]
  all_goals try rw [e4]
  all_goals first
    | exact True.intro
    | exact hld
    | exact xa hk
    | exact call0 gv rfl
    | exact call0 g1 rfl
    | exact call0 g2 rfl
    | (with_reducible show _ = true; kernel_rfl)
    | (with_reducible exact rfl)
    | (rw [d3]; exact w3)
    | exact Nat.le_refl _
    | omega
    | decide
    | rfl
    | (intro e; cases e)
    | (intro _; exact Nat.le_refl _)
theorem crN3_1 (ty : TypeId) (mr : Bool) (C : List S) (oo nk : Nat) (cc : Option Nat) (v tm m : Nat) (ty1 : TypeId) (f : Nat → OpV) (now i : Nat) (x : OpV) (c : Cq) (o : Nat) (x0 x1 x2 : Tx) (kd : Nat) (hk : i < nk) (hld : ldAt false 1 (bRb ty mr C) (plus oo i) = some (.s (.int .u8 ((kd : Nat) : Int)))) (h3 : kd % 3 = 0) (hkd : kd / 3 % 3 = 1) (hb : kd < 256) (hx : x.ok) (hn : now < 2 ^ 64) (htm : tm < 2 ^ 64) :
    Ex Try.prog 2 (sub [1, 0, 0, 1, 1, 0] ((Try.f8.body.bind fstLoop).getD .skip)) (f9 (.s (.slc (some (0, oo)) nk cc)) v tm (.s (.slc (some (1, 0)) m none)) (va 3) (vb 3) now i) 25 ([(0, some (bRb ty mr C)), (1, some (bOp ty1 f m))] ++ ([(24, some (opB x))] ++ coN c o) ++ TH [x0, x1, x2]) (One .normal (f9 (.s (.slc (some (0, oo)) nk cc)) v tm (.s (.slc (some (1, 0)) m none)) (va 4) (vb 4) now i) 25 ([(0, some (bRb ty mr C)), (1, some (bOp ty1 f m))] ++ ([(24, some (opB x))] ++ coN c o) ++ TH [x0, x1, x2, ⟨tW (valM x.r false) x.v now tm, 0, now, tm⟩])) := by
  have m3 : Int.tmod ((kd : Nat) : Int) 3 = ((kd % 3 : Nat) : Int) := rfl
  have m4 : Int.tmod ((kd / 3 : Nat) : Int) 3 = ((kd / 3 % 3 : Nat) : Int) := rfl
  have d3 : Int.tdiv ((kd : Nat) : Int) 3 = ((kd / 3 : Nat) : Int) := rfl
  have w3 : IntKind.u8.wrap ((kd / 3 : Nat) : Int) = ((kd / 3 : Nat) : Int) := by rw [u8_in] <;> omega
  have gv := value_s x.r false hx.r
  have g1 := writeT_s (valM x.r false) x.v now tm hn htm
  have g2 := rwriteT_s (valM x.r false) x.v now tm
  refine Ex.stage hm [0, 1, 2, 3, 27, 28, 31, 32, 8, 9, 10, 25, 12, 13, 14, 15, 16, 29, 18, 19, 20, 21, 22, 23, 24] [1, 2, 3, 4, 11, 13, 14, 15, 16, 17, 18] rfl rfl ⟨[.dec true, .idx i, .val (n8 kd), .num ((kd % 3 : Nat) : Int), .dec true, .dec true, .call [] [n8 x.r, .s (.bool false)] [] (n8 (valM x.r false)) 0 [], .idx i, .val (n8 kd), .num ((kd / 3 : Nat) : Int), .num ((kd / 3 % 3 : Nat) : Int), .dec false, .dec true, .call [] [n8 (valM x.r false), n8 x.v, n64 now, n64 tm] [] (.s (.ptr (some (0, 0)))) 1 [(0, some (bT (tW (valM x.r false) x.v now tm)))], .call [] [n8 (valM x.r false), n8 x.v, n64 now, n64 tm] [] (.s (.ptr (some (0, 0)))) 1 [(0, some (uB ⟨tW (valM x.r false) x.v now tm, 0, now, tm⟩))]], _, _, _, _, _, rfl, ?_, rfl, ⟨rfl, rfl, rfl, rfl, rfl, rfl, rfl, rfl, rfl, rfl, rfl, rfl, rfl, rfl, rfl, trivial⟩⟩
  simp only [true_and, and_true, and_assoc, decide_eq_true_eq, decide_eq_false_iff_not, ne_eq, beq_iff_eq, beq_eq_false_iff_ne, bne_eq_false_iff_eq, bne_iff_ne, bne_self_eq_false, beq_self_eq_true]
  have e1 : Try.prog.types[30].size = 1 := by kernel_rfl
  have e2 : Try.prog.types[30].bytes = 8 := by kernel_rfl
  have e3 : Try.prog.types[56].size = 1 := by kernel_rfl
  have e4 : Try.prog.types[56].bytes = 8 := by kernel_rfl
  repeat' apply And.intro
  all_goals try rw [e1]
  all_goals try rw [e2]
  all_goals try rw [e3]
  all_goals try rw [e4]
  all_goals first
    | exact True.intro
    | exact hld
    | exact xa hk
    | exact call0 gv rfl
    | exact call0 g1 rfl
    | exact call0 g2 rfl
    | (with_reducible show _ = true; kernel_rfl)
    | (with_reducible exact rfl)
    | (rw [d3]; exact w3)
    | exact Nat.le_refl _
    | omega
    | decide
    | rfl
    | (intro e; cases e)
    | (intro _; exact Nat.le_refl _)
theorem crN3_2 (ty : TypeId) (mr : Bool) (C : List S) (oo nk : Nat) (cc : Option Nat) (v tm m : Nat) (ty1 : TypeId) (f : Nat → OpV) (now i : Nat) (x : OpV) (c : Cq) (o : Nat) (x0 x1 x2 : Tx) (kd : Nat) (hk : i < nk) (hld : ldAt false 1 (bRb ty mr C) (plus oo i) = some (.s (.int .u8 ((kd : Nat) : Int)))) (h3 : kd % 3 = 0) (hkd : kd / 3 % 3 = 2) (hb : kd < 256) (hx : x.ok) (hn : now < 2 ^ 64) (htm : tm < 2 ^ 64) :
    Ex Try.prog 2 (sub [1, 0, 0, 1, 1, 0] ((Try.f8.body.bind fstLoop).getD .skip)) (f9 (.s (.slc (some (0, oo)) nk cc)) v tm (.s (.slc (some (1, 0)) m none)) (va 3) (vb 3) now i) 25 ([(0, some (bRb ty mr C)), (1, some (bOp ty1 f m))] ++ ([(24, some (opB x))] ++ coN c o) ++ TH [x0, x1, x2]) (One .normal (f9 (.s (.slc (some (0, oo)) nk cc)) v tm (.s (.slc (some (1, 0)) m none)) (va 4) (vb 4) now i) 25 ([(0, some (bRb ty mr C)), (1, some (bOp ty1 f m))] ++ ([(24, some (opB x))] ++ coN c o) ++ TH [x0, x1, x2, ⟨tQ now tm, 0, now, tm⟩])) := by
  have m3 : Int.tmod ((kd : Nat) : Int) 3 = ((kd % 3 : Nat) : Int) := rfl
  have m4 : Int.tmod ((kd / 3 : Nat) : Int) 3 = ((kd / 3 % 3 : Nat) : Int) := rfl
  have d3 : Int.tdiv ((kd : Nat) : Int) 3 = ((kd / 3 : Nat) : Int) := rfl
  have w3 : IntKind.u8.wrap ((kd / 3 : Nat) : Int) = ((kd / 3 : Nat) : Int) := by rw [u8_in] <;> omega
  have gv := value_s x.r false hx.r
  have g1 := qry_s now tm hn htm
  have g2 := rqry_s now tm
  refine Ex.stage hm [0, 1, 2, 3, 27, 28, 31, 32, 8, 9, 10, 25, 12, 13, 14, 15, 16, 29, 18, 19, 20, 21, 22, 23, 24] [1, 2, 3, 4, 11, 13, 14, 15, 16, 17, 18] rfl rfl ⟨[.dec true, .idx i, .val (n8 kd), .num ((kd % 3 : Nat) : Int), .dec true, .dec true, .call [] [n8 x.r, .s (.bool false)] [] (n8 (valM x.r false)) 0 [], .idx i, .val (n8 kd), .num ((kd / 3 : Nat) : Int), .num ((kd / 3 % 3 : Nat) : Int), .dec false, .dec false, .call [] [n64 now, n64 tm] [] (.s (.ptr (some (0, 0)))) 1 [(0, some (bT (tQ now tm)))], .call [] [n64 now, n64 tm] [] (.s (.ptr (some (0, 0)))) 1 [(0, some (uB ⟨tQ now tm, 0, now, tm⟩))]], _, _, _, _, _, rfl, ?_, rfl, ⟨rfl, rfl, rfl, rfl, rfl, rfl, rfl, rfl, rfl, rfl, rfl, rfl, rfl, rfl, rfl, trivial⟩⟩
  simp only [true_and, and_true, and_assoc, decide_eq_true_eq, decide_eq_false_iff_not, ne_eq, beq_iff_eq, beq_eq_false_iff_ne, bne_eq_false_iff_eq, bne_iff_ne, bne_self_eq_false, beq_self_eq_true]
  have e1 : Try.prog.types[30].size = 1 := by kernel_rfl
  have e2 : Try.prog.types[30].bytes = 8 := by kernel_rfl
  have e3 : Try.prog.types[56].size = 1 := by kernel_rfl
  have e4 : Try.prog.types[56].bytes = 8 := by kernel_rfl
  repeat' apply And.intro
  all_goals try rw [e1]
  all_goals try rw [e2]
  all_goals try rw [e3]
  all_goals try rw [e4]
  all_goals first
    | exact True.intro
    | exact hld
    | exact xa hk
    | exact call0 gv rfl
    | exact call0 g1 rfl
    | exact call0 g2 rfl
    | (with_reducible show _ = true; kernel_rfl)
    | (with_reducible exact rfl)
    | (rw [d3]; exact w3)
    | exact Nat.le_refl _
    | omega
    | decide
    | rfl
    | (intro e; cases e)
    | (intro _; exact Nat.le_refl _)
theorem crN4_0 (ty : TypeId) (mr : Bool) (C : List S) (oo nk : Nat) (cc : Option Nat) (v tm m : Nat) (ty1 : TypeId) (f : Nat → OpV) (now i : Nat) (x : OpV) (c : Cq) (o : Nat) (x0 x1 x2 x3 : Tx) (kd : Nat) (hk : i < nk) (hld : ldAt false 1 (bRb ty mr C) (plus oo i) = some (.s (.int .u8 ((kd : Nat) : Int)))) (h3 : kd % 3 = 0) (hkd : kd / 3 % 3 = 0) (hb : kd < 256) (hx : x.ok) (hn : now < 2 ^ 64) (htm : tm < 2 ^ 64) :
    Ex Try.prog 2 (sub [1, 0, 0, 1, 1, 0] ((Try.f8.body.bind fstLoop).getD .skip)) (f9 (.s (.slc (some (0, oo)) nk cc)) v tm (.s (.slc (some (1, 0)) m none)) (va 4) (vb 4) now i) 25 ([(0, some (bRb ty mr C)), (1, some (bOp ty1 f m))] ++ ([(24, some (opB x))] ++ coN c o) ++ TH [x0, x1, x2, x3]) (One .normal (f9 (.s (.slc (some (0, oo)) nk cc)) v tm (.s (.slc (some (1, 0)) m none)) (va 5) (vb 5) now i) 25 ([(0, some (bRb ty mr C)), (1, some (bOp ty1 f m))] ++ ([(24, some (opB x))] ++ coN c o) ++ TH [x0, x1, x2, x3, ⟨tR (valM x.r false) now tm, 0, now, tm⟩])) := by
  have m3 : Int.tmod ((kd : Nat) : Int) 3 = ((kd % 3 : Nat) : Int) := rfl
  have m4 : Int.tmod ((kd / 3 : Nat) : Int) 3 = ((kd / 3 % 3 : Nat) : Int) := rfl
  have d3 : Int.tdiv ((kd : Nat) : Int) 3 = ((kd / 3 : Nat) : Int) := rfl
  have w3 : IntKind.u8.wrap ((kd / 3 : Nat) : Int) = ((kd / 3 : Nat) : Int) := by rw [u8_in] <;> omega
  have gv := value_s x.r false hx.r
  have g1 := read_s (valM x.r false) now tm hn htm
  have g2 := rread_s (valM x.r false) now tm
  refine Ex.stage hm [0, 1, 2, 3, 27, 28, 31, 32, 8, 9, 10, 11, 25, 13, 14, 15, 16, 17, 29, 19, 20, 21, 22, 23, 24] [1, 2, 3, 4, 11, 13, 14, 15, 16, 17, 18] rfl rfl ⟨[.dec true, .idx i, .val (n8 kd), .num ((kd % 3 : Nat) : Int), .dec true, .dec true, .call [] [n8 x.r, .s (.bool false)] [] (n8 (valM x.r false)) 0 [], .idx i, .val (n8 kd), .num ((kd / 3 : Nat) : Int), .num ((kd / 3 % 3 : Nat) : Int), .dec true, .call [] [n8 (valM x.r false), n64 now, n64 tm] [] (.s (.ptr (some (0, 0)))) 1 [(0, some (bT (tR (valM x.r false) now tm)))], .call [] [n8 (valM x.r false), n64 now, n64 tm] [] (.s (.ptr (some (0, 0)))) 1 [(0, some (uB ⟨tR (valM x.r false) now tm, 0, now, tm⟩))]], _, _, _, _, _, rfl, ?_, rfl, ⟨rfl, rfl, rfl, rfl, rfl, rfl, rfl, rfl, rfl, rfl, rfl, rfl, rfl, rfl, rfl, rfl, rfl, trivial⟩⟩
  simp only [true_and, and_true, and_assoc, decide_eq_true_eq, decide_eq_false_iff_not, ne_eq, beq_iff_eq, beq_eq_false_iff_ne, bne_eq_false_iff_eq, bne_iff_ne, bne_self_eq_false, beq_self_eq_true]
  have e1 : Try.prog.types[30].size = 1 := by kernel_rfl
  have e2 : Try.prog.types[30].bytes = 8 := by kernel_rfl
  have e3 : Try.prog.types[56].size = 1 := by kernel_rfl
  have e4 : Try.prog.types[56].bytes = 8 := by kernel_rfl
  repeat' apply And.intro
  all_goals try rw [e1]
  all_goals try rw [e2]
  all_goals try rw [e3]
  all_goals try rw [e4]
  all_goals first
    | exact True.intro
    | exact hld
    | exact xa hk
    | exact call0 gv rfl
    | exact call0 g1 rfl
    | exact call0 g2 rfl
    | (with_reducible show _ = true; kernel_rfl)
    | (with_reducible exact rfl)
    | (rw [d3]; exact w3)
    | exact Nat.le_refl _
    | omega
    | decide
    | rfl
    | (intro e; cases e)
    | (intro _; exact Nat.le_refl _)
theorem crN4_1 (ty : TypeId) (mr : Bool) (C : List S) (oo nk : Nat) (cc : Option Nat) (v tm m : Nat) (ty1 : TypeId) (f : Nat → OpV) (now i : Nat) (x : OpV) (c : Cq) (o : Nat) (x0 x1 x2 x3 : Tx) (kd : Nat) (hk : i < nk) (hld : ldAt false 1 (bRb ty mr C) (plus oo i) = some (.s (.int .u8 ((kd : Nat) : Int)))) (h3 : kd % 3 = 0) (hkd : kd / 3 % 3 = 1) (hb : kd < 256) (hx : x.ok) (hn : now < 2 ^ 64) (htm : tm < 2 ^ 64) :
    Ex Try.prog 2 (sub [1, 0, 0, 1, 1, 0] ((Try.f8.body.bind fstLoop).getD .skip)) (f9 (.s (.slc (some (0, oo)) nk cc)) v tm (.s (.slc (some (1, 0)) m none)) (va 4) (vb 4) now i) 25 ([(0, some (bRb ty mr C)), (1, some (bOp ty1 f m))] ++ ([(24, some (opB x))] ++ coN c o) ++ TH [x0, x1, x2, x3]) (One .normal (f9 (.s (.slc (some (0, oo)) nk cc)) v tm (.s (.slc (some (1, 0)) m none)) (va 5) (vb 5) now i) 25 ([(0, some (bRb ty mr C)), (1, some (bOp ty1 f m))] ++ ([(24, some (opB x))] ++ coN c o) ++ TH [x0, x1, x2, x3, ⟨tW (valM x.r false) x.v now tm, 0, now, tm⟩])) := by
  have m3 : Int.tmod ((kd : Nat) : Int) 3 = ((kd % 3 : Nat) : Int) := rfl
  have m4 : Int.tmod ((kd / 3 : Nat) : Int) 3 = ((kd / 3 % 3 : Nat) : Int) := rfl
  have d3 : Int.tdiv ((kd : Nat) : Int) 3 = ((kd / 3 : Nat) : Int) := rfl
  have w3 : IntKind.u8.wrap ((kd / 3 : Nat) : Int) = ((kd / 3 : Nat) : Int) := by rw [u8_in] <;> omega
  have gv := value_s x.r false hx.r
  have g1 := writeT_s (valM x.r false) x.v now tm hn htm
  have g2 := rwriteT_s (valM x.r false) x.v now tm
  refine Ex.stage hm [0, 1, 2, 3, 27, 28, 31, 32, 8, 9, 10, 11, 25, 13, 14, 15, 16, 17, 29, 19, 20, 21, 22, 23, 24] [1, 2, 3, 4, 11, 13, 14, 15, 16, 17, 18] rfl rfl ⟨[.dec true, .idx i, .val (n8 kd), .num ((kd % 3 : Nat) : Int), .dec true, .dec true, .call [] [n8 x.r, .s (.bool false)] [] (n8 (valM x.r false)) 0 [], .idx i, .val (n8 kd), .num ((kd / 3 : Nat) : Int), .num ((kd / 3 % 3 : Nat) : Int), .dec false, .dec true, .call [] [n8 (valM x.r false), n8 x.v, n64 now, n64 tm] [] (.s (.ptr (some (0, 0)))) 1 [(0, some (bT (tW (valM x.r false) x.v now tm)))], .call [] [n8 (valM x.r false), n8 x.v, n64 now, n64 tm] [] (.s (.ptr (some (0, 0)))) 1 [(0, some (uB ⟨tW (valM x.r false) x.v now tm, 0, now, tm⟩))]], _, _, _, _, _, rfl, ?_, rfl, ⟨rfl, rfl, rfl, rfl, rfl, rfl, rfl, rfl, rfl, rfl, rfl, rfl, rfl, rfl, rfl, rfl, rfl, trivial⟩⟩
  simp only [true_and, and_true, and_assoc, decide_eq_true_eq, decide_eq_false_iff_not, ne_eq, beq_iff_eq, beq_eq_false_iff_ne, bne_eq_false_iff_eq, bne_iff_ne, bne_self_eq_false, beq_self_eq_true]
  have e1 : Try.prog.types[30].size = 1 := by kernel_rfl
  have e2 : Try.prog.types[30].bytes = 8 := by kernel_rfl
  have e3 : Try.prog.types[56].size = 1 := by kernel_rfl
  have e4 : Try.prog.types[56].bytes = 8 := by kernel_rfl
  repeat' apply And.intro
  all_goals try rw [e1]
  all_goals try rw [e2]
  all_goals try rw [e3]
  all_goals try rw [e4]
  all_goals first
    | exact True.intro
    | exact hld
    | exact xa hk
    | exact call0 gv rfl
    | exact call0 g1 rfl
    | exact call0 g2 rfl
    | (with_reducible show _ = true; kernel_rfl)
    | (with_reducible exact rfl)
    | (rw [d3]; exact w3)
    | exact Nat.le_refl _
    | omega
    | decide
    | rfl
    | (intro e; cases e)
    | (intro _; exact Nat.le_refl _)
theorem crN4_2 (ty : TypeId) (mr : Bool) (C : List S) (oo nk : Nat) (cc : Option Nat) (v tm m : Nat) (ty1 : TypeId) (f : Nat → OpV) (now i : Nat) (x : OpV) (c : Cq) (o : Nat) (x0 x1 x2 x3 : Tx) (kd : Nat) (hk : i < nk) (hld : ldAt false 1 (bRb ty mr C) (plus oo i) = some (.s (.int .u8 ((kd : Nat) : Int)))) (h3 : kd % 3 = 0) (hkd : kd / 3 % 3 = 2) (hb : kd < 256) (hx : x.ok) (hn : now < 2 ^ 64) (htm : tm < 2 ^ 64) :
    Ex Try.prog 2 (sub [1, 0, 0, 1, 1, 0] ((Try.f8.body.bind fstLoop).getD .skip)) (f9 (.s (.slc (some (0, oo)) nk cc)) v tm (.s (.slc (some (1, 0)) m none)) (va 4) (vb 4) now i) 25 ([(0, some (bRb ty mr C)), (1, some (bOp ty1 f m))] ++ ([(24, some (opB x))] ++ coN c o) ++ TH [x0, x1, x2, x3]) (One .normal (f9 (.s (.slc (some (0, oo)) nk cc)) v tm (.s (.slc (some (1, 0)) m none)) (va 5) (vb 5) now i) 25 ([(0, some (bRb ty mr C)), (1, some (bOp ty1 f m))] ++ ([(24, some (opB x))] ++ coN c o) ++ TH [x0, x1, x2, x3, ⟨tQ now tm, 0, now, tm⟩])) := by
  have m3 : Int.tmod ((kd : Nat) : Int) 3 = ((kd % 3 : Nat) : Int) := rfl
  have m4 : Int.tmod ((kd / 3 : Nat) : Int) 3 = ((kd / 3 % 3 : Nat) : Int) := rfl
  have d3 : Int.tdiv ((kd : Nat) : Int) 3 = ((kd / 3 : Nat) : Int) := rfl
  have w3 : IntKind.u8.wrap ((kd / 3 : Nat) : Int) = ((kd / 3 : Nat) : Int) := by rw [u8_in] <;> omega
  have gv := value_s x.r false hx.r
  have g1 := qry_s now tm hn htm
  have g2 := rqry_s now tm
  refine Ex.stage hm [0, 1, 2, 3, 27, 28, 31, 32, 8, 9, 10, 11, 25, 13, 14, 15, 16, 17, 29, 19, 20, 21, 22, 23, 24] [1, 2, 3, 4, 11, 13, 14, 15, 16, 17, 18] rfl rfl ⟨[.dec true, .idx i, .val (n8 kd), .num ((kd % 3 : Nat) : Int), .dec true, .dec true, .call [] [n8 x.r, .s (.bool false)] [] (n8 (valM x.r false)) 0 [], .idx i, .val (n8 kd), .num ((kd / 3 : Nat) : Int), .num ((kd / 3 % 3 : Nat) : Int), .dec false, .dec false, .call [] [n64 now, n64 tm] [] (.s (.ptr (some (0, 0)))) 1 [(0, some (bT (tQ now tm)))], .call [] [n64 now, n64 tm] [] (.s (.ptr (some (0, 0)))) 1 [(0, some (uB ⟨tQ now tm, 0, now, tm⟩))]], _, _, _, _, _, rfl, ?_, rfl, ⟨rfl, rfl, rfl, rfl, rfl, rfl, rfl, rfl, rfl, rfl, rfl, rfl, rfl, rfl, rfl, rfl, rfl, trivial⟩⟩
  simp only [true_and, and_true, and_assoc, decide_eq_true_eq, decide_eq_false_iff_not, ne_eq, beq_iff_eq, beq_eq_false_iff_ne, bne_eq_false_iff_eq, bne_iff_ne, bne_self_eq_false, beq_self_eq_true]
  have e1 : Try.prog.types[30].size = 1 := by kernel_rfl
  have e2 : Try.prog.types[30].bytes = 8 := by kernel_rfl
  have e3 : Try.prog.types[56].size = 1 := by kernel_rfl
  have e4 : Try.prog.types[56].bytes = 8 := by kernel_rfl
  repeat' apply And.intro
  all_goals try rw [e1]
  all_goals try rw [e2]
  all_goals try rw [e3]
  all_goals try rw [e4]
  all_goals first
    | exact True.intro
    | exact hld
    | exact xa hk
    | exact call0 gv rfl
    | exact call0 g1 rfl
    | exact call0 g2 rfl
    | (with_reducible show _ = true; kernel_rfl)
    | (with_reducible exact rfl)
    | (rw [d3]; exact w3)
    | exact Nat.le_refl _
    | omega
    | decide
    | rfl
    | (intro e; cases e)
    | (intro _; exact Nat.le_refl _)
theorem crN5_0 (ty : TypeId) (mr : Bool) (C : List S) (oo nk : Nat) (cc : Option Nat) (v tm m : Nat) (ty1 : TypeId) (f : Nat → OpV) (now i : Nat) (x : OpV) (c : Cq) (o : Nat) (x0 x1 x2 x3 x4 : Tx) (kd : Nat) (hk : i < nk) (hld : ldAt false 1 (bRb ty mr C) (plus oo i) = some (.s (.int .u8 ((kd : Nat) : Int)))) (h3 : kd % 3 = 0) (hkd : kd / 3 % 3 = 0) (hb : kd < 256) (hx : x.ok) (hn : now < 2 ^ 64) (htm : tm < 2 ^ 64) :
    Ex Try.prog 2 (sub [1, 0, 0, 1, 1, 0] ((Try.f8.body.bind fstLoop).getD .skip)) (f9 (.s (.slc (some (0, oo)) nk cc)) v tm (.s (.slc (some (1, 0)) m none)) (va 5) (vb 5) now i) 25 ([(0, some (bRb ty mr C)), (1, some (bOp ty1 f m))] ++ ([(24, some (opB x))] ++ coN c o) ++ TH [x0, x1, x2, x3, x4]) (One .normal (f9 (.s (.slc (some (0, oo)) nk cc)) v tm (.s (.slc (some (1, 0)) m none)) (va 6) (vb 6) now i) 25 ([(0, some (bRb ty mr C)), (1, some (bOp ty1 f m))] ++ ([(24, some (opB x))] ++ coN c o) ++ TH [x0, x1, x2, x3, x4, ⟨tR (valM x.r false) now tm, 0, now, tm⟩])) := by
  have m3 : Int.tmod ((kd : Nat) : Int) 3 = ((kd % 3 : Nat) : Int) := rfl
  have m4 : Int.tmod ((kd / 3 : Nat) : Int) 3 = ((kd / 3 % 3 : Nat) : Int) := rfl
  have d3 : Int.tdiv ((kd : Nat) : Int) 3 = ((kd / 3 : Nat) : Int) := rfl
  have w3 : IntKind.u8.wrap ((kd / 3 : Nat) : Int) = ((kd / 3 : Nat) : Int) := by rw [u8_in] <;> omega
  have gv := value_s x.r false hx.r
  have g1 := read_s (valM x.r false) now tm hn htm
  have g2 := rread_s (valM x.r false) now tm
  refine Ex.stage hm [0, 1, 2, 3, 27, 28, 31, 32, 8, 9, 10, 11, 12, 25, 14, 15, 16, 17, 18, 29, 20, 21, 22, 23, 24] [1, 2, 3, 4, 11, 13, 14, 15, 16, 17, 18] rfl rfl ⟨[.dec true, .idx i, .val (n8 kd), .num ((kd % 3 : Nat) : Int), .dec true, .dec true, .call [] [n8 x.r, .s (.bool false)] [] (n8 (valM x.r false)) 0 [], .idx i, .val (n8 kd), .num ((kd / 3 : Nat) : Int), .num ((kd / 3 % 3 : Nat) : Int), .dec true, .call [] [n8 (valM x.r false), n64 now, n64 tm] [] (.s (.ptr (some (0, 0)))) 1 [(0, some (bT (tR (valM x.r false) now tm)))], .call [] [n8 (valM x.r false), n64 now, n64 tm] [] (.s (.ptr (some (0, 0)))) 1 [(0, some (uB ⟨tR (valM x.r false) now tm, 0, now, tm⟩))]], _, _, _, _, _, rfl, ?_, rfl, ⟨rfl, rfl, rfl, rfl, rfl, rfl, rfl, rfl, rfl, rfl, rfl, rfl, rfl, rfl, rfl, rfl, rfl, rfl, rfl, trivial⟩⟩
  simp only [true_and, and_true, and_assoc, decide_eq_true_eq, decide_eq_false_iff_not, ne_eq, beq_iff_eq, beq_eq_false_iff_ne, bne_eq_false_iff_eq, bne_iff_ne, bne_self_eq_false, beq_self_eq_true]
  have e1 : Try.prog.types[30].size = 1 := by kernel_rfl
  have e2 : Try.prog.types[30].bytes = 8 := by kernel_rfl
  have e3 : Try.prog.types[56].size = 1 := by kernel_rfl
  have e4 : Try.prog.types[56].bytes = 8 := by kernel_rfl
  repeat' apply And.intro
  all_goals try rw [e1]
  all_goals try rw [e2]
  all_goals try rw [e3]
  all_goals try rw [e4]
  all_goals first
    | exact True.intro
    | exact hld
    | exact xa hk
    | exact call0 gv rfl
    | exact call0 g1 rfl
    | exact call0 g2 rfl
    | (with_reducible show _ = true; kernel_rfl)
    | (with_reducible exact rfl)
    | (rw [d3]; exact w3)
    | exact Nat.le_refl _
    | omega
    | decide
    | rfl
    | (intro e; cases e)
    | (intro _; exact Nat.le_refl _)
theorem crN5_1 (ty : TypeId) (mr : Bool) (C : List S) (oo nk : Nat) (cc : Option Nat) (v tm m : Nat) (ty1 : TypeId) (f : Nat → OpV) (now i : Nat) (x : OpV) (c : Cq) (o : Nat) (x0 x1 x2 x3 x4 : Tx) (kd : Nat) (hk : i < nk) (hld : ldAt false 1 (bRb ty mr C) (plus oo i) = some (.s (.int .u8 ((kd : Nat) : Int)))) (h3 : kd % 3 = 0) (hkd : kd / 3 % 3 = 1) (hb : kd < 256) (hx : x.ok) (hn : now < 2 ^ 64) (htm : tm < 2 ^ 64) :
    Ex Try.prog 2 (sub [1, 0, 0, 1, 1, 0] ((Try.f8.body.bind fstLoop).getD .skip)) (f9 (.s (.slc (some (0, oo)) nk cc)) v tm (.s (.slc (some (1, 0)) m none)) (va 5) (vb 5) now i) 25 ([(0, some (bRb ty mr C)), (1, some (bOp ty1 f m))] ++ ([(24, some (opB x))] ++ coN c o) ++ TH [x0, x1, x2, x3, x4]) (One .normal (f9 (.s (.slc (some (0, oo)) nk cc)) v tm (.s (.slc (some (1, 0)) m none)) (va 6) (vb 6) now i) 25 ([(0, some (bRb ty mr C)), (1, some (bOp ty1 f m))] ++ ([(24, some (opB x))] ++ coN c o) ++ TH [x0, x1, x2, x3, x4, ⟨tW (valM x.r false) x.v now tm, 0, now, tm⟩])) := by
  have m3 : Int.tmod ((kd : Nat) : Int) 3 = ((kd % 3 : Nat) : Int) := rfl
  have m4 : Int.tmod ((kd / 3 : Nat) : Int) 3 = ((kd / 3 % 3 : Nat) : Int) := rfl
  have d3 : Int.tdiv ((kd : Nat) : Int) 3 = ((kd / 3 : Nat) : Int) := rfl
  have w3 : IntKind.u8.wrap ((kd / 3 : Nat) : Int) = ((kd / 3 : Nat) : Int) := by rw [u8_in] <;> omega
  have gv := value_s x.r false hx.r
  have g1 := writeT_s (valM x.r false) x.v now tm hn htm
  have g2 := rwriteT_s (valM x.r false) x.v now tm
  refine Ex.stage hm [0, 1, 2, 3, 27, 28, 31, 32, 8, 9, 10, 11, 12, 25, 14, 15, 16, 17, 18, 29, 20, 21, 22, 23, 24] [1, 2, 3, 4, 11, 13, 14, 15, 16, 17, 18] rfl rfl ⟨[.dec true, .idx i, .val (n8 kd), .num ((kd % 3 : Nat) : Int), .dec true, .dec true, .call [] [n8 x.r, .s (.bool false)] [] (n8 (valM x.r false)) 0 [], .idx i, .val (n8 kd), .num ((kd / 3 : Nat) : Int), .num ((kd / 3 % 3 : Nat) : Int), .dec false, .dec true, .call [] [n8 (valM x.r false), n8 x.v, n64 now, n64 tm] [] (.s (.ptr (some (0, 0)))) 1 [(0, some (bT (tW (valM x.r false) x.v now tm)))], .call [] [n8 (valM x.r false), n8 x.v, n64 now, n64 tm] [] (.s (.ptr (some (0, 0)))) 1 [(0, some (uB ⟨tW (valM x.r false) x.v now tm, 0, now, tm⟩))]], _, _, _, _, _, rfl, ?_, rfl, ⟨rfl, rfl, rfl, rfl, rfl, rfl, rfl, rfl, rfl, rfl, rfl, rfl, rfl, rfl, rfl, rfl, rfl, rfl, rfl, trivial⟩⟩
  simp only [true_and, and_true, and_assoc, decide_eq_true_eq, decide_eq_false_iff_not, ne_eq, beq_iff_eq, beq_eq_false_iff_ne, bne_eq_false_iff_eq, bne_iff_ne, bne_self_eq_false, beq_self_eq_true]
  have e1 : Try.prog.types[30].size = 1 := by kernel_rfl
  have e2 : Try.prog.types[30].bytes = 8 := by kernel_rfl
  have e3 : Try.prog.types[56].size = 1 := by kernel_rfl
  have e4 : Try.prog.types[56].bytes = 8 := by kernel_rfl
  repeat' apply And.intro
  all_goals try rw [e1]
  all_goals try rw [e2]
  all_goals try rw [e3]
  all_goals try rw [e4]
  all_goals first
    | exact True.intro
    | exact hld
    | exact xa hk
    | exact call0 gv rfl
    | exact call0 g1 rfl
    | exact call0 g2 rfl
    | (with_reducible show _ = true; kernel_rfl)
    | (with_reducible exact rfl)
    | (rw [d3]; exact w3)
    | exact Nat.le_refl _
    | omega
    | decide
    | rfl
    | (intro e; cases e)
    | (intro _; exact Nat.le_refl _)
theorem crN5_2 (ty : TypeId) (mr : Bool) (C : List S) (oo nk : Nat) (cc : Option Nat) (v tm m : Nat) (ty1 : TypeId) (f : Nat → OpV) (now i : Nat) (x : OpV) (c : Cq) (o : Nat) (x0 x1 x2 x3 x4 : Tx) (kd : Nat) (hk : i < nk) (hld : ldAt false 1 (bRb ty mr C) (plus oo i) = some (.s (.int .u8 ((kd : Nat) : Int)))) (h3 : kd % 3 = 0) (hkd : kd / 3 % 3 = 2) (hb : kd < 256) (hx : x.ok) (hn : now < 2 ^ 64) (htm : tm < 2 ^ 64) :
    Ex Try.prog 2 (sub [1, 0, 0, 1, 1, 0] ((Try.f8.body.bind fstLoop).getD .skip)) (f9 (.s (.slc (some (0, oo)) nk cc)) v tm (.s (.slc (some (1, 0)) m none)) (va 5) (vb 5) now i) 25 ([(0, some (bRb ty mr C)), (1, some (bOp ty1 f m))] ++ ([(24, some (opB x))] ++ coN c o) ++ TH [x0, x1, x2, x3, x4]) (One .normal (f9 (.s (.slc (some (0, oo)) nk cc)) v tm (.s (.slc (some (1, 0)) m none)) (va 6) (vb 6) now i) 25 ([(0, some (bRb ty mr C)), (1, some (bOp ty1 f m))] ++ ([(24, some (opB x))] ++ coN c o) ++ TH [x0, x1, x2, x3, x4, ⟨tQ now tm, 0, now, tm⟩])) := by
  have m3 : Int.tmod ((kd : Nat) : Int) 3 = ((kd % 3 : Nat) : Int) := rfl
  have m4 : Int.tmod ((kd / 3 : Nat) : Int) 3 = ((kd / 3 % 3 : Nat) : Int) := rfl
  have d3 : Int.tdiv ((kd : Nat) : Int) 3 = ((kd / 3 : Nat) : Int) := rfl
  have w3 : IntKind.u8.wrap ((kd / 3 : Nat) : Int) = ((kd / 3 : Nat) : Int) := by rw [u8_in] <;> omega
  have gv := value_s x.r false hx.r
  have g1 := qry_s now tm hn htm
  have g2 := rqry_s now tm
  refine Ex.stage hm [0, 1, 2, 3, 27, 28, 31, 32, 8, 9, 10, 11, 12, 25, 14, 15, 16, 17, 18, 29, 20, 21, 22, 23, 24] [1, 2, 3, 4, 11, 13, 14, 15, 16, 17, 18] rfl rfl ⟨[.dec true, .idx i, .val (n8 kd), .num ((kd % 3 : Nat) : Int), .dec true, .dec true, .call [] [n8 x.r, .s (.bool false)] [] (n8 (valM x.r false)) 0 [], .idx i, .val (n8 kd), .num ((kd / 3 : Nat) : Int), .num ((kd / 3 % 3 : Nat) : Int), .dec false, .dec false, .call [] [n64 now, n64 tm] [] (.s (.ptr (some (0, 0)))) 1 [(0, some (bT (tQ now tm)))], .call [] [n64 now, n64 tm] [] (.s (.ptr (some (0, 0)))) 1 [(0, some (uB ⟨tQ now tm, 0, now, tm⟩))]], _, _, _, _, _, rfl, ?_, rfl, ⟨rfl, rfl, rfl, rfl, rfl, rfl, rfl, rfl, rfl, rfl, rfl, rfl, rfl, rfl, rfl, rfl, rfl, rfl, rfl, trivial⟩⟩
  simp only [true_and, and_true, and_assoc, decide_eq_true_eq, decide_eq_false_iff_not, ne_eq, beq_iff_eq, beq_eq_false_iff_ne, bne_eq_false_iff_eq, bne_iff_ne, bne_self_eq_false, beq_self_eq_true]
  have e1 : Try.prog.types[30].size = 1 := by kernel_rfl
  have e2 : Try.prog.types[30].bytes = 8 := by kernel_rfl
  have e3 : Try.prog.types[56].size = 1 := by kernel_rfl
  have e4 : Try.prog.types[56].bytes = 8 := by kernel_rfl
  repeat' apply And.intro
  all_goals try rw [e1]
  all_goals try rw [e2]
  all_goals try rw [e3]
  all_goals try rw [e4]
  all_goals first
    | exact True.intro
    | exact hld
    | exact xa hk
    | exact call0 gv rfl
    | exact call0 g1 rfl
    | exact call0 g2 rfl
    | (with_reducible show _ = true; kernel_rfl)
    | (with_reducible exact rfl)
    | (rw [d3]; exact w3)
    | exact Nat.le_refl _
    | omega
    | decide
    | rfl
    | (intro e; cases e)
    | (intro _; exact Nat.le_refl _)

end Go.Proofs.Ytimebhllnemnbaa
