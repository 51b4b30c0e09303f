/-
  EcMatchesModel: the rounds with queues.
-/
import Derived.Test.YtimebhllnemnbaaQe
set_option linter.unusedSimpArgs false
set_option linter.unusedVariables false
namespace Go.Proofs.Ytimebhllnemnbaa
open Go Ab
set_option maxRecDepth 100000

theorem rndN8 (D m : Nat) (ty : TypeId) (f : Nat → OpV) (s : St) (j : Nat) (x : OpV) (hxf : f j = x) (hx : x.ok) (h : s.ok j) (hj : j < m) (h9 : j < 90) (hq : s.c.q = []) (hk : 8 ≤ modM x.k 10) :
    Rnd Try.prog 1 ((Try.f6.body.bind fstLoop).getD .skip) [0, 1, 2, 3, 4, 5, 6] [0, 1, 5, 7, 8, 9] (e6 D m s.now j) 7 (h6N (bOp ty f m) s.c s.o) (e6 D m (s.now + x.p % 3) (j + 1)) (h6N (bOp ty f m) (advq s.c (s.now + x.p % 3)) s.o) := by
  have hn := h.now
  have ht : (s.now + x.p % 3) < 2 ^ 64 := by omega
  have hxv := hx.v
  have hxr := hx.r
  have m3 : Int.tmod ((x.p : Nat) : Int) 3 = ((x.p % 3 : Nat) : Int) := rfl
  have m4 : Int.tmod ((x.v : Nat) : Int) 4 = ((x.v % 4 : Nat) : Int) := rfl
  have hop : ldAt true 4 (bOp ty f m) (plus 0 (times j 4)) = some (.agg x.c) := by rw [← hxf]; exact op_ld ty f m hj
  have gm := mod_s x.k 10 (by decide) (by decide)
  have gv := value_s x.v false hx.v
  have gw := value_s x.v true hx.v
  have gr := value_s x.r false hx.r
  have g1 := status_N s.c (s.now + x.p % 3) h.c hq
  have g2 := rstatus_N s.c s.o (s.now + x.p % 3) h.c hq
  have g3 := register_N (advq s.c (s.now + x.p % 3)) (valM x.r false) (valM_lt hx.r false)
  have g4 := rregister_N (advq s.c (s.now + x.p % 3)) s.o (valM x.r false) (valM_lt hx.r false)
  refine ⟨[.dec true, .dec true, .idx j, .val (.agg x.c), .num ((x.p % 3 : Nat) : Int), .num ((s.now + x.p % 3 : Nat) : Int), .call [] [.s (.int .i64 x.k), .s (.int .i64 ((10 : Nat) : Int))] [] (.s (.int .i64 ((modM x.k 10 : Nat) : Int))) 0 [], .dec false, .dec false, .dec false, .dec false, .dec false, .dec false, .dec false, .dec false, .call [1] [pC, n64 (s.now + x.p % 3)] [(0, some (bN s.c))] (n8 (stNq (advq s.c (s.now + x.p % 3)))) 1 [(0, some (bN (advq s.c (s.now + x.p % 3))))], .call [4] [pC, n64 (s.now + x.p % 3)] [(0, some (bR s.c s.o nilS))] (n8 (stNq (advq s.c (s.now + x.p % 3)))) 1 [(0, some (bR (advq s.c (s.now + x.p % 3)) s.o nilS))], .dec true, .call [] [n8 x.r, .s (.bool false)] [] (n8 (valM x.r false)) 0 [], .call [1] [pC, n8 (valM x.r false)] [(0, some (bN (advq s.c (s.now + x.p % 3))))] (n8 ((advq s.c (s.now + x.p % 3)).regs (valM x.r false))) 1 [(0, some (bN (advq s.c (s.now + x.p % 3))))], .call [] [n8 x.r, .s (.bool false)] [] (n8 (valM x.r false)) 0 [], .call [4] [pC, n8 (valM x.r false)] [(0, some (bR (advq s.c (s.now + x.p % 3)) s.o nilS))] (n8 ((advq s.c (s.now + x.p % 3)).regs (valM x.r false))) 1 [(0, some (bR (advq s.c (s.now + x.p % 3)) s.o nilS))], .dec false, .num ((j + 1 : Nat) : Int)], _, _, _, _, _, rfl, ?_, rfl, ⟨rfl, rfl, rfl, trivial⟩⟩
  simp only [true_and, and_true, and_assoc, decide_eq_true_eq, decide_eq_false_iff_not, ne_eq, beq_iff_eq, beq_eq_false_iff_ne, bne_eq_false_iff_eq, bne_self_eq_false, beq_self_eq_true]
  clear hxf
  repeat' apply And.intro
  all_goals first
    | exact True.intro
    | exact call0 gm rfl
    | exact call0 gv rfl
    | exact call0 gw rfl
    | exact call0 gr rfl
    | exact ⟨g1, rfl, Fits.of rfl rfl ⟨⟨rfl, _, rfl, rfl, fun h => h⟩, trivial⟩⟩
    | exact ⟨g2, rfl, Fits.of rfl rfl ⟨⟨rfl, _, rfl, rfl, fun h => h⟩, trivial⟩⟩
    | exact ⟨g3, rfl, Fits.of rfl rfl ⟨⟨rfl, _, rfl, rfl, fun h => h⟩, trivial⟩⟩
    | exact ⟨g4, rfl, Fits.of rfl rfl ⟨⟨rfl, _, rfl, rfl, fun h => h⟩, trivial⟩⟩
    | exact hop
    | (with_reducible show _ = true; kernel_rfl)
    | (with_reducible exact rfl)
    | exact c6a hj
    | exact c6b h9
    | exact c6c ht
    | exact c6d h9
    | omega
    | rfl

theorem rndQ0 (D m : Nat) (ty : TypeId) (f : Nat → OpV) (s : St) (j : Nat) (x : OpV) (hxf : f j = x) (hx : x.ok) (h : s.ok j) (hj : j < m) (h9 : j < 90) (hk : modM x.k 10 = 0) :
    Rnd Try.prog 1 ((Try.f6.body.bind fstLoop).getD .skip) [0, 1, 8, 9, 4, 10, 11] [0, 1, 5, 7, 8, 9] (e6 D m s.now j) 7 (h6Q (bOp ty f m) s.c s.o) (e6 D m (s.now + x.p % 3) (j + 1)) (h6Q (bOp ty f m) (wrtq s.c (s.now + x.p % 3) (valM x.v false) false) s.o) := by
  have hn := h.now
  have ht : (s.now + x.p % 3) < 2 ^ 64 := by omega
  have hxv := hx.v
  have hxr := hx.r
  have m3 : Int.tmod ((x.p : Nat) : Int) 3 = ((x.p % 3 : Nat) : Int) := rfl
  have m4 : Int.tmod ((x.v : Nat) : Int) 4 = ((x.v % 4 : Nat) : Int) := rfl
  have hop : ldAt true 4 (bOp ty f m) (plus 0 (times j 4)) = some (.agg x.c) := by rw [← hxf]; exact op_ld ty f m hj
  have gm := mod_s x.k 10 (by decide) (by decide)
  have gv := value_s x.v false hx.v
  have gw := value_s x.v true hx.v
  have gr := value_s x.r false hx.r
  have g1 := writeData_Q s.c (s.now + x.p % 3) (valM x.v false) h.c ht
  have g2 := rwriteData_Q s.c s.o (s.now + x.p % 3) (valM x.v false) h.c ht
  have g3 := register_Q (wrtq s.c (s.now + x.p % 3) (valM x.v false) false) (valM x.r false) (valM_lt hx.r false)
  have g4 := rregister_Q (wrtq s.c (s.now + x.p % 3) (valM x.v false) false) s.o (valM x.r false) (valM_lt hx.r false)
  refine ⟨[.dec true, .dec true, .idx j, .val (.agg x.c), .num ((x.p % 3 : Nat) : Int), .num ((s.now + x.p % 3 : Nat) : Int), .call [] [.s (.int .i64 x.k), .s (.int .i64 ((10 : Nat) : Int))] [] (.s (.int .i64 ((modM x.k 10 : Nat) : Int))) 0 [], .dec true, .call [] [n8 x.v, .s (.bool false)] [] (n8 (valM x.v false)) 0 [], .call [1, 2, 3] [pC, n64 (s.now + x.p % 3), n8 (valM x.v false)] (sQ s.c) (.tup []) 5 (eQ (wrtq s.c (s.now + x.p % 3) (valM x.v false) false)), .call [] [n8 x.v, .s (.bool false)] [] (n8 (valM x.v false)) 0 [], .call [4, 5, 6] [pC, n64 (s.now + x.p % 3), n8 (valM x.v false)] (sR s.c s.o) (.tup []) 5 (eR (wrtq s.c (s.now + x.p % 3) (valM x.v false) false) s.o), .call [] [n8 x.r, .s (.bool false)] [] (n8 (valM x.r false)) 0 [], .call [1, 8, 9] [pC, n8 (valM x.r false)] [(0, some (bQ (wrtq s.c (s.now + x.p % 3) (valM x.v false) false) 1 2))] (n8 ((wrtq s.c (s.now + x.p % 3) (valM x.v false) false).regs (valM x.r false))) 3 [(0, some (bQ (wrtq s.c (s.now + x.p % 3) (valM x.v false) false) 1 2))], .call [] [n8 x.r, .s (.bool false)] [] (n8 (valM x.r false)) 0 [], .call [4, 10, 11] [pC, n8 (valM x.r false)] [(0, some (bR (wrtq s.c (s.now + x.p % 3) (valM x.v false) false) s.o (.sla 1 2 (wrtq s.c (s.now + x.p % 3) (valM x.v false) false).q.length)))] (n8 ((wrtq s.c (s.now + x.p % 3) (valM x.v false) false).regs (valM x.r false))) 3 [(0, some (bR (wrtq s.c (s.now + x.p % 3) (valM x.v false) false) s.o (.sla 1 2 (wrtq s.c (s.now + x.p % 3) (valM x.v false) false).q.length)))], .dec false, .num ((j + 1 : Nat) : Int)], _, _, _, _, _, rfl, ?_, rfl, ⟨rfl, rfl, rfl, rfl, rfl, trivial⟩⟩
  simp only [true_and, and_true, and_assoc, decide_eq_true_eq, decide_eq_false_iff_not, ne_eq, beq_iff_eq, beq_eq_false_iff_ne, bne_eq_false_iff_eq, bne_self_eq_false, beq_self_eq_true]
  clear hxf
  repeat' apply And.intro
  all_goals first
    | exact True.intro
    | exact call0 gm rfl
    | exact call0 gv rfl
    | exact call0 gw rfl
    | exact call0 gr rfl
    | exact ⟨g1, rfl, Fits.of rfl rfl ⟨⟨rfl, _, rfl, rfl, fun h => h⟩, ⟨rfl, _, rfl, rfl, fun h => h⟩, trivial⟩⟩
    | exact ⟨g2, rfl, Fits.of rfl rfl ⟨⟨rfl, _, rfl, rfl, fun h => h⟩, ⟨rfl, _, rfl, rfl, fun h => h⟩, trivial⟩⟩
    | exact ⟨g3, rfl, Fits.of rfl rfl ⟨⟨rfl, _, rfl, rfl, fun h => h⟩, trivial⟩⟩
    | exact ⟨g4, rfl, Fits.of rfl rfl ⟨⟨rfl, _, rfl, rfl, fun h => h⟩, trivial⟩⟩
    | exact hop
    | (with_reducible show _ = true; kernel_rfl)
    | (with_reducible exact rfl)
    | exact c6a hj
    | exact c6b h9
    | exact c6c ht
    | exact c6d h9
    | omega
    | rfl

theorem rndQ1 (D m : Nat) (ty : TypeId) (f : Nat → OpV) (s : St) (j : Nat) (x : OpV) (hxf : f j = x) (hx : x.ok) (h : s.ok j) (hj : j < m) (h9 : j < 90) (hk : modM x.k 10 = 1) :
    Rnd Try.prog 1 ((Try.f6.body.bind fstLoop).getD .skip) [0, 1, 8, 9, 4, 10, 11] [0, 1, 5, 7, 8, 9] (e6 D m s.now j) 7 (h6Q (bOp ty f m) s.c s.o) (e6 D m (s.now + x.p % 3) (j + 1)) (h6Q (bOp ty f m) (wrtq s.c (s.now + x.p % 3) (valM x.v false) false) s.o) := by
  have hn := h.now
  have ht : (s.now + x.p % 3) < 2 ^ 64 := by omega
  have hxv := hx.v
  have hxr := hx.r
  have m3 : Int.tmod ((x.p : Nat) : Int) 3 = ((x.p % 3 : Nat) : Int) := rfl
  have m4 : Int.tmod ((x.v : Nat) : Int) 4 = ((x.v % 4 : Nat) : Int) := rfl
  have hop : ldAt true 4 (bOp ty f m) (plus 0 (times j 4)) = some (.agg x.c) := by rw [← hxf]; exact op_ld ty f m hj
  have gm := mod_s x.k 10 (by decide) (by decide)
  have gv := value_s x.v false hx.v
  have gw := value_s x.v true hx.v
  have gr := value_s x.r false hx.r
  have g1 := writeData_Q s.c (s.now + x.p % 3) (valM x.v false) h.c ht
  have g2 := rwriteData_Q s.c s.o (s.now + x.p % 3) (valM x.v false) h.c ht
  have g3 := register_Q (wrtq s.c (s.now + x.p % 3) (valM x.v false) false) (valM x.r false) (valM_lt hx.r false)
  have g4 := rregister_Q (wrtq s.c (s.now + x.p % 3) (valM x.v false) false) s.o (valM x.r false) (valM_lt hx.r false)
  refine ⟨[.dec true, .dec true, .idx j, .val (.agg x.c), .num ((x.p % 3 : Nat) : Int), .num ((s.now + x.p % 3 : Nat) : Int), .call [] [.s (.int .i64 x.k), .s (.int .i64 ((10 : Nat) : Int))] [] (.s (.int .i64 ((modM x.k 10 : Nat) : Int))) 0 [], .dec false, .dec true, .call [] [n8 x.v, .s (.bool false)] [] (n8 (valM x.v false)) 0 [], .call [1, 2, 3] [pC, n64 (s.now + x.p % 3), n8 (valM x.v false)] (sQ s.c) (.tup []) 5 (eQ (wrtq s.c (s.now + x.p % 3) (valM x.v false) false)), .call [] [n8 x.v, .s (.bool false)] [] (n8 (valM x.v false)) 0 [], .call [4, 5, 6] [pC, n64 (s.now + x.p % 3), n8 (valM x.v false)] (sR s.c s.o) (.tup []) 5 (eR (wrtq s.c (s.now + x.p % 3) (valM x.v false) false) s.o), .call [] [n8 x.r, .s (.bool false)] [] (n8 (valM x.r false)) 0 [], .call [1, 8, 9] [pC, n8 (valM x.r false)] [(0, some (bQ (wrtq s.c (s.now + x.p % 3) (valM x.v false) false) 1 2))] (n8 ((wrtq s.c (s.now + x.p % 3) (valM x.v false) false).regs (valM x.r false))) 3 [(0, some (bQ (wrtq s.c (s.now + x.p % 3) (valM x.v false) false) 1 2))], .call [] [n8 x.r, .s (.bool false)] [] (n8 (valM x.r false)) 0 [], .call [4, 10, 11] [pC, n8 (valM x.r false)] [(0, some (bR (wrtq s.c (s.now + x.p % 3) (valM x.v false) false) s.o (.sla 1 2 (wrtq s.c (s.now + x.p % 3) (valM x.v false) false).q.length)))] (n8 ((wrtq s.c (s.now + x.p % 3) (valM x.v false) false).regs (valM x.r false))) 3 [(0, some (bR (wrtq s.c (s.now + x.p % 3) (valM x.v false) false) s.o (.sla 1 2 (wrtq s.c (s.now + x.p % 3) (valM x.v false) false).q.length)))], .dec false, .num ((j + 1 : Nat) : Int)], _, _, _, _, _, rfl, ?_, rfl, ⟨rfl, rfl, rfl, rfl, rfl, trivial⟩⟩
  simp only [true_and, and_true, and_assoc, decide_eq_true_eq, decide_eq_false_iff_not, ne_eq, beq_iff_eq, beq_eq_false_iff_ne, bne_eq_false_iff_eq, bne_self_eq_false, beq_self_eq_true]
  clear hxf
  repeat' apply And.intro
  all_goals first
    | exact True.intro
    | exact call0 gm rfl
    | exact call0 gv rfl
    | exact call0 gw rfl
    | exact call0 gr rfl
    | exact ⟨g1, rfl, Fits.of rfl rfl ⟨⟨rfl, _, rfl, rfl, fun h => h⟩, ⟨rfl, _, rfl, rfl, fun h => h⟩, trivial⟩⟩
    | exact ⟨g2, rfl, Fits.of rfl rfl ⟨⟨rfl, _, rfl, rfl, fun h => h⟩, ⟨rfl, _, rfl, rfl, fun h => h⟩, trivial⟩⟩
    | exact ⟨g3, rfl, Fits.of rfl rfl ⟨⟨rfl, _, rfl, rfl, fun h => h⟩, trivial⟩⟩
    | exact ⟨g4, rfl, Fits.of rfl rfl ⟨⟨rfl, _, rfl, rfl, fun h => h⟩, trivial⟩⟩
    | exact hop
    | (with_reducible show _ = true; kernel_rfl)
    | (with_reducible exact rfl)
    | exact c6a hj
    | exact c6b h9
    | exact c6c ht
    | exact c6d h9
    | omega
    | rfl

theorem rndQ2 (D m : Nat) (ty : TypeId) (f : Nat → OpV) (s : St) (j : Nat) (x : OpV) (hxf : f j = x) (hx : x.ok) (h : s.ok j) (hj : j < m) (h9 : j < 90) (hk : modM x.k 10 = 2) :
    Rnd Try.prog 1 ((Try.f6.body.bind fstLoop).getD .skip) [0, 1, 8, 9, 4, 10, 11] [0, 1, 5, 7, 8, 9] (e6 D m s.now j) 7 (h6Q (bOp ty f m) s.c s.o) (e6 D m (s.now + x.p % 3) (j + 1)) (h6Q (bOp ty f m) (wrtq s.c (s.now + x.p % 3) (valM x.v false) false) s.o) := by
  have hn := h.now
  have ht : (s.now + x.p % 3) < 2 ^ 64 := by omega
  have hxv := hx.v
  have hxr := hx.r
  have m3 : Int.tmod ((x.p : Nat) : Int) 3 = ((x.p % 3 : Nat) : Int) := rfl
  have m4 : Int.tmod ((x.v : Nat) : Int) 4 = ((x.v % 4 : Nat) : Int) := rfl
  have hop : ldAt true 4 (bOp ty f m) (plus 0 (times j 4)) = some (.agg x.c) := by rw [← hxf]; exact op_ld ty f m hj
  have gm := mod_s x.k 10 (by decide) (by decide)
  have gv := value_s x.v false hx.v
  have gw := value_s x.v true hx.v
  have gr := value_s x.r false hx.r
  have g1 := writeData_Q s.c (s.now + x.p % 3) (valM x.v false) h.c ht
  have g2 := rwriteData_Q s.c s.o (s.now + x.p % 3) (valM x.v false) h.c ht
  have g3 := register_Q (wrtq s.c (s.now + x.p % 3) (valM x.v false) false) (valM x.r false) (valM_lt hx.r false)
  have g4 := rregister_Q (wrtq s.c (s.now + x.p % 3) (valM x.v false) false) s.o (valM x.r false) (valM_lt hx.r false)
  refine ⟨[.dec true, .dec true, .idx j, .val (.agg x.c), .num ((x.p % 3 : Nat) : Int), .num ((s.now + x.p % 3 : Nat) : Int), .call [] [.s (.int .i64 x.k), .s (.int .i64 ((10 : Nat) : Int))] [] (.s (.int .i64 ((modM x.k 10 : Nat) : Int))) 0 [], .dec false, .dec false, .dec true, .call [] [n8 x.v, .s (.bool false)] [] (n8 (valM x.v false)) 0 [], .call [1, 2, 3] [pC, n64 (s.now + x.p % 3), n8 (valM x.v false)] (sQ s.c) (.tup []) 5 (eQ (wrtq s.c (s.now + x.p % 3) (valM x.v false) false)), .call [] [n8 x.v, .s (.bool false)] [] (n8 (valM x.v false)) 0 [], .call [4, 5, 6] [pC, n64 (s.now + x.p % 3), n8 (valM x.v false)] (sR s.c s.o) (.tup []) 5 (eR (wrtq s.c (s.now + x.p % 3) (valM x.v false) false) s.o), .call [] [n8 x.r, .s (.bool false)] [] (n8 (valM x.r false)) 0 [], .call [1, 8, 9] [pC, n8 (valM x.r false)] [(0, some (bQ (wrtq s.c (s.now + x.p % 3) (valM x.v false) false) 1 2))] (n8 ((wrtq s.c (s.now + x.p % 3) (valM x.v false) false).regs (valM x.r false))) 3 [(0, some (bQ (wrtq s.c (s.now + x.p % 3) (valM x.v false) false) 1 2))], .call [] [n8 x.r, .s (.bool false)] [] (n8 (valM x.r false)) 0 [], .call [4, 10, 11] [pC, n8 (valM x.r false)] [(0, some (bR (wrtq s.c (s.now + x.p % 3) (valM x.v false) false) s.o (.sla 1 2 (wrtq s.c (s.now + x.p % 3) (valM x.v false) false).q.length)))] (n8 ((wrtq s.c (s.now + x.p % 3) (valM x.v false) false).regs (valM x.r false))) 3 [(0, some (bR (wrtq s.c (s.now + x.p % 3) (valM x.v false) false) s.o (.sla 1 2 (wrtq s.c (s.now + x.p % 3) (valM x.v false) false).q.length)))], .dec false, .num ((j + 1 : Nat) : Int)], _, _, _, _, _, rfl, ?_, rfl, ⟨rfl, rfl, rfl, rfl, rfl, trivial⟩⟩
  simp only [true_and, and_true, and_assoc, decide_eq_true_eq, decide_eq_false_iff_not, ne_eq, beq_iff_eq, beq_eq_false_iff_ne, bne_eq_false_iff_eq, bne_self_eq_false, beq_self_eq_true]
  clear hxf
  repeat' apply And.intro
  all_goals first
    | exact True.intro
    | exact call0 gm rfl
    | exact call0 gv rfl
    | exact call0 gw rfl
    | exact call0 gr rfl
    | exact ⟨g1, rfl, Fits.of rfl rfl ⟨⟨rfl, _, rfl, rfl, fun h => h⟩, ⟨rfl, _, rfl, rfl, fun h => h⟩, trivial⟩⟩
    | exact ⟨g2, rfl, Fits.of rfl rfl ⟨⟨rfl, _, rfl, rfl, fun h => h⟩, ⟨rfl, _, rfl, rfl, fun h => h⟩, trivial⟩⟩
    | exact ⟨g3, rfl, Fits.of rfl rfl ⟨⟨rfl, _, rfl, rfl, fun h => h⟩, trivial⟩⟩
    | exact ⟨g4, rfl, Fits.of rfl rfl ⟨⟨rfl, _, rfl, rfl, fun h => h⟩, trivial⟩⟩
    | exact hop
    | (with_reducible show _ = true; kernel_rfl)
    | (with_reducible exact rfl)
    | exact c6a hj
    | exact c6b h9
    | exact c6c ht
    | exact c6d h9
    | omega
    | rfl

theorem rndQ3 (D m : Nat) (ty : TypeId) (f : Nat → OpV) (s : St) (j : Nat) (x : OpV) (hxf : f j = x) (hx : x.ok) (h : s.ok j) (hj : j < m) (h9 : j < 90) (hk : modM x.k 10 = 3) :
    Rnd Try.prog 1 ((Try.f6.body.bind fstLoop).getD .skip) [0, 1, 8, 9, 4, 10, 11] [0, 1, 5, 7, 8, 9] (e6 D m s.now j) 7 (h6Q (bOp ty f m) s.c s.o) (e6 D m (s.now + x.p % 3) (j + 1)) (h6Q (bOp ty f m) (wrtq s.c (s.now + x.p % 3) (valM x.v true) true) s.o) := by
  have hn := h.now
  have ht : (s.now + x.p % 3) < 2 ^ 64 := by omega
  have hxv := hx.v
  have hxr := hx.r
  have m3 : Int.tmod ((x.p : Nat) : Int) 3 = ((x.p % 3 : Nat) : Int) := rfl
  have m4 : Int.tmod ((x.v : Nat) : Int) 4 = ((x.v % 4 : Nat) : Int) := rfl
  have hop : ldAt true 4 (bOp ty f m) (plus 0 (times j 4)) = some (.agg x.c) := by rw [← hxf]; exact op_ld ty f m hj
  have gm := mod_s x.k 10 (by decide) (by decide)
  have gv := value_s x.v false hx.v
  have gw := value_s x.v true hx.v
  have gr := value_s x.r false hx.r
  have g1 := writeCommand_Q s.c (s.now + x.p % 3) (valM x.v true) h.c ht
  have g2 := rwriteCommand_Q s.c s.o (s.now + x.p % 3) (valM x.v true) h.c ht
  have g3 := register_Q (wrtq s.c (s.now + x.p % 3) (valM x.v true) true) (valM x.r false) (valM_lt hx.r false)
  have g4 := rregister_Q (wrtq s.c (s.now + x.p % 3) (valM x.v true) true) s.o (valM x.r false) (valM_lt hx.r false)
  refine ⟨[.dec true, .dec true, .idx j, .val (.agg x.c), .num ((x.p % 3 : Nat) : Int), .num ((s.now + x.p % 3 : Nat) : Int), .call [] [.s (.int .i64 x.k), .s (.int .i64 ((10 : Nat) : Int))] [] (.s (.int .i64 ((modM x.k 10 : Nat) : Int))) 0 [], .dec false, .dec false, .dec false, .dec true, .call [] [n8 x.v, .s (.bool true)] [] (n8 (valM x.v true)) 0 [], .call [1, 2, 3] [pC, n64 (s.now + x.p % 3), n8 (valM x.v true)] (sQ s.c) (.tup []) 5 (eQ (wrtq s.c (s.now + x.p % 3) (valM x.v true) true)), .call [] [n8 x.v, .s (.bool true)] [] (n8 (valM x.v true)) 0 [], .call [4, 5, 6] [pC, n64 (s.now + x.p % 3), n8 (valM x.v true)] (sR s.c s.o) (.tup []) 5 (eR (wrtq s.c (s.now + x.p % 3) (valM x.v true) true) s.o), .call [] [n8 x.r, .s (.bool false)] [] (n8 (valM x.r false)) 0 [], .call [1, 8, 9] [pC, n8 (valM x.r false)] [(0, some (bQ (wrtq s.c (s.now + x.p % 3) (valM x.v true) true) 1 2))] (n8 ((wrtq s.c (s.now + x.p % 3) (valM x.v true) true).regs (valM x.r false))) 3 [(0, some (bQ (wrtq s.c (s.now + x.p % 3) (valM x.v true) true) 1 2))], .call [] [n8 x.r, .s (.bool false)] [] (n8 (valM x.r false)) 0 [], .call [4, 10, 11] [pC, n8 (valM x.r false)] [(0, some (bR (wrtq s.c (s.now + x.p % 3) (valM x.v true) true) s.o (.sla 1 2 (wrtq s.c (s.now + x.p % 3) (valM x.v true) true).q.length)))] (n8 ((wrtq s.c (s.now + x.p % 3) (valM x.v true) true).regs (valM x.r false))) 3 [(0, some (bR (wrtq s.c (s.now + x.p % 3) (valM x.v true) true) s.o (.sla 1 2 (wrtq s.c (s.now + x.p % 3) (valM x.v true) true).q.length)))], .dec false, .num ((j + 1 : Nat) : Int)], _, _, _, _, _, rfl, ?_, rfl, ⟨rfl, rfl, rfl, rfl, rfl, trivial⟩⟩
  simp only [true_and, and_true, and_assoc, decide_eq_true_eq, decide_eq_false_iff_not, ne_eq, beq_iff_eq, beq_eq_false_iff_ne, bne_eq_false_iff_eq, bne_self_eq_false, beq_self_eq_true]
  clear hxf
  repeat' apply And.intro
  all_goals first
    | exact True.intro
    | exact call0 gm rfl
    | exact call0 gv rfl
    | exact call0 gw rfl
    | exact call0 gr rfl
    | exact ⟨g1, rfl, Fits.of rfl rfl ⟨⟨rfl, _, rfl, rfl, fun h => h⟩, ⟨rfl, _, rfl, rfl, fun h => h⟩, trivial⟩⟩
    | exact ⟨g2, rfl, Fits.of rfl rfl ⟨⟨rfl, _, rfl, rfl, fun h => h⟩, ⟨rfl, _, rfl, rfl, fun h => h⟩, trivial⟩⟩
    | exact ⟨g3, rfl, Fits.of rfl rfl ⟨⟨rfl, _, rfl, rfl, fun h => h⟩, trivial⟩⟩
    | exact ⟨g4, rfl, Fits.of rfl rfl ⟨⟨rfl, _, rfl, rfl, fun h => h⟩, trivial⟩⟩
    | exact hop
    | (with_reducible show _ = true; kernel_rfl)
    | (with_reducible exact rfl)
    | exact c6a hj
    | exact c6b h9
    | exact c6c ht
    | exact c6d h9
    | omega
    | rfl

theorem rndQ4 (D m : Nat) (ty : TypeId) (f : Nat → OpV) (s : St) (j : Nat) (x : OpV) (hxf : f j = x) (hx : x.ok) (h : s.ok j) (hj : j < m) (h9 : j < 90) (hk : modM x.k 10 = 4) :
    Rnd Try.prog 1 ((Try.f6.body.bind fstLoop).getD .skip) [0, 1, 8, 9, 4, 10, 11] [0, 1, 5, 7, 8, 9] (e6 D m s.now j) 7 (h6Q (bOp ty f m) s.c s.o) (e6 D m (s.now + x.p % 3) (j + 1)) (h6Q (bOp ty f m) (wrtq s.c (s.now + x.p % 3) (valM x.v true) true) s.o) := by
  have hn := h.now
  have ht : (s.now + x.p % 3) < 2 ^ 64 := by omega
  have hxv := hx.v
  have hxr := hx.r
  have m3 : Int.tmod ((x.p : Nat) : Int) 3 = ((x.p % 3 : Nat) : Int) := rfl
  have m4 : Int.tmod ((x.v : Nat) : Int) 4 = ((x.v % 4 : Nat) : Int) := rfl
  have hop : ldAt true 4 (bOp ty f m) (plus 0 (times j 4)) = some (.agg x.c) := by rw [← hxf]; exact op_ld ty f m hj
  have gm := mod_s x.k 10 (by decide) (by decide)
  have gv := value_s x.v false hx.v
  have gw := value_s x.v true hx.v
  have gr := value_s x.r false hx.r
  have g1 := writeCommand_Q s.c (s.now + x.p % 3) (valM x.v true) h.c ht
  have g2 := rwriteCommand_Q s.c s.o (s.now + x.p % 3) (valM x.v true) h.c ht
  have g3 := register_Q (wrtq s.c (s.now + x.p % 3) (valM x.v true) true) (valM x.r false) (valM_lt hx.r false)
  have g4 := rregister_Q (wrtq s.c (s.now + x.p % 3) (valM x.v true) true) s.o (valM x.r false) (valM_lt hx.r false)
  refine ⟨[.dec true, .dec true, .idx j, .val (.agg x.c), .num ((x.p % 3 : Nat) : Int), .num ((s.now + x.p % 3 : Nat) : Int), .call [] [.s (.int .i64 x.k), .s (.int .i64 ((10 : Nat) : Int))] [] (.s (.int .i64 ((modM x.k 10 : Nat) : Int))) 0 [], .dec false, .dec false, .dec false, .dec false, .dec true, .call [] [n8 x.v, .s (.bool true)] [] (n8 (valM x.v true)) 0 [], .call [1, 2, 3] [pC, n64 (s.now + x.p % 3), n8 (valM x.v true)] (sQ s.c) (.tup []) 5 (eQ (wrtq s.c (s.now + x.p % 3) (valM x.v true) true)), .call [] [n8 x.v, .s (.bool true)] [] (n8 (valM x.v true)) 0 [], .call [4, 5, 6] [pC, n64 (s.now + x.p % 3), n8 (valM x.v true)] (sR s.c s.o) (.tup []) 5 (eR (wrtq s.c (s.now + x.p % 3) (valM x.v true) true) s.o), .call [] [n8 x.r, .s (.bool false)] [] (n8 (valM x.r false)) 0 [], .call [1, 8, 9] [pC, n8 (valM x.r false)] [(0, some (bQ (wrtq s.c (s.now + x.p % 3) (valM x.v true) true) 1 2))] (n8 ((wrtq s.c (s.now + x.p % 3) (valM x.v true) true).regs (valM x.r false))) 3 [(0, some (bQ (wrtq s.c (s.now + x.p % 3) (valM x.v true) true) 1 2))], .call [] [n8 x.r, .s (.bool false)] [] (n8 (valM x.r false)) 0 [], .call [4, 10, 11] [pC, n8 (valM x.r false)] [(0, some (bR (wrtq s.c (s.now + x.p % 3) (valM x.v true) true) s.o (.sla 1 2 (wrtq s.c (s.now + x.p % 3) (valM x.v true) true).q.length)))] (n8 ((wrtq s.c (s.now + x.p % 3) (valM x.v true) true).regs (valM x.r false))) 3 [(0, some (bR (wrtq s.c (s.now + x.p % 3) (valM x.v true) true) s.o (.sla 1 2 (wrtq s.c (s.now + x.p % 3) (valM x.v true) true).q.length)))], .dec false, .num ((j + 1 : Nat) : Int)], _, _, _, _, _, rfl, ?_, rfl, ⟨rfl, rfl, rfl, rfl, rfl, trivial⟩⟩
  simp only [true_and, and_true, and_assoc, decide_eq_true_eq, decide_eq_false_iff_not, ne_eq, beq_iff_eq, beq_eq_false_iff_ne, bne_eq_false_iff_eq, bne_self_eq_false, beq_self_eq_true]
  clear hxf
  repeat' apply And.intro
  all_goals first
    | exact True.intro
    | exact call0 gm rfl
    | exact call0 gv rfl
    | exact call0 gw rfl
    | exact call0 gr rfl
    | exact ⟨g1, rfl, Fits.of rfl rfl ⟨⟨rfl, _, rfl, rfl, fun h => h⟩, ⟨rfl, _, rfl, rfl, fun h => h⟩, trivial⟩⟩
    | exact ⟨g2, rfl, Fits.of rfl rfl ⟨⟨rfl, _, rfl, rfl, fun h => h⟩, ⟨rfl, _, rfl, rfl, fun h => h⟩, trivial⟩⟩
    | exact ⟨g3, rfl, Fits.of rfl rfl ⟨⟨rfl, _, rfl, rfl, fun h => h⟩, trivial⟩⟩
    | exact ⟨g4, rfl, Fits.of rfl rfl ⟨⟨rfl, _, rfl, rfl, fun h => h⟩, trivial⟩⟩
    | exact hop
    | (with_reducible show _ = true; kernel_rfl)
    | (with_reducible exact rfl)
    | exact c6a hj
    | exact c6b h9
    | exact c6c ht
    | exact c6d h9
    | omega
    | rfl

theorem rndQ5 (D m : Nat) (ty : TypeId) (f : Nat → OpV) (s : St) (j : Nat) (x : OpV) (hxf : f j = x) (hx : x.ok) (h : s.ok j) (hj : j < m) (h9 : j < 90) (hk : modM x.k 10 = 5) :
    Rnd Try.prog 1 ((Try.f6.body.bind fstLoop).getD .skip) [0, 1, 8, 9, 4, 10, 11] [0, 1, 5, 7, 8, 9] (e6 D m s.now j) 7 (h6Q (bOp ty f m) s.c s.o) (e6 D m (s.now + x.p % 3) (j + 1)) (h6Q (bOp ty f m) (emtq (advq s.c (s.now + x.p % 3))) ((advq s.c (s.now + x.p % 3)).ou s.o)) := by
  have hn := h.now
  have ht : (s.now + x.p % 3) < 2 ^ 64 := by omega
  have hxv := hx.v
  have hxr := hx.r
  have m3 : Int.tmod ((x.p : Nat) : Int) 3 = ((x.p % 3 : Nat) : Int) := rfl
  have m4 : Int.tmod ((x.v : Nat) : Int) 4 = ((x.v % 4 : Nat) : Int) := rfl
  have hop : ldAt true 4 (bOp ty f m) (plus 0 (times j 4)) = some (.agg x.c) := by rw [← hxf]; exact op_ld ty f m hj
  have gm := mod_s x.k 10 (by decide) (by decide)
  have gv := value_s x.v false hx.v
  have gw := value_s x.v true hx.v
  have gr := value_s x.r false hx.r
  have g1 := readData_Q s.c (s.now + x.p % 3) h.c
  have g2 := rreadData_Q s.c s.o (s.now + x.p % 3) h.c ht
  have g3 := register_Q (emtq (advq s.c (s.now + x.p % 3))) (valM x.r false) (valM_lt hx.r false)
  have g4 := rregister_Q (emtq (advq s.c (s.now + x.p % 3))) ((advq s.c (s.now + x.p % 3)).ou s.o) (valM x.r false) (valM_lt hx.r false)
  refine ⟨[.dec true, .dec true, .idx j, .val (.agg x.c), .num ((x.p % 3 : Nat) : Int), .num ((s.now + x.p % 3 : Nat) : Int), .call [] [.s (.int .i64 x.k), .s (.int .i64 ((10 : Nat) : Int))] [] (.s (.int .i64 ((modM x.k 10 : Nat) : Int))) 0 [], .dec false, .dec false, .dec false, .dec false, .dec false, .dec true, .call [1, 2, 3] [pC, n64 (s.now + x.p % 3)] (sQ s.c) (n8 (advq s.c (s.now + x.p % 3)).out) 5 (eQ (emtq (advq s.c (s.now + x.p % 3)))), .call [4, 5, 6] [pC, n64 (s.now + x.p % 3)] (sR s.c s.o) (n8 (advq s.c (s.now + x.p % 3)).out) 5 (eR (emtq (advq s.c (s.now + x.p % 3))) ((advq s.c (s.now + x.p % 3)).ou s.o)), .dec true, .call [] [n8 x.r, .s (.bool false)] [] (n8 (valM x.r false)) 0 [], .call [1, 8, 9] [pC, n8 (valM x.r false)] [(0, some (bQ (emtq (advq s.c (s.now + x.p % 3))) 1 2))] (n8 ((emtq (advq s.c (s.now + x.p % 3))).regs (valM x.r false))) 3 [(0, some (bQ (emtq (advq s.c (s.now + x.p % 3))) 1 2))], .call [] [n8 x.r, .s (.bool false)] [] (n8 (valM x.r false)) 0 [], .call [4, 10, 11] [pC, n8 (valM x.r false)] [(0, some (bR (emtq (advq s.c (s.now + x.p % 3))) ((advq s.c (s.now + x.p % 3)).ou s.o) (.sla 1 2 (emtq (advq s.c (s.now + x.p % 3))).q.length)))] (n8 ((emtq (advq s.c (s.now + x.p % 3))).regs (valM x.r false))) 3 [(0, some (bR (emtq (advq s.c (s.now + x.p % 3))) ((advq s.c (s.now + x.p % 3)).ou s.o) (.sla 1 2 (emtq (advq s.c (s.now + x.p % 3))).q.length)))], .dec false, .num ((j + 1 : Nat) : Int)], _, _, _, _, _, rfl, ?_, rfl, ⟨rfl, rfl, rfl, rfl, rfl, trivial⟩⟩
  simp only [true_and, and_true, and_assoc, decide_eq_true_eq, decide_eq_false_iff_not, ne_eq, beq_iff_eq, beq_eq_false_iff_ne, bne_eq_false_iff_eq, bne_self_eq_false, beq_self_eq_true]
  clear hxf
  repeat' apply And.intro
  all_goals first
    | exact True.intro
    | exact call0 gm rfl
    | exact call0 gv rfl
    | exact call0 gw rfl
    | exact call0 gr rfl
    | exact ⟨g1, rfl, Fits.of rfl rfl ⟨⟨rfl, _, rfl, rfl, fun h => h⟩, ⟨rfl, _, rfl, rfl, fun h => h⟩, trivial⟩⟩
    | exact ⟨g2, rfl, Fits.of rfl rfl ⟨⟨rfl, _, rfl, rfl, fun h => h⟩, ⟨rfl, _, rfl, rfl, fun h => h⟩, trivial⟩⟩
    | exact ⟨g3, rfl, Fits.of rfl rfl ⟨⟨rfl, _, rfl, rfl, fun h => h⟩, trivial⟩⟩
    | exact ⟨g4, rfl, Fits.of rfl rfl ⟨⟨rfl, _, rfl, rfl, fun h => h⟩, trivial⟩⟩
    | exact hop
    | (with_reducible show _ = true; kernel_rfl)
    | (with_reducible exact rfl)
    | exact c6a hj
    | exact c6b h9
    | exact c6c ht
    | exact c6d h9
    | omega
    | rfl

theorem rndQ6 (D m : Nat) (ty : TypeId) (f : Nat → OpV) (s : St) (j : Nat) (x : OpV) (hxf : f j = x) (hx : x.ok) (h : s.ok j) (hj : j < m) (h9 : j < 90) (hk : modM x.k 10 = 6) :
    Rnd Try.prog 1 ((Try.f6.body.bind fstLoop).getD .skip) [0, 1, 8, 9, 4, 10, 11] [0, 1, 5, 7, 8, 9] (e6 D m s.now j) 7 (h6Q (bOp ty f m) s.c s.o) (e6 D m (s.now + x.p % 3) (j + 1)) (h6Q (bOp ty f m) (raiq s.c (x.v % 4)) s.o) := by
  have hn := h.now
  have ht : (s.now + x.p % 3) < 2 ^ 64 := by omega
  have hxv := hx.v
  have hxr := hx.r
  have m3 : Int.tmod ((x.p : Nat) : Int) 3 = ((x.p % 3 : Nat) : Int) := rfl
  have m4 : Int.tmod ((x.v : Nat) : Int) 4 = ((x.v % 4 : Nat) : Int) := rfl
  have hop : ldAt true 4 (bOp ty f m) (plus 0 (times j 4)) = some (.agg x.c) := by rw [← hxf]; exact op_ld ty f m hj
  have gm := mod_s x.k 10 (by decide) (by decide)
  have gv := value_s x.v false hx.v
  have gw := value_s x.v true hx.v
  have gr := value_s x.r false hx.r
  have g1 := raise_Q s.c (x.v % 4) h.c.ql
  have g2 := rraise_Q s.c s.o (x.v % 4) h.c.ql
  have g3 := register_Q (raiq s.c (x.v % 4)) (valM x.r false) (valM_lt hx.r false)
  have g4 := rregister_Q (raiq s.c (x.v % 4)) s.o (valM x.r false) (valM_lt hx.r false)
  refine ⟨[.dec true, .dec true, .idx j, .val (.agg x.c), .num ((x.p % 3 : Nat) : Int), .num ((s.now + x.p % 3 : Nat) : Int), .call [] [.s (.int .i64 x.k), .s (.int .i64 ((10 : Nat) : Int))] [] (.s (.int .i64 ((modM x.k 10 : Nat) : Int))) 0 [], .dec false, .dec false, .dec false, .dec false, .dec false, .dec false, .dec true, .num ((x.v % 4 : Nat) : Int), .call [1, 2, 3] [pC, n8 (x.v % 4)] (sQ s.c) (errS (raiE s.c (x.v % 4))) 5 (eQ (raiq s.c (x.v % 4))), .num ((x.v % 4 : Nat) : Int), .call [4, 5, 6] [pC, n8 (x.v % 4)] (sR s.c s.o) (errS (raiE s.c (x.v % 4))) 5 (eR (raiq s.c (x.v % 4)) s.o), .dec true, .call [] [n8 x.r, .s (.bool false)] [] (n8 (valM x.r false)) 0 [], .call [1, 8, 9] [pC, n8 (valM x.r false)] [(0, some (bQ (raiq s.c (x.v % 4)) 1 2))] (n8 ((raiq s.c (x.v % 4)).regs (valM x.r false))) 3 [(0, some (bQ (raiq s.c (x.v % 4)) 1 2))], .call [] [n8 x.r, .s (.bool false)] [] (n8 (valM x.r false)) 0 [], .call [4, 10, 11] [pC, n8 (valM x.r false)] [(0, some (bR (raiq s.c (x.v % 4)) s.o (.sla 1 2 (raiq s.c (x.v % 4)).q.length)))] (n8 ((raiq s.c (x.v % 4)).regs (valM x.r false))) 3 [(0, some (bR (raiq s.c (x.v % 4)) s.o (.sla 1 2 (raiq s.c (x.v % 4)).q.length)))], .dec false, .num ((j + 1 : Nat) : Int)], _, _, _, _, _, rfl, ?_, rfl, ⟨rfl, rfl, rfl, rfl, rfl, trivial⟩⟩
  simp only [true_and, and_true, and_assoc, decide_eq_true_eq, decide_eq_false_iff_not, ne_eq, beq_iff_eq, beq_eq_false_iff_ne, bne_eq_false_iff_eq, bne_self_eq_false, beq_self_eq_true]
  clear hxf
  repeat' apply And.intro
  all_goals first
    | exact True.intro
    | exact call0 gm rfl
    | exact call0 gv rfl
    | exact call0 gw rfl
    | exact call0 gr rfl
    | exact ⟨g1, rfl, Fits.of rfl rfl ⟨⟨rfl, _, rfl, rfl, fun h => h⟩, ⟨rfl, _, rfl, rfl, fun h => h⟩, trivial⟩⟩
    | exact ⟨g2, rfl, Fits.of rfl rfl ⟨⟨rfl, _, rfl, rfl, fun h => h⟩, ⟨rfl, _, rfl, rfl, fun h => h⟩, trivial⟩⟩
    | exact ⟨g3, rfl, Fits.of rfl rfl ⟨⟨rfl, _, rfl, rfl, fun h => h⟩, trivial⟩⟩
    | exact ⟨g4, rfl, Fits.of rfl rfl ⟨⟨rfl, _, rfl, rfl, fun h => h⟩, trivial⟩⟩
    | exact hop
    | (with_reducible show _ = true; kernel_rfl)
    | (with_reducible exact rfl)
    | exact c6a hj
    | exact c6b h9
    | exact c6c ht
    | exact c6d h9
    | omega
    | rfl

theorem rndQ7 (D m : Nat) (ty : TypeId) (f : Nat → OpV) (s : St) (j : Nat) (x : OpV) (hxf : f j = x) (hx : x.ok) (h : s.ok j) (hj : j < m) (h9 : j < 90) (hk : modM x.k 10 = 7) :
    Rnd Try.prog 1 ((Try.f6.body.bind fstLoop).getD .skip) [0, 1, 2, 3, 4, 5, 6] [0, 1, 5, 7, 8, 9] (e6 D m s.now j) 7 (h6Q (bOp ty f m) s.c s.o) (e6 D m (s.now + x.p % 3) (j + 1)) (h6Q (bOp ty f m) ({ s.c with regs := upd s.c.regs (valM x.r false) x.v } : Cq) s.o) := by
  have hn := h.now
  have ht : (s.now + x.p % 3) < 2 ^ 64 := by omega
  have hxv := hx.v
  have hxr := hx.r
  have m3 : Int.tmod ((x.p : Nat) : Int) 3 = ((x.p % 3 : Nat) : Int) := rfl
  have m4 : Int.tmod ((x.v : Nat) : Int) 4 = ((x.v % 4 : Nat) : Int) := rfl
  have hop : ldAt true 4 (bOp ty f m) (plus 0 (times j 4)) = some (.agg x.c) := by rw [← hxf]; exact op_ld ty f m hj
  have gm := mod_s x.k 10 (by decide) (by decide)
  have gv := value_s x.v false hx.v
  have gw := value_s x.v true hx.v
  have gr := value_s x.r false hx.r
  have g1 := setRegister_Q s.c (valM x.r false) x.v (valM_lt hx.r false)
  have g2 := rsetRegister_Q s.c s.o (valM x.r false) x.v (valM_lt hx.r false)
  have g3 := register_Q ({ s.c with regs := upd s.c.regs (valM x.r false) x.v } : Cq) (valM x.r false) (valM_lt hx.r false)
  have g4 := rregister_Q ({ s.c with regs := upd s.c.regs (valM x.r false) x.v } : Cq) s.o (valM x.r false) (valM_lt hx.r false)
  refine ⟨[.dec true, .dec true, .idx j, .val (.agg x.c), .num ((x.p % 3 : Nat) : Int), .num ((s.now + x.p % 3 : Nat) : Int), .call [] [.s (.int .i64 x.k), .s (.int .i64 ((10 : Nat) : Int))] [] (.s (.int .i64 ((modM x.k 10 : Nat) : Int))) 0 [], .dec false, .dec false, .dec false, .dec false, .dec false, .dec false, .dec false, .dec true, .call [] [n8 x.r, .s (.bool false)] [] (n8 (valM x.r false)) 0 [], .call [1, 2, 3] [pC, n8 (valM x.r false), n8 x.v] [(0, some (bQ s.c 1 2))] (.tup []) 3 [(0, some (bQ ({ s.c with regs := upd s.c.regs (valM x.r false) x.v } : Cq) 1 2))], .call [] [n8 x.r, .s (.bool false)] [] (n8 (valM x.r false)) 0 [], .call [4, 5, 6] [pC, n8 (valM x.r false), n8 x.v] [(0, some (bR s.c s.o (.sla 1 2 s.c.q.length)))] (.tup []) 3 [(0, some (bR ({ s.c with regs := upd s.c.regs (valM x.r false) x.v } : Cq) s.o (.sla 1 2 s.c.q.length)))], .call [] [n8 x.r, .s (.bool false)] [] (n8 (valM x.r false)) 0 [], .call [1, 2, 3] [pC, n8 (valM x.r false)] [(0, some (bQ ({ s.c with regs := upd s.c.regs (valM x.r false) x.v } : Cq) 1 2))] (n8 (({ s.c with regs := upd s.c.regs (valM x.r false) x.v } : Cq).regs (valM x.r false))) 3 [(0, some (bQ ({ s.c with regs := upd s.c.regs (valM x.r false) x.v } : Cq) 1 2))], .call [] [n8 x.r, .s (.bool false)] [] (n8 (valM x.r false)) 0 [], .call [4, 5, 6] [pC, n8 (valM x.r false)] [(0, some (bR ({ s.c with regs := upd s.c.regs (valM x.r false) x.v } : Cq) s.o (.sla 1 2 ({ s.c with regs := upd s.c.regs (valM x.r false) x.v } : Cq).q.length)))] (n8 (({ s.c with regs := upd s.c.regs (valM x.r false) x.v } : Cq).regs (valM x.r false))) 3 [(0, some (bR ({ s.c with regs := upd s.c.regs (valM x.r false) x.v } : Cq) s.o (.sla 1 2 ({ s.c with regs := upd s.c.regs (valM x.r false) x.v } : Cq).q.length)))], .dec false, .num ((j + 1 : Nat) : Int)], _, _, _, _, _, rfl, ?_, rfl, ⟨rfl, rfl, rfl, rfl, rfl, trivial⟩⟩
  simp only [true_and, and_true, and_assoc, decide_eq_true_eq, decide_eq_false_iff_not, ne_eq, beq_iff_eq, beq_eq_false_iff_ne, bne_eq_false_iff_eq, bne_self_eq_false, beq_self_eq_true]
  clear hxf
  repeat' apply And.intro
  all_goals first
    | exact True.intro
    | exact call0 gm rfl
    | exact call0 gv rfl
    | exact call0 gw rfl
    | exact call0 gr rfl
    | exact ⟨g1, rfl, Fits.of rfl rfl ⟨⟨rfl, _, rfl, rfl, fun h => h⟩, trivial⟩⟩
    | exact ⟨g2, rfl, Fits.of rfl rfl ⟨⟨rfl, _, rfl, rfl, fun h => h⟩, trivial⟩⟩
    | exact ⟨g3, rfl, Fits.of rfl rfl ⟨⟨rfl, _, rfl, rfl, fun h => h⟩, trivial⟩⟩
    | exact ⟨g4, rfl, Fits.of rfl rfl ⟨⟨rfl, _, rfl, rfl, fun h => h⟩, trivial⟩⟩
    | exact hop
    | (with_reducible show _ = true; kernel_rfl)
    | (with_reducible exact rfl)
    | exact c6a hj
    | exact c6b h9
    | exact c6c ht
    | exact c6d h9
    | omega
    | rfl

theorem rndQ8 (D m : Nat) (ty : TypeId) (f : Nat → OpV) (s : St) (j : Nat) (x : OpV) (hxf : f j = x) (hx : x.ok) (h : s.ok j) (hj : j < m) (h9 : j < 90) (hk : 8 ≤ modM x.k 10) :
    Rnd Try.prog 1 ((Try.f6.body.bind fstLoop).getD .skip) [0, 1, 8, 9, 4, 10, 11] [0, 1, 5, 7, 8, 9] (e6 D m s.now j) 7 (h6Q (bOp ty f m) s.c s.o) (e6 D m (s.now + x.p % 3) (j + 1)) (h6Q (bOp ty f m) (advq s.c (s.now + x.p % 3)) s.o) := by
  have hn := h.now
  have ht : (s.now + x.p % 3) < 2 ^ 64 := by omega
  have hxv := hx.v
  have hxr := hx.r
  have m3 : Int.tmod ((x.p : Nat) : Int) 3 = ((x.p % 3 : Nat) : Int) := rfl
  have m4 : Int.tmod ((x.v : Nat) : Int) 4 = ((x.v % 4 : Nat) : Int) := rfl
  have hop : ldAt true 4 (bOp ty f m) (plus 0 (times j 4)) = some (.agg x.c) := by rw [← hxf]; exact op_ld ty f m hj
  have gm := mod_s x.k 10 (by decide) (by decide)
  have gv := value_s x.v false hx.v
  have gw := value_s x.v true hx.v
  have gr := value_s x.r false hx.r
  have g1 := status_Q s.c (s.now + x.p % 3) h.c
  have g2 := rstatus_Q s.c s.o (s.now + x.p % 3) h.c
  have g3 := register_Q (advq s.c (s.now + x.p % 3)) (valM x.r false) (valM_lt hx.r false)
  have g4 := rregister_Q (advq s.c (s.now + x.p % 3)) s.o (valM x.r false) (valM_lt hx.r false)
  refine ⟨[.dec true, .dec true, .idx j, .val (.agg x.c), .num ((x.p % 3 : Nat) : Int), .num ((s.now + x.p % 3 : Nat) : Int), .call [] [.s (.int .i64 x.k), .s (.int .i64 ((10 : Nat) : Int))] [] (.s (.int .i64 ((modM x.k 10 : Nat) : Int))) 0 [], .dec false, .dec false, .dec false, .dec false, .dec false, .dec false, .dec false, .dec false, .call [1, 2, 3] [pC, n64 (s.now + x.p % 3)] (sQ s.c) (n8 (stNq (advq s.c (s.now + x.p % 3)))) 5 (eQ (advq s.c (s.now + x.p % 3))), .call [4, 5, 6] [pC, n64 (s.now + x.p % 3)] (sR s.c s.o) (n8 (stNq (advq s.c (s.now + x.p % 3)))) 5 (eR (advq s.c (s.now + x.p % 3)) s.o), .dec true, .call [] [n8 x.r, .s (.bool false)] [] (n8 (valM x.r false)) 0 [], .call [1, 8, 9] [pC, n8 (valM x.r false)] [(0, some (bQ (advq s.c (s.now + x.p % 3)) 1 2))] (n8 ((advq s.c (s.now + x.p % 3)).regs (valM x.r false))) 3 [(0, some (bQ (advq s.c (s.now + x.p % 3)) 1 2))], .call [] [n8 x.r, .s (.bool false)] [] (n8 (valM x.r false)) 0 [], .call [4, 10, 11] [pC, n8 (valM x.r false)] [(0, some (bR (advq s.c (s.now + x.p % 3)) s.o (.sla 1 2 (advq s.c (s.now + x.p % 3)).q.length)))] (n8 ((advq s.c (s.now + x.p % 3)).regs (valM x.r false))) 3 [(0, some (bR (advq s.c (s.now + x.p % 3)) s.o (.sla 1 2 (advq s.c (s.now + x.p % 3)).q.length)))], .dec false, .num ((j + 1 : Nat) : Int)], _, _, _, _, _, rfl, ?_, rfl, ⟨rfl, rfl, rfl, rfl, rfl, trivial⟩⟩
  simp only [true_and, and_true, and_assoc, decide_eq_true_eq, decide_eq_false_iff_not, ne_eq, beq_iff_eq, beq_eq_false_iff_ne, bne_eq_false_iff_eq, bne_self_eq_false, beq_self_eq_true]
  clear hxf
  repeat' apply And.intro
  all_goals first
    | exact True.intro
    | exact call0 gm rfl
    | exact call0 gv rfl
    | exact call0 gw rfl
    | exact call0 gr rfl
    | exact ⟨g1, rfl, Fits.of rfl rfl ⟨⟨rfl, _, rfl, rfl, fun h => h⟩, ⟨rfl, _, rfl, rfl, fun h => h⟩, trivial⟩⟩
    | exact ⟨g2, rfl, Fits.of rfl rfl ⟨⟨rfl, _, rfl, rfl, fun h => h⟩, ⟨rfl, _, rfl, rfl, fun h => h⟩, trivial⟩⟩
    | exact ⟨g3, rfl, Fits.of rfl rfl ⟨⟨rfl, _, rfl, rfl, fun h => h⟩, trivial⟩⟩
    | exact ⟨g4, rfl, Fits.of rfl rfl ⟨⟨rfl, _, rfl, rfl, fun h => h⟩, trivial⟩⟩
    | exact hop
    | (with_reducible show _ = true; kernel_rfl)
    | (with_reducible exact rfl)
    | exact c6a hj
    | exact c6b h9
    | exact c6c ht
    | exact c6d h9
    | omega
    | rfl

end Go.Proofs.Ytimebhllnemnbaa
