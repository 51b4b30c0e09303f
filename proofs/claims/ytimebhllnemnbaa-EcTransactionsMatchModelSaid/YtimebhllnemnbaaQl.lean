/-
  finish of a query of a controller at rest.
-/
import Derived.Test.YtimebhllnemnbaaQk
set_option linter.unusedSimpArgs false
set_option linter.unusedVariables false
namespace Go.Proofs.Ytimebhllnemnbaa
open Go Ab
set_option maxRecDepth 100000

theorem out_w (now j : Nat) : outT (tqJ now (j + 1)) = .tup [.s (.int .u8 0), .s (.bool false), .s (.int .i64 0)] := rfl
theorem out_d (now r : Nat) : outT (tq now 5 r) = .tup [.s (.int .u8 ((r : Nat) : Int)), .s (.bool true), .s (.int .i64 0)] := rfl
theorem c200 {j : Nat} (h : j ≤ 7) : ((j : Nat) : Int) < 200 := by omega
theorem cinc {a : Nat} (h : a < 2000) : IntKind.u64.wrap (((a : Nat) : Int) + 1) = ((a + 1 : Nat) : Int) := by rw [u64_in] <;> omega
theorem cinj {a : Nat} (h : a < 2000) : IntKind.i64.wrap (((a : Nat) : Int) + 1) = ((a + 1 : Nat) : Int) := by rw [i64_in] <;> omega
theorem fround_N (c : Cq) (now : Nat) (h : c.idle now) (hq : c.q = []) (j : Nat) (hj : j < c.delay) :
    Rnd Try.prog 2 ((Try.f15.body.bind fstLoop).getD .skip) [0, 1] [0, 1, 2, 3, 12] (sp 51 [(0, pT), (1, pC1), (2, n64 (now + j)), (3, .s (.slc none 0 (some 0))), (12, .s (.int .i64 ((j : Nat) : Int)))]) 2 (sTN (tqJ now j) (cqJ c now j)) (sp 51 [(0, pT), (1, pC1), (2, n64 (now + (j + 1))), (3, .s (.slc none 0 (some 0))), (12, .s (.int .i64 (((j + 1) : Nat) : Int)))]) (sTN (tqJ now (j + 1)) (cqJ c now (j + 1))) := by
  have hd := h.delay
  have hl := h.lt
  have hs := step_N (tqJ now j) (cqJ c now j) (now + j) (cqJ_ok h (by omega)) (by omega) (by rw [cqJ_q]; exact hq) (tqJ_ok now j).1 (tqJ_ok now j).2
  rw [stepq_w h j hj] at hs
  dsimp only at hs
  rw [out_w] at hs
  refine ⟨[.dec true, .call [0, 1] [pT, pC1, n64 (now + j)] (sTN (tqJ now j) (cqJ c now j)) (.tup [.s (.int .u8 0), .s (.bool false), .s (.int .i64 0)]) 2 (sTN (tqJ now (j + 1)) (cqJ c now (j + 1))), .dec false, .num ((now + (j + 1) : Nat) : Int), .num ((j + 1 : Nat) : Int)], _, _, _, _, _, rfl, ?_, rfl, ⟨rfl, rfl, trivial⟩⟩
  simp only [true_and, and_true, and_assoc, decide_eq_true_eq, decide_eq_false_iff_not]
  repeat' apply And.intro
  all_goals first
    | exact True.intro
    | exact ⟨hs, rfl, Fits.of rfl rfl ⟨⟨rfl, _, rfl, rfl, fun h => h⟩, ⟨rfl, _, rfl, rfl, fun h => h⟩, trivial⟩⟩
    | exact c200 (by omega)
    | exact cinc (by omega)
    | exact cinj (by omega)
    | (with_reducible show _ = true; kernel_rfl)
    | omega
theorem flast_N (c : Cq) (now : Nat) (h : c.idle now) (hq : c.q = []) :
    Lst Try.prog 2 ((Try.f15.body.bind fstLoop).getD .skip) [0, 1] [8, 9, 10, 11] (sp 51 [(0, pT), (1, pC1), (2, n64 (now + c.delay)), (3, .s (.slc none 0 (some 0))), (12, .s (.int .i64 ((c.delay : Nat) : Int)))]) 2 (sTN (tqJ now c.delay) (cqJ c now c.delay)) .ret (sp 51 [(8, n8 (c.q.headD 0)), (9, .s (.int .i64 0)), (10, n64 (now + c.delay)), (11, .s (.bool true))]) (sTN (tq now 5 (c.q.headD 0)) (cF c now)) := by
  have hd := h.delay
  have hl := h.lt
  have hs := step_N (tqJ now c.delay) (cqJ c now c.delay) (now + c.delay) (cqJ_ok h (by omega)) (by omega) (by rw [cqJ_q]; exact hq) (tqJ_ok now c.delay).1 (tqJ_ok now c.delay).2
  rw [stepq_d h] at hs
  dsimp only at hs
  rw [out_d] at hs
  refine ⟨[.dec true, .call [0, 1] [pT, pC1, n64 (now + c.delay)] (sTN (tqJ now c.delay) (cqJ c now c.delay)) (.tup [.s (.int .u8 ((c.q.headD 0 : Nat) : Int)), .s (.bool true), .s (.int .i64 0)]) 2 (sTN (tq now 5 (c.q.headD 0)) (cF c now))], _, _, _, _, _, rfl, ?_, rfl, ⟨rfl, rfl, trivial⟩⟩
  simp only [true_and, and_true, and_assoc, decide_eq_true_eq, decide_eq_false_iff_not]
  repeat' apply And.intro
  all_goals first
    | exact True.intro
    | exact ⟨hs, rfl, Fits.of rfl rfl ⟨⟨rfl, _, rfl, rfl, fun h => h⟩, ⟨rfl, _, rfl, rfl, fun h => h⟩, trivial⟩⟩
    | exact c200 (by omega)
    | (with_reducible show _ = true; kernel_rfl)
    | omega
theorem finish_N (c : Cq) (now : Nat) (h : c.idle now) (hq : c.q = []) : SC Try.prog 15 [pT, pC1, n64 now, .s (.slc none 0 (some 0))] 2 (sTN (tq now 0 0) c) (.tup [.s (.int .u8 ((c.q.headD 0 : Nat) : Int)), .s (.int .i64 0), .s (.int .u64 ((now + c.delay : Nat) : Int)), .s (.bool true)]) 2 (sTN (tq now 5 (c.q.headD 0)) (cF c now)) := by
  refine SC.run hm Try.func15 rfl [.loop .ret (sp 51 [(8, n8 (c.q.headD 0)), (9, .s (.int .i64 0)), (10, n64 (now + c.delay)), (11, .s (.bool true))]) 2 (sTN (tq now 5 (c.q.headD 0)) (cF c now))] [] rfl rfl ?_ (.inl rfl) (EndOK.by rfl ⟨rfl, rfl, trivial⟩ rfl rfl rfl rfl)
  simp only [true_and, and_true, and_assoc]
  exact Ex.movesT hm [0, 1, 2, 3, 12] c.delay (fun j => (sp 51 [(0, pT), (1, pC1), (2, n64 (now + j)), (3, .s (.slc none 0 (some 0))), (12, .s (.int .i64 ((j : Nat) : Int)))])) (fun j => (sTN (tqJ now j) (cqJ c now j))) [0, 1] (fun _ => [0, 1]) rfl (fun _ => rfl) rfl ⟨rfl, rfl, trivial⟩ rfl (fun _ => rfl) (fun j hj => fround_N c now h hq j hj) [8, 9, 10, 11] [0, 1] rfl (fun e => by cases e) rfl (flast_N c now h hq)
theorem fround_Q (c : Cq) (now : Nat) (h : c.idle now) (j : Nat) (hj : j < c.delay) :
    Rnd Try.prog 4 ((Try.f15.body.bind fstLoop).getD .skip) [0, 1, 2, 3, 6, 7] [0, 1, 2, 3, 12] (sp 51 [(0, pT), (1, pC1), (2, n64 (now + j)), (3, .s (.slc none 0 (some 0))), (12, .s (.int .i64 ((j : Nat) : Int)))]) 6 (lTQ (tqJ now j) (cqJ c now j)) (sp 51 [(0, pT), (1, pC1), (2, n64 (now + (j + 1))), (3, .s (.slc none 0 (some 0))), (12, .s (.int .i64 (((j + 1) : Nat) : Int)))]) (lTQ (tqJ now (j + 1)) (cqJ c now (j + 1))) := by
  have hd := h.delay
  have hl := h.lt
  have hs := step_Q (tqJ now j) (cqJ c now j) (now + j) (cqJ_ok h (by omega)) (by omega) (tqJ_ok now j).1 (tqJ_ok now j).2
  rw [stepq_w h j hj] at hs
  dsimp only at hs
  rw [out_w] at hs
  refine ⟨[.dec true, .call [0, 1, 4, 5] [pT, pC1, n64 (now + j)] (sTQ (tqJ now j) (cqJ c now j)) (.tup [.s (.int .u8 0), .s (.bool false), .s (.int .i64 0)]) 6 (eTQ (tqJ now (j + 1)) (cqJ c now (j + 1))), .dec false, .num ((now + (j + 1) : Nat) : Int), .num ((j + 1 : Nat) : Int)], _, _, _, _, _, rfl, ?_, rfl, ⟨rfl, rfl, rfl, trivial⟩⟩
  simp only [true_and, and_true, and_assoc, decide_eq_true_eq, decide_eq_false_iff_not]
  repeat' apply And.intro
  all_goals first
    | exact True.intro
    | exact ⟨hs, rfl, Fits.of rfl rfl ⟨⟨rfl, _, rfl, rfl, fun h => h⟩, ⟨rfl, _, rfl, rfl, fun h => h⟩, ⟨rfl, _, rfl, rfl, fun h => h⟩, trivial⟩⟩
    | exact c200 (by omega)
    | exact cinc (by omega)
    | exact cinj (by omega)
    | (with_reducible show _ = true; kernel_rfl)
    | omega
theorem flast_Q (c : Cq) (now : Nat) (h : c.idle now) :
    Lst Try.prog 4 ((Try.f15.body.bind fstLoop).getD .skip) [0, 1, 2, 3, 6, 7] [8, 9, 10, 11] (sp 51 [(0, pT), (1, pC1), (2, n64 (now + c.delay)), (3, .s (.slc none 0 (some 0))), (12, .s (.int .i64 ((c.delay : Nat) : Int)))]) 6 (lTQ (tqJ now c.delay) (cqJ c now c.delay)) .ret (sp 51 [(8, n8 (c.q.headD 0)), (9, .s (.int .i64 0)), (10, n64 (now + c.delay)), (11, .s (.bool true))]) (lTQ (tq now 5 (c.q.headD 0)) (cF c now)) := by
  have hd := h.delay
  have hl := h.lt
  have hs := step_Q (tqJ now c.delay) (cqJ c now c.delay) (now + c.delay) (cqJ_ok h (by omega)) (by omega) (tqJ_ok now c.delay).1 (tqJ_ok now c.delay).2
  rw [stepq_d h] at hs
  dsimp only at hs
  rw [out_d] at hs
  refine ⟨[.dec true, .call [0, 1, 4, 5] [pT, pC1, n64 (now + c.delay)] (sTQ (tqJ now c.delay) (cqJ c now c.delay)) (.tup [.s (.int .u8 ((c.q.headD 0 : Nat) : Int)), .s (.bool true), .s (.int .i64 0)]) 6 (eTQ (tq now 5 (c.q.headD 0)) (cF c now))], _, _, _, _, _, rfl, ?_, rfl, ⟨rfl, rfl, rfl, trivial⟩⟩
  simp only [true_and, and_true, and_assoc, decide_eq_true_eq, decide_eq_false_iff_not]
  repeat' apply And.intro
  all_goals first
    | exact True.intro
    | exact ⟨hs, rfl, Fits.of rfl rfl ⟨⟨rfl, _, rfl, rfl, fun h => h⟩, ⟨rfl, _, rfl, rfl, fun h => h⟩, ⟨rfl, _, rfl, rfl, fun h => h⟩, trivial⟩⟩
    | exact c200 (by omega)
    | (with_reducible show _ = true; kernel_rfl)
    | omega
theorem finish_Q (c : Cq) (now : Nat) (h : c.idle now) : SC Try.prog 15 [pT, pC1, n64 now, .s (.slc none 0 (some 0))] 4 (sTQ (tq now 0 0) c) (.tup [.s (.int .u8 ((c.q.headD 0 : Nat) : Int)), .s (.int .i64 0), .s (.int .u64 ((now + c.delay : Nat) : Int)), .s (.bool true)]) 6 (eTQ (tq now 5 (c.q.headD 0)) (cF c now)) := by
  refine SC.run hm Try.func15 rfl [.loop .ret (sp 51 [(8, n8 (c.q.headD 0)), (9, .s (.int .i64 0)), (10, n64 (now + c.delay)), (11, .s (.bool true))]) 6 (lTQ (tq now 5 (c.q.headD 0)) (cF c now))] [4, 5] rfl rfl ?_ (.inl rfl) (EndOK.move rfl ⟨rfl, rfl, rfl, trivial⟩ rfl rfl rfl rfl rfl)
  simp only [true_and, and_true, and_assoc]
  exact Ex.movesT hm [0, 1, 2, 3, 12] c.delay (fun j => (sp 51 [(0, pT), (1, pC1), (2, n64 (now + j)), (3, .s (.slc none 0 (some 0))), (12, .s (.int .i64 ((j : Nat) : Int)))])) (fun j => (lTQ (tqJ now j) (cqJ c now j))) [0, 1, 2, 3, 2, 3] (fun _ => [0, 1, 2, 3, 6, 7]) rfl (fun _ => rfl) rfl ⟨rfl, rfl, rfl, trivial⟩ rfl (fun _ => rfl) (fun j hj => fround_Q c now h j hj) [8, 9, 10, 11] [0, 1, 2, 3, 6, 7] rfl (fun e => by cases e) rfl (flast_Q c now h)

end Go.Proofs.Ytimebhllnemnbaa
