/-
  EcTransactionsMatchModel: it returns true.
-/
import Derived.Test.YtimebhllnemnbaaRk
import Derived.Test.YtimebhllnemnbaaEf
set_option linter.unusedSimpArgs false
set_option linter.unusedVariables false
namespace Go.Proofs.Ytimebhllnemnbaa
open Go Ab
set_option maxRecDepth 100000

set_option maxHeartbeats 2000000
def runX (s0 : Sx) (f : Nat → OpV) (g : Nat → Nat) (v tm nk : Nat) : Nat → Sx
  | 0 => s0
  | j + 1 => rdF (runX s0 f g v tm nk j) (f j) v tm nk j (g j)
theorem rdF_ok {s : Sx} {j : Nat} (h : s.ok j) (hj : j < 900) {x : OpV} (hx : x.ok) {v tm nk kd : Nat} (ht : tm < 2 ^ 64) : (rdF s x v tm nk j kd).ok (j + 1) :=
  s4_ok (s3_ok (s2_ok (s1_ok (s0_ok h) (by omega) hx ht) (by omega))) (by omega)
theorem runX_ok {s0 : Sx} (h : s0.ok 0) {f : Nat → OpV} {m : Nat} (hf : ∀ i, i < m → (f i).ok) {g : Nat → Nat} {v tm nk : Nat} (ht : tm < 2 ^ 64) : ∀ j, j ≤ m → j ≤ 80 → (runX s0 f g v tm nk j).ok j
  | 0, _, _ => h
  | j + 1, hj, h9 => rdF_ok (runX_ok h hf ht j (by omega) (by omega)) (by omega) (hf j (by omega)) ht
theorem rdF_ts0 {s : Sx} (h : s.ts = []) (x : OpV) (v tm i kd : Nat) : (rdF s x v tm 0 i kd).ts = [] := by
  have z1 : (s1F (s0F s x) x tm 0 i kd).ts = [] := by unfold s1F; rw [if_neg (fun e => absurd e.1 (Nat.not_lt_zero _))]; exact h
  have z2 : (s2F (s1F (s0F s x) x tm 0 i kd) x v).ts = [] := by unfold s2F; split <;> exact z1
  have z3 : (s3F (s2F (s1F (s0F s x) x tm 0 i kd) x v) x v).ts = [] := by unfold s3F; split <;> exact z2
  show (s4F (s3F (s2F (s1F (s0F s x) x tm 0 i kd) x v) x v) x).ts = []
  unfold s4F; rw [z3]; exact z3
theorem runX_ts0 {s0 : Sx} (h : s0.ts = []) (f : Nat → OpV) (g : Nat → Nat) (v tm : Nat) : ∀ j, (runX s0 f g v tm 0 j).ts = []
  | 0 => h
  | j + 1 => rdF_ts0 (runX_ts0 h f g v tm j) _ _ _ _ _
theorem sub_app {A X : Hp} : Sub A (A ++ X) := by
  intro i bl hi
  have : i ∈ keys A := by
    rcases Classical.em (i ∈ keys A) with h | h
    · exact h
    · rw [lk_none h] at hi; cases hi
  rw [lk_app_in this]; exact hi
def cq1 (d : Nat) : Cq := ⟨d, 0, fun _ => 0, false, false, 0, 0, false, 0, 0, false, 0, []⟩
def sx0 (d : Nat) : Sx := ⟨cq1 d, 0, 0, false, []⟩
theorem sx0_ok {d : Nat} (h : d < 2 ^ 64) : (sx0 d).ok 0 := ⟨⟨(by decide : 0 < 2 ^ 64), h, (by decide : 0 < 2 ^ 64), (by decide : 0 < 256), (by decide : 0 < 256), (by decide : 0 < 256), (by decide : 0 < 256), fun _ => (by decide : 0 < 256), fun x hx => (by cases hx), (by decide : 0 ≤ 16), fun _ => rfl⟩, Nat.le_refl _, fun _ => rfl, (by decide : 0 ≤ 6), fun y hy => (by cases hy)⟩
theorem wk9_A (v tm m : Nat) (ty1 : TypeId) (f : Nat → OpV) (i : Nat) (s : Sx) (hlen : s.ts.length ≤ 6) (hts : s.ts = []) : Wk 24 (e9 (.s (.slc none 0 (some 0))) v tm (.s (.slc (some (1, 0)) m none)) (va s.ts.length) (vb s.ts.length) s.now i) ([(1, some (bOp ty1 f m))] ++ (co s ++ TH s.ts)) (e9 (.s (.slc none 0 (some 0))) v tm (.s (.slc (some (1, 0)) m none)) (va s.ts.length) (vb s.ts.length) s.now i) ([(1, some (bOp ty1 f m))] ++ (co s ++ TH s.ts)) := by
  obtain ⟨c, o, now, vv, ts⟩ := s
  subst hts
  exact Wk.of [1, 2, 3, 4, 11, 13, 14, 15, 16, 17] rfl (Sub.refl _) rfl (okT_A v tm m ty1 f i default c o now vv [] hlen rfl)
theorem wkx_A (v tm m : Nat) (ty1 : TypeId) (f : Nat → OpV) (i : Nat) (s : Sx) : Wk 24 (e9 (.s (.slc none 0 (some 0))) v tm (.s (.slc (some (1, 0)) m none)) (va s.ts.length) (vb s.ts.length) s.now i) ([(1, some (bOp ty1 f m))] ++ (co s ++ TH s.ts)) (sp 215 []) [(1, some (bOp ty1 f m))] := Wk.of [] rfl sub_app rfl rfl
theorem out9_A (v tm m : Nat) (ty1 : TypeId) (f : Nat → OpV) (i : Nat) (s : Sx) (hlen : s.ts.length ≤ 6) (hts : s.ts = []) (hi : i = min m 80) : Ex Try.prog 2 ((Try.f8.body.bind fstLoop).getD .skip) (e9 (.s (.slc none 0 (some 0))) v tm (.s (.slc (some (1, 0)) m none)) (va s.ts.length) (vb s.ts.length) s.now i) 24 ([(1, some (bOp ty1 f m))] ++ (co s ++ TH s.ts)) (One (.exit 0) (e9 (.s (.slc none 0 (some 0))) v tm (.s (.slc (some (1, 0)) m none)) (va s.ts.length) (vb s.ts.length) s.now i) 24 ([(1, some (bOp ty1 f m))] ++ (co s ++ TH s.ts))) := by
  have key : Ex Try.prog 2 (sub [0] ((Try.f8.body.bind fstLoop).getD .skip)) (e9 (.s (.slc none 0 (some 0))) v tm (.s (.slc (some (1, 0)) m none)) (va s.ts.length) (vb s.ts.length) s.now i) 24 ([(1, some (bOp ty1 f m))] ++ (co s ++ TH s.ts)) (One (.exit 0) (e9 (.s (.slc none 0 (some 0))) v tm (.s (.slc (some (1, 0)) m none)) (va s.ts.length) (vb s.ts.length) s.now i) 24 ([(1, some (bOp ty1 f m))] ++ (co s ++ TH s.ts))) := by
    by_cases hm : i < m
    · exact tX2_A v tm m ty1 f i default s.c s.o s.now s.v s.ts hlen hts hm (by omega)
    · exact tX1_A v tm m ty1 f i default s.c s.o s.now s.v s.ts hlen hts hm
  refine Ex.seq (x := (sub [0] ((Try.f8.body.bind fstLoop).getD .skip))) (key.mono ?_)
  rintro z e k M ⟨rfl, rfl, rfl, rfl⟩
  exact ⟨rfl, rfl, rfl, rfl⟩
theorem loop9_A (v tm m : Nat) (ty1 : TypeId) (f : Nat → OpV) (d : Nat) (hd : d < 2 ^ 64) (hf : ∀ i, i < m → (f i).ok) (htm : tm < 2 ^ 64) {env : List V} {L : Hp} {n : Nat} (h0 : wkE [1, 2, 3, 4, 11, 13, 14, 15, 16, 17] 0 env = (e9 (.s (.slc none 0 (some 0))) v tm (.s (.slc (some (1, 0)) m none)) (va (sx0 d).ts.length) (vb (sx0 d).ts.length) (sx0 d).now 0)) (h1 : L = ([(1, some (bOp ty1 f m))] ++ (co (sx0 d) ++ TH (sx0 d).ts))) :
    Ex Try.prog 2 (.loop ((Try.f8.body.bind fstLoop).getD .skip)) env n L (One (.exit 0) (sp 215 []) 24 [(1, some (bOp ty1 f m))]) := by
  have ok := runX_ok (g := (fun _ => 0)) (v := v) (tm := tm) (nk := 0) (sx0_ok hd) hf htm
  subst h1
  refine Ex.wk (n' := 24) (by decide) (Wk.of [1, 2, 3, 4, 11, 13, 14, 15, 16, 17] h0 (Sub.refl _) rfl rfl) (Ex.count (min m 80) (fun j => (e9 (.s (.slc none 0 (some 0))) v tm (.s (.slc (some (1, 0)) m none)) (va (runX (sx0 d) f (fun _ => 0) v tm 0 j).ts.length) (vb (runX (sx0 d) f (fun _ => 0) v tm 0 j).ts.length) (runX (sx0 d) f (fun _ => 0) v tm 0 j).now j)) (fun j => ([(1, some (bOp ty1 f m))] ++ (co (runX (sx0 d) f (fun _ => 0) v tm 0 j) ++ TH (runX (sx0 d) f (fun _ => 0) v tm 0 j).ts))) (by decide) ?_ ⟨(fun e => by cases e), _, _, _, out9_A v tm m ty1 f (min m 80) _ (ok _ (by omega) (by omega)).len (runX_ts0 rfl f (fun _ => 0) v tm _) rfl, wkx_A v tm m ty1 f _ _⟩)
  intro j hj
  have k := ok j (by omega) (by omega)
  have k' := ok (j + 1) (by omega) (by omega)
  refine ⟨_, 24, _, ?_, wk9_A v tm m ty1 f (j + 1) (runX (sx0 d) f (fun _ => 0) v tm 0 (j + 1)) k'.len (runX_ts0 rfl f (fun _ => 0) v tm (j + 1))⟩
  exact round_A v tm m ty1 f j (f j) (runX (sx0 d) f (fun _ => 0) v tm 0 j) 0 k (by omega) (by omega) rfl (hf j (by omega)) htm (runX_ts0 rfl f (fun _ => 0) v tm j)
theorem trans_AB (D v T m : Nat) (ty1 : TypeId) (f : Nat → OpV) (hf : ∀ i, i < m → (f i).ok) :
    SC Try.prog 8 [n64 D, (.s (.slc none 0 (some 0))), n8 v, n64 T, (.s (.slc (some (1, 0)) m none))] 2 [(1, some (bOp ty1 f m))] (.s (.bool true)) 2 [(1, some (bOp ty1 f m))] := by
  have m4 : Int.tmod ((D : Nat) : Int) 4 = ((D % 4 : Nat) : Int) := rfl
  have m30 : Int.tmod ((T : Nat) : Int) 30 = ((T % 30 : Nat) : Int) := rfl
  have gn : SC Try.prog 9 [n64 (D % 4)] 0 [] (.tup [.s (.ptr (some (0, 0))), .s (.int .i64 0)]) 1 [(0, some (bN (cq1 (D % 4))))] := new_s (D % 4) (by omega)
  have gc : SC Try.prog 17 [n64 (D % 4)] 0 [] (.s (.ptr (some (0, 0)))) 1 [(0, some (bR (cq1 (D % 4)) 0 nilS))] := newC_s (D % 4)
  have hl := fun {env : List V} {L : Hp} {n : Nat} a b => loop9_A v (T % 30) m ty1 f (D % 4) (by omega) hf (by omega) (env := env) (L := L) (n := n) a b
  refine SC.run hm Try.func8 rfl [.num ((D % 4 : Nat) : Int), .num ((T % 30 : Nat) : Int), .call [] [n64 (D % 4)] [] (.tup [.s (.ptr (some (0, 0))), .s (.int .i64 0)]) 1 [(0, some (bN (cq1 (D % 4))))], .call [] [] [] (.s (.bool true)) 0 [], .dec false, .dec false, .call [] [n64 (D % 4)] [] (.s (.ptr (some (0, 0)))) 1 [(0, some (bR (cq1 (D % 4)) 0 nilS))], .loop (.exit 0) (sp 215 []) 24 [(1, some (bOp ty1 f m))]] [] rfl rfl ?_ (.inl rfl) (EndOK.by rfl ⟨rfl, trivial⟩ rfl rfl rfl rfl)
  simp only [true_and, and_true, and_assoc, decide_eq_true_eq, decide_eq_false_iff_not, ne_eq, beq_iff_eq, beq_eq_false_iff_ne, bne_eq_false_iff_eq, bne_iff_ne, bne_self_eq_false, beq_self_eq_true]
  repeat' apply And.intro
  all_goals first
    | exact True.intro
    | exact call0 gn rfl
    | exact call0 awake_s rfl
    | exact call0 gc rfl
    | exact hl rfl rfl
    | (with_reducible show _ = true; kernel_rfl)
    | (with_reducible exact rfl)
    | omega
    | rfl
theorem xl_AA (v tm : Nat) (c : Cq) (o : Nat) : Lst Try.prog 2 ((Try.f8.body.bind fstLoop).getD .skip) [0, 1, 2, 3] [1, 2, 3, 4, 11, 13, 14, 15, 16, 17] (e9 (.s (.slc none 0 (some 0))) v tm (.s (.slc none 0 (some 0))) nilV nilV 0 0) 4 [(2, some (bN c)), (3, some (bR c o nilS))] (.exit 0) (e9 (.s (.slc none 0 (some 0))) v tm (.s (.slc none 0 (some 0))) nilV nilV 0 0) [(2, some (bN c)), (3, some (bR c o nilS))] := by
  refine ⟨[.dec false], _, _, _, _, _, rfl, ?_, rfl, ⟨rfl, rfl, trivial⟩⟩
  simp only [true_and, and_true, decide_eq_false_iff_not]; omega
theorem trans_AA (D v T : Nat) : SC Try.prog 8 [n64 D, (.s (.slc none 0 (some 0))), n8 v, n64 T, (.s (.slc none 0 (some 0)))] 2 [] (.s (.bool true)) 2 [] := by
  have m4 : Int.tmod ((D : Nat) : Int) 4 = ((D % 4 : Nat) : Int) := rfl
  have m30 : Int.tmod ((T : Nat) : Int) 30 = ((T % 30 : Nat) : Int) := rfl
  have gn : SC Try.prog 9 [n64 (D % 4)] 0 [] (.tup [.s (.ptr (some (0, 0))), .s (.int .i64 0)]) 1 [(0, some (bN (cq1 (D % 4))))] := new_s (D % 4) (by omega)
  have gc : SC Try.prog 17 [n64 (D % 4)] 0 [] (.s (.ptr (some (0, 0)))) 1 [(0, some (bR (cq1 (D % 4)) 0 nilS))] := newC_s (D % 4)
  have hl := xl_AA v (T % 30) (cq1 (D % 4)) 0
  refine SC.run hm Try.func8 rfl [.num ((D % 4 : Nat) : Int), .num ((T % 30 : Nat) : Int), .call [] [n64 (D % 4)] [] (.tup [.s (.ptr (some (0, 0))), .s (.int .i64 0)]) 1 [(0, some (bN (cq1 (D % 4))))], .call [] [] [] (.s (.bool true)) 0 [], .dec false, .dec false, .call [] [n64 (D % 4)] [] (.s (.ptr (some (0, 0)))) 1 [(0, some (bR (cq1 (D % 4)) 0 nilS))], .loop (.exit 0) (e9 (.s (.slc none 0 (some 0))) v (T % 30) (.s (.slc none 0 (some 0))) nilV nilV 0 0) 4 [(2, some (bN (cq1 (D % 4)))), (3, some (bR (cq1 (D % 4)) 0 nilS))]] [] rfl rfl ?_ (.inl rfl) (EndOK.plain rfl no_mem rfl rfl)
  simp only [true_and, and_true, and_assoc, decide_eq_true_eq, decide_eq_false_iff_not, ne_eq, beq_iff_eq, beq_eq_false_iff_ne, bne_eq_false_iff_eq, bne_iff_ne, bne_self_eq_false, beq_self_eq_true]
  repeat' apply And.intro
  all_goals first
    | exact True.intro
    | exact call0 gn rfl
    | exact call0 awake_s rfl
    | exact call0 gc rfl
    | exact Ex.movesT hm [1, 2, 3, 4, 11, 13, 14, 15, 16, 17] 0 (fun _ => (e9 (.s (.slc none 0 (some 0))) v (T % 30) (.s (.slc none 0 (some 0))) nilV nilV 0 0)) (fun _ => [(2, some (bN (cq1 (D % 4)))), (3, some (bR (cq1 (D % 4)) 0 nilS))]) [0, 1, 2, 3] (fun _ => [0, 1, 2, 3]) rfl (fun _ => rfl) rfl ⟨rfl, rfl, trivial⟩ rfl (fun _ => rfl) (fun j hj => absurd hj (Nat.not_lt_zero _)) [1, 2, 3, 4, 11, 13, 14, 15, 16, 17] [0, 1, 2, 3] rfl (fun e => by cases e) rfl hl
    | (with_reducible show _ = true; kernel_rfl)
    | (with_reducible exact rfl)
    | omega
    | rfl
theorem xl_AE (v tm : Nat) (c : Cq) (o : Nat) : Lst Try.prog 2 ((Try.f8.body.bind fstLoop).getD .skip) [0, 1, 2, 3] [1, 2, 3, 4, 11, 13, 14, 15, 16, 17] (e9 (.s (.slc none 0 (some 0))) v tm (.s .emp) nilV nilV 0 0) 4 [(2, some (bN c)), (3, some (bR c o nilS))] (.exit 0) (e9 (.s (.slc none 0 (some 0))) v tm (.s .emp) nilV nilV 0 0) [(2, some (bN c)), (3, some (bR c o nilS))] := by
  refine ⟨[.dec false], _, _, _, _, _, rfl, ?_, rfl, ⟨rfl, rfl, trivial⟩⟩
  simp only [true_and, and_true, decide_eq_false_iff_not]; omega
theorem trans_AE (D v T : Nat) : SC Try.prog 8 [n64 D, (.s (.slc none 0 (some 0))), n8 v, n64 T, (.s .emp)] 2 [] (.s (.bool true)) 2 [] := by
  have m4 : Int.tmod ((D : Nat) : Int) 4 = ((D % 4 : Nat) : Int) := rfl
  have m30 : Int.tmod ((T : Nat) : Int) 30 = ((T % 30 : Nat) : Int) := rfl
  have gn : SC Try.prog 9 [n64 (D % 4)] 0 [] (.tup [.s (.ptr (some (0, 0))), .s (.int .i64 0)]) 1 [(0, some (bN (cq1 (D % 4))))] := new_s (D % 4) (by omega)
  have gc : SC Try.prog 17 [n64 (D % 4)] 0 [] (.s (.ptr (some (0, 0)))) 1 [(0, some (bR (cq1 (D % 4)) 0 nilS))] := newC_s (D % 4)
  have hl := xl_AE v (T % 30) (cq1 (D % 4)) 0
  refine SC.run hm Try.func8 rfl [.num ((D % 4 : Nat) : Int), .num ((T % 30 : Nat) : Int), .call [] [n64 (D % 4)] [] (.tup [.s (.ptr (some (0, 0))), .s (.int .i64 0)]) 1 [(0, some (bN (cq1 (D % 4))))], .call [] [] [] (.s (.bool true)) 0 [], .dec false, .dec false, .call [] [n64 (D % 4)] [] (.s (.ptr (some (0, 0)))) 1 [(0, some (bR (cq1 (D % 4)) 0 nilS))], .loop (.exit 0) (e9 (.s (.slc none 0 (some 0))) v (T % 30) (.s .emp) nilV nilV 0 0) 4 [(2, some (bN (cq1 (D % 4)))), (3, some (bR (cq1 (D % 4)) 0 nilS))]] [] rfl rfl ?_ (.inl rfl) (EndOK.plain rfl no_mem rfl rfl)
  simp only [true_and, and_true, and_assoc, decide_eq_true_eq, decide_eq_false_iff_not, ne_eq, beq_iff_eq, beq_eq_false_iff_ne, bne_eq_false_iff_eq, bne_iff_ne, bne_self_eq_false, beq_self_eq_true]
  repeat' apply And.intro
  all_goals first
    | exact True.intro
    | exact call0 gn rfl
    | exact call0 awake_s rfl
    | exact call0 gc rfl
    | exact Ex.movesT hm [1, 2, 3, 4, 11, 13, 14, 15, 16, 17] 0 (fun _ => (e9 (.s (.slc none 0 (some 0))) v (T % 30) (.s .emp) nilV nilV 0 0)) (fun _ => [(2, some (bN (cq1 (D % 4)))), (3, some (bR (cq1 (D % 4)) 0 nilS))]) [0, 1, 2, 3] (fun _ => [0, 1, 2, 3]) rfl (fun _ => rfl) rfl ⟨rfl, rfl, trivial⟩ rfl (fun _ => rfl) (fun j hj => absurd hj (Nat.not_lt_zero _)) [1, 2, 3, 4, 11, 13, 14, 15, 16, 17] [0, 1, 2, 3] rfl (fun e => by cases e) rfl hl
    | (with_reducible show _ = true; kernel_rfl)
    | (with_reducible exact rfl)
    | omega
    | rfl
theorem wk9_E (v tm m : Nat) (ty1 : TypeId) (f : Nat → OpV) (i : Nat) (s : Sx) (hlen : s.ts.length ≤ 6) (hts : s.ts = []) : Wk 24 (e9 (.s .emp) v tm (.s (.slc (some (1, 0)) m none)) (va s.ts.length) (vb s.ts.length) s.now i) ([(1, some (bOp ty1 f m))] ++ (co s ++ TH s.ts)) (e9 (.s .emp) v tm (.s (.slc (some (1, 0)) m none)) (va s.ts.length) (vb s.ts.length) s.now i) ([(1, some (bOp ty1 f m))] ++ (co s ++ TH s.ts)) := by
  obtain ⟨c, o, now, vv, ts⟩ := s
  subst hts
  exact Wk.of [1, 2, 3, 4, 11, 13, 14, 15, 16, 17] rfl (Sub.refl _) rfl (okT_E v tm m ty1 f i default c o now vv [] hlen rfl)
theorem wkx_E (v tm m : Nat) (ty1 : TypeId) (f : Nat → OpV) (i : Nat) (s : Sx) : Wk 24 (e9 (.s .emp) v tm (.s (.slc (some (1, 0)) m none)) (va s.ts.length) (vb s.ts.length) s.now i) ([(1, some (bOp ty1 f m))] ++ (co s ++ TH s.ts)) (sp 215 []) [(1, some (bOp ty1 f m))] := Wk.of [] rfl sub_app rfl rfl
theorem out9_E (v tm m : Nat) (ty1 : TypeId) (f : Nat → OpV) (i : Nat) (s : Sx) (hlen : s.ts.length ≤ 6) (hts : s.ts = []) (hi : i = min m 80) : Ex Try.prog 2 ((Try.f8.body.bind fstLoop).getD .skip) (e9 (.s .emp) v tm (.s (.slc (some (1, 0)) m none)) (va s.ts.length) (vb s.ts.length) s.now i) 24 ([(1, some (bOp ty1 f m))] ++ (co s ++ TH s.ts)) (One (.exit 0) (e9 (.s .emp) v tm (.s (.slc (some (1, 0)) m none)) (va s.ts.length) (vb s.ts.length) s.now i) 24 ([(1, some (bOp ty1 f m))] ++ (co s ++ TH s.ts))) := by
  have key : Ex Try.prog 2 (sub [0] ((Try.f8.body.bind fstLoop).getD .skip)) (e9 (.s .emp) v tm (.s (.slc (some (1, 0)) m none)) (va s.ts.length) (vb s.ts.length) s.now i) 24 ([(1, some (bOp ty1 f m))] ++ (co s ++ TH s.ts)) (One (.exit 0) (e9 (.s .emp) v tm (.s (.slc (some (1, 0)) m none)) (va s.ts.length) (vb s.ts.length) s.now i) 24 ([(1, some (bOp ty1 f m))] ++ (co s ++ TH s.ts))) := by
    by_cases hm : i < m
    · exact tX2_E v tm m ty1 f i default s.c s.o s.now s.v s.ts hlen hts hm (by omega)
    · exact tX1_E v tm m ty1 f i default s.c s.o s.now s.v s.ts hlen hts hm
  refine Ex.seq (x := (sub [0] ((Try.f8.body.bind fstLoop).getD .skip))) (key.mono ?_)
  rintro z e k M ⟨rfl, rfl, rfl, rfl⟩
  exact ⟨rfl, rfl, rfl, rfl⟩
theorem loop9_E (v tm m : Nat) (ty1 : TypeId) (f : Nat → OpV) (d : Nat) (hd : d < 2 ^ 64) (hf : ∀ i, i < m → (f i).ok) (htm : tm < 2 ^ 64) {env : List V} {L : Hp} {n : Nat} (h0 : wkE [1, 2, 3, 4, 11, 13, 14, 15, 16, 17] 0 env = (e9 (.s .emp) v tm (.s (.slc (some (1, 0)) m none)) (va (sx0 d).ts.length) (vb (sx0 d).ts.length) (sx0 d).now 0)) (h1 : L = ([(1, some (bOp ty1 f m))] ++ (co (sx0 d) ++ TH (sx0 d).ts))) :
    Ex Try.prog 2 (.loop ((Try.f8.body.bind fstLoop).getD .skip)) env n L (One (.exit 0) (sp 215 []) 24 [(1, some (bOp ty1 f m))]) := by
  have ok := runX_ok (g := (fun _ => 0)) (v := v) (tm := tm) (nk := 0) (sx0_ok hd) hf htm
  subst h1
  refine Ex.wk (n' := 24) (by decide) (Wk.of [1, 2, 3, 4, 11, 13, 14, 15, 16, 17] h0 (Sub.refl _) rfl rfl) (Ex.count (min m 80) (fun j => (e9 (.s .emp) v tm (.s (.slc (some (1, 0)) m none)) (va (runX (sx0 d) f (fun _ => 0) v tm 0 j).ts.length) (vb (runX (sx0 d) f (fun _ => 0) v tm 0 j).ts.length) (runX (sx0 d) f (fun _ => 0) v tm 0 j).now j)) (fun j => ([(1, some (bOp ty1 f m))] ++ (co (runX (sx0 d) f (fun _ => 0) v tm 0 j) ++ TH (runX (sx0 d) f (fun _ => 0) v tm 0 j).ts))) (by decide) ?_ ⟨(fun e => by cases e), _, _, _, out9_E v tm m ty1 f (min m 80) _ (ok _ (by omega) (by omega)).len (runX_ts0 rfl f (fun _ => 0) v tm _) rfl, wkx_E v tm m ty1 f _ _⟩)
  intro j hj
  have k := ok j (by omega) (by omega)
  have k' := ok (j + 1) (by omega) (by omega)
  refine ⟨_, 24, _, ?_, wk9_E v tm m ty1 f (j + 1) (runX (sx0 d) f (fun _ => 0) v tm 0 (j + 1)) k'.len (runX_ts0 rfl f (fun _ => 0) v tm (j + 1))⟩
  exact round_E v tm m ty1 f j (f j) (runX (sx0 d) f (fun _ => 0) v tm 0 j) 0 k (by omega) (by omega) rfl (hf j (by omega)) htm (runX_ts0 rfl f (fun _ => 0) v tm j)
theorem trans_EB (D v T m : Nat) (ty1 : TypeId) (f : Nat → OpV) (hf : ∀ i, i < m → (f i).ok) :
    SC Try.prog 8 [n64 D, (.s .emp), n8 v, n64 T, (.s (.slc (some (1, 0)) m none))] 2 [(1, some (bOp ty1 f m))] (.s (.bool true)) 2 [(1, some (bOp ty1 f m))] := by
  have m4 : Int.tmod ((D : Nat) : Int) 4 = ((D % 4 : Nat) : Int) := rfl
  have m30 : Int.tmod ((T : Nat) : Int) 30 = ((T % 30 : Nat) : Int) := rfl
  have gn : SC Try.prog 9 [n64 (D % 4)] 0 [] (.tup [.s (.ptr (some (0, 0))), .s (.int .i64 0)]) 1 [(0, some (bN (cq1 (D % 4))))] := new_s (D % 4) (by omega)
  have gc : SC Try.prog 17 [n64 (D % 4)] 0 [] (.s (.ptr (some (0, 0)))) 1 [(0, some (bR (cq1 (D % 4)) 0 nilS))] := newC_s (D % 4)
  have hl := fun {env : List V} {L : Hp} {n : Nat} a b => loop9_E v (T % 30) m ty1 f (D % 4) (by omega) hf (by omega) (env := env) (L := L) (n := n) a b
  refine SC.run hm Try.func8 rfl [.num ((D % 4 : Nat) : Int), .num ((T % 30 : Nat) : Int), .call [] [n64 (D % 4)] [] (.tup [.s (.ptr (some (0, 0))), .s (.int .i64 0)]) 1 [(0, some (bN (cq1 (D % 4))))], .call [] [] [] (.s (.bool true)) 0 [], .dec false, .dec false, .call [] [n64 (D % 4)] [] (.s (.ptr (some (0, 0)))) 1 [(0, some (bR (cq1 (D % 4)) 0 nilS))], .loop (.exit 0) (sp 215 []) 24 [(1, some (bOp ty1 f m))]] [] rfl rfl ?_ (.inl rfl) (EndOK.by rfl ⟨rfl, trivial⟩ rfl rfl rfl rfl)
  simp only [true_and, and_true, and_assoc, decide_eq_true_eq, decide_eq_false_iff_not, ne_eq, beq_iff_eq, beq_eq_false_iff_ne, bne_eq_false_iff_eq, bne_iff_ne, bne_self_eq_false, beq_self_eq_true]
  repeat' apply And.intro
  all_goals first
    | exact True.intro
    | exact call0 gn rfl
    | exact call0 awake_s rfl
    | exact call0 gc rfl
    | exact hl rfl rfl
    | (with_reducible show _ = true; kernel_rfl)
    | (with_reducible exact rfl)
    | omega
    | rfl
theorem xl_EA (v tm : Nat) (c : Cq) (o : Nat) : Lst Try.prog 2 ((Try.f8.body.bind fstLoop).getD .skip) [0, 1, 2, 3] [1, 2, 3, 4, 11, 13, 14, 15, 16, 17] (e9 (.s .emp) v tm (.s (.slc none 0 (some 0))) nilV nilV 0 0) 4 [(2, some (bN c)), (3, some (bR c o nilS))] (.exit 0) (e9 (.s .emp) v tm (.s (.slc none 0 (some 0))) nilV nilV 0 0) [(2, some (bN c)), (3, some (bR c o nilS))] := by
  refine ⟨[.dec false], _, _, _, _, _, rfl, ?_, rfl, ⟨rfl, rfl, trivial⟩⟩
  simp only [true_and, and_true, decide_eq_false_iff_not]; omega
theorem trans_EA (D v T : Nat) : SC Try.prog 8 [n64 D, (.s .emp), n8 v, n64 T, (.s (.slc none 0 (some 0)))] 2 [] (.s (.bool true)) 2 [] := by
  have m4 : Int.tmod ((D : Nat) : Int) 4 = ((D % 4 : Nat) : Int) := rfl
  have m30 : Int.tmod ((T : Nat) : Int) 30 = ((T % 30 : Nat) : Int) := rfl
  have gn : SC Try.prog 9 [n64 (D % 4)] 0 [] (.tup [.s (.ptr (some (0, 0))), .s (.int .i64 0)]) 1 [(0, some (bN (cq1 (D % 4))))] := new_s (D % 4) (by omega)
  have gc : SC Try.prog 17 [n64 (D % 4)] 0 [] (.s (.ptr (some (0, 0)))) 1 [(0, some (bR (cq1 (D % 4)) 0 nilS))] := newC_s (D % 4)
  have hl := xl_EA v (T % 30) (cq1 (D % 4)) 0
  refine SC.run hm Try.func8 rfl [.num ((D % 4 : Nat) : Int), .num ((T % 30 : Nat) : Int), .call [] [n64 (D % 4)] [] (.tup [.s (.ptr (some (0, 0))), .s (.int .i64 0)]) 1 [(0, some (bN (cq1 (D % 4))))], .call [] [] [] (.s (.bool true)) 0 [], .dec false, .dec false, .call [] [n64 (D % 4)] [] (.s (.ptr (some (0, 0)))) 1 [(0, some (bR (cq1 (D % 4)) 0 nilS))], .loop (.exit 0) (e9 (.s .emp) v (T % 30) (.s (.slc none 0 (some 0))) nilV nilV 0 0) 4 [(2, some (bN (cq1 (D % 4)))), (3, some (bR (cq1 (D % 4)) 0 nilS))]] [] rfl rfl ?_ (.inl rfl) (EndOK.plain rfl no_mem rfl rfl)
  simp only [true_and, and_true, and_assoc, decide_eq_true_eq, decide_eq_false_iff_not, ne_eq, beq_iff_eq, beq_eq_false_iff_ne, bne_eq_false_iff_eq, bne_iff_ne, bne_self_eq_false, beq_self_eq_true]
  repeat' apply And.intro
  all_goals first
    | exact True.intro
    | exact call0 gn rfl
    | exact call0 awake_s rfl
    | exact call0 gc rfl
    | exact Ex.movesT hm [1, 2, 3, 4, 11, 13, 14, 15, 16, 17] 0 (fun _ => (e9 (.s .emp) v (T % 30) (.s (.slc none 0 (some 0))) nilV nilV 0 0)) (fun _ => [(2, some (bN (cq1 (D % 4)))), (3, some (bR (cq1 (D % 4)) 0 nilS))]) [0, 1, 2, 3] (fun _ => [0, 1, 2, 3]) rfl (fun _ => rfl) rfl ⟨rfl, rfl, trivial⟩ rfl (fun _ => rfl) (fun j hj => absurd hj (Nat.not_lt_zero _)) [1, 2, 3, 4, 11, 13, 14, 15, 16, 17] [0, 1, 2, 3] rfl (fun e => by cases e) rfl hl
    | (with_reducible show _ = true; kernel_rfl)
    | (with_reducible exact rfl)
    | omega
    | rfl
theorem xl_EE (v tm : Nat) (c : Cq) (o : Nat) : Lst Try.prog 2 ((Try.f8.body.bind fstLoop).getD .skip) [0, 1, 2, 3] [1, 2, 3, 4, 11, 13, 14, 15, 16, 17] (e9 (.s .emp) v tm (.s .emp) nilV nilV 0 0) 4 [(2, some (bN c)), (3, some (bR c o nilS))] (.exit 0) (e9 (.s .emp) v tm (.s .emp) nilV nilV 0 0) [(2, some (bN c)), (3, some (bR c o nilS))] := by
  refine ⟨[.dec false], _, _, _, _, _, rfl, ?_, rfl, ⟨rfl, rfl, trivial⟩⟩
  simp only [true_and, and_true, decide_eq_false_iff_not]; omega
theorem trans_EE (D v T : Nat) : SC Try.prog 8 [n64 D, (.s .emp), n8 v, n64 T, (.s .emp)] 2 [] (.s (.bool true)) 2 [] := by
  have m4 : Int.tmod ((D : Nat) : Int) 4 = ((D % 4 : Nat) : Int) := rfl
  have m30 : Int.tmod ((T : Nat) : Int) 30 = ((T % 30 : Nat) : Int) := rfl
  have gn : SC Try.prog 9 [n64 (D % 4)] 0 [] (.tup [.s (.ptr (some (0, 0))), .s (.int .i64 0)]) 1 [(0, some (bN (cq1 (D % 4))))] := new_s (D % 4) (by omega)
  have gc : SC Try.prog 17 [n64 (D % 4)] 0 [] (.s (.ptr (some (0, 0)))) 1 [(0, some (bR (cq1 (D % 4)) 0 nilS))] := newC_s (D % 4)
  have hl := xl_EE v (T % 30) (cq1 (D % 4)) 0
  refine SC.run hm Try.func8 rfl [.num ((D % 4 : Nat) : Int), .num ((T % 30 : Nat) : Int), .call [] [n64 (D % 4)] [] (.tup [.s (.ptr (some (0, 0))), .s (.int .i64 0)]) 1 [(0, some (bN (cq1 (D % 4))))], .call [] [] [] (.s (.bool true)) 0 [], .dec false, .dec false, .call [] [n64 (D % 4)] [] (.s (.ptr (some (0, 0)))) 1 [(0, some (bR (cq1 (D % 4)) 0 nilS))], .loop (.exit 0) (e9 (.s .emp) v (T % 30) (.s .emp) nilV nilV 0 0) 4 [(2, some (bN (cq1 (D % 4)))), (3, some (bR (cq1 (D % 4)) 0 nilS))]] [] rfl rfl ?_ (.inl rfl) (EndOK.plain rfl no_mem rfl rfl)
  simp only [true_and, and_true, and_assoc, decide_eq_true_eq, decide_eq_false_iff_not, ne_eq, beq_iff_eq, beq_eq_false_iff_ne, bne_eq_false_iff_eq, bne_iff_ne, bne_self_eq_false, beq_self_eq_true]
  repeat' apply And.intro
  all_goals first
    | exact True.intro
    | exact call0 gn rfl
    | exact call0 awake_s rfl
    | exact call0 gc rfl
    | exact Ex.movesT hm [1, 2, 3, 4, 11, 13, 14, 15, 16, 17] 0 (fun _ => (e9 (.s .emp) v (T % 30) (.s .emp) nilV nilV 0 0)) (fun _ => [(2, some (bN (cq1 (D % 4)))), (3, some (bR (cq1 (D % 4)) 0 nilS))]) [0, 1, 2, 3] (fun _ => [0, 1, 2, 3]) rfl (fun _ => rfl) rfl ⟨rfl, rfl, trivial⟩ rfl (fun _ => rfl) (fun j hj => absurd hj (Nat.not_lt_zero _)) [1, 2, 3, 4, 11, 13, 14, 15, 16, 17] [0, 1, 2, 3] rfl (fun e => by cases e) rfl hl
    | (with_reducible show _ = true; kernel_rfl)
    | (with_reducible exact rfl)
    | omega
    | rfl
theorem wk9_B (ty : TypeId) (mr : Bool) (C : List S) (oo nk : Nat) (cc : Option Nat) (v tm m : Nat) (ty1 : TypeId) (f : Nat → OpV) (i : Nat) (s : Sx) (hlen : s.ts.length ≤ 6) : Wk 24 (e9 (.s (.slc (some (0, oo)) nk cc)) v tm (.s (.slc (some (1, 0)) m none)) (va s.ts.length) (vb s.ts.length) s.now i) ([(0, some (bRb ty mr C)), (1, some (bOp ty1 f m))] ++ (co s ++ TH s.ts)) (e9 (.s (.slc (some (0, oo)) nk cc)) v tm (.s (.slc (some (1, 0)) m none)) (va s.ts.length) (vb s.ts.length) s.now i) ([(0, some (bRb ty mr C)), (1, some (bOp ty1 f m))] ++ (co s ++ TH s.ts)) := by
  obtain ⟨c, o, now, vv, ts⟩ := s
  cases ts with
  | nil => exact Wk.of [1, 2, 3, 4, 11, 13, 14, 15, 16, 17] rfl (Sub.refl _) rfl (okT_B ty mr C oo nk cc v tm m ty1 f i default c o now vv [] hlen)
  | cons y r => exact Wk.of [1, 2, 3, 4, 11, 13, 14, 15, 16, 17] rfl (Sub.refl _) rfl (okT_B ty mr C oo nk cc v tm m ty1 f i default c o now vv (y :: r) hlen)
theorem wkx_B (ty : TypeId) (mr : Bool) (C : List S) (oo nk : Nat) (cc : Option Nat) (v tm m : Nat) (ty1 : TypeId) (f : Nat → OpV) (i : Nat) (s : Sx) : Wk 24 (e9 (.s (.slc (some (0, oo)) nk cc)) v tm (.s (.slc (some (1, 0)) m none)) (va s.ts.length) (vb s.ts.length) s.now i) ([(0, some (bRb ty mr C)), (1, some (bOp ty1 f m))] ++ (co s ++ TH s.ts)) (sp 215 []) [(0, some (bRb ty mr C)), (1, some (bOp ty1 f m))] := Wk.of [] rfl sub_app rfl rfl
theorem out9_B (ty : TypeId) (mr : Bool) (C : List S) (oo nk : Nat) (cc : Option Nat) (v tm m : Nat) (ty1 : TypeId) (f : Nat → OpV) (i : Nat) (s : Sx) (hlen : s.ts.length ≤ 6) (hi : i = min m 80) : Ex Try.prog 2 ((Try.f8.body.bind fstLoop).getD .skip) (e9 (.s (.slc (some (0, oo)) nk cc)) v tm (.s (.slc (some (1, 0)) m none)) (va s.ts.length) (vb s.ts.length) s.now i) 24 ([(0, some (bRb ty mr C)), (1, some (bOp ty1 f m))] ++ (co s ++ TH s.ts)) (One (.exit 0) (e9 (.s (.slc (some (0, oo)) nk cc)) v tm (.s (.slc (some (1, 0)) m none)) (va s.ts.length) (vb s.ts.length) s.now i) 24 ([(0, some (bRb ty mr C)), (1, some (bOp ty1 f m))] ++ (co s ++ TH s.ts))) := by
  have key : Ex Try.prog 2 (sub [0] ((Try.f8.body.bind fstLoop).getD .skip)) (e9 (.s (.slc (some (0, oo)) nk cc)) v tm (.s (.slc (some (1, 0)) m none)) (va s.ts.length) (vb s.ts.length) s.now i) 24 ([(0, some (bRb ty mr C)), (1, some (bOp ty1 f m))] ++ (co s ++ TH s.ts)) (One (.exit 0) (e9 (.s (.slc (some (0, oo)) nk cc)) v tm (.s (.slc (some (1, 0)) m none)) (va s.ts.length) (vb s.ts.length) s.now i) 24 ([(0, some (bRb ty mr C)), (1, some (bOp ty1 f m))] ++ (co s ++ TH s.ts))) := by
    by_cases hm : i < m
    · exact tX2_B ty mr C oo nk cc v tm m ty1 f i default s.c s.o s.now s.v s.ts hlen hm (by omega)
    · exact tX1_B ty mr C oo nk cc v tm m ty1 f i default s.c s.o s.now s.v s.ts hlen hm
  refine Ex.seq (x := (sub [0] ((Try.f8.body.bind fstLoop).getD .skip))) (key.mono ?_)
  rintro z e k M ⟨rfl, rfl, rfl, rfl⟩
  exact ⟨rfl, rfl, rfl, rfl⟩
theorem loop9_B (ty : TypeId) (mr : Bool) (C : List S) (oo nk : Nat) (cc : Option Nat) (v tm m : Nat) (ty1 : TypeId) (f : Nat → OpV) (g : Nat → Nat) (hg : ∀ i, g i < 256) (hC : ∀ i, i < nk → C[oo + i]? = some (.int .u8 ((g i : Nat) : Int))) (d : Nat) (hd : d < 2 ^ 64) (hf : ∀ i, i < m → (f i).ok) (htm : tm < 2 ^ 64) {env : List V} {L : Hp} {n : Nat} (h0 : wkE [1, 2, 3, 4, 11, 13, 14, 15, 16, 17] 0 env = (e9 (.s (.slc (some (0, oo)) nk cc)) v tm (.s (.slc (some (1, 0)) m none)) (va (sx0 d).ts.length) (vb (sx0 d).ts.length) (sx0 d).now 0)) (h1 : L = ([(0, some (bRb ty mr C)), (1, some (bOp ty1 f m))] ++ (co (sx0 d) ++ TH (sx0 d).ts))) :
    Ex Try.prog 2 (.loop ((Try.f8.body.bind fstLoop).getD .skip)) env n L (One (.exit 0) (sp 215 []) 24 [(0, some (bRb ty mr C)), (1, some (bOp ty1 f m))]) := by
  have ok := runX_ok (g := g) (v := v) (tm := tm) (nk := nk) (sx0_ok hd) hf htm
  subst h1
  refine Ex.wk (n' := 24) (by decide) (Wk.of [1, 2, 3, 4, 11, 13, 14, 15, 16, 17] h0 (Sub.refl _) rfl rfl) (Ex.count (min m 80) (fun j => (e9 (.s (.slc (some (0, oo)) nk cc)) v tm (.s (.slc (some (1, 0)) m none)) (va (runX (sx0 d) f g v tm nk j).ts.length) (vb (runX (sx0 d) f g v tm nk j).ts.length) (runX (sx0 d) f g v tm nk j).now j)) (fun j => ([(0, some (bRb ty mr C)), (1, some (bOp ty1 f m))] ++ (co (runX (sx0 d) f g v tm nk j) ++ TH (runX (sx0 d) f g v tm nk j).ts))) (by decide) ?_ ⟨(fun e => by cases e), _, _, _, out9_B ty mr C oo nk cc v tm m ty1 f (min m 80) _ (ok _ (by omega) (by omega)).len rfl, wkx_B ty mr C oo nk cc v tm m ty1 f _ _⟩)
  intro j hj
  have k := ok j (by omega) (by omega)
  have k' := ok (j + 1) (by omega) (by omega)
  refine ⟨_, 24, _, ?_, wk9_B ty mr C oo nk cc v tm m ty1 f (j + 1) (runX (sx0 d) f g v tm nk (j + 1)) k'.len⟩
  refine round_B ty mr C oo nk cc v tm m ty1 f j (f j) (runX (sx0 d) f g v tm nk j) (g j) (fun hk => ?_) (hg j) k (by omega) (by omega) rfl (hf j (by omega)) htm
  rw [plus_eq]; simp only [ldAt, bRb, hC j hk]
theorem trans_BB (D v T m : Nat) (ty : TypeId) (mr : Bool) (C : List S) (oo nk : Nat) (cc : Option Nat) (ty1 : TypeId) (f : Nat → OpV) (g : Nat → Nat) (hg : ∀ i, g i < 256) (hC : ∀ i, i < nk → C[oo + i]? = some (.int .u8 ((g i : Nat) : Int))) (hf : ∀ i, i < m → (f i).ok) :
    SC Try.prog 8 [n64 D, (.s (.slc (some (0, oo)) nk cc)), n8 v, n64 T, (.s (.slc (some (1, 0)) m none))] 2 [(0, some (bRb ty mr C)), (1, some (bOp ty1 f m))] (.s (.bool true)) 2 [(0, some (bRb ty mr C)), (1, some (bOp ty1 f m))] := by
  have m4 : Int.tmod ((D : Nat) : Int) 4 = ((D % 4 : Nat) : Int) := rfl
  have m30 : Int.tmod ((T : Nat) : Int) 30 = ((T % 30 : Nat) : Int) := rfl
  have gn : SC Try.prog 9 [n64 (D % 4)] 0 [] (.tup [.s (.ptr (some (0, 0))), .s (.int .i64 0)]) 1 [(0, some (bN (cq1 (D % 4))))] := new_s (D % 4) (by omega)
  have gc : SC Try.prog 17 [n64 (D % 4)] 0 [] (.s (.ptr (some (0, 0)))) 1 [(0, some (bR (cq1 (D % 4)) 0 nilS))] := newC_s (D % 4)
  have hl := fun {env : List V} {L : Hp} {n : Nat} a b => loop9_B ty mr C oo nk cc v (T % 30) m ty1 f g hg hC (D % 4) (by omega) hf (by omega) (env := env) (L := L) (n := n) a b
  refine SC.run hm Try.func8 rfl [.num ((D % 4 : Nat) : Int), .num ((T % 30 : Nat) : Int), .call [] [n64 (D % 4)] [] (.tup [.s (.ptr (some (0, 0))), .s (.int .i64 0)]) 1 [(0, some (bN (cq1 (D % 4))))], .call [] [] [] (.s (.bool true)) 0 [], .dec false, .dec false, .call [] [n64 (D % 4)] [] (.s (.ptr (some (0, 0)))) 1 [(0, some (bR (cq1 (D % 4)) 0 nilS))], .loop (.exit 0) (sp 215 []) 24 [(0, some (bRb ty mr C)), (1, some (bOp ty1 f m))]] [] rfl rfl ?_ (.inl rfl) (EndOK.by rfl ⟨rfl, rfl, trivial⟩ rfl rfl rfl rfl)
  simp only [true_and, and_true, and_assoc, decide_eq_true_eq, decide_eq_false_iff_not, ne_eq, beq_iff_eq, beq_eq_false_iff_ne, bne_eq_false_iff_eq, bne_iff_ne, bne_self_eq_false, beq_self_eq_true]
  repeat' apply And.intro
  all_goals first
    | exact True.intro
    | exact call0 gn rfl
    | exact call0 awake_s rfl
    | exact call0 gc rfl
    | exact hl rfl rfl
    | (with_reducible show _ = true; kernel_rfl)
    | (with_reducible exact rfl)
    | omega
    | rfl
theorem xl_BA (ty : TypeId) (mr : Bool) (C : List S) (oo nk : Nat) (cc : Option Nat) (v tm : Nat) (c : Cq) (o : Nat) : Lst Try.prog 2 ((Try.f8.body.bind fstLoop).getD .skip) [0, 1, 2, 3] [1, 2, 3, 4, 11, 13, 14, 15, 16, 17] (e9 (.s (.slc (some (0, oo)) nk cc)) v tm (.s (.slc none 0 (some 0))) nilV nilV 0 0) 4 [(0, some (bRb ty mr C)), (2, some (bN c)), (3, some (bR c o nilS))] (.exit 0) (e9 (.s (.slc (some (0, oo)) nk cc)) v tm (.s (.slc none 0 (some 0))) nilV nilV 0 0) [(0, some (bRb ty mr C)), (2, some (bN c)), (3, some (bR c o nilS))] := by
  refine ⟨[.dec false], _, _, _, _, _, rfl, ?_, rfl, ⟨rfl, rfl, rfl, trivial⟩⟩
  simp only [true_and, and_true, decide_eq_false_iff_not]; omega
theorem trans_BA (D v T : Nat) (ty : TypeId) (mr : Bool) (C : List S) (oo nk : Nat) (cc : Option Nat) : SC Try.prog 8 [n64 D, (.s (.slc (some (0, oo)) nk cc)), n8 v, n64 T, (.s (.slc none 0 (some 0)))] 2 [(0, some (bRb ty mr C))] (.s (.bool true)) 2 [(0, some (bRb ty mr C))] := by
  have m4 : Int.tmod ((D : Nat) : Int) 4 = ((D % 4 : Nat) : Int) := rfl
  have m30 : Int.tmod ((T : Nat) : Int) 30 = ((T % 30 : Nat) : Int) := rfl
  have gn : SC Try.prog 9 [n64 (D % 4)] 0 [] (.tup [.s (.ptr (some (0, 0))), .s (.int .i64 0)]) 1 [(0, some (bN (cq1 (D % 4))))] := new_s (D % 4) (by omega)
  have gc : SC Try.prog 17 [n64 (D % 4)] 0 [] (.s (.ptr (some (0, 0)))) 1 [(0, some (bR (cq1 (D % 4)) 0 nilS))] := newC_s (D % 4)
  have hl := xl_BA ty mr C oo nk cc v (T % 30) (cq1 (D % 4)) 0
  refine SC.run hm Try.func8 rfl [.num ((D % 4 : Nat) : Int), .num ((T % 30 : Nat) : Int), .call [] [n64 (D % 4)] [] (.tup [.s (.ptr (some (0, 0))), .s (.int .i64 0)]) 1 [(0, some (bN (cq1 (D % 4))))], .call [] [] [] (.s (.bool true)) 0 [], .dec false, .dec false, .call [] [n64 (D % 4)] [] (.s (.ptr (some (0, 0)))) 1 [(0, some (bR (cq1 (D % 4)) 0 nilS))], .loop (.exit 0) (e9 (.s (.slc (some (0, oo)) nk cc)) v (T % 30) (.s (.slc none 0 (some 0))) nilV nilV 0 0) 4 [(0, some (bRb ty mr C)), (2, some (bN (cq1 (D % 4)))), (3, some (bR (cq1 (D % 4)) 0 nilS))]] [] rfl rfl ?_ (.inl rfl) (EndOK.by rfl ⟨rfl, trivial⟩ rfl rfl rfl rfl)
  simp only [true_and, and_true, and_assoc, decide_eq_true_eq, decide_eq_false_iff_not, ne_eq, beq_iff_eq, beq_eq_false_iff_ne, bne_eq_false_iff_eq, bne_iff_ne, bne_self_eq_false, beq_self_eq_true]
  repeat' apply And.intro
  all_goals first
    | exact True.intro
    | exact call0 gn rfl
    | exact call0 awake_s rfl
    | exact call0 gc rfl
    | exact Ex.movesT hm [1, 2, 3, 4, 11, 13, 14, 15, 16, 17] 0 (fun _ => (e9 (.s (.slc (some (0, oo)) nk cc)) v (T % 30) (.s (.slc none 0 (some 0))) nilV nilV 0 0)) (fun _ => [(0, some (bRb ty mr C)), (2, some (bN (cq1 (D % 4)))), (3, some (bR (cq1 (D % 4)) 0 nilS))]) [0, 1, 2, 3] (fun _ => [0, 1, 2, 3]) rfl (fun _ => rfl) rfl ⟨rfl, rfl, rfl, trivial⟩ rfl (fun _ => rfl) (fun j hj => absurd hj (Nat.not_lt_zero _)) [1, 2, 3, 4, 11, 13, 14, 15, 16, 17] [0, 1, 2, 3] rfl (fun e => by cases e) rfl hl
    | (with_reducible show _ = true; kernel_rfl)
    | (with_reducible exact rfl)
    | omega
    | rfl
theorem xl_BE (ty : TypeId) (mr : Bool) (C : List S) (oo nk : Nat) (cc : Option Nat) (v tm : Nat) (c : Cq) (o : Nat) : Lst Try.prog 2 ((Try.f8.body.bind fstLoop).getD .skip) [0, 1, 2, 3] [1, 2, 3, 4, 11, 13, 14, 15, 16, 17] (e9 (.s (.slc (some (0, oo)) nk cc)) v tm (.s .emp) nilV nilV 0 0) 4 [(0, some (bRb ty mr C)), (2, some (bN c)), (3, some (bR c o nilS))] (.exit 0) (e9 (.s (.slc (some (0, oo)) nk cc)) v tm (.s .emp) nilV nilV 0 0) [(0, some (bRb ty mr C)), (2, some (bN c)), (3, some (bR c o nilS))] := by
  refine ⟨[.dec false], _, _, _, _, _, rfl, ?_, rfl, ⟨rfl, rfl, rfl, trivial⟩⟩
  simp only [true_and, and_true, decide_eq_false_iff_not]; omega
theorem trans_BE (D v T : Nat) (ty : TypeId) (mr : Bool) (C : List S) (oo nk : Nat) (cc : Option Nat) : SC Try.prog 8 [n64 D, (.s (.slc (some (0, oo)) nk cc)), n8 v, n64 T, (.s .emp)] 2 [(0, some (bRb ty mr C))] (.s (.bool true)) 2 [(0, some (bRb ty mr C))] := by
  have m4 : Int.tmod ((D : Nat) : Int) 4 = ((D % 4 : Nat) : Int) := rfl
  have m30 : Int.tmod ((T : Nat) : Int) 30 = ((T % 30 : Nat) : Int) := rfl
  have gn : SC Try.prog 9 [n64 (D % 4)] 0 [] (.tup [.s (.ptr (some (0, 0))), .s (.int .i64 0)]) 1 [(0, some (bN (cq1 (D % 4))))] := new_s (D % 4) (by omega)
  have gc : SC Try.prog 17 [n64 (D % 4)] 0 [] (.s (.ptr (some (0, 0)))) 1 [(0, some (bR (cq1 (D % 4)) 0 nilS))] := newC_s (D % 4)
  have hl := xl_BE ty mr C oo nk cc v (T % 30) (cq1 (D % 4)) 0
  refine SC.run hm Try.func8 rfl [.num ((D % 4 : Nat) : Int), .num ((T % 30 : Nat) : Int), .call [] [n64 (D % 4)] [] (.tup [.s (.ptr (some (0, 0))), .s (.int .i64 0)]) 1 [(0, some (bN (cq1 (D % 4))))], .call [] [] [] (.s (.bool true)) 0 [], .dec false, .dec false, .call [] [n64 (D % 4)] [] (.s (.ptr (some (0, 0)))) 1 [(0, some (bR (cq1 (D % 4)) 0 nilS))], .loop (.exit 0) (e9 (.s (.slc (some (0, oo)) nk cc)) v (T % 30) (.s .emp) nilV nilV 0 0) 4 [(0, some (bRb ty mr C)), (2, some (bN (cq1 (D % 4)))), (3, some (bR (cq1 (D % 4)) 0 nilS))]] [] rfl rfl ?_ (.inl rfl) (EndOK.by rfl ⟨rfl, trivial⟩ rfl rfl rfl rfl)
  simp only [true_and, and_true, and_assoc, decide_eq_true_eq, decide_eq_false_iff_not, ne_eq, beq_iff_eq, beq_eq_false_iff_ne, bne_eq_false_iff_eq, bne_iff_ne, bne_self_eq_false, beq_self_eq_true]
  repeat' apply And.intro
  all_goals first
    | exact True.intro
    | exact call0 gn rfl
    | exact call0 awake_s rfl
    | exact call0 gc rfl
    | exact Ex.movesT hm [1, 2, 3, 4, 11, 13, 14, 15, 16, 17] 0 (fun _ => (e9 (.s (.slc (some (0, oo)) nk cc)) v (T % 30) (.s .emp) nilV nilV 0 0)) (fun _ => [(0, some (bRb ty mr C)), (2, some (bN (cq1 (D % 4)))), (3, some (bR (cq1 (D % 4)) 0 nilS))]) [0, 1, 2, 3] (fun _ => [0, 1, 2, 3]) rfl (fun _ => rfl) rfl ⟨rfl, rfl, rfl, trivial⟩ rfl (fun _ => rfl) (fun j hj => absurd hj (Nat.not_lt_zero _)) [1, 2, 3, 4, 11, 13, 14, 15, 16, 17] [0, 1, 2, 3] rfl (fun e => by cases e) rfl hl
    | (with_reducible show _ = true; kernel_rfl)
    | (with_reducible exact rfl)
    | omega
    | rfl

end Go.Proofs.Ytimebhllnemnbaa
