/-
  EcMatchesModel: it returns true.
-/
import Derived.Test.YtimebhllnemnbaaQf
import Derived.Test.YtimebhllnemnbaaQg
import Derived.Test.YtimebhllnemnbaaEf
set_option linter.unusedSimpArgs false
set_option linter.unusedVariables false
namespace Go.Proofs.Ytimebhllnemnbaa
open Go Ab
set_option maxRecDepth 100000

def tI : List Nat := [0, 1, 2, 3, 4, 5, 6]
def tM : List Nat := [0, 1, 8, 9, 4, 10, 11]
def tb6 (s : St) (x : OpV) : List Nat :=
  match modM x.k 10 with
  | 7 => tI
  | 6 => (match s.v, Nat.beq (x.v % 4) 0 with | false, true => tI | _, _ => tM)
  | _ => (match s.v with | true => tM | false => tI)
theorem tb6_or (s : St) (x : OpV) : tb6 s x = tI ∨ tb6 s x = tM := by
  unfold tb6
  split
  · exact .inl rfl
  · split
    · exact .inl rfl
    · exact .inr rfl
  · split
    · exact .inr rfl
    · exact .inl rfl
theorem ok6 (D m now j : Nat) (ty : TypeId) (f : Nat → OpV) (s : St) {t : List Nat} (h : t = tI ∨ t = tM) : okSt 1 t (e6 D m now j) (h6 (bOp ty f m) s) = true := by
  rcases h with rfl | rfl <;> cases hv : s.v <;> simp only [h6, hv] <;> rfl
theorem rnd6 (D m : Nat) (ty : TypeId) (f : Nat → OpV) (s : St) (j : Nat) (x : OpV) (hxf : f j = x) (hx : x.ok) (h : s.ok j) (hj : j < m) (h9 : j < 90) :
    Rnd Try.prog 1 ((Try.f6.body.bind fstLoop).getD .skip) (tb6 s x) [0, 1, 5, 7, 8, 9] (e6 D m s.now j) 7 (h6 (bOp ty f m) s) (e6 D m (stp s x).now (j + 1)) (h6 (bOp ty f m) (stp s x)) := by
  have hk : modM x.k 10 < 10 := Nat.mod_lt _ (by decide)
  have hk : modM x.k 10 = 0 ∨ modM x.k 10 = 1 ∨ modM x.k 10 = 2 ∨ modM x.k 10 = 3 ∨ modM x.k 10 = 4 ∨ modM x.k 10 = 5 ∨ modM x.k 10 = 6 ∨ modM x.k 10 = 7 ∨ modM x.k 10 = 8 ∨ modM x.k 10 = 9 := by omega
  cases hv : s.v with
  | false =>
    have hq := h.q hv
    rcases hk with hk | hk | hk | hk | hk | hk | hk | hk | hk | hk
    · simp only [stp, tb6, h6, hk, hv]; exact rndN0 D m ty f s j x hxf hx h hj h9 hq hk
    · simp only [stp, tb6, h6, hk, hv]; exact rndN1 D m ty f s j x hxf hx h hj h9 hq hk
    · simp only [stp, tb6, h6, hk, hv]; exact rndN2 D m ty f s j x hxf hx h hj h9 hq hk
    · simp only [stp, tb6, h6, hk, hv]; exact rndN3 D m ty f s j x hxf hx h hj h9 hq hk
    · simp only [stp, tb6, h6, hk, hv]; exact rndN4 D m ty f s j x hxf hx h hj h9 hq hk
    · simp only [stp, tb6, h6, hk, hv]; exact rndN5 D m ty f s j x hxf hx h hj h9 hq hk
    · by_cases hz : x.v % 4 = 0
      · have eb : Nat.beq (x.v % 4) 0 = true := by rw [hz]; rfl
        have er : raiq s.c (x.v % 4) = s.c := by simp [raiq, hz]
        simp only [stp, tb6, h6, hk, hv, eb, er, Bool.false_or, Bool.not_true]; exact rndN6z D m ty f s j x hxf hx h hj h9 hq hz hk
      · have eb : Nat.beq (x.v % 4) 0 = false := beq_no hz
        have er : raiq s.c (x.v % 4) = { s.c with q := [x.v % 4] } := by simp [raiq, hz, hq]
        simp only [stp, tb6, h6, hk, hv, eb, er, Bool.false_or, Bool.not_false]; exact rndN6y D m ty f s j x hxf hx h hj h9 hq hz hk
    · simp only [stp, tb6, h6, hk, hv]; exact rndN7 D m ty f s j x hxf hx h hj h9 hq hk
    · simp only [stp, tb6, h6, hk, hv]; exact rndN8 D m ty f s j x hxf hx h hj h9 hq (by omega)
    · simp only [stp, tb6, h6, hk, hv]; exact rndN8 D m ty f s j x hxf hx h hj h9 hq (by omega)
  | true =>
    rcases hk with hk | hk | hk | hk | hk | hk | hk | hk | hk | hk
    · simp only [stp, tb6, h6, hk, hv]; exact rndQ0 D m ty f s j x hxf hx h hj h9 hk
    · simp only [stp, tb6, h6, hk, hv]; exact rndQ1 D m ty f s j x hxf hx h hj h9 hk
    · simp only [stp, tb6, h6, hk, hv]; exact rndQ2 D m ty f s j x hxf hx h hj h9 hk
    · simp only [stp, tb6, h6, hk, hv]; exact rndQ3 D m ty f s j x hxf hx h hj h9 hk
    · simp only [stp, tb6, h6, hk, hv]; exact rndQ4 D m ty f s j x hxf hx h hj h9 hk
    · simp only [stp, tb6, h6, hk, hv]; exact rndQ5 D m ty f s j x hxf hx h hj h9 hk
    · simp only [stp, tb6, h6, hk, hv, Bool.true_or]; exact rndQ6 D m ty f s j x hxf hx h hj h9 hk
    · simp only [stp, tb6, h6, hk, hv]; exact rndQ7 D m ty f s j x hxf hx h hj h9 hk
    · simp only [stp, tb6, h6, hk, hv]; exact rndQ8 D m ty f s j x hxf hx h hj h9 (by omega)
    · simp only [stp, tb6, h6, hk, hv]; exact rndQ8 D m ty f s j x hxf hx h hj h9 (by omega)

def cq0 (d : Nat) : Cq := ⟨d, 0, fun _ => 0, false, false, 0, 0, false, 0, 0, false, 0, []⟩
def st0 (d : Nat) : St := ⟨cq0 d, 0, 0, false⟩
theorem st0_ok {d : Nat} (h : d < 2 ^ 64) : (st0 d).ok 0 := ⟨⟨(by decide : 0 < 2 ^ 64), h, (by decide : 0 < 2 ^ 64), (by decide : 0 < 256), (by decide : 0 < 256), (by decide : 0 < 256), (by decide : 0 < 256), fun _ => (by decide : 0 < 256), fun x hx => (by cases hx), (by decide : 0 ≤ 16), fun _ => rfl⟩, Nat.le_refl _, fun _ => rfl⟩

theorem lst6 (D m : Nat) (ty : TypeId) (f : Nat → OpV) (s : St) (N : Nat) (hN : N = min m 90) :
    Lst Try.prog 1 ((Try.f6.body.bind fstLoop).getD .skip) tI [0, 1, 5, 7, 8, 9] (e6 D m s.now N) 7 (h6 (bOp ty f m) s) (.exit 0) (e6 D m s.now N) (h6 (bOp ty f m) s) := by
  by_cases h9 : m ≤ 90
  · have e : N = m := by omega
    cases hv : s.v with
    | false =>
      simp only [h6, hv]
      refine ⟨[.dec false], _, _, _, _, _, rfl, ?_, rfl, ⟨rfl, rfl, rfl, trivial⟩⟩
      simp only [true_and, and_true, decide_eq_false_iff_not]; omega
    | true =>
      simp only [h6, hv]
      refine ⟨[.dec false], _, _, _, _, _, rfl, ?_, rfl, ⟨rfl, rfl, rfl, rfl, rfl, trivial⟩⟩
      simp only [true_and, and_true, decide_eq_false_iff_not]; omega
  · have e : N = 90 := by omega
    cases hv : s.v with
    | false =>
      simp only [h6, hv]
      refine ⟨[.dec true, .dec false], _, _, _, _, _, rfl, ?_, rfl, ⟨rfl, rfl, rfl, trivial⟩⟩
      simp only [true_and, and_true, decide_eq_false_iff_not, decide_eq_true_eq]; omega
    | true =>
      simp only [h6, hv]
      refine ⟨[.dec true, .dec false], _, _, _, _, _, rfl, ?_, rfl, ⟨rfl, rfl, rfl, rfl, rfl, trivial⟩⟩
      simp only [true_and, and_true, decide_eq_false_iff_not, decide_eq_true_eq]; omega

theorem loop6 (D m : Nat) (hD : D < 2 ^ 64) (ty : TypeId) (f : Nat → OpV) (hf : ∀ i, i < m → (f i).ok) {env : List V} {L : Hp} {n : Nat} (h0 : wkE [0, 1, 5, 7, 8, 9] 0 env = (e6 D m 0 0).map (renV (rn [0, 1, 3, 4, 2, 5, 6] 0))) (h1 : MemP (rn [0, 1, 3, 4, 2, 5, 6] 0) L (h6 (bOp ty f m) (st0 D))) :
    Ex Try.prog 1 (.loop ((Try.f6.body.bind fstLoop).getD .skip)) env n L (One (.exit 0) (e6 D m (runS (st0 D) f (min m 90)).now (min m 90)) 7 (h6 (bOp ty f m) (runS (st0 D) f (min m 90)))) := by
  refine Ex.movesT hm [0, 1, 5, 7, 8, 9] (min m 90) (fun j => e6 D m (runS (st0 D) f j).now j) (fun j => h6 (bOp ty f m) (runS (st0 D) f j)) [0, 1, 3, 4, 2, 5, 6] (fun j => tb6 (runS (st0 D) f j) (f j)) rfl (fun j => ?_) h0 h1 rfl (fun j => ok6 D m _ _ ty f _ (tb6_or _ _)) (fun j hj => ?_) [0, 1, 5, 7, 8, 9] tI rfl (fun e => by cases e) (ok6 D m _ _ ty f _ (.inl rfl)) (lst6 D m ty f _ _ rfl)
  · rcases tb6_or (runS (st0 D) f j) (f j) with e | e <;> simp only [e] <;> rfl
  · exact rnd6 D m ty f _ j (f j) rfl (hf j (by omega)) (runS_ok (st0_ok hD) hf j (by omega) (by omega)) (by omega) (by omega)
theorem cten {a : Nat} (h : a + 10 < 2 ^ 64) : IntKind.u64.wrap (((a : Nat) : Int) + 10) = ((a + 10 : Nat) : Int) := by rw [u64_in] <;> omega
set_option maxHeartbeats 1000000
theorem matchB_N (D m : Nat) (ty : TypeId) (f : Nat → OpV) (s : St) (N : Nat) (hN : N ≤ 90) (h : s.ok N) (hq : s.c.q = []) (hl : ∀ {env : List V} {L : Hp} {n : Nat}, wkE [0, 1, 5, 7, 8, 9] 0 env = (e6 (D % 4) m 0 0).map (renV (rn [0, 1, 3, 4, 2, 5, 6] 0)) → MemP (rn [0, 1, 3, 4, 2, 5, 6] 0) L (h6 (bOp ty f m) (st0 (D % 4))) →
      Ex Try.prog 1 (.loop ((Try.f6.body.bind fstLoop).getD .skip)) env n L (One (.exit 0) (e6 (D % 4) m s.now N) 7 (h6N (bOp ty f m) s.c s.o))) :
    SC Try.prog 6 [n64 D, .s (.slc (some (0, 0)) m none)] 1 [(0, some (bOp ty f m))] (.s (.bool true)) 1 [(0, some (bOp ty f m))] := by
  have hn := h.now
  have ht : (s.now + 10) < 2 ^ 64 := by omega
  have m4 : Int.tmod ((D : Nat) : Int) 4 = ((D % 4 : Nat) : Int) := rfl
  have gn : SC Try.prog 9 [n64 (D % 4)] 0 [] (.tup [.s (.ptr (some (0, 0))), .s (.int .i64 0)]) 1 [(0, some (bN (cq0 (D % 4))))] := new_s (D % 4) (by omega)
  have gc : SC Try.prog 17 [n64 (D % 4)] 0 [] (.s (.ptr (some (0, 0)))) 1 [(0, some (bR (cq0 (D % 4)) 0 nilS))] := newC_s (D % 4)
  have hc2 := advq_ok h.c ht
  have hq2 := advq_q0 s.c (s.now + 10) hq
  have g1 := status_N s.c (s.now + 10) h.c hq
  have g2 := rstatus_N s.c s.o (s.now + 10) h.c hq
  have g3 := readData_N (advq s.c (s.now + 10)) (s.now + 10) hc2 hq2
  have g4 := rreadData_N (advq s.c (s.now + 10)) s.o (s.now + 10) hc2 ht hq2
  have hloop := fun {env : List V} {L : Hp} {n : Nat} a b => hl (env := env) (L := L) (n := n) a b
  refine SC.run hm Try.func6 rfl [.num ((D % 4 : Nat) : Int), .call [] [n64 (D % 4)] [] (.tup [.s (.ptr (some (0, 0))), .s (.int .i64 0)]) 1 [(0, some (bN (cq0 (D % 4))))], .call [] [] [] (.s (.bool true)) 0 [], .dec false, .dec false, .call [] [n64 (D % 4)] [] (.s (.ptr (some (0, 0)))) 1 [(0, some (bR (cq0 (D % 4)) 0 nilS))], .loop (.exit 0) (e6 (D % 4) m s.now N) 7 (h6N (bOp ty f m) s.c s.o), .num (((s.now + 10) : Nat) : Int), .call [1] [pC, n64 (s.now + 10)] [(0, some (bN s.c))] (n8 (stNq (advq s.c (s.now + 10)))) 1 [(0, some (bN (advq s.c (s.now + 10))))], .num (((s.now + 10) : Nat) : Int), .call [4] [pC, n64 (s.now + 10)] [(0, some (bR s.c s.o nilS))] (n8 (stNq (advq s.c (s.now + 10)))) 1 [(0, some (bR (advq s.c (s.now + 10)) s.o nilS))], .dec true, .num (((s.now + 10) : Nat) : Int), .call [1] [pC, n64 (s.now + 10)] [(0, some (bN (advq s.c (s.now + 10))))] (n8 (advq (advq s.c (s.now + 10)) (s.now + 10)).out) 1 [(0, some (bN (emtq (advq (advq s.c (s.now + 10)) (s.now + 10)))))], .num (((s.now + 10) : Nat) : Int), .call [4] [pC, n64 (s.now + 10)] [(0, some (bR (advq s.c (s.now + 10)) s.o nilS))] (n8 (advq (advq s.c (s.now + 10)) (s.now + 10)).out) 1 [(0, some (bR (emtq (advq (advq s.c (s.now + 10)) (s.now + 10))) ((advq (advq s.c (s.now + 10)) (s.now + 10)).ou s.o) nilS))], .dec true] [] rfl rfl ?_ (.inl rfl) (EndOK.by rfl ⟨rfl, trivial⟩ rfl rfl rfl rfl)
  simp only [true_and, and_true, and_assoc, decide_eq_true_eq, decide_eq_false_iff_not, ne_eq, beq_iff_eq, beq_eq_false_iff_ne, bne_eq_false_iff_eq, bne_self_eq_false, beq_self_eq_true]
  repeat' apply And.intro
  all_goals first
    | exact True.intro
    | exact call0 gn rfl
    | exact call0 awake_s rfl
    | exact call0 gc rfl
    | exact ⟨g1, rfl, Fits.of rfl rfl ⟨⟨rfl, _, rfl, rfl, fun h => h⟩, trivial⟩⟩
    | exact ⟨g2, rfl, Fits.of rfl rfl ⟨⟨rfl, _, rfl, rfl, fun h => h⟩, trivial⟩⟩
    | exact ⟨g3, rfl, Fits.of rfl rfl ⟨⟨rfl, _, rfl, rfl, fun h => h⟩, trivial⟩⟩
    | exact ⟨g4, rfl, Fits.of rfl rfl ⟨⟨rfl, _, rfl, rfl, fun h => h⟩, trivial⟩⟩
    | exact hloop rfl ⟨rfl, rfl, rfl, trivial⟩
    | (with_reducible show _ = true; kernel_rfl)
    | (with_reducible exact rfl)
    | exact cten ht
    | omega
    | rfl
theorem matchB_Q (D m : Nat) (ty : TypeId) (f : Nat → OpV) (s : St) (N : Nat) (hN : N ≤ 90) (h : s.ok N) (hl : ∀ {env : List V} {L : Hp} {n : Nat}, wkE [0, 1, 5, 7, 8, 9] 0 env = (e6 (D % 4) m 0 0).map (renV (rn [0, 1, 3, 4, 2, 5, 6] 0)) → MemP (rn [0, 1, 3, 4, 2, 5, 6] 0) L (h6 (bOp ty f m) (st0 (D % 4))) →
      Ex Try.prog 1 (.loop ((Try.f6.body.bind fstLoop).getD .skip)) env n L (One (.exit 0) (e6 (D % 4) m s.now N) 7 (h6Q (bOp ty f m) s.c s.o))) :
    SC Try.prog 6 [n64 D, .s (.slc (some (0, 0)) m none)] 1 [(0, some (bOp ty f m))] (.s (.bool true)) 1 [(0, some (bOp ty f m))] := by
  have hn := h.now
  have ht : (s.now + 10) < 2 ^ 64 := by omega
  have m4 : Int.tmod ((D : Nat) : Int) 4 = ((D % 4 : Nat) : Int) := rfl
  have gn : SC Try.prog 9 [n64 (D % 4)] 0 [] (.tup [.s (.ptr (some (0, 0))), .s (.int .i64 0)]) 1 [(0, some (bN (cq0 (D % 4))))] := new_s (D % 4) (by omega)
  have gc : SC Try.prog 17 [n64 (D % 4)] 0 [] (.s (.ptr (some (0, 0)))) 1 [(0, some (bR (cq0 (D % 4)) 0 nilS))] := newC_s (D % 4)
  have hc2 := advq_ok h.c ht
  have g1 := status_Q s.c (s.now + 10) h.c
  have g2 := rstatus_Q s.c s.o (s.now + 10) h.c
  have g3 := readData_Q (advq s.c (s.now + 10)) (s.now + 10) hc2
  have g4 := rreadData_Q (advq s.c (s.now + 10)) s.o (s.now + 10) hc2 ht
  have hloop := fun {env : List V} {L : Hp} {n : Nat} a b => hl (env := env) (L := L) (n := n) a b
  refine SC.run hm Try.func6 rfl [.num ((D % 4 : Nat) : Int), .call [] [n64 (D % 4)] [] (.tup [.s (.ptr (some (0, 0))), .s (.int .i64 0)]) 1 [(0, some (bN (cq0 (D % 4))))], .call [] [] [] (.s (.bool true)) 0 [], .dec false, .dec false, .call [] [n64 (D % 4)] [] (.s (.ptr (some (0, 0)))) 1 [(0, some (bR (cq0 (D % 4)) 0 nilS))], .loop (.exit 0) (e6 (D % 4) m s.now N) 7 (h6Q (bOp ty f m) s.c s.o), .num (((s.now + 10) : Nat) : Int), .call [1, 2, 3] [pC, n64 (s.now + 10)] (sQ s.c) (n8 (stNq (advq s.c (s.now + 10)))) 5 (eQ (advq s.c (s.now + 10))), .num (((s.now + 10) : Nat) : Int), .call [4, 5, 6] [pC, n64 (s.now + 10)] (sR s.c s.o) (n8 (stNq (advq s.c (s.now + 10)))) 5 (eR (advq s.c (s.now + 10)) s.o), .dec true, .num (((s.now + 10) : Nat) : Int), .call [1, 7, 8] [pC, n64 (s.now + 10)] (sQ (advq s.c (s.now + 10))) (n8 (advq (advq s.c (s.now + 10)) (s.now + 10)).out) 5 (eQ (emtq (advq (advq s.c (s.now + 10)) (s.now + 10)))), .num (((s.now + 10) : Nat) : Int), .call [4, 9, 10] [pC, n64 (s.now + 10)] (sR (advq s.c (s.now + 10)) s.o) (n8 (advq (advq s.c (s.now + 10)) (s.now + 10)).out) 5 (eR (emtq (advq (advq s.c (s.now + 10)) (s.now + 10))) ((advq (advq s.c (s.now + 10)) (s.now + 10)).ou s.o)), .dec true] [] rfl rfl ?_ (.inl rfl) (EndOK.by rfl ⟨rfl, trivial⟩ rfl rfl rfl rfl)
  simp only [true_and, and_true, and_assoc, decide_eq_true_eq, decide_eq_false_iff_not, ne_eq, beq_iff_eq, beq_eq_false_iff_ne, bne_eq_false_iff_eq, bne_self_eq_false, beq_self_eq_true]
  repeat' apply And.intro
  all_goals first
    | exact True.intro
    | exact call0 gn rfl
    | exact call0 awake_s rfl
    | exact call0 gc rfl
    | exact ⟨g1, rfl, Fits.of rfl rfl ⟨⟨rfl, _, rfl, rfl, fun h => h⟩, ⟨rfl, _, rfl, rfl, fun h => h⟩, trivial⟩⟩
    | exact ⟨g2, rfl, Fits.of rfl rfl ⟨⟨rfl, _, rfl, rfl, fun h => h⟩, ⟨rfl, _, rfl, rfl, fun h => h⟩, trivial⟩⟩
    | exact ⟨g3, rfl, Fits.of rfl rfl ⟨⟨rfl, _, rfl, rfl, fun h => h⟩, ⟨rfl, _, rfl, rfl, fun h => h⟩, trivial⟩⟩
    | exact ⟨g4, rfl, Fits.of rfl rfl ⟨⟨rfl, _, rfl, rfl, fun h => h⟩, ⟨rfl, _, rfl, rfl, fun h => h⟩, trivial⟩⟩
    | exact hloop rfl ⟨rfl, rfl, rfl, trivial⟩
    | (with_reducible show _ = true; kernel_rfl)
    | (with_reducible exact rfl)
    | exact cten ht
    | omega
    | rfl
theorem match_B (D m : Nat) (ty : TypeId) (f : Nat → OpV) (hf : ∀ i, i < m → (f i).ok) : SC Try.prog 6 [n64 D, .s (.slc (some (0, 0)) m none)] 1 [(0, some (bOp ty f m))] (.s (.bool true)) 1 [(0, some (bOp ty f m))] := by
  have hD : D % 4 < 2 ^ 64 := by omega
  have hr := runS_ok (st0_ok hD) hf (min m 90) (by omega) (by omega)
  have hl := fun {env : List V} {L : Hp} {n : Nat} a b => loop6 (D % 4) m hD ty f hf (env := env) (L := L) (n := n) a b
  cases hv : (runS (st0 (D % 4)) f (min m 90)).v with
  | false =>
    simp only [h6, hv] at hl
    exact matchB_N D m ty f _ _ (by omega) hr (hr.q hv) hl
  | true =>
    simp only [h6, hv] at hl
    exact matchB_Q D m ty f _ _ (by omega) hr hl
theorem match_A (D : Nat) : SC Try.prog 6 [n64 D, .s (.slc none 0 (some 0))] 0 [] (.s (.bool true)) 0 [] := by
  obtain ⟨s, hs⟩ : ∃ s, s = st0 (D % 4) := ⟨_, rfl⟩
  have h : s.ok 0 := by rw [hs]; exact st0_ok (by omega)
  have hq : s.c.q = [] := by rw [hs]; rfl
  have hn := h.now
  have ht : (s.now + 10) < 2 ^ 64 := by omega
  have m4 : Int.tmod ((D : Nat) : Int) 4 = ((D % 4 : Nat) : Int) := rfl
  have gn : SC Try.prog 9 [n64 (D % 4)] 0 [] (.tup [.s (.ptr (some (0, 0))), .s (.int .i64 0)]) 1 [(0, some (bN (cq0 (D % 4))))] := new_s (D % 4) (by omega)
  have gc : SC Try.prog 17 [n64 (D % 4)] 0 [] (.s (.ptr (some (0, 0)))) 1 [(0, some (bR (cq0 (D % 4)) 0 nilS))] := newC_s (D % 4)
  have hc2 := advq_ok h.c ht
  have hq2 := advq_q0 s.c (s.now + 10) hq
  have g1 := status_N s.c (s.now + 10) h.c hq
  have g2 := rstatus_N s.c s.o (s.now + 10) h.c hq
  have g3 := readData_N (advq s.c (s.now + 10)) (s.now + 10) hc2 hq2
  have g4 := rreadData_N (advq s.c (s.now + 10)) s.o (s.now + 10) hc2 ht hq2
  refine SC.run hm Try.func6 rfl [.num ((D % 4 : Nat) : Int), .call [] [n64 (D % 4)] [] (.tup [.s (.ptr (some (0, 0))), .s (.int .i64 0)]) 1 [(0, some (bN (cq0 (D % 4))))], .call [] [] [] (.s (.bool true)) 0 [], .dec false, .dec false, .call [] [n64 (D % 4)] [] (.s (.ptr (some (0, 0)))) 1 [(0, some (bR (cq0 (D % 4)) 0 nilS))], .loop (.exit 0) (sp 164 [(0, n64 (D % 4)), (1, .s (.slc none 0 (some 0))), (5, .s (.ptr (some (0, 0)))), (7, .s (.ptr (some (1, 0)))), (8, n64 0), (9, .s (.int .i64 ((0 : Nat) : Int)))]) 2 [(0, some (bN (cq0 (D % 4)))), (1, some (bR (cq0 (D % 4)) 0 nilS))], .num (((0 + 10) : Nat) : Int), .call [0] [pC, n64 (0 + 10)] [(0, some (bN (cq0 (D % 4))))] (n8 (stNq (advq (cq0 (D % 4)) (0 + 10)))) 1 [(0, some (bN (advq (cq0 (D % 4)) (0 + 10))))], .num (((0 + 10) : Nat) : Int), .call [1] [pC, n64 (0 + 10)] [(0, some (bR (cq0 (D % 4)) 0 nilS))] (n8 (stNq (advq (cq0 (D % 4)) (0 + 10)))) 1 [(0, some (bR (advq (cq0 (D % 4)) (0 + 10)) 0 nilS))], .dec true, .num (((0 + 10) : Nat) : Int), .call [0] [pC, n64 (0 + 10)] [(0, some (bN (advq (cq0 (D % 4)) (0 + 10))))] (n8 (advq (advq (cq0 (D % 4)) (0 + 10)) (0 + 10)).out) 1 [(0, some (bN (emtq (advq (advq (cq0 (D % 4)) (0 + 10)) (0 + 10)))))], .num (((0 + 10) : Nat) : Int), .call [1] [pC, n64 (0 + 10)] [(0, some (bR (advq (cq0 (D % 4)) (0 + 10)) 0 nilS))] (n8 (advq (advq (cq0 (D % 4)) (0 + 10)) (0 + 10)).out) 1 [(0, some (bR (emtq (advq (advq (cq0 (D % 4)) (0 + 10)) (0 + 10))) ((advq (advq (cq0 (D % 4)) (0 + 10)) (0 + 10)).ou 0) nilS))], .dec true] [] rfl rfl ?_ (.inl rfl) (EndOK.plain rfl no_mem rfl rfl)
  have es : s = st0 (D % 4) := hs
  subst es
  simp only [true_and, and_true, and_assoc, decide_eq_true_eq, decide_eq_false_iff_not, ne_eq, beq_iff_eq, beq_eq_false_iff_ne, bne_eq_false_iff_eq, bne_self_eq_false, beq_self_eq_true]
  repeat' apply And.intro
  all_goals first
    | exact True.intro
    | exact call0 gn rfl
    | exact call0 awake_s rfl
    | exact call0 gc rfl
    | exact ⟨g1, rfl, Fits.of rfl rfl ⟨⟨rfl, _, rfl, rfl, fun h => h⟩, trivial⟩⟩
    | exact ⟨g2, rfl, Fits.of rfl rfl ⟨⟨rfl, _, rfl, rfl, fun h => h⟩, trivial⟩⟩
    | exact ⟨g3, rfl, Fits.of rfl rfl ⟨⟨rfl, _, rfl, rfl, fun h => h⟩, trivial⟩⟩
    | exact ⟨g4, rfl, Fits.of rfl rfl ⟨⟨rfl, _, rfl, rfl, fun h => h⟩, trivial⟩⟩
    | (refine Ex.movesT hm [0, 1, 5, 7, 8, 9] 0 (fun _ => (sp 164 [(0, n64 (D % 4)), (1, .s (.slc none 0 (some 0))), (5, .s (.ptr (some (0, 0)))), (7, .s (.ptr (some (1, 0)))), (8, n64 0), (9, .s (.int .i64 ((0 : Nat) : Int)))])) (fun _ => [(0, some (bN (cq0 (D % 4)))), (1, some (bR (cq0 (D % 4)) 0 nilS))]) [0, 1] (fun _ => [0, 1]) rfl (fun _ => rfl) rfl ⟨rfl, rfl, trivial⟩ rfl (fun _ => rfl) (fun j hj => absurd hj (Nat.not_lt_zero _)) [0, 1, 5, 7, 8, 9] [0, 1] rfl (fun e => by cases e) rfl ⟨[.dec false], _, _, _, _, _, rfl, ?_, rfl, ⟨rfl, rfl, trivial⟩⟩
       simp only [true_and, and_true, decide_eq_false_iff_not]; omega)
    | (with_reducible show _ = true; kernel_rfl)
    | (with_reducible exact rfl)
    | exact cten ht
    | omega
    | rfl
theorem match_E (D : Nat) : SC Try.prog 6 [n64 D, .s .emp] 0 [] (.s (.bool true)) 0 [] := by
  obtain ⟨s, hs⟩ : ∃ s, s = st0 (D % 4) := ⟨_, rfl⟩
  have h : s.ok 0 := by rw [hs]; exact st0_ok (by omega)
  have hq : s.c.q = [] := by rw [hs]; rfl
  have hn := h.now
  have ht : (s.now + 10) < 2 ^ 64 := by omega
  have m4 : Int.tmod ((D : Nat) : Int) 4 = ((D % 4 : Nat) : Int) := rfl
  have gn : SC Try.prog 9 [n64 (D % 4)] 0 [] (.tup [.s (.ptr (some (0, 0))), .s (.int .i64 0)]) 1 [(0, some (bN (cq0 (D % 4))))] := new_s (D % 4) (by omega)
  have gc : SC Try.prog 17 [n64 (D % 4)] 0 [] (.s (.ptr (some (0, 0)))) 1 [(0, some (bR (cq0 (D % 4)) 0 nilS))] := newC_s (D % 4)
  have hc2 := advq_ok h.c ht
  have hq2 := advq_q0 s.c (s.now + 10) hq
  have g1 := status_N s.c (s.now + 10) h.c hq
  have g2 := rstatus_N s.c s.o (s.now + 10) h.c hq
  have g3 := readData_N (advq s.c (s.now + 10)) (s.now + 10) hc2 hq2
  have g4 := rreadData_N (advq s.c (s.now + 10)) s.o (s.now + 10) hc2 ht hq2
  refine SC.run hm Try.func6 rfl [.num ((D % 4 : Nat) : Int), .call [] [n64 (D % 4)] [] (.tup [.s (.ptr (some (0, 0))), .s (.int .i64 0)]) 1 [(0, some (bN (cq0 (D % 4))))], .call [] [] [] (.s (.bool true)) 0 [], .dec false, .dec false, .call [] [n64 (D % 4)] [] (.s (.ptr (some (0, 0)))) 1 [(0, some (bR (cq0 (D % 4)) 0 nilS))], .loop (.exit 0) (sp 164 [(0, n64 (D % 4)), (1, .s .emp), (5, .s (.ptr (some (0, 0)))), (7, .s (.ptr (some (1, 0)))), (8, n64 0), (9, .s (.int .i64 ((0 : Nat) : Int)))]) 2 [(0, some (bN (cq0 (D % 4)))), (1, some (bR (cq0 (D % 4)) 0 nilS))], .num (((0 + 10) : Nat) : Int), .call [0] [pC, n64 (0 + 10)] [(0, some (bN (cq0 (D % 4))))] (n8 (stNq (advq (cq0 (D % 4)) (0 + 10)))) 1 [(0, some (bN (advq (cq0 (D % 4)) (0 + 10))))], .num (((0 + 10) : Nat) : Int), .call [1] [pC, n64 (0 + 10)] [(0, some (bR (cq0 (D % 4)) 0 nilS))] (n8 (stNq (advq (cq0 (D % 4)) (0 + 10)))) 1 [(0, some (bR (advq (cq0 (D % 4)) (0 + 10)) 0 nilS))], .dec true, .num (((0 + 10) : Nat) : Int), .call [0] [pC, n64 (0 + 10)] [(0, some (bN (advq (cq0 (D % 4)) (0 + 10))))] (n8 (advq (advq (cq0 (D % 4)) (0 + 10)) (0 + 10)).out) 1 [(0, some (bN (emtq (advq (advq (cq0 (D % 4)) (0 + 10)) (0 + 10)))))], .num (((0 + 10) : Nat) : Int), .call [1] [pC, n64 (0 + 10)] [(0, some (bR (advq (cq0 (D % 4)) (0 + 10)) 0 nilS))] (n8 (advq (advq (cq0 (D % 4)) (0 + 10)) (0 + 10)).out) 1 [(0, some (bR (emtq (advq (advq (cq0 (D % 4)) (0 + 10)) (0 + 10))) ((advq (advq (cq0 (D % 4)) (0 + 10)) (0 + 10)).ou 0) nilS))], .dec true] [] rfl rfl ?_ (.inl rfl) (EndOK.plain rfl no_mem rfl rfl)
  have es : s = st0 (D % 4) := hs
  subst es
  simp only [true_and, and_true, and_assoc, decide_eq_true_eq, decide_eq_false_iff_not, ne_eq, beq_iff_eq, beq_eq_false_iff_ne, bne_eq_false_iff_eq, bne_self_eq_false, beq_self_eq_true]
  repeat' apply And.intro
  all_goals first
    | exact True.intro
    | exact call0 gn rfl
    | exact call0 awake_s rfl
    | exact call0 gc rfl
    | exact ⟨g1, rfl, Fits.of rfl rfl ⟨⟨rfl, _, rfl, rfl, fun h => h⟩, trivial⟩⟩
    | exact ⟨g2, rfl, Fits.of rfl rfl ⟨⟨rfl, _, rfl, rfl, fun h => h⟩, trivial⟩⟩
    | exact ⟨g3, rfl, Fits.of rfl rfl ⟨⟨rfl, _, rfl, rfl, fun h => h⟩, trivial⟩⟩
    | exact ⟨g4, rfl, Fits.of rfl rfl ⟨⟨rfl, _, rfl, rfl, fun h => h⟩, trivial⟩⟩
    | (refine Ex.movesT hm [0, 1, 5, 7, 8, 9] 0 (fun _ => (sp 164 [(0, n64 (D % 4)), (1, .s .emp), (5, .s (.ptr (some (0, 0)))), (7, .s (.ptr (some (1, 0)))), (8, n64 0), (9, .s (.int .i64 ((0 : Nat) : Int)))])) (fun _ => [(0, some (bN (cq0 (D % 4)))), (1, some (bR (cq0 (D % 4)) 0 nilS))]) [0, 1] (fun _ => [0, 1]) rfl (fun _ => rfl) rfl ⟨rfl, rfl, trivial⟩ rfl (fun _ => rfl) (fun j hj => absurd hj (Nat.not_lt_zero _)) [0, 1, 5, 7, 8, 9] [0, 1] rfl (fun e => by cases e) rfl ⟨[.dec false], _, _, _, _, _, rfl, ?_, rfl, ⟨rfl, rfl, trivial⟩⟩
       simp only [true_and, and_true, decide_eq_false_iff_not]; omega)
    | (with_reducible show _ = true; kernel_rfl)
    | (with_reducible exact rfl)
    | exact cten ht
    | omega
    | rfl

end Go.Proofs.Ytimebhllnemnbaa
