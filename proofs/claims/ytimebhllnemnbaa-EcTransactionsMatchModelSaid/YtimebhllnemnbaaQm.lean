/-
  EcQueriesInOrder: the rounds of its loops.
-/
import Derived.Test.YtimebhllnemnbaaQl
import Derived.Test.YtimebhllnemnbaaEf
set_option linter.unusedSimpArgs false
set_option linter.unusedVariables false
namespace Go.Proofs.Ytimebhllnemnbaa
open Go Ab
set_option maxRecDepth 100000

/-- the second loop's body -/
def skipB : Code → Option Code
  | .seq a b => match fstLoop a with | some _ => some b | none => skipB b
  | .block _ c => skipB c
  | _ => none
def bRb (ty : TypeId) (mr : Bool) (C : List S) : Bl := { cells := C, ty, more := mr, ro := true, sym := true, flat := true }
def cW (d : Nat) (q : List Nat) : Cq := ⟨d, 0, fun _ => 0, false, false, 0, 0, false, 0, 0, false, 0, q⟩
def rq (q : List Nat) (x : Nat) : List Nat := if x = 0 then q else if q.length = 16 then q else q ++ [x]
def rqs (g : Nat → Nat) : Nat → List Nat
  | 0 => []
  | j + 1 => rq (rqs g j) (g j)
theorem rqs_ok {g : Nat → Nat} (hg : ∀ i, g i < 256) : ∀ j, (∀ x ∈ rqs g j, x < 256) ∧ (rqs g j).length ≤ 16
  | 0 => ⟨fun x hx => (by cases hx), (by decide : 0 ≤ 16)⟩
  | j + 1 => by
    obtain ⟨h1, h2⟩ := rqs_ok hg j
    show (∀ x ∈ rq (rqs g j) (g j), x < 256) ∧ (rq (rqs g j) (g j)).length ≤ 16
    unfold rq
    split
    · exact ⟨h1, h2⟩
    · split
      · exact ⟨h1, h2⟩
      · refine ⟨fun x hx => ?_, by rw [List.length_append, List.length_singleton]; omega⟩
        rcases List.mem_append.1 hx with hx | hx
        · exact h1 x hx
        · simp at hx; rw [hx]; exact hg j
theorem raiq_cW (d : Nat) (q : List Nat) (x : Nat) : raiq (cW d q) x = cW d (rq q x) := by
  unfold raiq rq
  split
  · rfl
  · show (if q.length = 16 then cW d q else _) = _
    split <;> rfl
def e7 (arg want : V) (j : Nat) : List V := sp 145 [(1, arg), (5, .s (.ptr (some (1, 0)))), (7, want), (8, .s (.int .i64 ((j : Nat) : Int)))]
def h7N (lb : Bl) (d : Nat) : Hp := [(0, some lb), (1, some (bN (cW d [])))]
def h7Q (lb : Bl) (d : Nat) (q : List Nat) : Hp := [(0, some lb), (1, some (bQ (cW d q) 2 3)), (2, some (qB q 3)), (4, some (qB q 5))]
def nilV : V := .s (.slc none 0 (some 0))
def wan (q : List Nat) : V := .s (.sla 4 5 q.length)
theorem ap1 (q : List Nat) (g : Nat) : q.length * 1 ≤ (qB q g).cells.length := by show _ ≤ (q.map u8).length; rw [List.length_map]; omega
theorem ap2 (q : List Nat) (x : Nat) : (q ++ [x]).length = q.length + 1 := by simp
theorem ap3 (q : List Nat) (x g : Nat) : (q ++ [x]).map u8 = (qB q g).cells.take (q.length * 1) ++ [S.int .u8 ((x : Nat) : Int)] := by
  show _ = (q.map u8).take (q.length * 1) ++ _
  rw [List.map_append, List.take_of_length_le (by rw [List.length_map]; omega)]; rfl
theorem ap4 {q : List Nat} (x : Nat) (h : q.length ≤ 16) : (q ++ [x]).length ≤ 140737488355328 := by rw [ap2]; omega
theorem ap5 {q : List Nat} (x : Nat) (h : q.length ≤ 16) : (q ++ [x]).length * 1 ≤ 140737488355328 := by rw [ap2]; omega
theorem r7Nz (ty : TypeId) (mr : Bool) (C : List S) (oo m : Nat) (cc : Option Nat) (d j x : Nat) (hj : j < m) (h3 : j < 30) (hld : ldAt false 1 (bRb ty mr C) (plus oo j) = some (.s (.int .u8 ((x : Nat) : Int)))) (hx : x = 0) :
    Rnd Try.prog 1 ((Try.f7.body.bind fstLoop).getD .skip) [0, 1, 2, 3, 4, 5] [1, 5, 7, 8] (e7 (.s (.slc (some (0, oo)) m cc)) nilV j) 6 (h7N (bRb ty mr C) d) (e7 (.s (.slc (some (0, oo)) m cc)) nilV (j + 1)) (h7N (bRb ty mr C) d) := by
  have g1 : SC Try.prog 26 [pC, n8 x] 1 [(0, some (bN (cW d [])))] (errS 1) 1 [(0, some (bN (cW d [])))] := by rw [hx]; exact raise_z (cW d [])
  refine ⟨[.dec true, .dec true, .idx j, .val (n8 x), .call [1] [pC, n8 x] [(0, some (bN (cW d [])))] (errS 1) 1 [(0, some (bN (cW d [])))], .idx j, .val (n8 x), .dec true, .dec false, .idx j, .val (n8 x), .dec false, .idx j, .val (n8 x), .dec false, .num ((j + 1 : Nat) : Int)], _, _, _, _, _, rfl, ?_, rfl, ⟨rfl, rfl, trivial⟩⟩
  simp only [true_and, and_true, and_assoc, decide_eq_true_eq, decide_eq_false_iff_not, ne_eq, beq_iff_eq, beq_eq_false_iff_ne, bne_eq_false_iff_eq, bne_iff_ne, bne_self_eq_false, beq_self_eq_true]
  have e1 : Try.prog.types[5].size = 1 := by kernel_rfl
  have e2 : Try.prog.types[5].bytes = 1 := by kernel_rfl
  repeat' apply And.intro
  all_goals try rw [e1]
  all_goals try rw [e2]
  all_goals first
    | exact True.intro
    | exact hld
    | exact ⟨g1, rfl, Fits.of rfl rfl ⟨⟨rfl, _, rfl, rfl, fun h => h⟩, trivial⟩⟩
    | (with_reducible show _ = true; kernel_rfl)
    | (with_reducible exact rfl)
    | omega
    | exact cinj (by omega)
    | exact Nat.le_refl 1
    | decide
    | rfl
    | (intro e; cases e)
    | (intro _; exact Nat.le_refl _)
theorem r7Ny (ty : TypeId) (mr : Bool) (C : List S) (oo m : Nat) (cc : Option Nat) (d j x : Nat) (hj : j < m) (h3 : j < 30) (hld : ldAt false 1 (bRb ty mr C) (plus oo j) = some (.s (.int .u8 ((x : Nat) : Int)))) (hx : x ≠ 0) :
    Rnd Try.prog 1 ((Try.f7.body.bind fstLoop).getD .skip) [0, 1, 6, 7, 9, 10] [1, 5, 7, 8] (e7 (.s (.slc (some (0, oo)) m cc)) nilV j) 6 (h7N (bRb ty mr C) d) (e7 (.s (.slc (some (0, oo)) m cc)) (wan [x]) (j + 1)) (h7Q (bRb ty mr C) d [x]) := by
  have g1 := raise_N (cW d []) x hx rfl
  refine ⟨[.dec true, .dec true, .idx j, .val (n8 x), .call [1] [pC, n8 x] [(0, some (bN (cW d [])))] (errS 0) 3 [(0, some (bQ (cW d [x]) 1 2)), (1, some (qB [x] 2))], .idx j, .val (n8 x), .dec false, .idx j, .val (n8 x), .dec true, .dec true, .idx j, .val (n8 x), .app 1 [u8 x], .dec false, .num ((j + 1 : Nat) : Int)], _, _, _, _, _, rfl, ?_, rfl, ⟨rfl, rfl, rfl, rfl, trivial⟩⟩
  simp only [true_and, and_true, and_assoc, decide_eq_true_eq, decide_eq_false_iff_not, ne_eq, beq_iff_eq, beq_eq_false_iff_ne, bne_eq_false_iff_eq, bne_iff_ne, bne_self_eq_false, beq_self_eq_true]
  have e1 : Try.prog.types[5].size = 1 := by kernel_rfl
  have e2 : Try.prog.types[5].bytes = 1 := by kernel_rfl
  repeat' apply And.intro
  all_goals try rw [e1]
  all_goals try rw [e2]
  all_goals first
    | exact True.intro
    | exact hld
    | exact ⟨g1, rfl, Fits.of rfl rfl ⟨⟨rfl, _, rfl, rfl, fun h => h⟩, trivial⟩⟩
    | (with_reducible show _ = true; kernel_rfl)
    | (with_reducible exact rfl)
    | omega
    | exact cinj (by omega)
    | exact Nat.le_refl 1
    | decide
    | rfl
    | (intro e; cases e)
    | (intro _; exact Nat.le_refl _)
theorem r7Qz (ty : TypeId) (mr : Bool) (C : List S) (oo m : Nat) (cc : Option Nat) (d j x : Nat) (hj : j < m) (h3 : j < 30) (hld : ldAt false 1 (bRb ty mr C) (plus oo j) = some (.s (.int .u8 ((x : Nat) : Int)))) (q : List Nat) (hl : q.length ≤ 16) (hx : x = 0) :
    Rnd Try.prog 1 ((Try.f7.body.bind fstLoop).getD .skip) [0, 1, 6, 7, 4, 5] [1, 5, 7, 8] (e7 (.s (.slc (some (0, oo)) m cc)) (wan q) j) 6 (h7Q (bRb ty mr C) d q) (e7 (.s (.slc (some (0, oo)) m cc)) (wan q) (j + 1)) (h7Q (bRb ty mr C) d q) := by
  have g1 := raise_Q (cW d q) x hl
  rw [raiq_cW, show raiE (cW d q) x = 1 by simp [raiE, hx], show rq q x = q by simp [rq, hx]] at g1
  refine ⟨[.dec true, .dec true, .idx j, .val (n8 x), .call [1, 2, 3] [pC, n8 x] (sQ (cW d q)) (errS 1) 5 (eQ (cW d q)), .idx j, .val (n8 x), .dec true, .dec false, .idx j, .val (n8 x), .dec false, .idx j, .val (n8 x), .dec false, .num ((j + 1 : Nat) : Int)], _, _, _, _, _, rfl, ?_, rfl, ⟨rfl, rfl, rfl, rfl, trivial⟩⟩
  simp only [true_and, and_true, and_assoc, decide_eq_true_eq, decide_eq_false_iff_not, ne_eq, beq_iff_eq, beq_eq_false_iff_ne, bne_eq_false_iff_eq, bne_iff_ne, bne_self_eq_false, beq_self_eq_true]
  have e1 : Try.prog.types[5].size = 1 := by kernel_rfl
  have e2 : Try.prog.types[5].bytes = 1 := by kernel_rfl
  repeat' apply And.intro
  all_goals try rw [e1]
  all_goals try rw [e2]
  all_goals first
    | exact True.intro
    | exact hld
    | exact ⟨g1, rfl, Fits.of rfl rfl ⟨⟨rfl, _, rfl, rfl, fun h => h⟩, ⟨rfl, _, rfl, rfl, fun h => h⟩, trivial⟩⟩
    | (with_reducible show _ = true; kernel_rfl)
    | (with_reducible exact rfl)
    | omega
    | exact cinj (by omega)
    | exact Nat.le_refl 1
    | decide
    | rfl
    | (intro e; cases e)
    | (intro _; exact Nat.le_refl _)
theorem r7Qy (ty : TypeId) (mr : Bool) (C : List S) (oo m : Nat) (cc : Option Nat) (d j x : Nat) (hj : j < m) (h3 : j < 30) (hld : ldAt false 1 (bRb ty mr C) (plus oo j) = some (.s (.int .u8 ((x : Nat) : Int)))) (q : List Nat) (hl : q.length ≤ 16) (hx : x ≠ 0) (hn : q.length ≠ 16) :
    Rnd Try.prog 1 ((Try.f7.body.bind fstLoop).getD .skip) [0, 1, 6, 7, 9, 10] [1, 5, 7, 8] (e7 (.s (.slc (some (0, oo)) m cc)) (wan q) j) 6 (h7Q (bRb ty mr C) d q) (e7 (.s (.slc (some (0, oo)) m cc)) (wan (q ++ [x])) (j + 1)) (h7Q (bRb ty mr C) d (q ++ [x])) := by
  have g1 := raise_Q (cW d q) x hl
  rw [raiq_cW, show raiE (cW d q) x = 0 by simp [raiE, hx, hn, cW], show rq q x = q ++ [x] by simp [rq, hx, hn]] at g1
  refine ⟨[.dec true, .dec true, .idx j, .val (n8 x), .call [1, 2, 3] [pC, n8 x] (sQ (cW d q)) (errS 0) 5 (eQ (cW d (q ++ [x]))), .idx j, .val (n8 x), .dec false, .idx j, .val (n8 x), .dec true, .dec true, .idx j, .val (n8 x), .app (q ++ [x]).length ((q ++ [x]).map u8), .dec false, .num ((j + 1 : Nat) : Int)], _, _, _, _, _, rfl, ?_, rfl, ⟨rfl, rfl, rfl, rfl, trivial⟩⟩
  simp only [true_and, and_true, and_assoc, decide_eq_true_eq, decide_eq_false_iff_not, ne_eq, beq_iff_eq, beq_eq_false_iff_ne, bne_eq_false_iff_eq, bne_iff_ne, bne_self_eq_false, beq_self_eq_true]
  have e1 : Try.prog.types[5].size = 1 := by kernel_rfl
  have e2 : Try.prog.types[5].bytes = 1 := by kernel_rfl
  repeat' apply And.intro
  all_goals try rw [e1]
  all_goals try rw [e2]
  all_goals first
    | exact True.intro
    | exact hld
    | exact ⟨g1, rfl, Fits.of rfl rfl ⟨⟨rfl, _, rfl, rfl, fun h => h⟩, ⟨rfl, _, rfl, rfl, fun h => h⟩, trivial⟩⟩
    | exact ap1 q _
    | exact ap2 q x
    | exact ap3 q x _
    | exact ap4 x hl
    | exact ap5 x hl
    | (with_reducible show _ = true; kernel_rfl)
    | (with_reducible exact rfl)
    | omega
    | exact cinj (by omega)
    | exact Nat.le_refl 1
    | decide
    | rfl
    | (intro e; cases e)
    | (intro _; exact Nat.le_refl _)
theorem r7Qf (ty : TypeId) (mr : Bool) (C : List S) (oo m : Nat) (cc : Option Nat) (d j x : Nat) (hj : j < m) (h3 : j < 30) (hld : ldAt false 1 (bRb ty mr C) (plus oo j) = some (.s (.int .u8 ((x : Nat) : Int)))) (q : List Nat) (hx : x ≠ 0) (hn : q.length = 16) :
    Rnd Try.prog 1 ((Try.f7.body.bind fstLoop).getD .skip) [0, 1, 6, 7, 4, 5] [1, 5, 7, 8] (e7 (.s (.slc (some (0, oo)) m cc)) (wan q) j) 6 (h7Q (bRb ty mr C) d q) (e7 (.s (.slc (some (0, oo)) m cc)) (wan q) (j + 1)) (h7Q (bRb ty mr C) d q) := by
  have g1 := raise_Q (cW d q) x (by show q.length ≤ 16; omega)
  rw [raiq_cW, show raiE (cW d q) x = 8 by simp [raiE, hx, hn, cW], show rq q x = q by simp [rq, hx, hn]] at g1
  refine ⟨[.dec true, .dec true, .idx j, .val (n8 x), .call [1, 2, 3] [pC, n8 x] (sQ (cW d q)) (errS 8) 5 (eQ (cW d q)), .idx j, .val (n8 x), .dec false, .idx j, .val (n8 x), .dec true, .dec false, .idx j, .val (n8 x), .dec true, .dec false, .num ((j + 1 : Nat) : Int)], _, _, _, _, _, rfl, ?_, rfl, ⟨rfl, rfl, rfl, rfl, trivial⟩⟩
  simp only [true_and, and_true, and_assoc, decide_eq_true_eq, decide_eq_false_iff_not, ne_eq, beq_iff_eq, beq_eq_false_iff_ne, bne_eq_false_iff_eq, bne_iff_ne, bne_self_eq_false, beq_self_eq_true]
  have e1 : Try.prog.types[5].size = 1 := by kernel_rfl
  have e2 : Try.prog.types[5].bytes = 1 := by kernel_rfl
  repeat' apply And.intro
  all_goals try rw [e1]
  all_goals try rw [e2]
  all_goals first
    | exact True.intro
    | exact hld
    | exact ⟨g1, rfl, Fits.of rfl rfl ⟨⟨rfl, _, rfl, rfl, fun h => h⟩, ⟨rfl, _, rfl, rfl, fun h => h⟩, trivial⟩⟩
    | (with_reducible show _ = true; kernel_rfl)
    | (with_reducible exact rfl)
    | omega
    | exact cinj (by omega)
    | exact Nat.le_refl 1
    | decide
    | rfl
    | (intro e; cases e)
    | (intro _; exact Nat.le_refl _)

/-! ### the second loop -/
def cS (c : Cq) : Nat → Cq
  | 0 => c
  | i + 1 => cF (cS c i) (c.delay * i)
theorem cS_delay (c : Cq) : ∀ i, (cS c i).delay = c.delay
  | 0 => rfl
  | i + 1 => cS_delay c i
theorem cS_q (c : Cq) : ∀ i, (cS c i).q = c.q.drop i
  | 0 => rfl
  | i + 1 => by
    show (cS c i).q.tail = _
    rw [cS_q c i, List.tail_drop]
theorem cS_idle {c : Cq} (h : c.idle 0) : ∀ i, i ≤ 20 → (cS c i).idle (c.delay * i)
  | 0, _ => by rw [Nat.mul_zero]; exact h
  | i + 1, hi => by
    have hd := h.delay
    have h1 := cS_idle h i (by omega)
    have hb : c.delay * (i + 1) ≤ 7 * 20 := Nat.mul_le_mul hd hi
    have := cF_idle h1 (by rw [cS_delay]; rw [Nat.mul_add, Nat.mul_one] at hb; omega)
    rw [cS_delay, show c.delay * i + c.delay = c.delay * (i + 1) by rw [Nat.mul_add, Nat.mul_one]] at this
    exact this
theorem st_b32 (d : Cq) : bitV .and .u8 ((stNq d : Nat) : Int) 32 = match decide (0 < d.q.length) with | true => 32 | false => 0 := by
  unfold stNq
  cases d.full <;> cases d.pend <;> cases decide (0 < d.q.length) <;> rfl
def e8 (ct : Nat) (want : V) (now i : Nat) : List V := sp 145 [(5, .s (.ptr (some (ct, 0)))), (7, want), (10, n64 now), (11, .s (.int .i64 ((i : Nat) : Int)))]
def h8Q (lb : Bl) (c : Cq) (w : List Nat) : Hp := [(0, some lb), (1, some (bQ c 2 3)), (2, some (qB c.q 3)), (4, some (qB w 5))]
def h8N (lb : Bl) (c : Cq) : Hp := [(0, some lb), (1, some (bN c))]
def h8A (c : Cq) : Hp := [(0, some (bN c))]
theorem r8Qlt (ty : TypeId) (mr : Bool) (C : List S) (c : Cq) (w : List Nat) (now i : Nat) (h : c.idle now) (hi : i < w.length) (hw : w.length ≤ 16) (hq : c.q = w.drop i) :
    Rnd Try.prog 1 (((Try.f7.body.bind skipB).bind fstLoop).getD .skip) [0, 1, 9, 10, 4, 5] [5, 7, 10, 11] (e8 1 (wan w) now i) 6 (h8Q (bRb ty mr C) c w) (e8 1 (wan w) (now + c.delay) (i + 1)) (h8Q (bRb ty mr C) (cF c now) w) := by
  have hlt := h.lt
  have g1 := status_Q c now h.ok
  rw [idle_adv h] at g1
  have g2 := query_s now h.lt
  have g3 := finish_Q c now h
  have eb := st_b32 c
  have hc : c.q = w[i] :: w.drop (i + 1) := by rw [hq]; exact List.drop_eq_getElem_cons hi
  have hpos : decide (0 < c.q.length) = true := by rw [hc]; rfl
  have hv : ldAt false 1 (qB w 5) (plus 0 i) = some (n8 (c.q.headD 0)) := by
    rw [plus_eq, Nat.zero_add, hc]
    simp only [ldAt, qB, List.getElem?_map, List.getElem?_eq_getElem hi, Option.map_some, List.headD_cons]
    rfl
  rw [hpos] at eb
  refine ⟨[.dec true, .call [1, 2, 3] [pC, n64 now] (sQ c) (n8 (stNq c)) 5 (eQ c), .num 32, .dec true, .dec true, .dec false, .call [] [n64 now, n64 1000] [] (.s (.ptr (some (0, 0)))) 1 [(0, some (bT (tq now 0 0)))], .call [8, 1, 6, 7] [pT, pC1, n64 now, nilV] (sTQ (tq now 0 0) c) (.tup [.s (.int .u8 ((c.q.headD 0 : Nat) : Int)), .s (.int .i64 0), .s (.int .u64 ((now + c.delay : Nat) : Int)), .s (.bool true)]) 6 (eTQ (tq now 5 (c.q.headD 0)) (cF c now)), .dec false, .dec true, .idx i, .val (n8 (c.q.headD 0)), .dec false, .dec false, .num ((i + 1 : Nat) : Int)], _, _, _, _, _, rfl, ?_, rfl, ⟨rfl, rfl, rfl, rfl, trivial⟩⟩
  simp only [true_and, and_true, and_assoc, decide_eq_true_eq, decide_eq_false_iff_not, ne_eq, beq_iff_eq, beq_eq_false_iff_ne, bne_eq_false_iff_eq, bne_iff_ne, bne_self_eq_false, beq_self_eq_true]
  have e1 : Try.prog.types[5].size = 1 := by kernel_rfl
  have e2 : Try.prog.types[5].bytes = 1 := by kernel_rfl
  repeat' apply And.intro
  all_goals try rw [e1]
  all_goals try rw [e2]
  all_goals first
    | exact True.intro
    | exact ⟨g1, rfl, Fits.of rfl rfl ⟨⟨rfl, _, rfl, rfl, fun h => h⟩, ⟨rfl, _, rfl, rfl, fun h => h⟩, trivial⟩⟩
    | exact call0 g2 rfl
    | exact ⟨g3, rfl, Fits.of rfl rfl ⟨⟨rfl, _, rfl, rfl, fun h => h⟩, ⟨rfl, _, rfl, rfl, fun h => h⟩, ⟨rfl, _, rfl, rfl, fun h => h⟩, trivial⟩⟩
    | exact eb
    | exact hv
    | (with_reducible show _ = true; kernel_rfl)
    | (with_reducible exact rfl)
    | omega
    | exact cinj (by omega)
    | exact Nat.le_refl 1
    | decide
    | rfl
    | (intro e; cases e)
    | (intro _; exact Nat.le_refl _)
theorem r8Qeq (ty : TypeId) (mr : Bool) (C : List S) (c : Cq) (w : List Nat) (now i : Nat) (h : c.idle now) (hi : i = w.length) (hw : w.length ≤ 16) (hq : c.q = []) :
    Rnd Try.prog 1 (((Try.f7.body.bind skipB).bind fstLoop).getD .skip) [0, 1, 9, 10, 4, 5] [5, 7, 10, 11] (e8 1 (wan w) now i) 6 (h8Q (bRb ty mr C) c w) (e8 1 (wan w) (now + c.delay) (i + 1)) (h8Q (bRb ty mr C) (cF c now) w) := by
  have hlt := h.lt
  have g1 := status_Q c now h.ok
  rw [idle_adv h] at g1
  have g2 := query_s now h.lt
  have g3 := finish_Q c now h
  have eb := st_b32 c
  have hz : c.q.headD 0 = 0 := by rw [hq]; rfl
  have hpos : decide (0 < c.q.length) = false := by rw [hq]; rfl
  rw [hpos] at eb
  refine ⟨[.dec true, .call [1, 2, 3] [pC, n64 now] (sQ c) (n8 (stNq c)) 5 (eQ c), .num 0, .dec false, .dec false, .dec false, .call [] [n64 now, n64 1000] [] (.s (.ptr (some (0, 0)))) 1 [(0, some (bT (tq now 0 0)))], .call [8, 1, 6, 7] [pT, pC1, n64 now, nilV] (sTQ (tq now 0 0) c) (.tup [.s (.int .u8 ((c.q.headD 0 : Nat) : Int)), .s (.int .i64 0), .s (.int .u64 ((now + c.delay : Nat) : Int)), .s (.bool true)]) 6 (eTQ (tq now 5 (c.q.headD 0)) (cF c now)), .dec false, .dec false, .dec true, .dec false, .num ((i + 1 : Nat) : Int)], _, _, _, _, _, rfl, ?_, rfl, ⟨rfl, rfl, rfl, rfl, trivial⟩⟩
  simp only [true_and, and_true, and_assoc, decide_eq_true_eq, decide_eq_false_iff_not, ne_eq, beq_iff_eq, beq_eq_false_iff_ne, bne_eq_false_iff_eq, bne_iff_ne, bne_self_eq_false, beq_self_eq_true]
  have e1 : Try.prog.types[5].size = 1 := by kernel_rfl
  have e2 : Try.prog.types[5].bytes = 1 := by kernel_rfl
  repeat' apply And.intro
  all_goals try rw [e1]
  all_goals try rw [e2]
  all_goals first
    | exact True.intro
    | exact ⟨g1, rfl, Fits.of rfl rfl ⟨⟨rfl, _, rfl, rfl, fun h => h⟩, ⟨rfl, _, rfl, rfl, fun h => h⟩, trivial⟩⟩
    | exact call0 g2 rfl
    | exact ⟨g3, rfl, Fits.of rfl rfl ⟨⟨rfl, _, rfl, rfl, fun h => h⟩, ⟨rfl, _, rfl, rfl, fun h => h⟩, ⟨rfl, _, rfl, rfl, fun h => h⟩, trivial⟩⟩
    | exact eb
    | (with_reducible show _ = true; kernel_rfl)
    | (with_reducible exact rfl)
    | omega
    | exact cinj (by omega)
    | exact Nat.le_refl 1
    | decide
    | rfl
    | (intro e; cases e)
    | (intro _; exact Nat.le_refl _)
theorem r8Neq (ty : TypeId) (mr : Bool) (C : List S) (c : Cq) (now i : Nat) (h : c.idle now) (hi : i = 0) (hq : c.q = []) :
    Rnd Try.prog 1 (((Try.f7.body.bind skipB).bind fstLoop).getD .skip) [0, 1, 2, 3, 4, 5] [5, 7, 10, 11] (e8 1 nilV now i) 6 (h8N (bRb ty mr C) c) (e8 1 nilV (now + c.delay) (i + 1)) (h8N (bRb ty mr C) (cF c now)) := by
  have hlt := h.lt
  have g1 := status_N c now h.ok hq
  rw [idle_adv h] at g1
  have g2 := query_s now h.lt
  have g3 := finish_N c now h hq
  have eb := st_b32 c
  have hz : c.q.headD 0 = 0 := by rw [hq]; rfl
  have hpos : decide (0 < c.q.length) = false := by rw [hq]; rfl
  rw [hpos] at eb
  refine ⟨[.dec true, .call [1] [pC, n64 now] [(0, some (bN c))] (n8 (stNq c)) 1 [(0, some (bN c))], .num 0, .dec false, .dec false, .dec false, .call [] [n64 now, n64 1000] [] (.s (.ptr (some (0, 0)))) 1 [(0, some (bT (tq now 0 0)))], .call [6, 1] [pT, pC1, n64 now, nilV] (sTN (tq now 0 0) c) (.tup [.s (.int .u8 ((c.q.headD 0 : Nat) : Int)), .s (.int .i64 0), .s (.int .u64 ((now + c.delay : Nat) : Int)), .s (.bool true)]) 2 (sTN (tq now 5 (c.q.headD 0)) (cF c now)), .dec false, .dec false, .dec true, .dec false, .num ((i + 1 : Nat) : Int)], _, _, _, _, _, rfl, ?_, rfl, ⟨rfl, rfl, trivial⟩⟩
  simp only [true_and, and_true, and_assoc, decide_eq_true_eq, decide_eq_false_iff_not, ne_eq, beq_iff_eq, beq_eq_false_iff_ne, bne_eq_false_iff_eq, bne_iff_ne, bne_self_eq_false, beq_self_eq_true]
  have e1 : Try.prog.types[5].size = 1 := by kernel_rfl
  have e2 : Try.prog.types[5].bytes = 1 := by kernel_rfl
  repeat' apply And.intro
  all_goals try rw [e1]
  all_goals try rw [e2]
  all_goals first
    | exact True.intro
    | exact ⟨g1, rfl, Fits.of rfl rfl ⟨⟨rfl, _, rfl, rfl, fun h => h⟩, trivial⟩⟩
    | exact call0 g2 rfl
    | exact ⟨g3, rfl, Fits.of rfl rfl ⟨⟨rfl, _, rfl, rfl, fun h => h⟩, ⟨rfl, _, rfl, rfl, fun h => h⟩, trivial⟩⟩
    | exact eb
    | (with_reducible show _ = true; kernel_rfl)
    | (with_reducible exact rfl)
    | omega
    | exact cinj (by omega)
    | exact Nat.le_refl 1
    | decide
    | rfl
    | (intro e; cases e)
    | (intro _; exact Nat.le_refl _)
theorem r8Aeq (c : Cq) (now i : Nat) (h : c.idle now) (hi : i = 0) (hq : c.q = []) :
    Rnd Try.prog 0 (((Try.f7.body.bind skipB).bind fstLoop).getD .skip) [0] [5, 7, 10, 11] (e8 0 nilV now i) 1 (h8A c) (e8 0 nilV (now + c.delay) (i + 1)) (h8A (cF c now)) := by
  have hlt := h.lt
  have g1 := status_N c now h.ok hq
  rw [idle_adv h] at g1
  have g2 := query_s now h.lt
  have g3 := finish_N c now h hq
  have eb := st_b32 c
  have hz : c.q.headD 0 = 0 := by rw [hq]; rfl
  have hpos : decide (0 < c.q.length) = false := by rw [hq]; rfl
  rw [hpos] at eb
  refine ⟨[.dec true, .call [0] [pC, n64 now] [(0, some (bN c))] (n8 (stNq c)) 1 [(0, some (bN c))], .num 0, .dec false, .dec false, .dec false, .call [] [n64 now, n64 1000] [] (.s (.ptr (some (0, 0)))) 1 [(0, some (bT (tq now 0 0)))], .call [1, 0] [pT, pC1, n64 now, nilV] (sTN (tq now 0 0) c) (.tup [.s (.int .u8 ((c.q.headD 0 : Nat) : Int)), .s (.int .i64 0), .s (.int .u64 ((now + c.delay : Nat) : Int)), .s (.bool true)]) 2 (sTN (tq now 5 (c.q.headD 0)) (cF c now)), .dec false, .dec false, .dec true, .dec false, .num ((i + 1 : Nat) : Int)], _, _, _, _, _, rfl, ?_, rfl, ⟨rfl, trivial⟩⟩
  simp only [true_and, and_true, and_assoc, decide_eq_true_eq, decide_eq_false_iff_not, ne_eq, beq_iff_eq, beq_eq_false_iff_ne, bne_eq_false_iff_eq, bne_iff_ne, bne_self_eq_false, beq_self_eq_true]
  have e1 : Try.prog.types[5].size = 1 := by kernel_rfl
  have e2 : Try.prog.types[5].bytes = 1 := by kernel_rfl
  repeat' apply And.intro
  all_goals try rw [e1]
  all_goals try rw [e2]
  all_goals first
    | exact True.intro
    | exact ⟨g1, rfl, Fits.of rfl rfl ⟨⟨rfl, _, rfl, rfl, fun h => h⟩, trivial⟩⟩
    | exact call0 g2 rfl
    | exact ⟨g3, rfl, Fits.of rfl rfl ⟨⟨rfl, _, rfl, rfl, fun h => h⟩, ⟨rfl, _, rfl, rfl, fun h => h⟩, trivial⟩⟩
    | exact eb
    | (with_reducible show _ = true; kernel_rfl)
    | (with_reducible exact rfl)
    | omega
    | exact cinj (by omega)
    | exact Nat.le_refl 1
    | decide
    | rfl
    | (intro e; cases e)
    | (intro _; exact Nat.le_refl _)
theorem l8Q (ty : TypeId) (mr : Bool) (C : List S) (c : Cq) (w : List Nat) (now i : Nat) (hi : i = w.length + 1) : Lst Try.prog 1 (((Try.f7.body.bind skipB).bind fstLoop).getD .skip) [0, 1, 2, 3, 4, 5] [5, 7, 10, 11] (e8 1 (wan w) now i) 6 (h8Q (bRb ty mr C) c w) (.exit 3) (e8 1 (wan w) now i) (h8Q (bRb ty mr C) c w) := by
  refine ⟨[.dec false], _, _, _, _, _, rfl, ?_, rfl, ⟨rfl, rfl, rfl, rfl, trivial⟩⟩
  simp only [true_and, and_true, decide_eq_false_iff_not]; omega
theorem l8N (ty : TypeId) (mr : Bool) (C : List S) (c : Cq) (now i : Nat) (hi : i = 1) : Lst Try.prog 1 (((Try.f7.body.bind skipB).bind fstLoop).getD .skip) [0, 1, 2, 3, 4, 5] [5, 7, 10, 11] (e8 1 nilV now i) 6 (h8N (bRb ty mr C) c) (.exit 3) (e8 1 nilV now i) (h8N (bRb ty mr C) c) := by
  refine ⟨[.dec false], _, _, _, _, _, rfl, ?_, rfl, ⟨rfl, rfl, trivial⟩⟩
  simp only [true_and, and_true, decide_eq_false_iff_not]; omega
theorem l8A (c : Cq) (now i : Nat) (hi : i = 1) : Lst Try.prog 0 (((Try.f7.body.bind skipB).bind fstLoop).getD .skip) [0] [5, 7, 10, 11] (e8 0 nilV now i) 1 (h8A c) (.exit 3) (e8 0 nilV now i) (h8A c) := by
  refine ⟨[.dec false], _, _, _, _, _, rfl, ?_, rfl, ⟨rfl, trivial⟩⟩
  simp only [true_and, and_true, decide_eq_false_iff_not]; omega

end Go.Proofs.Ytimebhllnemnbaa
