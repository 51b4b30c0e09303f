/-
  EcQueriesInOrder: it returns true.
-/
import Derived.Test.YtimebhllnemnbaaQm
set_option linter.unusedSimpArgs false
set_option linter.unusedVariables false
namespace Go.Proofs.Ytimebhllnemnbaa
open Go Ab
set_option maxRecDepth 100000

def wv (q : List Nat) : V := match q with | [] => nilV | _ :: _ => wan q
def h7 (lb : Bl) (d : Nat) (q : List Nat) : Hp := match q with | [] => h7N lb d | _ :: _ => h7Q lb d q
def tb7 (q : List Nat) (x : Nat) : List Nat := match q with
  | [] => (match Nat.beq x 0 with | true => [0, 1, 2, 3, 4, 5] | false => [0, 1, 6, 7, 9, 10])
  | _ :: _ => (match Nat.beq x 0 || Nat.beq q.length 16 with | true => [0, 1, 6, 7, 4, 5] | false => [0, 1, 6, 7, 9, 10])
theorem tb7_or (q : List Nat) (x : Nat) : tb7 q x = [0, 1, 2, 3, 4, 5] ∨ tb7 q x = [0, 1, 6, 7, 4, 5] ∨ tb7 q x = [0, 1, 6, 7, 9, 10] := by
  cases q with
  | nil =>
    simp only [tb7]
    split
    · exact .inl rfl
    · exact .inr (.inr rfl)
  | cons y r =>
    simp only [tb7]
    split
    · exact .inr (.inl rfl)
    · exact .inr (.inr rfl)
theorem ok7 (ty : TypeId) (mr : Bool) (C : List S) (oo m : Nat) (cc : Option Nat) (d j : Nat) (q : List Nat) {t : List Nat} (h : t = [0, 1, 2, 3, 4, 5] ∨ t = [0, 1, 6, 7, 4, 5] ∨ t = [0, 1, 6, 7, 9, 10]) : okSt 1 t (e7 (.s (.slc (some (0, oo)) m cc)) (wv q) j) (h7 (bRb ty mr C) d q) = true := by
  rcases h with rfl | rfl | rfl <;> cases q <;> rfl
theorem rnd7 (ty : TypeId) (mr : Bool) (C : List S) (oo m : Nat) (cc : Option Nat) (d j x : Nat) (hj : j < m) (h3 : j < 30) (hld : ldAt false 1 (bRb ty mr C) (plus oo j) = some (.s (.int .u8 ((x : Nat) : Int)))) (q : List Nat) (hl : q.length ≤ 16) :
    Rnd Try.prog 1 ((Try.f7.body.bind fstLoop).getD .skip) (tb7 q x) [1, 5, 7, 8] (e7 (.s (.slc (some (0, oo)) m cc)) (wv q) j) 6 (h7 (bRb ty mr C) d q) (e7 (.s (.slc (some (0, oo)) m cc)) (wv (rq q x)) (j + 1)) (h7 (bRb ty mr C) d (rq q x)) := by
  cases q with
  | nil =>
    by_cases hx : x = 0
    · rw [show rq [] x = [] by simp [rq, hx], show tb7 [] x = [0, 1, 2, 3, 4, 5] by rw [hx]; rfl]
      exact r7Nz ty mr C oo m cc d j x hj h3 hld hx
    · rw [show rq [] x = [x] by simp [rq, hx], show tb7 [] x = [0, 1, 6, 7, 9, 10] by simp only [tb7, beq_no hx]]
      exact r7Ny ty mr C oo m cc d j x hj h3 hld hx
  | cons y r =>
    by_cases hx : x = 0
    · rw [show rq (y :: r) x = y :: r by simp [rq, hx], show tb7 (y :: r) x = [0, 1, 6, 7, 4, 5] by rw [hx]; rfl]
      exact r7Qz ty mr C oo m cc d j x hj h3 hld (y :: r) hl hx
    · by_cases hn : (y :: r).length = 16
      · rw [show rq (y :: r) x = y :: r by simp only [rq, if_neg hx, if_pos hn], show tb7 (y :: r) x = [0, 1, 6, 7, 4, 5] by simp only [tb7, hn, Nat.beq_refl, Bool.or_true]]
        exact r7Qf ty mr C oo m cc d j x hj h3 hld (y :: r) hx hn
      · rw [show rq (y :: r) x = (y :: r) ++ [x] by simp only [rq, if_neg hx, if_neg hn], show tb7 (y :: r) x = [0, 1, 6, 7, 9, 10] by simp only [tb7, beq_no hx, beq_no hn, Bool.or_false]]
        exact r7Qy ty mr C oo m cc d j x hj h3 hld (y :: r) hl hx hn
theorem lst7 (ty : TypeId) (mr : Bool) (C : List S) (oo m : Nat) (cc : Option Nat) (d N : Nat) (hN : N = min m 30) (q : List Nat) :
    Lst Try.prog 1 ((Try.f7.body.bind fstLoop).getD .skip) [0, 1, 2, 3, 4, 5] [1, 5, 7, 8] (e7 (.s (.slc (some (0, oo)) m cc)) (wv q) N) 6 (h7 (bRb ty mr C) d q) (.exit 0) (e7 (.s (.slc (some (0, oo)) m cc)) (wv q) N) (h7 (bRb ty mr C) d q) := by
  by_cases h9 : m ≤ 30
  · have e : N = m := by omega
    cases q with
    | nil =>
      refine ⟨[.dec false], _, _, _, _, _, rfl, ?_, rfl, ⟨rfl, rfl, trivial⟩⟩
      simp only [true_and, and_true, decide_eq_false_iff_not]; omega
    | cons y r =>
      refine ⟨[.dec false], _, _, _, _, _, rfl, ?_, rfl, ⟨rfl, rfl, rfl, rfl, trivial⟩⟩
      simp only [true_and, and_true, decide_eq_false_iff_not]; omega
  · have e : N = 30 := by omega
    cases q with
    | nil =>
      refine ⟨[.dec true, .dec false], _, _, _, _, _, rfl, ?_, rfl, ⟨rfl, rfl, trivial⟩⟩
      simp only [true_and, and_true, decide_eq_false_iff_not, decide_eq_true_eq]; omega
    | cons y r =>
      refine ⟨[.dec true, .dec false], _, _, _, _, _, rfl, ?_, rfl, ⟨rfl, rfl, rfl, rfl, trivial⟩⟩
      simp only [true_and, and_true, decide_eq_false_iff_not, decide_eq_true_eq]; omega
theorem loop7 (ty : TypeId) (mr : Bool) (C : List S) (g : Nat → Nat) (hg : ∀ i, g i < 256) (oo m : Nat) (cc : Option Nat) (hC : ∀ i, i < m → C[oo + i]? = some (.int .u8 ((g i : Nat) : Int))) (d : Nat) {env : List V} {L : Hp} {n : Nat}
    (h0 : wkE [1, 5, 7, 8] 0 env = (e7 (.s (.slc (some (0, oo)) m cc)) nilV 0).map (renV (rn [0, 1, 2, 3, 4, 5] 0))) (h1 : MemP (rn [0, 1, 2, 3, 4, 5] 0) L (h7N (bRb ty mr C) d)) :
    Ex Try.prog 1 (.loop ((Try.f7.body.bind fstLoop).getD .skip)) env n L (One (.exit 0) (e7 (.s (.slc (some (0, oo)) m cc)) (wv (rqs g (min m 30))) (min m 30)) 6 (h7 (bRb ty mr C) d (rqs g (min m 30)))) := by
  refine Ex.movesT hm [1, 5, 7, 8] (min m 30) (fun j => e7 (.s (.slc (some (0, oo)) m cc)) (wv (rqs g j)) j) (fun j => h7 (bRb ty mr C) d (rqs g j)) [0, 1, 2, 3, 4, 5] (fun j => tb7 (rqs g j) (g j)) rfl (fun j => ?_) h0 h1 rfl (fun j => ok7 ty mr C oo m cc d _ _ (tb7_or _ _)) (fun j hj => ?_) [1, 5, 7, 8] [0, 1, 2, 3, 4, 5] rfl (fun e => by cases e) (ok7 ty mr C oo m cc d _ _ (.inl rfl)) (lst7 ty mr C oo m cc d _ rfl _)
  · rcases tb7_or (rqs g j) (g j) with e | e | e <;> simp only [e] <;> rfl
  · refine rnd7 ty mr C oo m cc d j (g j) (by omega) (by omega) ?_ (rqs g j) (rqs_ok hg j).2
    rw [plus_eq]; simp only [ldAt, bRb, hC j (by omega)]

theorem cW_idle {d : Nat} {q : List Nat} (hd : d ≤ 7) (hq : ∀ x ∈ q, x < 256) (hl : q.length ≤ 16) : (cW d q).idle 0 :=
  ⟨⟨(by decide : 0 < 2 ^ 64), by show d < 2 ^ 64; omega, (by decide : 0 < 2 ^ 64), (by decide : 0 < 256), (by decide : 0 < 256), (by decide : 0 < 256), (by decide : 0 < 256), fun _ => (by decide : 0 < 256), hq, hl, fun _ => rfl⟩, rfl, rfl, rfl, hd, by decide⟩
theorem loop8Q (ty : TypeId) (mr : Bool) (C : List S) (d : Nat) (w : List Nat) (hd : d ≤ 7) (hq : ∀ x ∈ w, x < 256) (hl : w.length ≤ 16) {env : List V} {L : Hp} {n : Nat}
    (h0 : wkE [5, 7, 10, 11] 0 env = (e8 1 (wan w) 0 0).map (renV (rn [0, 1, 2, 3, 4, 5] 0))) (h1 : MemP (rn [0, 1, 2, 3, 4, 5] 0) L (h8Q (bRb ty mr C) (cW d w) w)) :
    Ex Try.prog 1 (.loop (((Try.f7.body.bind skipB).bind fstLoop).getD .skip)) env n L (One (.exit 3) (e8 1 (wan w) (d * (w.length + 1)) (w.length + 1)) 6 (h8Q (bRb ty mr C) (cS (cW d w) (w.length + 1)) w)) := by
  have hid := cW_idle hd hq hl
  refine Ex.movesT hm [5, 7, 10, 11] (w.length + 1) (fun i => e8 1 (wan w) (d * i) i) (fun i => h8Q (bRb ty mr C) (cS (cW d w) i) w) [0, 1, 2, 3, 4, 5] (fun _ => [0, 1, 9, 10, 4, 5]) rfl (fun _ => rfl) h0 h1 rfl (fun _ => rfl) (fun i hi => ?_) [5, 7, 10, 11] [0, 1, 2, 3, 4, 5] rfl (fun e => by cases e) rfl (l8Q ty mr C _ w _ _ rfl)
  have hi8 : (cS (cW d w) i).idle (d * i) := cS_idle hid i (by omega)
  have ed : d * i + (cS (cW d w) i).delay = d * (i + 1) := by rw [cS_delay, Nat.mul_add, Nat.mul_one]; rfl
  by_cases hlt : i < w.length
  · have := r8Qlt ty mr C (cS (cW d w) i) w (d * i) i hi8 hlt hl (cS_q (cW d w) i)
    rw [ed] at this
    exact this
  · have hiw : i = w.length := by omega
    have := r8Qeq ty mr C (cS (cW d w) i) w (d * i) i hi8 hiw hl (by rw [cS_q, hiw]; exact List.drop_length)
    rw [ed] at this
    exact this
theorem loop8N (ty : TypeId) (mr : Bool) (C : List S) (d : Nat) (hd : d ≤ 7) {env : List V} {L : Hp} {n : Nat}
    (h0 : wkE [5, 7, 10, 11] 0 env = (e8 1 nilV 0 0).map (renV (rn [0, 1, 2, 3, 4, 5] 0))) (h1 : MemP (rn [0, 1, 2, 3, 4, 5] 0) L (h8N (bRb ty mr C) (cW d []))) :
    Ex Try.prog 1 (.loop (((Try.f7.body.bind skipB).bind fstLoop).getD .skip)) env n L (One (.exit 3) (e8 1 nilV (d * 1) 1) 6 (h8N (bRb ty mr C) (cS (cW d []) 1))) := by
  have hid := cW_idle (q := []) hd (fun x hx => by cases hx) (by decide)
  refine Ex.movesT hm [5, 7, 10, 11] 1 (fun i => e8 1 nilV (d * i) i) (fun i => h8N (bRb ty mr C) (cS (cW d []) i)) [0, 1, 2, 3, 4, 5] (fun _ => [0, 1, 2, 3, 4, 5]) rfl (fun _ => rfl) h0 h1 rfl (fun _ => rfl) (fun i hi => ?_) [5, 7, 10, 11] [0, 1, 2, 3, 4, 5] rfl (fun e => by cases e) rfl (l8N ty mr C _ _ _ rfl)
  have hi8 : (cS (cW d []) i).idle (d * i) := cS_idle hid i (by omega)
  have ed : d * i + (cS (cW d []) i).delay = d * (i + 1) := by rw [cS_delay, Nat.mul_add, Nat.mul_one]; rfl
  have := r8Neq ty mr C (cS (cW d []) i) (d * i) i hi8 (by omega) (by rw [cS_q]; exact List.drop_nil)
  rw [ed] at this
  exact this
theorem loop8A (d : Nat) (hd : d ≤ 7) {env : List V} {L : Hp} {n : Nat}
    (h0 : wkE [5, 7, 10, 11] 0 env = (e8 0 nilV 0 0).map (renV (rn [0] 0))) (h1 : MemP (rn [0] 0) L (h8A (cW d []))) :
    Ex Try.prog 0 (.loop (((Try.f7.body.bind skipB).bind fstLoop).getD .skip)) env n L (One (.exit 3) (e8 0 nilV (d * 1) 1) 1 (h8A (cS (cW d []) 1))) := by
  have hid := cW_idle (q := []) hd (fun x hx => by cases hx) (by decide)
  refine Ex.movesT hm [5, 7, 10, 11] 1 (fun i => e8 0 nilV (d * i) i) (fun i => h8A (cS (cW d []) i)) [0] (fun _ => [0]) rfl (fun _ => rfl) h0 h1 rfl (fun _ => rfl) (fun i hi => ?_) [5, 7, 10, 11] [0] rfl (fun e => by cases e) rfl (l8A _ _ _ rfl)
  have hi8 : (cS (cW d []) i).idle (d * i) := cS_idle hid i (by omega)
  have ed : d * i + (cS (cW d []) i).delay = d * (i + 1) := by rw [cS_delay, Nat.mul_add, Nat.mul_one]; rfl
  have := r8Aeq (cS (cW d []) i) (d * i) i hi8 (by omega) (by rw [cS_q]; exact List.drop_nil)
  rw [ed] at this
  exact this

theorem queries_BN (D : Nat) (ty : TypeId) (mr : Bool) (C : List S) (oo m : Nat) (cc : Option Nat) (N : Nat) (hl : ∀ {env : List V} {L : Hp} {n : Nat}, wkE [1, 5, 7, 8] 0 env = (e7 (.s (.slc (some (0, oo)) m cc)) nilV 0).map (renV (rn [0, 1, 2, 3, 4, 5] 0)) → MemP (rn [0, 1, 2, 3, 4, 5] 0) L (h7N (bRb ty mr C) (D % 8)) →
      Ex Try.prog 1 (.loop ((Try.f7.body.bind fstLoop).getD .skip)) env n L (One (.exit 0) (e7 (.s (.slc (some (0, oo)) m cc)) nilV N) 6 (h7N (bRb ty mr C) (D % 8)))) : SC Try.prog 7 [n64 D, (.s (.slc (some (0, oo)) m cc))] 1 [(0, some (bRb ty mr C))] (.s (.bool true)) 1 [(0, some (bRb ty mr C))] := by
  have m8 : Int.tmod ((D : Nat) : Int) 8 = ((D % 8 : Nat) : Int) := rfl
  have hd : D % 8 ≤ 7 := by omega
  have gn : SC Try.prog 9 [n64 (D % 8)] 0 [] (.tup [.s (.ptr (some (0, 0))), .s (.int .i64 0)]) 1 [(0, some (bN (cW (D % 8) [])))] := new_s (D % 8) (by omega)
  have hloop := fun {env : List V} {L : Hp} {n : Nat} a b => hl (env := env) (L := L) (n := n) a b
  refine SC.run hm Try.func7 rfl [.num ((D % 8 : Nat) : Int), .call [] [n64 (D % 8)] [] (.tup [.s (.ptr (some (0, 0))), .s (.int .i64 0)]) 1 [(0, some (bN (cW (D % 8) [])))], .call [] [] [] (.s (.bool true)) 0 [], .dec false, .dec false, .loop (.exit 0) (e7 (.s (.slc (some (0, oo)) m cc)) nilV N) 6 (h7N (bRb ty mr C) (D % 8)), .loop (.exit 3) (e8 1 nilV (D % 8 * 1) 1) 6 (h8N (bRb ty mr C) (cS (cW (D % 8) []) 1))] [] rfl rfl ?_ (.inl rfl) (EndOK.by rfl ⟨rfl, trivial⟩ rfl rfl rfl rfl)
  simp only [true_and, and_true, and_assoc, decide_eq_true_eq, decide_eq_false_iff_not, ne_eq, beq_iff_eq, beq_eq_false_iff_ne, bne_eq_false_iff_eq, bne_self_eq_false, beq_self_eq_true]
  repeat' apply And.intro
  all_goals first
    | exact True.intro
    | exact call0 gn rfl
    | exact call0 awake_s rfl
    | exact hloop rfl ⟨rfl, rfl, trivial⟩
    | exact loop8N ty mr C (D % 8) hd rfl ⟨rfl, rfl, trivial⟩
    | (with_reducible show _ = true; kernel_rfl)
    | (with_reducible exact rfl)
    | omega
    | rfl
theorem queries_BQ (D : Nat) (ty : TypeId) (mr : Bool) (C : List S) (oo m : Nat) (cc : Option Nat) (w : List Nat) (hw : ∀ x ∈ w, x < 256) (hwl : w.length ≤ 16) (N : Nat) (hl : ∀ {env : List V} {L : Hp} {n : Nat}, wkE [1, 5, 7, 8] 0 env = (e7 (.s (.slc (some (0, oo)) m cc)) nilV 0).map (renV (rn [0, 1, 2, 3, 4, 5] 0)) → MemP (rn [0, 1, 2, 3, 4, 5] 0) L (h7N (bRb ty mr C) (D % 8)) →
      Ex Try.prog 1 (.loop ((Try.f7.body.bind fstLoop).getD .skip)) env n L (One (.exit 0) (e7 (.s (.slc (some (0, oo)) m cc)) (wan w) N) 6 (h7Q (bRb ty mr C) (D % 8) w))) : SC Try.prog 7 [n64 D, (.s (.slc (some (0, oo)) m cc))] 1 [(0, some (bRb ty mr C))] (.s (.bool true)) 1 [(0, some (bRb ty mr C))] := by
  have m8 : Int.tmod ((D : Nat) : Int) 8 = ((D % 8 : Nat) : Int) := rfl
  have hd : D % 8 ≤ 7 := by omega
  have gn : SC Try.prog 9 [n64 (D % 8)] 0 [] (.tup [.s (.ptr (some (0, 0))), .s (.int .i64 0)]) 1 [(0, some (bN (cW (D % 8) [])))] := new_s (D % 8) (by omega)
  have hloop := fun {env : List V} {L : Hp} {n : Nat} a b => hl (env := env) (L := L) (n := n) a b
  refine SC.run hm Try.func7 rfl [.num ((D % 8 : Nat) : Int), .call [] [n64 (D % 8)] [] (.tup [.s (.ptr (some (0, 0))), .s (.int .i64 0)]) 1 [(0, some (bN (cW (D % 8) [])))], .call [] [] [] (.s (.bool true)) 0 [], .dec false, .dec false, .loop (.exit 0) (e7 (.s (.slc (some (0, oo)) m cc)) (wan w) N) 6 (h7Q (bRb ty mr C) (D % 8) w), .loop (.exit 3) (e8 1 (wan w) (D % 8 * (w.length + 1)) (w.length + 1)) 6 (h8Q (bRb ty mr C) (cS (cW (D % 8) w) (w.length + 1)) w)] [] rfl rfl ?_ (.inl rfl) (EndOK.by rfl ⟨rfl, trivial⟩ rfl rfl rfl rfl)
  simp only [true_and, and_true, and_assoc, decide_eq_true_eq, decide_eq_false_iff_not, ne_eq, beq_iff_eq, beq_eq_false_iff_ne, bne_eq_false_iff_eq, bne_self_eq_false, beq_self_eq_true]
  repeat' apply And.intro
  all_goals first
    | exact True.intro
    | exact call0 gn rfl
    | exact call0 awake_s rfl
    | exact hloop rfl ⟨rfl, rfl, trivial⟩
    | exact loop8Q ty mr C (D % 8) w hd hw hwl rfl ⟨rfl, rfl, rfl, rfl, trivial⟩
    | (with_reducible show _ = true; kernel_rfl)
    | (with_reducible exact rfl)
    | omega
    | rfl
theorem queries_B (D : Nat) (ty : TypeId) (mr : Bool) (C : List S) (oo m : Nat) (cc : Option Nat) (g : Nat → Nat) (hg : ∀ i, g i < 256) (hC : ∀ i, i < m → C[oo + i]? = some (.int .u8 ((g i : Nat) : Int))) : SC Try.prog 7 [n64 D, (.s (.slc (some (0, oo)) m cc))] 1 [(0, some (bRb ty mr C))] (.s (.bool true)) 1 [(0, some (bRb ty mr C))] := by
  have hl := fun {env : List V} {L : Hp} {n : Nat} a b => loop7 ty mr C g hg oo m cc hC (D % 8) (env := env) (L := L) (n := n) a b
  obtain ⟨h1, h2⟩ := rqs_ok hg (min m 30)
  cases hq : rqs g (min m 30) with
  | nil =>
    rw [hq] at hl
    exact queries_BN D ty mr C oo m cc (min m 30) hl
  | cons y r =>
    rw [hq] at hl h1 h2
    exact queries_BQ D ty mr C oo m cc (y :: r) h1 h2 (min m 30) hl
theorem l7A (c : Cq) : Lst Try.prog 0 ((Try.f7.body.bind fstLoop).getD .skip) [0] [1, 5, 7, 8] (sp 145 [(1, (.s (.slc none 0 (some 0)))), (5, .s (.ptr (some (0, 0)))), (7, nilV), (8, .s (.int .i64 ((0 : Nat) : Int)))]) 1 (h8A c) (.exit 0) (sp 145 [(1, (.s (.slc none 0 (some 0)))), (5, .s (.ptr (some (0, 0)))), (7, nilV), (8, .s (.int .i64 ((0 : Nat) : Int)))]) (h8A c) := by
  refine ⟨[.dec false], _, _, _, _, _, rfl, ?_, rfl, ⟨rfl, trivial⟩⟩
  simp only [true_and, and_true, decide_eq_false_iff_not]; omega
theorem queries_A (D : Nat) : SC Try.prog 7 [n64 D, (.s (.slc none 0 (some 0)))] 0 [] (.s (.bool true)) 0 [] := by
  have m8 : Int.tmod ((D : Nat) : Int) 8 = ((D % 8 : Nat) : Int) := rfl
  have hd : D % 8 ≤ 7 := by omega
  have gn : SC Try.prog 9 [n64 (D % 8)] 0 [] (.tup [.s (.ptr (some (0, 0))), .s (.int .i64 0)]) 1 [(0, some (bN (cW (D % 8) [])))] := new_s (D % 8) (by omega)
  refine SC.run hm Try.func7 rfl [.num ((D % 8 : Nat) : Int), .call [] [n64 (D % 8)] [] (.tup [.s (.ptr (some (0, 0))), .s (.int .i64 0)]) 1 [(0, some (bN (cW (D % 8) [])))], .call [] [] [] (.s (.bool true)) 0 [], .dec false, .dec false, .loop (.exit 0) (sp 145 [(1, (.s (.slc none 0 (some 0)))), (5, .s (.ptr (some (0, 0)))), (7, nilV), (8, .s (.int .i64 ((0 : Nat) : Int)))]) 1 (h8A (cW (D % 8) [])), .loop (.exit 3) (e8 0 nilV (D % 8 * 1) 1) 1 (h8A (cS (cW (D % 8) []) 1))] [] rfl rfl ?_ (.inl rfl) (EndOK.plain rfl no_mem rfl rfl)
  simp only [true_and, and_true, and_assoc, decide_eq_true_eq, decide_eq_false_iff_not, ne_eq, beq_iff_eq, beq_eq_false_iff_ne, bne_eq_false_iff_eq, bne_self_eq_false, beq_self_eq_true]
  repeat' apply And.intro
  all_goals first
    | exact True.intro
    | exact call0 gn rfl
    | exact call0 awake_s rfl
    | exact loop8A (D % 8) hd rfl ⟨rfl, trivial⟩
    | exact Ex.movesT hm [1, 5, 7, 8] 0 (fun _ => (sp 145 [(1, (.s (.slc none 0 (some 0)))), (5, .s (.ptr (some (0, 0)))), (7, nilV), (8, .s (.int .i64 ((0 : Nat) : Int)))])) (fun _ => h8A (cW (D % 8) [])) [0] (fun _ => [0]) rfl (fun _ => rfl) rfl ⟨rfl, trivial⟩ rfl (fun _ => rfl) (fun j hj => absurd hj (Nat.not_lt_zero _)) [1, 5, 7, 8] [0] rfl (fun e => by cases e) rfl (l7A _)
    | (with_reducible show _ = true; kernel_rfl)
    | (with_reducible exact rfl)
    | omega
    | rfl
theorem l7E (c : Cq) : Lst Try.prog 0 ((Try.f7.body.bind fstLoop).getD .skip) [0] [1, 5, 7, 8] (sp 145 [(1, (.s .emp)), (5, .s (.ptr (some (0, 0)))), (7, nilV), (8, .s (.int .i64 ((0 : Nat) : Int)))]) 1 (h8A c) (.exit 0) (sp 145 [(1, (.s .emp)), (5, .s (.ptr (some (0, 0)))), (7, nilV), (8, .s (.int .i64 ((0 : Nat) : Int)))]) (h8A c) := by
  refine ⟨[.dec false], _, _, _, _, _, rfl, ?_, rfl, ⟨rfl, trivial⟩⟩
  simp only [true_and, and_true, decide_eq_false_iff_not]; omega
theorem queries_E (D : Nat) : SC Try.prog 7 [n64 D, (.s .emp)] 0 [] (.s (.bool true)) 0 [] := by
  have m8 : Int.tmod ((D : Nat) : Int) 8 = ((D % 8 : Nat) : Int) := rfl
  have hd : D % 8 ≤ 7 := by omega
  have gn : SC Try.prog 9 [n64 (D % 8)] 0 [] (.tup [.s (.ptr (some (0, 0))), .s (.int .i64 0)]) 1 [(0, some (bN (cW (D % 8) [])))] := new_s (D % 8) (by omega)
  refine SC.run hm Try.func7 rfl [.num ((D % 8 : Nat) : Int), .call [] [n64 (D % 8)] [] (.tup [.s (.ptr (some (0, 0))), .s (.int .i64 0)]) 1 [(0, some (bN (cW (D % 8) [])))], .call [] [] [] (.s (.bool true)) 0 [], .dec false, .dec false, .loop (.exit 0) (sp 145 [(1, (.s .emp)), (5, .s (.ptr (some (0, 0)))), (7, nilV), (8, .s (.int .i64 ((0 : Nat) : Int)))]) 1 (h8A (cW (D % 8) [])), .loop (.exit 3) (e8 0 nilV (D % 8 * 1) 1) 1 (h8A (cS (cW (D % 8) []) 1))] [] rfl rfl ?_ (.inl rfl) (EndOK.plain rfl no_mem rfl rfl)
  simp only [true_and, and_true, and_assoc, decide_eq_true_eq, decide_eq_false_iff_not, ne_eq, beq_iff_eq, beq_eq_false_iff_ne, bne_eq_false_iff_eq, bne_self_eq_false, beq_self_eq_true]
  repeat' apply And.intro
  all_goals first
    | exact True.intro
    | exact call0 gn rfl
    | exact call0 awake_s rfl
    | exact loop8A (D % 8) hd rfl ⟨rfl, trivial⟩
    | exact Ex.movesT hm [1, 5, 7, 8] 0 (fun _ => (sp 145 [(1, (.s .emp)), (5, .s (.ptr (some (0, 0)))), (7, nilV), (8, .s (.int .i64 ((0 : Nat) : Int)))])) (fun _ => h8A (cW (D % 8) [])) [0] (fun _ => [0]) rfl (fun _ => rfl) rfl ⟨rfl, trivial⟩ rfl (fun _ => rfl) (fun j hj => absurd hj (Nat.not_lt_zero _)) [1, 5, 7, 8] [0] rfl (fun e => by cases e) rfl (l7E _)
    | (with_reducible show _ = true; kernel_rfl)
    | (with_reducible exact rfl)
    | omega
    | rfl

end Go.Proofs.Ytimebhllnemnbaa
