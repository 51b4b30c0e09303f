/-
  DecodeSet (both sides): the loops.
-/
import Derived.Test.YtmkemodgbhaglaaDoorSj
set_option linter.unusedSimpArgs false
set_option linter.unusedVariables false
namespace Go.Proofs.YtmkemodgbhaglaaDoor
open Go Ab
set_option maxRecDepth 100000

theorem got_inv {s dir : By} {p0 : Nat} (hp : p0 ≤ s.length) : ∀ j, (∀ i, i < j → errJ s dir p0 i = 0) → (got s dir p0 j).1.length = j ∧ (got s dir p0 j).2 ≤ s.length
  | 0, _ => ⟨rfl, hp⟩
  | j + 1, h => by
    obtain ⟨h1, h2⟩ := got_inv hp j fun i hi => h i (by omega)
    have hj := h j (by omega)
    obtain ⟨o1, o2, o3, o4⟩ := one_ok (show (one s (dir.drop (4 * j)) (got s dir p0 j).2).1 = 0 from hj)
    have hd := (dec_len o2).1
    rw [List.length_drop] at hd
    refine ⟨by show ((got s dir p0 j).1 ++ [_]).length = _; rw [List.length_append, h1]; rfl, ?_⟩
    show (one s (dir.drop (4 * j)) (got s dir p0 j).2).2.2 ≤ _
    rw [o4]
    show (got s dir p0 j).2 + _ ≤ _
    omega
theorem got_succ {s dir : By} {p0 j : Nat} (h : errJ s dir p0 j = 0) : got s dir p0 (j + 1) = ((got s dir p0 j).1 ++ [(decB (s.drop (got s dir p0 j).2)).1], (got s dir p0 j).2 + (decB (s.drop (got s dir p0 j).2)).2.1) := by
  obtain ⟨_, _, _, o4⟩ := one_ok (show (one s (dir.drop (4 * j)) (got s dir p0 j).2).1 = 0 from h)
  show ((got s dir p0 j).1 ++ [(one s (dir.drop (4 * j)) (got s dir p0 j).2).2.1], (one s (dir.drop (4 * j)) (got s dir p0 j).2).2.2) = _
  rw [o4]
theorem drop4 (b : By) (j : Nat) : (b.drop (4 * j)).drop 4 = b.drop (4 * (j + 1)) := by rw [List.drop_drop]; congr 1
theorem one_bad {s offs : By} {pos : Nat} (h : (one s offs pos).1 ≠ 0) : (num4 offs ≠ pos ∧ (one s offs pos).1 = 3) ∨ (num4 offs = pos ∧ (decB (s.drop pos)).2.2 ≠ 0 ∧ (one s offs pos).1 = (decB (s.drop pos)).2.2) ∨ (num4 offs = pos ∧ (decB (s.drop pos)).2.2 = 0 ∧ (decB (s.drop pos)).1.sg = rsdt ∧ (one s offs pos).1 = 3) := by
  unfold one at *
  by_cases h1 : num4 offs ≠ pos
  · rw [if_pos h1]; exact .inl ⟨h1, rfl⟩
  · rw [if_neg h1] at h ⊢
    have h1 := Classical.not_not.1 h1
    by_cases h2 : (decB (s.drop pos)).2.2 ≠ 0
    · rw [if_pos h2]; exact .inr (.inl ⟨h1, h2, rfl⟩)
    · rw [if_neg h2] at h ⊢
      by_cases h3 : (decB (s.drop pos)).1.sg = rsdt
      · rw [if_pos h3]; exact .inr (.inr ⟨h1, Classical.not_not.1 h2, h3, rfl⟩)
      · rw [if_neg h3] at h; exact absurd rfl h
def e23 (s dir : By) (p0 n : Nat) : Nat → List V
  | 0 => (sp 90 [(0, sV s), (5, iN p0), (7, sV dir), (8, (.s (.slc (some (1, 0)) 0 (some n))))])
  | j + 1 => (sp 90 [(0, sV s), (5, iN (got s dir p0 (j + 1)).2), (7, sV (dir.drop (4 * (j + 1)))), (8, (.s (.sla 1 2 (got s dir p0 (j + 1)).1.length)))])
def h23 (s dir : By) (p0 n : Nat) : Nat → Hp
  | 0 => [(1, some (zM n))]
  | j + 1 => [(1, some (zB (got s dir p0 (j + 1)).1 2))]
theorem r23 (s dir : By) (p0 n : Nat) (hs : s.length < 9223372036854775808) (hp : p0 ≤ s.length) (hn : n ≤ 16) (hd : dir.length = 4 * n) (j : Nat) (hj : j < n) (h : ∀ i, i < j + 1 → errJ s dir p0 i = 0) :
    Rnd Tryd.prog 0 ((Tryd.f23.body.bind fstLoop).getD .skip) [0, 5, 6] [0, 5, 7, 8] (e23 s dir p0 n j) 3 (h23 s dir p0 n j) (e23 s dir p0 n (j + 1)) (h23 s dir p0 n (j + 1)) := by
  obtain ⟨q1, q2⟩ := got_inv hp j fun i hi => h i (by omega)
  have hj0 := h j (by omega)
  have hg := got_succ hj0
  have hdl : (dir.drop (4 * j)).length = dir.length - 4 * j := List.length_drop
  cases j with
  | zero =>
    have := ds_a s dir p0 hs (by omega) hp n hn hj0
    show Rnd _ _ _ _ _ _ _ _ (sp 90 [(0, sV s), (5, iN (got s dir p0 (0 + 1)).2), (7, sV (dir.drop (4 * (0 + 1)))), (8, (.s (.sla 1 2 (got s dir p0 (0 + 1)).1.length)))]) [(1, some (zB (got s dir p0 (0 + 1)).1 2))]
    rw [hg]
    exact this
  | succ j =>
    have := ds_b s (dir.drop (4 * (j + 1))) (got s dir p0 (j + 1)).2 hs (by omega) q2 (got s dir p0 (j + 1)).1 (by omega) hj0
    show Rnd _ _ _ _ _ _ _ _ (sp 90 [(0, sV s), (5, iN (got s dir p0 (j + 1 + 1)).2), (7, sV (dir.drop (4 * (j + 1 + 1)))), (8, (.s (.sla 1 2 (got s dir p0 (j + 1 + 1)).1.length)))]) [(1, some (zB (got s dir p0 (j + 1 + 1)).1 2))]
    rw [hg, ← drop4]
    exact this
theorem l23 (s dir : By) (p0 n : Nat) (hs : s.length < 9223372036854775808) (hp : p0 ≤ s.length) (hn : n ≤ 16) (h1 : 1 ≤ n) (hd : dir.length = 4 * n) (h : ∀ i, i < n → errJ s dir p0 i = 0) {env : List V} {L : Hp} {m : Nat} (h0 : wkE [0, 5, 7, 8] 0 env = (e23 s dir p0 n 0).map (renV (rn [0, 1, 2] 0))) (hm0 : MemP (rn [0, 1, 2] 0) L (h23 s dir p0 n 0)) :
    Ex Tryd.prog 0 (.loop ((Tryd.f23.body.bind fstLoop).getD .skip)) env m L (One (.exit 0) (sp 90 [(0, sV s), (5, iN (got s dir p0 n).2), (7, sV []), (8, (.s (.sla 1 2 (got s dir p0 n).1.length)))]) 3 [(1, some (zB (got s dir p0 n).1 2))]) := by
  obtain ⟨k, rfl⟩ : ∃ k, n = k + 1 := ⟨n - 1, by omega⟩
  refine Ex.movesT hm [0, 5, 7, 8] (k + 1) (e23 s dir p0 (k + 1)) (h23 s dir p0 (k + 1)) [0, 1, 2] (fun _ => [0, 5, 6]) rfl (fun _ => rfl) h0 hm0 rfl (fun _ => rfl) (fun j hj => r23 s dir p0 (k + 1) hs hp hn hd j hj fun i hi => h i (by omega)) [0, 5, 7, 8] [0, 1, 2] rfl (fun e => by cases e) rfl ?_
  have := ds_z s (got s dir p0 (k + 1)).2 (got s dir p0 (k + 1)).1
  show Lst _ _ _ _ _ (sp 90 [(0, sV s), (5, iN (got s dir p0 (k + 1)).2), (7, sV (dir.drop (4 * (k + 1)))), (8, (.s (.sla 1 2 (got s dir p0 (k + 1)).1.length)))]) _ _ _ _ _
  rw [List.drop_eq_nil_of_le (by omega : dir.length ≤ 4 * (k + 1))]
  exact this
theorem b23 (s dir : By) (p0 n : Nat) (hs : s.length < 9223372036854775808) (hp : p0 ≤ s.length) (hn : n ≤ 16) (hd : dir.length = 4 * n) (k : Nat) (hk : k < n) (h : ∀ i, i < k → errJ s dir p0 i = 0) (hb : errJ s dir p0 k ≠ 0) {env : List V} {L : Hp} {m : Nat} (h0 : wkE [0, 5, 7, 8] 0 env = (e23 s dir p0 n 0).map (renV (rn [0, 1, 2] 0))) (hm0 : MemP (rn [0, 1, 2] 0) L (h23 s dir p0 n 0)) :
    Ex Tryd.prog 0 (.loop ((Tryd.f23.body.bind fstLoop).getD .skip)) env m L (One .ret (sp 90 [(2, .s (.slc none 0 (some 0))), (3, .s (.int .i64 ((errJ s dir p0 k : Nat) : Int)))]) 0 []) := by
  refine Ex.movesT hm [0, 5, 7, 8] k (e23 s dir p0 n) (h23 s dir p0 n) [0, 1, 2] (fun _ => [0, 5, 6]) rfl (fun _ => rfl) h0 hm0 rfl (fun _ => rfl) (fun j hj => r23 s dir p0 n hs hp hn hd j (by omega) fun i hi => h i (by omega)) [2, 3] [] rfl (fun e => by cases e) rfl ?_
  obtain ⟨q1, q2⟩ := got_inv hp k h
  have hdl : (dir.drop (4 * k)).length = dir.length - 4 * k := List.length_drop
  cases k with
  | zero =>
    rcases one_bad (show (one s dir p0).1 ≠ 0 from hb) with ⟨x1, x2⟩ | ⟨x1, x2, x3⟩ | ⟨x1, x2, x3, x4⟩
    · rw [show errJ s dir p0 0 = 3 from x2]; exact ds_ax1 s dir p0 hs (by omega) hp n x1
    · rw [show errJ s dir p0 0 = _ from x3]; exact ds_ax2 s dir p0 hs (by omega) hp n x1 x2
    · rw [show errJ s dir p0 0 = 3 from x4]; exact ds_ax3 s dir p0 hs (by omega) hp n x1 x2 x3
  | succ k =>
    rcases one_bad (show (one s (dir.drop (4 * (k + 1))) (got s dir p0 (k + 1)).2).1 ≠ 0 from hb) with ⟨x1, x2⟩ | ⟨x1, x2, x3⟩ | ⟨x1, x2, x3, x4⟩
    · rw [show errJ s dir p0 (k + 1) = 3 from x2]; exact ds_bx1 s _ _ hs (by omega) q2 _ x1
    · rw [show errJ s dir p0 (k + 1) = _ from x3]; exact ds_bx2 s _ _ hs (by omega) q2 _ x1 x2
    · rw [show errJ s dir p0 (k + 1) = 3 from x4]; exact ds_bx3 s _ _ hs (by omega) q2 _ x1 x2 x3
def e33 (s : By) (T : Tb) (p0 k : Nat) : Nat → List V
  | 0 => (sp 96 [(0, sV s), (4, .s (.ptr (some (0, 0)))), (5, iN p0), (7, iN k), (8, (.s (.slc none 0 (some 0)))), (9, iN 0)])
  | j + 1 => (sp 96 [(0, sV s), (4, .s (.ptr (some (0, 0)))), (5, iN (got s T.bd p0 (j + 1)).2), (7, iN k), (8, (.s (.sla 1 2 (got s T.bd p0 (j + 1)).1.length))), (9, iN (j + 1))])
def h33 (s : By) (T : Tb) (p0 k : Nat) : Nat → Hp
  | 0 => [(0, some (bxT2 T))]
  | j + 1 => [(0, some (bxT2 T)), (1, some (zB (got s T.bd p0 (j + 1)).1 2))]
theorem r33 (s : By) (T : Tb) (p0 k : Nat) (hs : s.length < 9223372036854775808) (hp : p0 ≤ s.length) (hn : k ≤ 16) (hd : T.bd.length = 4 * k) (j : Nat) (hj : j < k) (h : ∀ i, i < j + 1 → errJ s T.bd p0 i = 0) :
    Rnd Tryd.prog 0 ((Tryd.f33.body.bind fstLoop).getD .skip) [0, 5, 6] [0, 4, 5, 7, 8, 9] (e33 s T p0 k j) 3 (h33 s T p0 k j) (e33 s T p0 k (j + 1)) (h33 s T p0 k (j + 1)) := by
  obtain ⟨q1, q2⟩ := got_inv hp j fun i hi => h i (by omega)
  have hj0 := h j (by omega)
  have hg := got_succ hj0
  have hdl : (T.bd.drop (4 * j)).length = T.bd.length - 4 * j := List.length_drop
  cases j with
  | zero =>
    have := rs_a s T.bd p0 hs (by omega) hp T k 0 hn hj hd rfl hj0
    show Rnd _ _ _ _ _ _ _ _ (sp 96 [(0, sV s), (4, .s (.ptr (some (0, 0)))), (5, iN (got s T.bd p0 (0 + 1)).2), (7, iN k), (8, (.s (.sla 1 2 (got s T.bd p0 (0 + 1)).1.length))), (9, iN (0 + 1))]) [(0, some (bxT2 T)), (1, some (zB (got s T.bd p0 (0 + 1)).1 2))]
    rw [hg]
    exact this
  | succ j =>
    have := rs_b s (T.bd.drop (4 * (j + 1))) (got s T.bd p0 (j + 1)).2 hs (by omega) q2 T k (j + 1) hn hj hd rfl (got s T.bd p0 (j + 1)).1 (by omega) hj0
    show Rnd _ _ _ _ _ _ _ _ (sp 96 [(0, sV s), (4, .s (.ptr (some (0, 0)))), (5, iN (got s T.bd p0 (j + 1 + 1)).2), (7, iN k), (8, (.s (.sla 1 2 (got s T.bd p0 (j + 1 + 1)).1.length))), (9, iN (j + 1 + 1))]) [(0, some (bxT2 T)), (1, some (zB (got s T.bd p0 (j + 1 + 1)).1 2))]
    rw [hg]
    exact this
theorem l33 (s : By) (T : Tb) (p0 k : Nat) (hs : s.length < 9223372036854775808) (hp : p0 ≤ s.length) (hn : k ≤ 16) (h1 : 1 ≤ k) (hd : T.bd.length = 4 * k) (h : ∀ i, i < k → errJ s T.bd p0 i = 0) {env : List V} {L : Hp} {m : Nat} (h0 : wkE [0, 4, 5, 7, 8, 9] 0 env = (e33 s T p0 k 0).map (renV (rn [0, 1, 2] 0))) (hm0 : MemP (rn [0, 1, 2] 0) L (h33 s T p0 k 0)) :
    Ex Tryd.prog 0 (.loop ((Tryd.f33.body.bind fstLoop).getD .skip)) env m L (One (.exit 0) (sp 96 [(0, sV s), (4, .s (.ptr (some (0, 0)))), (5, iN (got s T.bd p0 k).2), (7, iN k), (8, (.s (.sla 1 2 (got s T.bd p0 k).1.length))), (9, iN k)]) 3 [(0, some (bxT2 T)), (1, some (zB (got s T.bd p0 k).1 2))]) := by
  obtain ⟨i, rfl⟩ : ∃ i, k = i + 1 := ⟨k - 1, by omega⟩
  exact Ex.movesT hm [0, 4, 5, 7, 8, 9] (i + 1) (e33 s T p0 (i + 1)) (h33 s T p0 (i + 1)) [0, 1, 2] (fun _ => [0, 5, 6]) rfl (fun _ => rfl) h0 hm0 rfl (fun _ => rfl) (fun j hj => r33 s T p0 (i + 1) hs hp hn hd j hj fun u hu => h u (by omega)) [0, 4, 5, 7, 8, 9] [0, 1, 2] rfl (fun e => by cases e) rfl (rs_z s T (i + 1) (got s T.bd p0 (i + 1)).2 (got s T.bd p0 (i + 1)).1)
theorem b33 (s : By) (T : Tb) (p0 k : Nat) (hs : s.length < 9223372036854775808) (hp : p0 ≤ s.length) (hn : k ≤ 16) (hd : T.bd.length = 4 * k) (i : Nat) (hk : i < k) (h : ∀ u, u < i → errJ s T.bd p0 u = 0) (hb : errJ s T.bd p0 i ≠ 0) {env : List V} {L : Hp} {m : Nat} (h0 : wkE [0, 4, 5, 7, 8, 9] 0 env = (e33 s T p0 k 0).map (renV (rn [0, 1, 2] 0))) (hm0 : MemP (rn [0, 1, 2] 0) L (h33 s T p0 k 0)) :
    Ex Tryd.prog 0 (.loop ((Tryd.f33.body.bind fstLoop).getD .skip)) env m L (One .ret (sp 96 [(2, .s (.slc none 0 (some 0))), (3, .s (.int .i64 ((errJ s T.bd p0 i : Nat) : Int)))]) 0 []) := by
  refine Ex.movesT hm [0, 4, 5, 7, 8, 9] i (e33 s T p0 k) (h33 s T p0 k) [0, 1, 2] (fun _ => [0, 5, 6]) rfl (fun _ => rfl) h0 hm0 rfl (fun _ => rfl) (fun j hj => r33 s T p0 k hs hp hn hd j (by omega) fun u hu => h u (by omega)) [2, 3] [] rfl (fun e => by cases e) rfl ?_
  obtain ⟨q1, q2⟩ := got_inv hp i h
  have hdl : (T.bd.drop (4 * i)).length = T.bd.length - 4 * i := List.length_drop
  cases i with
  | zero =>
    rcases one_bad (show (one s T.bd p0).1 ≠ 0 from hb) with ⟨x1, x2⟩ | ⟨x1, x2, x3⟩ | ⟨x1, x2, x3, x4⟩
    · rw [show errJ s T.bd p0 0 = 3 from x2]; exact rs_ax1 s T.bd p0 hs (by omega) hp T k 0 hn hk hd rfl x1
    · rw [show errJ s T.bd p0 0 = _ from x3]; exact rs_ax2 s T.bd p0 hs (by omega) hp T k 0 hn hk hd rfl x1 x2
    · rw [show errJ s T.bd p0 0 = 3 from x4]; exact rs_ax3 s T.bd p0 hs (by omega) hp T k 0 hn hk hd rfl x1 x2 x3
  | succ i =>
    rcases one_bad (show (one s (T.bd.drop (4 * (i + 1))) (got s T.bd p0 (i + 1)).2).1 ≠ 0 from hb) with ⟨x1, x2⟩ | ⟨x1, x2, x3⟩ | ⟨x1, x2, x3, x4⟩
    · rw [show errJ s T.bd p0 (i + 1) = 3 from x2]; exact rs_bx1 s _ _ hs (by omega) q2 T k (i + 1) hn hk hd rfl _ x1
    · rw [show errJ s T.bd p0 (i + 1) = _ from x3]; exact rs_bx2 s _ _ hs (by omega) q2 T k (i + 1) hn hk hd rfl _ x1 x2
    · rw [show errJ s T.bd p0 (i + 1) = 3 from x4]; exact rs_bx3 s _ _ hs (by omega) q2 T k (i + 1) hn hk hd rfl _ x1 x2 x3

end Go.Proofs.YtmkemodgbhaglaaDoor
