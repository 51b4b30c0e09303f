/-
  EcTransactionsMatchModel: a round.
-/
import Derived.Test.YtimebhllnemnbaaRj
import Derived.Test.YtimebhllnemnbaaRd
import Derived.Test.YtimebhllnemnbaaRf
import Derived.Test.YtimebhllnemnbaaRg
import Derived.Test.YtimebhllnemnbaaRh
import Derived.Test.YtimebhllnemnbaaRi
set_option linter.unusedSimpArgs false
set_option linter.unusedVariables false
namespace Go.Proofs.Ytimebhllnemnbaa
open Go Ab
set_option maxRecDepth 100000

theorem keys_app (A B : Hp) : keys (A ++ B) = keys A ++ keys B := by simp [keys]
theorem apart_by {L F : Hp} (h : ∀ i ∈ keys F, i ∉ keys L) : apart L F = true := by
  unfold apart
  rw [List.all_eq_true]
  intro i hi
  cases he : (keys L).elem i with
  | false => rfl
  | true => exact absurd (List.elem_iff.1 he) (h i hi)
theorem apart_nil (F : Hp) : apart [] F = true := apart_by fun i _ => by simp [keys]
theorem co_ok (s : Sx) : okH 24 (co s) = true := by
  obtain ⟨c, o, now, v, ts⟩ := s
  cases v <;> rfl
theorem co_keys (s : Sx) : ∀ i ∈ keys (co s), i = 2 ∨ i = 3 ∨ (20 ≤ i ∧ i < 24) := by
  obtain ⟨c, o, now, v, ts⟩ := s
  cases v <;> intro i hi
  · simp [co, coN, keys] at hi; omega
  · simp [co, coQ, keys] at hi; omega

/-! ### kinds in form A -/
theorem okT_A (v tm m : Nat) (ty1 : TypeId) (f : Nat → OpV) (i : Nat) (x : OpV) (c : Cq) (o now : Nat) (vv : Bool) (ts : List Tx) (hlen : ts.length ≤ 6) (hts : ts = []) : okH 24 ([(1, some (bOp ty1 f m))] ++ (co ⟨c, o, now, vv, ts⟩ ++ TH ts)) = true := okH_app rfl (okH_app (co_ok _) (okH_up (by decide) (th_ok hlen)))
theorem okR_A (v tm m : Nat) (ty1 : TypeId) (f : Nat → OpV) (i : Nat) (x : OpV) (c : Cq) (o now : Nat) (vv : Bool) (ts : List Tx) (hlen : ts.length ≤ 6) (hts : ts = []) : okH 24 (co ⟨c, o, now, vv, ts⟩ ++ ([(1, some (bOp ty1 f m))] ++ TH ts)) = true := okH_app (co_ok _) (okH_app rfl (okH_up (by decide) (th_ok hlen)))
theorem apR_A (v tm m : Nat) (ty1 : TypeId) (f : Nat → OpV) (i : Nat) (x : OpV) (c : Cq) (o now : Nat) (vv : Bool) (ts : List Tx) (hlen : ts.length ≤ 6) (hts : ts = []) : apart [(24, some (opB x))] (co ⟨c, o, now, vv, ts⟩ ++ ([(1, some (bOp ty1 f m))] ++ TH ts)) = true := apart_by fun i hi => by
  rw [keys_app, keys_app, List.mem_append, List.mem_append] at hi
  have h1 : i < 24 := by
    rcases hi with hi | hi | hi
    · have := co_keys _ i hi; omega
    · simp [keys] at hi; omega
    · have := th_keys hlen i hi; omega
  simp [keys]; omega
theorem apA_A (v tm m : Nat) (ty1 : TypeId) (f : Nat → OpV) (i : Nat) (x : OpV) (c : Cq) (o now : Nat) (vv : Bool) (ts : List Tx) (hlen : ts.length ≤ 6) (hts : ts = []) : apart [(1, some (bOp ty1 f m))] (co ⟨c, o, now, vv, ts⟩ ++ TH ts) = true := apart_by fun i hi => by
  rw [keys_app, List.mem_append] at hi
  have h1 : 2 ≤ i := by
    rcases hi with hi | hi
    · have := co_keys _ i hi; omega
    · have := th_keys hlen i hi; omega
  simp [keys]; omega
theorem apS_A (v tm m : Nat) (ty1 : TypeId) (f : Nat → OpV) (i : Nat) (x : OpV) (c : Cq) (o now : Nat) (vv : Bool) (ts : List Tx) (hlen : ts.length ≤ 6) (hts : ts = []) : apart [(1, some (bOp ty1 f m))] ([(24, some (opB x))] ++ co ⟨c, o, now, vv, ts⟩) = true := by cases vv <;> rfl
theorem apC_A (v tm m : Nat) (ty1 : TypeId) (f : Nat → OpV) (i : Nat) (x : OpV) (c : Cq) (o now : Nat) (vv : Bool) (ts : List Tx) (hlen : ts.length ≤ 6) (hts : ts = []) : apart [(1, some (bOp ty1 f m))] (co ⟨c, o, now, vv, ts⟩) = true := by cases vv <;> rfl
theorem tA_A (v tm m : Nat) (ty1 : TypeId) (f : Nat → OpV) (i : Nat) (x : OpV) (c : Cq) (o now : Nat) (vv : Bool) (ts : List Tx) (hlen : ts.length ≤ 6) (hts : ts = []) (hi : i < m) (h8 : i < 80) : Ex Try.prog 2 (sub [0] ((Try.f8.body.bind fstLoop).getD .skip)) (e9 (.s (.slc none 0 (some 0))) v tm (.s (.slc (some (1, 0)) m none)) (va (ts : List Tx).length) (vb (ts : List Tx).length) now i) 24 ([(1, some (bOp ty1 f m))] ++ (co ⟨c, o, now, vv, ts⟩ ++ TH ts)) (One .normal (e9 (.s (.slc none 0 (some 0))) v tm (.s (.slc (some (1, 0)) m none)) (va (ts : List Tx).length) (vb (ts : List Tx).length) now i) 24 ([(1, some (bOp ty1 f m))] ++ (co ⟨c, o, now, vv, ts⟩ ++ TH ts))) := by
  subst hts
  exact ((pA_A0 v tm m ty1 f now i x hi h8).framed ([(1, some (bOp ty1 f m))] ++ (co ⟨c, o, now, vv, []⟩ ++ TH [])) (okT_A v tm m ty1 f i x c o now vv [] hlen rfl) (apart_nil _)).less (by decide) (by decide)
theorem tX1_A (v tm m : Nat) (ty1 : TypeId) (f : Nat → OpV) (i : Nat) (x : OpV) (c : Cq) (o now : Nat) (vv : Bool) (ts : List Tx) (hlen : ts.length ≤ 6) (hts : ts = []) (hi : ¬ i < m) : Ex Try.prog 2 (sub [0] ((Try.f8.body.bind fstLoop).getD .skip)) (e9 (.s (.slc none 0 (some 0))) v tm (.s (.slc (some (1, 0)) m none)) (va (ts : List Tx).length) (vb (ts : List Tx).length) now i) 24 ([(1, some (bOp ty1 f m))] ++ (co ⟨c, o, now, vv, ts⟩ ++ TH ts)) (One (.exit 0) (e9 (.s (.slc none 0 (some 0))) v tm (.s (.slc (some (1, 0)) m none)) (va (ts : List Tx).length) (vb (ts : List Tx).length) now i) 24 ([(1, some (bOp ty1 f m))] ++ (co ⟨c, o, now, vv, ts⟩ ++ TH ts))) := by
  subst hts
  exact ((pX1_A0 v tm m ty1 f now i x hi).framed ([(1, some (bOp ty1 f m))] ++ (co ⟨c, o, now, vv, []⟩ ++ TH [])) (okT_A v tm m ty1 f i x c o now vv [] hlen rfl) (apart_nil _)).less (by decide) (by decide)
theorem tX2_A (v tm m : Nat) (ty1 : TypeId) (f : Nat → OpV) (i : Nat) (x : OpV) (c : Cq) (o now : Nat) (vv : Bool) (ts : List Tx) (hlen : ts.length ≤ 6) (hts : ts = []) (hi : i < m) (h8 : ¬ i < 80) : Ex Try.prog 2 (sub [0] ((Try.f8.body.bind fstLoop).getD .skip)) (e9 (.s (.slc none 0 (some 0))) v tm (.s (.slc (some (1, 0)) m none)) (va (ts : List Tx).length) (vb (ts : List Tx).length) now i) 24 ([(1, some (bOp ty1 f m))] ++ (co ⟨c, o, now, vv, ts⟩ ++ TH ts)) (One (.exit 0) (e9 (.s (.slc none 0 (some 0))) v tm (.s (.slc (some (1, 0)) m none)) (va (ts : List Tx).length) (vb (ts : List Tx).length) now i) 24 ([(1, some (bOp ty1 f m))] ++ (co ⟨c, o, now, vv, ts⟩ ++ TH ts))) := by
  subst hts
  exact ((pX2_A0 v tm m ty1 f now i x hi h8).framed ([(1, some (bOp ty1 f m))] ++ (co ⟨c, o, now, vv, []⟩ ++ TH [])) (okT_A v tm m ty1 f i x c o now vv [] hlen rfl) (apart_nil _)).less (by decide) (by decide)
theorem tR12_A (v tm m : Nat) (ty1 : TypeId) (f : Nat → OpV) (i : Nat) (x : OpV) (c : Cq) (o now : Nat) (vv : Bool) (ts : List Tx) (hlen : ts.length ≤ 6) (hts : ts = []) (hi : i < m) (hx : f i = x) : Ex Try.prog 2 (sub [1, 0, 0, 0] ((Try.f8.body.bind fstLoop).getD .skip)) (e9 (.s (.slc none 0 (some 0))) v tm (.s (.slc (some (1, 0)) m none)) (va (ts : List Tx).length) (vb (ts : List Tx).length) now i) 24 ([(1, some (bOp ty1 f m))] ++ (co ⟨c, o, now, vv, ts⟩ ++ TH ts)) (One .normal (f9 (.s (.slc none 0 (some 0))) v tm (.s (.slc (some (1, 0)) m none)) (va (ts : List Tx).length) (vb (ts : List Tx).length) now i) 25 ([(24, some (opB x))] ++ (co ⟨c, o, now, vv, ts⟩ ++ ([(1, some (bOp ty1 f m))] ++ TH ts)))) := by
  subst hts
  exact Ex.perm (((pR12_A0 v tm m ty1 f now i x hi hx).framed (co ⟨c, o, now, vv, []⟩ ++ TH []) (okH_app (co_ok _) (okH_up (by decide) (th_ok hlen))) (apA_A v tm m ty1 f i x c o now vv [] hlen rfl)).less (by decide) (by decide)) (fun _ => rfl) (fun i => lk_swap (apS_A v tm m ty1 f i x c o now vv [] hlen rfl) i)
theorem tR13_A (v tm m : Nat) (ty1 : TypeId) (f : Nat → OpV) (i : Nat) (x : OpV) (c : Cq) (o now : Nat) (vv : Bool) (ts : List Tx) (hlen : ts.length ≤ 6) (hts : ts = []) (ht : now + x.p % 3 < 2 ^ 64) : Ex Try.prog 2 (sub [1, 0, 0, 1, 0] ((Try.f8.body.bind fstLoop).getD .skip)) (f9 (.s (.slc none 0 (some 0))) v tm (.s (.slc (some (1, 0)) m none)) (va (ts : List Tx).length) (vb (ts : List Tx).length) now i) 25 ([(24, some (opB x))] ++ (co ⟨c, o, now, vv, ts⟩ ++ ([(1, some (bOp ty1 f m))] ++ TH ts))) (One .normal (f9 (.s (.slc none 0 (some 0))) v tm (.s (.slc (some (1, 0)) m none)) (va (ts : List Tx).length) (vb (ts : List Tx).length) (now + x.p % 3) i) 25 ([(24, some (opB x))] ++ (co ⟨c, o, (now + x.p % 3), vv, ts⟩ ++ ([(1, some (bOp ty1 f m))] ++ TH ts)))) := by
  subst hts
  exact ((pR13_A0 v tm m ty1 f now i x ht).framed (co ⟨c, o, now, vv, []⟩ ++ ([(1, some (bOp ty1 f m))] ++ TH [])) (okR_A v tm m ty1 f i x c o now vv [] hlen rfl) (apR_A v tm m ty1 f i x c o now vv [] hlen rfl)).less (by decide) (by decide)
theorem tR11_A (v tm m : Nat) (ty1 : TypeId) (f : Nat → OpV) (i : Nat) (x : OpV) (c : Cq) (o now : Nat) (vv : Bool) (ts : List Tx) (hlen : ts.length ≤ 6) (hts : ts = []) (h8 : i < 80) : Ex Try.prog 2 (sub [1, 1] ((Try.f8.body.bind fstLoop).getD .skip)) (f9 (.s (.slc none 0 (some 0))) v tm (.s (.slc (some (1, 0)) m none)) (va (ts : List Tx).length) (vb (ts : List Tx).length) now i) 25 ([(24, some (opB x))] ++ (co ⟨c, o, now, vv, ts⟩ ++ ([(1, some (bOp ty1 f m))] ++ TH ts))) (One .normal (e9 (.s (.slc none 0 (some 0))) v tm (.s (.slc (some (1, 0)) m none)) (va (ts : List Tx).length) (vb (ts : List Tx).length) now (i + 1)) 24 ([(1, some (bOp ty1 f m))] ++ (co ⟨c, o, now, vv, ts⟩ ++ TH ts))) := by
  subst hts
  exact Ex.perm (((pR11_A0 v tm m ty1 f now i x h8).framed (co ⟨c, o, now, vv, []⟩ ++ ([(1, some (bOp ty1 f m))] ++ TH [])) (okR_A v tm m ty1 f i x c o now vv [] hlen rfl) (apR_A v tm m ty1 f i x c o now vv [] hlen rfl)).less (by decide) (by decide)) (fun _ => rfl) (fun i => (lk_swap (apC_A v tm m ty1 f i x c o now vv [] hlen rfl) i).symm)
theorem tS1_A (v tm m : Nat) (ty1 : TypeId) (f : Nat → OpV) (i : Nat) (x : OpV) (c : Cq) (o now : Nat) (vv : Bool) (ts : List Tx) (hlen : ts.length ≤ 6) (hts : ts = []) (kd : Nat) : Ex Try.prog 2 (sub [1, 0, 0, 1, 1, 0] ((Try.f8.body.bind fstLoop).getD .skip)) (f9 (.s (.slc none 0 (some 0))) v tm (.s (.slc (some (1, 0)) m none)) (va (ts : List Tx).length) (vb (ts : List Tx).length) now i) 25 ([(24, some (opB x))] ++ (co ⟨c, o, now, vv, ts⟩ ++ ([(1, some (bOp ty1 f m))] ++ TH ts))) (One .normal (f9 (.s (.slc none 0 (some 0))) v tm (.s (.slc (some (1, 0)) m none)) (va (s1F ⟨c, o, now, vv, ts⟩ x tm 0 i kd).ts.length) (vb (s1F ⟨c, o, now, vv, ts⟩ x tm 0 i kd).ts.length) (s1F ⟨c, o, now, vv, ts⟩ x tm 0 i kd).now i) 25 ([(24, some (opB x))] ++ (co (s1F ⟨c, o, now, vv, ts⟩ x tm 0 i kd) ++ ([(1, some (bOp ty1 f m))] ++ TH (s1F ⟨c, o, now, vv, ts⟩ x tm 0 i kd).ts)))) := by
  have e : s1F ⟨c, o, now, vv, ts⟩ x tm 0 i kd = ⟨c, o, now, vv, ts⟩ := by simp [s1F]
  rw [e]
  subst hts
  exact ((pS1_A0 v tm m ty1 f now i x ).framed ([(24, some (opB x))] ++ (co ⟨c, o, now, vv, []⟩ ++ ([(1, some (bOp ty1 f m))] ++ TH []))) (okH_app (L := [(24, some (opB x))]) rfl (okH_up (a := 24) (by decide) (okR_A v tm m ty1 f i x c o now vv [] hlen rfl))) (apart_nil _)).less (by decide) (by decide)
theorem apON_A (ty1 : TypeId) (f : Nat → OpV) (m : Nat) (x : OpV) (c : Cq) (o : Nat) (ts : List Tx) (hlen : ts.length ≤ 6) : apart ([(24, some (opB x))] ++ coN c o) ([(1, some (bOp ty1 f m))] ++ TH ts) = true := apart_by fun i hi => by
  rw [keys_app, List.mem_append] at hi
  have h1 : i = 0 ∨ i = 1 ∨ (4 ≤ i ∧ i < 20) := by
    rcases hi with hi | hi
    · simp [keys] at hi; omega
    · have := th_keys hlen i hi; omega
  simp [keys, coN]; omega
theorem apOQ_A (ty1 : TypeId) (f : Nat → OpV) (m : Nat) (x : OpV) (c : Cq) (o : Nat) (ts : List Tx) (hlen : ts.length ≤ 6) : apart ([(24, some (opB x))] ++ coQ c o) ([(1, some (bOp ty1 f m))] ++ TH ts) = true := apart_by fun i hi => by
  rw [keys_app, List.mem_append] at hi
  have h1 : i = 0 ∨ i = 1 ∨ (4 ≤ i ∧ i < 20) := by
    rcases hi with hi | hi
    · simp [keys] at hi; omega
    · have := th_keys hlen i hi; omega
  simp [keys, coQ]; omega
theorem tS2_A (v tm m : Nat) (ty1 : TypeId) (f : Nat → OpV) (i : Nat) (x : OpV) (c : Cq) (o now : Nat) (vv : Bool) (ts : List Tx) (hlen : ts.length ≤ 6) (hts : ts = []) (h : c.ok) (hn : now < 2 ^ 64) (hq : vv = false → c.q = []) : Ex Try.prog 2 (sub [1, 0, 0, 1, 1, 1, 0] ((Try.f8.body.bind fstLoop).getD .skip)) (f9 (.s (.slc none 0 (some 0))) v tm (.s (.slc (some (1, 0)) m none)) (va (ts : List Tx).length) (vb (ts : List Tx).length) now i) 25 ([(24, some (opB x))] ++ (co ⟨c, o, now, vv, ts⟩ ++ ([(1, some (bOp ty1 f m))] ++ TH ts))) (One .normal (f9 (.s (.slc none 0 (some 0))) v tm (.s (.slc (some (1, 0)) m none)) (va (s2F ⟨c, o, now, vv, ts⟩ x v).ts.length) (vb (s2F ⟨c, o, now, vv, ts⟩ x v).ts.length) (s2F ⟨c, o, now, vv, ts⟩ x v).now i) 25 ([(24, some (opB x))] ++ (co (s2F ⟨c, o, now, vv, ts⟩ x v) ++ ([(1, some (bOp ty1 f m))] ++ TH (s2F ⟨c, o, now, vv, ts⟩ x v).ts)))) := by
  by_cases h7 : Int.tmod x.k 7 = 6
  · rw [show s2F ⟨c, o, now, vv, ts⟩ x v = ⟨wrtq c now (v % 4) false, o, now, vv, ts⟩ by simp only [s2F, if_pos h7]]
    cases vv with
    | false =>
      subst hts
      exact ((pS2y_A0N v tm m ty1 f now i x c o h hn (hq rfl) h7).framed ([(1, some (bOp ty1 f m))] ++ TH []) (okH_app rfl (th_ok hlen)) (apON_A ty1 f m x c o [] hlen)).less (by decide) (by decide)
    | true =>
      subst hts
      exact ((pS2y_A0Q v tm m ty1 f now i x c o h hn h7).framed ([(1, some (bOp ty1 f m))] ++ TH []) (okH_app rfl (th_ok hlen)) (apOQ_A ty1 f m x c o [] hlen)).less (by decide) (by decide)
  · rw [show s2F ⟨c, o, now, vv, ts⟩ x v = ⟨c, o, now, vv, ts⟩ by simp only [s2F, if_neg h7]]
    subst hts
    exact ((pS2n_A0 v tm m ty1 f now i x h7).framed (co ⟨c, o, now, vv, []⟩ ++ ([(1, some (bOp ty1 f m))] ++ TH [])) (okR_A v tm m ty1 f i x c o now vv [] hlen rfl) (apR_A v tm m ty1 f i x c o now vv [] hlen rfl)).less (by decide) (by decide)
theorem tS3_A (v tm m : Nat) (ty1 : TypeId) (f : Nat → OpV) (i : Nat) (x : OpV) (c : Cq) (o now : Nat) (vv : Bool) (ts : List Tx) (hlen : ts.length ≤ 6) (hts : ts = []) (h : c.ok) (hq : vv = false → c.q = []) : Ex Try.prog 2 (sub [1, 0, 0, 1, 1, 1, 1, 0] ((Try.f8.body.bind fstLoop).getD .skip)) (f9 (.s (.slc none 0 (some 0))) v tm (.s (.slc (some (1, 0)) m none)) (va (ts : List Tx).length) (vb (ts : List Tx).length) now i) 25 ([(24, some (opB x))] ++ (co ⟨c, o, now, vv, ts⟩ ++ ([(1, some (bOp ty1 f m))] ++ TH ts))) (One .normal (f9 (.s (.slc none 0 (some 0))) v tm (.s (.slc (some (1, 0)) m none)) (va (s3F ⟨c, o, now, vv, ts⟩ x v).ts.length) (vb (s3F ⟨c, o, now, vv, ts⟩ x v).ts.length) (s3F ⟨c, o, now, vv, ts⟩ x v).now i) 25 ([(24, some (opB x))] ++ (co (s3F ⟨c, o, now, vv, ts⟩ x v) ++ ([(1, some (bOp ty1 f m))] ++ TH (s3F ⟨c, o, now, vv, ts⟩ x v).ts)))) := by
  by_cases h5 : Int.tmod x.k 5 = 4
  · rw [show s3F ⟨c, o, now, vv, ts⟩ x v = ⟨raiq c (1 + v % 8), o, now, true, ts⟩ by simp only [s3F, if_pos h5]]
    cases vv with
    | false =>
      rw [show raiq c (1 + v % 8) = { c with q := [1 + v % 8] } by simp only [raiq]; rw [if_neg (by omega), hq rfl]; rfl]
      subst hts
      exact ((pS3y_A0N v tm m ty1 f now i x c o h (hq rfl) h5).framed ([(1, some (bOp ty1 f m))] ++ TH []) (okH_app rfl (th_ok hlen)) (apON_A ty1 f m x c o [] hlen)).less (by decide) (by decide)
    | true =>
      subst hts
      exact ((pS3y_A0Q v tm m ty1 f now i x c o h h5).framed ([(1, some (bOp ty1 f m))] ++ TH []) (okH_app rfl (th_ok hlen)) (apOQ_A ty1 f m x c o [] hlen)).less (by decide) (by decide)
  · rw [show s3F ⟨c, o, now, vv, ts⟩ x v = ⟨c, o, now, vv, ts⟩ by simp only [s3F, if_neg h5]]
    subst hts
    exact ((pS3n_A0 v tm m ty1 f now i x h5).framed (co ⟨c, o, now, vv, []⟩ ++ ([(1, some (bOp ty1 f m))] ++ TH [])) (okR_A v tm m ty1 f i x c o now vv [] hlen rfl) (apR_A v tm m ty1 f i x c o now vv [] hlen rfl)).less (by decide) (by decide)
theorem tS4_A (v tm m : Nat) (ty1 : TypeId) (f : Nat → OpV) (i : Nat) (x : OpV) (c : Cq) (o now : Nat) (vv : Bool) (ts : List Tx) (hlen : ts.length ≤ 6) (hts : ts = []) (h : c.ok) (hn : now < 2 ^ 64) (hq : vv = false → c.q = []) (hts6 : ∀ y ∈ ts, y.ok) : Ex Try.prog 2 (sub [1, 0, 0, 1, 1, 1, 1, 1] ((Try.f8.body.bind fstLoop).getD .skip)) (f9 (.s (.slc none 0 (some 0))) v tm (.s (.slc (some (1, 0)) m none)) (va (ts : List Tx).length) (vb (ts : List Tx).length) now i) 25 ([(24, some (opB x))] ++ (co ⟨c, o, now, vv, ts⟩ ++ ([(1, some (bOp ty1 f m))] ++ TH ts))) (One .normal (f9 (.s (.slc none 0 (some 0))) v tm (.s (.slc (some (1, 0)) m none)) (va (s4F ⟨c, o, now, vv, ts⟩ x).ts.length) (vb (s4F ⟨c, o, now, vv, ts⟩ x).ts.length) (s4F ⟨c, o, now, vv, ts⟩ x).now i) 25 ([(24, some (opB x))] ++ (co (s4F ⟨c, o, now, vv, ts⟩ x) ++ ([(1, some (bOp ty1 f m))] ++ TH (s4F ⟨c, o, now, vv, ts⟩ x).ts)))) := by
  subst hts
  exact ((pS4n_A0 v tm m ty1 f now i x ).framed ([(24, some (opB x))] ++ (co ⟨c, o, now, vv, []⟩ ++ ([(1, some (bOp ty1 f m))] ++ TH []))) (okH_app (L := [(24, some (opB x))]) rfl (okH_up (a := 24) (by decide) (okR_A v tm m ty1 f i x c o now vv [] hlen rfl))) (apart_nil _)).less (by decide) (by decide)
theorem round_A (v tm m : Nat) (ty1 : TypeId) (f : Nat → OpV) (i : Nat) (x : OpV) (s : Sx) (kd : Nat) (h : s.ok i) (hi : i < m) (h8 : i < 80) (hxf : f i = x) (hx : x.ok) (htm : tm < 2 ^ 64) (hts : s.ts = []) :
    Ex Try.prog 2 ((Try.f8.body.bind fstLoop).getD .skip) (e9 (.s (.slc none 0 (some 0))) v tm (.s (.slc (some (1, 0)) m none)) (va s.ts.length) (vb s.ts.length) s.now i) 24 ([(1, some (bOp ty1 f m))] ++ (co s ++ TH s.ts)) (One .normal (e9 (.s (.slc none 0 (some 0))) v tm (.s (.slc (some (1, 0)) m none)) (va (rdF s x v tm 0 i kd).ts.length) (vb (rdF s x v tm 0 i kd).ts.length) (rdF s x v tm 0 i kd).now (i + 1)) 24 ([(1, some (bOp ty1 f m))] ++ (co (rdF s x v tm 0 i kd) ++ TH (rdF s x v tm 0 i kd).ts))) := by
  have hn0 := h.now
  have k0 := s0_ok (x := x) h
  have hn : (s0F s x).now < 2 ^ 64 := by have := k0.now; omega
  have k1 := s1_ok (x := x) (tm := tm) (nk := 0) (i := i) (kd := kd) k0 (by omega) hx htm
  have k2 := s2_ok (x := x) (v := v) k1 (by omega)
  have k3 := s3_ok (x := x) (v := v) k2
  have k4 := s4_ok (x := x) k3 (by omega)
  have z1 : (s1F (s0F s x) x tm 0 i kd).ts = [] := by unfold s1F; rw [if_neg (fun e => absurd e.1 (Nat.not_lt_zero _))]; exact hts
  have z2 : (s2F (s1F (s0F s x) x tm 0 i kd) x v).ts = [] := by unfold s2F; split <;> exact z1
  have z3 : (s3F (s2F (s1F (s0F s x) x tm 0 i kd) x v) x v).ts = [] := by unfold s3F; split <;> exact z2
  have z4 : (s4F (s3F (s2F (s1F (s0F s x) x tm 0 i kd) x v) x v) x).ts = [] := by unfold s4F; rw [z3]; exact z3
  have hA := tA_A v tm m ty1 f i x s.c s.o s.now s.v s.ts h.len hts hi h8
  have h12 := tR12_A v tm m ty1 f i x s.c s.o s.now s.v s.ts h.len hts hi hxf
  have h13 := tR13_A v tm m ty1 f i x s.c s.o s.now s.v s.ts h.len hts hn
  have h1 := tS1_A v tm m ty1 f i x (s0F s x).c (s0F s x).o (s0F s x).now (s0F s x).v (s0F s x).ts k0.len hts kd 
  have h2 := tS2_A v tm m ty1 f i x (s1F (s0F s x) x tm 0 i kd).c (s1F (s0F s x) x tm 0 i kd).o (s1F (s0F s x) x tm 0 i kd).now (s1F (s0F s x) x tm 0 i kd).v (s1F (s0F s x) x tm 0 i kd).ts k1.len z1 k1.c (by have := k1.now; omega) k1.q
  have h3 := tS3_A v tm m ty1 f i x (s2F (s1F (s0F s x) x tm 0 i kd) x v).c (s2F (s1F (s0F s x) x tm 0 i kd) x v).o (s2F (s1F (s0F s x) x tm 0 i kd) x v).now (s2F (s1F (s0F s x) x tm 0 i kd) x v).v (s2F (s1F (s0F s x) x tm 0 i kd) x v).ts k2.len z2 k2.c k2.q
  have h4 := tS4_A v tm m ty1 f i x (s3F (s2F (s1F (s0F s x) x tm 0 i kd) x v) x v).c (s3F (s2F (s1F (s0F s x) x tm 0 i kd) x v) x v).o (s3F (s2F (s1F (s0F s x) x tm 0 i kd) x v) x v).now (s3F (s2F (s1F (s0F s x) x tm 0 i kd) x v) x v).v (s3F (s2F (s1F (s0F s x) x tm 0 i kd) x v) x v).ts k3.len z3 k3.c (by have := k3.now; omega) k3.q k3.ts
  have h11 := tR11_A v tm m ty1 f i x (s4F (s3F (s2F (s1F (s0F s x) x tm 0 i kd) x v) x v) x).c (s4F (s3F (s2F (s1F (s0F s x) x tm 0 i kd) x v) x v) x).o (s4F (s3F (s2F (s1F (s0F s x) x tm 0 i kd) x v) x v) x).now (s4F (s3F (s2F (s1F (s0F s x) x tm 0 i kd) x v) x v) x).v (s4F (s3F (s2F (s1F (s0F s x) x tm 0 i kd) x v) x v) x).ts k4.len z4 h8
  exact Ex.cat hA (Ex.cat (Ex.blk (Ex.cat h12 (Ex.cat h13 (Ex.cat h1 (Ex.cat h2 (Ex.cat h3 h4)))))) h11)

/-! ### kinds in form E -/
theorem okT_E (v tm m : Nat) (ty1 : TypeId) (f : Nat → OpV) (i : Nat) (x : OpV) (c : Cq) (o now : Nat) (vv : Bool) (ts : List Tx) (hlen : ts.length ≤ 6) (hts : ts = []) : okH 24 ([(1, some (bOp ty1 f m))] ++ (co ⟨c, o, now, vv, ts⟩ ++ TH ts)) = true := okH_app rfl (okH_app (co_ok _) (okH_up (by decide) (th_ok hlen)))
theorem okR_E (v tm m : Nat) (ty1 : TypeId) (f : Nat → OpV) (i : Nat) (x : OpV) (c : Cq) (o now : Nat) (vv : Bool) (ts : List Tx) (hlen : ts.length ≤ 6) (hts : ts = []) : okH 24 (co ⟨c, o, now, vv, ts⟩ ++ ([(1, some (bOp ty1 f m))] ++ TH ts)) = true := okH_app (co_ok _) (okH_app rfl (okH_up (by decide) (th_ok hlen)))
theorem apR_E (v tm m : Nat) (ty1 : TypeId) (f : Nat → OpV) (i : Nat) (x : OpV) (c : Cq) (o now : Nat) (vv : Bool) (ts : List Tx) (hlen : ts.length ≤ 6) (hts : ts = []) : apart [(24, some (opB x))] (co ⟨c, o, now, vv, ts⟩ ++ ([(1, some (bOp ty1 f m))] ++ TH ts)) = true := apart_by fun i hi => by
  rw [keys_app, keys_app, List.mem_append, List.mem_append] at hi
  have h1 : i < 24 := by
    rcases hi with hi | hi | hi
    · have := co_keys _ i hi; omega
    · simp [keys] at hi; omega
    · have := th_keys hlen i hi; omega
  simp [keys]; omega
theorem apA_E (v tm m : Nat) (ty1 : TypeId) (f : Nat → OpV) (i : Nat) (x : OpV) (c : Cq) (o now : Nat) (vv : Bool) (ts : List Tx) (hlen : ts.length ≤ 6) (hts : ts = []) : apart [(1, some (bOp ty1 f m))] (co ⟨c, o, now, vv, ts⟩ ++ TH ts) = true := apart_by fun i hi => by
  rw [keys_app, List.mem_append] at hi
  have h1 : 2 ≤ i := by
    rcases hi with hi | hi
    · have := co_keys _ i hi; omega
    · have := th_keys hlen i hi; omega
  simp [keys]; omega
theorem apS_E (v tm m : Nat) (ty1 : TypeId) (f : Nat → OpV) (i : Nat) (x : OpV) (c : Cq) (o now : Nat) (vv : Bool) (ts : List Tx) (hlen : ts.length ≤ 6) (hts : ts = []) : apart [(1, some (bOp ty1 f m))] ([(24, some (opB x))] ++ co ⟨c, o, now, vv, ts⟩) = true := by cases vv <;> rfl
theorem apC_E (v tm m : Nat) (ty1 : TypeId) (f : Nat → OpV) (i : Nat) (x : OpV) (c : Cq) (o now : Nat) (vv : Bool) (ts : List Tx) (hlen : ts.length ≤ 6) (hts : ts = []) : apart [(1, some (bOp ty1 f m))] (co ⟨c, o, now, vv, ts⟩) = true := by cases vv <;> rfl
theorem tA_E (v tm m : Nat) (ty1 : TypeId) (f : Nat → OpV) (i : Nat) (x : OpV) (c : Cq) (o now : Nat) (vv : Bool) (ts : List Tx) (hlen : ts.length ≤ 6) (hts : ts = []) (hi : i < m) (h8 : i < 80) : Ex Try.prog 2 (sub [0] ((Try.f8.body.bind fstLoop).getD .skip)) (e9 (.s .emp) v tm (.s (.slc (some (1, 0)) m none)) (va (ts : List Tx).length) (vb (ts : List Tx).length) now i) 24 ([(1, some (bOp ty1 f m))] ++ (co ⟨c, o, now, vv, ts⟩ ++ TH ts)) (One .normal (e9 (.s .emp) v tm (.s (.slc (some (1, 0)) m none)) (va (ts : List Tx).length) (vb (ts : List Tx).length) now i) 24 ([(1, some (bOp ty1 f m))] ++ (co ⟨c, o, now, vv, ts⟩ ++ TH ts))) := by
  subst hts
  exact ((pA_E0 v tm m ty1 f now i x hi h8).framed ([(1, some (bOp ty1 f m))] ++ (co ⟨c, o, now, vv, []⟩ ++ TH [])) (okT_E v tm m ty1 f i x c o now vv [] hlen rfl) (apart_nil _)).less (by decide) (by decide)
theorem tX1_E (v tm m : Nat) (ty1 : TypeId) (f : Nat → OpV) (i : Nat) (x : OpV) (c : Cq) (o now : Nat) (vv : Bool) (ts : List Tx) (hlen : ts.length ≤ 6) (hts : ts = []) (hi : ¬ i < m) : Ex Try.prog 2 (sub [0] ((Try.f8.body.bind fstLoop).getD .skip)) (e9 (.s .emp) v tm (.s (.slc (some (1, 0)) m none)) (va (ts : List Tx).length) (vb (ts : List Tx).length) now i) 24 ([(1, some (bOp ty1 f m))] ++ (co ⟨c, o, now, vv, ts⟩ ++ TH ts)) (One (.exit 0) (e9 (.s .emp) v tm (.s (.slc (some (1, 0)) m none)) (va (ts : List Tx).length) (vb (ts : List Tx).length) now i) 24 ([(1, some (bOp ty1 f m))] ++ (co ⟨c, o, now, vv, ts⟩ ++ TH ts))) := by
  subst hts
  exact ((pX1_E0 v tm m ty1 f now i x hi).framed ([(1, some (bOp ty1 f m))] ++ (co ⟨c, o, now, vv, []⟩ ++ TH [])) (okT_E v tm m ty1 f i x c o now vv [] hlen rfl) (apart_nil _)).less (by decide) (by decide)
theorem tX2_E (v tm m : Nat) (ty1 : TypeId) (f : Nat → OpV) (i : Nat) (x : OpV) (c : Cq) (o now : Nat) (vv : Bool) (ts : List Tx) (hlen : ts.length ≤ 6) (hts : ts = []) (hi : i < m) (h8 : ¬ i < 80) : Ex Try.prog 2 (sub [0] ((Try.f8.body.bind fstLoop).getD .skip)) (e9 (.s .emp) v tm (.s (.slc (some (1, 0)) m none)) (va (ts : List Tx).length) (vb (ts : List Tx).length) now i) 24 ([(1, some (bOp ty1 f m))] ++ (co ⟨c, o, now, vv, ts⟩ ++ TH ts)) (One (.exit 0) (e9 (.s .emp) v tm (.s (.slc (some (1, 0)) m none)) (va (ts : List Tx).length) (vb (ts : List Tx).length) now i) 24 ([(1, some (bOp ty1 f m))] ++ (co ⟨c, o, now, vv, ts⟩ ++ TH ts))) := by
  subst hts
  exact ((pX2_E0 v tm m ty1 f now i x hi h8).framed ([(1, some (bOp ty1 f m))] ++ (co ⟨c, o, now, vv, []⟩ ++ TH [])) (okT_E v tm m ty1 f i x c o now vv [] hlen rfl) (apart_nil _)).less (by decide) (by decide)
theorem tR12_E (v tm m : Nat) (ty1 : TypeId) (f : Nat → OpV) (i : Nat) (x : OpV) (c : Cq) (o now : Nat) (vv : Bool) (ts : List Tx) (hlen : ts.length ≤ 6) (hts : ts = []) (hi : i < m) (hx : f i = x) : Ex Try.prog 2 (sub [1, 0, 0, 0] ((Try.f8.body.bind fstLoop).getD .skip)) (e9 (.s .emp) v tm (.s (.slc (some (1, 0)) m none)) (va (ts : List Tx).length) (vb (ts : List Tx).length) now i) 24 ([(1, some (bOp ty1 f m))] ++ (co ⟨c, o, now, vv, ts⟩ ++ TH ts)) (One .normal (f9 (.s .emp) v tm (.s (.slc (some (1, 0)) m none)) (va (ts : List Tx).length) (vb (ts : List Tx).length) now i) 25 ([(24, some (opB x))] ++ (co ⟨c, o, now, vv, ts⟩ ++ ([(1, some (bOp ty1 f m))] ++ TH ts)))) := by
  subst hts
  exact Ex.perm (((pR12_E0 v tm m ty1 f now i x hi hx).framed (co ⟨c, o, now, vv, []⟩ ++ TH []) (okH_app (co_ok _) (okH_up (by decide) (th_ok hlen))) (apA_E v tm m ty1 f i x c o now vv [] hlen rfl)).less (by decide) (by decide)) (fun _ => rfl) (fun i => lk_swap (apS_E v tm m ty1 f i x c o now vv [] hlen rfl) i)
theorem tR13_E (v tm m : Nat) (ty1 : TypeId) (f : Nat → OpV) (i : Nat) (x : OpV) (c : Cq) (o now : Nat) (vv : Bool) (ts : List Tx) (hlen : ts.length ≤ 6) (hts : ts = []) (ht : now + x.p % 3 < 2 ^ 64) : Ex Try.prog 2 (sub [1, 0, 0, 1, 0] ((Try.f8.body.bind fstLoop).getD .skip)) (f9 (.s .emp) v tm (.s (.slc (some (1, 0)) m none)) (va (ts : List Tx).length) (vb (ts : List Tx).length) now i) 25 ([(24, some (opB x))] ++ (co ⟨c, o, now, vv, ts⟩ ++ ([(1, some (bOp ty1 f m))] ++ TH ts))) (One .normal (f9 (.s .emp) v tm (.s (.slc (some (1, 0)) m none)) (va (ts : List Tx).length) (vb (ts : List Tx).length) (now + x.p % 3) i) 25 ([(24, some (opB x))] ++ (co ⟨c, o, (now + x.p % 3), vv, ts⟩ ++ ([(1, some (bOp ty1 f m))] ++ TH ts)))) := by
  subst hts
  exact ((pR13_E0 v tm m ty1 f now i x ht).framed (co ⟨c, o, now, vv, []⟩ ++ ([(1, some (bOp ty1 f m))] ++ TH [])) (okR_E v tm m ty1 f i x c o now vv [] hlen rfl) (apR_E v tm m ty1 f i x c o now vv [] hlen rfl)).less (by decide) (by decide)
theorem tR11_E (v tm m : Nat) (ty1 : TypeId) (f : Nat → OpV) (i : Nat) (x : OpV) (c : Cq) (o now : Nat) (vv : Bool) (ts : List Tx) (hlen : ts.length ≤ 6) (hts : ts = []) (h8 : i < 80) : Ex Try.prog 2 (sub [1, 1] ((Try.f8.body.bind fstLoop).getD .skip)) (f9 (.s .emp) v tm (.s (.slc (some (1, 0)) m none)) (va (ts : List Tx).length) (vb (ts : List Tx).length) now i) 25 ([(24, some (opB x))] ++ (co ⟨c, o, now, vv, ts⟩ ++ ([(1, some (bOp ty1 f m))] ++ TH ts))) (One .normal (e9 (.s .emp) v tm (.s (.slc (some (1, 0)) m none)) (va (ts : List Tx).length) (vb (ts : List Tx).length) now (i + 1)) 24 ([(1, some (bOp ty1 f m))] ++ (co ⟨c, o, now, vv, ts⟩ ++ TH ts))) := by
  subst hts
  exact Ex.perm (((pR11_E0 v tm m ty1 f now i x h8).framed (co ⟨c, o, now, vv, []⟩ ++ ([(1, some (bOp ty1 f m))] ++ TH [])) (okR_E v tm m ty1 f i x c o now vv [] hlen rfl) (apR_E v tm m ty1 f i x c o now vv [] hlen rfl)).less (by decide) (by decide)) (fun _ => rfl) (fun i => (lk_swap (apC_E v tm m ty1 f i x c o now vv [] hlen rfl) i).symm)
theorem tS1_E (v tm m : Nat) (ty1 : TypeId) (f : Nat → OpV) (i : Nat) (x : OpV) (c : Cq) (o now : Nat) (vv : Bool) (ts : List Tx) (hlen : ts.length ≤ 6) (hts : ts = []) (kd : Nat) : Ex Try.prog 2 (sub [1, 0, 0, 1, 1, 0] ((Try.f8.body.bind fstLoop).getD .skip)) (f9 (.s .emp) v tm (.s (.slc (some (1, 0)) m none)) (va (ts : List Tx).length) (vb (ts : List Tx).length) now i) 25 ([(24, some (opB x))] ++ (co ⟨c, o, now, vv, ts⟩ ++ ([(1, some (bOp ty1 f m))] ++ TH ts))) (One .normal (f9 (.s .emp) v tm (.s (.slc (some (1, 0)) m none)) (va (s1F ⟨c, o, now, vv, ts⟩ x tm 0 i kd).ts.length) (vb (s1F ⟨c, o, now, vv, ts⟩ x tm 0 i kd).ts.length) (s1F ⟨c, o, now, vv, ts⟩ x tm 0 i kd).now i) 25 ([(24, some (opB x))] ++ (co (s1F ⟨c, o, now, vv, ts⟩ x tm 0 i kd) ++ ([(1, some (bOp ty1 f m))] ++ TH (s1F ⟨c, o, now, vv, ts⟩ x tm 0 i kd).ts)))) := by
  have e : s1F ⟨c, o, now, vv, ts⟩ x tm 0 i kd = ⟨c, o, now, vv, ts⟩ := by simp [s1F]
  rw [e]
  subst hts
  exact ((pS1_E0 v tm m ty1 f now i x ).framed ([(24, some (opB x))] ++ (co ⟨c, o, now, vv, []⟩ ++ ([(1, some (bOp ty1 f m))] ++ TH []))) (okH_app (L := [(24, some (opB x))]) rfl (okH_up (a := 24) (by decide) (okR_E v tm m ty1 f i x c o now vv [] hlen rfl))) (apart_nil _)).less (by decide) (by decide)
theorem apON_E (ty1 : TypeId) (f : Nat → OpV) (m : Nat) (x : OpV) (c : Cq) (o : Nat) (ts : List Tx) (hlen : ts.length ≤ 6) : apart ([(24, some (opB x))] ++ coN c o) ([(1, some (bOp ty1 f m))] ++ TH ts) = true := apart_by fun i hi => by
  rw [keys_app, List.mem_append] at hi
  have h1 : i = 0 ∨ i = 1 ∨ (4 ≤ i ∧ i < 20) := by
    rcases hi with hi | hi
    · simp [keys] at hi; omega
    · have := th_keys hlen i hi; omega
  simp [keys, coN]; omega
theorem apOQ_E (ty1 : TypeId) (f : Nat → OpV) (m : Nat) (x : OpV) (c : Cq) (o : Nat) (ts : List Tx) (hlen : ts.length ≤ 6) : apart ([(24, some (opB x))] ++ coQ c o) ([(1, some (bOp ty1 f m))] ++ TH ts) = true := apart_by fun i hi => by
  rw [keys_app, List.mem_append] at hi
  have h1 : i = 0 ∨ i = 1 ∨ (4 ≤ i ∧ i < 20) := by
    rcases hi with hi | hi
    · simp [keys] at hi; omega
    · have := th_keys hlen i hi; omega
  simp [keys, coQ]; omega
theorem tS2_E (v tm m : Nat) (ty1 : TypeId) (f : Nat → OpV) (i : Nat) (x : OpV) (c : Cq) (o now : Nat) (vv : Bool) (ts : List Tx) (hlen : ts.length ≤ 6) (hts : ts = []) (h : c.ok) (hn : now < 2 ^ 64) (hq : vv = false → c.q = []) : Ex Try.prog 2 (sub [1, 0, 0, 1, 1, 1, 0] ((Try.f8.body.bind fstLoop).getD .skip)) (f9 (.s .emp) v tm (.s (.slc (some (1, 0)) m none)) (va (ts : List Tx).length) (vb (ts : List Tx).length) now i) 25 ([(24, some (opB x))] ++ (co ⟨c, o, now, vv, ts⟩ ++ ([(1, some (bOp ty1 f m))] ++ TH ts))) (One .normal (f9 (.s .emp) v tm (.s (.slc (some (1, 0)) m none)) (va (s2F ⟨c, o, now, vv, ts⟩ x v).ts.length) (vb (s2F ⟨c, o, now, vv, ts⟩ x v).ts.length) (s2F ⟨c, o, now, vv, ts⟩ x v).now i) 25 ([(24, some (opB x))] ++ (co (s2F ⟨c, o, now, vv, ts⟩ x v) ++ ([(1, some (bOp ty1 f m))] ++ TH (s2F ⟨c, o, now, vv, ts⟩ x v).ts)))) := by
  by_cases h7 : Int.tmod x.k 7 = 6
  · rw [show s2F ⟨c, o, now, vv, ts⟩ x v = ⟨wrtq c now (v % 4) false, o, now, vv, ts⟩ by simp only [s2F, if_pos h7]]
    cases vv with
    | false =>
      subst hts
      exact ((pS2y_E0N v tm m ty1 f now i x c o h hn (hq rfl) h7).framed ([(1, some (bOp ty1 f m))] ++ TH []) (okH_app rfl (th_ok hlen)) (apON_E ty1 f m x c o [] hlen)).less (by decide) (by decide)
    | true =>
      subst hts
      exact ((pS2y_E0Q v tm m ty1 f now i x c o h hn h7).framed ([(1, some (bOp ty1 f m))] ++ TH []) (okH_app rfl (th_ok hlen)) (apOQ_E ty1 f m x c o [] hlen)).less (by decide) (by decide)
  · rw [show s2F ⟨c, o, now, vv, ts⟩ x v = ⟨c, o, now, vv, ts⟩ by simp only [s2F, if_neg h7]]
    subst hts
    exact ((pS2n_E0 v tm m ty1 f now i x h7).framed (co ⟨c, o, now, vv, []⟩ ++ ([(1, some (bOp ty1 f m))] ++ TH [])) (okR_E v tm m ty1 f i x c o now vv [] hlen rfl) (apR_E v tm m ty1 f i x c o now vv [] hlen rfl)).less (by decide) (by decide)
theorem tS3_E (v tm m : Nat) (ty1 : TypeId) (f : Nat → OpV) (i : Nat) (x : OpV) (c : Cq) (o now : Nat) (vv : Bool) (ts : List Tx) (hlen : ts.length ≤ 6) (hts : ts = []) (h : c.ok) (hq : vv = false → c.q = []) : Ex Try.prog 2 (sub [1, 0, 0, 1, 1, 1, 1, 0] ((Try.f8.body.bind fstLoop).getD .skip)) (f9 (.s .emp) v tm (.s (.slc (some (1, 0)) m none)) (va (ts : List Tx).length) (vb (ts : List Tx).length) now i) 25 ([(24, some (opB x))] ++ (co ⟨c, o, now, vv, ts⟩ ++ ([(1, some (bOp ty1 f m))] ++ TH ts))) (One .normal (f9 (.s .emp) v tm (.s (.slc (some (1, 0)) m none)) (va (s3F ⟨c, o, now, vv, ts⟩ x v).ts.length) (vb (s3F ⟨c, o, now, vv, ts⟩ x v).ts.length) (s3F ⟨c, o, now, vv, ts⟩ x v).now i) 25 ([(24, some (opB x))] ++ (co (s3F ⟨c, o, now, vv, ts⟩ x v) ++ ([(1, some (bOp ty1 f m))] ++ TH (s3F ⟨c, o, now, vv, ts⟩ x v).ts)))) := by
  by_cases h5 : Int.tmod x.k 5 = 4
  · rw [show s3F ⟨c, o, now, vv, ts⟩ x v = ⟨raiq c (1 + v % 8), o, now, true, ts⟩ by simp only [s3F, if_pos h5]]
    cases vv with
    | false =>
      rw [show raiq c (1 + v % 8) = { c with q := [1 + v % 8] } by simp only [raiq]; rw [if_neg (by omega), hq rfl]; rfl]
      subst hts
      exact ((pS3y_E0N v tm m ty1 f now i x c o h (hq rfl) h5).framed ([(1, some (bOp ty1 f m))] ++ TH []) (okH_app rfl (th_ok hlen)) (apON_E ty1 f m x c o [] hlen)).less (by decide) (by decide)
    | true =>
      subst hts
      exact ((pS3y_E0Q v tm m ty1 f now i x c o h h5).framed ([(1, some (bOp ty1 f m))] ++ TH []) (okH_app rfl (th_ok hlen)) (apOQ_E ty1 f m x c o [] hlen)).less (by decide) (by decide)
  · rw [show s3F ⟨c, o, now, vv, ts⟩ x v = ⟨c, o, now, vv, ts⟩ by simp only [s3F, if_neg h5]]
    subst hts
    exact ((pS3n_E0 v tm m ty1 f now i x h5).framed (co ⟨c, o, now, vv, []⟩ ++ ([(1, some (bOp ty1 f m))] ++ TH [])) (okR_E v tm m ty1 f i x c o now vv [] hlen rfl) (apR_E v tm m ty1 f i x c o now vv [] hlen rfl)).less (by decide) (by decide)
theorem tS4_E (v tm m : Nat) (ty1 : TypeId) (f : Nat → OpV) (i : Nat) (x : OpV) (c : Cq) (o now : Nat) (vv : Bool) (ts : List Tx) (hlen : ts.length ≤ 6) (hts : ts = []) (h : c.ok) (hn : now < 2 ^ 64) (hq : vv = false → c.q = []) (hts6 : ∀ y ∈ ts, y.ok) : Ex Try.prog 2 (sub [1, 0, 0, 1, 1, 1, 1, 1] ((Try.f8.body.bind fstLoop).getD .skip)) (f9 (.s .emp) v tm (.s (.slc (some (1, 0)) m none)) (va (ts : List Tx).length) (vb (ts : List Tx).length) now i) 25 ([(24, some (opB x))] ++ (co ⟨c, o, now, vv, ts⟩ ++ ([(1, some (bOp ty1 f m))] ++ TH ts))) (One .normal (f9 (.s .emp) v tm (.s (.slc (some (1, 0)) m none)) (va (s4F ⟨c, o, now, vv, ts⟩ x).ts.length) (vb (s4F ⟨c, o, now, vv, ts⟩ x).ts.length) (s4F ⟨c, o, now, vv, ts⟩ x).now i) 25 ([(24, some (opB x))] ++ (co (s4F ⟨c, o, now, vv, ts⟩ x) ++ ([(1, some (bOp ty1 f m))] ++ TH (s4F ⟨c, o, now, vv, ts⟩ x).ts)))) := by
  subst hts
  exact ((pS4n_E0 v tm m ty1 f now i x ).framed ([(24, some (opB x))] ++ (co ⟨c, o, now, vv, []⟩ ++ ([(1, some (bOp ty1 f m))] ++ TH []))) (okH_app (L := [(24, some (opB x))]) rfl (okH_up (a := 24) (by decide) (okR_E v tm m ty1 f i x c o now vv [] hlen rfl))) (apart_nil _)).less (by decide) (by decide)
theorem round_E (v tm m : Nat) (ty1 : TypeId) (f : Nat → OpV) (i : Nat) (x : OpV) (s : Sx) (kd : Nat) (h : s.ok i) (hi : i < m) (h8 : i < 80) (hxf : f i = x) (hx : x.ok) (htm : tm < 2 ^ 64) (hts : s.ts = []) :
    Ex Try.prog 2 ((Try.f8.body.bind fstLoop).getD .skip) (e9 (.s .emp) v tm (.s (.slc (some (1, 0)) m none)) (va s.ts.length) (vb s.ts.length) s.now i) 24 ([(1, some (bOp ty1 f m))] ++ (co s ++ TH s.ts)) (One .normal (e9 (.s .emp) v tm (.s (.slc (some (1, 0)) m none)) (va (rdF s x v tm 0 i kd).ts.length) (vb (rdF s x v tm 0 i kd).ts.length) (rdF s x v tm 0 i kd).now (i + 1)) 24 ([(1, some (bOp ty1 f m))] ++ (co (rdF s x v tm 0 i kd) ++ TH (rdF s x v tm 0 i kd).ts))) := by
  have hn0 := h.now
  have k0 := s0_ok (x := x) h
  have hn : (s0F s x).now < 2 ^ 64 := by have := k0.now; omega
  have k1 := s1_ok (x := x) (tm := tm) (nk := 0) (i := i) (kd := kd) k0 (by omega) hx htm
  have k2 := s2_ok (x := x) (v := v) k1 (by omega)
  have k3 := s3_ok (x := x) (v := v) k2
  have k4 := s4_ok (x := x) k3 (by omega)
  have z1 : (s1F (s0F s x) x tm 0 i kd).ts = [] := by unfold s1F; rw [if_neg (fun e => absurd e.1 (Nat.not_lt_zero _))]; exact hts
  have z2 : (s2F (s1F (s0F s x) x tm 0 i kd) x v).ts = [] := by unfold s2F; split <;> exact z1
  have z3 : (s3F (s2F (s1F (s0F s x) x tm 0 i kd) x v) x v).ts = [] := by unfold s3F; split <;> exact z2
  have z4 : (s4F (s3F (s2F (s1F (s0F s x) x tm 0 i kd) x v) x v) x).ts = [] := by unfold s4F; rw [z3]; exact z3
  have hA := tA_E v tm m ty1 f i x s.c s.o s.now s.v s.ts h.len hts hi h8
  have h12 := tR12_E v tm m ty1 f i x s.c s.o s.now s.v s.ts h.len hts hi hxf
  have h13 := tR13_E v tm m ty1 f i x s.c s.o s.now s.v s.ts h.len hts hn
  have h1 := tS1_E v tm m ty1 f i x (s0F s x).c (s0F s x).o (s0F s x).now (s0F s x).v (s0F s x).ts k0.len hts kd 
  have h2 := tS2_E v tm m ty1 f i x (s1F (s0F s x) x tm 0 i kd).c (s1F (s0F s x) x tm 0 i kd).o (s1F (s0F s x) x tm 0 i kd).now (s1F (s0F s x) x tm 0 i kd).v (s1F (s0F s x) x tm 0 i kd).ts k1.len z1 k1.c (by have := k1.now; omega) k1.q
  have h3 := tS3_E v tm m ty1 f i x (s2F (s1F (s0F s x) x tm 0 i kd) x v).c (s2F (s1F (s0F s x) x tm 0 i kd) x v).o (s2F (s1F (s0F s x) x tm 0 i kd) x v).now (s2F (s1F (s0F s x) x tm 0 i kd) x v).v (s2F (s1F (s0F s x) x tm 0 i kd) x v).ts k2.len z2 k2.c k2.q
  have h4 := tS4_E v tm m ty1 f i x (s3F (s2F (s1F (s0F s x) x tm 0 i kd) x v) x v).c (s3F (s2F (s1F (s0F s x) x tm 0 i kd) x v) x v).o (s3F (s2F (s1F (s0F s x) x tm 0 i kd) x v) x v).now (s3F (s2F (s1F (s0F s x) x tm 0 i kd) x v) x v).v (s3F (s2F (s1F (s0F s x) x tm 0 i kd) x v) x v).ts k3.len z3 k3.c (by have := k3.now; omega) k3.q k3.ts
  have h11 := tR11_E v tm m ty1 f i x (s4F (s3F (s2F (s1F (s0F s x) x tm 0 i kd) x v) x v) x).c (s4F (s3F (s2F (s1F (s0F s x) x tm 0 i kd) x v) x v) x).o (s4F (s3F (s2F (s1F (s0F s x) x tm 0 i kd) x v) x v) x).now (s4F (s3F (s2F (s1F (s0F s x) x tm 0 i kd) x v) x v) x).v (s4F (s3F (s2F (s1F (s0F s x) x tm 0 i kd) x v) x v) x).ts k4.len z4 h8
  exact Ex.cat hA (Ex.cat (Ex.blk (Ex.cat h12 (Ex.cat h13 (Ex.cat h1 (Ex.cat h2 (Ex.cat h3 h4)))))) h11)

/-! ### kinds in form B -/
theorem okT_B (ty : TypeId) (mr : Bool) (C : List S) (oo nk : Nat) (cc : Option Nat) (v tm m : Nat) (ty1 : TypeId) (f : Nat → OpV) (i : Nat) (x : OpV) (c : Cq) (o now : Nat) (vv : Bool) (ts : List Tx) (hlen : ts.length ≤ 6) : okH 24 ([(0, some (bRb ty mr C)), (1, some (bOp ty1 f m))] ++ (co ⟨c, o, now, vv, ts⟩ ++ TH ts)) = true := okH_app rfl (okH_app (co_ok _) (okH_up (by decide) (th_ok hlen)))
theorem okR_B (ty : TypeId) (mr : Bool) (C : List S) (oo nk : Nat) (cc : Option Nat) (v tm m : Nat) (ty1 : TypeId) (f : Nat → OpV) (i : Nat) (x : OpV) (c : Cq) (o now : Nat) (vv : Bool) (ts : List Tx) (hlen : ts.length ≤ 6) : okH 24 (co ⟨c, o, now, vv, ts⟩ ++ ([(0, some (bRb ty mr C)), (1, some (bOp ty1 f m))] ++ TH ts)) = true := okH_app (co_ok _) (okH_app rfl (okH_up (by decide) (th_ok hlen)))
theorem apR_B (ty : TypeId) (mr : Bool) (C : List S) (oo nk : Nat) (cc : Option Nat) (v tm m : Nat) (ty1 : TypeId) (f : Nat → OpV) (i : Nat) (x : OpV) (c : Cq) (o now : Nat) (vv : Bool) (ts : List Tx) (hlen : ts.length ≤ 6) : apart [(24, some (opB x))] (co ⟨c, o, now, vv, ts⟩ ++ ([(0, some (bRb ty mr C)), (1, some (bOp ty1 f m))] ++ TH ts)) = true := apart_by fun i hi => by
  rw [keys_app, keys_app, List.mem_append, List.mem_append] at hi
  have h1 : i < 24 := by
    rcases hi with hi | hi | hi
    · have := co_keys _ i hi; omega
    · simp [keys] at hi; omega
    · have := th_keys hlen i hi; omega
  simp [keys]; omega
theorem apA_B (ty : TypeId) (mr : Bool) (C : List S) (oo nk : Nat) (cc : Option Nat) (v tm m : Nat) (ty1 : TypeId) (f : Nat → OpV) (i : Nat) (x : OpV) (c : Cq) (o now : Nat) (vv : Bool) (ts : List Tx) (hlen : ts.length ≤ 6) : apart [(0, some (bRb ty mr C)), (1, some (bOp ty1 f m))] (co ⟨c, o, now, vv, ts⟩ ++ TH ts) = true := apart_by fun i hi => by
  rw [keys_app, List.mem_append] at hi
  have h1 : 2 ≤ i := by
    rcases hi with hi | hi
    · have := co_keys _ i hi; omega
    · have := th_keys hlen i hi; omega
  simp [keys]; omega
theorem apS_B (ty : TypeId) (mr : Bool) (C : List S) (oo nk : Nat) (cc : Option Nat) (v tm m : Nat) (ty1 : TypeId) (f : Nat → OpV) (i : Nat) (x : OpV) (c : Cq) (o now : Nat) (vv : Bool) (ts : List Tx) (hlen : ts.length ≤ 6) : apart [(0, some (bRb ty mr C)), (1, some (bOp ty1 f m))] ([(24, some (opB x))] ++ co ⟨c, o, now, vv, ts⟩) = true := by cases vv <;> rfl
theorem apC_B (ty : TypeId) (mr : Bool) (C : List S) (oo nk : Nat) (cc : Option Nat) (v tm m : Nat) (ty1 : TypeId) (f : Nat → OpV) (i : Nat) (x : OpV) (c : Cq) (o now : Nat) (vv : Bool) (ts : List Tx) (hlen : ts.length ≤ 6) : apart [(0, some (bRb ty mr C)), (1, some (bOp ty1 f m))] (co ⟨c, o, now, vv, ts⟩) = true := by cases vv <;> rfl
theorem tA_B (ty : TypeId) (mr : Bool) (C : List S) (oo nk : Nat) (cc : Option Nat) (v tm m : Nat) (ty1 : TypeId) (f : Nat → OpV) (i : Nat) (x : OpV) (c : Cq) (o now : Nat) (vv : Bool) (ts : List Tx) (hlen : ts.length ≤ 6) (hi : i < m) (h8 : i < 80) : Ex Try.prog 2 (sub [0] ((Try.f8.body.bind fstLoop).getD .skip)) (e9 (.s (.slc (some (0, oo)) nk cc)) v tm (.s (.slc (some (1, 0)) m none)) (va (ts : List Tx).length) (vb (ts : List Tx).length) now i) 24 ([(0, some (bRb ty mr C)), (1, some (bOp ty1 f m))] ++ (co ⟨c, o, now, vv, ts⟩ ++ TH ts)) (One .normal (e9 (.s (.slc (some (0, oo)) nk cc)) v tm (.s (.slc (some (1, 0)) m none)) (va (ts : List Tx).length) (vb (ts : List Tx).length) now i) 24 ([(0, some (bRb ty mr C)), (1, some (bOp ty1 f m))] ++ (co ⟨c, o, now, vv, ts⟩ ++ TH ts))) := by
  cases ts with
  | nil => exact ((pA_B0 ty mr C oo nk cc v tm m ty1 f now i x hi h8).framed ([(0, some (bRb ty mr C)), (1, some (bOp ty1 f m))] ++ (co ⟨c, o, now, vv, []⟩ ++ TH [])) (okT_B ty mr C oo nk cc v tm m ty1 f i x c o now vv [] hlen) (apart_nil _)).less (by decide) (by decide)
  | cons y r => exact ((pA_B1 ty mr C oo nk cc r.length v tm m ty1 f now i x hi h8).framed ([(0, some (bRb ty mr C)), (1, some (bOp ty1 f m))] ++ (co ⟨c, o, now, vv, (y :: r)⟩ ++ TH (y :: r))) (okT_B ty mr C oo nk cc v tm m ty1 f i x c o now vv (y :: r) hlen) (apart_nil _)).less (by decide) (by decide)
theorem tX1_B (ty : TypeId) (mr : Bool) (C : List S) (oo nk : Nat) (cc : Option Nat) (v tm m : Nat) (ty1 : TypeId) (f : Nat → OpV) (i : Nat) (x : OpV) (c : Cq) (o now : Nat) (vv : Bool) (ts : List Tx) (hlen : ts.length ≤ 6) (hi : ¬ i < m) : Ex Try.prog 2 (sub [0] ((Try.f8.body.bind fstLoop).getD .skip)) (e9 (.s (.slc (some (0, oo)) nk cc)) v tm (.s (.slc (some (1, 0)) m none)) (va (ts : List Tx).length) (vb (ts : List Tx).length) now i) 24 ([(0, some (bRb ty mr C)), (1, some (bOp ty1 f m))] ++ (co ⟨c, o, now, vv, ts⟩ ++ TH ts)) (One (.exit 0) (e9 (.s (.slc (some (0, oo)) nk cc)) v tm (.s (.slc (some (1, 0)) m none)) (va (ts : List Tx).length) (vb (ts : List Tx).length) now i) 24 ([(0, some (bRb ty mr C)), (1, some (bOp ty1 f m))] ++ (co ⟨c, o, now, vv, ts⟩ ++ TH ts))) := by
  cases ts with
  | nil => exact ((pX1_B0 ty mr C oo nk cc v tm m ty1 f now i x hi).framed ([(0, some (bRb ty mr C)), (1, some (bOp ty1 f m))] ++ (co ⟨c, o, now, vv, []⟩ ++ TH [])) (okT_B ty mr C oo nk cc v tm m ty1 f i x c o now vv [] hlen) (apart_nil _)).less (by decide) (by decide)
  | cons y r => exact ((pX1_B1 ty mr C oo nk cc r.length v tm m ty1 f now i x hi).framed ([(0, some (bRb ty mr C)), (1, some (bOp ty1 f m))] ++ (co ⟨c, o, now, vv, (y :: r)⟩ ++ TH (y :: r))) (okT_B ty mr C oo nk cc v tm m ty1 f i x c o now vv (y :: r) hlen) (apart_nil _)).less (by decide) (by decide)
theorem tX2_B (ty : TypeId) (mr : Bool) (C : List S) (oo nk : Nat) (cc : Option Nat) (v tm m : Nat) (ty1 : TypeId) (f : Nat → OpV) (i : Nat) (x : OpV) (c : Cq) (o now : Nat) (vv : Bool) (ts : List Tx) (hlen : ts.length ≤ 6) (hi : i < m) (h8 : ¬ i < 80) : Ex Try.prog 2 (sub [0] ((Try.f8.body.bind fstLoop).getD .skip)) (e9 (.s (.slc (some (0, oo)) nk cc)) v tm (.s (.slc (some (1, 0)) m none)) (va (ts : List Tx).length) (vb (ts : List Tx).length) now i) 24 ([(0, some (bRb ty mr C)), (1, some (bOp ty1 f m))] ++ (co ⟨c, o, now, vv, ts⟩ ++ TH ts)) (One (.exit 0) (e9 (.s (.slc (some (0, oo)) nk cc)) v tm (.s (.slc (some (1, 0)) m none)) (va (ts : List Tx).length) (vb (ts : List Tx).length) now i) 24 ([(0, some (bRb ty mr C)), (1, some (bOp ty1 f m))] ++ (co ⟨c, o, now, vv, ts⟩ ++ TH ts))) := by
  cases ts with
  | nil => exact ((pX2_B0 ty mr C oo nk cc v tm m ty1 f now i x hi h8).framed ([(0, some (bRb ty mr C)), (1, some (bOp ty1 f m))] ++ (co ⟨c, o, now, vv, []⟩ ++ TH [])) (okT_B ty mr C oo nk cc v tm m ty1 f i x c o now vv [] hlen) (apart_nil _)).less (by decide) (by decide)
  | cons y r => exact ((pX2_B1 ty mr C oo nk cc r.length v tm m ty1 f now i x hi h8).framed ([(0, some (bRb ty mr C)), (1, some (bOp ty1 f m))] ++ (co ⟨c, o, now, vv, (y :: r)⟩ ++ TH (y :: r))) (okT_B ty mr C oo nk cc v tm m ty1 f i x c o now vv (y :: r) hlen) (apart_nil _)).less (by decide) (by decide)
theorem tR12_B (ty : TypeId) (mr : Bool) (C : List S) (oo nk : Nat) (cc : Option Nat) (v tm m : Nat) (ty1 : TypeId) (f : Nat → OpV) (i : Nat) (x : OpV) (c : Cq) (o now : Nat) (vv : Bool) (ts : List Tx) (hlen : ts.length ≤ 6) (hi : i < m) (hx : f i = x) : Ex Try.prog 2 (sub [1, 0, 0, 0] ((Try.f8.body.bind fstLoop).getD .skip)) (e9 (.s (.slc (some (0, oo)) nk cc)) v tm (.s (.slc (some (1, 0)) m none)) (va (ts : List Tx).length) (vb (ts : List Tx).length) now i) 24 ([(0, some (bRb ty mr C)), (1, some (bOp ty1 f m))] ++ (co ⟨c, o, now, vv, ts⟩ ++ TH ts)) (One .normal (f9 (.s (.slc (some (0, oo)) nk cc)) v tm (.s (.slc (some (1, 0)) m none)) (va (ts : List Tx).length) (vb (ts : List Tx).length) now i) 25 ([(24, some (opB x))] ++ (co ⟨c, o, now, vv, ts⟩ ++ ([(0, some (bRb ty mr C)), (1, some (bOp ty1 f m))] ++ TH ts)))) := by
  cases ts with
  | nil => exact Ex.perm (((pR12_B0 ty mr C oo nk cc v tm m ty1 f now i x hi hx).framed (co ⟨c, o, now, vv, []⟩ ++ TH []) (okH_app (co_ok _) (okH_up (by decide) (th_ok hlen))) (apA_B ty mr C oo nk cc v tm m ty1 f i x c o now vv [] hlen)).less (by decide) (by decide)) (fun _ => rfl) (fun i => lk_swap (apS_B ty mr C oo nk cc v tm m ty1 f i x c o now vv [] hlen) i)
  | cons y r => exact Ex.perm (((pR12_B1 ty mr C oo nk cc r.length v tm m ty1 f now i x hi hx).framed (co ⟨c, o, now, vv, (y :: r)⟩ ++ TH (y :: r)) (okH_app (co_ok _) (okH_up (by decide) (th_ok hlen))) (apA_B ty mr C oo nk cc v tm m ty1 f i x c o now vv (y :: r) hlen)).less (by decide) (by decide)) (fun _ => rfl) (fun i => lk_swap (apS_B ty mr C oo nk cc v tm m ty1 f i x c o now vv (y :: r) hlen) i)
theorem tR13_B (ty : TypeId) (mr : Bool) (C : List S) (oo nk : Nat) (cc : Option Nat) (v tm m : Nat) (ty1 : TypeId) (f : Nat → OpV) (i : Nat) (x : OpV) (c : Cq) (o now : Nat) (vv : Bool) (ts : List Tx) (hlen : ts.length ≤ 6) (ht : now + x.p % 3 < 2 ^ 64) : Ex Try.prog 2 (sub [1, 0, 0, 1, 0] ((Try.f8.body.bind fstLoop).getD .skip)) (f9 (.s (.slc (some (0, oo)) nk cc)) v tm (.s (.slc (some (1, 0)) m none)) (va (ts : List Tx).length) (vb (ts : List Tx).length) now i) 25 ([(24, some (opB x))] ++ (co ⟨c, o, now, vv, ts⟩ ++ ([(0, some (bRb ty mr C)), (1, some (bOp ty1 f m))] ++ TH ts))) (One .normal (f9 (.s (.slc (some (0, oo)) nk cc)) v tm (.s (.slc (some (1, 0)) m none)) (va (ts : List Tx).length) (vb (ts : List Tx).length) (now + x.p % 3) i) 25 ([(24, some (opB x))] ++ (co ⟨c, o, (now + x.p % 3), vv, ts⟩ ++ ([(0, some (bRb ty mr C)), (1, some (bOp ty1 f m))] ++ TH ts)))) := by
  cases ts with
  | nil => exact ((pR13_B0 ty mr C oo nk cc v tm m ty1 f now i x ht).framed (co ⟨c, o, now, vv, []⟩ ++ ([(0, some (bRb ty mr C)), (1, some (bOp ty1 f m))] ++ TH [])) (okR_B ty mr C oo nk cc v tm m ty1 f i x c o now vv [] hlen) (apR_B ty mr C oo nk cc v tm m ty1 f i x c o now vv [] hlen)).less (by decide) (by decide)
  | cons y r => exact ((pR13_B1 ty mr C oo nk cc r.length v tm m ty1 f now i x ht).framed (co ⟨c, o, now, vv, (y :: r)⟩ ++ ([(0, some (bRb ty mr C)), (1, some (bOp ty1 f m))] ++ TH (y :: r))) (okR_B ty mr C oo nk cc v tm m ty1 f i x c o now vv (y :: r) hlen) (apR_B ty mr C oo nk cc v tm m ty1 f i x c o now vv (y :: r) hlen)).less (by decide) (by decide)
theorem tR11_B (ty : TypeId) (mr : Bool) (C : List S) (oo nk : Nat) (cc : Option Nat) (v tm m : Nat) (ty1 : TypeId) (f : Nat → OpV) (i : Nat) (x : OpV) (c : Cq) (o now : Nat) (vv : Bool) (ts : List Tx) (hlen : ts.length ≤ 6) (h8 : i < 80) : Ex Try.prog 2 (sub [1, 1] ((Try.f8.body.bind fstLoop).getD .skip)) (f9 (.s (.slc (some (0, oo)) nk cc)) v tm (.s (.slc (some (1, 0)) m none)) (va (ts : List Tx).length) (vb (ts : List Tx).length) now i) 25 ([(24, some (opB x))] ++ (co ⟨c, o, now, vv, ts⟩ ++ ([(0, some (bRb ty mr C)), (1, some (bOp ty1 f m))] ++ TH ts))) (One .normal (e9 (.s (.slc (some (0, oo)) nk cc)) v tm (.s (.slc (some (1, 0)) m none)) (va (ts : List Tx).length) (vb (ts : List Tx).length) now (i + 1)) 24 ([(0, some (bRb ty mr C)), (1, some (bOp ty1 f m))] ++ (co ⟨c, o, now, vv, ts⟩ ++ TH ts))) := by
  cases ts with
  | nil => exact Ex.perm (((pR11_B0 ty mr C oo nk cc v tm m ty1 f now i x h8).framed (co ⟨c, o, now, vv, []⟩ ++ ([(0, some (bRb ty mr C)), (1, some (bOp ty1 f m))] ++ TH [])) (okR_B ty mr C oo nk cc v tm m ty1 f i x c o now vv [] hlen) (apR_B ty mr C oo nk cc v tm m ty1 f i x c o now vv [] hlen)).less (by decide) (by decide)) (fun _ => rfl) (fun i => (lk_swap (apC_B ty mr C oo nk cc v tm m ty1 f i x c o now vv [] hlen) i).symm)
  | cons y r => exact Ex.perm (((pR11_B1 ty mr C oo nk cc r.length v tm m ty1 f now i x h8).framed (co ⟨c, o, now, vv, (y :: r)⟩ ++ ([(0, some (bRb ty mr C)), (1, some (bOp ty1 f m))] ++ TH (y :: r))) (okR_B ty mr C oo nk cc v tm m ty1 f i x c o now vv (y :: r) hlen) (apR_B ty mr C oo nk cc v tm m ty1 f i x c o now vv (y :: r) hlen)).less (by decide) (by decide)) (fun _ => rfl) (fun i => (lk_swap (apC_B ty mr C oo nk cc v tm m ty1 f i x c o now vv (y :: r) hlen) i).symm)
theorem apX_B (ty : TypeId) (mr : Bool) (C : List S) (oo nk : Nat) (cc : Option Nat) (v tm m : Nat) (ty1 : TypeId) (f : Nat → OpV) (i : Nat) (x : OpV) (c : Cq) (o now : Nat) (vv : Bool) (ts : List Tx) (hlen : ts.length ≤ 6) : apart [(0, some (bRb ty mr C)), (1, some (bOp ty1 f m))] ([(24, some (opB x))] ++ (co ⟨c, o, now, vv, ts⟩ ++ TH ts)) = true := apart_by fun i hi => by
  rw [keys_app, keys_app, List.mem_append, List.mem_append] at hi
  have h1 : 2 ≤ i := by
    rcases hi with hi | hi | hi
    · simp [keys] at hi; omega
    · have := co_keys _ i hi; omega
    · have := th_keys hlen i hi; omega
  simp [keys]; omega
theorem tS1_B (ty : TypeId) (mr : Bool) (C : List S) (oo nk : Nat) (cc : Option Nat) (v tm m : Nat) (ty1 : TypeId) (f : Nat → OpV) (i : Nat) (x : OpV) (c : Cq) (o now : Nat) (vv : Bool) (ts : List Tx) (hlen : ts.length ≤ 6) (kd : Nat) (hld : i < nk → ldAt false 1 (bRb ty mr C) (plus oo i) = some (.s (.int .u8 ((kd : Nat) : Int)))) (hb : kd < 256) (hx : x.ok) (hn : now < 2 ^ 64) (htm : tm < 2 ^ 64) : Ex Try.prog 2 (sub [1, 0, 0, 1, 1, 0] ((Try.f8.body.bind fstLoop).getD .skip)) (f9 (.s (.slc (some (0, oo)) nk cc)) v tm (.s (.slc (some (1, 0)) m none)) (va (ts : List Tx).length) (vb (ts : List Tx).length) now i) 25 ([(24, some (opB x))] ++ (co ⟨c, o, now, vv, ts⟩ ++ ([(0, some (bRb ty mr C)), (1, some (bOp ty1 f m))] ++ TH ts))) (One .normal (f9 (.s (.slc (some (0, oo)) nk cc)) v tm (.s (.slc (some (1, 0)) m none)) (va (s1F ⟨c, o, now, vv, ts⟩ x tm nk i kd).ts.length) (vb (s1F ⟨c, o, now, vv, ts⟩ x tm nk i kd).ts.length) (s1F ⟨c, o, now, vv, ts⟩ x tm nk i kd).now i) 25 ([(24, some (opB x))] ++ (co (s1F ⟨c, o, now, vv, ts⟩ x tm nk i kd) ++ ([(0, some (bRb ty mr C)), (1, some (bOp ty1 f m))] ++ TH (s1F ⟨c, o, now, vv, ts⟩ x tm nk i kd).ts)))) := by
  by_cases hk : i < nk
  · have hld := hld hk
    by_cases h3 : kd % 3 = 0
    · by_cases hfull : 6 ≤ ts.length
      · have e : s1F ⟨c, o, now, vv, ts⟩ x tm nk i kd = ⟨c, o, now, vv, ts⟩ := by
          unfold s1F; rw [if_neg]; rintro ⟨_, _, h⟩; exact absurd h (by show ¬ ts.length < 6; omega)
        rw [e]
        cases ts with
        | nil => simp at hfull
        | cons y r => exact Ex.perm (((pS1c_B1 ty mr C oo nk cc r.length v tm m ty1 f now i x kd hk hld h3 (by show 6 ≤ r.length + 1; simpa using hfull)).framed ([(24, some (opB x))] ++ (co ⟨c, o, now, vv, (y :: r)⟩ ++ TH (y :: r))) (okH_app (L := [(24, some (opB x))]) rfl (okH_up (a := 24) (by decide) (okH_app (co_ok _) (okH_up (by decide) (th_ok hlen))))) (apX_B ty mr C oo nk cc v tm m ty1 f i x c o now vv (y :: r) hlen)).less (by decide) (by decide)) (fun i => lk_swap (apS_B ty mr C oo nk cc v tm m ty1 f i x c o now vv (y :: r) hlen) i) (fun i => lk_swap (apS_B ty mr C oo nk cc v tm m ty1 f i x c o now vv (y :: r) hlen) i)
      · have e : s1F ⟨c, o, now, vv, ts⟩ x tm nk i kd = ⟨c, o, now, vv, ts ++ [mk1 now tm kd x]⟩ := by
          unfold s1F; rw [if_pos ⟨hk, h3, by show ts.length < 6; omega⟩]
        rw [e]
        have hkk : kd / 3 % 3 = 0 ∨ kd / 3 % 3 = 1 ∨ kd / 3 % 3 = 2 := by omega
        rcases hkk with hkd | hkd | hkd
        · rw [show mk1 now tm kd x = ⟨tR (valM x.r false) now tm, 0, now, tm⟩ by simp only [mk1, hkd]]
          cases vv with
          | false =>
            match ts, hlen, hfull with
            | [], _, _ => exact Ex.perm (crN0_0 ty mr C oo nk cc v tm m ty1 f now i x c o kd hk hld h3 hkd hb hx hn htm) (fun i => lk_swap (A := [(0, some (bRb ty mr C)), (1, some (bOp ty1 f m))]) (B := [(24, some (opB x))] ++ coN c o) rfl i) (fun i => lk_swap (A := [(0, some (bRb ty mr C)), (1, some (bOp ty1 f m))]) (B := [(24, some (opB x))] ++ coN c o) rfl i)
            | [x0], _, _ => exact Ex.perm (crN1_0 ty mr C oo nk cc v tm m ty1 f now i x c o x0 kd hk hld h3 hkd hb hx hn htm) (fun i => lk_swap (A := [(0, some (bRb ty mr C)), (1, some (bOp ty1 f m))]) (B := [(24, some (opB x))] ++ coN c o) rfl i) (fun i => lk_swap (A := [(0, some (bRb ty mr C)), (1, some (bOp ty1 f m))]) (B := [(24, some (opB x))] ++ coN c o) rfl i)
            | [x0, x1], _, _ => exact Ex.perm (crN2_0 ty mr C oo nk cc v tm m ty1 f now i x c o x0 x1 kd hk hld h3 hkd hb hx hn htm) (fun i => lk_swap (A := [(0, some (bRb ty mr C)), (1, some (bOp ty1 f m))]) (B := [(24, some (opB x))] ++ coN c o) rfl i) (fun i => lk_swap (A := [(0, some (bRb ty mr C)), (1, some (bOp ty1 f m))]) (B := [(24, some (opB x))] ++ coN c o) rfl i)
            | [x0, x1, x2], _, _ => exact Ex.perm (crN3_0 ty mr C oo nk cc v tm m ty1 f now i x c o x0 x1 x2 kd hk hld h3 hkd hb hx hn htm) (fun i => lk_swap (A := [(0, some (bRb ty mr C)), (1, some (bOp ty1 f m))]) (B := [(24, some (opB x))] ++ coN c o) rfl i) (fun i => lk_swap (A := [(0, some (bRb ty mr C)), (1, some (bOp ty1 f m))]) (B := [(24, some (opB x))] ++ coN c o) rfl i)
            | [x0, x1, x2, x3], _, _ => exact Ex.perm (crN4_0 ty mr C oo nk cc v tm m ty1 f now i x c o x0 x1 x2 x3 kd hk hld h3 hkd hb hx hn htm) (fun i => lk_swap (A := [(0, some (bRb ty mr C)), (1, some (bOp ty1 f m))]) (B := [(24, some (opB x))] ++ coN c o) rfl i) (fun i => lk_swap (A := [(0, some (bRb ty mr C)), (1, some (bOp ty1 f m))]) (B := [(24, some (opB x))] ++ coN c o) rfl i)
            | [x0, x1, x2, x3, x4], _, _ => exact Ex.perm (crN5_0 ty mr C oo nk cc v tm m ty1 f now i x c o x0 x1 x2 x3 x4 kd hk hld h3 hkd hb hx hn htm) (fun i => lk_swap (A := [(0, some (bRb ty mr C)), (1, some (bOp ty1 f m))]) (B := [(24, some (opB x))] ++ coN c o) rfl i) (fun i => lk_swap (A := [(0, some (bRb ty mr C)), (1, some (bOp ty1 f m))]) (B := [(24, some (opB x))] ++ coN c o) rfl i)
            | _ :: _ :: _ :: _ :: _ :: _ :: _, _, hfull => exact absurd hfull (by simp)
          | true =>
            match ts, hlen, hfull with
            | [], _, _ => exact Ex.perm (crQ0_0 ty mr C oo nk cc v tm m ty1 f now i x c o kd hk hld h3 hkd hb hx hn htm) (fun i => lk_swap (A := [(0, some (bRb ty mr C)), (1, some (bOp ty1 f m))]) (B := [(24, some (opB x))] ++ coQ c o) rfl i) (fun i => lk_swap (A := [(0, some (bRb ty mr C)), (1, some (bOp ty1 f m))]) (B := [(24, some (opB x))] ++ coQ c o) rfl i)
            | [x0], _, _ => exact Ex.perm (crQ1_0 ty mr C oo nk cc v tm m ty1 f now i x c o x0 kd hk hld h3 hkd hb hx hn htm) (fun i => lk_swap (A := [(0, some (bRb ty mr C)), (1, some (bOp ty1 f m))]) (B := [(24, some (opB x))] ++ coQ c o) rfl i) (fun i => lk_swap (A := [(0, some (bRb ty mr C)), (1, some (bOp ty1 f m))]) (B := [(24, some (opB x))] ++ coQ c o) rfl i)
            | [x0, x1], _, _ => exact Ex.perm (crQ2_0 ty mr C oo nk cc v tm m ty1 f now i x c o x0 x1 kd hk hld h3 hkd hb hx hn htm) (fun i => lk_swap (A := [(0, some (bRb ty mr C)), (1, some (bOp ty1 f m))]) (B := [(24, some (opB x))] ++ coQ c o) rfl i) (fun i => lk_swap (A := [(0, some (bRb ty mr C)), (1, some (bOp ty1 f m))]) (B := [(24, some (opB x))] ++ coQ c o) rfl i)
            | [x0, x1, x2], _, _ => exact Ex.perm (crQ3_0 ty mr C oo nk cc v tm m ty1 f now i x c o x0 x1 x2 kd hk hld h3 hkd hb hx hn htm) (fun i => lk_swap (A := [(0, some (bRb ty mr C)), (1, some (bOp ty1 f m))]) (B := [(24, some (opB x))] ++ coQ c o) rfl i) (fun i => lk_swap (A := [(0, some (bRb ty mr C)), (1, some (bOp ty1 f m))]) (B := [(24, some (opB x))] ++ coQ c o) rfl i)
            | [x0, x1, x2, x3], _, _ => exact Ex.perm (crQ4_0 ty mr C oo nk cc v tm m ty1 f now i x c o x0 x1 x2 x3 kd hk hld h3 hkd hb hx hn htm) (fun i => lk_swap (A := [(0, some (bRb ty mr C)), (1, some (bOp ty1 f m))]) (B := [(24, some (opB x))] ++ coQ c o) rfl i) (fun i => lk_swap (A := [(0, some (bRb ty mr C)), (1, some (bOp ty1 f m))]) (B := [(24, some (opB x))] ++ coQ c o) rfl i)
            | [x0, x1, x2, x3, x4], _, _ => exact Ex.perm (crQ5_0 ty mr C oo nk cc v tm m ty1 f now i x c o x0 x1 x2 x3 x4 kd hk hld h3 hkd hb hx hn htm) (fun i => lk_swap (A := [(0, some (bRb ty mr C)), (1, some (bOp ty1 f m))]) (B := [(24, some (opB x))] ++ coQ c o) rfl i) (fun i => lk_swap (A := [(0, some (bRb ty mr C)), (1, some (bOp ty1 f m))]) (B := [(24, some (opB x))] ++ coQ c o) rfl i)
            | _ :: _ :: _ :: _ :: _ :: _ :: _, _, hfull => exact absurd hfull (by simp)
        · rw [show mk1 now tm kd x = ⟨tW (valM x.r false) x.v now tm, 0, now, tm⟩ by simp only [mk1, hkd]]
          cases vv with
          | false =>
            match ts, hlen, hfull with
            | [], _, _ => exact Ex.perm (crN0_1 ty mr C oo nk cc v tm m ty1 f now i x c o kd hk hld h3 hkd hb hx hn htm) (fun i => lk_swap (A := [(0, some (bRb ty mr C)), (1, some (bOp ty1 f m))]) (B := [(24, some (opB x))] ++ coN c o) rfl i) (fun i => lk_swap (A := [(0, some (bRb ty mr C)), (1, some (bOp ty1 f m))]) (B := [(24, some (opB x))] ++ coN c o) rfl i)
            | [x0], _, _ => exact Ex.perm (crN1_1 ty mr C oo nk cc v tm m ty1 f now i x c o x0 kd hk hld h3 hkd hb hx hn htm) (fun i => lk_swap (A := [(0, some (bRb ty mr C)), (1, some (bOp ty1 f m))]) (B := [(24, some (opB x))] ++ coN c o) rfl i) (fun i => lk_swap (A := [(0, some (bRb ty mr C)), (1, some (bOp ty1 f m))]) (B := [(24, some (opB x))] ++ coN c o) rfl i)
            | [x0, x1], _, _ => exact Ex.perm (crN2_1 ty mr C oo nk cc v tm m ty1 f now i x c o x0 x1 kd hk hld h3 hkd hb hx hn htm) (fun i => lk_swap (A := [(0, some (bRb ty mr C)), (1, some (bOp ty1 f m))]) (B := [(24, some (opB x))] ++ coN c o) rfl i) (fun i => lk_swap (A := [(0, some (bRb ty mr C)), (1, some (bOp ty1 f m))]) (B := [(24, some (opB x))] ++ coN c o) rfl i)
            | [x0, x1, x2], _, _ => exact Ex.perm (crN3_1 ty mr C oo nk cc v tm m ty1 f now i x c o x0 x1 x2 kd hk hld h3 hkd hb hx hn htm) (fun i => lk_swap (A := [(0, some (bRb ty mr C)), (1, some (bOp ty1 f m))]) (B := [(24, some (opB x))] ++ coN c o) rfl i) (fun i => lk_swap (A := [(0, some (bRb ty mr C)), (1, some (bOp ty1 f m))]) (B := [(24, some (opB x))] ++ coN c o) rfl i)
            | [x0, x1, x2, x3], _, _ => exact Ex.perm (crN4_1 ty mr C oo nk cc v tm m ty1 f now i x c o x0 x1 x2 x3 kd hk hld h3 hkd hb hx hn htm) (fun i => lk_swap (A := [(0, some (bRb ty mr C)), (1, some (bOp ty1 f m))]) (B := [(24, some (opB x))] ++ coN c o) rfl i) (fun i => lk_swap (A := [(0, some (bRb ty mr C)), (1, some (bOp ty1 f m))]) (B := [(24, some (opB x))] ++ coN c o) rfl i)
            | [x0, x1, x2, x3, x4], _, _ => exact Ex.perm (crN5_1 ty mr C oo nk cc v tm m ty1 f now i x c o x0 x1 x2 x3 x4 kd hk hld h3 hkd hb hx hn htm) (fun i => lk_swap (A := [(0, some (bRb ty mr C)), (1, some (bOp ty1 f m))]) (B := [(24, some (opB x))] ++ coN c o) rfl i) (fun i => lk_swap (A := [(0, some (bRb ty mr C)), (1, some (bOp ty1 f m))]) (B := [(24, some (opB x))] ++ coN c o) rfl i)
            | _ :: _ :: _ :: _ :: _ :: _ :: _, _, hfull => exact absurd hfull (by simp)
          | true =>
            match ts, hlen, hfull with
            | [], _, _ => exact Ex.perm (crQ0_1 ty mr C oo nk cc v tm m ty1 f now i x c o kd hk hld h3 hkd hb hx hn htm) (fun i => lk_swap (A := [(0, some (bRb ty mr C)), (1, some (bOp ty1 f m))]) (B := [(24, some (opB x))] ++ coQ c o) rfl i) (fun i => lk_swap (A := [(0, some (bRb ty mr C)), (1, some (bOp ty1 f m))]) (B := [(24, some (opB x))] ++ coQ c o) rfl i)
            | [x0], _, _ => exact Ex.perm (crQ1_1 ty mr C oo nk cc v tm m ty1 f now i x c o x0 kd hk hld h3 hkd hb hx hn htm) (fun i => lk_swap (A := [(0, some (bRb ty mr C)), (1, some (bOp ty1 f m))]) (B := [(24, some (opB x))] ++ coQ c o) rfl i) (fun i => lk_swap (A := [(0, some (bRb ty mr C)), (1, some (bOp ty1 f m))]) (B := [(24, some (opB x))] ++ coQ c o) rfl i)
            | [x0, x1], _, _ => exact Ex.perm (crQ2_1 ty mr C oo nk cc v tm m ty1 f now i x c o x0 x1 kd hk hld h3 hkd hb hx hn htm) (fun i => lk_swap (A := [(0, some (bRb ty mr C)), (1, some (bOp ty1 f m))]) (B := [(24, some (opB x))] ++ coQ c o) rfl i) (fun i => lk_swap (A := [(0, some (bRb ty mr C)), (1, some (bOp ty1 f m))]) (B := [(24, some (opB x))] ++ coQ c o) rfl i)
            | [x0, x1, x2], _, _ => exact Ex.perm (crQ3_1 ty mr C oo nk cc v tm m ty1 f now i x c o x0 x1 x2 kd hk hld h3 hkd hb hx hn htm) (fun i => lk_swap (A := [(0, some (bRb ty mr C)), (1, some (bOp ty1 f m))]) (B := [(24, some (opB x))] ++ coQ c o) rfl i) (fun i => lk_swap (A := [(0, some (bRb ty mr C)), (1, some (bOp ty1 f m))]) (B := [(24, some (opB x))] ++ coQ c o) rfl i)
            | [x0, x1, x2, x3], _, _ => exact Ex.perm (crQ4_1 ty mr C oo nk cc v tm m ty1 f now i x c o x0 x1 x2 x3 kd hk hld h3 hkd hb hx hn htm) (fun i => lk_swap (A := [(0, some (bRb ty mr C)), (1, some (bOp ty1 f m))]) (B := [(24, some (opB x))] ++ coQ c o) rfl i) (fun i => lk_swap (A := [(0, some (bRb ty mr C)), (1, some (bOp ty1 f m))]) (B := [(24, some (opB x))] ++ coQ c o) rfl i)
            | [x0, x1, x2, x3, x4], _, _ => exact Ex.perm (crQ5_1 ty mr C oo nk cc v tm m ty1 f now i x c o x0 x1 x2 x3 x4 kd hk hld h3 hkd hb hx hn htm) (fun i => lk_swap (A := [(0, some (bRb ty mr C)), (1, some (bOp ty1 f m))]) (B := [(24, some (opB x))] ++ coQ c o) rfl i) (fun i => lk_swap (A := [(0, some (bRb ty mr C)), (1, some (bOp ty1 f m))]) (B := [(24, some (opB x))] ++ coQ c o) rfl i)
            | _ :: _ :: _ :: _ :: _ :: _ :: _, _, hfull => exact absurd hfull (by simp)
        · rw [show mk1 now tm kd x = ⟨tQ now tm, 0, now, tm⟩ by simp only [mk1, hkd]]
          cases vv with
          | false =>
            match ts, hlen, hfull with
            | [], _, _ => exact Ex.perm (crN0_2 ty mr C oo nk cc v tm m ty1 f now i x c o kd hk hld h3 hkd hb hx hn htm) (fun i => lk_swap (A := [(0, some (bRb ty mr C)), (1, some (bOp ty1 f m))]) (B := [(24, some (opB x))] ++ coN c o) rfl i) (fun i => lk_swap (A := [(0, some (bRb ty mr C)), (1, some (bOp ty1 f m))]) (B := [(24, some (opB x))] ++ coN c o) rfl i)
            | [x0], _, _ => exact Ex.perm (crN1_2 ty mr C oo nk cc v tm m ty1 f now i x c o x0 kd hk hld h3 hkd hb hx hn htm) (fun i => lk_swap (A := [(0, some (bRb ty mr C)), (1, some (bOp ty1 f m))]) (B := [(24, some (opB x))] ++ coN c o) rfl i) (fun i => lk_swap (A := [(0, some (bRb ty mr C)), (1, some (bOp ty1 f m))]) (B := [(24, some (opB x))] ++ coN c o) rfl i)
            | [x0, x1], _, _ => exact Ex.perm (crN2_2 ty mr C oo nk cc v tm m ty1 f now i x c o x0 x1 kd hk hld h3 hkd hb hx hn htm) (fun i => lk_swap (A := [(0, some (bRb ty mr C)), (1, some (bOp ty1 f m))]) (B := [(24, some (opB x))] ++ coN c o) rfl i) (fun i => lk_swap (A := [(0, some (bRb ty mr C)), (1, some (bOp ty1 f m))]) (B := [(24, some (opB x))] ++ coN c o) rfl i)
            | [x0, x1, x2], _, _ => exact Ex.perm (crN3_2 ty mr C oo nk cc v tm m ty1 f now i x c o x0 x1 x2 kd hk hld h3 hkd hb hx hn htm) (fun i => lk_swap (A := [(0, some (bRb ty mr C)), (1, some (bOp ty1 f m))]) (B := [(24, some (opB x))] ++ coN c o) rfl i) (fun i => lk_swap (A := [(0, some (bRb ty mr C)), (1, some (bOp ty1 f m))]) (B := [(24, some (opB x))] ++ coN c o) rfl i)
            | [x0, x1, x2, x3], _, _ => exact Ex.perm (crN4_2 ty mr C oo nk cc v tm m ty1 f now i x c o x0 x1 x2 x3 kd hk hld h3 hkd hb hx hn htm) (fun i => lk_swap (A := [(0, some (bRb ty mr C)), (1, some (bOp ty1 f m))]) (B := [(24, some (opB x))] ++ coN c o) rfl i) (fun i => lk_swap (A := [(0, some (bRb ty mr C)), (1, some (bOp ty1 f m))]) (B := [(24, some (opB x))] ++ coN c o) rfl i)
            | [x0, x1, x2, x3, x4], _, _ => exact Ex.perm (crN5_2 ty mr C oo nk cc v tm m ty1 f now i x c o x0 x1 x2 x3 x4 kd hk hld h3 hkd hb hx hn htm) (fun i => lk_swap (A := [(0, some (bRb ty mr C)), (1, some (bOp ty1 f m))]) (B := [(24, some (opB x))] ++ coN c o) rfl i) (fun i => lk_swap (A := [(0, some (bRb ty mr C)), (1, some (bOp ty1 f m))]) (B := [(24, some (opB x))] ++ coN c o) rfl i)
            | _ :: _ :: _ :: _ :: _ :: _ :: _, _, hfull => exact absurd hfull (by simp)
          | true =>
            match ts, hlen, hfull with
            | [], _, _ => exact Ex.perm (crQ0_2 ty mr C oo nk cc v tm m ty1 f now i x c o kd hk hld h3 hkd hb hx hn htm) (fun i => lk_swap (A := [(0, some (bRb ty mr C)), (1, some (bOp ty1 f m))]) (B := [(24, some (opB x))] ++ coQ c o) rfl i) (fun i => lk_swap (A := [(0, some (bRb ty mr C)), (1, some (bOp ty1 f m))]) (B := [(24, some (opB x))] ++ coQ c o) rfl i)
            | [x0], _, _ => exact Ex.perm (crQ1_2 ty mr C oo nk cc v tm m ty1 f now i x c o x0 kd hk hld h3 hkd hb hx hn htm) (fun i => lk_swap (A := [(0, some (bRb ty mr C)), (1, some (bOp ty1 f m))]) (B := [(24, some (opB x))] ++ coQ c o) rfl i) (fun i => lk_swap (A := [(0, some (bRb ty mr C)), (1, some (bOp ty1 f m))]) (B := [(24, some (opB x))] ++ coQ c o) rfl i)
            | [x0, x1], _, _ => exact Ex.perm (crQ2_2 ty mr C oo nk cc v tm m ty1 f now i x c o x0 x1 kd hk hld h3 hkd hb hx hn htm) (fun i => lk_swap (A := [(0, some (bRb ty mr C)), (1, some (bOp ty1 f m))]) (B := [(24, some (opB x))] ++ coQ c o) rfl i) (fun i => lk_swap (A := [(0, some (bRb ty mr C)), (1, some (bOp ty1 f m))]) (B := [(24, some (opB x))] ++ coQ c o) rfl i)
            | [x0, x1, x2], _, _ => exact Ex.perm (crQ3_2 ty mr C oo nk cc v tm m ty1 f now i x c o x0 x1 x2 kd hk hld h3 hkd hb hx hn htm) (fun i => lk_swap (A := [(0, some (bRb ty mr C)), (1, some (bOp ty1 f m))]) (B := [(24, some (opB x))] ++ coQ c o) rfl i) (fun i => lk_swap (A := [(0, some (bRb ty mr C)), (1, some (bOp ty1 f m))]) (B := [(24, some (opB x))] ++ coQ c o) rfl i)
            | [x0, x1, x2, x3], _, _ => exact Ex.perm (crQ4_2 ty mr C oo nk cc v tm m ty1 f now i x c o x0 x1 x2 x3 kd hk hld h3 hkd hb hx hn htm) (fun i => lk_swap (A := [(0, some (bRb ty mr C)), (1, some (bOp ty1 f m))]) (B := [(24, some (opB x))] ++ coQ c o) rfl i) (fun i => lk_swap (A := [(0, some (bRb ty mr C)), (1, some (bOp ty1 f m))]) (B := [(24, some (opB x))] ++ coQ c o) rfl i)
            | [x0, x1, x2, x3, x4], _, _ => exact Ex.perm (crQ5_2 ty mr C oo nk cc v tm m ty1 f now i x c o x0 x1 x2 x3 x4 kd hk hld h3 hkd hb hx hn htm) (fun i => lk_swap (A := [(0, some (bRb ty mr C)), (1, some (bOp ty1 f m))]) (B := [(24, some (opB x))] ++ coQ c o) rfl i) (fun i => lk_swap (A := [(0, some (bRb ty mr C)), (1, some (bOp ty1 f m))]) (B := [(24, some (opB x))] ++ coQ c o) rfl i)
            | _ :: _ :: _ :: _ :: _ :: _ :: _, _, hfull => exact absurd hfull (by simp)
    · have e : s1F ⟨c, o, now, vv, ts⟩ x tm nk i kd = ⟨c, o, now, vv, ts⟩ := by
        unfold s1F; rw [if_neg]; rintro ⟨_, h, _⟩; exact absurd h h3
      rw [e]
      cases ts with
      | nil => exact Ex.perm (((pS1b_B0 ty mr C oo nk cc v tm m ty1 f now i x kd hk hld h3).framed ([(24, some (opB x))] ++ (co ⟨c, o, now, vv, []⟩ ++ TH [])) (okH_app (L := [(24, some (opB x))]) rfl (okH_up (a := 24) (by decide) (okH_app (co_ok _) (okH_up (by decide) (th_ok hlen))))) (apX_B ty mr C oo nk cc v tm m ty1 f i x c o now vv [] hlen)).less (by decide) (by decide)) (fun i => lk_swap (apS_B ty mr C oo nk cc v tm m ty1 f i x c o now vv [] hlen) i) (fun i => lk_swap (apS_B ty mr C oo nk cc v tm m ty1 f i x c o now vv [] hlen) i)
      | cons y r => exact Ex.perm (((pS1b_B1 ty mr C oo nk cc r.length v tm m ty1 f now i x kd hk hld h3).framed ([(24, some (opB x))] ++ (co ⟨c, o, now, vv, (y :: r)⟩ ++ TH (y :: r))) (okH_app (L := [(24, some (opB x))]) rfl (okH_up (a := 24) (by decide) (okH_app (co_ok _) (okH_up (by decide) (th_ok hlen))))) (apX_B ty mr C oo nk cc v tm m ty1 f i x c o now vv (y :: r) hlen)).less (by decide) (by decide)) (fun i => lk_swap (apS_B ty mr C oo nk cc v tm m ty1 f i x c o now vv (y :: r) hlen) i) (fun i => lk_swap (apS_B ty mr C oo nk cc v tm m ty1 f i x c o now vv (y :: r) hlen) i)
  · have e : s1F ⟨c, o, now, vv, ts⟩ x tm nk i kd = ⟨c, o, now, vv, ts⟩ := by
      unfold s1F; rw [if_neg]; rintro ⟨h, _⟩; exact absurd h hk
    rw [e]
    cases ts with
    | nil => exact ((pS1a_B0 ty mr C oo nk cc v tm m ty1 f now i x hk).framed ([(24, some (opB x))] ++ (co ⟨c, o, now, vv, []⟩ ++ ([(0, some (bRb ty mr C)), (1, some (bOp ty1 f m))] ++ TH []))) (okH_app (L := [(24, some (opB x))]) rfl (okH_up (a := 24) (by decide) (okR_B ty mr C oo nk cc v tm m ty1 f i x c o now vv [] hlen))) (apart_nil _)).less (by decide) (by decide)
    | cons y r => exact ((pS1a_B1 ty mr C oo nk cc r.length v tm m ty1 f now i x hk).framed ([(24, some (opB x))] ++ (co ⟨c, o, now, vv, (y :: r)⟩ ++ ([(0, some (bRb ty mr C)), (1, some (bOp ty1 f m))] ++ TH (y :: r)))) (okH_app (L := [(24, some (opB x))]) rfl (okH_up (a := 24) (by decide) (okR_B ty mr C oo nk cc v tm m ty1 f i x c o now vv (y :: r) hlen))) (apart_nil _)).less (by decide) (by decide)
theorem apON_B (ty : TypeId) (mr : Bool) (C : List S) (oo nk : Nat) (cc : Option Nat) (ty1 : TypeId) (f : Nat → OpV) (m : Nat) (x : OpV) (c : Cq) (o : Nat) (ts : List Tx) (hlen : ts.length ≤ 6) : apart ([(24, some (opB x))] ++ coN c o) ([(0, some (bRb ty mr C)), (1, some (bOp ty1 f m))] ++ TH ts) = true := apart_by fun i hi => by
  rw [keys_app, List.mem_append] at hi
  have h1 : i = 0 ∨ i = 1 ∨ (4 ≤ i ∧ i < 20) := by
    rcases hi with hi | hi
    · simp [keys] at hi; omega
    · have := th_keys hlen i hi; omega
  simp [keys, coN]; omega
theorem apOQ_B (ty : TypeId) (mr : Bool) (C : List S) (oo nk : Nat) (cc : Option Nat) (ty1 : TypeId) (f : Nat → OpV) (m : Nat) (x : OpV) (c : Cq) (o : Nat) (ts : List Tx) (hlen : ts.length ≤ 6) : apart ([(24, some (opB x))] ++ coQ c o) ([(0, some (bRb ty mr C)), (1, some (bOp ty1 f m))] ++ TH ts) = true := apart_by fun i hi => by
  rw [keys_app, List.mem_append] at hi
  have h1 : i = 0 ∨ i = 1 ∨ (4 ≤ i ∧ i < 20) := by
    rcases hi with hi | hi
    · simp [keys] at hi; omega
    · have := th_keys hlen i hi; omega
  simp [keys, coQ]; omega
theorem tS2_B (ty : TypeId) (mr : Bool) (C : List S) (oo nk : Nat) (cc : Option Nat) (v tm m : Nat) (ty1 : TypeId) (f : Nat → OpV) (i : Nat) (x : OpV) (c : Cq) (o now : Nat) (vv : Bool) (ts : List Tx) (hlen : ts.length ≤ 6) (h : c.ok) (hn : now < 2 ^ 64) (hq : vv = false → c.q = []) : Ex Try.prog 2 (sub [1, 0, 0, 1, 1, 1, 0] ((Try.f8.body.bind fstLoop).getD .skip)) (f9 (.s (.slc (some (0, oo)) nk cc)) v tm (.s (.slc (some (1, 0)) m none)) (va (ts : List Tx).length) (vb (ts : List Tx).length) now i) 25 ([(24, some (opB x))] ++ (co ⟨c, o, now, vv, ts⟩ ++ ([(0, some (bRb ty mr C)), (1, some (bOp ty1 f m))] ++ TH ts))) (One .normal (f9 (.s (.slc (some (0, oo)) nk cc)) v tm (.s (.slc (some (1, 0)) m none)) (va (s2F ⟨c, o, now, vv, ts⟩ x v).ts.length) (vb (s2F ⟨c, o, now, vv, ts⟩ x v).ts.length) (s2F ⟨c, o, now, vv, ts⟩ x v).now i) 25 ([(24, some (opB x))] ++ (co (s2F ⟨c, o, now, vv, ts⟩ x v) ++ ([(0, some (bRb ty mr C)), (1, some (bOp ty1 f m))] ++ TH (s2F ⟨c, o, now, vv, ts⟩ x v).ts)))) := by
  by_cases h7 : Int.tmod x.k 7 = 6
  · rw [show s2F ⟨c, o, now, vv, ts⟩ x v = ⟨wrtq c now (v % 4) false, o, now, vv, ts⟩ by simp only [s2F, if_pos h7]]
    cases vv with
    | false =>
      cases ts with
      | nil => exact ((pS2y_B0N ty mr C oo nk cc v tm m ty1 f now i x c o h hn (hq rfl) h7).framed ([(0, some (bRb ty mr C)), (1, some (bOp ty1 f m))] ++ TH []) (okH_app rfl (th_ok hlen)) (apON_B ty mr C oo nk cc ty1 f m x c o [] hlen)).less (by decide) (by decide)
      | cons y r => exact ((pS2y_B1N ty mr C oo nk cc r.length v tm m ty1 f now i x c o h hn (hq rfl) h7).framed ([(0, some (bRb ty mr C)), (1, some (bOp ty1 f m))] ++ TH (y :: r)) (okH_app rfl (th_ok hlen)) (apON_B ty mr C oo nk cc ty1 f m x c o (y :: r) hlen)).less (by decide) (by decide)
    | true =>
      cases ts with
      | nil => exact ((pS2y_B0Q ty mr C oo nk cc v tm m ty1 f now i x c o h hn h7).framed ([(0, some (bRb ty mr C)), (1, some (bOp ty1 f m))] ++ TH []) (okH_app rfl (th_ok hlen)) (apOQ_B ty mr C oo nk cc ty1 f m x c o [] hlen)).less (by decide) (by decide)
      | cons y r => exact ((pS2y_B1Q ty mr C oo nk cc r.length v tm m ty1 f now i x c o h hn h7).framed ([(0, some (bRb ty mr C)), (1, some (bOp ty1 f m))] ++ TH (y :: r)) (okH_app rfl (th_ok hlen)) (apOQ_B ty mr C oo nk cc ty1 f m x c o (y :: r) hlen)).less (by decide) (by decide)
  · rw [show s2F ⟨c, o, now, vv, ts⟩ x v = ⟨c, o, now, vv, ts⟩ by simp only [s2F, if_neg h7]]
    cases ts with
    | nil => exact ((pS2n_B0 ty mr C oo nk cc v tm m ty1 f now i x h7).framed (co ⟨c, o, now, vv, []⟩ ++ ([(0, some (bRb ty mr C)), (1, some (bOp ty1 f m))] ++ TH [])) (okR_B ty mr C oo nk cc v tm m ty1 f i x c o now vv [] hlen) (apR_B ty mr C oo nk cc v tm m ty1 f i x c o now vv [] hlen)).less (by decide) (by decide)
    | cons y r => exact ((pS2n_B1 ty mr C oo nk cc r.length v tm m ty1 f now i x h7).framed (co ⟨c, o, now, vv, (y :: r)⟩ ++ ([(0, some (bRb ty mr C)), (1, some (bOp ty1 f m))] ++ TH (y :: r))) (okR_B ty mr C oo nk cc v tm m ty1 f i x c o now vv (y :: r) hlen) (apR_B ty mr C oo nk cc v tm m ty1 f i x c o now vv (y :: r) hlen)).less (by decide) (by decide)
theorem tS3_B (ty : TypeId) (mr : Bool) (C : List S) (oo nk : Nat) (cc : Option Nat) (v tm m : Nat) (ty1 : TypeId) (f : Nat → OpV) (i : Nat) (x : OpV) (c : Cq) (o now : Nat) (vv : Bool) (ts : List Tx) (hlen : ts.length ≤ 6) (h : c.ok) (hq : vv = false → c.q = []) : Ex Try.prog 2 (sub [1, 0, 0, 1, 1, 1, 1, 0] ((Try.f8.body.bind fstLoop).getD .skip)) (f9 (.s (.slc (some (0, oo)) nk cc)) v tm (.s (.slc (some (1, 0)) m none)) (va (ts : List Tx).length) (vb (ts : List Tx).length) now i) 25 ([(24, some (opB x))] ++ (co ⟨c, o, now, vv, ts⟩ ++ ([(0, some (bRb ty mr C)), (1, some (bOp ty1 f m))] ++ TH ts))) (One .normal (f9 (.s (.slc (some (0, oo)) nk cc)) v tm (.s (.slc (some (1, 0)) m none)) (va (s3F ⟨c, o, now, vv, ts⟩ x v).ts.length) (vb (s3F ⟨c, o, now, vv, ts⟩ x v).ts.length) (s3F ⟨c, o, now, vv, ts⟩ x v).now i) 25 ([(24, some (opB x))] ++ (co (s3F ⟨c, o, now, vv, ts⟩ x v) ++ ([(0, some (bRb ty mr C)), (1, some (bOp ty1 f m))] ++ TH (s3F ⟨c, o, now, vv, ts⟩ x v).ts)))) := by
  by_cases h5 : Int.tmod x.k 5 = 4
  · rw [show s3F ⟨c, o, now, vv, ts⟩ x v = ⟨raiq c (1 + v % 8), o, now, true, ts⟩ by simp only [s3F, if_pos h5]]
    cases vv with
    | false =>
      rw [show raiq c (1 + v % 8) = { c with q := [1 + v % 8] } by simp only [raiq]; rw [if_neg (by omega), hq rfl]; rfl]
      cases ts with
      | nil => exact ((pS3y_B0N ty mr C oo nk cc v tm m ty1 f now i x c o h (hq rfl) h5).framed ([(0, some (bRb ty mr C)), (1, some (bOp ty1 f m))] ++ TH []) (okH_app rfl (th_ok hlen)) (apON_B ty mr C oo nk cc ty1 f m x c o [] hlen)).less (by decide) (by decide)
      | cons y r => exact ((pS3y_B1N ty mr C oo nk cc r.length v tm m ty1 f now i x c o h (hq rfl) h5).framed ([(0, some (bRb ty mr C)), (1, some (bOp ty1 f m))] ++ TH (y :: r)) (okH_app rfl (th_ok hlen)) (apON_B ty mr C oo nk cc ty1 f m x c o (y :: r) hlen)).less (by decide) (by decide)
    | true =>
      cases ts with
      | nil => exact ((pS3y_B0Q ty mr C oo nk cc v tm m ty1 f now i x c o h h5).framed ([(0, some (bRb ty mr C)), (1, some (bOp ty1 f m))] ++ TH []) (okH_app rfl (th_ok hlen)) (apOQ_B ty mr C oo nk cc ty1 f m x c o [] hlen)).less (by decide) (by decide)
      | cons y r => exact ((pS3y_B1Q ty mr C oo nk cc r.length v tm m ty1 f now i x c o h h5).framed ([(0, some (bRb ty mr C)), (1, some (bOp ty1 f m))] ++ TH (y :: r)) (okH_app rfl (th_ok hlen)) (apOQ_B ty mr C oo nk cc ty1 f m x c o (y :: r) hlen)).less (by decide) (by decide)
  · rw [show s3F ⟨c, o, now, vv, ts⟩ x v = ⟨c, o, now, vv, ts⟩ by simp only [s3F, if_neg h5]]
    cases ts with
    | nil => exact ((pS3n_B0 ty mr C oo nk cc v tm m ty1 f now i x h5).framed (co ⟨c, o, now, vv, []⟩ ++ ([(0, some (bRb ty mr C)), (1, some (bOp ty1 f m))] ++ TH [])) (okR_B ty mr C oo nk cc v tm m ty1 f i x c o now vv [] hlen) (apR_B ty mr C oo nk cc v tm m ty1 f i x c o now vv [] hlen)).less (by decide) (by decide)
    | cons y r => exact ((pS3n_B1 ty mr C oo nk cc r.length v tm m ty1 f now i x h5).framed (co ⟨c, o, now, vv, (y :: r)⟩ ++ ([(0, some (bRb ty mr C)), (1, some (bOp ty1 f m))] ++ TH (y :: r))) (okR_B ty mr C oo nk cc v tm m ty1 f i x c o now vv (y :: r) hlen) (apR_B ty mr C oo nk cc v tm m ty1 f i x c o now vv (y :: r) hlen)).less (by decide) (by decide)
theorem tS4_B (ty : TypeId) (mr : Bool) (C : List S) (oo nk : Nat) (cc : Option Nat) (v tm m : Nat) (ty1 : TypeId) (f : Nat → OpV) (i : Nat) (x : OpV) (c : Cq) (o now : Nat) (vv : Bool) (ts : List Tx) (hlen : ts.length ≤ 6) (h : c.ok) (hn : now < 2 ^ 64) (hq : vv = false → c.q = []) (hts6 : ∀ y ∈ ts, y.ok) : Ex Try.prog 2 (sub [1, 0, 0, 1, 1, 1, 1, 1] ((Try.f8.body.bind fstLoop).getD .skip)) (f9 (.s (.slc (some (0, oo)) nk cc)) v tm (.s (.slc (some (1, 0)) m none)) (va (ts : List Tx).length) (vb (ts : List Tx).length) now i) 25 ([(24, some (opB x))] ++ (co ⟨c, o, now, vv, ts⟩ ++ ([(0, some (bRb ty mr C)), (1, some (bOp ty1 f m))] ++ TH ts))) (One .normal (f9 (.s (.slc (some (0, oo)) nk cc)) v tm (.s (.slc (some (1, 0)) m none)) (va (s4F ⟨c, o, now, vv, ts⟩ x).ts.length) (vb (s4F ⟨c, o, now, vv, ts⟩ x).ts.length) (s4F ⟨c, o, now, vv, ts⟩ x).now i) 25 ([(24, some (opB x))] ++ (co (s4F ⟨c, o, now, vv, ts⟩ x) ++ ([(0, some (bRb ty mr C)), (1, some (bOp ty1 f m))] ++ TH (s4F ⟨c, o, now, vv, ts⟩ x).ts)))) := by
  match ts, hlen, hts6 with
  | [], hlen, _ => exact ((pS4n_B0 ty mr C oo nk cc v tm m ty1 f now i x ).framed ([(24, some (opB x))] ++ (co ⟨c, o, now, vv, []⟩ ++ ([(0, some (bRb ty mr C)), (1, some (bOp ty1 f m))] ++ TH []))) (okH_app (L := [(24, some (opB x))]) rfl (okH_up (a := 24) (by decide) (okR_B ty mr C oo nk cc v tm m ty1 f i x c o now vv [] hlen))) (apart_nil _)).less (by decide) (by decide)
  | [x0], hlen, hts6 =>
    have hk : modM x.k 1 < 1 := Nat.mod_lt _ (by decide)
    have hk : modM x.k 1 = 0 := by omega
    have hy := hts6 x0 (by simp)
    rw [show s4F ⟨c, o, now, vv, [x0]⟩ x = ⟨(stepTq x0.t c now).2, stepO x0.t c o now, now, vv, [⟨(stepTq x0.t c now).1, stepE x0.t c x0.pe now, x0.st, x0.tm⟩]⟩ by simp only [s4F, List.length_cons, List.length_nil, Nat.zero_add, Nat.reduceAdd, hk]; rfl]
    cases vv with
    | false =>
      have g1 := step_N x0.t c now h hn (hq rfl) hy.t hy.ph
      have g2 := rstep_N x0.t x0.pe x0.st x0.tm c o now h hn (hq rfl) hy.t hy.ph hy.st hy.tm hy.dl
      rw [outT_eq] at g1 g2
      exact Ex.perm (spN1_0 ty mr C oo nk cc v tm m ty1 f now i x c o x0 _ _ _ _ hk g1 g2) (fun i => lk_swap (A := [(0, some (bRb ty mr C)), (1, some (bOp ty1 f m))]) (B := [(24, some (opB x))] ++ coN _ _) rfl i) (fun i => lk_swap (A := [(0, some (bRb ty mr C)), (1, some (bOp ty1 f m))]) (B := [(24, some (opB x))] ++ coN _ _) rfl i)
    | true =>
      have g1 := step_Q x0.t c now h hn hy.t hy.ph
      have g2 := rstep_Q x0.t x0.pe x0.st x0.tm c o now h hn hy.t hy.ph hy.st hy.tm hy.dl
      rw [outT_eq] at g1 g2
      exact Ex.perm (spQ1_0 ty mr C oo nk cc v tm m ty1 f now i x c o x0 _ _ _ _ hk g1 g2) (fun i => lk_swap (A := [(0, some (bRb ty mr C)), (1, some (bOp ty1 f m))]) (B := [(24, some (opB x))] ++ coQ _ _) rfl i) (fun i => lk_swap (A := [(0, some (bRb ty mr C)), (1, some (bOp ty1 f m))]) (B := [(24, some (opB x))] ++ coQ _ _) rfl i)
  | [x0, x1], hlen, hts6 =>
    have hk : modM x.k 2 < 2 := Nat.mod_lt _ (by decide)
    have hk : modM x.k 2 = 0 ∨ modM x.k 2 = 1 := by omega
    rcases hk with hk | hk
    · have hy := hts6 x0 (by simp)
      rw [show s4F ⟨c, o, now, vv, [x0, x1]⟩ x = ⟨(stepTq x0.t c now).2, stepO x0.t c o now, now, vv, [⟨(stepTq x0.t c now).1, stepE x0.t c x0.pe now, x0.st, x0.tm⟩, x1]⟩ by simp only [s4F, List.length_cons, List.length_nil, Nat.zero_add, Nat.reduceAdd, hk]; rfl]
      cases vv with
      | false =>
        have g1 := step_N x0.t c now h hn (hq rfl) hy.t hy.ph
        have g2 := rstep_N x0.t x0.pe x0.st x0.tm c o now h hn (hq rfl) hy.t hy.ph hy.st hy.tm hy.dl
        rw [outT_eq] at g1 g2
        exact Ex.perm (spN2_0 ty mr C oo nk cc v tm m ty1 f now i x c o x0 x1 _ _ _ _ hk g1 g2) (fun i => lk_swap (A := [(0, some (bRb ty mr C)), (1, some (bOp ty1 f m))]) (B := [(24, some (opB x))] ++ coN _ _) rfl i) (fun i => lk_swap (A := [(0, some (bRb ty mr C)), (1, some (bOp ty1 f m))]) (B := [(24, some (opB x))] ++ coN _ _) rfl i)
      | true =>
        have g1 := step_Q x0.t c now h hn hy.t hy.ph
        have g2 := rstep_Q x0.t x0.pe x0.st x0.tm c o now h hn hy.t hy.ph hy.st hy.tm hy.dl
        rw [outT_eq] at g1 g2
        exact Ex.perm (spQ2_0 ty mr C oo nk cc v tm m ty1 f now i x c o x0 x1 _ _ _ _ hk g1 g2) (fun i => lk_swap (A := [(0, some (bRb ty mr C)), (1, some (bOp ty1 f m))]) (B := [(24, some (opB x))] ++ coQ _ _) rfl i) (fun i => lk_swap (A := [(0, some (bRb ty mr C)), (1, some (bOp ty1 f m))]) (B := [(24, some (opB x))] ++ coQ _ _) rfl i)
    · have hy := hts6 x1 (by simp)
      rw [show s4F ⟨c, o, now, vv, [x0, x1]⟩ x = ⟨(stepTq x1.t c now).2, stepO x1.t c o now, now, vv, [x0, ⟨(stepTq x1.t c now).1, stepE x1.t c x1.pe now, x1.st, x1.tm⟩]⟩ by simp only [s4F, List.length_cons, List.length_nil, Nat.zero_add, Nat.reduceAdd, hk]; rfl]
      cases vv with
      | false =>
        have g1 := step_N x1.t c now h hn (hq rfl) hy.t hy.ph
        have g2 := rstep_N x1.t x1.pe x1.st x1.tm c o now h hn (hq rfl) hy.t hy.ph hy.st hy.tm hy.dl
        rw [outT_eq] at g1 g2
        exact Ex.perm (spN2_1 ty mr C oo nk cc v tm m ty1 f now i x c o x0 x1 _ _ _ _ hk g1 g2) (fun i => lk_swap (A := [(0, some (bRb ty mr C)), (1, some (bOp ty1 f m))]) (B := [(24, some (opB x))] ++ coN _ _) rfl i) (fun i => lk_swap (A := [(0, some (bRb ty mr C)), (1, some (bOp ty1 f m))]) (B := [(24, some (opB x))] ++ coN _ _) rfl i)
      | true =>
        have g1 := step_Q x1.t c now h hn hy.t hy.ph
        have g2 := rstep_Q x1.t x1.pe x1.st x1.tm c o now h hn hy.t hy.ph hy.st hy.tm hy.dl
        rw [outT_eq] at g1 g2
        exact Ex.perm (spQ2_1 ty mr C oo nk cc v tm m ty1 f now i x c o x0 x1 _ _ _ _ hk g1 g2) (fun i => lk_swap (A := [(0, some (bRb ty mr C)), (1, some (bOp ty1 f m))]) (B := [(24, some (opB x))] ++ coQ _ _) rfl i) (fun i => lk_swap (A := [(0, some (bRb ty mr C)), (1, some (bOp ty1 f m))]) (B := [(24, some (opB x))] ++ coQ _ _) rfl i)
  | [x0, x1, x2], hlen, hts6 =>
    have hk : modM x.k 3 < 3 := Nat.mod_lt _ (by decide)
    have hk : modM x.k 3 = 0 ∨ modM x.k 3 = 1 ∨ modM x.k 3 = 2 := by omega
    rcases hk with hk | hk | hk
    · have hy := hts6 x0 (by simp)
      rw [show s4F ⟨c, o, now, vv, [x0, x1, x2]⟩ x = ⟨(stepTq x0.t c now).2, stepO x0.t c o now, now, vv, [⟨(stepTq x0.t c now).1, stepE x0.t c x0.pe now, x0.st, x0.tm⟩, x1, x2]⟩ by simp only [s4F, List.length_cons, List.length_nil, Nat.zero_add, Nat.reduceAdd, hk]; rfl]
      cases vv with
      | false =>
        have g1 := step_N x0.t c now h hn (hq rfl) hy.t hy.ph
        have g2 := rstep_N x0.t x0.pe x0.st x0.tm c o now h hn (hq rfl) hy.t hy.ph hy.st hy.tm hy.dl
        rw [outT_eq] at g1 g2
        exact Ex.perm (spN3_0 ty mr C oo nk cc v tm m ty1 f now i x c o x0 x1 x2 _ _ _ _ hk g1 g2) (fun i => lk_swap (A := [(0, some (bRb ty mr C)), (1, some (bOp ty1 f m))]) (B := [(24, some (opB x))] ++ coN _ _) rfl i) (fun i => lk_swap (A := [(0, some (bRb ty mr C)), (1, some (bOp ty1 f m))]) (B := [(24, some (opB x))] ++ coN _ _) rfl i)
      | true =>
        have g1 := step_Q x0.t c now h hn hy.t hy.ph
        have g2 := rstep_Q x0.t x0.pe x0.st x0.tm c o now h hn hy.t hy.ph hy.st hy.tm hy.dl
        rw [outT_eq] at g1 g2
        exact Ex.perm (spQ3_0 ty mr C oo nk cc v tm m ty1 f now i x c o x0 x1 x2 _ _ _ _ hk g1 g2) (fun i => lk_swap (A := [(0, some (bRb ty mr C)), (1, some (bOp ty1 f m))]) (B := [(24, some (opB x))] ++ coQ _ _) rfl i) (fun i => lk_swap (A := [(0, some (bRb ty mr C)), (1, some (bOp ty1 f m))]) (B := [(24, some (opB x))] ++ coQ _ _) rfl i)
    · have hy := hts6 x1 (by simp)
      rw [show s4F ⟨c, o, now, vv, [x0, x1, x2]⟩ x = ⟨(stepTq x1.t c now).2, stepO x1.t c o now, now, vv, [x0, ⟨(stepTq x1.t c now).1, stepE x1.t c x1.pe now, x1.st, x1.tm⟩, x2]⟩ by simp only [s4F, List.length_cons, List.length_nil, Nat.zero_add, Nat.reduceAdd, hk]; rfl]
      cases vv with
      | false =>
        have g1 := step_N x1.t c now h hn (hq rfl) hy.t hy.ph
        have g2 := rstep_N x1.t x1.pe x1.st x1.tm c o now h hn (hq rfl) hy.t hy.ph hy.st hy.tm hy.dl
        rw [outT_eq] at g1 g2
        exact Ex.perm (spN3_1 ty mr C oo nk cc v tm m ty1 f now i x c o x0 x1 x2 _ _ _ _ hk g1 g2) (fun i => lk_swap (A := [(0, some (bRb ty mr C)), (1, some (bOp ty1 f m))]) (B := [(24, some (opB x))] ++ coN _ _) rfl i) (fun i => lk_swap (A := [(0, some (bRb ty mr C)), (1, some (bOp ty1 f m))]) (B := [(24, some (opB x))] ++ coN _ _) rfl i)
      | true =>
        have g1 := step_Q x1.t c now h hn hy.t hy.ph
        have g2 := rstep_Q x1.t x1.pe x1.st x1.tm c o now h hn hy.t hy.ph hy.st hy.tm hy.dl
        rw [outT_eq] at g1 g2
        exact Ex.perm (spQ3_1 ty mr C oo nk cc v tm m ty1 f now i x c o x0 x1 x2 _ _ _ _ hk g1 g2) (fun i => lk_swap (A := [(0, some (bRb ty mr C)), (1, some (bOp ty1 f m))]) (B := [(24, some (opB x))] ++ coQ _ _) rfl i) (fun i => lk_swap (A := [(0, some (bRb ty mr C)), (1, some (bOp ty1 f m))]) (B := [(24, some (opB x))] ++ coQ _ _) rfl i)
    · have hy := hts6 x2 (by simp)
      rw [show s4F ⟨c, o, now, vv, [x0, x1, x2]⟩ x = ⟨(stepTq x2.t c now).2, stepO x2.t c o now, now, vv, [x0, x1, ⟨(stepTq x2.t c now).1, stepE x2.t c x2.pe now, x2.st, x2.tm⟩]⟩ by simp only [s4F, List.length_cons, List.length_nil, Nat.zero_add, Nat.reduceAdd, hk]; rfl]
      cases vv with
      | false =>
        have g1 := step_N x2.t c now h hn (hq rfl) hy.t hy.ph
        have g2 := rstep_N x2.t x2.pe x2.st x2.tm c o now h hn (hq rfl) hy.t hy.ph hy.st hy.tm hy.dl
        rw [outT_eq] at g1 g2
        exact Ex.perm (spN3_2 ty mr C oo nk cc v tm m ty1 f now i x c o x0 x1 x2 _ _ _ _ hk g1 g2) (fun i => lk_swap (A := [(0, some (bRb ty mr C)), (1, some (bOp ty1 f m))]) (B := [(24, some (opB x))] ++ coN _ _) rfl i) (fun i => lk_swap (A := [(0, some (bRb ty mr C)), (1, some (bOp ty1 f m))]) (B := [(24, some (opB x))] ++ coN _ _) rfl i)
      | true =>
        have g1 := step_Q x2.t c now h hn hy.t hy.ph
        have g2 := rstep_Q x2.t x2.pe x2.st x2.tm c o now h hn hy.t hy.ph hy.st hy.tm hy.dl
        rw [outT_eq] at g1 g2
        exact Ex.perm (spQ3_2 ty mr C oo nk cc v tm m ty1 f now i x c o x0 x1 x2 _ _ _ _ hk g1 g2) (fun i => lk_swap (A := [(0, some (bRb ty mr C)), (1, some (bOp ty1 f m))]) (B := [(24, some (opB x))] ++ coQ _ _) rfl i) (fun i => lk_swap (A := [(0, some (bRb ty mr C)), (1, some (bOp ty1 f m))]) (B := [(24, some (opB x))] ++ coQ _ _) rfl i)
  | [x0, x1, x2, x3], hlen, hts6 =>
    have hk : modM x.k 4 < 4 := Nat.mod_lt _ (by decide)
    have hk : modM x.k 4 = 0 ∨ modM x.k 4 = 1 ∨ modM x.k 4 = 2 ∨ modM x.k 4 = 3 := by omega
    rcases hk with hk | hk | hk | hk
    · have hy := hts6 x0 (by simp)
      rw [show s4F ⟨c, o, now, vv, [x0, x1, x2, x3]⟩ x = ⟨(stepTq x0.t c now).2, stepO x0.t c o now, now, vv, [⟨(stepTq x0.t c now).1, stepE x0.t c x0.pe now, x0.st, x0.tm⟩, x1, x2, x3]⟩ by simp only [s4F, List.length_cons, List.length_nil, Nat.zero_add, Nat.reduceAdd, hk]; rfl]
      cases vv with
      | false =>
        have g1 := step_N x0.t c now h hn (hq rfl) hy.t hy.ph
        have g2 := rstep_N x0.t x0.pe x0.st x0.tm c o now h hn (hq rfl) hy.t hy.ph hy.st hy.tm hy.dl
        rw [outT_eq] at g1 g2
        exact Ex.perm (spN4_0 ty mr C oo nk cc v tm m ty1 f now i x c o x0 x1 x2 x3 _ _ _ _ hk g1 g2) (fun i => lk_swap (A := [(0, some (bRb ty mr C)), (1, some (bOp ty1 f m))]) (B := [(24, some (opB x))] ++ coN _ _) rfl i) (fun i => lk_swap (A := [(0, some (bRb ty mr C)), (1, some (bOp ty1 f m))]) (B := [(24, some (opB x))] ++ coN _ _) rfl i)
      | true =>
        have g1 := step_Q x0.t c now h hn hy.t hy.ph
        have g2 := rstep_Q x0.t x0.pe x0.st x0.tm c o now h hn hy.t hy.ph hy.st hy.tm hy.dl
        rw [outT_eq] at g1 g2
        exact Ex.perm (spQ4_0 ty mr C oo nk cc v tm m ty1 f now i x c o x0 x1 x2 x3 _ _ _ _ hk g1 g2) (fun i => lk_swap (A := [(0, some (bRb ty mr C)), (1, some (bOp ty1 f m))]) (B := [(24, some (opB x))] ++ coQ _ _) rfl i) (fun i => lk_swap (A := [(0, some (bRb ty mr C)), (1, some (bOp ty1 f m))]) (B := [(24, some (opB x))] ++ coQ _ _) rfl i)
    · have hy := hts6 x1 (by simp)
      rw [show s4F ⟨c, o, now, vv, [x0, x1, x2, x3]⟩ x = ⟨(stepTq x1.t c now).2, stepO x1.t c o now, now, vv, [x0, ⟨(stepTq x1.t c now).1, stepE x1.t c x1.pe now, x1.st, x1.tm⟩, x2, x3]⟩ by simp only [s4F, List.length_cons, List.length_nil, Nat.zero_add, Nat.reduceAdd, hk]; rfl]
      cases vv with
      | false =>
        have g1 := step_N x1.t c now h hn (hq rfl) hy.t hy.ph
        have g2 := rstep_N x1.t x1.pe x1.st x1.tm c o now h hn (hq rfl) hy.t hy.ph hy.st hy.tm hy.dl
        rw [outT_eq] at g1 g2
        exact Ex.perm (spN4_1 ty mr C oo nk cc v tm m ty1 f now i x c o x0 x1 x2 x3 _ _ _ _ hk g1 g2) (fun i => lk_swap (A := [(0, some (bRb ty mr C)), (1, some (bOp ty1 f m))]) (B := [(24, some (opB x))] ++ coN _ _) rfl i) (fun i => lk_swap (A := [(0, some (bRb ty mr C)), (1, some (bOp ty1 f m))]) (B := [(24, some (opB x))] ++ coN _ _) rfl i)
      | true =>
        have g1 := step_Q x1.t c now h hn hy.t hy.ph
        have g2 := rstep_Q x1.t x1.pe x1.st x1.tm c o now h hn hy.t hy.ph hy.st hy.tm hy.dl
        rw [outT_eq] at g1 g2
        exact Ex.perm (spQ4_1 ty mr C oo nk cc v tm m ty1 f now i x c o x0 x1 x2 x3 _ _ _ _ hk g1 g2) (fun i => lk_swap (A := [(0, some (bRb ty mr C)), (1, some (bOp ty1 f m))]) (B := [(24, some (opB x))] ++ coQ _ _) rfl i) (fun i => lk_swap (A := [(0, some (bRb ty mr C)), (1, some (bOp ty1 f m))]) (B := [(24, some (opB x))] ++ coQ _ _) rfl i)
    · have hy := hts6 x2 (by simp)
      rw [show s4F ⟨c, o, now, vv, [x0, x1, x2, x3]⟩ x = ⟨(stepTq x2.t c now).2, stepO x2.t c o now, now, vv, [x0, x1, ⟨(stepTq x2.t c now).1, stepE x2.t c x2.pe now, x2.st, x2.tm⟩, x3]⟩ by simp only [s4F, List.length_cons, List.length_nil, Nat.zero_add, Nat.reduceAdd, hk]; rfl]
      cases vv with
      | false =>
        have g1 := step_N x2.t c now h hn (hq rfl) hy.t hy.ph
        have g2 := rstep_N x2.t x2.pe x2.st x2.tm c o now h hn (hq rfl) hy.t hy.ph hy.st hy.tm hy.dl
        rw [outT_eq] at g1 g2
        exact Ex.perm (spN4_2 ty mr C oo nk cc v tm m ty1 f now i x c o x0 x1 x2 x3 _ _ _ _ hk g1 g2) (fun i => lk_swap (A := [(0, some (bRb ty mr C)), (1, some (bOp ty1 f m))]) (B := [(24, some (opB x))] ++ coN _ _) rfl i) (fun i => lk_swap (A := [(0, some (bRb ty mr C)), (1, some (bOp ty1 f m))]) (B := [(24, some (opB x))] ++ coN _ _) rfl i)
      | true =>
        have g1 := step_Q x2.t c now h hn hy.t hy.ph
        have g2 := rstep_Q x2.t x2.pe x2.st x2.tm c o now h hn hy.t hy.ph hy.st hy.tm hy.dl
        rw [outT_eq] at g1 g2
        exact Ex.perm (spQ4_2 ty mr C oo nk cc v tm m ty1 f now i x c o x0 x1 x2 x3 _ _ _ _ hk g1 g2) (fun i => lk_swap (A := [(0, some (bRb ty mr C)), (1, some (bOp ty1 f m))]) (B := [(24, some (opB x))] ++ coQ _ _) rfl i) (fun i => lk_swap (A := [(0, some (bRb ty mr C)), (1, some (bOp ty1 f m))]) (B := [(24, some (opB x))] ++ coQ _ _) rfl i)
    · have hy := hts6 x3 (by simp)
      rw [show s4F ⟨c, o, now, vv, [x0, x1, x2, x3]⟩ x = ⟨(stepTq x3.t c now).2, stepO x3.t c o now, now, vv, [x0, x1, x2, ⟨(stepTq x3.t c now).1, stepE x3.t c x3.pe now, x3.st, x3.tm⟩]⟩ by simp only [s4F, List.length_cons, List.length_nil, Nat.zero_add, Nat.reduceAdd, hk]; rfl]
      cases vv with
      | false =>
        have g1 := step_N x3.t c now h hn (hq rfl) hy.t hy.ph
        have g2 := rstep_N x3.t x3.pe x3.st x3.tm c o now h hn (hq rfl) hy.t hy.ph hy.st hy.tm hy.dl
        rw [outT_eq] at g1 g2
        exact Ex.perm (spN4_3 ty mr C oo nk cc v tm m ty1 f now i x c o x0 x1 x2 x3 _ _ _ _ hk g1 g2) (fun i => lk_swap (A := [(0, some (bRb ty mr C)), (1, some (bOp ty1 f m))]) (B := [(24, some (opB x))] ++ coN _ _) rfl i) (fun i => lk_swap (A := [(0, some (bRb ty mr C)), (1, some (bOp ty1 f m))]) (B := [(24, some (opB x))] ++ coN _ _) rfl i)
      | true =>
        have g1 := step_Q x3.t c now h hn hy.t hy.ph
        have g2 := rstep_Q x3.t x3.pe x3.st x3.tm c o now h hn hy.t hy.ph hy.st hy.tm hy.dl
        rw [outT_eq] at g1 g2
        exact Ex.perm (spQ4_3 ty mr C oo nk cc v tm m ty1 f now i x c o x0 x1 x2 x3 _ _ _ _ hk g1 g2) (fun i => lk_swap (A := [(0, some (bRb ty mr C)), (1, some (bOp ty1 f m))]) (B := [(24, some (opB x))] ++ coQ _ _) rfl i) (fun i => lk_swap (A := [(0, some (bRb ty mr C)), (1, some (bOp ty1 f m))]) (B := [(24, some (opB x))] ++ coQ _ _) rfl i)
  | [x0, x1, x2, x3, x4], hlen, hts6 =>
    have hk : modM x.k 5 < 5 := Nat.mod_lt _ (by decide)
    have hk : modM x.k 5 = 0 ∨ modM x.k 5 = 1 ∨ modM x.k 5 = 2 ∨ modM x.k 5 = 3 ∨ modM x.k 5 = 4 := by omega
    rcases hk with hk | hk | hk | hk | hk
    · have hy := hts6 x0 (by simp)
      rw [show s4F ⟨c, o, now, vv, [x0, x1, x2, x3, x4]⟩ x = ⟨(stepTq x0.t c now).2, stepO x0.t c o now, now, vv, [⟨(stepTq x0.t c now).1, stepE x0.t c x0.pe now, x0.st, x0.tm⟩, x1, x2, x3, x4]⟩ by simp only [s4F, List.length_cons, List.length_nil, Nat.zero_add, Nat.reduceAdd, hk]; rfl]
      cases vv with
      | false =>
        have g1 := step_N x0.t c now h hn (hq rfl) hy.t hy.ph
        have g2 := rstep_N x0.t x0.pe x0.st x0.tm c o now h hn (hq rfl) hy.t hy.ph hy.st hy.tm hy.dl
        rw [outT_eq] at g1 g2
        exact Ex.perm (spN5_0 ty mr C oo nk cc v tm m ty1 f now i x c o x0 x1 x2 x3 x4 _ _ _ _ hk g1 g2) (fun i => lk_swap (A := [(0, some (bRb ty mr C)), (1, some (bOp ty1 f m))]) (B := [(24, some (opB x))] ++ coN _ _) rfl i) (fun i => lk_swap (A := [(0, some (bRb ty mr C)), (1, some (bOp ty1 f m))]) (B := [(24, some (opB x))] ++ coN _ _) rfl i)
      | true =>
        have g1 := step_Q x0.t c now h hn hy.t hy.ph
        have g2 := rstep_Q x0.t x0.pe x0.st x0.tm c o now h hn hy.t hy.ph hy.st hy.tm hy.dl
        rw [outT_eq] at g1 g2
        exact Ex.perm (spQ5_0 ty mr C oo nk cc v tm m ty1 f now i x c o x0 x1 x2 x3 x4 _ _ _ _ hk g1 g2) (fun i => lk_swap (A := [(0, some (bRb ty mr C)), (1, some (bOp ty1 f m))]) (B := [(24, some (opB x))] ++ coQ _ _) rfl i) (fun i => lk_swap (A := [(0, some (bRb ty mr C)), (1, some (bOp ty1 f m))]) (B := [(24, some (opB x))] ++ coQ _ _) rfl i)
    · have hy := hts6 x1 (by simp)
      rw [show s4F ⟨c, o, now, vv, [x0, x1, x2, x3, x4]⟩ x = ⟨(stepTq x1.t c now).2, stepO x1.t c o now, now, vv, [x0, ⟨(stepTq x1.t c now).1, stepE x1.t c x1.pe now, x1.st, x1.tm⟩, x2, x3, x4]⟩ by simp only [s4F, List.length_cons, List.length_nil, Nat.zero_add, Nat.reduceAdd, hk]; rfl]
      cases vv with
      | false =>
        have g1 := step_N x1.t c now h hn (hq rfl) hy.t hy.ph
        have g2 := rstep_N x1.t x1.pe x1.st x1.tm c o now h hn (hq rfl) hy.t hy.ph hy.st hy.tm hy.dl
        rw [outT_eq] at g1 g2
        exact Ex.perm (spN5_1 ty mr C oo nk cc v tm m ty1 f now i x c o x0 x1 x2 x3 x4 _ _ _ _ hk g1 g2) (fun i => lk_swap (A := [(0, some (bRb ty mr C)), (1, some (bOp ty1 f m))]) (B := [(24, some (opB x))] ++ coN _ _) rfl i) (fun i => lk_swap (A := [(0, some (bRb ty mr C)), (1, some (bOp ty1 f m))]) (B := [(24, some (opB x))] ++ coN _ _) rfl i)
      | true =>
        have g1 := step_Q x1.t c now h hn hy.t hy.ph
        have g2 := rstep_Q x1.t x1.pe x1.st x1.tm c o now h hn hy.t hy.ph hy.st hy.tm hy.dl
        rw [outT_eq] at g1 g2
        exact Ex.perm (spQ5_1 ty mr C oo nk cc v tm m ty1 f now i x c o x0 x1 x2 x3 x4 _ _ _ _ hk g1 g2) (fun i => lk_swap (A := [(0, some (bRb ty mr C)), (1, some (bOp ty1 f m))]) (B := [(24, some (opB x))] ++ coQ _ _) rfl i) (fun i => lk_swap (A := [(0, some (bRb ty mr C)), (1, some (bOp ty1 f m))]) (B := [(24, some (opB x))] ++ coQ _ _) rfl i)
    · have hy := hts6 x2 (by simp)
      rw [show s4F ⟨c, o, now, vv, [x0, x1, x2, x3, x4]⟩ x = ⟨(stepTq x2.t c now).2, stepO x2.t c o now, now, vv, [x0, x1, ⟨(stepTq x2.t c now).1, stepE x2.t c x2.pe now, x2.st, x2.tm⟩, x3, x4]⟩ by simp only [s4F, List.length_cons, List.length_nil, Nat.zero_add, Nat.reduceAdd, hk]; rfl]
      cases vv with
      | false =>
        have g1 := step_N x2.t c now h hn (hq rfl) hy.t hy.ph
        have g2 := rstep_N x2.t x2.pe x2.st x2.tm c o now h hn (hq rfl) hy.t hy.ph hy.st hy.tm hy.dl
        rw [outT_eq] at g1 g2
        exact Ex.perm (spN5_2 ty mr C oo nk cc v tm m ty1 f now i x c o x0 x1 x2 x3 x4 _ _ _ _ hk g1 g2) (fun i => lk_swap (A := [(0, some (bRb ty mr C)), (1, some (bOp ty1 f m))]) (B := [(24, some (opB x))] ++ coN _ _) rfl i) (fun i => lk_swap (A := [(0, some (bRb ty mr C)), (1, some (bOp ty1 f m))]) (B := [(24, some (opB x))] ++ coN _ _) rfl i)
      | true =>
        have g1 := step_Q x2.t c now h hn hy.t hy.ph
        have g2 := rstep_Q x2.t x2.pe x2.st x2.tm c o now h hn hy.t hy.ph hy.st hy.tm hy.dl
        rw [outT_eq] at g1 g2
        exact Ex.perm (spQ5_2 ty mr C oo nk cc v tm m ty1 f now i x c o x0 x1 x2 x3 x4 _ _ _ _ hk g1 g2) (fun i => lk_swap (A := [(0, some (bRb ty mr C)), (1, some (bOp ty1 f m))]) (B := [(24, some (opB x))] ++ coQ _ _) rfl i) (fun i => lk_swap (A := [(0, some (bRb ty mr C)), (1, some (bOp ty1 f m))]) (B := [(24, some (opB x))] ++ coQ _ _) rfl i)
    · have hy := hts6 x3 (by simp)
      rw [show s4F ⟨c, o, now, vv, [x0, x1, x2, x3, x4]⟩ x = ⟨(stepTq x3.t c now).2, stepO x3.t c o now, now, vv, [x0, x1, x2, ⟨(stepTq x3.t c now).1, stepE x3.t c x3.pe now, x3.st, x3.tm⟩, x4]⟩ by simp only [s4F, List.length_cons, List.length_nil, Nat.zero_add, Nat.reduceAdd, hk]; rfl]
      cases vv with
      | false =>
        have g1 := step_N x3.t c now h hn (hq rfl) hy.t hy.ph
        have g2 := rstep_N x3.t x3.pe x3.st x3.tm c o now h hn (hq rfl) hy.t hy.ph hy.st hy.tm hy.dl
        rw [outT_eq] at g1 g2
        exact Ex.perm (spN5_3 ty mr C oo nk cc v tm m ty1 f now i x c o x0 x1 x2 x3 x4 _ _ _ _ hk g1 g2) (fun i => lk_swap (A := [(0, some (bRb ty mr C)), (1, some (bOp ty1 f m))]) (B := [(24, some (opB x))] ++ coN _ _) rfl i) (fun i => lk_swap (A := [(0, some (bRb ty mr C)), (1, some (bOp ty1 f m))]) (B := [(24, some (opB x))] ++ coN _ _) rfl i)
      | true =>
        have g1 := step_Q x3.t c now h hn hy.t hy.ph
        have g2 := rstep_Q x3.t x3.pe x3.st x3.tm c o now h hn hy.t hy.ph hy.st hy.tm hy.dl
        rw [outT_eq] at g1 g2
        exact Ex.perm (spQ5_3 ty mr C oo nk cc v tm m ty1 f now i x c o x0 x1 x2 x3 x4 _ _ _ _ hk g1 g2) (fun i => lk_swap (A := [(0, some (bRb ty mr C)), (1, some (bOp ty1 f m))]) (B := [(24, some (opB x))] ++ coQ _ _) rfl i) (fun i => lk_swap (A := [(0, some (bRb ty mr C)), (1, some (bOp ty1 f m))]) (B := [(24, some (opB x))] ++ coQ _ _) rfl i)
    · have hy := hts6 x4 (by simp)
      rw [show s4F ⟨c, o, now, vv, [x0, x1, x2, x3, x4]⟩ x = ⟨(stepTq x4.t c now).2, stepO x4.t c o now, now, vv, [x0, x1, x2, x3, ⟨(stepTq x4.t c now).1, stepE x4.t c x4.pe now, x4.st, x4.tm⟩]⟩ by simp only [s4F, List.length_cons, List.length_nil, Nat.zero_add, Nat.reduceAdd, hk]; rfl]
      cases vv with
      | false =>
        have g1 := step_N x4.t c now h hn (hq rfl) hy.t hy.ph
        have g2 := rstep_N x4.t x4.pe x4.st x4.tm c o now h hn (hq rfl) hy.t hy.ph hy.st hy.tm hy.dl
        rw [outT_eq] at g1 g2
        exact Ex.perm (spN5_4 ty mr C oo nk cc v tm m ty1 f now i x c o x0 x1 x2 x3 x4 _ _ _ _ hk g1 g2) (fun i => lk_swap (A := [(0, some (bRb ty mr C)), (1, some (bOp ty1 f m))]) (B := [(24, some (opB x))] ++ coN _ _) rfl i) (fun i => lk_swap (A := [(0, some (bRb ty mr C)), (1, some (bOp ty1 f m))]) (B := [(24, some (opB x))] ++ coN _ _) rfl i)
      | true =>
        have g1 := step_Q x4.t c now h hn hy.t hy.ph
        have g2 := rstep_Q x4.t x4.pe x4.st x4.tm c o now h hn hy.t hy.ph hy.st hy.tm hy.dl
        rw [outT_eq] at g1 g2
        exact Ex.perm (spQ5_4 ty mr C oo nk cc v tm m ty1 f now i x c o x0 x1 x2 x3 x4 _ _ _ _ hk g1 g2) (fun i => lk_swap (A := [(0, some (bRb ty mr C)), (1, some (bOp ty1 f m))]) (B := [(24, some (opB x))] ++ coQ _ _) rfl i) (fun i => lk_swap (A := [(0, some (bRb ty mr C)), (1, some (bOp ty1 f m))]) (B := [(24, some (opB x))] ++ coQ _ _) rfl i)
  | [x0, x1, x2, x3, x4, x5], hlen, hts6 =>
    have hk : modM x.k 6 < 6 := Nat.mod_lt _ (by decide)
    have hk : modM x.k 6 = 0 ∨ modM x.k 6 = 1 ∨ modM x.k 6 = 2 ∨ modM x.k 6 = 3 ∨ modM x.k 6 = 4 ∨ modM x.k 6 = 5 := by omega
    rcases hk with hk | hk | hk | hk | hk | hk
    · have hy := hts6 x0 (by simp)
      rw [show s4F ⟨c, o, now, vv, [x0, x1, x2, x3, x4, x5]⟩ x = ⟨(stepTq x0.t c now).2, stepO x0.t c o now, now, vv, [⟨(stepTq x0.t c now).1, stepE x0.t c x0.pe now, x0.st, x0.tm⟩, x1, x2, x3, x4, x5]⟩ by simp only [s4F, List.length_cons, List.length_nil, Nat.zero_add, Nat.reduceAdd, hk]; rfl]
      cases vv with
      | false =>
        have g1 := step_N x0.t c now h hn (hq rfl) hy.t hy.ph
        have g2 := rstep_N x0.t x0.pe x0.st x0.tm c o now h hn (hq rfl) hy.t hy.ph hy.st hy.tm hy.dl
        rw [outT_eq] at g1 g2
        exact Ex.perm (spN6_0 ty mr C oo nk cc v tm m ty1 f now i x c o x0 x1 x2 x3 x4 x5 _ _ _ _ hk g1 g2) (fun i => lk_swap (A := [(0, some (bRb ty mr C)), (1, some (bOp ty1 f m))]) (B := [(24, some (opB x))] ++ coN _ _) rfl i) (fun i => lk_swap (A := [(0, some (bRb ty mr C)), (1, some (bOp ty1 f m))]) (B := [(24, some (opB x))] ++ coN _ _) rfl i)
      | true =>
        have g1 := step_Q x0.t c now h hn hy.t hy.ph
        have g2 := rstep_Q x0.t x0.pe x0.st x0.tm c o now h hn hy.t hy.ph hy.st hy.tm hy.dl
        rw [outT_eq] at g1 g2
        exact Ex.perm (spQ6_0 ty mr C oo nk cc v tm m ty1 f now i x c o x0 x1 x2 x3 x4 x5 _ _ _ _ hk g1 g2) (fun i => lk_swap (A := [(0, some (bRb ty mr C)), (1, some (bOp ty1 f m))]) (B := [(24, some (opB x))] ++ coQ _ _) rfl i) (fun i => lk_swap (A := [(0, some (bRb ty mr C)), (1, some (bOp ty1 f m))]) (B := [(24, some (opB x))] ++ coQ _ _) rfl i)
    · have hy := hts6 x1 (by simp)
      rw [show s4F ⟨c, o, now, vv, [x0, x1, x2, x3, x4, x5]⟩ x = ⟨(stepTq x1.t c now).2, stepO x1.t c o now, now, vv, [x0, ⟨(stepTq x1.t c now).1, stepE x1.t c x1.pe now, x1.st, x1.tm⟩, x2, x3, x4, x5]⟩ by simp only [s4F, List.length_cons, List.length_nil, Nat.zero_add, Nat.reduceAdd, hk]; rfl]
      cases vv with
      | false =>
        have g1 := step_N x1.t c now h hn (hq rfl) hy.t hy.ph
        have g2 := rstep_N x1.t x1.pe x1.st x1.tm c o now h hn (hq rfl) hy.t hy.ph hy.st hy.tm hy.dl
        rw [outT_eq] at g1 g2
        exact Ex.perm (spN6_1 ty mr C oo nk cc v tm m ty1 f now i x c o x0 x1 x2 x3 x4 x5 _ _ _ _ hk g1 g2) (fun i => lk_swap (A := [(0, some (bRb ty mr C)), (1, some (bOp ty1 f m))]) (B := [(24, some (opB x))] ++ coN _ _) rfl i) (fun i => lk_swap (A := [(0, some (bRb ty mr C)), (1, some (bOp ty1 f m))]) (B := [(24, some (opB x))] ++ coN _ _) rfl i)
      | true =>
        have g1 := step_Q x1.t c now h hn hy.t hy.ph
        have g2 := rstep_Q x1.t x1.pe x1.st x1.tm c o now h hn hy.t hy.ph hy.st hy.tm hy.dl
        rw [outT_eq] at g1 g2
        exact Ex.perm (spQ6_1 ty mr C oo nk cc v tm m ty1 f now i x c o x0 x1 x2 x3 x4 x5 _ _ _ _ hk g1 g2) (fun i => lk_swap (A := [(0, some (bRb ty mr C)), (1, some (bOp ty1 f m))]) (B := [(24, some (opB x))] ++ coQ _ _) rfl i) (fun i => lk_swap (A := [(0, some (bRb ty mr C)), (1, some (bOp ty1 f m))]) (B := [(24, some (opB x))] ++ coQ _ _) rfl i)
    · have hy := hts6 x2 (by simp)
      rw [show s4F ⟨c, o, now, vv, [x0, x1, x2, x3, x4, x5]⟩ x = ⟨(stepTq x2.t c now).2, stepO x2.t c o now, now, vv, [x0, x1, ⟨(stepTq x2.t c now).1, stepE x2.t c x2.pe now, x2.st, x2.tm⟩, x3, x4, x5]⟩ by simp only [s4F, List.length_cons, List.length_nil, Nat.zero_add, Nat.reduceAdd, hk]; rfl]
      cases vv with
      | false =>
        have g1 := step_N x2.t c now h hn (hq rfl) hy.t hy.ph
        have g2 := rstep_N x2.t x2.pe x2.st x2.tm c o now h hn (hq rfl) hy.t hy.ph hy.st hy.tm hy.dl
        rw [outT_eq] at g1 g2
        exact Ex.perm (spN6_2 ty mr C oo nk cc v tm m ty1 f now i x c o x0 x1 x2 x3 x4 x5 _ _ _ _ hk g1 g2) (fun i => lk_swap (A := [(0, some (bRb ty mr C)), (1, some (bOp ty1 f m))]) (B := [(24, some (opB x))] ++ coN _ _) rfl i) (fun i => lk_swap (A := [(0, some (bRb ty mr C)), (1, some (bOp ty1 f m))]) (B := [(24, some (opB x))] ++ coN _ _) rfl i)
      | true =>
        have g1 := step_Q x2.t c now h hn hy.t hy.ph
        have g2 := rstep_Q x2.t x2.pe x2.st x2.tm c o now h hn hy.t hy.ph hy.st hy.tm hy.dl
        rw [outT_eq] at g1 g2
        exact Ex.perm (spQ6_2 ty mr C oo nk cc v tm m ty1 f now i x c o x0 x1 x2 x3 x4 x5 _ _ _ _ hk g1 g2) (fun i => lk_swap (A := [(0, some (bRb ty mr C)), (1, some (bOp ty1 f m))]) (B := [(24, some (opB x))] ++ coQ _ _) rfl i) (fun i => lk_swap (A := [(0, some (bRb ty mr C)), (1, some (bOp ty1 f m))]) (B := [(24, some (opB x))] ++ coQ _ _) rfl i)
    · have hy := hts6 x3 (by simp)
      rw [show s4F ⟨c, o, now, vv, [x0, x1, x2, x3, x4, x5]⟩ x = ⟨(stepTq x3.t c now).2, stepO x3.t c o now, now, vv, [x0, x1, x2, ⟨(stepTq x3.t c now).1, stepE x3.t c x3.pe now, x3.st, x3.tm⟩, x4, x5]⟩ by simp only [s4F, List.length_cons, List.length_nil, Nat.zero_add, Nat.reduceAdd, hk]; rfl]
      cases vv with
      | false =>
        have g1 := step_N x3.t c now h hn (hq rfl) hy.t hy.ph
        have g2 := rstep_N x3.t x3.pe x3.st x3.tm c o now h hn (hq rfl) hy.t hy.ph hy.st hy.tm hy.dl
        rw [outT_eq] at g1 g2
        exact Ex.perm (spN6_3 ty mr C oo nk cc v tm m ty1 f now i x c o x0 x1 x2 x3 x4 x5 _ _ _ _ hk g1 g2) (fun i => lk_swap (A := [(0, some (bRb ty mr C)), (1, some (bOp ty1 f m))]) (B := [(24, some (opB x))] ++ coN _ _) rfl i) (fun i => lk_swap (A := [(0, some (bRb ty mr C)), (1, some (bOp ty1 f m))]) (B := [(24, some (opB x))] ++ coN _ _) rfl i)
      | true =>
        have g1 := step_Q x3.t c now h hn hy.t hy.ph
        have g2 := rstep_Q x3.t x3.pe x3.st x3.tm c o now h hn hy.t hy.ph hy.st hy.tm hy.dl
        rw [outT_eq] at g1 g2
        exact Ex.perm (spQ6_3 ty mr C oo nk cc v tm m ty1 f now i x c o x0 x1 x2 x3 x4 x5 _ _ _ _ hk g1 g2) (fun i => lk_swap (A := [(0, some (bRb ty mr C)), (1, some (bOp ty1 f m))]) (B := [(24, some (opB x))] ++ coQ _ _) rfl i) (fun i => lk_swap (A := [(0, some (bRb ty mr C)), (1, some (bOp ty1 f m))]) (B := [(24, some (opB x))] ++ coQ _ _) rfl i)
    · have hy := hts6 x4 (by simp)
      rw [show s4F ⟨c, o, now, vv, [x0, x1, x2, x3, x4, x5]⟩ x = ⟨(stepTq x4.t c now).2, stepO x4.t c o now, now, vv, [x0, x1, x2, x3, ⟨(stepTq x4.t c now).1, stepE x4.t c x4.pe now, x4.st, x4.tm⟩, x5]⟩ by simp only [s4F, List.length_cons, List.length_nil, Nat.zero_add, Nat.reduceAdd, hk]; rfl]
      cases vv with
      | false =>
        have g1 := step_N x4.t c now h hn (hq rfl) hy.t hy.ph
        have g2 := rstep_N x4.t x4.pe x4.st x4.tm c o now h hn (hq rfl) hy.t hy.ph hy.st hy.tm hy.dl
        rw [outT_eq] at g1 g2
        exact Ex.perm (spN6_4 ty mr C oo nk cc v tm m ty1 f now i x c o x0 x1 x2 x3 x4 x5 _ _ _ _ hk g1 g2) (fun i => lk_swap (A := [(0, some (bRb ty mr C)), (1, some (bOp ty1 f m))]) (B := [(24, some (opB x))] ++ coN _ _) rfl i) (fun i => lk_swap (A := [(0, some (bRb ty mr C)), (1, some (bOp ty1 f m))]) (B := [(24, some (opB x))] ++ coN _ _) rfl i)
      | true =>
        have g1 := step_Q x4.t c now h hn hy.t hy.ph
        have g2 := rstep_Q x4.t x4.pe x4.st x4.tm c o now h hn hy.t hy.ph hy.st hy.tm hy.dl
        rw [outT_eq] at g1 g2
        exact Ex.perm (spQ6_4 ty mr C oo nk cc v tm m ty1 f now i x c o x0 x1 x2 x3 x4 x5 _ _ _ _ hk g1 g2) (fun i => lk_swap (A := [(0, some (bRb ty mr C)), (1, some (bOp ty1 f m))]) (B := [(24, some (opB x))] ++ coQ _ _) rfl i) (fun i => lk_swap (A := [(0, some (bRb ty mr C)), (1, some (bOp ty1 f m))]) (B := [(24, some (opB x))] ++ coQ _ _) rfl i)
    · have hy := hts6 x5 (by simp)
      rw [show s4F ⟨c, o, now, vv, [x0, x1, x2, x3, x4, x5]⟩ x = ⟨(stepTq x5.t c now).2, stepO x5.t c o now, now, vv, [x0, x1, x2, x3, x4, ⟨(stepTq x5.t c now).1, stepE x5.t c x5.pe now, x5.st, x5.tm⟩]⟩ by simp only [s4F, List.length_cons, List.length_nil, Nat.zero_add, Nat.reduceAdd, hk]; rfl]
      cases vv with
      | false =>
        have g1 := step_N x5.t c now h hn (hq rfl) hy.t hy.ph
        have g2 := rstep_N x5.t x5.pe x5.st x5.tm c o now h hn (hq rfl) hy.t hy.ph hy.st hy.tm hy.dl
        rw [outT_eq] at g1 g2
        exact Ex.perm (spN6_5 ty mr C oo nk cc v tm m ty1 f now i x c o x0 x1 x2 x3 x4 x5 _ _ _ _ hk g1 g2) (fun i => lk_swap (A := [(0, some (bRb ty mr C)), (1, some (bOp ty1 f m))]) (B := [(24, some (opB x))] ++ coN _ _) rfl i) (fun i => lk_swap (A := [(0, some (bRb ty mr C)), (1, some (bOp ty1 f m))]) (B := [(24, some (opB x))] ++ coN _ _) rfl i)
      | true =>
        have g1 := step_Q x5.t c now h hn hy.t hy.ph
        have g2 := rstep_Q x5.t x5.pe x5.st x5.tm c o now h hn hy.t hy.ph hy.st hy.tm hy.dl
        rw [outT_eq] at g1 g2
        exact Ex.perm (spQ6_5 ty mr C oo nk cc v tm m ty1 f now i x c o x0 x1 x2 x3 x4 x5 _ _ _ _ hk g1 g2) (fun i => lk_swap (A := [(0, some (bRb ty mr C)), (1, some (bOp ty1 f m))]) (B := [(24, some (opB x))] ++ coQ _ _) rfl i) (fun i => lk_swap (A := [(0, some (bRb ty mr C)), (1, some (bOp ty1 f m))]) (B := [(24, some (opB x))] ++ coQ _ _) rfl i)
  | _ :: _ :: _ :: _ :: _ :: _ :: _ :: _, hlen, _ => exact absurd hlen (by simp)
theorem round_B (ty : TypeId) (mr : Bool) (C : List S) (oo nk : Nat) (cc : Option Nat) (v tm m : Nat) (ty1 : TypeId) (f : Nat → OpV) (i : Nat) (x : OpV) (s : Sx) (kd : Nat) (hld : i < nk → ldAt false 1 (bRb ty mr C) (plus oo i) = some (.s (.int .u8 ((kd : Nat) : Int)))) (hb : kd < 256) (h : s.ok i) (hi : i < m) (h8 : i < 80) (hxf : f i = x) (hx : x.ok) (htm : tm < 2 ^ 64) :
    Ex Try.prog 2 ((Try.f8.body.bind fstLoop).getD .skip) (e9 (.s (.slc (some (0, oo)) nk cc)) v tm (.s (.slc (some (1, 0)) m none)) (va s.ts.length) (vb s.ts.length) s.now i) 24 ([(0, some (bRb ty mr C)), (1, some (bOp ty1 f m))] ++ (co s ++ TH s.ts)) (One .normal (e9 (.s (.slc (some (0, oo)) nk cc)) v tm (.s (.slc (some (1, 0)) m none)) (va (rdF s x v tm nk i kd).ts.length) (vb (rdF s x v tm nk i kd).ts.length) (rdF s x v tm nk i kd).now (i + 1)) 24 ([(0, some (bRb ty mr C)), (1, some (bOp ty1 f m))] ++ (co (rdF s x v tm nk i kd) ++ TH (rdF s x v tm nk i kd).ts))) := by
  have hn0 := h.now
  have k0 := s0_ok (x := x) h
  have hn : (s0F s x).now < 2 ^ 64 := by have := k0.now; omega
  have k1 := s1_ok (x := x) (tm := tm) (nk := nk) (i := i) (kd := kd) k0 (by omega) hx htm
  have k2 := s2_ok (x := x) (v := v) k1 (by omega)
  have k3 := s3_ok (x := x) (v := v) k2
  have k4 := s4_ok (x := x) k3 (by omega)
  have hA := tA_B ty mr C oo nk cc v tm m ty1 f i x s.c s.o s.now s.v s.ts h.len hi h8
  have h12 := tR12_B ty mr C oo nk cc v tm m ty1 f i x s.c s.o s.now s.v s.ts h.len hi hxf
  have h13 := tR13_B ty mr C oo nk cc v tm m ty1 f i x s.c s.o s.now s.v s.ts h.len hn
  have h1 := tS1_B ty mr C oo nk cc v tm m ty1 f i x (s0F s x).c (s0F s x).o (s0F s x).now (s0F s x).v (s0F s x).ts k0.len kd hld hb hx hn htm
  have h2 := tS2_B ty mr C oo nk cc v tm m ty1 f i x (s1F (s0F s x) x tm nk i kd).c (s1F (s0F s x) x tm nk i kd).o (s1F (s0F s x) x tm nk i kd).now (s1F (s0F s x) x tm nk i kd).v (s1F (s0F s x) x tm nk i kd).ts k1.len k1.c (by have := k1.now; omega) k1.q
  have h3 := tS3_B ty mr C oo nk cc v tm m ty1 f i x (s2F (s1F (s0F s x) x tm nk i kd) x v).c (s2F (s1F (s0F s x) x tm nk i kd) x v).o (s2F (s1F (s0F s x) x tm nk i kd) x v).now (s2F (s1F (s0F s x) x tm nk i kd) x v).v (s2F (s1F (s0F s x) x tm nk i kd) x v).ts k2.len k2.c k2.q
  have h4 := tS4_B ty mr C oo nk cc v tm m ty1 f i x (s3F (s2F (s1F (s0F s x) x tm nk i kd) x v) x v).c (s3F (s2F (s1F (s0F s x) x tm nk i kd) x v) x v).o (s3F (s2F (s1F (s0F s x) x tm nk i kd) x v) x v).now (s3F (s2F (s1F (s0F s x) x tm nk i kd) x v) x v).v (s3F (s2F (s1F (s0F s x) x tm nk i kd) x v) x v).ts k3.len k3.c (by have := k3.now; omega) k3.q k3.ts
  have h11 := tR11_B ty mr C oo nk cc v tm m ty1 f i x (s4F (s3F (s2F (s1F (s0F s x) x tm nk i kd) x v) x v) x).c (s4F (s3F (s2F (s1F (s0F s x) x tm nk i kd) x v) x v) x).o (s4F (s3F (s2F (s1F (s0F s x) x tm nk i kd) x v) x v) x).now (s4F (s3F (s2F (s1F (s0F s x) x tm nk i kd) x v) x v) x).v (s4F (s3F (s2F (s1F (s0F s x) x tm nk i kd) x v) x v) x).ts k4.len h8
  exact Ex.cat hA (Ex.cat (Ex.blk (Ex.cat h12 (Ex.cat h13 (Ex.cat h1 (Ex.cat h2 (Ex.cat h3 h4)))))) h11)

end Go.Proofs.Ytimebhllnemnbaa
