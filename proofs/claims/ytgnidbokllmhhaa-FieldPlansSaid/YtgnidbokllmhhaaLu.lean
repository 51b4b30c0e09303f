/-
  plans and FieldPlans: they return true.
-/
import Derived.Test.YtgnidbokllmhhaaLt
import Derived.Test.YtgnidbokllmhhaaLp
import Derived.Test.YtgnidbokllmhhaaLs
set_option linter.unusedSimpArgs false
set_option linter.unusedVariables false
namespace Go.Proofs.Ytgnidbokllmhhaa
open Go Ab
set_option maxRecDepth 100000

theorem equal_m (l : List Nat) (N : Nat) (hl : l.length = N) (hN : N ≤ 1000) :
    SC Try.prog 15 [.s (.slc (some (0, 0)) N (some N)), .s (.slc (some (1, 0)) N (some N))] 2 [(0, some (bR 22 false (cU l))), (1, some (bR 22 false (cU l)))] (.s (.bool true)) 2 [(0, some (bR 22 false (cU l))), (1, some (bR 22 false (cU l)))] := by
  subst hl; exact equal_s l false false (some l.length) (some l.length) hN

theorem plans_no {f : Fsp} (hf : f.ok) (h : vld f = false) : SC Try.prog 26 [f.v] 0 [] (.s (.bool true)) 0 [] := by
  have c1 := units_no hf h
  have c2 := runits_no hf h
  have c3 := valid_s f hf
  have c4 := validField_s f hf
  rw [h] at c3 c4
  have c5 := masks_no hf h
  have c6 := rmasks_no hf h
  have c7 := acc_no hf h
  have c8 := racc_no hf h
  have c9 := rbw_no hf h
  have c10 := rrbw_no hf h
  refine SC.run hm Try.func26 rfl [.call [] [f.v] [] (.tup [.s (.int .i64 0), .s (.int .i64 0)]) 0 [], .call [] [f.v] [] (.tup [.s (.int .i64 0), .s (.int .i64 0)]) 0 [],
    .call [] [f.v] [] (.s (.bool false)) 0 [], .call [] [f.v] [] (.s (.bool false)) 0 [], .dec true, .dec true, .dec true,
    .call [] [f.v] [] (.s (.slc none 0 (some 0))) 0 [], .call [] [f.v] [] (.s (.slc (some (0, 0)) 0 (some 0))) 1 [(0, some (bU []))],
    .call [1] [.s (.slc none 0 (some 0)), .s (.slc (some (0, 0)) 0 (some 0))] [] (.s (.bool true)) 1 [],
    .call [] [f.v] [] (.s (.slc none 0 (some 0))) 0 [], .call [] [f.v] [] (.s (.slc none 0 (some 0))) 0 [],
    .call [] [.s (.slc none 0 (some 0)), .s (.slc none 0 (some 0))] [] (.s (.bool true)) 0 [],
    .call [] [f.v] [] (.s (.slc none 0 (some 0))) 0 [], .call [] [f.v] [] (.s (.slc (some (0, 0)) 0 (some 0))) 1 [(0, some (bQm []))],
    .call [2] [.s (.slc none 0 (some 0)), .s (.slc (some (0, 0)) 0 (some 0))] [] (.s (.bool true)) 1 []] [] rfl rfl ?_ (.inl rfl) (EndOK.plain rfl no_mem rfl rfl)
  simp only [true_and, and_true, and_assoc, beq_self_eq_true]
  repeat' apply And.intro
  all_goals first
    | exact True.intro
    | exact call0 c1 rfl
    | exact call0 c2 rfl
    | exact call0 c3 rfl
    | exact call0 c4 rfl
    | exact call0 c5 rfl
    | exact call0 c6 rfl
    | exact call0 c7 rfl
    | exact call0 c8 rfl
    | exact call0 c9 rfl
    | exact call0 c10 rfl
    | exact call0 equalA_nil rfl
    | exact ⟨equal_nilE, rfl, Fits.of rfl rfl trivial⟩
    | exact ⟨equalB_nilE, rfl, Fits.of rfl rfl trivial⟩
    | (with_reducible show _ = true; kernel_rfl)

theorem plans_v {f : Fsp} {b n w : Nat} (hf : f.ok) (h : FV f b n w) : SC Try.prog 26 [f.v] 0 [] (.s (.bool true)) 0 [] := by
  have c1 := units_v hf h
  have c2 := runits_v hf h
  have c3 := valid_s f hf
  have c4 := validField_s f hf
  rw [h.v] at c3 c4
  have c5 := masks_s hf h
  have c6 := rmasks_s hf h
  have c7 := acc_s hf h
  have c8 := racc_s hf h
  have c9 := rbw_s hf h
  have c10 := rrbw_s hf h
  have hN := nU_le h
  have hl := mL_length b n w
  generalize hNN : nU b n w = N at *
  have d1 := equal_m (mL b n w) N hl (by omega)
  have d2 := equalA_s f b w N (by omega)
  have d3 := equalB_s f b w n N (by omega)
  refine SC.run hm Try.func26 rfl [.call [] [f.v] [] (.tup [.s (.int .i64 ((uf b w : Nat) : Int)), .s (.int .i64 ((N : Nat) : Int))]) 0 [], .call [] [f.v] [] (.tup [.s (.int .i64 ((uf b w : Nat) : Int)), .s (.int .i64 ((N : Nat) : Int))]) 0 [],
    .call [] [f.v] [] (.s (.bool true)) 0 [], .call [] [f.v] [] (.s (.bool true)) 0 [], .dec true, .dec true, .dec true,
    .call [] [f.v] [] (.s (.slc (some (0, 0)) N (some N))) 1 [(0, some (bU (mL b n w)))], .call [] [f.v] [] (.s (.slc (some (0, 0)) N (some N))) 1 [(0, some (bU (mL b n w)))],
    .call [1, 2] [.s (.slc (some (0, 0)) N (some N)), .s (.slc (some (1, 0)) N (some N))] [(0, some (bR 22 false (cU (mL b n w)))), (1, some (bR 22 false (cU (mL b n w))))] (.s (.bool true)) 2 [(0, some (bR 22 false (cU (mL b n w)))), (1, some (bR 22 false (cU (mL b n w))))],
    .call [] [f.v] [] (.s (.sla 0 1 N)) 2 [(0, some (bA (acC f b w N)))], .call [] [f.v] [] (.s (.sla 0 1 N)) 2 [(0, some (bA (acC f b w N)))],
    .call [3, 4, 5, 6] [.s (.sla 0 1 N), .s (.sla 2 3 N)] [(0, some (bAr (acC f b w N) 1)), (2, some (bAr (acC f b w N) 3))] (.s (.bool true)) 4 [(0, some (bAr (acC f b w N) 1)), (2, some (bAr (acC f b w N) 3))],
    .call [] [f.v] [] (.s (.sla 0 1 N)) 2 [(0, some (bQ (rbC f b n w N) 1))], .call [] [f.v] [] (.s (.slc (some (0, 0)) N (some N))) 1 [(0, some (bQm (rbC f b n w N)))],
    .call [7, 8, 9] [.s (.sla 0 1 N), .s (.slc (some (2, 0)) N (some N))] [(0, some (bQr (rbC f b n w N) 1)), (2, some (bQmr (rbC f b n w N)))] (.s (.bool true)) 3 [(0, some (bQr (rbC f b n w N) 1)), (2, some (bQmr (rbC f b n w N)))]] [] rfl rfl ?_ (.inl rfl) (EndOK.plain rfl no_mem rfl rfl)
  simp only [true_and, and_true, and_assoc, beq_self_eq_true]
  repeat' apply And.intro
  all_goals first
    | exact True.intro
    | exact call0 c1 rfl
    | exact call0 c2 rfl
    | exact call0 c3 rfl
    | exact call0 c4 rfl
    | exact call0 c5 rfl
    | exact call0 c6 rfl
    | exact call0 c7 rfl
    | exact call0 c8 rfl
    | exact call0 c9 rfl
    | exact call0 c10 rfl
    | exact ⟨d1, rfl, Fits.of rfl rfl ⟨⟨rfl, _, rfl, rfl, fun _ => rfl⟩, ⟨rfl, _, rfl, rfl, fun _ => rfl⟩, trivial⟩⟩
    | exact ⟨d2, rfl, Fits.of rfl rfl ⟨⟨rfl, _, rfl, rfl, fun _ => rfl⟩, ⟨rfl, _, rfl, rfl, fun _ => rfl⟩, trivial⟩⟩
    | exact ⟨d3, rfl, Fits.of rfl rfl ⟨⟨rfl, _, rfl, rfl, fun _ => rfl⟩, ⟨rfl, _, rfl, rfl, fun _ => rfl⟩, trivial⟩⟩
    | (with_reducible show _ = true; kernel_rfl)

theorem plans_s (f : Fsp) (hf : f.ok) : SC Try.prog 26 [f.v] 0 [] (.s (.bool true)) 0 [] := by
  cases h : vld f with
  | false => exact plans_no hf h
  | true =>
    obtain ⟨b, n, w, hv⟩ := FV.of h
    exact plans_v hf hv

theorem fieldPlans_s (f : Fsp) (hf : f.ok) : SC Try.prog 7 [f.v] 0 [] (.s (.bool true)) 0 [] := by
  have c1 := plans_s f hf
  have c2 := spec_s f hf
  have c3 := plans_s (specF f) (specF_ok hf)
  refine SC.run hm Try.func7 rfl [.call [] [] [] (.s (.bool true)) 0 [], .call [] [f.v] [] (.s (.bool true)) 0 [], .call [] [f.v] [] (specF f).v 0 [], .call [] [(specF f).v] [] (.s (.bool true)) 0 []] [] rfl rfl ?_ (.inl rfl) (EndOK.plain rfl no_mem rfl rfl)
  simp only [true_and, and_true, and_assoc]
  repeat' apply And.intro
  all_goals first
    | exact True.intro
    | exact call0 awake_s rfl
    | exact call0 c1 rfl
    | exact call0 c2 rfl
    | exact call0 c3 rfl
    | (with_reducible show _ = true; kernel_rfl)

end Go.Proofs.Ytgnidbokllmhhaa
