/-
  Extract and Insert at a field that is not valid or a list of the wrong length.
-/
import Derived.Test.YtgnidbokllmhhaaLk
set_option linter.unusedSimpArgs false
set_option linter.unusedVariables false
namespace Go.Proofs.Ytgnidbokllmhhaa
open Go Ab
set_option maxRecDepth 100000

theorem extract_nil {f : Fsp} (hf : f.ok) (hb : ∀ b n w, FV f b n w → 0 ≠ nU b n w) : SC Try.prog 13 [f.v, .s (.slc none 0 (some 0))] 0 [] (.s (.str [])) 0 [] := by
  cases h : vld f with
  | false =>
    have hu := units_no hf h
    refine SC.run hm Try.func13 rfl [.call [] [f.v] [] (.tup [.s (.int .i64 0), .s (.int .i64 0)]) 0 [], .dec true] [] rfl rfl ?_ (.inl rfl) (EndOK.plain rfl no_mem rfl rfl)
    simp only [true_and, and_true, and_assoc, beq_iff_eq]
    repeat' apply And.intro
    all_goals first | exact True.intro | exact call0 hu rfl | (with_reducible show _ = true; kernel_rfl) | rfl
  | true =>
    obtain ⟨b, n, w, hv⟩ := FV.of h
    have hu := units_v hf hv
    have hne : nU b n w ≠ 0 := by unfold nU; omega
    have hx := hb b n w hv
    refine SC.run hm Try.func13 rfl [.call [] [f.v] [] (.tup [.s (.int .i64 ((uf b w : Nat) : Int)), .s (.int .i64 ((nU b n w : Nat) : Int))]) 0 [], .dec false, .dec true] [] rfl rfl ?_ (.inl rfl) (EndOK.plain rfl no_mem rfl rfl)
    simp only [true_and, and_true, and_assoc, beq_eq_false_iff_ne, bne_iff_ne, ne_eq]
    repeat' apply And.intro
    all_goals first | exact True.intro | omega | exact call0 hu rfl | (with_reducible show _ = true; kernel_rfl)

theorem extract_emp {f : Fsp} (hf : f.ok) (hb : ∀ b n w, FV f b n w → 0 ≠ nU b n w) : SC Try.prog 13 [f.v, .s .emp] 0 [] (.s (.str [])) 0 [] := by
  cases h : vld f with
  | false =>
    have hu := units_no hf h
    refine SC.run hm Try.func13 rfl [.call [] [f.v] [] (.tup [.s (.int .i64 0), .s (.int .i64 0)]) 0 [], .dec true] [] rfl rfl ?_ (.inl rfl) (EndOK.plain rfl no_mem rfl rfl)
    simp only [true_and, and_true, and_assoc, beq_iff_eq]
    repeat' apply And.intro
    all_goals first | exact True.intro | exact call0 hu rfl | (with_reducible show _ = true; kernel_rfl) | rfl
  | true =>
    obtain ⟨b, n, w, hv⟩ := FV.of h
    have hu := units_v hf hv
    have hne : nU b n w ≠ 0 := by unfold nU; omega
    have hx := hb b n w hv
    refine SC.run hm Try.func13 rfl [.call [] [f.v] [] (.tup [.s (.int .i64 ((uf b w : Nat) : Int)), .s (.int .i64 ((nU b n w : Nat) : Int))]) 0 [], .dec false, .dec true] [] rfl rfl ?_ (.inl rfl) (EndOK.plain rfl no_mem rfl rfl)
    simp only [true_and, and_true, and_assoc, beq_eq_false_iff_ne, bne_iff_ne, ne_eq]
    repeat' apply And.intro
    all_goals first | exact True.intro | omega | exact call0 hu rfl | (with_reducible show _ = true; kernel_rfl)

theorem extract_blk {f : Fsp} (hf : f.ok) (ty : TypeId) (mr : Bool) (C : List S) (o m : Nat) (c : Option Nat) (hb : ∀ b n w, FV f b n w → m ≠ nU b n w) : SC Try.prog 13 [f.v, .s (.slc (some (0, o)) m c)] 1 [(0, some (bR ty mr C))] (.s (.str [])) 1 [(0, some (bR ty mr C))] := by
  cases h : vld f with
  | false =>
    have hu := units_no hf h
    refine SC.run hm Try.func13 rfl [.call [] [f.v] [] (.tup [.s (.int .i64 0), .s (.int .i64 0)]) 0 [], .dec true] [] rfl rfl ?_ (.inl rfl) (EndOK.by rfl ⟨rfl, trivial⟩ rfl rfl rfl rfl)
    simp only [true_and, and_true, and_assoc, beq_iff_eq]
    repeat' apply And.intro
    all_goals first | exact True.intro | exact call0 hu rfl | (with_reducible show _ = true; kernel_rfl) | rfl
  | true =>
    obtain ⟨b, n, w, hv⟩ := FV.of h
    have hu := units_v hf hv
    have hne : nU b n w ≠ 0 := by unfold nU; omega
    have hx := hb b n w hv
    refine SC.run hm Try.func13 rfl [.call [] [f.v] [] (.tup [.s (.int .i64 ((uf b w : Nat) : Int)), .s (.int .i64 ((nU b n w : Nat) : Int))]) 0 [], .dec false, .dec true] [] rfl rfl ?_ (.inl rfl) (EndOK.by rfl ⟨rfl, trivial⟩ rfl rfl rfl rfl)
    simp only [true_and, and_true, and_assoc, beq_eq_false_iff_ne, bne_iff_ne, ne_eq]
    repeat' apply And.intro
    all_goals first | exact True.intro | omega | exact call0 hu rfl | (with_reducible show _ = true; kernel_rfl)

theorem rextract_nil {f : Fsp} (hf : f.ok) (hb : ∀ b n w, FV f b n w → 0 ≠ nU b n w) : SC Try.prog 14 [f.v, .s (.slc none 0 (some 0))] 0 [] (.s (.str [])) 0 [] := by
  cases h : vld f with
  | false =>
    have hu := runits_no hf h
    refine SC.run hm Try.func14 rfl [.call [] [f.v] [] (.tup [.s (.int .i64 0), .s (.int .i64 0)]) 0 [], .dec true] [] rfl rfl ?_ (.inl rfl) (EndOK.plain rfl no_mem rfl rfl)
    simp only [true_and, and_true, and_assoc, beq_iff_eq]
    repeat' apply And.intro
    all_goals first | exact True.intro | exact call0 hu rfl | (with_reducible show _ = true; kernel_rfl) | rfl
  | true =>
    obtain ⟨b, n, w, hv⟩ := FV.of h
    have hu := runits_v hf hv
    have hne : nU b n w ≠ 0 := by unfold nU; omega
    have hx := hb b n w hv
    refine SC.run hm Try.func14 rfl [.call [] [f.v] [] (.tup [.s (.int .i64 ((uf b w : Nat) : Int)), .s (.int .i64 ((nU b n w : Nat) : Int))]) 0 [], .dec false, .dec true] [] rfl rfl ?_ (.inl rfl) (EndOK.plain rfl no_mem rfl rfl)
    simp only [true_and, and_true, and_assoc, beq_eq_false_iff_ne, bne_iff_ne, ne_eq]
    repeat' apply And.intro
    all_goals first | exact True.intro | omega | exact call0 hu rfl | (with_reducible show _ = true; kernel_rfl)

theorem rextract_emp {f : Fsp} (hf : f.ok) (hb : ∀ b n w, FV f b n w → 0 ≠ nU b n w) : SC Try.prog 14 [f.v, .s .emp] 0 [] (.s (.str [])) 0 [] := by
  cases h : vld f with
  | false =>
    have hu := runits_no hf h
    refine SC.run hm Try.func14 rfl [.call [] [f.v] [] (.tup [.s (.int .i64 0), .s (.int .i64 0)]) 0 [], .dec true] [] rfl rfl ?_ (.inl rfl) (EndOK.plain rfl no_mem rfl rfl)
    simp only [true_and, and_true, and_assoc, beq_iff_eq]
    repeat' apply And.intro
    all_goals first | exact True.intro | exact call0 hu rfl | (with_reducible show _ = true; kernel_rfl) | rfl
  | true =>
    obtain ⟨b, n, w, hv⟩ := FV.of h
    have hu := runits_v hf hv
    have hne : nU b n w ≠ 0 := by unfold nU; omega
    have hx := hb b n w hv
    refine SC.run hm Try.func14 rfl [.call [] [f.v] [] (.tup [.s (.int .i64 ((uf b w : Nat) : Int)), .s (.int .i64 ((nU b n w : Nat) : Int))]) 0 [], .dec false, .dec true] [] rfl rfl ?_ (.inl rfl) (EndOK.plain rfl no_mem rfl rfl)
    simp only [true_and, and_true, and_assoc, beq_eq_false_iff_ne, bne_iff_ne, ne_eq]
    repeat' apply And.intro
    all_goals first | exact True.intro | omega | exact call0 hu rfl | (with_reducible show _ = true; kernel_rfl)

theorem rextract_blk {f : Fsp} (hf : f.ok) (ty : TypeId) (mr : Bool) (C : List S) (o m : Nat) (c : Option Nat) (hb : ∀ b n w, FV f b n w → m ≠ nU b n w) : SC Try.prog 14 [f.v, .s (.slc (some (0, o)) m c)] 1 [(0, some (bR ty mr C))] (.s (.str [])) 1 [(0, some (bR ty mr C))] := by
  cases h : vld f with
  | false =>
    have hu := runits_no hf h
    refine SC.run hm Try.func14 rfl [.call [] [f.v] [] (.tup [.s (.int .i64 0), .s (.int .i64 0)]) 0 [], .dec true] [] rfl rfl ?_ (.inl rfl) (EndOK.by rfl ⟨rfl, trivial⟩ rfl rfl rfl rfl)
    simp only [true_and, and_true, and_assoc, beq_iff_eq]
    repeat' apply And.intro
    all_goals first | exact True.intro | exact call0 hu rfl | (with_reducible show _ = true; kernel_rfl) | rfl
  | true =>
    obtain ⟨b, n, w, hv⟩ := FV.of h
    have hu := runits_v hf hv
    have hne : nU b n w ≠ 0 := by unfold nU; omega
    have hx := hb b n w hv
    refine SC.run hm Try.func14 rfl [.call [] [f.v] [] (.tup [.s (.int .i64 ((uf b w : Nat) : Int)), .s (.int .i64 ((nU b n w : Nat) : Int))]) 0 [], .dec false, .dec true] [] rfl rfl ?_ (.inl rfl) (EndOK.by rfl ⟨rfl, trivial⟩ rfl rfl rfl rfl)
    simp only [true_and, and_true, and_assoc, beq_eq_false_iff_ne, bne_iff_ne, ne_eq]
    repeat' apply And.intro
    all_goals first | exact True.intro | omega | exact call0 hu rfl | (with_reducible show _ = true; kernel_rfl)

theorem insert_nil {f : Fsp} (hf : f.ok) (s : List UInt8) (hb : ∀ b n w, FV f b n w → 0 ≠ nU b n w) : SC Try.prog 16 [f.v, .s (.str s), .s (.slc none 0 (some 0))] 0 [] (.s (.slc none 0 (some 0))) 0 [] := by
  cases h : vld f with
  | false =>
    have hu := units_no hf h
    refine SC.run hm Try.func16 rfl [.call [] [f.v] [] (.tup [.s (.int .i64 0), .s (.int .i64 0)]) 0 [], .dec true] [] rfl rfl ?_ (.inl rfl) (EndOK.plain rfl no_mem rfl rfl)
    simp only [true_and, and_true, and_assoc, beq_iff_eq]
    repeat' apply And.intro
    all_goals first | exact True.intro | exact call0 hu rfl | (with_reducible show _ = true; kernel_rfl) | rfl
  | true =>
    obtain ⟨b, n, w, hv⟩ := FV.of h
    have hu := units_v hf hv
    have hne : nU b n w ≠ 0 := by unfold nU; omega
    have hx := hb b n w hv
    refine SC.run hm Try.func16 rfl [.call [] [f.v] [] (.tup [.s (.int .i64 ((uf b w : Nat) : Int)), .s (.int .i64 ((nU b n w : Nat) : Int))]) 0 [], .dec false, .dec true] [] rfl rfl ?_ (.inl rfl) (EndOK.plain rfl no_mem rfl rfl)
    simp only [true_and, and_true, and_assoc, beq_eq_false_iff_ne, bne_iff_ne, ne_eq]
    repeat' apply And.intro
    all_goals first | exact True.intro | omega | exact call0 hu rfl | (with_reducible show _ = true; kernel_rfl)

theorem insert_emp {f : Fsp} (hf : f.ok) (s : List UInt8) (hb : ∀ b n w, FV f b n w → 0 ≠ nU b n w) : SC Try.prog 16 [f.v, .s (.str s), .s .emp] 0 [] (.s (.slc none 0 (some 0))) 0 [] := by
  cases h : vld f with
  | false =>
    have hu := units_no hf h
    refine SC.run hm Try.func16 rfl [.call [] [f.v] [] (.tup [.s (.int .i64 0), .s (.int .i64 0)]) 0 [], .dec true] [] rfl rfl ?_ (.inl rfl) (EndOK.plain rfl no_mem rfl rfl)
    simp only [true_and, and_true, and_assoc, beq_iff_eq]
    repeat' apply And.intro
    all_goals first | exact True.intro | exact call0 hu rfl | (with_reducible show _ = true; kernel_rfl) | rfl
  | true =>
    obtain ⟨b, n, w, hv⟩ := FV.of h
    have hu := units_v hf hv
    have hne : nU b n w ≠ 0 := by unfold nU; omega
    have hx := hb b n w hv
    refine SC.run hm Try.func16 rfl [.call [] [f.v] [] (.tup [.s (.int .i64 ((uf b w : Nat) : Int)), .s (.int .i64 ((nU b n w : Nat) : Int))]) 0 [], .dec false, .dec true] [] rfl rfl ?_ (.inl rfl) (EndOK.plain rfl no_mem rfl rfl)
    simp only [true_and, and_true, and_assoc, beq_eq_false_iff_ne, bne_iff_ne, ne_eq]
    repeat' apply And.intro
    all_goals first | exact True.intro | omega | exact call0 hu rfl | (with_reducible show _ = true; kernel_rfl)

theorem insert_blk {f : Fsp} (hf : f.ok) (s : List UInt8) (ty : TypeId) (mr : Bool) (C : List S) (o m : Nat) (c : Option Nat) (hb : ∀ b n w, FV f b n w → m ≠ nU b n w) : SC Try.prog 16 [f.v, .s (.str s), .s (.slc (some (0, o)) m c)] 1 [(0, some (bR ty mr C))] (.s (.slc none 0 (some 0))) 1 [(0, some (bR ty mr C))] := by
  cases h : vld f with
  | false =>
    have hu := units_no hf h
    refine SC.run hm Try.func16 rfl [.call [] [f.v] [] (.tup [.s (.int .i64 0), .s (.int .i64 0)]) 0 [], .dec true] [] rfl rfl ?_ (.inl rfl) (EndOK.by rfl ⟨rfl, trivial⟩ rfl rfl rfl rfl)
    simp only [true_and, and_true, and_assoc, beq_iff_eq]
    repeat' apply And.intro
    all_goals first | exact True.intro | exact call0 hu rfl | (with_reducible show _ = true; kernel_rfl) | rfl
  | true =>
    obtain ⟨b, n, w, hv⟩ := FV.of h
    have hu := units_v hf hv
    have hne : nU b n w ≠ 0 := by unfold nU; omega
    have hx := hb b n w hv
    refine SC.run hm Try.func16 rfl [.call [] [f.v] [] (.tup [.s (.int .i64 ((uf b w : Nat) : Int)), .s (.int .i64 ((nU b n w : Nat) : Int))]) 0 [], .dec false, .dec true] [] rfl rfl ?_ (.inl rfl) (EndOK.by rfl ⟨rfl, trivial⟩ rfl rfl rfl rfl)
    simp only [true_and, and_true, and_assoc, beq_eq_false_iff_ne, bne_iff_ne, ne_eq]
    repeat' apply And.intro
    all_goals first | exact True.intro | omega | exact call0 hu rfl | (with_reducible show _ = true; kernel_rfl)

theorem rinsert_nil {f : Fsp} (hf : f.ok) (s : List UInt8) (hb : ∀ b n w, FV f b n w → 0 ≠ nU b n w) : SC Try.prog 17 [f.v, .s (.str s), .s (.slc none 0 (some 0))] 0 [] (.s (.slc none 0 (some 0))) 0 [] := by
  cases h : vld f with
  | false =>
    have hu := runits_no hf h
    refine SC.run hm Try.func17 rfl [.call [] [f.v] [] (.tup [.s (.int .i64 0), .s (.int .i64 0)]) 0 [], .dec true] [] rfl rfl ?_ (.inl rfl) (EndOK.plain rfl no_mem rfl rfl)
    simp only [true_and, and_true, and_assoc, beq_iff_eq]
    repeat' apply And.intro
    all_goals first | exact True.intro | exact call0 hu rfl | (with_reducible show _ = true; kernel_rfl) | rfl
  | true =>
    obtain ⟨b, n, w, hv⟩ := FV.of h
    have hu := runits_v hf hv
    have hne : nU b n w ≠ 0 := by unfold nU; omega
    have hx := hb b n w hv
    refine SC.run hm Try.func17 rfl [.call [] [f.v] [] (.tup [.s (.int .i64 ((uf b w : Nat) : Int)), .s (.int .i64 ((nU b n w : Nat) : Int))]) 0 [], .dec false, .dec true] [] rfl rfl ?_ (.inl rfl) (EndOK.plain rfl no_mem rfl rfl)
    simp only [true_and, and_true, and_assoc, beq_eq_false_iff_ne, bne_iff_ne, ne_eq]
    repeat' apply And.intro
    all_goals first | exact True.intro | omega | exact call0 hu rfl | (with_reducible show _ = true; kernel_rfl)

theorem rinsert_emp {f : Fsp} (hf : f.ok) (s : List UInt8) (hb : ∀ b n w, FV f b n w → 0 ≠ nU b n w) : SC Try.prog 17 [f.v, .s (.str s), .s .emp] 0 [] (.s (.slc none 0 (some 0))) 0 [] := by
  cases h : vld f with
  | false =>
    have hu := runits_no hf h
    refine SC.run hm Try.func17 rfl [.call [] [f.v] [] (.tup [.s (.int .i64 0), .s (.int .i64 0)]) 0 [], .dec true] [] rfl rfl ?_ (.inl rfl) (EndOK.plain rfl no_mem rfl rfl)
    simp only [true_and, and_true, and_assoc, beq_iff_eq]
    repeat' apply And.intro
    all_goals first | exact True.intro | exact call0 hu rfl | (with_reducible show _ = true; kernel_rfl) | rfl
  | true =>
    obtain ⟨b, n, w, hv⟩ := FV.of h
    have hu := runits_v hf hv
    have hne : nU b n w ≠ 0 := by unfold nU; omega
    have hx := hb b n w hv
    refine SC.run hm Try.func17 rfl [.call [] [f.v] [] (.tup [.s (.int .i64 ((uf b w : Nat) : Int)), .s (.int .i64 ((nU b n w : Nat) : Int))]) 0 [], .dec false, .dec true] [] rfl rfl ?_ (.inl rfl) (EndOK.plain rfl no_mem rfl rfl)
    simp only [true_and, and_true, and_assoc, beq_eq_false_iff_ne, bne_iff_ne, ne_eq]
    repeat' apply And.intro
    all_goals first | exact True.intro | omega | exact call0 hu rfl | (with_reducible show _ = true; kernel_rfl)

theorem rinsert_blk {f : Fsp} (hf : f.ok) (s : List UInt8) (ty : TypeId) (mr : Bool) (C : List S) (o m : Nat) (c : Option Nat) (hb : ∀ b n w, FV f b n w → m ≠ nU b n w) : SC Try.prog 17 [f.v, .s (.str s), .s (.slc (some (0, o)) m c)] 1 [(0, some (bR ty mr C))] (.s (.slc none 0 (some 0))) 1 [(0, some (bR ty mr C))] := by
  cases h : vld f with
  | false =>
    have hu := runits_no hf h
    refine SC.run hm Try.func17 rfl [.call [] [f.v] [] (.tup [.s (.int .i64 0), .s (.int .i64 0)]) 0 [], .dec true] [] rfl rfl ?_ (.inl rfl) (EndOK.by rfl ⟨rfl, trivial⟩ rfl rfl rfl rfl)
    simp only [true_and, and_true, and_assoc, beq_iff_eq]
    repeat' apply And.intro
    all_goals first | exact True.intro | exact call0 hu rfl | (with_reducible show _ = true; kernel_rfl) | rfl
  | true =>
    obtain ⟨b, n, w, hv⟩ := FV.of h
    have hu := runits_v hf hv
    have hne : nU b n w ≠ 0 := by unfold nU; omega
    have hx := hb b n w hv
    refine SC.run hm Try.func17 rfl [.call [] [f.v] [] (.tup [.s (.int .i64 ((uf b w : Nat) : Int)), .s (.int .i64 ((nU b n w : Nat) : Int))]) 0 [], .dec false, .dec true] [] rfl rfl ?_ (.inl rfl) (EndOK.by rfl ⟨rfl, trivial⟩ rfl rfl rfl rfl)
    simp only [true_and, and_true, and_assoc, beq_eq_false_iff_ne, bne_iff_ne, ne_eq]
    repeat' apply And.intro
    all_goals first | exact True.intro | omega | exact call0 hu rfl | (with_reducible show _ = true; kernel_rfl)

end Go.Proofs.Ytgnidbokllmhhaa
