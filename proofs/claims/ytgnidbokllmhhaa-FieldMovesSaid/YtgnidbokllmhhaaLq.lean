/-
  FieldMoves: it is true, whatever it is handed.
-/
import Derived.Test.YtgnidbokllmhhaaLp
set_option linter.unusedSimpArgs false
set_option linter.unusedVariables false
namespace Go.Proofs.Ytgnidbokllmhhaa
open Go Ab
set_option maxRecDepth 100000

theorem ext_nil {f : Fsp} (hf : f.ok) : SC Try.prog 13 [f.v, .s (.slc none 0 (some 0))] 0 [] (.s (.str [])) 0 [] ∧ SC Try.prog 14 [f.v, .s (.slc none 0 (some 0))] 0 [] (.s (.str [])) 0 [] :=
  ⟨extract_nil hf fun b n w _ => by unfold nU; omega, rextract_nil hf fun b n w _ => by unfold nU; omega⟩
theorem ins_nil {f : Fsp} (hf : f.ok) (s : List UInt8) : SC Try.prog 16 [f.v, .s (.str s), .s (.slc none 0 (some 0))] 0 [] (.s (.slc none 0 (some 0))) 0 [] ∧ SC Try.prog 17 [f.v, .s (.str s), .s (.slc none 0 (some 0))] 0 [] (.s (.slc none 0 (some 0))) 0 [] :=
  ⟨insert_nil hf s fun b n w _ => by unfold nU; omega, rinsert_nil hf s fun b n w _ => by unfold nU; omega⟩
theorem ext_emp {f : Fsp} (hf : f.ok) : SC Try.prog 13 [f.v, .s .emp] 0 [] (.s (.str [])) 0 [] ∧ SC Try.prog 14 [f.v, .s .emp] 0 [] (.s (.str [])) 0 [] :=
  ⟨extract_emp hf fun b n w _ => by unfold nU; omega, rextract_emp hf fun b n w _ => by unfold nU; omega⟩
theorem ins_emp {f : Fsp} (hf : f.ok) (s : List UInt8) : SC Try.prog 16 [f.v, .s (.str s), .s .emp] 0 [] (.s (.slc none 0 (some 0))) 0 [] ∧ SC Try.prog 17 [f.v, .s (.str s), .s .emp] 0 [] (.s (.slc none 0 (some 0))) 0 [] :=
  ⟨insert_emp hf s fun b n w _ => by unfold nU; omega, rinsert_emp hf s fun b n w _ => by unfold nU; omega⟩
theorem ext_blk {f : Fsp} (hf : f.ok) (ty : TypeId) (mr : Bool) (C : List S) (g : Nat → Nat) (hg : ∀ i, g i < 2 ^ 64) (o m : Nat) (c : Option Nat) (hC : ∀ i, i < m → C[o + i]? = some (.int .u64 ((g i : Nat) : Int))) :
    ∃ t, SC Try.prog 13 [f.v, .s (.slc (some (0, o)) m c)] 1 [(0, some (bR ty mr C))] (.s (.str t)) 1 [(0, some (bR ty mr C))] ∧ SC Try.prog 14 [f.v, .s (.slc (some (0, o)) m c)] 1 [(0, some (bR ty mr C))] (.s (.str t)) 1 [(0, some (bR ty mr C))] := by
  by_cases h : ∃ b n w, FV f b n w ∧ m = nU b n w
  · obtain ⟨b, n, w, hv, rfl⟩ := h
    exact ⟨_, extract_s hf hv ty mr C g hg o c hC, rextract_s hf hv ty mr C g hg o c hC⟩
  · have hb : ∀ b n w, FV f b n w → m ≠ nU b n w := fun b n w hv e => h ⟨b, n, w, hv, e⟩
    exact ⟨[], extract_blk hf ty mr C o m c hb, rextract_blk hf ty mr C o m c hb⟩
theorem ins_blk {f : Fsp} (hf : f.ok) (s : List UInt8) (ty : TypeId) (mr : Bool) (C : List S) (g : Nat → Nat) (hg : ∀ i, g i < 2 ^ 64) (o m : Nat) (c : Option Nat) (hC : ∀ i, i < m → C[o + i]? = some (.int .u64 ((g i : Nat) : Int))) :
    (SC Try.prog 16 [f.v, .s (.str s), .s (.slc (some (0, o)) m c)] 1 [(0, some (bR ty mr C))] (.s (.slc none 0 (some 0))) 1 [(0, some (bR ty mr C))] ∧ SC Try.prog 17 [f.v, .s (.str s), .s (.slc (some (0, o)) m c)] 1 [(0, some (bR ty mr C))] (.s (.slc none 0 (some 0))) 1 [(0, some (bR ty mr C))]) ∨
    ∃ ll, ll.length ≤ 1000 ∧ SC Try.prog 16 [f.v, .s (.str s), .s (.slc (some (0, o)) m c)] 1 [(0, some (bR ty mr C))] (.s (.slc (some (1, 0)) ll.length (some ll.length))) 2 [(0, some (bR ty mr C)), (1, some (bU ll))] ∧
      SC Try.prog 17 [f.v, .s (.str s), .s (.slc (some (0, o)) m c)] 1 [(0, some (bR ty mr C))] (.s (.slc (some (1, 0)) ll.length (some ll.length))) 2 [(0, some (bR ty mr C)), (1, some (bU ll))] := by
  by_cases h : ∃ b n w, FV f b n w ∧ m = nU b n w
  · obtain ⟨b, n, w, hv, rfl⟩ := h
    have hN := nU_le hv
    have h1 := insert_s hf hv s ty mr C g hg o c hC
    have h2 := rinsert_s hf hv s ty mr C g hg o c hC
    have hlen := inK_length b n w f.up g s n
    generalize inK b n w f.up g s n = ll at *
    refine .inr ⟨ll, by omega, ?_, ?_⟩
    · rw [hlen]; exact h1
    · rw [hlen]; exact h2
  · have hb : ∀ b n w, FV f b n w → m ≠ nU b n w := fun b n w hv e => h ⟨b, n, w, hv, e⟩
    exact .inl ⟨insert_blk hf s ty mr C o m c hb, rinsert_blk hf s ty mr C o m c hb⟩
theorem unitsR {f : Fsp} (hf : f.ok) : ∃ a N : Nat, N ≤ 300 ∧ SC Try.prog 10 [f.v] 0 [] (.tup [.s (.int .i64 ((a : Nat) : Int)), .s (.int .i64 ((N : Nat) : Int))]) 0 [] := by
  cases h : vld f with
  | false => exact ⟨0, 0, by decide, runits_no hf h⟩
  | true =>
    obtain ⟨b, n, w, hv⟩ := FV.of h
    exact ⟨_, _, nU_le hv, runits_v hf hv⟩

theorem moves_Anil (f : Fsp) (hf : f.ok) (s : List UInt8) : SC Try.prog 3 [f.v, .s (.str s), .s (.slc none 0 (some 0)), .s (.bool false)] 0 [] (.s (.bool true)) 0 [] := by
  have hsp := spec_s f hf
  have haw := awake_s
  have hg := specF_ok hf
  obtain ⟨e1, e2⟩ := ext_nil hg
  obtain ⟨e3, e4⟩ := ext_nil hf
  obtain ⟨i1, i2⟩ := ins_nil hg s
  have q := equal_nil
  refine SC.run hm Try.func3 rfl [.call [] [f.v] [] ((specF f).v) 0 [], .call [] [] [] (.s (.bool true)) 0 [], .call [] [(specF f).v, .s (.slc none 0 (some 0))] [] (.s (.str [])) 0 [], .call [] [(specF f).v, .s (.slc none 0 (some 0))] [] (.s (.str [])) 0 [], .dec true,
    .call [] [(specF f).v, .s (.str s), .s (.slc none 0 (some 0))] [] (.s (.slc none 0 (some 0))) 0 [], .call [] [(specF f).v, .s (.str s), .s (.slc none 0 (some 0))] [] (.s (.slc none 0 (some 0))) 0 [], .call [] [.s (.slc none 0 (some 0)), .s (.slc none 0 (some 0))] [] (.s (.bool true)) 0 [],
    .call [] [f.v, .s (.slc none 0 (some 0))] [] (.s (.str [])) 0 [], .call [] [f.v, .s (.slc none 0 (some 0))] [] (.s (.str [])) 0 [], .dec true] [] rfl rfl ?_ (.inl rfl) (EndOK.plain rfl no_mem rfl rfl)
  simp only [true_and, and_true, and_assoc]
  repeat' apply And.intro
  all_goals first
    | exact True.intro
    | exact decide_eq_true rfl
    | (with_reducible show _ = true; kernel_rfl)
    | exact call0 hsp rfl
    | exact call0 haw rfl
    | exact call0 e1 rfl
    | exact call0 e2 rfl
    | exact call0 i1 rfl
    | exact call0 i2 rfl
    | exact call0 q rfl
    | exact call0 e3 rfl
    | exact call0 e4 rfl

theorem moves_Aemp (f : Fsp) (hf : f.ok) (s : List UInt8) : SC Try.prog 3 [f.v, .s (.str s), .s .emp, .s (.bool false)] 0 [] (.s (.bool true)) 0 [] := by
  have hsp := spec_s f hf
  have haw := awake_s
  have hg := specF_ok hf
  obtain ⟨e1, e2⟩ := ext_emp hg
  obtain ⟨e3, e4⟩ := ext_emp hf
  obtain ⟨i1, i2⟩ := ins_emp hg s
  have q := equal_nil
  refine SC.run hm Try.func3 rfl [.call [] [f.v] [] ((specF f).v) 0 [], .call [] [] [] (.s (.bool true)) 0 [], .call [] [(specF f).v, .s .emp] [] (.s (.str [])) 0 [], .call [] [(specF f).v, .s .emp] [] (.s (.str [])) 0 [], .dec true,
    .call [] [(specF f).v, .s (.str s), .s .emp] [] (.s (.slc none 0 (some 0))) 0 [], .call [] [(specF f).v, .s (.str s), .s .emp] [] (.s (.slc none 0 (some 0))) 0 [], .call [] [.s (.slc none 0 (some 0)), .s (.slc none 0 (some 0))] [] (.s (.bool true)) 0 [],
    .call [] [f.v, .s .emp] [] (.s (.str [])) 0 [], .call [] [f.v, .s .emp] [] (.s (.str [])) 0 [], .dec true] [] rfl rfl ?_ (.inl rfl) (EndOK.plain rfl no_mem rfl rfl)
  simp only [true_and, and_true, and_assoc]
  repeat' apply And.intro
  all_goals first
    | exact True.intro
    | exact decide_eq_true rfl
    | (with_reducible show _ = true; kernel_rfl)
    | exact call0 hsp rfl
    | exact call0 haw rfl
    | exact call0 e1 rfl
    | exact call0 e2 rfl
    | exact call0 i1 rfl
    | exact call0 i2 rfl
    | exact call0 q rfl
    | exact call0 e3 rfl
    | exact call0 e4 rfl

theorem moves_B (f : Fsp) (hf : f.ok) (s : List UInt8) (ty : TypeId) (mr : Bool) (C : List S) (g : Nat → Nat) (hg : ∀ i, g i < 2 ^ 64) (o m : Nat) (c : Option Nat) (hcc : ∀ i, i < m → C[o + i]? = some (.int .u64 ((g i : Nat) : Int))) : SC Try.prog 3 [f.v, .s (.str s), .s (.slc (some (0, o)) m c), .s (.bool false)] 1 [(0, some (bR ty mr C))] (.s (.bool true)) 1 [(0, some (bR ty mr C))] := by
  have hsp := spec_s f hf
  have haw := awake_s
  have hgf := specF_ok hf
  obtain ⟨t1, e1, e2⟩ := ext_blk hgf ty mr C g hg o m c hcc
  obtain ⟨t2, e3, e4⟩ := ext_blk hf ty mr C g hg o m c hcc
  rcases ins_blk hgf s ty mr C g hg o m c hcc with ⟨i1, i2⟩ | ⟨ll, hle, i1, i2⟩
  · have q := equal_nil
    refine SC.run hm Try.func3 rfl [.call [] [f.v] [] ((specF f).v) 0 [], .call [] [] [] (.s (.bool true)) 0 [], .call [0] [(specF f).v, .s (.slc (some (0, o)) m c)] [(0, some (bR ty mr C))] (.s (.str t1)) 1 [(0, some (bR ty mr C))], .call [0] [(specF f).v, .s (.slc (some (0, o)) m c)] [(0, some (bR ty mr C))] (.s (.str t1)) 1 [(0, some (bR ty mr C))], .dec true, .call [0] [(specF f).v, .s (.str s), .s (.slc (some (0, o)) m c)] [(0, some (bR ty mr C))] (.s (.slc none 0 (some 0))) 1 [(0, some (bR ty mr C))], .call [0] [(specF f).v, .s (.str s), .s (.slc (some (0, o)) m c)] [(0, some (bR ty mr C))] (.s (.slc none 0 (some 0))) 1 [(0, some (bR ty mr C))], .call [] [.s (.slc none 0 (some 0)), .s (.slc none 0 (some 0))] [] (.s (.bool true)) 0 [], .call [0] [f.v, .s (.slc (some (0, o)) m c)] [(0, some (bR ty mr C))] (.s (.str t2)) 1 [(0, some (bR ty mr C))], .call [0] [f.v, .s (.slc (some (0, o)) m c)] [(0, some (bR ty mr C))] (.s (.str t2)) 1 [(0, some (bR ty mr C))], .dec true] [] rfl rfl ?_ (.inl rfl) (EndOK.by rfl ⟨rfl, trivial⟩ rfl rfl rfl rfl)
    simp only [true_and, and_true, and_assoc]
    repeat' apply And.intro
    all_goals first
      | exact True.intro
      | exact decide_eq_true rfl
      | (with_reducible show _ = true; kernel_rfl)
      | exact call0 hsp rfl
      | exact call0 haw rfl
      | exact call0 q rfl
      | exact ⟨e1, rfl, Fits.of rfl rfl ⟨⟨rfl, _, rfl, rfl, fun _ => rfl⟩, trivial⟩⟩
      | exact ⟨e2, rfl, Fits.of rfl rfl ⟨⟨rfl, _, rfl, rfl, fun _ => rfl⟩, trivial⟩⟩
      | exact ⟨i1, rfl, Fits.of rfl rfl ⟨⟨rfl, _, rfl, rfl, fun _ => rfl⟩, trivial⟩⟩
      | exact ⟨i2, rfl, Fits.of rfl rfl ⟨⟨rfl, _, rfl, rfl, fun _ => rfl⟩, trivial⟩⟩
      | exact ⟨e3, rfl, Fits.of rfl rfl ⟨⟨rfl, _, rfl, rfl, fun _ => rfl⟩, trivial⟩⟩
      | exact ⟨e4, rfl, Fits.of rfl rfl ⟨⟨rfl, _, rfl, rfl, fun _ => rfl⟩, trivial⟩⟩
  · have q := equal_s ll false false (some ll.length) (some ll.length) hle
    refine SC.run hm Try.func3 rfl [.call [] [f.v] [] ((specF f).v) 0 [], .call [] [] [] (.s (.bool true)) 0 [], .call [0] [(specF f).v, .s (.slc (some (0, o)) m c)] [(0, some (bR ty mr C))] (.s (.str t1)) 1 [(0, some (bR ty mr C))], .call [0] [(specF f).v, .s (.slc (some (0, o)) m c)] [(0, some (bR ty mr C))] (.s (.str t1)) 1 [(0, some (bR ty mr C))], .dec true, .call [0] [(specF f).v, .s (.str s), .s (.slc (some (0, o)) m c)] [(0, some (bR ty mr C))] (.s (.slc (some (1, 0)) ll.length (some ll.length))) 2 [(0, some (bR ty mr C)), (1, some (bU ll))], .call [0] [(specF f).v, .s (.str s), .s (.slc (some (0, o)) m c)] [(0, some (bR ty mr C))] (.s (.slc (some (1, 0)) ll.length (some ll.length))) 2 [(0, some (bR ty mr C)), (1, some (bU ll))], .call [3, 4] [.s (.slc (some (0, 0)) ll.length (some ll.length)), .s (.slc (some (1, 0)) ll.length (some ll.length))] [(0, some (bR 22 false (cU ll))), (1, some (bR 22 false (cU ll)))] (.s (.bool true)) 2 [(0, some (bR 22 false (cU ll))), (1, some (bR 22 false (cU ll)))], .call [0] [f.v, .s (.slc (some (0, o)) m c)] [(0, some (bR ty mr C))] (.s (.str t2)) 1 [(0, some (bR ty mr C))], .call [0] [f.v, .s (.slc (some (0, o)) m c)] [(0, some (bR ty mr C))] (.s (.str t2)) 1 [(0, some (bR ty mr C))], .dec true] [] rfl rfl ?_ (.inl rfl) (EndOK.by rfl ⟨rfl, trivial⟩ rfl rfl rfl rfl)
    simp only [true_and, and_true, and_assoc]
    repeat' apply And.intro
    all_goals first
      | exact True.intro
      | exact decide_eq_true rfl
      | (with_reducible show _ = true; kernel_rfl)
      | exact call0 hsp rfl
      | exact call0 haw rfl
      | exact ⟨q, rfl, Fits.of rfl rfl ⟨⟨rfl, _, rfl, rfl, fun _ => rfl⟩, ⟨rfl, _, rfl, rfl, fun _ => rfl⟩, trivial⟩⟩
      | exact ⟨e1, rfl, Fits.of rfl rfl ⟨⟨rfl, _, rfl, rfl, fun _ => rfl⟩, trivial⟩⟩
      | exact ⟨e2, rfl, Fits.of rfl rfl ⟨⟨rfl, _, rfl, rfl, fun _ => rfl⟩, trivial⟩⟩
      | exact ⟨i1, rfl, Fits.of rfl rfl ⟨⟨rfl, _, rfl, rfl, fun _ => rfl⟩, trivial⟩⟩
      | exact ⟨i2, rfl, Fits.of rfl rfl ⟨⟨rfl, _, rfl, rfl, fun _ => rfl⟩, trivial⟩⟩
      | exact ⟨e3, rfl, Fits.of rfl rfl ⟨⟨rfl, _, rfl, rfl, fun _ => rfl⟩, trivial⟩⟩
      | exact ⟨e4, rfl, Fits.of rfl rfl ⟨⟨rfl, _, rfl, rfl, fun _ => rfl⟩, trivial⟩⟩

theorem moves_Cnil (f : Fsp) (hf : f.ok) (s : List UInt8)  : SC Try.prog 3 [f.v, .s (.str s), .s (.slc none 0 (some 0)), .s (.bool true)] 0 [] (.s (.bool true)) 0 [] := by
  have hsp := spec_s f hf
  have haw := awake_s
  have hgf := specF_ok hf
  obtain ⟨a, N, hN, hu⟩ := unitsR hgf
  have hfit := fit_nil N (by omega)
  have hll : ∀ i, (List.replicate N 0).getD i 0 < 2 ^ 64 := fun i => by rw [rep_getD]; decide
  have hcc : ∀ i, i < N → (cU (List.replicate N 0))[0 + i]? = some (.int .u64 (((List.replicate N 0).getD i 0 : Nat) : Int)) := fun i hi => by rw [Nat.zero_add]; exact cU_get (by simpa using hi)
  obtain ⟨t1, e1, e2⟩ := ext_blk hgf 22 false (cU (List.replicate N 0)) (fun i => (List.replicate N 0).getD i 0) hll 0 N (some N) hcc
  obtain ⟨t2, e3, e4⟩ := ext_blk hf 22 false (cU (List.replicate N 0)) (fun i => (List.replicate N 0).getD i 0) hll 0 N (some N) hcc
  rcases ins_blk hgf s 22 false (cU (List.replicate N 0)) (fun i => (List.replicate N 0).getD i 0) hll 0 N (some N) hcc with ⟨i1, i2⟩ | ⟨ll, hle, i1, i2⟩
  · have q := equal_nil
    refine SC.run hm Try.func3 rfl [.call [] [f.v] [] ((specF f).v) 0 [], .call [] [(specF f).v] [] (.tup [.s (.int .i64 ((a : Nat) : Int)), .s (.int .i64 ((N : Nat) : Int))]) 0 [], .call [] [.s (.slc none 0 (some 0)), .s (.int .i64 ((N : Nat) : Int))] [] (.s (.slc (some (0, 0)) N (some N))) 1 [(0, some (bU (List.replicate N 0)))], .call [] [] [] (.s (.bool true)) 0 [], .call [2] [(specF f).v, .s (.slc (some (0, 0)) N (some N))] [(0, some (bR 22 false (cU (List.replicate N 0))))] (.s (.str t1)) 1 [(0, some (bR 22 false (cU (List.replicate N 0))))], .call [2] [(specF f).v, .s (.slc (some (0, 0)) N (some N))] [(0, some (bR 22 false (cU (List.replicate N 0))))] (.s (.str t1)) 1 [(0, some (bR 22 false (cU (List.replicate N 0))))], .dec true, .call [2] [(specF f).v, .s (.str s), .s (.slc (some (0, 0)) N (some N))] [(0, some (bR 22 false (cU (List.replicate N 0))))] (.s (.slc none 0 (some 0))) 1 [(0, some (bR 22 false (cU (List.replicate N 0))))], .call [2] [(specF f).v, .s (.str s), .s (.slc (some (0, 0)) N (some N))] [(0, some (bR 22 false (cU (List.replicate N 0))))] (.s (.slc none 0 (some 0))) 1 [(0, some (bR 22 false (cU (List.replicate N 0))))], .call [] [.s (.slc none 0 (some 0)), .s (.slc none 0 (some 0))] [] (.s (.bool true)) 0 [], .call [2] [f.v, .s (.slc (some (0, 0)) N (some N))] [(0, some (bR 22 false (cU (List.replicate N 0))))] (.s (.str t2)) 1 [(0, some (bR 22 false (cU (List.replicate N 0))))], .call [2] [f.v, .s (.slc (some (0, 0)) N (some N))] [(0, some (bR 22 false (cU (List.replicate N 0))))] (.s (.str t2)) 1 [(0, some (bR 22 false (cU (List.replicate N 0))))], .dec true] [] rfl rfl ?_ (.inl rfl) (EndOK.plain rfl no_mem rfl rfl)
    simp only [true_and, and_true, and_assoc]
    repeat' apply And.intro
    all_goals first
      | exact True.intro
      | exact decide_eq_true rfl
      | (with_reducible show _ = true; kernel_rfl)
      | exact call0 hsp rfl
      | exact call0 haw rfl
      | exact call0 q rfl
      | exact ⟨e1, rfl, Fits.of rfl rfl ⟨⟨rfl, _, rfl, rfl, fun _ => rfl⟩, trivial⟩⟩
      | exact ⟨e2, rfl, Fits.of rfl rfl ⟨⟨rfl, _, rfl, rfl, fun _ => rfl⟩, trivial⟩⟩
      | exact ⟨i1, rfl, Fits.of rfl rfl ⟨⟨rfl, _, rfl, rfl, fun _ => rfl⟩, trivial⟩⟩
      | exact ⟨i2, rfl, Fits.of rfl rfl ⟨⟨rfl, _, rfl, rfl, fun _ => rfl⟩, trivial⟩⟩
      | exact ⟨e3, rfl, Fits.of rfl rfl ⟨⟨rfl, _, rfl, rfl, fun _ => rfl⟩, trivial⟩⟩
      | exact ⟨e4, rfl, Fits.of rfl rfl ⟨⟨rfl, _, rfl, rfl, fun _ => rfl⟩, trivial⟩⟩
      | exact call0 hu rfl
      | exact call0 hfit rfl
  · have q := equal_s ll false false (some ll.length) (some ll.length) hle
    refine SC.run hm Try.func3 rfl [.call [] [f.v] [] ((specF f).v) 0 [], .call [] [(specF f).v] [] (.tup [.s (.int .i64 ((a : Nat) : Int)), .s (.int .i64 ((N : Nat) : Int))]) 0 [], .call [] [.s (.slc none 0 (some 0)), .s (.int .i64 ((N : Nat) : Int))] [] (.s (.slc (some (0, 0)) N (some N))) 1 [(0, some (bU (List.replicate N 0)))], .call [] [] [] (.s (.bool true)) 0 [], .call [2] [(specF f).v, .s (.slc (some (0, 0)) N (some N))] [(0, some (bR 22 false (cU (List.replicate N 0))))] (.s (.str t1)) 1 [(0, some (bR 22 false (cU (List.replicate N 0))))], .call [2] [(specF f).v, .s (.slc (some (0, 0)) N (some N))] [(0, some (bR 22 false (cU (List.replicate N 0))))] (.s (.str t1)) 1 [(0, some (bR 22 false (cU (List.replicate N 0))))], .dec true, .call [2] [(specF f).v, .s (.str s), .s (.slc (some (0, 0)) N (some N))] [(0, some (bR 22 false (cU (List.replicate N 0))))] (.s (.slc (some (1, 0)) ll.length (some ll.length))) 2 [(0, some (bR 22 false (cU (List.replicate N 0)))), (1, some (bU ll))], .call [2] [(specF f).v, .s (.str s), .s (.slc (some (0, 0)) N (some N))] [(0, some (bR 22 false (cU (List.replicate N 0))))] (.s (.slc (some (1, 0)) ll.length (some ll.length))) 2 [(0, some (bR 22 false (cU (List.replicate N 0)))), (1, some (bU ll))], .call [3, 4] [.s (.slc (some (0, 0)) ll.length (some ll.length)), .s (.slc (some (1, 0)) ll.length (some ll.length))] [(0, some (bR 22 false (cU ll))), (1, some (bR 22 false (cU ll)))] (.s (.bool true)) 2 [(0, some (bR 22 false (cU ll))), (1, some (bR 22 false (cU ll)))], .call [2] [f.v, .s (.slc (some (0, 0)) N (some N))] [(0, some (bR 22 false (cU (List.replicate N 0))))] (.s (.str t2)) 1 [(0, some (bR 22 false (cU (List.replicate N 0))))], .call [2] [f.v, .s (.slc (some (0, 0)) N (some N))] [(0, some (bR 22 false (cU (List.replicate N 0))))] (.s (.str t2)) 1 [(0, some (bR 22 false (cU (List.replicate N 0))))], .dec true] [] rfl rfl ?_ (.inl rfl) (EndOK.plain rfl no_mem rfl rfl)
    simp only [true_and, and_true, and_assoc]
    repeat' apply And.intro
    all_goals first
      | exact True.intro
      | exact decide_eq_true rfl
      | (with_reducible show _ = true; kernel_rfl)
      | exact call0 hsp rfl
      | exact call0 haw rfl
      | exact ⟨q, rfl, Fits.of rfl rfl ⟨⟨rfl, _, rfl, rfl, fun _ => rfl⟩, ⟨rfl, _, rfl, rfl, fun _ => rfl⟩, trivial⟩⟩
      | exact ⟨e1, rfl, Fits.of rfl rfl ⟨⟨rfl, _, rfl, rfl, fun _ => rfl⟩, trivial⟩⟩
      | exact ⟨e2, rfl, Fits.of rfl rfl ⟨⟨rfl, _, rfl, rfl, fun _ => rfl⟩, trivial⟩⟩
      | exact ⟨i1, rfl, Fits.of rfl rfl ⟨⟨rfl, _, rfl, rfl, fun _ => rfl⟩, trivial⟩⟩
      | exact ⟨i2, rfl, Fits.of rfl rfl ⟨⟨rfl, _, rfl, rfl, fun _ => rfl⟩, trivial⟩⟩
      | exact ⟨e3, rfl, Fits.of rfl rfl ⟨⟨rfl, _, rfl, rfl, fun _ => rfl⟩, trivial⟩⟩
      | exact ⟨e4, rfl, Fits.of rfl rfl ⟨⟨rfl, _, rfl, rfl, fun _ => rfl⟩, trivial⟩⟩
      | exact call0 hu rfl
      | exact call0 hfit rfl

theorem moves_Cemp (f : Fsp) (hf : f.ok) (s : List UInt8)  : SC Try.prog 3 [f.v, .s (.str s), .s .emp, .s (.bool true)] 0 [] (.s (.bool true)) 0 [] := by
  have hsp := spec_s f hf
  have haw := awake_s
  have hgf := specF_ok hf
  obtain ⟨a, N, hN, hu⟩ := unitsR hgf
  have hfit := fit_emp N (by omega)
  have hll : ∀ i, (List.replicate N 0).getD i 0 < 2 ^ 64 := fun i => by rw [rep_getD]; decide
  have hcc : ∀ i, i < N → (cU (List.replicate N 0))[0 + i]? = some (.int .u64 (((List.replicate N 0).getD i 0 : Nat) : Int)) := fun i hi => by rw [Nat.zero_add]; exact cU_get (by simpa using hi)
  obtain ⟨t1, e1, e2⟩ := ext_blk hgf 22 false (cU (List.replicate N 0)) (fun i => (List.replicate N 0).getD i 0) hll 0 N (some N) hcc
  obtain ⟨t2, e3, e4⟩ := ext_blk hf 22 false (cU (List.replicate N 0)) (fun i => (List.replicate N 0).getD i 0) hll 0 N (some N) hcc
  rcases ins_blk hgf s 22 false (cU (List.replicate N 0)) (fun i => (List.replicate N 0).getD i 0) hll 0 N (some N) hcc with ⟨i1, i2⟩ | ⟨ll, hle, i1, i2⟩
  · have q := equal_nil
    refine SC.run hm Try.func3 rfl [.call [] [f.v] [] ((specF f).v) 0 [], .call [] [(specF f).v] [] (.tup [.s (.int .i64 ((a : Nat) : Int)), .s (.int .i64 ((N : Nat) : Int))]) 0 [], .call [] [.s .emp, .s (.int .i64 ((N : Nat) : Int))] [] (.s (.slc (some (0, 0)) N (some N))) 1 [(0, some (bU (List.replicate N 0)))], .call [] [] [] (.s (.bool true)) 0 [], .call [2] [(specF f).v, .s (.slc (some (0, 0)) N (some N))] [(0, some (bR 22 false (cU (List.replicate N 0))))] (.s (.str t1)) 1 [(0, some (bR 22 false (cU (List.replicate N 0))))], .call [2] [(specF f).v, .s (.slc (some (0, 0)) N (some N))] [(0, some (bR 22 false (cU (List.replicate N 0))))] (.s (.str t1)) 1 [(0, some (bR 22 false (cU (List.replicate N 0))))], .dec true, .call [2] [(specF f).v, .s (.str s), .s (.slc (some (0, 0)) N (some N))] [(0, some (bR 22 false (cU (List.replicate N 0))))] (.s (.slc none 0 (some 0))) 1 [(0, some (bR 22 false (cU (List.replicate N 0))))], .call [2] [(specF f).v, .s (.str s), .s (.slc (some (0, 0)) N (some N))] [(0, some (bR 22 false (cU (List.replicate N 0))))] (.s (.slc none 0 (some 0))) 1 [(0, some (bR 22 false (cU (List.replicate N 0))))], .call [] [.s (.slc none 0 (some 0)), .s (.slc none 0 (some 0))] [] (.s (.bool true)) 0 [], .call [2] [f.v, .s (.slc (some (0, 0)) N (some N))] [(0, some (bR 22 false (cU (List.replicate N 0))))] (.s (.str t2)) 1 [(0, some (bR 22 false (cU (List.replicate N 0))))], .call [2] [f.v, .s (.slc (some (0, 0)) N (some N))] [(0, some (bR 22 false (cU (List.replicate N 0))))] (.s (.str t2)) 1 [(0, some (bR 22 false (cU (List.replicate N 0))))], .dec true] [] rfl rfl ?_ (.inl rfl) (EndOK.plain rfl no_mem rfl rfl)
    simp only [true_and, and_true, and_assoc]
    repeat' apply And.intro
    all_goals first
      | exact True.intro
      | exact decide_eq_true rfl
      | (with_reducible show _ = true; kernel_rfl)
      | exact call0 hsp rfl
      | exact call0 haw rfl
      | exact call0 q rfl
      | exact ⟨e1, rfl, Fits.of rfl rfl ⟨⟨rfl, _, rfl, rfl, fun _ => rfl⟩, trivial⟩⟩
      | exact ⟨e2, rfl, Fits.of rfl rfl ⟨⟨rfl, _, rfl, rfl, fun _ => rfl⟩, trivial⟩⟩
      | exact ⟨i1, rfl, Fits.of rfl rfl ⟨⟨rfl, _, rfl, rfl, fun _ => rfl⟩, trivial⟩⟩
      | exact ⟨i2, rfl, Fits.of rfl rfl ⟨⟨rfl, _, rfl, rfl, fun _ => rfl⟩, trivial⟩⟩
      | exact ⟨e3, rfl, Fits.of rfl rfl ⟨⟨rfl, _, rfl, rfl, fun _ => rfl⟩, trivial⟩⟩
      | exact ⟨e4, rfl, Fits.of rfl rfl ⟨⟨rfl, _, rfl, rfl, fun _ => rfl⟩, trivial⟩⟩
      | exact call0 hu rfl
      | exact call0 hfit rfl
  · have q := equal_s ll false false (some ll.length) (some ll.length) hle
    refine SC.run hm Try.func3 rfl [.call [] [f.v] [] ((specF f).v) 0 [], .call [] [(specF f).v] [] (.tup [.s (.int .i64 ((a : Nat) : Int)), .s (.int .i64 ((N : Nat) : Int))]) 0 [], .call [] [.s .emp, .s (.int .i64 ((N : Nat) : Int))] [] (.s (.slc (some (0, 0)) N (some N))) 1 [(0, some (bU (List.replicate N 0)))], .call [] [] [] (.s (.bool true)) 0 [], .call [2] [(specF f).v, .s (.slc (some (0, 0)) N (some N))] [(0, some (bR 22 false (cU (List.replicate N 0))))] (.s (.str t1)) 1 [(0, some (bR 22 false (cU (List.replicate N 0))))], .call [2] [(specF f).v, .s (.slc (some (0, 0)) N (some N))] [(0, some (bR 22 false (cU (List.replicate N 0))))] (.s (.str t1)) 1 [(0, some (bR 22 false (cU (List.replicate N 0))))], .dec true, .call [2] [(specF f).v, .s (.str s), .s (.slc (some (0, 0)) N (some N))] [(0, some (bR 22 false (cU (List.replicate N 0))))] (.s (.slc (some (1, 0)) ll.length (some ll.length))) 2 [(0, some (bR 22 false (cU (List.replicate N 0)))), (1, some (bU ll))], .call [2] [(specF f).v, .s (.str s), .s (.slc (some (0, 0)) N (some N))] [(0, some (bR 22 false (cU (List.replicate N 0))))] (.s (.slc (some (1, 0)) ll.length (some ll.length))) 2 [(0, some (bR 22 false (cU (List.replicate N 0)))), (1, some (bU ll))], .call [3, 4] [.s (.slc (some (0, 0)) ll.length (some ll.length)), .s (.slc (some (1, 0)) ll.length (some ll.length))] [(0, some (bR 22 false (cU ll))), (1, some (bR 22 false (cU ll)))] (.s (.bool true)) 2 [(0, some (bR 22 false (cU ll))), (1, some (bR 22 false (cU ll)))], .call [2] [f.v, .s (.slc (some (0, 0)) N (some N))] [(0, some (bR 22 false (cU (List.replicate N 0))))] (.s (.str t2)) 1 [(0, some (bR 22 false (cU (List.replicate N 0))))], .call [2] [f.v, .s (.slc (some (0, 0)) N (some N))] [(0, some (bR 22 false (cU (List.replicate N 0))))] (.s (.str t2)) 1 [(0, some (bR 22 false (cU (List.replicate N 0))))], .dec true] [] rfl rfl ?_ (.inl rfl) (EndOK.plain rfl no_mem rfl rfl)
    simp only [true_and, and_true, and_assoc]
    repeat' apply And.intro
    all_goals first
      | exact True.intro
      | exact decide_eq_true rfl
      | (with_reducible show _ = true; kernel_rfl)
      | exact call0 hsp rfl
      | exact call0 haw rfl
      | exact ⟨q, rfl, Fits.of rfl rfl ⟨⟨rfl, _, rfl, rfl, fun _ => rfl⟩, ⟨rfl, _, rfl, rfl, fun _ => rfl⟩, trivial⟩⟩
      | exact ⟨e1, rfl, Fits.of rfl rfl ⟨⟨rfl, _, rfl, rfl, fun _ => rfl⟩, trivial⟩⟩
      | exact ⟨e2, rfl, Fits.of rfl rfl ⟨⟨rfl, _, rfl, rfl, fun _ => rfl⟩, trivial⟩⟩
      | exact ⟨i1, rfl, Fits.of rfl rfl ⟨⟨rfl, _, rfl, rfl, fun _ => rfl⟩, trivial⟩⟩
      | exact ⟨i2, rfl, Fits.of rfl rfl ⟨⟨rfl, _, rfl, rfl, fun _ => rfl⟩, trivial⟩⟩
      | exact ⟨e3, rfl, Fits.of rfl rfl ⟨⟨rfl, _, rfl, rfl, fun _ => rfl⟩, trivial⟩⟩
      | exact ⟨e4, rfl, Fits.of rfl rfl ⟨⟨rfl, _, rfl, rfl, fun _ => rfl⟩, trivial⟩⟩
      | exact call0 hu rfl
      | exact call0 hfit rfl

theorem moves_D (f : Fsp) (hf : f.ok) (s : List UInt8) (ty : TypeId) (mr : Bool) (C : List S) (g : Nat → Nat) (hg : ∀ i, g i < 2 ^ 64) (o m : Nat) (c : Option Nat) (hC : ∀ i, i < m → C[o + i]? = some (.int .u64 ((g i : Nat) : Int))) (ho : o + m ≤ C.length) : SC Try.prog 3 [f.v, .s (.str s), .s (.slc (some (0, o)) m c), .s (.bool true)] 1 [(0, some (bR ty mr C))] (.s (.bool true)) 1 [(0, some (bR ty mr C))] := by
  have hsp := spec_s f hf
  have haw := awake_s
  have hgf := specF_ok hf
  obtain ⟨a, N, hN, hu⟩ := unitsR hgf
  have hfit := fit_s ty mr C g o m N c hC ho (by omega)
  have hll := fitL_lt (m := m) (n := N) hg
  have hcc : ∀ i, i < N → (cU (fitL g m N))[0 + i]? = some (.int .u64 (((fitL g m N).getD i 0 : Nat) : Int)) := fun i hi => by rw [Nat.zero_add]; exact cU_get (by rw [fitL_length]; exact hi)
  obtain ⟨t1, e1, e2⟩ := ext_blk hgf 22 false (cU (fitL g m N)) (fun i => (fitL g m N).getD i 0) hll 0 N (some N) hcc
  obtain ⟨t2, e3, e4⟩ := ext_blk hf 22 false (cU (fitL g m N)) (fun i => (fitL g m N).getD i 0) hll 0 N (some N) hcc
  rcases ins_blk hgf s 22 false (cU (fitL g m N)) (fun i => (fitL g m N).getD i 0) hll 0 N (some N) hcc with ⟨i1, i2⟩ | ⟨ll, hle, i1, i2⟩
  · have q := equal_nil
    refine SC.run hm Try.func3 rfl [.call [] [f.v] [] ((specF f).v) 0 [], .call [] [(specF f).v] [] (.tup [.s (.int .i64 ((a : Nat) : Int)), .s (.int .i64 ((N : Nat) : Int))]) 0 [], .call [0] [.s (.slc (some (0, o)) m c), .s (.int .i64 ((N : Nat) : Int))] [(0, some (bR ty mr C))] (.s (.slc (some (1, 0)) N (some N))) 2 [(0, some (bR ty mr C)), (1, some (bU (fitL g m N)))], .call [] [] [] (.s (.bool true)) 0 [], .call [3] [(specF f).v, .s (.slc (some (0, 0)) N (some N))] [(0, some (bR 22 false (cU (fitL g m N))))] (.s (.str t1)) 1 [(0, some (bR 22 false (cU (fitL g m N))))], .call [3] [(specF f).v, .s (.slc (some (0, 0)) N (some N))] [(0, some (bR 22 false (cU (fitL g m N))))] (.s (.str t1)) 1 [(0, some (bR 22 false (cU (fitL g m N))))], .dec true, .call [3] [(specF f).v, .s (.str s), .s (.slc (some (0, 0)) N (some N))] [(0, some (bR 22 false (cU (fitL g m N))))] (.s (.slc none 0 (some 0))) 1 [(0, some (bR 22 false (cU (fitL g m N))))], .call [3] [(specF f).v, .s (.str s), .s (.slc (some (0, 0)) N (some N))] [(0, some (bR 22 false (cU (fitL g m N))))] (.s (.slc none 0 (some 0))) 1 [(0, some (bR 22 false (cU (fitL g m N))))], .call [] [.s (.slc none 0 (some 0)), .s (.slc none 0 (some 0))] [] (.s (.bool true)) 0 [], .call [3] [f.v, .s (.slc (some (0, 0)) N (some N))] [(0, some (bR 22 false (cU (fitL g m N))))] (.s (.str t2)) 1 [(0, some (bR 22 false (cU (fitL g m N))))], .call [3] [f.v, .s (.slc (some (0, 0)) N (some N))] [(0, some (bR 22 false (cU (fitL g m N))))] (.s (.str t2)) 1 [(0, some (bR 22 false (cU (fitL g m N))))], .dec true] [] rfl rfl ?_ (.inl rfl) (EndOK.by rfl ⟨rfl, trivial⟩ rfl rfl rfl rfl)
    simp only [true_and, and_true, and_assoc]
    repeat' apply And.intro
    all_goals first
      | exact True.intro
      | exact decide_eq_true rfl
      | (with_reducible show _ = true; kernel_rfl)
      | exact call0 hsp rfl
      | exact call0 haw rfl
      | exact call0 q rfl
      | exact ⟨e1, rfl, Fits.of rfl rfl ⟨⟨rfl, _, rfl, rfl, fun _ => rfl⟩, trivial⟩⟩
      | exact ⟨e2, rfl, Fits.of rfl rfl ⟨⟨rfl, _, rfl, rfl, fun _ => rfl⟩, trivial⟩⟩
      | exact ⟨i1, rfl, Fits.of rfl rfl ⟨⟨rfl, _, rfl, rfl, fun _ => rfl⟩, trivial⟩⟩
      | exact ⟨i2, rfl, Fits.of rfl rfl ⟨⟨rfl, _, rfl, rfl, fun _ => rfl⟩, trivial⟩⟩
      | exact ⟨e3, rfl, Fits.of rfl rfl ⟨⟨rfl, _, rfl, rfl, fun _ => rfl⟩, trivial⟩⟩
      | exact ⟨e4, rfl, Fits.of rfl rfl ⟨⟨rfl, _, rfl, rfl, fun _ => rfl⟩, trivial⟩⟩
      | exact call0 hu rfl
      | exact ⟨hfit, rfl, Fits.of rfl rfl ⟨⟨rfl, _, rfl, rfl, fun _ => rfl⟩, trivial⟩⟩
  · have q := equal_s ll false false (some ll.length) (some ll.length) hle
    refine SC.run hm Try.func3 rfl [.call [] [f.v] [] ((specF f).v) 0 [], .call [] [(specF f).v] [] (.tup [.s (.int .i64 ((a : Nat) : Int)), .s (.int .i64 ((N : Nat) : Int))]) 0 [], .call [0] [.s (.slc (some (0, o)) m c), .s (.int .i64 ((N : Nat) : Int))] [(0, some (bR ty mr C))] (.s (.slc (some (1, 0)) N (some N))) 2 [(0, some (bR ty mr C)), (1, some (bU (fitL g m N)))], .call [] [] [] (.s (.bool true)) 0 [], .call [3] [(specF f).v, .s (.slc (some (0, 0)) N (some N))] [(0, some (bR 22 false (cU (fitL g m N))))] (.s (.str t1)) 1 [(0, some (bR 22 false (cU (fitL g m N))))], .call [3] [(specF f).v, .s (.slc (some (0, 0)) N (some N))] [(0, some (bR 22 false (cU (fitL g m N))))] (.s (.str t1)) 1 [(0, some (bR 22 false (cU (fitL g m N))))], .dec true, .call [3] [(specF f).v, .s (.str s), .s (.slc (some (0, 0)) N (some N))] [(0, some (bR 22 false (cU (fitL g m N))))] (.s (.slc (some (1, 0)) ll.length (some ll.length))) 2 [(0, some (bR 22 false (cU (fitL g m N)))), (1, some (bU ll))], .call [3] [(specF f).v, .s (.str s), .s (.slc (some (0, 0)) N (some N))] [(0, some (bR 22 false (cU (fitL g m N))))] (.s (.slc (some (1, 0)) ll.length (some ll.length))) 2 [(0, some (bR 22 false (cU (fitL g m N)))), (1, some (bU ll))], .call [4, 5] [.s (.slc (some (0, 0)) ll.length (some ll.length)), .s (.slc (some (1, 0)) ll.length (some ll.length))] [(0, some (bR 22 false (cU ll))), (1, some (bR 22 false (cU ll)))] (.s (.bool true)) 2 [(0, some (bR 22 false (cU ll))), (1, some (bR 22 false (cU ll)))], .call [3] [f.v, .s (.slc (some (0, 0)) N (some N))] [(0, some (bR 22 false (cU (fitL g m N))))] (.s (.str t2)) 1 [(0, some (bR 22 false (cU (fitL g m N))))], .call [3] [f.v, .s (.slc (some (0, 0)) N (some N))] [(0, some (bR 22 false (cU (fitL g m N))))] (.s (.str t2)) 1 [(0, some (bR 22 false (cU (fitL g m N))))], .dec true] [] rfl rfl ?_ (.inl rfl) (EndOK.by rfl ⟨rfl, trivial⟩ rfl rfl rfl rfl)
    simp only [true_and, and_true, and_assoc]
    repeat' apply And.intro
    all_goals first
      | exact True.intro
      | exact decide_eq_true rfl
      | (with_reducible show _ = true; kernel_rfl)
      | exact call0 hsp rfl
      | exact call0 haw rfl
      | exact ⟨q, rfl, Fits.of rfl rfl ⟨⟨rfl, _, rfl, rfl, fun _ => rfl⟩, ⟨rfl, _, rfl, rfl, fun _ => rfl⟩, trivial⟩⟩
      | exact ⟨e1, rfl, Fits.of rfl rfl ⟨⟨rfl, _, rfl, rfl, fun _ => rfl⟩, trivial⟩⟩
      | exact ⟨e2, rfl, Fits.of rfl rfl ⟨⟨rfl, _, rfl, rfl, fun _ => rfl⟩, trivial⟩⟩
      | exact ⟨i1, rfl, Fits.of rfl rfl ⟨⟨rfl, _, rfl, rfl, fun _ => rfl⟩, trivial⟩⟩
      | exact ⟨i2, rfl, Fits.of rfl rfl ⟨⟨rfl, _, rfl, rfl, fun _ => rfl⟩, trivial⟩⟩
      | exact ⟨e3, rfl, Fits.of rfl rfl ⟨⟨rfl, _, rfl, rfl, fun _ => rfl⟩, trivial⟩⟩
      | exact ⟨e4, rfl, Fits.of rfl rfl ⟨⟨rfl, _, rfl, rfl, fun _ => rfl⟩, trivial⟩⟩
      | exact call0 hu rfl
      | exact ⟨hfit, rfl, Fits.of rfl rfl ⟨⟨rfl, _, rfl, rfl, fun _ => rfl⟩, trivial⟩⟩

end Go.Proofs.Ytgnidbokllmhhaa
