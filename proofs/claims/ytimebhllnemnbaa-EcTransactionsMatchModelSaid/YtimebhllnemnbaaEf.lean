/-
  awake and EcValidatesDelay: they return true.
-/
import Derived.Test.YtimebhllnemnbaaEe
set_option linter.unusedSimpArgs false
set_option linter.unusedVariables false
namespace Go.Proofs.Ytimebhllnemnbaa
open Go Ab
set_option maxRecDepth 100000

theorem stepL_ok {now : Nat} (hn : now < 2 ^ 64) : ∀ (k : Nat) (t : Tr) (c : Ct), c.ok → t.ok → (stepL k t c now).1.ok ∧ (stepL k t c now).2.ok
  | 0, t, c, h, ht => ⟨ht, h⟩
  | k + 1, t, c, h, ht => by
    obtain ⟨o1, o2⟩ := actM_ok (now := now) h hn ht
    simp only [stepL]
    split
    · exact stepL_ok hn k _ _ o2 o1
    · exact ⟨o1, o2⟩
theorem stepT_ok {t : Tr} {c : Ct} {now : Nat} (h : c.ok) (hn : now < 2 ^ 64) (ht : t.ok) (h6 : t.ph ≤ 6) : (stepT t c now).1.ok ∧ (stepT t c now).2.ok ∧ (stepT t c now).1.ph ≤ 6 := by
  unfold stepT
  split
  · rename_i h4
    obtain ⟨o1, o2⟩ := stepL_ok hn 7 t c h ht
    have := stepL_ph (now := now) 7 t c h4
    refine ⟨?_, o2, ?_⟩
    · show (endT _ _).ok
      unfold endT; split
      · exact ⟨o1.cmd, o1.adr, o1.val⟩
      · exact o1
    · show (endT _ _).ph ≤ 6
      unfold endT; split
      · show 6 ≤ 6; omega
      · omega
  · exact ⟨ht, h, h6⟩

theorem awake_s : SC Try.prog 10 [] 0 [] (.s (.bool true)) 0 [] := by
  have c1 := new_s 2 (by omega)
  have k0 : (ct0 2).ok := ct0_ok (by decide)
  have c2 := setRegister_s (ct0 2) 7 9 (by decide)
  have c3 := read_s 7 0 100 (by decide) (by decide)
  have k1 : ({ ct0 2 with regs := upd (ct0 2).regs 7 9 } : Ct).ok := ⟨k0.now, k0.delay, k0.due, k0.inp, k0.adr, k0.out, k0.cmd, fun i => by show upd _ _ _ i < 256; unfold upd; split <;> first | decide | exact (by decide : (0 : Nat) < 256)⟩
  have t0 : (⟨128, 7, 0, sat 0 100, 0, 0⟩ : Tr).ok := ⟨(by decide : 128 < 256), (by decide : 7 < 256), (by decide : 0 < 256)⟩
  have s1 := step_s ⟨128, 7, 0, sat 0 100, 0, 0⟩ { ct0 2 with regs := upd (ct0 2).regs 7 9 } 0 k1 (by decide) t0 (by decide)
  obtain ⟨o1, o2, o3⟩ := stepT_ok (now := 0) k1 (by decide) t0 (show 0 ≤ 6 by decide)
  have e1 : outT (stepT ⟨128, 7, 0, sat 0 100, 0, 0⟩ { ct0 2 with regs := upd (ct0 2).regs 7 9 } 0).1 = .tup [.s (.int .u8 0), .s (.bool false), .s (.int .i64 0)] := rfl
  have e2 : outT (stepT (stepT ⟨128, 7, 0, sat 0 100, 0, 0⟩ { ct0 2 with regs := upd (ct0 2).regs 7 9 } 0).1 (stepT ⟨128, 7, 0, sat 0 100, 0, 0⟩ { ct0 2 with regs := upd (ct0 2).regs 7 9 } 0).2 2).1 = .tup [.s (.int .u8 0), .s (.bool false), .s (.int .i64 0)] := rfl
  have e3 : outT (stepT (stepT (stepT ⟨128, 7, 0, sat 0 100, 0, 0⟩ { ct0 2 with regs := upd (ct0 2).regs 7 9 } 0).1 (stepT ⟨128, 7, 0, sat 0 100, 0, 0⟩ { ct0 2 with regs := upd (ct0 2).regs 7 9 } 0).2 2).1 (stepT (stepT ⟨128, 7, 0, sat 0 100, 0, 0⟩ { ct0 2 with regs := upd (ct0 2).regs 7 9 } 0).1 (stepT ⟨128, 7, 0, sat 0 100, 0, 0⟩ { ct0 2 with regs := upd (ct0 2).regs 7 9 } 0).2 2).2 4).1 = .tup [.s (.int .u8 9), .s (.bool true), .s (.int .i64 0)] := rfl
  rw [e1] at s1
  generalize hst1 : stepT ⟨128, 7, 0, sat 0 100, 0, 0⟩ { ct0 2 with regs := upd (ct0 2).regs 7 9 } 0 = x1 at *
  obtain ⟨t1, d1⟩ := x1
  dsimp only at *
  have s2 := step_s t1 d1 2 o2 (by decide) o1 o3
  obtain ⟨p1, p2, p3⟩ := stepT_ok (now := 2) o2 (by decide) o1 o3
  rw [e2] at s2
  generalize hst2 : stepT t1 d1 2 = x2 at *
  obtain ⟨t2, d2⟩ := x2
  dsimp only at *
  have s3 := step_s t2 d2 4 p2 (by decide) p1 p3
  rw [e3] at s3
  generalize stepT t2 d2 4 = x3 at *
  obtain ⟨t3, d3⟩ := x3
  dsimp only at *
  generalize hca : ({ ct0 2 with regs := upd (ct0 2).regs 7 9 } : Ct) = ca at *
  generalize hc0 : ct0 2 = cz at *
  refine SC.run hm Try.func10 rfl [.call [] [n64 2] [] (.tup [.s (.ptr (some (0, 0))), .s (.int .i64 0)]) 1 [(0, some (bC cz))], .dec false, .dec false, .call [0] [pC, n8 7, n8 9] [(0, some (bC cz))] (.tup []) 1 [(0, some (bC ca))],
    .call [] [n8 7, n64 0, n64 100] [] (.s (.ptr (some (0, 0)))) 1 [(0, some (bT ⟨128, 7, 0, sat 0 100, 0, 0⟩))], .dec false,
    .call [1, 0] [pT, pC1, n64 0] [(0, some (bT ⟨128, 7, 0, sat 0 100, 0, 0⟩)), (1, some (bC ca))] (.tup [.s (.int .u8 0), .s (.bool false), .s (.int .i64 0)]) 2 [(0, some (bT t1)), (1, some (bC d1))],
    .call [1, 0] [pT, pC1, n64 2] [(0, some (bT t1)), (1, some (bC d1))] (.tup [.s (.int .u8 0), .s (.bool false), .s (.int .i64 0)]) 2 [(0, some (bT t2)), (1, some (bC d2))],
    .call [1, 0] [pT, pC1, n64 4] [(0, some (bT t2)), (1, some (bC d2))] (.tup [.s (.int .u8 9), .s (.bool true), .s (.int .i64 0)]) 2 [(0, some (bT t3)), (1, some (bC d3))], .dec true, .dec true] [] rfl rfl ?_ (.inl rfl) (EndOK.plain rfl no_mem rfl rfl)
  simp only [true_and, and_true, and_assoc, bne_self_eq_false, beq_self_eq_true]
  repeat' apply And.intro
  all_goals first
    | exact True.intro
    | exact call0 c1 rfl
    | exact ⟨c2, rfl, Fits.of rfl rfl ⟨⟨rfl, _, rfl, rfl, fun h => h⟩, trivial⟩⟩
    | exact call0 c3 rfl
    | exact ⟨s1, rfl, Fits.of rfl rfl ⟨⟨rfl, _, rfl, rfl, fun h => h⟩, ⟨rfl, _, rfl, rfl, fun h => h⟩, trivial⟩⟩
    | exact ⟨s2, rfl, Fits.of rfl rfl ⟨⟨rfl, _, rfl, rfl, fun h => h⟩, ⟨rfl, _, rfl, rfl, fun h => h⟩, trivial⟩⟩
    | exact ⟨s3, rfl, Fits.of rfl rfl ⟨⟨rfl, _, rfl, rfl, fun h => h⟩, ⟨rfl, _, rfl, rfl, fun h => h⟩, trivial⟩⟩
    | (with_reducible show _ = true; kernel_rfl)
    | rfl

theorem delay_s (d s : Nat) (hd : d < 2 ^ 64) (hs : s < 256) : SC Try.prog 3 [n64 d, n8 s] 0 [] (.s (.bool true)) 0 [] := by
  have hq : d / 2 ^ (s % 64) < 2 ^ 64 := Nat.lt_of_le_of_lt (Nat.div_le_self _ _) hd
  have e1 : Int.tmod ((s : Nat) : Int) 64 = ((s % 64 : Nat) : Int) := rfl
  have e2 : Int.fdiv (d : Int) (2 ^ min ((s % 64 : Nat) : Int).toNat IntKind.u64.bits) = ((d / 2 ^ (s % 64) : Nat) : Int) := by
    have e : min ((s % 64 : Nat) : Int).toNat IntKind.u64.bits = s % 64 := by simp only [IntKind.bits]; omega
    rw [e, Int.fdiv_eq_ediv_of_nonneg _ (Int.le_of_lt (Int.pow_pos (by decide)))]; simp
  generalize hD : d / 2 ^ (s % 64) = D at *
  by_cases h : D ≤ 4294967296
  · have c1 := new_s D h
    refine SC.run hm Try.func3 rfl [.num ((s % 64 : Nat) : Int), .num ((D : Nat) : Int), .call [] [n64 D] [] (.tup [.s (.ptr (some (0, 0))), .s (.int .i64 0)]) 1 [(0, some (bC (ct0 D)))], .call [] [] [] (.s (.bool true)) 0 [], .dec true, .dec true, .dec true, .dec true, .dec true, .dec true, .dec true] [] rfl rfl ?_ (.inl rfl) (EndOK.plain rfl no_mem rfl rfl)
    simp only [true_and, and_true, and_assoc, beq_self_eq_true, decide_eq_true_eq, ne_eq]
    repeat' apply And.intro
    all_goals first
      | exact True.intro
      | exact e1
      | exact e2
      | exact call0 c1 rfl
      | exact call0 awake_s rfl
      | omega
      | (with_reducible show _ = true; kernel_rfl)
      | rfl
  · have c1 := new_no D h
    refine SC.run hm Try.func3 rfl [.num ((s % 64 : Nat) : Int), .num ((D : Nat) : Int), .call [] [n64 D] [] (.tup [.s (.ptr none), .s (.int .i64 1)]) 0 [], .call [] [] [] (.s (.bool true)) 0 [], .dec false, .dec false, .dec true, .dec false, .dec false, .dec true, .dec false, .dec true] [] rfl rfl ?_ (.inl rfl) (EndOK.plain rfl no_mem rfl rfl)
    simp only [true_and, and_true, and_assoc, beq_self_eq_true, decide_eq_false_iff_not, beq_eq_false_iff_ne, ne_eq]
    repeat' apply And.intro
    all_goals first
      | exact True.intro
      | exact e1
      | exact e2
      | exact call0 c1 rfl
      | exact call0 awake_s rfl
      | omega
      | (with_reducible show _ = true; kernel_rfl)
      | rfl

end Go.Proofs.Ytimebhllnemnbaa
