/-
  The reference transaction: one action.
-/
import Derived.Test.YtimebhllnemnbaaQj
set_option linter.unusedSimpArgs false
set_option linter.unusedVariables false
namespace Go.Proofs.Ytimebhllnemnbaa
open Go Ab
set_option maxRecDepth 100000

/-- the reference transaction: start, timeout, phase, error -/
def bU (t : Tr) (st tm ph er : Nat) : Bl := { cells := [.int .u8 ((t.cmd : Nat) : Int), .int .u8 ((t.adr : Nat) : Int), .int .u8 ((t.val : Nat) : Int), .int .u64 ((st : Nat) : Int), .int .u64 ((tm : Nat) : Int), .int .i64 ((ph : Nat) : Int), .int .u8 ((t.res : Nat) : Int), .int .i64 ((er : Nat) : Int)], ty := 75 }
def actO (t : Tr) (c : Cq) (o now : Nat) : Nat :=
  match (advq c now).pend, (advq c now).full, t.ph with
  | false, true, 0 => (advq (advq c now) now).ou o
  | false, true, 3 => (advq (advq c now) now).ou o
  | _, _, _ => o
def sUN (t : Tr) (st tm ph er : Nat) (c : Cq) (o : Nat) : Hp := [(0, some (bU t st tm ph er)), (1, some (bR c o nilS))]
def sUQ (t : Tr) (st tm ph er : Nat) (c : Cq) (o : Nat) : Hp := [(0, some (bU t st tm ph er)), (1, some (bR c o (.sla 2 3 c.q.length))), (2, some (qB c.q 3))]
def eUQ (t : Tr) (st tm ph er : Nat) (c : Cq) (o : Nat) : Hp := [(0, some (bU t st tm ph er)), (1, some (bR c o (.sla 4 5 c.q.length))), (2, none), (4, some (qB c.q 5))]
def lUQ (t : Tr) (st tm ph er : Nat) (c : Cq) (o : Nat) : Hp := [(0, some (bU t st tm ph er)), (1, some (bR c o (.sla 4 5 c.q.length))), (4, some (qB c.q 5))]
def nxt (ph cmd : Nat) : Nat := match ph with | 0 => (if cmd = 132 then 3 else 1) | 1 => (if cmd = 129 then 2 else 3) | 2 => 4 | _ => 3
theorem nxt0y (t : Tr) (st tm ph er : Nat) (h0 : ph = 0) (hc : t.cmd = 132) : SC Try.prog 50 [pT] 1 [(0, some (bU t st tm ph er))] (.s (.int .i64 ((3 : Nat) : Int))) 1 [(0, some (bU t st tm ph er))] := by
  refine SC.run hm Try.func50 rfl [.dec true, .dec false, .dec false, .dec false] [] rfl rfl ?_ (.inl rfl) (EndOK.by rfl ⟨rfl, trivial⟩ rfl rfl rfl rfl)
  simp only [true_and, and_true, and_assoc, bne_iff_ne, bne_eq_false_iff_eq, beq_iff_eq, beq_eq_false_iff_ne, ne_eq]
  omega
theorem nxt0n (t : Tr) (st tm ph er : Nat) (h0 : ph = 0) (hc : t.cmd ≠ 132) : SC Try.prog 50 [pT] 1 [(0, some (bU t st tm ph er))] (.s (.int .i64 ((1 : Nat) : Int))) 1 [(0, some (bU t st tm ph er))] := by
  refine SC.run hm Try.func50 rfl [.dec true, .dec true] [] rfl rfl ?_ (.inl rfl) (EndOK.by rfl ⟨rfl, trivial⟩ rfl rfl rfl rfl)
  simp only [true_and, and_true, and_assoc, bne_iff_ne, bne_eq_false_iff_eq, beq_iff_eq, beq_eq_false_iff_ne, ne_eq]
  omega
theorem nxt1y (t : Tr) (st tm ph er : Nat) (h0 : ph = 1) (hc : t.cmd = 129) : SC Try.prog 50 [pT] 1 [(0, some (bU t st tm ph er))] (.s (.int .i64 ((2 : Nat) : Int))) 1 [(0, some (bU t st tm ph er))] := by
  refine SC.run hm Try.func50 rfl [.dec false, .dec true, .dec true] [] rfl rfl ?_ (.inl rfl) (EndOK.by rfl ⟨rfl, trivial⟩ rfl rfl rfl rfl)
  simp only [true_and, and_true, and_assoc, bne_iff_ne, bne_eq_false_iff_eq, beq_iff_eq, beq_eq_false_iff_ne, ne_eq]
  omega
theorem nxt1n (t : Tr) (st tm ph er : Nat) (h0 : ph = 1) (hc : t.cmd ≠ 129) : SC Try.prog 50 [pT] 1 [(0, some (bU t st tm ph er))] (.s (.int .i64 ((3 : Nat) : Int))) 1 [(0, some (bU t st tm ph er))] := by
  refine SC.run hm Try.func50 rfl [.dec false, .dec true, .dec false, .dec false] [] rfl rfl ?_ (.inl rfl) (EndOK.by rfl ⟨rfl, trivial⟩ rfl rfl rfl rfl)
  simp only [true_and, and_true, and_assoc, bne_iff_ne, bne_eq_false_iff_eq, beq_iff_eq, beq_eq_false_iff_ne, ne_eq]
  omega
theorem nxt2 (t : Tr) (st tm ph er : Nat) (h0 : ph = 2) : SC Try.prog 50 [pT] 1 [(0, some (bU t st tm ph er))] (.s (.int .i64 ((4 : Nat) : Int))) 1 [(0, some (bU t st tm ph er))] := by
  refine SC.run hm Try.func50 rfl [.dec false, .dec false, .dec true] [] rfl rfl ?_ (.inl rfl) (EndOK.by rfl ⟨rfl, trivial⟩ rfl rfl rfl rfl)
  simp only [true_and, and_true, and_assoc, bne_iff_ne, bne_eq_false_iff_eq, beq_iff_eq, beq_eq_false_iff_ne, ne_eq]
  omega
theorem ractP_N (t : Tr) (st tm : Nat) (c : Cq) (o now : Nat) (h : c.ok) (hn : now < 2 ^ 64) (hq : c.q = []) (hp : (advq c now).pend = true) : SC Try.prog 43 [pT, pC1, n64 now] 2 (sUN t st tm t.ph 0 c o) (.s (.bool false)) 2 (sUN t st tm t.ph 0 (advq c now) o) := by
  have c1 := rstatus_N c o now h hq
  have e1 := st_b2 (advq c now)
  have e2 := st_b1 (advq c now)
  have hq2 := advq_q0 c now hq
  rw [hp] at e1
  generalize advq c now = d at *
  refine SC.run hm Try.func43 rfl [.call [1] [pC, n64 now] [(0, some (bR c o nilS))] (n8 (stNq d)) 1 [(0, some (bR d o nilS))], .num 2, .dec true] [] rfl rfl ?_ (.inl rfl) (EndOK.by rfl ⟨rfl, rfl, trivial⟩ rfl rfl rfl rfl)
  simp only [true_and, and_true, and_assoc, bne_iff_ne, bne_eq_false_iff_eq, beq_iff_eq, beq_eq_false_iff_ne, ne_eq]
  repeat' apply And.intro
  all_goals first
    | exact True.intro
    | exact ⟨c1, rfl, Fits.of rfl rfl ⟨⟨rfl, _, rfl, rfl, fun h => h⟩, trivial⟩⟩
    | (with_reducible show _ = true; kernel_rfl)
    | (rw [e2]; with_reducible exact rfl)
    | (rw [e1]; with_reducible exact rfl)
    | (with_reducible exact rfl)
    | omega
    | decide
theorem ract0f_N (t : Tr) (st tm : Nat) (c : Cq) (o now : Nat) (h : c.ok) (hn : now < 2 ^ 64) (hq : c.q = []) (hp : (advq c now).pend = false) (hf : (advq c now).full = true) (h0 : t.ph = 0) : SC Try.prog 43 [pT, pC1, n64 now] 2 (sUN t st tm t.ph 0 c o) (.s (.bool true)) 2 (sUN t st tm t.ph 0 (emtq (advq (advq c now) now)) ((advq (advq c now) now).ou o)) := by
  have c1 := rstatus_N c o now h hq
  have e1 := st_b2 (advq c now)
  have e2 := st_b1 (advq c now)
  have hq2 := advq_q0 c now hq
  have c2 := rreadData_N (advq c now) o now (advq_ok h hn) hn hq2
  rw [hp] at e1
  rw [hf] at e2
  generalize advq c now = d at *
  refine SC.run hm Try.func43 rfl [.call [1] [pC, n64 now] [(0, some (bR c o nilS))] (n8 (stNq d)) 1 [(0, some (bR d o nilS))], .num 0, .dec false, .dec true, .num 1, .dec true, .call [1] [pC, n64 now] [(0, some (bR d o nilS))] (n8 (advq d now).out) 1 [(0, some (bR (emtq (advq d now)) ((advq d now).ou o) nilS))]] [] rfl rfl ?_ (.inl rfl) (EndOK.by rfl ⟨rfl, rfl, trivial⟩ rfl rfl rfl rfl)
  simp only [true_and, and_true, and_assoc, bne_iff_ne, bne_eq_false_iff_eq, beq_iff_eq, beq_eq_false_iff_ne, ne_eq]
  repeat' apply And.intro
  all_goals first
    | exact True.intro
    | exact ⟨c1, rfl, Fits.of rfl rfl ⟨⟨rfl, _, rfl, rfl, fun h => h⟩, trivial⟩⟩
    | exact ⟨c2, rfl, Fits.of rfl rfl ⟨⟨rfl, _, rfl, rfl, fun h => h⟩, trivial⟩⟩
    | (with_reducible show _ = true; kernel_rfl)
    | (rw [e2]; with_reducible exact rfl)
    | (rw [e1]; with_reducible exact rfl)
    | (with_reducible exact rfl)
    | omega
    | decide
theorem ract0e1_N (t : Tr) (st tm : Nat) (c : Cq) (o now : Nat) (h : c.ok) (hn : now < 2 ^ 64) (hq : c.q = []) (hp : (advq c now).pend = false) (hf : (advq c now).full = false) (h0 : t.ph = 0) (hc : t.cmd = 132) : SC Try.prog 43 [pT, pC1, n64 now] 2 (sUN t st tm t.ph 0 c o) (.s (.bool true)) 2 (sUN { t with ph := 3 } st tm 3 0 (wrtq (advq c now) now t.cmd true) o) := by
  have c1 := rstatus_N c o now h hq
  have e1 := st_b2 (advq c now)
  have e2 := st_b1 (advq c now)
  have hq2 := advq_q0 c now hq
  have c2 := rwriteCommand_N (advq c now) o now t.cmd (advq_ok h hn) hn hq2
  have c3 := nxt0y t st tm t.ph 0 h0 hc
  rw [hp] at e1
  rw [hf] at e2
  generalize advq c now = d at *
  refine SC.run hm Try.func43 rfl [.call [1] [pC, n64 now] [(0, some (bR c o nilS))] (n8 (stNq d)) 1 [(0, some (bR d o nilS))], .num 0, .dec false, .dec true, .num 0, .dec false, .call [1] [pC, n64 now, n8 t.cmd] [(0, some (bR d o nilS))] (.tup []) 1 [(0, some (bR (wrtq d now t.cmd true) o nilS))], .call [0] [pT] [(0, some (bU t st tm t.ph 0))] (.s (.int .i64 ((3 : Nat) : Int))) 1 [(0, some (bU t st tm t.ph 0))]] [] rfl rfl ?_ (.inl rfl) (EndOK.by rfl ⟨rfl, rfl, trivial⟩ rfl rfl rfl rfl)
  simp only [true_and, and_true, and_assoc, bne_iff_ne, bne_eq_false_iff_eq, beq_iff_eq, beq_eq_false_iff_ne, ne_eq]
  repeat' apply And.intro
  all_goals first
    | exact True.intro
    | exact ⟨c1, rfl, Fits.of rfl rfl ⟨⟨rfl, _, rfl, rfl, fun h => h⟩, trivial⟩⟩
    | exact ⟨c2, rfl, Fits.of rfl rfl ⟨⟨rfl, _, rfl, rfl, fun h => h⟩, trivial⟩⟩
    | exact ⟨c3, rfl, Fits.of rfl rfl ⟨⟨rfl, _, rfl, rfl, fun h => h⟩, trivial⟩⟩
    | (with_reducible show _ = true; kernel_rfl)
    | (rw [e2]; with_reducible exact rfl)
    | (rw [e1]; with_reducible exact rfl)
    | (with_reducible exact rfl)
    | omega
    | decide
theorem ract0e0_N (t : Tr) (st tm : Nat) (c : Cq) (o now : Nat) (h : c.ok) (hn : now < 2 ^ 64) (hq : c.q = []) (hp : (advq c now).pend = false) (hf : (advq c now).full = false) (h0 : t.ph = 0) (hc : t.cmd ≠ 132) : SC Try.prog 43 [pT, pC1, n64 now] 2 (sUN t st tm t.ph 0 c o) (.s (.bool true)) 2 (sUN { t with ph := 1 } st tm 1 0 (wrtq (advq c now) now t.cmd true) o) := by
  have c1 := rstatus_N c o now h hq
  have e1 := st_b2 (advq c now)
  have e2 := st_b1 (advq c now)
  have hq2 := advq_q0 c now hq
  have c2 := rwriteCommand_N (advq c now) o now t.cmd (advq_ok h hn) hn hq2
  have c3 := nxt0n t st tm t.ph 0 h0 hc
  rw [hp] at e1
  rw [hf] at e2
  generalize advq c now = d at *
  refine SC.run hm Try.func43 rfl [.call [1] [pC, n64 now] [(0, some (bR c o nilS))] (n8 (stNq d)) 1 [(0, some (bR d o nilS))], .num 0, .dec false, .dec true, .num 0, .dec false, .call [1] [pC, n64 now, n8 t.cmd] [(0, some (bR d o nilS))] (.tup []) 1 [(0, some (bR (wrtq d now t.cmd true) o nilS))], .call [0] [pT] [(0, some (bU t st tm t.ph 0))] (.s (.int .i64 ((1 : Nat) : Int))) 1 [(0, some (bU t st tm t.ph 0))]] [] rfl rfl ?_ (.inl rfl) (EndOK.by rfl ⟨rfl, rfl, trivial⟩ rfl rfl rfl rfl)
  simp only [true_and, and_true, and_assoc, bne_iff_ne, bne_eq_false_iff_eq, beq_iff_eq, beq_eq_false_iff_ne, ne_eq]
  repeat' apply And.intro
  all_goals first
    | exact True.intro
    | exact ⟨c1, rfl, Fits.of rfl rfl ⟨⟨rfl, _, rfl, rfl, fun h => h⟩, trivial⟩⟩
    | exact ⟨c2, rfl, Fits.of rfl rfl ⟨⟨rfl, _, rfl, rfl, fun h => h⟩, trivial⟩⟩
    | exact ⟨c3, rfl, Fits.of rfl rfl ⟨⟨rfl, _, rfl, rfl, fun h => h⟩, trivial⟩⟩
    | (with_reducible show _ = true; kernel_rfl)
    | (rw [e2]; with_reducible exact rfl)
    | (rw [e1]; with_reducible exact rfl)
    | (with_reducible exact rfl)
    | omega
    | decide
theorem ract11_N (t : Tr) (st tm : Nat) (c : Cq) (o now : Nat) (h : c.ok) (hn : now < 2 ^ 64) (hq : c.q = []) (hp : (advq c now).pend = false) (h0 : t.ph = 1) (hc : t.cmd = 129) : SC Try.prog 43 [pT, pC1, n64 now] 2 (sUN t st tm t.ph 0 c o) (.s (.bool true)) 2 (sUN { t with ph := 2 } st tm 2 0 (wrtq (advq c now) now t.adr false) o) := by
  have c1 := rstatus_N c o now h hq
  have e1 := st_b2 (advq c now)
  have e2 := st_b1 (advq c now)
  have hq2 := advq_q0 c now hq
  have c2 := rwriteData_N (advq c now) o now t.adr (advq_ok h hn) hn hq2
  have c3 := nxt1y t st tm t.ph 0 h0 hc
  rw [hp] at e1
  generalize advq c now = d at *
  refine SC.run hm Try.func43 rfl [.call [1] [pC, n64 now] [(0, some (bR c o nilS))] (n8 (stNq d)) 1 [(0, some (bR d o nilS))], .num 0, .dec false, .dec false, .dec true, .call [1] [pC, n64 now, n8 t.adr] [(0, some (bR d o nilS))] (.tup []) 1 [(0, some (bR (wrtq d now t.adr false) o nilS))], .call [0] [pT] [(0, some (bU t st tm t.ph 0))] (.s (.int .i64 ((2 : Nat) : Int))) 1 [(0, some (bU t st tm t.ph 0))]] [] rfl rfl ?_ (.inl rfl) (EndOK.by rfl ⟨rfl, rfl, trivial⟩ rfl rfl rfl rfl)
  simp only [true_and, and_true, and_assoc, bne_iff_ne, bne_eq_false_iff_eq, beq_iff_eq, beq_eq_false_iff_ne, ne_eq]
  repeat' apply And.intro
  all_goals first
    | exact True.intro
    | exact ⟨c1, rfl, Fits.of rfl rfl ⟨⟨rfl, _, rfl, rfl, fun h => h⟩, trivial⟩⟩
    | exact ⟨c2, rfl, Fits.of rfl rfl ⟨⟨rfl, _, rfl, rfl, fun h => h⟩, trivial⟩⟩
    | exact ⟨c3, rfl, Fits.of rfl rfl ⟨⟨rfl, _, rfl, rfl, fun h => h⟩, trivial⟩⟩
    | (with_reducible show _ = true; kernel_rfl)
    | (rw [e2]; with_reducible exact rfl)
    | (rw [e1]; with_reducible exact rfl)
    | (with_reducible exact rfl)
    | omega
    | decide
theorem ract10_N (t : Tr) (st tm : Nat) (c : Cq) (o now : Nat) (h : c.ok) (hn : now < 2 ^ 64) (hq : c.q = []) (hp : (advq c now).pend = false) (h0 : t.ph = 1) (hc : t.cmd ≠ 129) : SC Try.prog 43 [pT, pC1, n64 now] 2 (sUN t st tm t.ph 0 c o) (.s (.bool true)) 2 (sUN { t with ph := 3 } st tm 3 0 (wrtq (advq c now) now t.adr false) o) := by
  have c1 := rstatus_N c o now h hq
  have e1 := st_b2 (advq c now)
  have e2 := st_b1 (advq c now)
  have hq2 := advq_q0 c now hq
  have c2 := rwriteData_N (advq c now) o now t.adr (advq_ok h hn) hn hq2
  have c3 := nxt1n t st tm t.ph 0 h0 hc
  rw [hp] at e1
  generalize advq c now = d at *
  refine SC.run hm Try.func43 rfl [.call [1] [pC, n64 now] [(0, some (bR c o nilS))] (n8 (stNq d)) 1 [(0, some (bR d o nilS))], .num 0, .dec false, .dec false, .dec true, .call [1] [pC, n64 now, n8 t.adr] [(0, some (bR d o nilS))] (.tup []) 1 [(0, some (bR (wrtq d now t.adr false) o nilS))], .call [0] [pT] [(0, some (bU t st tm t.ph 0))] (.s (.int .i64 ((3 : Nat) : Int))) 1 [(0, some (bU t st tm t.ph 0))]] [] rfl rfl ?_ (.inl rfl) (EndOK.by rfl ⟨rfl, rfl, trivial⟩ rfl rfl rfl rfl)
  simp only [true_and, and_true, and_assoc, bne_iff_ne, bne_eq_false_iff_eq, beq_iff_eq, beq_eq_false_iff_ne, ne_eq]
  repeat' apply And.intro
  all_goals first
    | exact True.intro
    | exact ⟨c1, rfl, Fits.of rfl rfl ⟨⟨rfl, _, rfl, rfl, fun h => h⟩, trivial⟩⟩
    | exact ⟨c2, rfl, Fits.of rfl rfl ⟨⟨rfl, _, rfl, rfl, fun h => h⟩, trivial⟩⟩
    | exact ⟨c3, rfl, Fits.of rfl rfl ⟨⟨rfl, _, rfl, rfl, fun h => h⟩, trivial⟩⟩
    | (with_reducible show _ = true; kernel_rfl)
    | (rw [e2]; with_reducible exact rfl)
    | (rw [e1]; with_reducible exact rfl)
    | (with_reducible exact rfl)
    | omega
    | decide
theorem ract2_N (t : Tr) (st tm : Nat) (c : Cq) (o now : Nat) (h : c.ok) (hn : now < 2 ^ 64) (hq : c.q = []) (hp : (advq c now).pend = false) (h0 : t.ph = 2) : SC Try.prog 43 [pT, pC1, n64 now] 2 (sUN t st tm t.ph 0 c o) (.s (.bool true)) 2 (sUN { t with ph := 4 } st tm 4 0 (wrtq (advq c now) now t.val false) o) := by
  have c1 := rstatus_N c o now h hq
  have e1 := st_b2 (advq c now)
  have e2 := st_b1 (advq c now)
  have hq2 := advq_q0 c now hq
  have c2 := rwriteData_N (advq c now) o now t.val (advq_ok h hn) hn hq2
  have c3 := nxt2 t st tm t.ph 0 h0
  rw [hp] at e1
  generalize advq c now = d at *
  refine SC.run hm Try.func43 rfl [.call [1] [pC, n64 now] [(0, some (bR c o nilS))] (n8 (stNq d)) 1 [(0, some (bR d o nilS))], .num 0, .dec false, .dec false, .dec false, .dec true, .call [1] [pC, n64 now, n8 t.val] [(0, some (bR d o nilS))] (.tup []) 1 [(0, some (bR (wrtq d now t.val false) o nilS))], .call [0] [pT] [(0, some (bU t st tm t.ph 0))] (.s (.int .i64 ((4 : Nat) : Int))) 1 [(0, some (bU t st tm t.ph 0))]] [] rfl rfl ?_ (.inl rfl) (EndOK.by rfl ⟨rfl, rfl, trivial⟩ rfl rfl rfl rfl)
  simp only [true_and, and_true, and_assoc, bne_iff_ne, bne_eq_false_iff_eq, beq_iff_eq, beq_eq_false_iff_ne, ne_eq]
  repeat' apply And.intro
  all_goals first
    | exact True.intro
    | exact ⟨c1, rfl, Fits.of rfl rfl ⟨⟨rfl, _, rfl, rfl, fun h => h⟩, trivial⟩⟩
    | exact ⟨c2, rfl, Fits.of rfl rfl ⟨⟨rfl, _, rfl, rfl, fun h => h⟩, trivial⟩⟩
    | exact ⟨c3, rfl, Fits.of rfl rfl ⟨⟨rfl, _, rfl, rfl, fun h => h⟩, trivial⟩⟩
    | (with_reducible show _ = true; kernel_rfl)
    | (rw [e2]; with_reducible exact rfl)
    | (rw [e1]; with_reducible exact rfl)
    | (with_reducible exact rfl)
    | omega
    | decide
theorem ract3f_N (t : Tr) (st tm : Nat) (c : Cq) (o now : Nat) (h : c.ok) (hn : now < 2 ^ 64) (hq : c.q = []) (hp : (advq c now).pend = false) (hf : (advq c now).full = true) (h0 : t.ph = 3) : SC Try.prog 43 [pT, pC1, n64 now] 2 (sUN t st tm t.ph 0 c o) (.s (.bool false)) 2 (sUN { t with ph := 5, res := (advq (advq c now) now).out } st tm 5 0 (emtq (advq (advq c now) now)) ((advq (advq c now) now).ou o)) := by
  have c1 := rstatus_N c o now h hq
  have e1 := st_b2 (advq c now)
  have e2 := st_b1 (advq c now)
  have hq2 := advq_q0 c now hq
  have c2 := rreadData_N (advq c now) o now (advq_ok h hn) hn hq2
  rw [hp] at e1
  rw [hf] at e2
  generalize advq c now = d at *
  refine SC.run hm Try.func43 rfl [.call [1] [pC, n64 now] [(0, some (bR c o nilS))] (n8 (stNq d)) 1 [(0, some (bR d o nilS))], .num 0, .dec false, .dec false, .dec false, .dec false, .dec true, .num 1, .dec false, .call [1] [pC, n64 now] [(0, some (bR d o nilS))] (n8 (advq d now).out) 1 [(0, some (bR (emtq (advq d now)) ((advq d now).ou o) nilS))]] [] rfl rfl ?_ (.inl rfl) (EndOK.by rfl ⟨rfl, rfl, trivial⟩ rfl rfl rfl rfl)
  simp only [true_and, and_true, and_assoc, bne_iff_ne, bne_eq_false_iff_eq, beq_iff_eq, beq_eq_false_iff_ne, ne_eq]
  repeat' apply And.intro
  all_goals first
    | exact True.intro
    | exact ⟨c1, rfl, Fits.of rfl rfl ⟨⟨rfl, _, rfl, rfl, fun h => h⟩, trivial⟩⟩
    | exact ⟨c2, rfl, Fits.of rfl rfl ⟨⟨rfl, _, rfl, rfl, fun h => h⟩, trivial⟩⟩
    | (with_reducible show _ = true; kernel_rfl)
    | (rw [e2]; with_reducible exact rfl)
    | (rw [e1]; with_reducible exact rfl)
    | (with_reducible exact rfl)
    | omega
    | decide
theorem ract3e_N (t : Tr) (st tm : Nat) (c : Cq) (o now : Nat) (h : c.ok) (hn : now < 2 ^ 64) (hq : c.q = []) (hp : (advq c now).pend = false) (hf : (advq c now).full = false) (h0 : t.ph = 3) : SC Try.prog 43 [pT, pC1, n64 now] 2 (sUN t st tm t.ph 0 c o) (.s (.bool false)) 2 (sUN t st tm t.ph 0 (advq c now) o) := by
  have c1 := rstatus_N c o now h hq
  have e1 := st_b2 (advq c now)
  have e2 := st_b1 (advq c now)
  have hq2 := advq_q0 c now hq
  rw [hp] at e1
  rw [hf] at e2
  generalize advq c now = d at *
  refine SC.run hm Try.func43 rfl [.call [1] [pC, n64 now] [(0, some (bR c o nilS))] (n8 (stNq d)) 1 [(0, some (bR d o nilS))], .num 0, .dec false, .dec false, .dec false, .dec false, .dec true, .num 0, .dec true] [] rfl rfl ?_ (.inl rfl) (EndOK.by rfl ⟨rfl, rfl, trivial⟩ rfl rfl rfl rfl)
  simp only [true_and, and_true, and_assoc, bne_iff_ne, bne_eq_false_iff_eq, beq_iff_eq, beq_eq_false_iff_ne, ne_eq]
  repeat' apply And.intro
  all_goals first
    | exact True.intro
    | exact ⟨c1, rfl, Fits.of rfl rfl ⟨⟨rfl, _, rfl, rfl, fun h => h⟩, trivial⟩⟩
    | (with_reducible show _ = true; kernel_rfl)
    | (rw [e2]; with_reducible exact rfl)
    | (rw [e1]; with_reducible exact rfl)
    | (with_reducible exact rfl)
    | omega
    | decide
theorem ract4_N (t : Tr) (st tm : Nat) (c : Cq) (o now : Nat) (h : c.ok) (hn : now < 2 ^ 64) (hq : c.q = []) (hp : (advq c now).pend = false) (h0 : t.ph = 4) : SC Try.prog 43 [pT, pC1, n64 now] 2 (sUN t st tm t.ph 0 c o) (.s (.bool false)) 2 (sUN { t with ph := 5 } st tm 5 0 (advq c now) o) := by
  have c1 := rstatus_N c o now h hq
  have e1 := st_b2 (advq c now)
  have e2 := st_b1 (advq c now)
  have hq2 := advq_q0 c now hq
  rw [hp] at e1
  generalize advq c now = d at *
  refine SC.run hm Try.func43 rfl [.call [1] [pC, n64 now] [(0, some (bR c o nilS))] (n8 (stNq d)) 1 [(0, some (bR d o nilS))], .num 0, .dec false, .dec false, .dec false, .dec false, .dec false, .dec true] [] rfl rfl ?_ (.inl rfl) (EndOK.by rfl ⟨rfl, rfl, trivial⟩ rfl rfl rfl rfl)
  simp only [true_and, and_true, and_assoc, bne_iff_ne, bne_eq_false_iff_eq, beq_iff_eq, beq_eq_false_iff_ne, ne_eq]
  repeat' apply And.intro
  all_goals first
    | exact True.intro
    | exact ⟨c1, rfl, Fits.of rfl rfl ⟨⟨rfl, _, rfl, rfl, fun h => h⟩, trivial⟩⟩
    | (with_reducible show _ = true; kernel_rfl)
    | (rw [e2]; with_reducible exact rfl)
    | (rw [e1]; with_reducible exact rfl)
    | (with_reducible exact rfl)
    | omega
    | decide
theorem ract_N (t : Tr) (st tm : Nat) (c : Cq) (o now : Nat) (h : c.ok) (hn : now < 2 ^ 64) (hq : c.q = []) (h4 : t.ph ≤ 4) : SC Try.prog 43 [pT, pC1, n64 now] 2 (sUN t st tm t.ph 0 c o) (.s (.bool (actMq t c now).2.2)) 2 (sUN (actMq t c now).1 st tm (actMq t c now).1.ph 0 (actMq t c now).2.1 (actO t c o now)) := by
  cases hp : (advq c now).pend with
  | true => rw [show actMq t c now = (t, advq c now, false) by simp [actMq, hp], show actO t c o now = o by simp [actO, hp]]; exact ractP_N t st tm c o now h hn hq hp
  | false =>
    have h5 : t.ph = 0 ∨ t.ph = 1 ∨ t.ph = 2 ∨ t.ph = 3 ∨ t.ph = 4 := by omega
    rcases h5 with h0 | h0 | h0 | h0 | h0
    · cases hf : (advq c now).full with
      | true => rw [show actMq t c now = (t, emtq (advq (advq c now) now), true) by simp [actMq, hp, h0, hf], show actO t c o now = (advq (advq c now) now).ou o by simp [actO, hp, h0, hf]]; exact ract0f_N t st tm c o now h hn hq hp hf h0
      | false =>
        by_cases hc : t.cmd = 132
        · rw [show actMq t c now = ({ t with ph := 3 }, wrtq (advq c now) now t.cmd true, true) by simp [actMq, hp, h0, hf, hc], show actO t c o now = o by simp [actO, hp, h0, hf, hc]]; exact ract0e1_N t st tm c o now h hn hq hp hf h0 hc
        · rw [show actMq t c now = ({ t with ph := 1 }, wrtq (advq c now) now t.cmd true, true) by simp [actMq, hp, h0, hf, hc], show actO t c o now = o by simp [actO, hp, h0, hf, hc]]; exact ract0e0_N t st tm c o now h hn hq hp hf h0 hc
    · by_cases hc : t.cmd = 129
      · rw [show actMq t c now = ({ t with ph := 2 }, wrtq (advq c now) now t.adr false, true) by simp [actMq, hp, h0, hc], show actO t c o now = o by simp [actO, hp, h0]]; exact ract11_N t st tm c o now h hn hq hp h0 hc
      · rw [show actMq t c now = ({ t with ph := 3 }, wrtq (advq c now) now t.adr false, true) by simp [actMq, hp, h0, hc], show actO t c o now = o by simp [actO, hp, h0]]; exact ract10_N t st tm c o now h hn hq hp h0 hc
    · rw [show actMq t c now = ({ t with ph := 4 }, wrtq (advq c now) now t.val false, true) by simp [actMq, hp, h0], show actO t c o now = o by simp [actO, hp, h0]]; exact ract2_N t st tm c o now h hn hq hp h0
    · cases hf : (advq c now).full with
      | true => rw [show actMq t c now = ({ t with ph := 5, res := (advq (advq c now) now).out }, emtq (advq (advq c now) now), false) by simp [actMq, hp, h0, hf], show actO t c o now = (advq (advq c now) now).ou o by simp [actO, hp, h0, hf]]; exact ract3f_N t st tm c o now h hn hq hp hf h0
      | false => rw [show actMq t c now = (t, advq c now, false) by simp [actMq, hp, h0, hf], show actO t c o now = o by simp [actO, hp, h0, hf]]; exact ract3e_N t st tm c o now h hn hq hp hf h0
    · rw [show actMq t c now = ({ t with ph := 5 }, advq c now, false) by simp [actMq, hp, h0], show actO t c o now = o by simp [actO, hp, h0]]; exact ract4_N t st tm c o now h hn hq hp h0
theorem ractP_Q (t : Tr) (st tm : Nat) (c : Cq) (o now : Nat) (h : c.ok) (hn : now < 2 ^ 64) (hp : (advq c now).pend = true) : SC Try.prog 43 [pT, pC1, n64 now] 4 (sUQ t st tm t.ph 0 c o) (.s (.bool false)) 6 (eUQ t st tm t.ph 0 (advq c now) o) := by
  have c1 := rstatus_Q c o now h
  have e1 := st_b2 (advq c now)
  have e2 := st_b1 (advq c now)
  rw [hp] at e1
  generalize advq c now = d at *
  refine SC.run hm Try.func43 rfl [.call [1, 2, 3] [pC, n64 now] (sR c o) (n8 (stNq d)) 5 (eR d o), .num 2, .dec true] [4, 5] rfl rfl ?_ (.inl rfl) (EndOK.move rfl ⟨rfl, rfl, rfl, trivial⟩ rfl rfl rfl rfl rfl)
  simp only [true_and, and_true, and_assoc, bne_iff_ne, bne_eq_false_iff_eq, beq_iff_eq, beq_eq_false_iff_ne, ne_eq]
  repeat' apply And.intro
  all_goals first
    | exact True.intro
    | exact ⟨c1, rfl, Fits.of rfl rfl ⟨⟨rfl, _, rfl, rfl, fun h => h⟩, ⟨rfl, _, rfl, rfl, fun h => h⟩, trivial⟩⟩
    | (with_reducible show _ = true; kernel_rfl)
    | (rw [e2]; with_reducible exact rfl)
    | (rw [e1]; with_reducible exact rfl)
    | (with_reducible exact rfl)
    | omega
    | decide
theorem ract0f_Q (t : Tr) (st tm : Nat) (c : Cq) (o now : Nat) (h : c.ok) (hn : now < 2 ^ 64) (hp : (advq c now).pend = false) (hf : (advq c now).full = true) (h0 : t.ph = 0) : SC Try.prog 43 [pT, pC1, n64 now] 4 (sUQ t st tm t.ph 0 c o) (.s (.bool true)) 6 (eUQ t st tm t.ph 0 (emtq (advq (advq c now) now)) ((advq (advq c now) now).ou o)) := by
  have c1 := rstatus_Q c o now h
  have e1 := st_b2 (advq c now)
  have e2 := st_b1 (advq c now)
  have c2 := rreadData_Q (advq c now) o now (advq_ok h hn) hn
  rw [hp] at e1
  rw [hf] at e2
  generalize advq c now = d at *
  refine SC.run hm Try.func43 rfl [.call [1, 2, 3] [pC, n64 now] (sR c o) (n8 (stNq d)) 5 (eR d o), .num 0, .dec false, .dec true, .num 1, .dec true, .call [1, 4, 5] [pC, n64 now] (sR d o) (n8 (advq d now).out) 5 (eR (emtq (advq d now)) ((advq d now).ou o))] [6, 7] rfl rfl ?_ (.inl rfl) (EndOK.move rfl ⟨rfl, rfl, rfl, trivial⟩ rfl rfl rfl rfl rfl)
  simp only [true_and, and_true, and_assoc, bne_iff_ne, bne_eq_false_iff_eq, beq_iff_eq, beq_eq_false_iff_ne, ne_eq]
  repeat' apply And.intro
  all_goals first
    | exact True.intro
    | exact ⟨c1, rfl, Fits.of rfl rfl ⟨⟨rfl, _, rfl, rfl, fun h => h⟩, ⟨rfl, _, rfl, rfl, fun h => h⟩, trivial⟩⟩
    | exact ⟨c2, rfl, Fits.of rfl rfl ⟨⟨rfl, _, rfl, rfl, fun h => h⟩, ⟨rfl, _, rfl, rfl, fun h => h⟩, trivial⟩⟩
    | (with_reducible show _ = true; kernel_rfl)
    | (rw [e2]; with_reducible exact rfl)
    | (rw [e1]; with_reducible exact rfl)
    | (with_reducible exact rfl)
    | omega
    | decide
theorem ract0e1_Q (t : Tr) (st tm : Nat) (c : Cq) (o now : Nat) (h : c.ok) (hn : now < 2 ^ 64) (hp : (advq c now).pend = false) (hf : (advq c now).full = false) (h0 : t.ph = 0) (hc : t.cmd = 132) : SC Try.prog 43 [pT, pC1, n64 now] 4 (sUQ t st tm t.ph 0 c o) (.s (.bool true)) 6 (eUQ { t with ph := 3 } st tm 3 0 (wrtq (advq c now) now t.cmd true) o) := by
  have c1 := rstatus_Q c o now h
  have e1 := st_b2 (advq c now)
  have e2 := st_b1 (advq c now)
  have c2 := rwriteCommand_Q (advq c now) o now t.cmd (advq_ok h hn) hn
  have c3 := nxt0y t st tm t.ph 0 h0 hc
  rw [hp] at e1
  rw [hf] at e2
  generalize advq c now = d at *
  refine SC.run hm Try.func43 rfl [.call [1, 2, 3] [pC, n64 now] (sR c o) (n8 (stNq d)) 5 (eR d o), .num 0, .dec false, .dec true, .num 0, .dec false, .call [1, 4, 5] [pC, n64 now, n8 t.cmd] (sR d o) (.tup []) 5 (eR (wrtq d now t.cmd true) o), .call [0] [pT] [(0, some (bU t st tm t.ph 0))] (.s (.int .i64 ((3 : Nat) : Int))) 1 [(0, some (bU t st tm t.ph 0))]] [6, 7] rfl rfl ?_ (.inl rfl) (EndOK.move rfl ⟨rfl, rfl, rfl, trivial⟩ rfl rfl rfl rfl rfl)
  simp only [true_and, and_true, and_assoc, bne_iff_ne, bne_eq_false_iff_eq, beq_iff_eq, beq_eq_false_iff_ne, ne_eq]
  repeat' apply And.intro
  all_goals first
    | exact True.intro
    | exact ⟨c1, rfl, Fits.of rfl rfl ⟨⟨rfl, _, rfl, rfl, fun h => h⟩, ⟨rfl, _, rfl, rfl, fun h => h⟩, trivial⟩⟩
    | exact ⟨c2, rfl, Fits.of rfl rfl ⟨⟨rfl, _, rfl, rfl, fun h => h⟩, ⟨rfl, _, rfl, rfl, fun h => h⟩, trivial⟩⟩
    | exact ⟨c3, rfl, Fits.of rfl rfl ⟨⟨rfl, _, rfl, rfl, fun h => h⟩, trivial⟩⟩
    | (with_reducible show _ = true; kernel_rfl)
    | (rw [e2]; with_reducible exact rfl)
    | (rw [e1]; with_reducible exact rfl)
    | (with_reducible exact rfl)
    | omega
    | decide
theorem ract0e0_Q (t : Tr) (st tm : Nat) (c : Cq) (o now : Nat) (h : c.ok) (hn : now < 2 ^ 64) (hp : (advq c now).pend = false) (hf : (advq c now).full = false) (h0 : t.ph = 0) (hc : t.cmd ≠ 132) : SC Try.prog 43 [pT, pC1, n64 now] 4 (sUQ t st tm t.ph 0 c o) (.s (.bool true)) 6 (eUQ { t with ph := 1 } st tm 1 0 (wrtq (advq c now) now t.cmd true) o) := by
  have c1 := rstatus_Q c o now h
  have e1 := st_b2 (advq c now)
  have e2 := st_b1 (advq c now)
  have c2 := rwriteCommand_Q (advq c now) o now t.cmd (advq_ok h hn) hn
  have c3 := nxt0n t st tm t.ph 0 h0 hc
  rw [hp] at e1
  rw [hf] at e2
  generalize advq c now = d at *
  refine SC.run hm Try.func43 rfl [.call [1, 2, 3] [pC, n64 now] (sR c o) (n8 (stNq d)) 5 (eR d o), .num 0, .dec false, .dec true, .num 0, .dec false, .call [1, 4, 5] [pC, n64 now, n8 t.cmd] (sR d o) (.tup []) 5 (eR (wrtq d now t.cmd true) o), .call [0] [pT] [(0, some (bU t st tm t.ph 0))] (.s (.int .i64 ((1 : Nat) : Int))) 1 [(0, some (bU t st tm t.ph 0))]] [6, 7] rfl rfl ?_ (.inl rfl) (EndOK.move rfl ⟨rfl, rfl, rfl, trivial⟩ rfl rfl rfl rfl rfl)
  simp only [true_and, and_true, and_assoc, bne_iff_ne, bne_eq_false_iff_eq, beq_iff_eq, beq_eq_false_iff_ne, ne_eq]
  repeat' apply And.intro
  all_goals first
    | exact True.intro
    | exact ⟨c1, rfl, Fits.of rfl rfl ⟨⟨rfl, _, rfl, rfl, fun h => h⟩, ⟨rfl, _, rfl, rfl, fun h => h⟩, trivial⟩⟩
    | exact ⟨c2, rfl, Fits.of rfl rfl ⟨⟨rfl, _, rfl, rfl, fun h => h⟩, ⟨rfl, _, rfl, rfl, fun h => h⟩, trivial⟩⟩
    | exact ⟨c3, rfl, Fits.of rfl rfl ⟨⟨rfl, _, rfl, rfl, fun h => h⟩, trivial⟩⟩
    | (with_reducible show _ = true; kernel_rfl)
    | (rw [e2]; with_reducible exact rfl)
    | (rw [e1]; with_reducible exact rfl)
    | (with_reducible exact rfl)
    | omega
    | decide
theorem ract11_Q (t : Tr) (st tm : Nat) (c : Cq) (o now : Nat) (h : c.ok) (hn : now < 2 ^ 64) (hp : (advq c now).pend = false) (h0 : t.ph = 1) (hc : t.cmd = 129) : SC Try.prog 43 [pT, pC1, n64 now] 4 (sUQ t st tm t.ph 0 c o) (.s (.bool true)) 6 (eUQ { t with ph := 2 } st tm 2 0 (wrtq (advq c now) now t.adr false) o) := by
  have c1 := rstatus_Q c o now h
  have e1 := st_b2 (advq c now)
  have e2 := st_b1 (advq c now)
  have c2 := rwriteData_Q (advq c now) o now t.adr (advq_ok h hn) hn
  have c3 := nxt1y t st tm t.ph 0 h0 hc
  rw [hp] at e1
  generalize advq c now = d at *
  refine SC.run hm Try.func43 rfl [.call [1, 2, 3] [pC, n64 now] (sR c o) (n8 (stNq d)) 5 (eR d o), .num 0, .dec false, .dec false, .dec true, .call [1, 4, 5] [pC, n64 now, n8 t.adr] (sR d o) (.tup []) 5 (eR (wrtq d now t.adr false) o), .call [0] [pT] [(0, some (bU t st tm t.ph 0))] (.s (.int .i64 ((2 : Nat) : Int))) 1 [(0, some (bU t st tm t.ph 0))]] [6, 7] rfl rfl ?_ (.inl rfl) (EndOK.move rfl ⟨rfl, rfl, rfl, trivial⟩ rfl rfl rfl rfl rfl)
  simp only [true_and, and_true, and_assoc, bne_iff_ne, bne_eq_false_iff_eq, beq_iff_eq, beq_eq_false_iff_ne, ne_eq]
  repeat' apply And.intro
  all_goals first
    | exact True.intro
    | exact ⟨c1, rfl, Fits.of rfl rfl ⟨⟨rfl, _, rfl, rfl, fun h => h⟩, ⟨rfl, _, rfl, rfl, fun h => h⟩, trivial⟩⟩
    | exact ⟨c2, rfl, Fits.of rfl rfl ⟨⟨rfl, _, rfl, rfl, fun h => h⟩, ⟨rfl, _, rfl, rfl, fun h => h⟩, trivial⟩⟩
    | exact ⟨c3, rfl, Fits.of rfl rfl ⟨⟨rfl, _, rfl, rfl, fun h => h⟩, trivial⟩⟩
    | (with_reducible show _ = true; kernel_rfl)
    | (rw [e2]; with_reducible exact rfl)
    | (rw [e1]; with_reducible exact rfl)
    | (with_reducible exact rfl)
    | omega
    | decide
theorem ract10_Q (t : Tr) (st tm : Nat) (c : Cq) (o now : Nat) (h : c.ok) (hn : now < 2 ^ 64) (hp : (advq c now).pend = false) (h0 : t.ph = 1) (hc : t.cmd ≠ 129) : SC Try.prog 43 [pT, pC1, n64 now] 4 (sUQ t st tm t.ph 0 c o) (.s (.bool true)) 6 (eUQ { t with ph := 3 } st tm 3 0 (wrtq (advq c now) now t.adr false) o) := by
  have c1 := rstatus_Q c o now h
  have e1 := st_b2 (advq c now)
  have e2 := st_b1 (advq c now)
  have c2 := rwriteData_Q (advq c now) o now t.adr (advq_ok h hn) hn
  have c3 := nxt1n t st tm t.ph 0 h0 hc
  rw [hp] at e1
  generalize advq c now = d at *
  refine SC.run hm Try.func43 rfl [.call [1, 2, 3] [pC, n64 now] (sR c o) (n8 (stNq d)) 5 (eR d o), .num 0, .dec false, .dec false, .dec true, .call [1, 4, 5] [pC, n64 now, n8 t.adr] (sR d o) (.tup []) 5 (eR (wrtq d now t.adr false) o), .call [0] [pT] [(0, some (bU t st tm t.ph 0))] (.s (.int .i64 ((3 : Nat) : Int))) 1 [(0, some (bU t st tm t.ph 0))]] [6, 7] rfl rfl ?_ (.inl rfl) (EndOK.move rfl ⟨rfl, rfl, rfl, trivial⟩ rfl rfl rfl rfl rfl)
  simp only [true_and, and_true, and_assoc, bne_iff_ne, bne_eq_false_iff_eq, beq_iff_eq, beq_eq_false_iff_ne, ne_eq]
  repeat' apply And.intro
  all_goals first
    | exact True.intro
    | exact ⟨c1, rfl, Fits.of rfl rfl ⟨⟨rfl, _, rfl, rfl, fun h => h⟩, ⟨rfl, _, rfl, rfl, fun h => h⟩, trivial⟩⟩
    | exact ⟨c2, rfl, Fits.of rfl rfl ⟨⟨rfl, _, rfl, rfl, fun h => h⟩, ⟨rfl, _, rfl, rfl, fun h => h⟩, trivial⟩⟩
    | exact ⟨c3, rfl, Fits.of rfl rfl ⟨⟨rfl, _, rfl, rfl, fun h => h⟩, trivial⟩⟩
    | (with_reducible show _ = true; kernel_rfl)
    | (rw [e2]; with_reducible exact rfl)
    | (rw [e1]; with_reducible exact rfl)
    | (with_reducible exact rfl)
    | omega
    | decide
theorem ract2_Q (t : Tr) (st tm : Nat) (c : Cq) (o now : Nat) (h : c.ok) (hn : now < 2 ^ 64) (hp : (advq c now).pend = false) (h0 : t.ph = 2) : SC Try.prog 43 [pT, pC1, n64 now] 4 (sUQ t st tm t.ph 0 c o) (.s (.bool true)) 6 (eUQ { t with ph := 4 } st tm 4 0 (wrtq (advq c now) now t.val false) o) := by
  have c1 := rstatus_Q c o now h
  have e1 := st_b2 (advq c now)
  have e2 := st_b1 (advq c now)
  have c2 := rwriteData_Q (advq c now) o now t.val (advq_ok h hn) hn
  have c3 := nxt2 t st tm t.ph 0 h0
  rw [hp] at e1
  generalize advq c now = d at *
  refine SC.run hm Try.func43 rfl [.call [1, 2, 3] [pC, n64 now] (sR c o) (n8 (stNq d)) 5 (eR d o), .num 0, .dec false, .dec false, .dec false, .dec true, .call [1, 4, 5] [pC, n64 now, n8 t.val] (sR d o) (.tup []) 5 (eR (wrtq d now t.val false) o), .call [0] [pT] [(0, some (bU t st tm t.ph 0))] (.s (.int .i64 ((4 : Nat) : Int))) 1 [(0, some (bU t st tm t.ph 0))]] [6, 7] rfl rfl ?_ (.inl rfl) (EndOK.move rfl ⟨rfl, rfl, rfl, trivial⟩ rfl rfl rfl rfl rfl)
  simp only [true_and, and_true, and_assoc, bne_iff_ne, bne_eq_false_iff_eq, beq_iff_eq, beq_eq_false_iff_ne, ne_eq]
  repeat' apply And.intro
  all_goals first
    | exact True.intro
    | exact ⟨c1, rfl, Fits.of rfl rfl ⟨⟨rfl, _, rfl, rfl, fun h => h⟩, ⟨rfl, _, rfl, rfl, fun h => h⟩, trivial⟩⟩
    | exact ⟨c2, rfl, Fits.of rfl rfl ⟨⟨rfl, _, rfl, rfl, fun h => h⟩, ⟨rfl, _, rfl, rfl, fun h => h⟩, trivial⟩⟩
    | exact ⟨c3, rfl, Fits.of rfl rfl ⟨⟨rfl, _, rfl, rfl, fun h => h⟩, trivial⟩⟩
    | (with_reducible show _ = true; kernel_rfl)
    | (rw [e2]; with_reducible exact rfl)
    | (rw [e1]; with_reducible exact rfl)
    | (with_reducible exact rfl)
    | omega
    | decide
theorem ract3f_Q (t : Tr) (st tm : Nat) (c : Cq) (o now : Nat) (h : c.ok) (hn : now < 2 ^ 64) (hp : (advq c now).pend = false) (hf : (advq c now).full = true) (h0 : t.ph = 3) : SC Try.prog 43 [pT, pC1, n64 now] 4 (sUQ t st tm t.ph 0 c o) (.s (.bool false)) 6 (eUQ { t with ph := 5, res := (advq (advq c now) now).out } st tm 5 0 (emtq (advq (advq c now) now)) ((advq (advq c now) now).ou o)) := by
  have c1 := rstatus_Q c o now h
  have e1 := st_b2 (advq c now)
  have e2 := st_b1 (advq c now)
  have c2 := rreadData_Q (advq c now) o now (advq_ok h hn) hn
  rw [hp] at e1
  rw [hf] at e2
  generalize advq c now = d at *
  refine SC.run hm Try.func43 rfl [.call [1, 2, 3] [pC, n64 now] (sR c o) (n8 (stNq d)) 5 (eR d o), .num 0, .dec false, .dec false, .dec false, .dec false, .dec true, .num 1, .dec false, .call [1, 4, 5] [pC, n64 now] (sR d o) (n8 (advq d now).out) 5 (eR (emtq (advq d now)) ((advq d now).ou o))] [6, 7] rfl rfl ?_ (.inl rfl) (EndOK.move rfl ⟨rfl, rfl, rfl, trivial⟩ rfl rfl rfl rfl rfl)
  simp only [true_and, and_true, and_assoc, bne_iff_ne, bne_eq_false_iff_eq, beq_iff_eq, beq_eq_false_iff_ne, ne_eq]
  repeat' apply And.intro
  all_goals first
    | exact True.intro
    | exact ⟨c1, rfl, Fits.of rfl rfl ⟨⟨rfl, _, rfl, rfl, fun h => h⟩, ⟨rfl, _, rfl, rfl, fun h => h⟩, trivial⟩⟩
    | exact ⟨c2, rfl, Fits.of rfl rfl ⟨⟨rfl, _, rfl, rfl, fun h => h⟩, ⟨rfl, _, rfl, rfl, fun h => h⟩, trivial⟩⟩
    | (with_reducible show _ = true; kernel_rfl)
    | (rw [e2]; with_reducible exact rfl)
    | (rw [e1]; with_reducible exact rfl)
    | (with_reducible exact rfl)
    | omega
    | decide
theorem ract3e_Q (t : Tr) (st tm : Nat) (c : Cq) (o now : Nat) (h : c.ok) (hn : now < 2 ^ 64) (hp : (advq c now).pend = false) (hf : (advq c now).full = false) (h0 : t.ph = 3) : SC Try.prog 43 [pT, pC1, n64 now] 4 (sUQ t st tm t.ph 0 c o) (.s (.bool false)) 6 (eUQ t st tm t.ph 0 (advq c now) o) := by
  have c1 := rstatus_Q c o now h
  have e1 := st_b2 (advq c now)
  have e2 := st_b1 (advq c now)
  rw [hp] at e1
  rw [hf] at e2
  generalize advq c now = d at *
  refine SC.run hm Try.func43 rfl [.call [1, 2, 3] [pC, n64 now] (sR c o) (n8 (stNq d)) 5 (eR d o), .num 0, .dec false, .dec false, .dec false, .dec false, .dec true, .num 0, .dec true] [4, 5] rfl rfl ?_ (.inl rfl) (EndOK.move rfl ⟨rfl, rfl, rfl, trivial⟩ rfl rfl rfl rfl rfl)
  simp only [true_and, and_true, and_assoc, bne_iff_ne, bne_eq_false_iff_eq, beq_iff_eq, beq_eq_false_iff_ne, ne_eq]
  repeat' apply And.intro
  all_goals first
    | exact True.intro
    | exact ⟨c1, rfl, Fits.of rfl rfl ⟨⟨rfl, _, rfl, rfl, fun h => h⟩, ⟨rfl, _, rfl, rfl, fun h => h⟩, trivial⟩⟩
    | (with_reducible show _ = true; kernel_rfl)
    | (rw [e2]; with_reducible exact rfl)
    | (rw [e1]; with_reducible exact rfl)
    | (with_reducible exact rfl)
    | omega
    | decide
theorem ract4_Q (t : Tr) (st tm : Nat) (c : Cq) (o now : Nat) (h : c.ok) (hn : now < 2 ^ 64) (hp : (advq c now).pend = false) (h0 : t.ph = 4) : SC Try.prog 43 [pT, pC1, n64 now] 4 (sUQ t st tm t.ph 0 c o) (.s (.bool false)) 6 (eUQ { t with ph := 5 } st tm 5 0 (advq c now) o) := by
  have c1 := rstatus_Q c o now h
  have e1 := st_b2 (advq c now)
  have e2 := st_b1 (advq c now)
  rw [hp] at e1
  generalize advq c now = d at *
  refine SC.run hm Try.func43 rfl [.call [1, 2, 3] [pC, n64 now] (sR c o) (n8 (stNq d)) 5 (eR d o), .num 0, .dec false, .dec false, .dec false, .dec false, .dec false, .dec true] [4, 5] rfl rfl ?_ (.inl rfl) (EndOK.move rfl ⟨rfl, rfl, rfl, trivial⟩ rfl rfl rfl rfl rfl)
  simp only [true_and, and_true, and_assoc, bne_iff_ne, bne_eq_false_iff_eq, beq_iff_eq, beq_eq_false_iff_ne, ne_eq]
  repeat' apply And.intro
  all_goals first
    | exact True.intro
    | exact ⟨c1, rfl, Fits.of rfl rfl ⟨⟨rfl, _, rfl, rfl, fun h => h⟩, ⟨rfl, _, rfl, rfl, fun h => h⟩, trivial⟩⟩
    | (with_reducible show _ = true; kernel_rfl)
    | (rw [e2]; with_reducible exact rfl)
    | (rw [e1]; with_reducible exact rfl)
    | (with_reducible exact rfl)
    | omega
    | decide
theorem ract_Q (t : Tr) (st tm : Nat) (c : Cq) (o now : Nat) (h : c.ok) (hn : now < 2 ^ 64) (h4 : t.ph ≤ 4) : SC Try.prog 43 [pT, pC1, n64 now] 4 (sUQ t st tm t.ph 0 c o) (.s (.bool (actMq t c now).2.2)) 6 (eUQ (actMq t c now).1 st tm (actMq t c now).1.ph 0 (actMq t c now).2.1 (actO t c o now)) := by
  cases hp : (advq c now).pend with
  | true => rw [show actMq t c now = (t, advq c now, false) by simp [actMq, hp], show actO t c o now = o by simp [actO, hp]]; exact ractP_Q t st tm c o now h hn hp
  | false =>
    have h5 : t.ph = 0 ∨ t.ph = 1 ∨ t.ph = 2 ∨ t.ph = 3 ∨ t.ph = 4 := by omega
    rcases h5 with h0 | h0 | h0 | h0 | h0
    · cases hf : (advq c now).full with
      | true => rw [show actMq t c now = (t, emtq (advq (advq c now) now), true) by simp [actMq, hp, h0, hf], show actO t c o now = (advq (advq c now) now).ou o by simp [actO, hp, h0, hf]]; exact ract0f_Q t st tm c o now h hn hp hf h0
      | false =>
        by_cases hc : t.cmd = 132
        · rw [show actMq t c now = ({ t with ph := 3 }, wrtq (advq c now) now t.cmd true, true) by simp [actMq, hp, h0, hf, hc], show actO t c o now = o by simp [actO, hp, h0, hf, hc]]; exact ract0e1_Q t st tm c o now h hn hp hf h0 hc
        · rw [show actMq t c now = ({ t with ph := 1 }, wrtq (advq c now) now t.cmd true, true) by simp [actMq, hp, h0, hf, hc], show actO t c o now = o by simp [actO, hp, h0, hf, hc]]; exact ract0e0_Q t st tm c o now h hn hp hf h0 hc
    · by_cases hc : t.cmd = 129
      · rw [show actMq t c now = ({ t with ph := 2 }, wrtq (advq c now) now t.adr false, true) by simp [actMq, hp, h0, hc], show actO t c o now = o by simp [actO, hp, h0]]; exact ract11_Q t st tm c o now h hn hp h0 hc
      · rw [show actMq t c now = ({ t with ph := 3 }, wrtq (advq c now) now t.adr false, true) by simp [actMq, hp, h0, hc], show actO t c o now = o by simp [actO, hp, h0]]; exact ract10_Q t st tm c o now h hn hp h0 hc
    · rw [show actMq t c now = ({ t with ph := 4 }, wrtq (advq c now) now t.val false, true) by simp [actMq, hp, h0], show actO t c o now = o by simp [actO, hp, h0]]; exact ract2_Q t st tm c o now h hn hp h0
    · cases hf : (advq c now).full with
      | true => rw [show actMq t c now = ({ t with ph := 5, res := (advq (advq c now) now).out }, emtq (advq (advq c now) now), false) by simp [actMq, hp, h0, hf], show actO t c o now = (advq (advq c now) now).ou o by simp [actO, hp, h0, hf]]; exact ract3f_Q t st tm c o now h hn hp hf h0
      | false => rw [show actMq t c now = (t, advq c now, false) by simp [actMq, hp, h0, hf], show actO t c o now = o by simp [actO, hp, h0, hf]]; exact ract3e_Q t st tm c o now h hn hp hf h0
    · rw [show actMq t c now = ({ t with ph := 5 }, advq c now, false) by simp [actMq, hp, h0], show actO t c o now = o by simp [actO, hp, h0]]; exact ract4_Q t st tm c o now h hn hp h0

end Go.Proofs.Ytimebhllnemnbaa
