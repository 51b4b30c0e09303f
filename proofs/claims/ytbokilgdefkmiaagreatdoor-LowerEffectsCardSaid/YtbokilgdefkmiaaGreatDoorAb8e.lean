/-
  The frame, part 8e: a slice of a slice of unknown capacity: the window moves.
-/
import Derived.Test.YtbokilgdefkmiaaGreatDoorAb8d
set_option linter.unusedSimpArgs false
set_option linter.unusedVariables false
namespace Go.Proofs.YtbokilgdefkmiaaGreatDoor
namespace Ab
open Go
set_option maxRecDepth 100000

def bdV : Option V → Nat → Nat → Option Prop
  | none, k, d => some (k = d)
  | some (.s (.int _ z)), k, _ => some (z = (k : Int))
  | _, _, _ => none

def aWin (P : Program) (n : Nat) (L : Hp) (t : TypeId) (x : V) (lo hi mx : Option V) (k h : Nat) (cs : List S) (as : List Ans) : Option Out :=
  match mx, P.underlying t, x with
  | none, some (.slice e), .s (.sla i g len) =>
    match elemSz P e, lk L i with
    | some sz, some bl =>
      match bl.gh with
      | some (g', z) =>
        match Nat.beq g' g && Nat.beq z sz && !bl.ro with
        | true =>
          match bdV lo k 0, bdV hi h len with
          | some A, some B => some ⟨⟨[i], .s (.sla n (n + 1) (h - k)), dropB (some i) ++ [(n, some { bl with cells := cs, more := true, gh := some (n + 1, sz), abs := none })], n + 2⟩, as, A ∧ B ∧ k ≤ h ∧ h ≤ len ∧ h * sz ≤ bl.cells.length ∧ cs = (bl.cells.drop (k * sz)).take ((h - k) * sz)⟩
          | _, _ => none
        | false => none
      | none => none
    | _, _ => none
  | _, _, _ => none

theorem bdV_ok {P : Program} {φ : Ph} {env : List V} {a : Act} {w : World} {x : Option Operand} {k d top : Nat} {A : Prop} {code : BoundsCode} (hx : ∀ y, x = some y → Vr φ (ev env y) (a.eval y)) (h : bdV (x.map (ev env)) k d = some A) (hA : A) (hk : k ≤ top) :
    (match x.map a.eval with | some v => Instr.sliceBound v top code | none => pure d).run P w = .ok k w := by
  cases x with
  | none => obtain rfl : k = d := by simp [bdV] at h; exact h.2 hA
            rfl
  | some y =>
    have q := hx y rfl
    simp only [Option.map_some] at h ⊢
    cases hv : ev env y with
    | s s =>
      rw [hv] at h q
      cases s with
      | int kk z =>
        simp only [bdV, Option.some.injEq] at h
        subst h; subst hA
        simp only [Vr, Sr] at q
        simp only [Instr.sliceBound, q, asIntOf, Sem.run_bind, Sem.run_pure, Result.andThen_ok]
        rw [if_pos (by omega)]; simp
      | _ => simp [bdV] at h
    | _ => rw [hv] at h; simp [bdV] at h

theorem aWin_ok {P : Program} {env : List V} {n : Nat} {L : Hp} {t : TypeId} {x : Operand} {lo hi mx : Option Operand} {k h : Nat} {cs : List S} {as : List Ans} {out : Out} {o : Oper} (ho : o.op = .slice t x lo hi mx)
    (hh : aWin P n L t (ev env x) (lo.map (ev env)) (hi.map (ev env)) (mx.map (ev env)) k h cs as = some out) (hC : out.C) : OutOK P o env n L out := by
  have hmx : mx = none := by
    cases mx with
    | none => rfl
    | some _ => simp [aWin] at hh
  subst hmx
  unfold aWin at hh
  split at hh
  · rename_i e i g len _ hty hx
    split at hh
    · rename_i sz bl hsz hl
      split at hh
      · rename_i g' z hgh
        split at hh
        · rename_i hchk
          simp only [Bool.and_eq_true, Bool.not_eq_true'] at hchk
          obtain ⟨⟨e1, e2⟩, hro⟩ := hchk
          have e1 := Nat.eq_of_beq_eq_true e1
          have e2 := Nat.eq_of_beq_eq_true e2
          subst e1; subst e2
          split at hh
          · rename_i A B hA hB
            cases hh
            obtain ⟨cA, cB, ckh, chl, ccl, ccs⟩ := hC
            refine ⟨OpL.moved (bi := some i) (r := h - k) (fun φ a w hop hg => ?_) hro, Nat.le_add_right _ _⟩
            have g1 := hop x (by simp [ho, Op.operands])
            rw [hx] at g1
            obtain ⟨b, c, hb, hgc, hv, hlc⟩ := g1
            obtain ⟨b2, hb2, pre, ys, rest, fr, p1, hp, p2, p3, p4, p5⟩ := hg.hr i bl (by rw [lk_res, if_pos (by simp)]; exact hl)
            rw [hb] at hb2; cases hb2
            obtain ⟨kk, hkk, hlenk⟩ := p5.1 _ _ hgh
            rw [hgc] at hkk; cases hkk
            have hyl := p2.len
            have r1 := bdV_ok (P := P) (w := w) (top := h) (code := .sliceB) (fun y hy => hop y (by subst hy; simp [ho, Op.operands])) hA cA ckh
            have r2 := bdV_ok (P := P) (w := w) (top := c) (code := .sliceAcap) (fun y hy => hop y (by subst hy; simp [ho, Op.operands])) hB cB (by omega)
            have hsb : (Instr.sliceBounds true len c (lo.map a.eval) (hi.map a.eval) none).run P w = .ok (k, h, c) w := by
              unfold Instr.sliceBounds
              cases hi <;> cases lo <;> simp_all
            refine ⟨(b.1, if c = k then b.2 else b.2 + k * z), c - k, w, ?_, rfl, rfl, rfl, by omega, Nat.le_refl _, fun _ _ _ => rfl, fun _ => ⟨i, bl, b, rfl, by rw [lk_res, if_pos (by simp)]; exact hl, hb, rfl, hro⟩, fun φ' hle hk' => ?_⟩
            · simp only [execOp, ho, hv, Option.map_none, Instr.sliceAt, Instr.slice, Sem.run_bind, run_underlying hty, Result.andThen_ok, hsb, elemSz_ok hsz, Option.map_some, addr_add, Sem.run_pure]
              split <;> rfl
            · by_cases hck : c = k
              · have h0 : h - k = 0 := by omega
                simp only [if_pos hck]
                refine ⟨pre, [], ys ++ rest, fr, p1, hp, ?_, (fun e => by cases e), fun e => p4 e, ⟨fun g z e' => ?_, fun _ e' => (by cases e')⟩⟩
                · rw [ccs, h0, Nat.zero_mul]; simp [All2]
                · simp only [Option.some.injEq, Prod.mk.injEq] at e'
                  obtain ⟨rfl, rfl⟩ := e'
                  exact ⟨c - k, hk', by rw [hck, Nat.sub_self, Nat.zero_mul]; exact Nat.zero_le _⟩
              · simp only [if_neg hck]
                have hks : k * z ≤ ys.length := by rw [hyl]; exact Nat.le_trans (Nat.mul_le_mul_right _ ckh) ccl
                have hd : (h - k) * z ≤ (ys.drop (k * z)).length := by rw [List.length_drop, hyl, Nat.sub_mul]; omega
                refine ⟨pre ++ ys.take (k * z), (ys.drop (k * z)).take ((h - k) * z), (ys.drop (k * z)).drop ((h - k) * z) ++ rest, fr, ?_, ?_, ?_, (fun e => by cases e), fun e o' ho' => p4 e o' ?_, ⟨fun g z' e' => ?_, fun _ e' => (by cases e')⟩⟩
                · rw [p1]; congr 2
                  rw [List.append_assoc, ← List.append_assoc (List.take _ (List.drop _ ys)), List.take_append_drop, ← List.append_assoc (List.take _ ys), List.take_append_drop]
                · rw [List.length_append, List.length_take, hp, Nat.min_eq_left hks]
                · rw [ccs]; exact ((p2.mono fun _ _ => Sr.mono (bl.ph_le hle)).drop _).take _
                · simp only [List.length_append, List.length_take, List.length_drop] at ho' ⊢; omega
                · simp only [Option.some.injEq, Prod.mk.injEq] at e'
                  obtain ⟨rfl, rfl⟩ := e'
                  refine ⟨c - k, hk', ?_⟩
                  rw [Nat.sub_mul]
                  simp only [List.length_append, List.length_take, List.length_drop] at hlenk ⊢
                  omega
          · cases hh
        · cases hh
      · cases hh
    · cases hh
  · cases hh

/-! ### a window that is not taken yet -/
def aWinL (P : Program) (n : Nat) (t : TypeId) (x : V) (lo hi mx : Option V) (k h : Nat) (as : List Ans) : Option Out :=
  match mx, P.underlying t, x with
  | none, some (.slice e), .s (.sla i g len) =>
    match elemSz P e with
    | some sz =>
      match bdV lo k 0, bdV hi h len with
      | some A, some B => some ⟨⟨[], .w i g sz k (h - k), [], n⟩, as, A ∧ B ∧ k ≤ h ∧ h ≤ len⟩
      | _, _ => none
    | none => none
  | _, _, _ => none

theorem aWinL_ok {P : Program} {env : List V} {n : Nat} {L : Hp} {t : TypeId} {x : Operand} {lo hi mx : Option Operand} {k h : Nat} {as : List Ans} {out : Out} {o : Oper} (ho : o.op = .slice t x lo hi mx)
    (hh : aWinL P n t (ev env x) (lo.map (ev env)) (hi.map (ev env)) (mx.map (ev env)) k h as = some out) (hC : out.C) : OutOK P o env n L out := by
  have hmx : mx = none := by
    cases mx with
    | none => rfl
    | some _ => simp [aWinL] at hh
  subst hmx
  unfold aWinL at hh
  split at hh
  · rename_i e i g len _ hty hx
    split at hh
    · rename_i sz hsz
      split at hh
      · rename_i A B hA hB
        cases hh
        obtain ⟨cA, cB, ckh, chl⟩ := hC
        refine ⟨OpL.light fun φ a w hop hg => ?_, Nat.le_refl _⟩
        have g1 := hop x (by simp [ho, Op.operands])
        rw [hx] at g1
        obtain ⟨b, c, hb, hgc, hv, hlc⟩ := g1
        have r1 := bdV_ok (P := P) (w := w) (top := h) (code := .sliceB) (fun y hy => hop y (by subst hy; simp [ho, Op.operands])) hA cA ckh
        have r2 := bdV_ok (P := P) (w := w) (top := c) (code := .sliceAcap) (fun y hy => hop y (by subst hy; simp [ho, Op.operands])) hB cB (by omega)
        have hsb : (Instr.sliceBounds true len c (lo.map a.eval) (hi.map a.eval) none).run P w = .ok (k, h, c) w := by
          unfold Instr.sliceBounds
          cases hi <;> cases lo <;> simp_all
        refine ⟨.slice (some ⟨b.1, if c = k then b.2 else b.2 + k * sz, none⟩) (h - k) (c - k), ?_, b, c, hb, hgc, rfl, by omega⟩
        simp only [execOp, ho, hv, Option.map_none, Instr.sliceAt, Instr.slice, Sem.run_bind, run_underlying hty, Result.andThen_ok, hsb, elemSz_ok hsz, Option.map_some, addr_add, Sem.run_pure]
        split <;> rfl
      · cases hh
    · cases hh
  · cases hh

/-- the window is taken: its block gets the number n, its capacity n + 1 -/
theorem take_win {φ : Ph} {M : Hp} {w : World} {n i g sz k m : Nat} {bl : Bl} {cs : List S} {v : Value} (hg : Good φ M w) (hl : lk M i = some bl) (hgh : bl.gh = some (g, sz)) (hro : bl.ro = false) (f0 : φ n = none) (f1 : φ (n + 1) = none)
    (hv : Vr φ (.w i g sz k m) v) (hle : (k + m) * sz ≤ bl.cells.length) (hcs : cs = (bl.cells.drop (k * sz)).take (m * sz)) :
    ∃ φ' : Ph, Vr φ' (.s (.sla n (n + 1) m)) v ∧ Good φ' (puts M (dropB (some i) ++ [(n, some { bl with cells := cs, more := true, gh := some (n + 1, sz), abs := none })])) w ∧
      Stp φ M w φ' (puts M (dropB (some i) ++ [(n, some { bl with cells := cs, more := true, gh := some (n + 1, sz), abs := none })])) w ∧ (∀ j, ¬ (n ≤ j ∧ j < n + 2) → φ' j = φ j) := by
  obtain ⟨b, c, hb, hgc, rfl, hkm⟩ := hv
  obtain ⟨b2, hb2, pre, ys, rest, fr, p1, hp, p2, p3, p4, p5⟩ := hg.hr i bl hl
  rw [hb] at hb2; cases hb2
  obtain ⟨kk, hkk, hlenk⟩ := p5.1 _ _ hgh
  rw [hgc] at hkk; cases hkk
  have hyl := p2.len
  let b' : Nat × Nat := (b.1, if c = k then b.2 else b.2 + k * sz)
  let φ' : Ph := fun j => if j = n then some b' else if j = n + 1 then some (c - k, 0) else φ j
  have hle' : φ.le φ' := by
    intro j b hb
    simp only [φ']
    split
    · rename_i e; subst e; rw [f0] at hb; cases hb
    · split
      · rename_i e; subst e; rw [f1] at hb; cases hb
      · exact hb
  have hn : φ' n = some b' := by simp [φ']
  have hn1 : φ' (n + 1) = some (c - k, 0) := by simp [φ']
  have old : ∀ j bj, lk (puts M (dropB (some i) ++ [(n, some { bl with cells := cs, more := true, gh := some (n + 1, sz), abs := none })])) j = some bj → n ≠ j → lk M j = some bj ∧ i ≠ j ∧ φ' j = φ j := by
    intro j bj hj hne
    rw [lk_drop, if_neg hne] at hj
    split at hj
    · cases hj
    · rename_i hbi
      refine ⟨hj, fun e => hbi (by rw [e]), ?_⟩
      obtain ⟨b, hb, _⟩ := hg.hr j bj hj
      simp only [φ']
      rw [if_neg (Ne.symm hne), if_neg]
      rintro rfl; rw [f1] at hb; cases hb
  have apart : ∀ j bj b1, lk M j = some bj → φ j = some b1 → i ≠ j → b1.1 ≠ b.1 := by
    intro j bj b1 hj hb1 hij hbb
    rcases hg.inj j i bj bl b1 b hj hl hb1 hb hbb with rfl | ⟨_, e⟩
    · exact hij rfl
    · rw [e] at hro; cases hro
  refine ⟨φ', ⟨b', c - k, hn, hn1, rfl, by omega⟩, ⟨fun j bj hj => ?_, fun j j' bj bj' b1 b2 hj hj' hb1 hb2 hbb => ?_⟩, ⟨rfl, rfl, rfl, Nat.le_refl _, fun _ _ _ => rfl, fun j bj b1 hj hb1 hlt => ?_⟩, fun j hj => ?_⟩
  · by_cases e : n = j
    · subst e
      rw [lk_drop, if_pos rfl] at hj; cases hj
      refine ⟨b', hn, ?_⟩
      by_cases hck : c = k
      · have h0 : m = 0 := by omega
        refine ⟨pre, [], ys ++ rest, fr, p1, ?_, ?_, (fun e => by cases e), fun e => p4 e, ⟨fun g z e' => ?_, fun _ e' => (by cases e')⟩⟩
        · simp only [b', if_pos hck]; exact hp
        · show All2 _ cs []
          rw [hcs, h0, Nat.zero_mul]; simp [All2]
        · simp only [Option.some.injEq, Prod.mk.injEq] at e'
          obtain ⟨rfl, rfl⟩ := e'
          exact ⟨c - k, hn1, by rw [hck, Nat.sub_self, Nat.zero_mul]; exact Nat.zero_le _⟩
      · have hks : k * sz ≤ ys.length := by rw [hyl]; rw [Nat.add_mul] at hle; omega
        have hd : m * sz ≤ (ys.drop (k * sz)).length := by rw [List.length_drop, hyl]; rw [Nat.add_mul] at hle; omega
        refine ⟨pre ++ ys.take (k * sz), (ys.drop (k * sz)).take (m * sz), (ys.drop (k * sz)).drop (m * sz) ++ rest, fr, ?_, ?_, ?_, (fun e => by cases e), fun e o' ho' => p4 e o' ?_, ⟨fun g z' e' => ?_, fun _ e' => (by cases e')⟩⟩
        · show w.heap[b.1]? = _
          rw [p1]; congr 2
          rw [List.append_assoc, ← List.append_assoc (List.take _ (List.drop _ ys)), List.take_append_drop, ← List.append_assoc (List.take _ ys), List.take_append_drop]
        · simp only [b', if_neg hck]; rw [List.length_append, List.length_take, hp, Nat.min_eq_left hks]
        · show All2 _ cs _
          rw [hcs]; exact ((p2.mono fun _ _ => Sr.mono (bl.ph_le hle')).drop _).take _
        · simp only [List.length_append, List.length_take, List.length_drop] at ho' ⊢; omega
        · simp only [Option.some.injEq, Prod.mk.injEq] at e'
          obtain ⟨rfl, rfl⟩ := e'
          refine ⟨c - k, hn1, ?_⟩
          rw [Nat.sub_mul]
          simp only [List.length_append, List.length_take, List.length_drop] at hlenk ⊢
          omega
    · obtain ⟨hm, hbi, hφ⟩ := old j bj hj e
      obtain ⟨b1, hb1, hatj⟩ := hg.hr j bj hm
      exact ⟨b1, by rw [hφ]; exact hb1, hatj.mono hle' rfl⟩
  · by_cases e : n = j <;> by_cases e' : n = j'
    · exact .inl (e ▸ e')
    · subst e
      obtain ⟨hm, hbi, hφ⟩ := old j' bj' hj' e'
      rw [hn] at hb1; cases hb1
      exact absurd hbb.symm (apart j' bj' b2 hm (by rw [← hφ]; exact hb2) hbi)
    · subst e'
      obtain ⟨hm, hbi, hφ⟩ := old j bj hj e
      rw [hn] at hb2; cases hb2
      exact absurd hbb (apart j bj b1 hm (by rw [← hφ]; exact hb1) hbi)
    · obtain ⟨hm, _, hφ⟩ := old j bj hj e
      obtain ⟨hm', _, hφ'⟩ := old j' bj' hj' e'
      exact hg.inj j j' bj bj' b1 b2 hm hm' (by rw [← hφ]; exact hb1) (by rw [← hφ']; exact hb2) hbb
  · by_cases e : n = j
    · subst e
      rw [hn] at hb1; cases hb1
      exact ⟨i, bl, b, hl, hb, rfl, (fun e => by rw [hro] at e; cases e), .inr hro⟩
    · obtain ⟨hm, _, hφ⟩ := old j bj hj e
      exact ⟨j, bj, b1, hm, by rw [← hφ]; exact hb1, rfl, id, .inl rfl⟩
  · simp only [φ']
    rw [if_neg (by omega), if_neg (by omega)]

/-- a window is stored -/
def aStoreW (P : Program) (n : Nat) (L : Hp) (t : TypeId) (x v : V) (cs cells : List S) (as : List Ans) : Option Out :=
  match x, v with
  | .s (.ptr (some (j, o))), .w i g sz k m =>
    match lk L i, lk L j, elemSz P t with
    | some bl, some bj, some 1 =>
      match bl.gh with
      | some (g', z) =>
        match Nat.beq g' g && Nat.beq z sz && !bl.ro && !bj.ro && !Nat.beq i j && !Nat.beq n j && fitsIn bj [.sla n (n + 1) m] && bj.kind.isNone with
        | true => some ⟨⟨[i, j], .undef, dropB (some i) ++ [(n, some { bl with cells := cs, more := true, gh := some (n + 1, sz), abs := none }), (j, some { bj with cells := cells })], n + 2⟩, as,
            (k + m) * sz ≤ bl.cells.length ∧ cs = (bl.cells.drop (k * sz)).take (m * sz) ∧ o + 1 ≤ bj.cells.length ∧ cells = setL bj.cells o [.sla n (n + 1) m]⟩
        | false => none
      | none => none
    | _, _, _ => none
  | _, _ => none

theorem puts_app : ∀ (A B : Hp) (L : Hp), puts L (A ++ B) = puts (puts L A) B
  | [], B, L => rfl
  | (i, b) :: A, B, L => by simp only [List.cons_append, puts]; exact puts_app A B _

/-- the operand that is the window, as taken -/
def tkW (n : Nat) : V → V
  | .w _ _ _ _ m => .s (.sla n (n + 1) m)
  | v => v
theorem ofConst_tk (n : Nat) (v : Value) : tkW n (ofConst v) = ofConst v := by
  unfold ofConst; split <;> rfl
theorem ev_tk (n : Nat) (env : List V) (x : Operand) : ev (env.map (tkW n)) x = tkW n (ev env x) := by
  cases x with
  | tmp t =>
    simp only [ev, List.getD_eq_getElem?_getD, List.getElem?_map]
    cases env[t]? <;> rfl
  | const v => exact (ofConst_tk n v).symm
  | _ => rfl

theorem aStoreW_ok {P : Program} {env : List V} {n : Nat} {L : Hp} {t : TypeId} {x y : Operand} {cs cells : List S} {as : List Ans} {out : Out} {o : Oper} (ho : o.op = .store t x y)
    (h : aStoreW P n L t (ev env x) (ev env y) cs cells as = some out) (hC : out.C) : OutOK P o env n L out := by
  unfold aStoreW at h
  split at h
  · rename_i j off i g sz k m hx hy
    split at h
    · rename_i bl bj hl hlj ht
      split at h
      · rename_i g' z hgh
        split at h
        · rename_i hchk
          cases h
          simp only [Bool.and_eq_true, Bool.not_eq_true'] at hchk
          obtain ⟨⟨⟨⟨⟨⟨⟨e1, e2⟩, hro⟩, hroj⟩, hij⟩, hnj⟩, hfit⟩, hkdj⟩ := hchk
          have e1 := Nat.eq_of_beq_eq_true e1
          have e2 := Nat.eq_of_beq_eq_true e2
          subst e1; subst e2
          have hij : i ≠ j := fun e => by rw [e, Nat.beq_refl] at hij; cases hij
          have hnj : n ≠ j := fun e => by rw [e, Nat.beq_refl] at hnj; cases hnj
          obtain ⟨c1, c2, c3, c4⟩ := hC
          refine ⟨?_, Nat.le_add_right _ _⟩
          intro φ a w Q hop hg hf
          have hM : lk (res [i, j] L) i = some bl := by rw [lk_res, if_pos (by simp)]; exact hl
          have hMj : lk (res [i, j] L) j = some bj := by rw [lk_res, if_pos (by simp)]; exact hlj
          have gy := hop y (by simp [ho, Op.operands])
          rw [hy] at gy
          obtain ⟨φ1, hv1, hg1, hs1, hag1⟩ := take_win hg hM hgh hro (hf n (Nat.le_refl _) (by show n < n + 2; omega)) (hf (n + 1) (by omega) (by show n + 1 < n + 2; omega)) gy c1 c2
          have hle1 : φ.le φ1 := le_of_agree (n := n) (n' := n + 2) hf hag1
          let M1 : Hp := puts (res [i, j] L) (dropB (some i) ++ [(n, some { bl with cells := cs, more := true, gh := some (n + 1, z), abs := none })])
          have hj1 : lk M1 j = some bj := by
            show lk (puts _ _) j = _
            rw [lk_drop, if_neg hnj, if_neg (by simpa using hij)]; exact hMj
          -- the store, with the window as taken
          have hst : aStore P (n + 2) M1 t (ev (env.map (tkW n)) x) (ev (env.map (tkW n)) y) [match bj.sym with | true => .cells cells | false => .stc cells] = some ⟨⟨[j], .undef, [(j, some { bj with cells := cells })], n + 2⟩, [], off + 1 ≤ bj.cells.length ∧ cells = setL bj.cells off [.sla n (n + 1) m]⟩ := by
            rw [ev_tk, ev_tk, hx, hy]
            simp only [tkW, aStore, hj1, ht, cellsOf, isJ, List.length_cons, List.length_nil, Nat.zero_add, hroj, hfit, hkdj, Nat.beq_refl, Bool.and_self, Bool.not_false]
            cases bj.sym <;> rfl
          have hout := (aStore_ok ho hst ⟨c3, c4⟩).1
          have step := hout φ1 a w Q (fun z hz => by
            rw [ev_tk]
            have g := hop z hz
            cases hev : ev env z with
            | w i' g' sz' k' m' =>
              have hzy : z = y := by
                rw [ho] at hz; simp [Op.operands] at hz
                rcases hz with rfl | rfl
                · rw [hx] at hev; cases hev
                · rfl
              subst hzy
              rw [hy] at hev; cases hev
              exact hv1
            | _ => rw [hev] at g; exact g.mono hle1) (hg1.sub fun i' b' hi' => by
              rw [lk_res] at hi'
              split at hi'
              · exact hi'
              · cases hi') (fun i' h1 h2 => absurd h2 (by show ¬ i' < n + 2; omega))
          refine Oper.wp_mono ?_ step
          rintro a' w' ⟨φ', x', rfl, hv, hg', st, hag⟩
          have hag' : ∀ i', φ' i' = φ1 i' := fun i' => hag i' (by show ¬ (n + 2 ≤ i' ∧ i' < n + 2); omega)
          have hl2 : φ1.le φ' := fun i' b' h' => by rw [hag']; exact h'
          obtain ⟨g2, s2⟩ := frame (L := res [j] M1) (M := M1) (M' := puts M1 [(j, some { bj with cells := cells })]) hg1 (fun i' b' hi' => by
              rw [lk_res] at hi'
              split at hi'
              · exact hi'
              · cases hi') hg' st hl2 (by
            intro i' bl' hi'
            by_cases hk : i' ∈ keys [(j, some { bj with cells := cells })]
            · exact .inl (by rw [lk_puts_in _ _ M1 i' hk]; exact hi')
            · rw [lk_puts_out _ _ _ hk] at hi' ⊢
              by_cases hm : i' ∈ [j]
              · exact .inl (by rw [lk_res, if_pos hm]; exact hi')
              · exact .inr ⟨by rw [lk_res, if_neg hm], hi'⟩)
          have eM : puts (res [i, j] L) (dropB (some i) ++ [(n, some { bl with cells := cs, more := true, gh := some (n + 1, z), abs := none }), (j, some { bj with cells := cells })]) = puts M1 [(j, some { bj with cells := cells })] := by
            show _ = puts (puts _ _) _
            rw [← puts_app]; rfl
          refine ⟨φ', x', rfl, hv, ?_, ?_, fun i' hi' => by rw [hag']; exact hag1 i' hi'⟩
          · show Good φ' (puts (res [i, j] L) _) w'
            rw [eM]; exact g2
          · show Stp φ (res [i, j] L) w φ' (puts (res [i, j] L) _) w'
            rw [eM]; exact hs1.trans s2
        · cases h
      · cases h
    · cases h
  · cases h

/-! ### append of nothing to nil -/
def aApp0 (P : Program) (ts : Array TypeId) (n : Nat) (L : Hp) (d x : V) (as : List Ans) : Option Out :=
  match ts[0]?, ts[1]? with
  | some t, some tx =>
    match P.underlying t, P.underlying tx with
    | some (.slice e), some dx =>
      match notInt dx, elemSz P e, d with
      | true, some sz, .s (.slc none _ _) =>
        match srcOf L sz 0 x with
        | some (foot, m, _, D) => some ⟨⟨foot, .s (.slc none 0 (some 0)), [], n⟩, as, D ∧ m = 0⟩
        | none => none
      | _, _, _ => none
    | _, _ => none
  | _, _ => none

theorem aApp0_ok {P : Program} {env : List V} {n : Nat} {L : Hp} {as : List Ans} {out : Out} {o : Oper} {c : Call} {d x : Operand} (ho : o.op = .call c) (hc : c.callee = .builtin .append) (hargs : c.args.toList = [d, x])
    (h : aApp0 P c.argTypes n L (ev env d) (wkV (ev env x)) as = some out) (hC : out.C) : OutOK P o env n L out := by
  unfold aApp0 at h
  split at h
  · rename_i t tx h0 h1
    split at h
    · rename_i e dx ht hx
      split at h
      · rename_i sz q1 q2 hdx hsz hd
        split at h
        · rename_i foot m xs D hs
          cases h
          obtain ⟨hD, rfl⟩ := hC
          refine ⟨OpL.light fun φ a w hop hg => ?_, Nat.le_refl _⟩
          have opd : d ∈ o.op.operands := by rw [ho]; simp only [Op.operands, Call.operands, hc]; simp [← Array.mem_toList_iff, hargs]
          have opx : x ∈ o.op.operands := by rw [ho]; simp only [Op.operands, Call.operands, hc]; simp [← Array.mem_toList_iff, hargs]
          have g1 := hop d opd
          rw [hd] at g1
          obtain ⟨_, _, hv⟩ := g1
          obtain ⟨r1, vs, r2, r3, r4⟩ := srcOf_ok (P := P) hs hD (Nat.le_refl _) hg (fun j hj => by rw [lk_res, if_pos (by simpa using hj)]) (wkV_r (hop x opx))
          have ea : c.args.map a.eval = #[a.eval d, a.eval x] := by apply Array.ext'; simp [hargs]
          refine ⟨.slice none 0 0, ?_, rfl, rfl, rfl⟩
          simp only [execOp, ho, resolve, hc, Sem.run_bind, Sem.run_pure, Result.andThen_ok, invoke, builtin, ea, hv]
          unfold Builtin.append_
          simp only [h0, h1, List.getElem?_toArray, List.getElem?_cons_zero, List.getElem?_cons_succ, Sem.run_bind, Ab.run_underlying ht, Ab.run_underlying hx, Result.andThen_ok, elemSz_ok hsz, Sem.run_pure]
          cases dx <;> first | cases hdx | skip
          all_goals simp only [Bool.false_eq_true, if_false, Bool.not_false, if_true, r1, r2, Sem.run_bind, Result.andThen_ok, Sem.run_pure, Nat.add_zero, Nat.le_refl]
        · cases h
      · cases h
    · cases h
  · cases h

end Ab
end Go.Proofs.YtbokilgdefkmiaaGreatDoor
