/-
  The quick machine, part 11: a run's outcome kept for later runs; contracts out of runs.
-/
import Derived.Test.YtgbkllbaojkfmaaGreatDoorKm
set_option linter.unusedSimpArgs false
set_option linter.unusedVariables false
namespace Go.Proofs.YtgbkllbaojkfmaaGreatDoor
namespace Ab
open Go
set_option maxRecDepth 100000

def eqUs : List U → List U → Bool
  | [], [] => true
  | a :: s, b :: t =>
    match a, b with
    | .s x, .s y => (match eqS x y with | true => eqUs s t | false => false)
    | .agg x, .agg y => (match eqL x y with | true => eqUs s t | false => false)
    | _, _ => false
  | _, _ => false
theorem eqUs_ok : ∀ {a b : List U}, eqUs a b = true → a = b
  | [], [], _ => rfl
  | a :: s, b :: t, h => by
    cases a <;> cases b <;> simp only [eqUs, Bool.false_eq_true] at h
    · split at h
      · rename_i e; rw [eqS_ok e, eqUs_ok h]
      · cases h
    · split at h
      · rename_i e; rw [eqL_ok e, eqUs_ok h]
      · cases h
  | [], _ :: _, h => by cases h
  | _ :: _, [], h => by cases h
def eqV (a b : V) : Bool :=
  match a, b with
  | .s x, .s y => eqS x y
  | .agg x, .agg y => eqL x y
  | .tup x, .tup y => eqUs x y
  | _, _ => false
theorem eqV_ok {a b : V} (h : eqV a b = true) : a = b := by
  unfold eqV at h
  split at h
  · rw [eqS_ok h]
  · rw [eqL_ok h]
  · rw [eqUs_ok h]
  · cases h
def eqVs : List V → List V → Bool
  | [], [] => true
  | a :: s, b :: t => match eqV a b with | true => eqVs s t | false => false
  | _, _ => false
theorem eqVs_ok : ∀ {a b : List V}, eqVs a b = true → a = b
  | [], [], _ => rfl
  | a :: s, b :: t, h => by
    simp only [eqVs] at h
    split at h
    · rename_i e; rw [eqV_ok e, eqVs_ok h]
    · cases h
  | [], _ :: _, h => by cases h
  | _ :: _, [], h => by cases h

/-- blocks, one by one -/
abbrev Bs := List (Nat × Bl)
def toW : Bs → Hp
  | [] => []
  | (i, b) :: t => (i, some b) :: toW t
def tOf (hs : Bs) : T Bl := putsB (toW hs) .nil id
def allIn (h : T Bl) : Bs → Bool
  | [] => true
  | (i, b) :: t => match eqO (h.get i) (some b) with | true => allIn h t | false => false
theorem allIn_ok {h : T Bl} : ∀ {hs : Bs}, allIn h hs = true → ∀ i c, (i, c) ∈ toW hs → h.get i = c
  | (j, b) :: t, hh, i, c, hm => by
    simp only [allIn] at hh
    split at hh
    · rename_i e
      simp only [toW, List.mem_cons, Prod.mk.injEq] at hm
      rcases hm with ⟨rfl, rfl⟩ | hm
      · exact eqO_ok e
      · exact allIn_ok hh i c hm
    · cases hh
def chkM (r : KC) (v : V) (n' : Nat) (hs : Bs) : Bool := match r with | .ok v' m h => eqV v' v && Nat.beq m n' && allIn h hs | .bad _ _ => false

theorem CallOK.sub {P : Program} {f : FuncId} {args : List V} {n : Nat} {L : Hp} {v : V} {n' : Nat} {L' M : Hp} (h : CallOK P f args n L v n' L') (hs : Sub M L') : CallOK P f args n L v n' M := by
  intro φ a w o c x cap Q h1 h2 h3 h4 h5 h6
  refine Oper.wp_mono ?_ (h φ a w o c x cap Q h1 h2 h3 h4 h5 h6)
  rintro a' w' ⟨φ', y, e, hv, hg, st, r1, r2⟩
  exact ⟨φ', y, e, hv, hg.sub hs, ⟨st.os, st.tape, st.output, st.size, st.keep, fun j bl b hj => st.fresh j bl b (hs j bl hj)⟩, r1, r2⟩
theorem SC.sub {P : Program} {f : FuncId} {args : List V} {n : Nat} {L : Hp} {v : V} {n' : Nat} {L' M : Hp} (h : SC P f args n L v n' L') (hs : Sub M L') : SC P f args n L v n' M := by
  intro φ xs w h1 h2 h3
  refine Calls.mono (h φ xs w h1 h2 h3) ?_
  rintro e w' ⟨φ', x, rfl, hv, hg, hn, st, r⟩
  exact ⟨φ', x, rfl, hv, hg.sub hs, hn, ⟨st.os, st.tape, st.output, st.size, st.keep, fun j bl b hj => st.fresh j bl b (hs j bl hj)⟩, r⟩

theorem hv_tOf (hs : Bs) : HV (puts [] (toW hs)) (tOf hs) := by
  unfold tOf
  rw [putsB_eq]
  exact HV.puts (h := .nil) (L := []) (toW hs) (fun i => by rw [T.get_nil]; rfl)
theorem sub_toW {hs : Bs} {h : T Bl} {L : Hp} (hv : HV L h) (ha : allIn h hs = true) : Sub (puts [] (toW hs)) L := by
  intro i bl hi
  have hk : i ∈ keys (toW hs) := by
    by_cases hk : i ∈ keys (toW hs)
    · exact hk
    · rw [lk_puts_out _ _ _ hk] at hi; simp [lk] at hi
  obtain ⟨c, hc, he⟩ := lk_puts_mem (toW hs) [] i hk
  rw [he] at hi; subst hi
  rw [hv i]; exact allIn_ok ha i _ hc

/-- what is kept: a call at a heap, its outcome -/
structure Memo where
  f : FuncId
  args : List V
  n : Nat
  h : T Bl
  v : V
  n' : Nat
  hs : Bs
def Memo.OK (P : Program) (M : Memo) : Prop := ∀ L, HV L M.h → OH M.n L → OE M.n M.args → ∃ L', HV L' (tOf M.hs) ∧ OH M.n' L' ∧ okV M.n' M.v = true ∧ M.n ≤ M.n' ∧ CallOK P M.f M.args M.n L M.v M.n' L'
theorem Memo.of {P : Program} {cl : Cl} (hcl : ClOK P cl) {M : Memo} (h : chkM (cl M.f M.args M.n M.h) M.v M.n' M.hs = true) : M.OK P := by
  intro L hv oh oe
  unfold chkM at h
  split at h
  · rename_i v' m h' hr
    simp only [Bool.and_eq_true] at h
    obtain ⟨⟨h1, h2⟩, h3⟩ := h
    have h1 := eqV_ok h1
    have h2 := Nat.eq_of_beq_eq_true h2
    subst h1; subst h2
    obtain ⟨L', g1, g2, g3, g4, g5⟩ := hcl _ _ _ _ _ _ _ hr L hv oh oe
    have hs := sub_toW g1 h3
    exact ⟨_, hv_tOf _, fun i bl hi => g2 i bl (hs i bl hi), g3, g4, g5.sub hs⟩
  · cases h

def eqT : T Bl → T Bl → Bool
  | .nil, .nil => true
  | .node v a b c d, .node v' a' b' c' d' => match eqO v v' with | true => (match eqT a a' with | true => (match eqT b b' with | true => (match eqT c c' with | true => eqT d d' | false => false) | false => false) | false => false) | false => false
  | _, _ => false
theorem eqT_ok : ∀ {a b : T Bl}, eqT a b = true → a = b
  | .nil, .nil, _ => rfl
  | .node v a b c d, .node v' a' b' c' d', h => by
    simp only [eqT] at h
    split at h
    · rename_i e1
      split at h
      · rename_i e2
        split at h
        · rename_i e3
          split at h
          · rename_i e4; rw [eqO_ok e1, eqT_ok e2, eqT_ok e3, eqT_ok e4, eqT_ok h]
          · cases h
        · cases h
      · cases h
    · cases h
  | .nil, .node _ _ _ _ _, h => by cases h
  | .node _ _ _ _ _, .nil, h => by cases h
def Memo.ov (M : Memo) (f : FuncId) (args : List V) (n : Nat) (h : T Bl) : Option KC :=
  match Nat.beq f M.f with
  | false => none
  | true => match Nat.beq n M.n && eqVs args M.args && eqT h M.h with | true => some (.ok M.v M.n' (tOf M.hs)) | false => none

abbrev OvOK (P : Program) (ov : FuncId → List V → Nat → T Bl → Option KC) : Prop := ∀ f args n h r, ov f args n h = some r → ∀ v n' h', r = .ok v n' h' → ∀ L, HV L h → OH n L → OE n args → ∃ L', HV L' h' ∧ OH n' L' ∧ okV n' v = true ∧ n ≤ n' ∧ CallOK P f args n L v n' L'
theorem Memo.ov_ok {P : Program} {M : Memo} (h : M.OK P) : OvOK P M.ov := by
  intro f args n hh r hr v n' h' e L hv oh oe
  unfold Memo.ov at hr
  split at hr
  · cases hr
  · rename_i hf
    split at hr
    · rename_i hc
      simp only [Bool.and_eq_true] at hc
      obtain ⟨⟨c1, c2⟩, c3⟩ := hc
      have hf := Nat.eq_of_beq_eq_true hf
      have c1 := Nat.eq_of_beq_eq_true c1
      have c2 := eqVs_ok c2
      have c3 := eqT_ok c3
      subst hf; subst c1; subst c2; subst c3
      cases hr; cases e
      exact h L hv oh oe
    · cases hr
def ovOr (a b : FuncId → List V → Nat → T Bl → Option KC) (f : FuncId) (args : List V) (n : Nat) (h : T Bl) : Option KC := match a f args n h with | some r => some r | none => b f args n h
theorem ovOr_ok {P : Program} {a b : FuncId → List V → Nat → T Bl → Option KC} (ha : OvOK P a) (hb : OvOK P b) : OvOK P (ovOr a b) := by
  intro f args n h r hr
  unfold ovOr at hr
  split at hr
  · rename_i r' hr'; cases hr; exact ha f args n h _ hr'
  · exact hb f args n h r hr

/-- A contract out of a run. -/
theorem SC.ofRun {P : Program} (hm : P.follows .mixedOrders = true) {kx : Oper → (Operand → V) → Nat → Hp → Option R} (hkx : KxOK P kx) {ov : FuncId → List V → Nat → T Bl → Option KC} (hov : OvOK P ov) {lf d : Nat} {f : FuncId} {fn : Func} {c : Code} (hf : P.funcs[f]? = some fn) (hb : fn.body = some c)
    {args : List V} {n : Nat} {hs : Bs} {v : V} {n' : Nat} {hs' : Bs} (h : chkM (kRun P kx lf (kF P kx ov lf d) fn c args n (tOf hs)) v n' hs' = true) (oh : okW n (toW hs) = true) (oe : args.all (okV n) = true) : SC P f args n (puts [] (toW hs)) v n' (puts [] (toW hs')) := by
  unfold chkM at h
  split at h
  · rename_i v' m h' hr
    simp only [Bool.and_eq_true] at h
    obtain ⟨⟨h1, h2⟩, h3⟩ := h
    have h1 := eqV_ok h1
    have h2 := Nat.eq_of_beq_eq_true h2
    subst h1; subst h2
    obtain ⟨L', g1, g2, g3, g4, g5⟩ := kRun_ok hm hkx (kF_ok hm hkx hov d) hf hb hr (hv_tOf hs) (OH.puts (L := []) (toW hs) (fun i bl hi => by cases hi) oh) (fun y hy => List.all_eq_true.1 oe y hy)
    exact g5.sub (sub_toW g1 h3)
  · cases h

end Ab
end Go.Proofs.YtgbkllbaojkfmaaGreatDoor
