/-
  The package variables that the runs read, as blocks; the functions that the runs do not walk.
-/
import Derived.Test.YtgbkllbaojkfmaaGreatDoorWx
import Derived.Test.YtgbkllbaojkfmaaGreatDoorKj
import Derived.Test.YtgbkllbaojkfmaaGreatDoorKr
set_option linter.unusedSimpArgs false
set_option linter.unusedVariables false
namespace Go.Proofs.YtgbkllbaojkfmaaGreatDoor
open Go Ab
set_option maxRecDepth 100000
def gB (i : Nat) (cs : List S) (ty : Nat) : Bl := ⟨cs, ty, false, true, false, false, none, none, some i⟩
def gC2 : List S := [.str [83, 99, 111, 112, 101], .str [110, 68], .str [68, 101, 118, 105, 99, 101], .str [115, 68], .str [80, 111, 119, 101, 114, 82, 101, 115, 111, 117, 114, 99, 101], .str [115, 105, 105, 68], .str [78, 97, 109, 101], .str [115, 100], .str [77, 101, 116, 104, 111, 100], .str [115, 105, 105, 105, 83], .str [79, 112, 101, 114, 97, 116, 105, 111, 110, 82, 101, 103, 105, 111, 110], .str [115, 105, 105, 105], .str [70, 105, 101, 108, 100], .str [110, 105, 105, 70], .str [73, 110, 100, 101, 120, 70, 105, 101, 108, 100], .str [110, 110, 105, 105, 70], .str [85, 110, 105, 116], .str [115, 105], .str [83, 107, 105, 112], .str [105], .str [77, 117, 116, 101, 120], .str [115, 105], .str [69, 118, 101, 110, 116], .str [115]]
def gL2 : Bl := gB 2 gC2 288
def gC3 : List S := [.str [83, 116, 111, 114, 101], .str [101, 116], .str [73, 102], .str [101, 83], .str [87, 104, 105, 108, 101], .str [101, 83], .str [82, 101, 116, 117, 114, 110], .str [], .str [66, 114, 101, 97, 107], .str [], .str [67, 111, 110, 116, 105, 110, 117, 101], .str [], .str [82, 101, 108, 101, 97, 115, 101], .str [110], .str [83, 105, 103, 110, 97, 108], .str [110], .str [82, 101, 115, 101, 116], .str [110], .str [83, 108, 101, 101, 112], .str [101], .str [78, 111, 116, 105, 102, 121], .str [110, 101], .str [65, 99, 113, 117, 105, 114, 101], .str [110, 105], .str [87, 97, 105, 116], .str [110, 101]]
def gL3 : Bl := gB 3 gC3 289
def gC4 : List S := [.str [65, 100, 100], .str [101, 101], .str [83, 117, 98, 116, 114, 97, 99, 116], .str [101, 101], .str [77, 117, 108, 116, 105, 112, 108, 121], .str [101, 101], .str [68, 105, 118, 105, 100, 101], .str [101, 101], .str [77, 111, 100], .str [101, 101], .str [65, 110, 100], .str [101, 101], .str [79, 114], .str [101, 101], .str [88, 111, 114], .str [101, 101], .str [83, 104, 105, 102, 116, 76, 101, 102, 116], .str [101, 101], .str [83, 104, 105, 102, 116, 82, 105, 103, 104, 116], .str [101, 101], .str [76, 65, 110, 100], .str [101, 101], .str [76, 79, 114], .str [101, 101], .str [76, 69, 113, 117, 97, 108], .str [101, 101], .str [76, 76, 101, 115, 115], .str [101, 101], .str [76, 71, 114, 101, 97, 116, 101, 114], .str [101, 101], .str [67, 111, 110, 99, 97, 116, 101, 110, 97, 116, 101], .str [101, 101], .str [73, 110, 100, 101, 120], .str [101, 101], .str [78, 111, 116], .str [101], .str [76, 78, 111, 116], .str [101], .str [83, 105, 122, 101, 79, 102], .str [101], .str [84, 111, 73, 110, 116, 101, 103, 101, 114], .str [101], .str [84, 111, 66, 117, 102, 102, 101, 114], .str [101], .str [84, 111, 72, 101, 120, 83, 116, 114, 105, 110, 103], .str [101], .str [84, 111, 68, 101, 99, 105, 109, 97, 108, 83, 116, 114, 105, 110, 103], .str [101], .str [68, 101, 114, 101, 102, 79, 102], .str [101], .str [82, 101, 102, 79, 102], .str [116], .str [67, 111, 110, 100, 82, 101, 102, 79, 102], .str [110], .str [79, 98, 106, 101, 99, 116, 84, 121, 112, 101], .str [116], .str [77, 105, 100], .str [101, 101, 101]]
def gL4 : Bl := gB 4 gC4 290
def g13 : Bs := [(2, gL2), (3, gL3), (4, gL4)]
def tabC : List (List UInt8 × Int) := [([68, 46, 69, 46, 71, 46, 95, 83, 84, 65], 3), ([68, 46, 69, 46, 95, 83, 84, 65], 2), ([68, 46, 95, 80, 82, 48], 1), ([68, 46, 95, 83, 84, 65], 1), ([68], 0), ([69], 0), ([71], 0), ([80, 87, 82, 48], 0), ([95, 80, 82, 48], 0), ([95, 83, 84, 65], 0)]
def tabI : List (List UInt8 × Int) := [([68, 46, 69, 46, 71, 46, 95, 83, 84, 65], 1), ([68, 46, 69, 46, 95, 83, 84, 65], 1), ([68, 46, 95, 80, 82, 48], 1), ([68, 46, 95, 83, 84, 65], 1), ([69, 46, 71, 46, 95, 83, 84, 65], 1), ([69, 46, 95, 83, 84, 65], 1), ([71, 46, 95, 83, 84, 65], 1)]
def inTab (args : List V) : List (List UInt8 × Int) → Option Int
  | [] => none
  | (l, z) :: t => match eqVs args [.s (.str l), .s (.int .u8 46)] with | true => some z | false => inTab args t
theorem inTab_ok {args : List V} : ∀ {t : List (List UInt8 × Int)} {z : Int}, inTab args t = some z → ∃ l, (l, z) ∈ t ∧ args = [.s (.str l), .s (.int .u8 46)]
  | (l, y) :: t, z, h => by
    simp only [inTab] at h
    split at h
    · rename_i e; cases h; exact ⟨l, List.mem_cons_self .., eqVs_ok e⟩
    · obtain ⟨l', h1, h2⟩ := inTab_ok h; exact ⟨l', List.mem_cons_of_mem _ h1, h2⟩
def ext13 (f : FuncId) (args : List V) (n : Nat) (h : T Bl) : Option KC :=
  match Nat.beq f 189 with
  | true => (match inTab args tabC with | some z => some (.ok (.s (.int .i64 z)) n h) | none => none)
  | false => match Nat.beq f 249 with
    | true => (match inTab args tabI with | some z => some (.ok (.s (.int .i64 z)) n h) | none => none)
    | false => none
theorem tabC_ok : ∀ p ∈ tabC, ∀ (w : World), (Extern.BytealgCount.count #[.string ⟨p.1.toArray⟩, .int .u8 46]).run Tryz.prog w = .ok (.int .i64 p.2) w := by
  intro p hp w
  simp only [tabC, List.mem_cons, List.not_mem_nil, or_false] at hp
  rcases hp with rfl | rfl | rfl | rfl | rfl | rfl | rfl | rfl | rfl | rfl <;> rfl
theorem tabI_ok : ∀ p ∈ tabI, ∀ (w : World), (Extern.BytealgIndexByte.indexByte #[.string ⟨p.1.toArray⟩, .int .u8 46]).run Tryz.prog w = .ok (.int .i64 p.2) w := by
  intro p hp w
  simp only [tabI, List.mem_cons, List.not_mem_nil, or_false] at hp
  rcases hp with rfl | rfl | rfl | rfl | rfl | rfl | rfl <;> rfl
theorem ext_ok : OvOK Tryz.prog ext13 := by
  intro f args n h r hr v n' h' e L hv oh oe
  unfold ext13 at hr
  split at hr
  · rename_i hf
    have hf := Nat.eq_of_beq_eq_true hf
    subst hf
    split at hr
    · rename_i z hz
      obtain ⟨l, hl, rfl⟩ := inTab_ok hz
      cases hr; cases e
      refine ⟨L, hv, oh, rfl, Nat.le_refl _, XT.callOK ?_ rfl⟩
      intro φ xs w hx
      match xs, hx with
      | [x, y], ⟨h1, h2, _⟩ =>
        have h1 : x = .string ⟨l.toArray⟩ := h1
        have h2 : y = .int .u8 46 := h2
        subst h1; subst h2
        refine ⟨.int .i64 z, ?_, rfl⟩
        rw [run_callFunc_extern (e := Extern.BytealgCount.count) Tryz.func189 (by kernel_rfl) rfl (by rfl) (by rfl)]
        rw [show [Value.string ⟨l.toArray⟩, Value.int IntKind.u8 46].toArray = #[.string ⟨l.toArray⟩, .int .u8 46] from rfl, tabC_ok _ hl w]
        rfl
    · cases hr
  · split at hr
    · rename_i hf
      have hf := Nat.eq_of_beq_eq_true hf
      subst hf
      split at hr
      · rename_i z hz
        obtain ⟨l, hl, rfl⟩ := inTab_ok hz
        cases hr; cases e
        refine ⟨L, hv, oh, rfl, Nat.le_refl _, XT.callOK ?_ rfl⟩
        intro φ xs w hx
        match xs, hx with
        | [x, y], ⟨h1, h2, _⟩ =>
          have h1 : x = .string ⟨l.toArray⟩ := h1
          have h2 : y = .int .u8 46 := h2
          subst h1; subst h2
          refine ⟨.int .i64 z, ?_, rfl⟩
          rw [run_callFunc_extern (e := Extern.BytealgIndexByte.indexByte) Tryz.func249 (by kernel_rfl) rfl (by rfl) (by rfl)]
          rw [show [Value.string ⟨l.toArray⟩, Value.int IntKind.u8 46].toArray = #[.string ⟨l.toArray⟩, .int .u8 46] from rfl, tabI_ok _ hl w]
          rfl
      · cases hr
    · cases hr
theorem hm13 : Tryz.prog.follows .mixedOrders = true := by kernel_rfl
def ovB : FuncId → List V → Nat → T Bl → Option KC := ovOr ext13 (ovOr ovJ (ovOr ovC ovK))
theorem ovB_ok : OvOK Tryz.prog ovB := ovOr_ok ext_ok (ovOr_ok ovJ_ok (ovOr_ok ovC_ok ovK_ok))

end Go.Proofs.YtgbkllbaojkfmaaGreatDoor
