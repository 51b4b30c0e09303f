/-
  awake: it is true.
-/
import Derived.Test.YtgnidbokllmhhaaLn
import Derived.Test.YtgnidbokllmhhaaLs
set_option linter.unusedSimpArgs false
set_option linter.unusedVariables false
namespace Go.Proofs.Ytgnidbokllmhhaa
open Go Ab
set_option maxRecDepth 100000

/-- a list as a literal lays it -/
abbrev bLit (l : List Nat) : Bl := { cells := cU l, ty := 22, ro := true }
theorem likeLit (l : List Nat) (h : (cU l).all noPtr = true) : LikeB (bLit l) (bR 22 false (cU l)) := ⟨rfl, rfl, rfl, .inl rfl, .inr h, fun _ _ e => by cases e⟩
theorem likeR (ty : TypeId) (m : Bool) (C : List S) : LikeB (bR ty m C) (bR ty m C) := ⟨rfl, rfl, rfl, .inl rfl, .inl rfl, fun _ _ e => e⟩

def fA : Fsp := ⟨0, 0, 4, 6, 4, 1, 0, 0, 0⟩
theorem fA_ok : fA.ok := by refine ⟨?_, ?_, ?_, ?_, ?_, ?_, ?_, ?_, ?_⟩ <;> decide
theorem fA_v : vld fA = true := by decide +kernel
theorem fA_fv : FV fA 6 4 1 := ⟨fA_v, rfl, rfl, rfl, .inl rfl, by decide, by decide, by decide, .inl rfl⟩

theorem lt2 (x y : Nat) (hx : x < 2 ^ 64) (hy : y < 2 ^ 64) (i : Nat) : [x, y].getD i 0 < 2 ^ 64 := by
  match i with
  | 0 => exact hx
  | 1 => exact hy
  | _ + 2 => simp

theorem in2 (x y : Nat) (i : Nat) (h : i < nU 6 4 1) : (cU [x, y])[0 + i]? = some (.int .u64 (([x, y].getD i 0 : Nat) : Int)) := by
  rw [show nU 6 4 1 = 2 by decide +kernel] at h
  match i, h with
  | 0, _ => rfl
  | 1, _ => rfl

set_option maxHeartbeats 4000000 in
theorem awake_s : SC Try.prog 12 [] 0 [] (.s (.bool true)) 0 [] := by
  have h30 := valid_s fA fA_ok
  rw [fA_v] at h30
  have h24 : SC Try.prog 24 [fA.v] 0 [] (.s (.slc (some (0, 0)) 2 (some 2))) 1 [(0, some (bU [192, 3]))] := by
    have := masks_s fA_ok fA_fv
    rw [show mL 6 4 1 = [192, 3] by decide +kernel, show nU 6 4 1 = 2 by decide +kernel] at this
    exact this
  have h15 : SC Try.prog 15 [.s (.slc (some (0, 0)) 2 (some 2)), .s (.slc (some (1, 0)) 2 (some 2))] 2 [(0, some (bR 22 false (cU [192, 3]))), (1, some (bLit [192, 3]))] (.s (.bool true)) 2 [(0, some (bR 22 false (cU [192, 3]))), (1, some (bR 22 false (cU [192, 3])))] :=
    (equal_s [192, 3] false false (some 2) (some 2) (by decide)).like ⟨rfl, likeR _ _ _, rfl, likeLit _ rfl, trivial⟩
  have h13 : SC Try.prog 13 [fA.v, .s (.slc (some (0, 0)) 2 (some 2))] 1 [(0, some (bLit [64, 2]))] (.s (.str [9])) 1 [(0, some (bR 22 false (cU [64, 2])))] := by
    have := extract_s fA_ok fA_fv 22 false (cU [64, 2]) (fun i => [64, 2].getD i 0) (lt2 _ _ (by decide) (by decide)) 0 (some 2) (in2 64 2)
    rw [show exS 6 4 1 (fun i => [64, 2].getD i 0) = [9] by decide +kernel, show nU 6 4 1 = 2 by decide +kernel] at this
    exact this.like ⟨rfl, likeLit _ rfl, trivial⟩
  have h16 : SC Try.prog 16 [fA.v, .s (.str [9]), .s (.slc (some (0, 0)) 2 (some 2))] 1 [(0, some (bLit [0, 255]))] (.s (.slc (some (1, 0)) 2 (some 2))) 2 [(0, some (bR 22 false (cU [0, 255]))), (1, some (bU [64, 254]))] := by
    have := insert_s fA_ok fA_fv [9] 22 false (cU [0, 255]) (fun i => [0, 255].getD i 0) (lt2 _ _ (by decide) (by decide)) 0 (some 2) (in2 0 255)
    rw [show inK 6 4 1 fA.up (fun i => [0, 255].getD i 0) [9] 4 = [64, 254] by decide +kernel, show nU 6 4 1 = 2 by decide +kernel] at this
    exact this.like ⟨rfl, likeLit _ rfl, trivial⟩
  have h15b : SC Try.prog 15 [.s (.slc (some (0, 0)) 2 (some 2)), .s (.slc (some (1, 0)) 2 (some 2))] 2 [(0, some (bR 22 false (cU [64, 254]))), (1, some (bLit [64, 254]))] (.s (.bool true)) 2 [(0, some (bR 22 false (cU [64, 254]))), (1, some (bR 22 false (cU [64, 254])))] :=
    (equal_s [64, 254] false false (some 2) (some 2) (by decide)).like ⟨rfl, likeR _ _ _, rfl, likeLit _ rfl, trivial⟩
  refine SC.run hm Try.func12 rfl [.call [] [fA.v] [] (.s (.bool true)) 0 [], .call [] [fA.v] [] (.s (.slc (some (0, 0)) 2 (some 2))) 1 [(0, some (bU [192, 3]))],
    .call [1, 2] [.s (.slc (some (0, 0)) 2 (some 2)), .s (.slc (some (1, 0)) 2 (some 2))] [(0, some (bR 22 false (cU [192, 3]))), (1, some (bLit [192, 3]))] (.s (.bool true)) 2 [(0, some (bR 22 false (cU [192, 3]))), (1, some (bR 22 false (cU [192, 3])))],
    .call [3] [fA.v, .s (.slc (some (0, 0)) 2 (some 2))] [(0, some (bLit [64, 2]))] (.s (.str [9])) 1 [(0, some (bR 22 false (cU [64, 2])))], .dec true,
    .call [4] [fA.v, .s (.str [9]), .s (.slc (some (0, 0)) 2 (some 2))] [(0, some (bLit [0, 255]))] (.s (.slc (some (1, 0)) 2 (some 2))) 2 [(0, some (bR 22 false (cU [0, 255]))), (1, some (bU [64, 254]))],
    .call [5, 6] [.s (.slc (some (0, 0)) 2 (some 2)), .s (.slc (some (1, 0)) 2 (some 2))] [(0, some (bR 22 false (cU [64, 254]))), (1, some (bLit [64, 254]))] (.s (.bool true)) 2 [(0, some (bR 22 false (cU [64, 254]))), (1, some (bR 22 false (cU [64, 254])))]] [] rfl rfl ?_ (.inl rfl) (EndOK.plain rfl no_mem rfl rfl)
  simp only [true_and, and_true, and_assoc]
  repeat' apply And.intro
  all_goals first
    | exact True.intro
    | exact call0 h30 rfl
    | exact call0 h24 rfl
    | exact ⟨h15, rfl, Fits.of rfl rfl ⟨⟨rfl, _, rfl, rfl, fun h => by cases h⟩, ⟨rfl, _, rfl, rfl, fun h => by cases h⟩, trivial⟩⟩
    | exact ⟨h13, rfl, Fits.of rfl rfl ⟨⟨rfl, _, rfl, rfl, fun h => by cases h⟩, trivial⟩⟩
    | exact ⟨h16, rfl, Fits.of rfl rfl ⟨⟨rfl, _, rfl, rfl, fun h => by cases h⟩, trivial⟩⟩
    | exact ⟨h15b, rfl, Fits.of rfl rfl ⟨⟨rfl, _, rfl, rfl, fun h => by cases h⟩, ⟨rfl, _, rfl, rfl, fun h => by cases h⟩, trivial⟩⟩
    | (with_reducible show _ = true; kernel_rfl)

end Go.Proofs.Ytgnidbokllmhhaa
