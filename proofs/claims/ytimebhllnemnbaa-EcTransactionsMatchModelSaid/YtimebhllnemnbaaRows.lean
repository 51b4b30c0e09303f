/-
  No cell of these rows narrows 'for every input' (looked for: loops, veiled, ifaces, maps, wideKeys, modest, calm, conditions, laid).
  DERIVED. THE GIVEN ROWS OF THIS SEAT. 6 by the template 'for every input the law returns true; each argument reads behind the call as it read before'; 0 by the template 'total and deterministic' (their statements: YtimebhllnemnbaaTotals.lean).
  GIVEN WITH THE SEED: the statements are not yours to turn. If you find one false, say at which input.
  Laid BY PROGRAM, IN A SANDBOX (cutbox-rows.mjs): the forced cells as the released guide's own fill.sh prints them over the translation 5245280a950b3899… (all of the seat's roots in one cut). By AI agents, Wed Nov 11 2026. No macro, syntax, notation, axiom, sorry.
-/
import Derived.Test.YtimebhllnemnbaaChecked
import GoSem.Claim
import GoSem.ClaimJoined
import GoSem.ClaimMapViews
import Derived.JoinedTies
import Derived.KernelRfl
namespace Go.Proofs.Ytimebhllnemnbaa
/- THE CELL 'sum', in the pinned program and in every row, IS THE sha256 OF THE DUMP (.gsa) THAT YtimebhllnemnbaaProg.lean LOADS. Nothing in Lean hashes anything: it is a label: what it is worth is what the hold of that sum in a sandbox is worth. -/
noncomputable def Try.pinned : Pinned := { name := "ytimebhllnemnbaa", sum := "5245280a950b3899ebb33981e951688c105a4601bbfd2686f1ece62fcd9431dc", checked := Try.checked }
namespace Rows
def none {H : Type} : Left H := { results := [], args := [] }

/-- 'platformfwlaw10.EcValidatesDelay': WHATEVER THE INPUT: true; the input reads as it did. -/
def ecValidatesDelaySpec : ChangeSpec := { name := "ecValidatesDelay", fn := fun _ => fun
  | [d1, d2] => { results := [.lit (.bool true)], args := [d1, d2] }
  | _ => none }
def ecValidatesDelayRow : OpenClaim := { program := "ytimebhllnemnbaa", sum := "5245280a950b3899ebb33981e951688c105a4601bbfd2686f1ece62fcd9431dc", func := "platformfw/platformfwlaw10.EcValidatesDelay", spec := "ecValidatesDelay", inPlace := ["math/bits.Add64"], apart := false }
def EcValidatesDelaySaid : Prop := ecValidatesDelayRow.holds Try.pinned (OpenSpec.ofChange ecValidatesDelaySpec)

/-- ITS FALSE NEIGHBOUR: 'it returns false'. Refute it at one input. -/
def ecValidatesDelayWrong : ChangeSpec := { name := "ecValidatesDelay", fn := fun _ => fun
  | [d1, d2] => { results := [.lit (.bool false)], args := [d1, d2] }
  | _ => none }
def EcValidatesDelayWrongFalsely : Prop := ecValidatesDelayRow.holds Try.pinned (OpenSpec.ofChange ecValidatesDelayWrong)

/-- 'platformfwlaw10.EcTimeout': WHATEVER THE INPUT: true; the input reads as it did. -/
def ecTimeoutSpec : ChangeSpec := { name := "ecTimeout", fn := fun _ => fun
  | [d1, d2, d3] => { results := [.lit (.bool true)], args := [d1, d2, d3] }
  | _ => none }
def ecTimeoutRow : OpenClaim := { program := "ytimebhllnemnbaa", sum := "5245280a950b3899ebb33981e951688c105a4601bbfd2686f1ece62fcd9431dc", func := "platformfw/platformfwlaw10.EcTimeout", spec := "ecTimeout", inPlace := ["math/bits.Add64"], apart := false }
def EcTimeoutSaid : Prop := ecTimeoutRow.holds Try.pinned (OpenSpec.ofChange ecTimeoutSpec)

/-- ITS FALSE NEIGHBOUR: 'it returns false'. Refute it at one input. -/
def ecTimeoutWrong : ChangeSpec := { name := "ecTimeout", fn := fun _ => fun
  | [d1, d2, d3] => { results := [.lit (.bool false)], args := [d1, d2, d3] }
  | _ => none }
def EcTimeoutWrongFalsely : Prop := ecTimeoutRow.holds Try.pinned (OpenSpec.ofChange ecTimeoutWrong)

/-- 'platformfwlaw10.EcReadsBack': WHATEVER THE INPUT: true; the input reads as it did. -/
def ecReadsBackSpec : ChangeSpec := { name := "ecReadsBack", fn := fun _ => fun
  | [d1, d2, d3, d4, d5] => { results := [.lit (.bool true)], args := [d1, d2, d3, d4, d5] }
  | _ => none }
def ecReadsBackRow : OpenClaim := { program := "ytimebhllnemnbaa", sum := "5245280a950b3899ebb33981e951688c105a4601bbfd2686f1ece62fcd9431dc", func := "platformfw/platformfwlaw10.EcReadsBack", spec := "ecReadsBack", inPlace := ["math/bits.Add64"], apart := false }
def EcReadsBackSaid : Prop := ecReadsBackRow.holds Try.pinned (OpenSpec.ofChange ecReadsBackSpec)

/-- ITS FALSE NEIGHBOUR: 'it returns false'. Refute it at one input. -/
def ecReadsBackWrong : ChangeSpec := { name := "ecReadsBack", fn := fun _ => fun
  | [d1, d2, d3, d4, d5] => { results := [.lit (.bool false)], args := [d1, d2, d3, d4, d5] }
  | _ => none }
def EcReadsBackWrongFalsely : Prop := ecReadsBackRow.holds Try.pinned (OpenSpec.ofChange ecReadsBackWrong)

/-- 'platformfwlaw10.EcMatchesModel': WHATEVER THE INPUT: true; the input reads as it did. -/
def ecMatchesModelSpec : ChangeSpec := { name := "ecMatchesModel", fn := fun _ => fun
  | [d1, d2] => { results := [.lit (.bool true)], args := [d1, d2] }
  | _ => none }
def ecMatchesModelRow : OpenClaim := { program := "ytimebhllnemnbaa", sum := "5245280a950b3899ebb33981e951688c105a4601bbfd2686f1ece62fcd9431dc", func := "platformfw/platformfwlaw10.EcMatchesModel", spec := "ecMatchesModel", inPlace := ["math/bits.Add64"], apart := false }
def EcMatchesModelSaid : Prop := ecMatchesModelRow.holds Try.pinned (OpenSpec.ofChange ecMatchesModelSpec)

/-- ITS FALSE NEIGHBOUR: 'it returns false'. Refute it at one input. -/
def ecMatchesModelWrong : ChangeSpec := { name := "ecMatchesModel", fn := fun _ => fun
  | [d1, d2] => { results := [.lit (.bool false)], args := [d1, d2] }
  | _ => none }
def EcMatchesModelWrongFalsely : Prop := ecMatchesModelRow.holds Try.pinned (OpenSpec.ofChange ecMatchesModelWrong)

/-- 'platformfwlaw10.EcQueriesInOrder': WHATEVER THE INPUT: true; the input reads as it did. -/
def ecQueriesInOrderSpec : ChangeSpec := { name := "ecQueriesInOrder", fn := fun _ => fun
  | [d1, d2] => { results := [.lit (.bool true)], args := [d1, d2] }
  | _ => none }
def ecQueriesInOrderRow : OpenClaim := { program := "ytimebhllnemnbaa", sum := "5245280a950b3899ebb33981e951688c105a4601bbfd2686f1ece62fcd9431dc", func := "platformfw/platformfwlaw10.EcQueriesInOrder", spec := "ecQueriesInOrder", inPlace := ["math/bits.Add64"], apart := false }
def EcQueriesInOrderSaid : Prop := ecQueriesInOrderRow.holds Try.pinned (OpenSpec.ofChange ecQueriesInOrderSpec)

/-- ITS FALSE NEIGHBOUR: 'it returns false'. Refute it at one input. -/
def ecQueriesInOrderWrong : ChangeSpec := { name := "ecQueriesInOrder", fn := fun _ => fun
  | [d1, d2] => { results := [.lit (.bool false)], args := [d1, d2] }
  | _ => none }
def EcQueriesInOrderWrongFalsely : Prop := ecQueriesInOrderRow.holds Try.pinned (OpenSpec.ofChange ecQueriesInOrderWrong)

/-- 'platformfwlaw10.EcTransactionsMatchModel': WHATEVER THE INPUT: true; the input reads as it did. -/
def ecTransactionsMatchModelSpec : ChangeSpec := { name := "ecTransactionsMatchModel", fn := fun _ => fun
  | [d1, d2, d3, d4, d5] => { results := [.lit (.bool true)], args := [d1, d2, d3, d4, d5] }
  | _ => none }
def ecTransactionsMatchModelRow : OpenClaim := { program := "ytimebhllnemnbaa", sum := "5245280a950b3899ebb33981e951688c105a4601bbfd2686f1ece62fcd9431dc", func := "platformfw/platformfwlaw10.EcTransactionsMatchModel", spec := "ecTransactionsMatchModel", inPlace := ["math/bits.Add64"], apart := false }
def EcTransactionsMatchModelSaid : Prop := ecTransactionsMatchModelRow.holds Try.pinned (OpenSpec.ofChange ecTransactionsMatchModelSpec)

/-- ITS FALSE NEIGHBOUR: 'it returns false'. Refute it at one input. -/
def ecTransactionsMatchModelWrong : ChangeSpec := { name := "ecTransactionsMatchModel", fn := fun _ => fun
  | [d1, d2, d3, d4, d5] => { results := [.lit (.bool false)], args := [d1, d2, d3, d4, d5] }
  | _ => none }
def EcTransactionsMatchModelWrongFalsely : Prop := ecTransactionsMatchModelRow.holds Try.pinned (OpenSpec.ofChange ecTransactionsMatchModelWrong)

/- THE SECOND FORM. 'bulk': how many values and letters a reading holds, each counted each time it is reached (what is shared counts as often as it is met; a slice's spare places count too). A statement '..UptoSaid' is the law's where the arguments, and the package variables that the reading takes, are together of bulk at most 1048576: NARROWER than '..Said'. Prove '..Said' where nothing that the law and all that it calls make is longer than what came in: it says more and counts as full. Else prove '..UptoSaid'. A law counts once. -/
mutual
def uptoBulk {H : Type} : DataW H → Nat
  | .lit (.string bytes) => bytes.length + 1
  | .lit _ => 1
  | .nil => 1
  | .ptr d => uptoBulk d + 1
  | .slice elems spare => uptoBulkAll elems + uptoBulkAll spare + 1
  | .agg parts => uptoBulkAll parts + 1
  | .iface _ d => uptoBulk d + 1
  | .map entries => uptoBulkEntries entries + 1
  | .held _ => 1
def uptoBulkAll {H : Type} : List (DataW H) → Nat
  | [] => 0
  | d :: r => uptoBulk d + uptoBulkAll r
def uptoBulkEntries {H : Type} : List (Lit × DataW H) → Nat
  | [] => 0
  | x :: r => uptoBulkEntry x + uptoBulkEntries r
def uptoBulkEntry {H : Type} : Lit × DataW H → Nat
  | (.string bytes, d) => bytes.length + uptoBulk d + 1
  | (_, d) => uptoBulk d + 1
 end
def uptoSmall : (H : Type) → List (DataW H) → Bool := fun _ ds => decide (uptoBulkAll ds ≤ 1048576)
def OpenSpec.upto (s : _root_.Go.ChangeSpec) : _root_.Go.OpenSpec := { _root_.Go.OpenSpec.ofChange s with cond := some uptoSmall }

/-- 'platformfwlaw10.EcValidatesDelay', WHERE WHAT IT READS IS OF BULK AT MOST 1048576: true; the input reads as it did. -/
def ecValidatesDelayUptoRow : OpenClaim := { program := "ytimebhllnemnbaa", sum := "5245280a950b3899ebb33981e951688c105a4601bbfd2686f1ece62fcd9431dc", func := "platformfw/platformfwlaw10.EcValidatesDelay", spec := "ecValidatesDelay", inPlace := ["math/bits.Add64"], apart := false, narrowed := true }
def EcValidatesDelayUptoSaid : Prop := ecValidatesDelayUptoRow.holds Try.pinned (OpenSpec.upto ecValidatesDelaySpec)

/-- 'platformfwlaw10.EcTimeout', WHERE WHAT IT READS IS OF BULK AT MOST 1048576: true; the input reads as it did. -/
def ecTimeoutUptoRow : OpenClaim := { program := "ytimebhllnemnbaa", sum := "5245280a950b3899ebb33981e951688c105a4601bbfd2686f1ece62fcd9431dc", func := "platformfw/platformfwlaw10.EcTimeout", spec := "ecTimeout", inPlace := ["math/bits.Add64"], apart := false, narrowed := true }
def EcTimeoutUptoSaid : Prop := ecTimeoutUptoRow.holds Try.pinned (OpenSpec.upto ecTimeoutSpec)

/-- 'platformfwlaw10.EcReadsBack', WHERE WHAT IT READS IS OF BULK AT MOST 1048576: true; the input reads as it did. -/
def ecReadsBackUptoRow : OpenClaim := { program := "ytimebhllnemnbaa", sum := "5245280a950b3899ebb33981e951688c105a4601bbfd2686f1ece62fcd9431dc", func := "platformfw/platformfwlaw10.EcReadsBack", spec := "ecReadsBack", inPlace := ["math/bits.Add64"], apart := false, narrowed := true }
def EcReadsBackUptoSaid : Prop := ecReadsBackUptoRow.holds Try.pinned (OpenSpec.upto ecReadsBackSpec)

/-- 'platformfwlaw10.EcMatchesModel', WHERE WHAT IT READS IS OF BULK AT MOST 1048576: true; the input reads as it did. -/
def ecMatchesModelUptoRow : OpenClaim := { program := "ytimebhllnemnbaa", sum := "5245280a950b3899ebb33981e951688c105a4601bbfd2686f1ece62fcd9431dc", func := "platformfw/platformfwlaw10.EcMatchesModel", spec := "ecMatchesModel", inPlace := ["math/bits.Add64"], apart := false, narrowed := true }
def EcMatchesModelUptoSaid : Prop := ecMatchesModelUptoRow.holds Try.pinned (OpenSpec.upto ecMatchesModelSpec)

/-- 'platformfwlaw10.EcQueriesInOrder', WHERE WHAT IT READS IS OF BULK AT MOST 1048576: true; the input reads as it did. -/
def ecQueriesInOrderUptoRow : OpenClaim := { program := "ytimebhllnemnbaa", sum := "5245280a950b3899ebb33981e951688c105a4601bbfd2686f1ece62fcd9431dc", func := "platformfw/platformfwlaw10.EcQueriesInOrder", spec := "ecQueriesInOrder", inPlace := ["math/bits.Add64"], apart := false, narrowed := true }
def EcQueriesInOrderUptoSaid : Prop := ecQueriesInOrderUptoRow.holds Try.pinned (OpenSpec.upto ecQueriesInOrderSpec)

/-- 'platformfwlaw10.EcTransactionsMatchModel', WHERE WHAT IT READS IS OF BULK AT MOST 1048576: true; the input reads as it did. -/
def ecTransactionsMatchModelUptoRow : OpenClaim := { program := "ytimebhllnemnbaa", sum := "5245280a950b3899ebb33981e951688c105a4601bbfd2686f1ece62fcd9431dc", func := "platformfw/platformfwlaw10.EcTransactionsMatchModel", spec := "ecTransactionsMatchModel", inPlace := ["math/bits.Add64"], apart := false, narrowed := true }
def EcTransactionsMatchModelUptoSaid : Prop := ecTransactionsMatchModelUptoRow.holds Try.pinned (OpenSpec.upto ecTransactionsMatchModelSpec)

end Rows
end Go.Proofs.Ytimebhllnemnbaa
