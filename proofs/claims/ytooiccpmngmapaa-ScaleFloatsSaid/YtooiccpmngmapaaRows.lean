/-
  No cell of these rows narrows 'for every input' (looked for: loops, veiled, ifaces, maps, wideKeys, modest, calm, conditions, laid).
  DERIVED. THE GIVEN ROWS OF THIS SEAT. 13 by the template 'for every input the law returns true; each argument reads behind the call as it read before'; 0 by the template 'total and deterministic' (their statements: YtooiccpmngmapaaTotals.lean).
  GIVEN WITH THE SEED: the statements are not yours to turn. If you find one false, say at which input.
  Laid BY PROGRAM, IN A SANDBOX (cutbox-rows.mjs): the forced cells as the released guide's own fill.sh prints them over the translation 74e1c51716cd0e49… (all of the seat's roots in one cut). By AI agents, Wed Nov 11 2026. No macro, syntax, notation, axiom, sorry.
-/
import Derived.Test.YtooiccpmngmapaaChecked
import GoSem.Claim
import GoSem.ClaimJoined
import GoSem.ClaimMapViews
import Derived.JoinedTies
import Derived.KernelRfl
namespace Go.Proofs.Ytooiccpmngmapaa
/- THE CELL 'sum', in the pinned program and in every row, IS THE sha256 OF THE DUMP (.gsa) THAT YtooiccpmngmapaaProg.lean LOADS. Nothing in Lean hashes anything: it is a label: what it is worth is what the hold of that sum in a sandbox is worth. -/
noncomputable def Try.pinned : Pinned := { name := "ytooiccpmngmapaa", sum := "74e1c51716cd0e49639830506e831226d304d60ac8ae002228e47e3f24f587fb", checked := Try.checked }
namespace Rows
def none {H : Type} : Left H := { results := [], args := [] }

/-- 'tidepolelaw28.RiseSplits': WHATEVER THE INPUT: true; the input reads as it did. -/
def riseSplitsSpec : ChangeSpec := { name := "riseSplits", fn := fun _ => fun
  | [d1, d2] => { results := [.lit (.bool true)], args := [d1, d2] }
  | _ => none }
def riseSplitsRow : OpenClaim := { program := "ytooiccpmngmapaa", sum := "74e1c51716cd0e49639830506e831226d304d60ac8ae002228e47e3f24f587fb", func := "tidepole/tidepolelaw28.RiseSplits", spec := "riseSplits", inPlace := ["math/bits.Add64", "math.Float64frombits", "math.Float64bits", "math/bits.Sub64"], unfollowed := true, recurses := true, apart := false }
def RiseSplitsSaid : Prop := riseSplitsRow.holds Try.pinned (OpenSpec.ofChange riseSplitsSpec)

/-- ITS FALSE NEIGHBOUR: 'it returns false'. Refute it at one input. -/
def riseSplitsWrong : ChangeSpec := { name := "riseSplits", fn := fun _ => fun
  | [d1, d2] => { results := [.lit (.bool false)], args := [d1, d2] }
  | _ => none }
def RiseSplitsWrongFalsely : Prop := riseSplitsRow.holds Try.pinned (OpenSpec.ofChange riseSplitsWrong)

/-- 'tidepolelaw28.RiseSteady': WHATEVER THE INPUT: true; the input reads as it did. -/
def riseSteadySpec : ChangeSpec := { name := "riseSteady", fn := fun _ => fun
  | [d] => { results := [.lit (.bool true)], args := [d] }
  | _ => none }
def riseSteadyRow : OpenClaim := { program := "ytooiccpmngmapaa", sum := "74e1c51716cd0e49639830506e831226d304d60ac8ae002228e47e3f24f587fb", func := "tidepole/tidepolelaw28.RiseSteady", spec := "riseSteady", inPlace := ["math/bits.Add64", "math.Float64frombits", "math.Float64bits", "math/bits.Sub64"], unfollowed := true, recurses := true, apart := false }
def RiseSteadySaid : Prop := riseSteadyRow.holds Try.pinned (OpenSpec.ofChange riseSteadySpec)

/-- ITS FALSE NEIGHBOUR: 'it returns false'. Refute it at one input. -/
def riseSteadyWrong : ChangeSpec := { name := "riseSteady", fn := fun _ => fun
  | [d] => { results := [.lit (.bool false)], args := [d] }
  | _ => none }
def RiseSteadyWrongFalsely : Prop := riseSteadyRow.holds Try.pinned (OpenSpec.ofChange riseSteadyWrong)

/-- 'tidepolelaw25.ScaleInts': WHATEVER THE INPUT: true; the input reads as it did. -/
def scaleIntsSpec : ChangeSpec := { name := "scaleInts", fn := fun _ => fun
  | [d1, d2] => { results := [.lit (.bool true)], args := [d1, d2] }
  | _ => none }
def scaleIntsRow : OpenClaim := { program := "ytooiccpmngmapaa", sum := "74e1c51716cd0e49639830506e831226d304d60ac8ae002228e47e3f24f587fb", func := "tidepole/tidepolelaw25.ScaleInts", spec := "scaleInts", inPlace := ["math/bits.Add64", "math.Float64bits", "math.Float64frombits"], unfollowed := true, recurses := true, apart := false }
def ScaleIntsSaid : Prop := scaleIntsRow.holds Try.pinned (OpenSpec.ofChange scaleIntsSpec)

/-- ITS FALSE NEIGHBOUR: 'it returns false'. Refute it at one input. -/
def scaleIntsWrong : ChangeSpec := { name := "scaleInts", fn := fun _ => fun
  | [d1, d2] => { results := [.lit (.bool false)], args := [d1, d2] }
  | _ => none }
def ScaleIntsWrongFalsely : Prop := scaleIntsRow.holds Try.pinned (OpenSpec.ofChange scaleIntsWrong)

/-- 'tidepolelaw25.ScaleFloats': WHATEVER THE INPUT: true; the input reads as it did. -/
def scaleFloatsSpec : ChangeSpec := { name := "scaleFloats", fn := fun _ => fun
  | [d1, d2] => { results := [.lit (.bool true)], args := [d1, d2] }
  | _ => none }
def scaleFloatsRow : OpenClaim := { program := "ytooiccpmngmapaa", sum := "74e1c51716cd0e49639830506e831226d304d60ac8ae002228e47e3f24f587fb", func := "tidepole/tidepolelaw25.ScaleFloats", spec := "scaleFloats", inPlace := ["math/bits.Add64", "math.Float64bits", "math.Float64frombits"], unfollowed := true, recurses := true, apart := false }
def ScaleFloatsSaid : Prop := scaleFloatsRow.holds Try.pinned (OpenSpec.ofChange scaleFloatsSpec)

/-- ITS FALSE NEIGHBOUR: 'it returns false'. Refute it at one input. -/
def scaleFloatsWrong : ChangeSpec := { name := "scaleFloats", fn := fun _ => fun
  | [d1, d2] => { results := [.lit (.bool false)], args := [d1, d2] }
  | _ => none }
def ScaleFloatsWrongFalsely : Prop := scaleFloatsRow.holds Try.pinned (OpenSpec.ofChange scaleFloatsWrong)

/-- 'tidepolelaw25.ScaleFits': WHATEVER THE INPUT: true; the input reads as it did. -/
def scaleFitsSpec : ChangeSpec := { name := "scaleFits", fn := fun _ => fun
  | [d1, d2] => { results := [.lit (.bool true)], args := [d1, d2] }
  | _ => none }
def scaleFitsRow : OpenClaim := { program := "ytooiccpmngmapaa", sum := "74e1c51716cd0e49639830506e831226d304d60ac8ae002228e47e3f24f587fb", func := "tidepole/tidepolelaw25.ScaleFits", spec := "scaleFits", inPlace := ["math/bits.Add64", "math.Float64bits", "math.Float64frombits"], unfollowed := true, recurses := true, apart := false }
def ScaleFitsSaid : Prop := scaleFitsRow.holds Try.pinned (OpenSpec.ofChange scaleFitsSpec)

/-- ITS FALSE NEIGHBOUR: 'it returns false'. Refute it at one input. -/
def scaleFitsWrong : ChangeSpec := { name := "scaleFits", fn := fun _ => fun
  | [d1, d2] => { results := [.lit (.bool false)], args := [d1, d2] }
  | _ => none }
def ScaleFitsWrongFalsely : Prop := scaleFitsRow.holds Try.pinned (OpenSpec.ofChange scaleFitsWrong)

/-- 'tidepolelaw27.AddSums': WHATEVER THE INPUT: true; the input reads as it did. -/
def addSumsSpec : ChangeSpec := { name := "addSums", fn := fun _ => fun
  | [d1, d2] => { results := [.lit (.bool true)], args := [d1, d2] }
  | _ => none }
def addSumsRow : OpenClaim := { program := "ytooiccpmngmapaa", sum := "74e1c51716cd0e49639830506e831226d304d60ac8ae002228e47e3f24f587fb", func := "tidepole/tidepolelaw27.AddSums", spec := "addSums", inPlace := ["math.Float64frombits", "math.Float64bits", "math/bits.Add64", "math/bits.Sub64"], unfollowed := true, recurses := true, apart := false }
def AddSumsSaid : Prop := addSumsRow.holds Try.pinned (OpenSpec.ofChange addSumsSpec)

/-- ITS FALSE NEIGHBOUR: 'it returns false'. Refute it at one input. -/
def addSumsWrong : ChangeSpec := { name := "addSums", fn := fun _ => fun
  | [d1, d2] => { results := [.lit (.bool false)], args := [d1, d2] }
  | _ => none }
def AddSumsWrongFalsely : Prop := addSumsRow.holds Try.pinned (OpenSpec.ofChange addSumsWrong)

/-- 'tidepolelaw27.AddInts': WHATEVER THE INPUT: true; the input reads as it did. -/
def addIntsSpec : ChangeSpec := { name := "addInts", fn := fun _ => fun
  | [d1, d2] => { results := [.lit (.bool true)], args := [d1, d2] }
  | _ => none }
def addIntsRow : OpenClaim := { program := "ytooiccpmngmapaa", sum := "74e1c51716cd0e49639830506e831226d304d60ac8ae002228e47e3f24f587fb", func := "tidepole/tidepolelaw27.AddInts", spec := "addInts", inPlace := ["math/bits.Add64", "math.Float64frombits", "math.Float64bits", "math/bits.Sub64"], unfollowed := true, recurses := true, apart := false }
def AddIntsSaid : Prop := addIntsRow.holds Try.pinned (OpenSpec.ofChange addIntsSpec)

/-- ITS FALSE NEIGHBOUR: 'it returns false'. Refute it at one input. -/
def addIntsWrong : ChangeSpec := { name := "addInts", fn := fun _ => fun
  | [d1, d2] => { results := [.lit (.bool false)], args := [d1, d2] }
  | _ => none }
def AddIntsWrongFalsely : Prop := addIntsRow.holds Try.pinned (OpenSpec.ofChange addIntsWrong)

/-- 'tidepolelaw27.AddTurns': WHATEVER THE INPUT: true; the input reads as it did. -/
def addTurnsSpec : ChangeSpec := { name := "addTurns", fn := fun _ => fun
  | [d1, d2] => { results := [.lit (.bool true)], args := [d1, d2] }
  | _ => none }
def addTurnsRow : OpenClaim := { program := "ytooiccpmngmapaa", sum := "74e1c51716cd0e49639830506e831226d304d60ac8ae002228e47e3f24f587fb", func := "tidepole/tidepolelaw27.AddTurns", spec := "addTurns", inPlace := ["math/bits.Add64", "math.Float64frombits", "math.Float64bits", "math/bits.Sub64"], unfollowed := true, recurses := true, apart := false }
def AddTurnsSaid : Prop := addTurnsRow.holds Try.pinned (OpenSpec.ofChange addTurnsSpec)

/-- ITS FALSE NEIGHBOUR: 'it returns false'. Refute it at one input. -/
def addTurnsWrong : ChangeSpec := { name := "addTurns", fn := fun _ => fun
  | [d1, d2] => { results := [.lit (.bool false)], args := [d1, d2] }
  | _ => none }
def AddTurnsWrongFalsely : Prop := addTurnsRow.holds Try.pinned (OpenSpec.ofChange addTurnsWrong)

/-- 'tidepolelaw27.AddJoins': WHATEVER THE INPUT: true; the input reads as it did. -/
def addJoinsSpec : ChangeSpec := { name := "addJoins", fn := fun _ => fun
  | [d1, d2, d3] => { results := [.lit (.bool true)], args := [d1, d2, d3] }
  | _ => none }
def addJoinsRow : OpenClaim := { program := "ytooiccpmngmapaa", sum := "74e1c51716cd0e49639830506e831226d304d60ac8ae002228e47e3f24f587fb", func := "tidepole/tidepolelaw27.AddJoins", spec := "addJoins", inPlace := ["math/bits.Add64", "math.Float64frombits", "math.Float64bits", "math/bits.Sub64"], unfollowed := true, recurses := true, apart := false }
def AddJoinsSaid : Prop := addJoinsRow.holds Try.pinned (OpenSpec.ofChange addJoinsSpec)

/-- ITS FALSE NEIGHBOUR: 'it returns false'. Refute it at one input. -/
def addJoinsWrong : ChangeSpec := { name := "addJoins", fn := fun _ => fun
  | [d1, d2, d3] => { results := [.lit (.bool false)], args := [d1, d2, d3] }
  | _ => none }
def AddJoinsWrongFalsely : Prop := addJoinsRow.holds Try.pinned (OpenSpec.ofChange addJoinsWrong)

/-- 'tidepolelaw27.AddLess': WHATEVER THE INPUT: true; the input reads as it did. -/
def addLessSpec : ChangeSpec := { name := "addLess", fn := fun _ => fun
  | [d1, d2] => { results := [.lit (.bool true)], args := [d1, d2] }
  | _ => none }
def addLessRow : OpenClaim := { program := "ytooiccpmngmapaa", sum := "74e1c51716cd0e49639830506e831226d304d60ac8ae002228e47e3f24f587fb", func := "tidepole/tidepolelaw27.AddLess", spec := "addLess", inPlace := ["math/bits.Add64", "math.Float64frombits", "math.Float64bits", "math/bits.Sub64"], unfollowed := true, recurses := true, apart := false }
def AddLessSaid : Prop := addLessRow.holds Try.pinned (OpenSpec.ofChange addLessSpec)

/-- ITS FALSE NEIGHBOUR: 'it returns false'. Refute it at one input. -/
def addLessWrong : ChangeSpec := { name := "addLess", fn := fun _ => fun
  | [d1, d2] => { results := [.lit (.bool false)], args := [d1, d2] }
  | _ => none }
def AddLessWrongFalsely : Prop := addLessRow.holds Try.pinned (OpenSpec.ofChange addLessWrong)

/-- 'tidepolelaw27.AddBack': WHATEVER THE INPUT: true; the input reads as it did. -/
def addBackSpec : ChangeSpec := { name := "addBack", fn := fun _ => fun
  | [d1, d2] => { results := [.lit (.bool true)], args := [d1, d2] }
  | _ => none }
def addBackRow : OpenClaim := { program := "ytooiccpmngmapaa", sum := "74e1c51716cd0e49639830506e831226d304d60ac8ae002228e47e3f24f587fb", func := "tidepole/tidepolelaw27.AddBack", spec := "addBack", inPlace := ["math/bits.Add64", "math.Float64frombits", "math.Float64bits", "math/bits.Sub64"], unfollowed := true, recurses := true, apart := false }
def AddBackSaid : Prop := addBackRow.holds Try.pinned (OpenSpec.ofChange addBackSpec)

/-- ITS FALSE NEIGHBOUR: 'it returns false'. Refute it at one input. -/
def addBackWrong : ChangeSpec := { name := "addBack", fn := fun _ => fun
  | [d1, d2] => { results := [.lit (.bool false)], args := [d1, d2] }
  | _ => none }
def AddBackWrongFalsely : Prop := addBackRow.holds Try.pinned (OpenSpec.ofChange addBackWrong)

/-- 'tidepolelaw27.AddAll': WHATEVER THE INPUT: true; the input reads as it did. -/
def addAllSpec : ChangeSpec := { name := "addAll", fn := fun _ => fun
  | [d] => { results := [.lit (.bool true)], args := [d] }
  | _ => none }
def addAllRow : OpenClaim := { program := "ytooiccpmngmapaa", sum := "74e1c51716cd0e49639830506e831226d304d60ac8ae002228e47e3f24f587fb", func := "tidepole/tidepolelaw27.AddAll", spec := "addAll", inPlace := ["math/bits.Add64", "math.Float64frombits", "math.Float64bits", "math/bits.Sub64"], unfollowed := true, recurses := true, apart := false }
def AddAllSaid : Prop := addAllRow.holds Try.pinned (OpenSpec.ofChange addAllSpec)

/-- ITS FALSE NEIGHBOUR: 'it returns false'. Refute it at one input. -/
def addAllWrong : ChangeSpec := { name := "addAll", fn := fun _ => fun
  | [d] => { results := [.lit (.bool false)], args := [d] }
  | _ => none }
def AddAllWrongFalsely : Prop := addAllRow.holds Try.pinned (OpenSpec.ofChange addAllWrong)

/-- 'tidepolelaw28.RiseNever': WHATEVER THE INPUT: true; the input reads as it did. -/
def riseNeverSpec : ChangeSpec := { name := "riseNever", fn := fun _ => fun
  | [d] => { results := [.lit (.bool true)], args := [d] }
  | _ => none }
def riseNeverRow : OpenClaim := { program := "ytooiccpmngmapaa", sum := "74e1c51716cd0e49639830506e831226d304d60ac8ae002228e47e3f24f587fb", func := "tidepole/tidepolelaw28.RiseNever", spec := "riseNever", inPlace := ["math/bits.Add64", "math.Float64frombits", "math.Float64bits", "math/bits.Sub64"], unfollowed := true, recurses := true, apart := false }
def RiseNeverSaid : Prop := riseNeverRow.holds Try.pinned (OpenSpec.ofChange riseNeverSpec)

/-- ITS FALSE NEIGHBOUR: 'it returns false'. Refute it at one input. -/
def riseNeverWrong : ChangeSpec := { name := "riseNever", fn := fun _ => fun
  | [d] => { results := [.lit (.bool false)], args := [d] }
  | _ => none }
def RiseNeverWrongFalsely : Prop := riseNeverRow.holds Try.pinned (OpenSpec.ofChange riseNeverWrong)

/- THE SECOND FORM. 'bulk': how many values and letters a reading holds, each counted each time it is reached (what is shared counts as often as it is met; a slice's spare places count too). A statement '..UptoSaid' is the law's where the arguments, and the package variables that the reading takes, are together of bulk at most 1048576: NARROWER than '..Said'. Prove '..Said' where nothing that the law and all that it calls make is longer than what came in: it says more and counts as full. Else prove '..UptoSaid'. A law counts once. -/
mutual
def uptoBulk {H : Type} : DataW H → Nat
  | .lit (.string bytes) => bytes.length + 1
  | .lit _ => 1
  | .nil => 1
  | .ptr d => uptoBulk d + 1
  | .slice elems spare => uptoBulkAll elems + uptoBulkAll spare + 1
  | .agg parts => uptoBulkAll parts + 1
  | .iface _ d => uptoBulk d + 1
  | .map entries => uptoBulkEntries entries + 1
  | .held _ => 1
def uptoBulkAll {H : Type} : List (DataW H) → Nat
  | [] => 0
  | d :: r => uptoBulk d + uptoBulkAll r
def uptoBulkEntries {H : Type} : List (Lit × DataW H) → Nat
  | [] => 0
  | x :: r => uptoBulkEntry x + uptoBulkEntries r
def uptoBulkEntry {H : Type} : Lit × DataW H → Nat
  | (.string bytes, d) => bytes.length + uptoBulk d + 1
  | (_, d) => uptoBulk d + 1
 end
def uptoSmall : (H : Type) → List (DataW H) → Bool := fun _ ds => decide (uptoBulkAll ds ≤ 1048576)
def OpenSpec.upto (s : _root_.Go.ChangeSpec) : _root_.Go.OpenSpec := { _root_.Go.OpenSpec.ofChange s with cond := some uptoSmall }

/-- 'tidepolelaw28.RiseSplits', WHERE WHAT IT READS IS OF BULK AT MOST 1048576: true; the input reads as it did. -/
def riseSplitsUptoRow : OpenClaim := { program := "ytooiccpmngmapaa", sum := "74e1c51716cd0e49639830506e831226d304d60ac8ae002228e47e3f24f587fb", func := "tidepole/tidepolelaw28.RiseSplits", spec := "riseSplits", inPlace := ["math/bits.Add64", "math.Float64frombits", "math.Float64bits", "math/bits.Sub64"], unfollowed := true, recurses := true, apart := false, narrowed := true }
def RiseSplitsUptoSaid : Prop := riseSplitsUptoRow.holds Try.pinned (OpenSpec.upto riseSplitsSpec)

/-- 'tidepolelaw28.RiseSteady', WHERE WHAT IT READS IS OF BULK AT MOST 1048576: true; the input reads as it did. -/
def riseSteadyUptoRow : OpenClaim := { program := "ytooiccpmngmapaa", sum := "74e1c51716cd0e49639830506e831226d304d60ac8ae002228e47e3f24f587fb", func := "tidepole/tidepolelaw28.RiseSteady", spec := "riseSteady", inPlace := ["math/bits.Add64", "math.Float64frombits", "math.Float64bits", "math/bits.Sub64"], unfollowed := true, recurses := true, apart := false, narrowed := true }
def RiseSteadyUptoSaid : Prop := riseSteadyUptoRow.holds Try.pinned (OpenSpec.upto riseSteadySpec)

/-- 'tidepolelaw25.ScaleInts', WHERE WHAT IT READS IS OF BULK AT MOST 1048576: true; the input reads as it did. -/
def scaleIntsUptoRow : OpenClaim := { program := "ytooiccpmngmapaa", sum := "74e1c51716cd0e49639830506e831226d304d60ac8ae002228e47e3f24f587fb", func := "tidepole/tidepolelaw25.ScaleInts", spec := "scaleInts", inPlace := ["math/bits.Add64", "math.Float64bits", "math.Float64frombits"], unfollowed := true, recurses := true, apart := false, narrowed := true }
def ScaleIntsUptoSaid : Prop := scaleIntsUptoRow.holds Try.pinned (OpenSpec.upto scaleIntsSpec)

/-- 'tidepolelaw25.ScaleFloats', WHERE WHAT IT READS IS OF BULK AT MOST 1048576: true; the input reads as it did. -/
def scaleFloatsUptoRow : OpenClaim := { program := "ytooiccpmngmapaa", sum := "74e1c51716cd0e49639830506e831226d304d60ac8ae002228e47e3f24f587fb", func := "tidepole/tidepolelaw25.ScaleFloats", spec := "scaleFloats", inPlace := ["math/bits.Add64", "math.Float64bits", "math.Float64frombits"], unfollowed := true, recurses := true, apart := false, narrowed := true }
def ScaleFloatsUptoSaid : Prop := scaleFloatsUptoRow.holds Try.pinned (OpenSpec.upto scaleFloatsSpec)

/-- 'tidepolelaw25.ScaleFits', WHERE WHAT IT READS IS OF BULK AT MOST 1048576: true; the input reads as it did. -/
def scaleFitsUptoRow : OpenClaim := { program := "ytooiccpmngmapaa", sum := "74e1c51716cd0e49639830506e831226d304d60ac8ae002228e47e3f24f587fb", func := "tidepole/tidepolelaw25.ScaleFits", spec := "scaleFits", inPlace := ["math/bits.Add64", "math.Float64bits", "math.Float64frombits"], unfollowed := true, recurses := true, apart := false, narrowed := true }
def ScaleFitsUptoSaid : Prop := scaleFitsUptoRow.holds Try.pinned (OpenSpec.upto scaleFitsSpec)

/-- 'tidepolelaw27.AddSums', WHERE WHAT IT READS IS OF BULK AT MOST 1048576: true; the input reads as it did. -/
def addSumsUptoRow : OpenClaim := { program := "ytooiccpmngmapaa", sum := "74e1c51716cd0e49639830506e831226d304d60ac8ae002228e47e3f24f587fb", func := "tidepole/tidepolelaw27.AddSums", spec := "addSums", inPlace := ["math.Float64frombits", "math.Float64bits", "math/bits.Add64", "math/bits.Sub64"], unfollowed := true, recurses := true, apart := false, narrowed := true }
def AddSumsUptoSaid : Prop := addSumsUptoRow.holds Try.pinned (OpenSpec.upto addSumsSpec)

/-- 'tidepolelaw27.AddInts', WHERE WHAT IT READS IS OF BULK AT MOST 1048576: true; the input reads as it did. -/
def addIntsUptoRow : OpenClaim := { program := "ytooiccpmngmapaa", sum := "74e1c51716cd0e49639830506e831226d304d60ac8ae002228e47e3f24f587fb", func := "tidepole/tidepolelaw27.AddInts", spec := "addInts", inPlace := ["math/bits.Add64", "math.Float64frombits", "math.Float64bits", "math/bits.Sub64"], unfollowed := true, recurses := true, apart := false, narrowed := true }
def AddIntsUptoSaid : Prop := addIntsUptoRow.holds Try.pinned (OpenSpec.upto addIntsSpec)

/-- 'tidepolelaw27.AddTurns', WHERE WHAT IT READS IS OF BULK AT MOST 1048576: true; the input reads as it did. -/
def addTurnsUptoRow : OpenClaim := { program := "ytooiccpmngmapaa", sum := "74e1c51716cd0e49639830506e831226d304d60ac8ae002228e47e3f24f587fb", func := "tidepole/tidepolelaw27.AddTurns", spec := "addTurns", inPlace := ["math/bits.Add64", "math.Float64frombits", "math.Float64bits", "math/bits.Sub64"], unfollowed := true, recurses := true, apart := false, narrowed := true }
def AddTurnsUptoSaid : Prop := addTurnsUptoRow.holds Try.pinned (OpenSpec.upto addTurnsSpec)

/-- 'tidepolelaw27.AddJoins', WHERE WHAT IT READS IS OF BULK AT MOST 1048576: true; the input reads as it did. -/
def addJoinsUptoRow : OpenClaim := { program := "ytooiccpmngmapaa", sum := "74e1c51716cd0e49639830506e831226d304d60ac8ae002228e47e3f24f587fb", func := "tidepole/tidepolelaw27.AddJoins", spec := "addJoins", inPlace := ["math/bits.Add64", "math.Float64frombits", "math.Float64bits", "math/bits.Sub64"], unfollowed := true, recurses := true, apart := false, narrowed := true }
def AddJoinsUptoSaid : Prop := addJoinsUptoRow.holds Try.pinned (OpenSpec.upto addJoinsSpec)

/-- 'tidepolelaw27.AddLess', WHERE WHAT IT READS IS OF BULK AT MOST 1048576: true; the input reads as it did. -/
def addLessUptoRow : OpenClaim := { program := "ytooiccpmngmapaa", sum := "74e1c51716cd0e49639830506e831226d304d60ac8ae002228e47e3f24f587fb", func := "tidepole/tidepolelaw27.AddLess", spec := "addLess", inPlace := ["math/bits.Add64", "math.Float64frombits", "math.Float64bits", "math/bits.Sub64"], unfollowed := true, recurses := true, apart := false, narrowed := true }
def AddLessUptoSaid : Prop := addLessUptoRow.holds Try.pinned (OpenSpec.upto addLessSpec)

/-- 'tidepolelaw27.AddBack', WHERE WHAT IT READS IS OF BULK AT MOST 1048576: true; the input reads as it did. -/
def addBackUptoRow : OpenClaim := { program := "ytooiccpmngmapaa", sum := "74e1c51716cd0e49639830506e831226d304d60ac8ae002228e47e3f24f587fb", func := "tidepole/tidepolelaw27.AddBack", spec := "addBack", inPlace := ["math/bits.Add64", "math.Float64frombits", "math.Float64bits", "math/bits.Sub64"], unfollowed := true, recurses := true, apart := false, narrowed := true }
def AddBackUptoSaid : Prop := addBackUptoRow.holds Try.pinned (OpenSpec.upto addBackSpec)

/-- 'tidepolelaw27.AddAll', WHERE WHAT IT READS IS OF BULK AT MOST 1048576: true; the input reads as it did. -/
def addAllUptoRow : OpenClaim := { program := "ytooiccpmngmapaa", sum := "74e1c51716cd0e49639830506e831226d304d60ac8ae002228e47e3f24f587fb", func := "tidepole/tidepolelaw27.AddAll", spec := "addAll", inPlace := ["math/bits.Add64", "math.Float64frombits", "math.Float64bits", "math/bits.Sub64"], unfollowed := true, recurses := true, apart := false, narrowed := true }
def AddAllUptoSaid : Prop := addAllUptoRow.holds Try.pinned (OpenSpec.upto addAllSpec)

/-- 'tidepolelaw28.RiseNever', WHERE WHAT IT READS IS OF BULK AT MOST 1048576: true; the input reads as it did. -/
def riseNeverUptoRow : OpenClaim := { program := "ytooiccpmngmapaa", sum := "74e1c51716cd0e49639830506e831226d304d60ac8ae002228e47e3f24f587fb", func := "tidepole/tidepolelaw28.RiseNever", spec := "riseNever", inPlace := ["math/bits.Add64", "math.Float64frombits", "math.Float64bits", "math/bits.Sub64"], unfollowed := true, recurses := true, apart := false, narrowed := true }
def RiseNeverUptoSaid : Prop := riseNeverUptoRow.holds Try.pinned (OpenSpec.upto riseNeverSpec)

end Rows
end Go.Proofs.Ytooiccpmngmapaa
