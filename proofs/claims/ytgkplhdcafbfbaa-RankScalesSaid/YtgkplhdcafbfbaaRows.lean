/-
  No cell of these rows narrows 'for every input' (looked for: loops, veiled, ifaces, maps, wideKeys, modest, calm, conditions, laid).
  DERIVED. THE GIVEN ROWS OF THIS SEAT. 8 by the template 'for every input the law returns true; each argument reads behind the call as it read before'; 0 by the template 'total and deterministic' (their statements: YtgkplhdcafbfbaaTotals.lean).
  GIVEN WITH THE SEED: the statements are not yours to turn. If you find one false, say at which input.
  Laid BY PROGRAM, IN A SANDBOX (cutbox-rows.mjs): the forced cells as the released guide's own fill.sh prints them over the translation 31dfe412e497b3c9… (all of the seat's roots in one cut). By AI agents, Wed Nov 11 2026. No macro, syntax, notation, axiom, sorry.
-/
import Derived.Test.YtgkplhdcafbfbaaChecked
import GoSem.Claim
import GoSem.ClaimJoined
import GoSem.ClaimMapViews
import Derived.JoinedTies
import Derived.KernelRfl
namespace Go.Proofs.Ytgkplhdcafbfbaa
/- THE CELL 'sum', in the pinned program and in every row, IS THE sha256 OF THE DUMP (.gsa) THAT YtgkplhdcafbfbaaProg.lean LOADS. Nothing in Lean hashes anything: it is a label: what it is worth is what the hold of that sum in a sandbox is worth. -/
noncomputable def Try.pinned : Pinned := { name := "ytgkplhdcafbfbaa", sum := "31dfe412e497b3c972b9d79732d35324f1fd1b524bbc6aba8dffbfc45f5020ba", checked := Try.checked }
namespace Rows
def none {H : Type} : Left H := { results := [], args := [] }

/-- 'tidepolelaw25.ScalePlaces': WHATEVER THE INPUT: true; the input reads as it did. -/
def scalePlacesSpec : ChangeSpec := { name := "scalePlaces", fn := fun _ => fun
  | [d1, d2, d3] => { results := [.lit (.bool true)], args := [d1, d2, d3] }
  | _ => none }
def scalePlacesRow : OpenClaim := { program := "ytgkplhdcafbfbaa", sum := "31dfe412e497b3c972b9d79732d35324f1fd1b524bbc6aba8dffbfc45f5020ba", func := "tidepole/tidepolelaw25.ScalePlaces", spec := "scalePlaces", inPlace := ["math/bits.Add64", "math.Float64bits", "math.Float64frombits"], unfollowed := true, recurses := true, apart := false }
def ScalePlacesSaid : Prop := scalePlacesRow.holds Try.pinned (OpenSpec.ofChange scalePlacesSpec)

/-- ITS FALSE NEIGHBOUR: 'it returns false'. Refute it at one input. -/
def scalePlacesWrong : ChangeSpec := { name := "scalePlaces", fn := fun _ => fun
  | [d1, d2, d3] => { results := [.lit (.bool false)], args := [d1, d2, d3] }
  | _ => none }
def ScalePlacesWrongFalsely : Prop := scalePlacesRow.holds Try.pinned (OpenSpec.ofChange scalePlacesWrong)

/-- 'tidepolelaw25.ScaleInts': WHATEVER THE INPUT: true; the input reads as it did. -/
def scaleIntsSpec : ChangeSpec := { name := "scaleInts", fn := fun _ => fun
  | [d1, d2] => { results := [.lit (.bool true)], args := [d1, d2] }
  | _ => none }
def scaleIntsRow : OpenClaim := { program := "ytgkplhdcafbfbaa", sum := "31dfe412e497b3c972b9d79732d35324f1fd1b524bbc6aba8dffbfc45f5020ba", func := "tidepole/tidepolelaw25.ScaleInts", spec := "scaleInts", inPlace := ["math/bits.Add64", "math.Float64bits", "math.Float64frombits"], unfollowed := true, recurses := true, apart := false }
def ScaleIntsSaid : Prop := scaleIntsRow.holds Try.pinned (OpenSpec.ofChange scaleIntsSpec)

/-- ITS FALSE NEIGHBOUR: 'it returns false'. Refute it at one input. -/
def scaleIntsWrong : ChangeSpec := { name := "scaleInts", fn := fun _ => fun
  | [d1, d2] => { results := [.lit (.bool false)], args := [d1, d2] }
  | _ => none }
def ScaleIntsWrongFalsely : Prop := scaleIntsRow.holds Try.pinned (OpenSpec.ofChange scaleIntsWrong)

/-- 'tidepolelaw25.ScaleFloats': WHATEVER THE INPUT: true; the input reads as it did. -/
def scaleFloatsSpec : ChangeSpec := { name := "scaleFloats", fn := fun _ => fun
  | [d1, d2] => { results := [.lit (.bool true)], args := [d1, d2] }
  | _ => none }
def scaleFloatsRow : OpenClaim := { program := "ytgkplhdcafbfbaa", sum := "31dfe412e497b3c972b9d79732d35324f1fd1b524bbc6aba8dffbfc45f5020ba", func := "tidepole/tidepolelaw25.ScaleFloats", spec := "scaleFloats", inPlace := ["math/bits.Add64", "math.Float64bits", "math.Float64frombits"], unfollowed := true, recurses := true, apart := false }
def ScaleFloatsSaid : Prop := scaleFloatsRow.holds Try.pinned (OpenSpec.ofChange scaleFloatsSpec)

/-- ITS FALSE NEIGHBOUR: 'it returns false'. Refute it at one input. -/
def scaleFloatsWrong : ChangeSpec := { name := "scaleFloats", fn := fun _ => fun
  | [d1, d2] => { results := [.lit (.bool false)], args := [d1, d2] }
  | _ => none }
def ScaleFloatsWrongFalsely : Prop := scaleFloatsRow.holds Try.pinned (OpenSpec.ofChange scaleFloatsWrong)

/-- 'tidepolelaw25.ScaleKeeps': WHATEVER THE INPUT: true; the input reads as it did. -/
def scaleKeepsSpec : ChangeSpec := { name := "scaleKeeps", fn := fun _ => fun
  | [d1, d2] => { results := [.lit (.bool true)], args := [d1, d2] }
  | _ => none }
def scaleKeepsRow : OpenClaim := { program := "ytgkplhdcafbfbaa", sum := "31dfe412e497b3c972b9d79732d35324f1fd1b524bbc6aba8dffbfc45f5020ba", func := "tidepole/tidepolelaw25.ScaleKeeps", spec := "scaleKeeps", inPlace := ["math/bits.Add64", "math.Float64bits", "math.Float64frombits"], unfollowed := true, recurses := true, apart := false }
def ScaleKeepsSaid : Prop := scaleKeepsRow.holds Try.pinned (OpenSpec.ofChange scaleKeepsSpec)

/-- ITS FALSE NEIGHBOUR: 'it returns false'. Refute it at one input. -/
def scaleKeepsWrong : ChangeSpec := { name := "scaleKeeps", fn := fun _ => fun
  | [d1, d2] => { results := [.lit (.bool false)], args := [d1, d2] }
  | _ => none }
def ScaleKeepsWrongFalsely : Prop := scaleKeepsRow.holds Try.pinned (OpenSpec.ofChange scaleKeepsWrong)

/-- 'tidepolelaw25.ScaleFits': WHATEVER THE INPUT: true; the input reads as it did. -/
def scaleFitsSpec : ChangeSpec := { name := "scaleFits", fn := fun _ => fun
  | [d1, d2] => { results := [.lit (.bool true)], args := [d1, d2] }
  | _ => none }
def scaleFitsRow : OpenClaim := { program := "ytgkplhdcafbfbaa", sum := "31dfe412e497b3c972b9d79732d35324f1fd1b524bbc6aba8dffbfc45f5020ba", func := "tidepole/tidepolelaw25.ScaleFits", spec := "scaleFits", inPlace := ["math/bits.Add64", "math.Float64bits", "math.Float64frombits"], unfollowed := true, recurses := true, apart := false }
def ScaleFitsSaid : Prop := scaleFitsRow.holds Try.pinned (OpenSpec.ofChange scaleFitsSpec)

/-- ITS FALSE NEIGHBOUR: 'it returns false'. Refute it at one input. -/
def scaleFitsWrong : ChangeSpec := { name := "scaleFits", fn := fun _ => fun
  | [d1, d2] => { results := [.lit (.bool false)], args := [d1, d2] }
  | _ => none }
def ScaleFitsWrongFalsely : Prop := scaleFitsRow.holds Try.pinned (OpenSpec.ofChange scaleFitsWrong)

/-- 'tidepolelaw25.ScaleTwice': WHATEVER THE INPUT: true; the input reads as it did. -/
def scaleTwiceSpec : ChangeSpec := { name := "scaleTwice", fn := fun _ => fun
  | [d1, d2, d3] => { results := [.lit (.bool true)], args := [d1, d2, d3] }
  | _ => none }
def scaleTwiceRow : OpenClaim := { program := "ytgkplhdcafbfbaa", sum := "31dfe412e497b3c972b9d79732d35324f1fd1b524bbc6aba8dffbfc45f5020ba", func := "tidepole/tidepolelaw25.ScaleTwice", spec := "scaleTwice", inPlace := ["math/bits.Add64", "math.Float64bits", "math.Float64frombits"], unfollowed := true, recurses := true, apart := false }
def ScaleTwiceSaid : Prop := scaleTwiceRow.holds Try.pinned (OpenSpec.ofChange scaleTwiceSpec)

/-- ITS FALSE NEIGHBOUR: 'it returns false'. Refute it at one input. -/
def scaleTwiceWrong : ChangeSpec := { name := "scaleTwice", fn := fun _ => fun
  | [d1, d2, d3] => { results := [.lit (.bool false)], args := [d1, d2, d3] }
  | _ => none }
def ScaleTwiceWrongFalsely : Prop := scaleTwiceRow.holds Try.pinned (OpenSpec.ofChange scaleTwiceWrong)

/-- 'tidepolelaw25.ScaleResets': WHATEVER THE INPUT: true; the input reads as it did. -/
def scaleResetsSpec : ChangeSpec := { name := "scaleResets", fn := fun _ => fun
  | [d1, d2, d3] => { results := [.lit (.bool true)], args := [d1, d2, d3] }
  | _ => none }
def scaleResetsRow : OpenClaim := { program := "ytgkplhdcafbfbaa", sum := "31dfe412e497b3c972b9d79732d35324f1fd1b524bbc6aba8dffbfc45f5020ba", func := "tidepole/tidepolelaw25.ScaleResets", spec := "scaleResets", inPlace := ["math/bits.Add64", "math.Float64bits", "math.Float64frombits"], unfollowed := true, recurses := true, apart := false }
def ScaleResetsSaid : Prop := scaleResetsRow.holds Try.pinned (OpenSpec.ofChange scaleResetsSpec)

/-- ITS FALSE NEIGHBOUR: 'it returns false'. Refute it at one input. -/
def scaleResetsWrong : ChangeSpec := { name := "scaleResets", fn := fun _ => fun
  | [d1, d2, d3] => { results := [.lit (.bool false)], args := [d1, d2, d3] }
  | _ => none }
def ScaleResetsWrongFalsely : Prop := scaleResetsRow.holds Try.pinned (OpenSpec.ofChange scaleResetsWrong)

/-- 'tidepolelaw29.RankScales': WHATEVER THE INPUT: true; the input reads as it did. -/
def rankScalesSpec : ChangeSpec := { name := "rankScales", fn := fun _ => fun
  | [d1, d2, d3] => { results := [.lit (.bool true)], args := [d1, d2, d3] }
  | _ => none }
def rankScalesRow : OpenClaim := { program := "ytgkplhdcafbfbaa", sum := "31dfe412e497b3c972b9d79732d35324f1fd1b524bbc6aba8dffbfc45f5020ba", func := "tidepole/tidepolelaw29.RankScales", spec := "rankScales", inPlace := ["math/bits.Add64"], unfollowed := true, recurses := true, named := ["math/bits.divideError", "math/bits.overflowError"], apart := false }
def RankScalesSaid : Prop := rankScalesRow.holds Try.pinned (OpenSpec.ofChange rankScalesSpec)

/-- ITS FALSE NEIGHBOUR: 'it returns false'. Refute it at one input. -/
def rankScalesWrong : ChangeSpec := { name := "rankScales", fn := fun _ => fun
  | [d1, d2, d3] => { results := [.lit (.bool false)], args := [d1, d2, d3] }
  | _ => none }
def RankScalesWrongFalsely : Prop := rankScalesRow.holds Try.pinned (OpenSpec.ofChange rankScalesWrong)

/- THE SECOND FORM. 'bulk': how many values and letters a reading holds, each counted each time it is reached (what is shared counts as often as it is met; a slice's spare places count too). A statement '..UptoSaid' is the law's where the arguments, and the package variables that the reading takes, are together of bulk at most 1048576: NARROWER than '..Said'. Prove '..Said' where nothing that the law and all that it calls make is longer than what came in: it says more and counts as full. Else prove '..UptoSaid'. A law counts once. -/
mutual
def uptoBulk {H : Type} : DataW H → Nat
  | .lit (.string bytes) => bytes.length + 1
  | .lit _ => 1
  | .nil => 1
  | .ptr d => uptoBulk d + 1
  | .slice elems spare => uptoBulkAll elems + uptoBulkAll spare + 1
  | .agg parts => uptoBulkAll parts + 1
  | .iface _ d => uptoBulk d + 1
  | .map entries => uptoBulkEntries entries + 1
  | .held _ => 1
def uptoBulkAll {H : Type} : List (DataW H) → Nat
  | [] => 0
  | d :: r => uptoBulk d + uptoBulkAll r
def uptoBulkEntries {H : Type} : List (Lit × DataW H) → Nat
  | [] => 0
  | x :: r => uptoBulkEntry x + uptoBulkEntries r
def uptoBulkEntry {H : Type} : Lit × DataW H → Nat
  | (.string bytes, d) => bytes.length + uptoBulk d + 1
  | (_, d) => uptoBulk d + 1
 end
def uptoSmall : (H : Type) → List (DataW H) → Bool := fun _ ds => decide (uptoBulkAll ds ≤ 1048576)
def OpenSpec.upto (s : _root_.Go.ChangeSpec) : _root_.Go.OpenSpec := { _root_.Go.OpenSpec.ofChange s with cond := some uptoSmall }

/-- 'tidepolelaw25.ScalePlaces', WHERE WHAT IT READS IS OF BULK AT MOST 1048576: true; the input reads as it did. -/
def scalePlacesUptoRow : OpenClaim := { program := "ytgkplhdcafbfbaa", sum := "31dfe412e497b3c972b9d79732d35324f1fd1b524bbc6aba8dffbfc45f5020ba", func := "tidepole/tidepolelaw25.ScalePlaces", spec := "scalePlaces", inPlace := ["math/bits.Add64", "math.Float64bits", "math.Float64frombits"], unfollowed := true, recurses := true, apart := false, narrowed := true }
def ScalePlacesUptoSaid : Prop := scalePlacesUptoRow.holds Try.pinned (OpenSpec.upto scalePlacesSpec)

/-- 'tidepolelaw25.ScaleInts', WHERE WHAT IT READS IS OF BULK AT MOST 1048576: true; the input reads as it did. -/
def scaleIntsUptoRow : OpenClaim := { program := "ytgkplhdcafbfbaa", sum := "31dfe412e497b3c972b9d79732d35324f1fd1b524bbc6aba8dffbfc45f5020ba", func := "tidepole/tidepolelaw25.ScaleInts", spec := "scaleInts", inPlace := ["math/bits.Add64", "math.Float64bits", "math.Float64frombits"], unfollowed := true, recurses := true, apart := false, narrowed := true }
def ScaleIntsUptoSaid : Prop := scaleIntsUptoRow.holds Try.pinned (OpenSpec.upto scaleIntsSpec)

/-- 'tidepolelaw25.ScaleFloats', WHERE WHAT IT READS IS OF BULK AT MOST 1048576: true; the input reads as it did. -/
def scaleFloatsUptoRow : OpenClaim := { program := "ytgkplhdcafbfbaa", sum := "31dfe412e497b3c972b9d79732d35324f1fd1b524bbc6aba8dffbfc45f5020ba", func := "tidepole/tidepolelaw25.ScaleFloats", spec := "scaleFloats", inPlace := ["math/bits.Add64", "math.Float64bits", "math.Float64frombits"], unfollowed := true, recurses := true, apart := false, narrowed := true }
def ScaleFloatsUptoSaid : Prop := scaleFloatsUptoRow.holds Try.pinned (OpenSpec.upto scaleFloatsSpec)

/-- 'tidepolelaw25.ScaleKeeps', WHERE WHAT IT READS IS OF BULK AT MOST 1048576: true; the input reads as it did. -/
def scaleKeepsUptoRow : OpenClaim := { program := "ytgkplhdcafbfbaa", sum := "31dfe412e497b3c972b9d79732d35324f1fd1b524bbc6aba8dffbfc45f5020ba", func := "tidepole/tidepolelaw25.ScaleKeeps", spec := "scaleKeeps", inPlace := ["math/bits.Add64", "math.Float64bits", "math.Float64frombits"], unfollowed := true, recurses := true, apart := false, narrowed := true }
def ScaleKeepsUptoSaid : Prop := scaleKeepsUptoRow.holds Try.pinned (OpenSpec.upto scaleKeepsSpec)

/-- 'tidepolelaw25.ScaleFits', WHERE WHAT IT READS IS OF BULK AT MOST 1048576: true; the input reads as it did. -/
def scaleFitsUptoRow : OpenClaim := { program := "ytgkplhdcafbfbaa", sum := "31dfe412e497b3c972b9d79732d35324f1fd1b524bbc6aba8dffbfc45f5020ba", func := "tidepole/tidepolelaw25.ScaleFits", spec := "scaleFits", inPlace := ["math/bits.Add64", "math.Float64bits", "math.Float64frombits"], unfollowed := true, recurses := true, apart := false, narrowed := true }
def ScaleFitsUptoSaid : Prop := scaleFitsUptoRow.holds Try.pinned (OpenSpec.upto scaleFitsSpec)

/-- 'tidepolelaw25.ScaleTwice', WHERE WHAT IT READS IS OF BULK AT MOST 1048576: true; the input reads as it did. -/
def scaleTwiceUptoRow : OpenClaim := { program := "ytgkplhdcafbfbaa", sum := "31dfe412e497b3c972b9d79732d35324f1fd1b524bbc6aba8dffbfc45f5020ba", func := "tidepole/tidepolelaw25.ScaleTwice", spec := "scaleTwice", inPlace := ["math/bits.Add64", "math.Float64bits", "math.Float64frombits"], unfollowed := true, recurses := true, apart := false, narrowed := true }
def ScaleTwiceUptoSaid : Prop := scaleTwiceUptoRow.holds Try.pinned (OpenSpec.upto scaleTwiceSpec)

/-- 'tidepolelaw25.ScaleResets', WHERE WHAT IT READS IS OF BULK AT MOST 1048576: true; the input reads as it did. -/
def scaleResetsUptoRow : OpenClaim := { program := "ytgkplhdcafbfbaa", sum := "31dfe412e497b3c972b9d79732d35324f1fd1b524bbc6aba8dffbfc45f5020ba", func := "tidepole/tidepolelaw25.ScaleResets", spec := "scaleResets", inPlace := ["math/bits.Add64", "math.Float64bits", "math.Float64frombits"], unfollowed := true, recurses := true, apart := false, narrowed := true }
def ScaleResetsUptoSaid : Prop := scaleResetsUptoRow.holds Try.pinned (OpenSpec.upto scaleResetsSpec)

/-- 'tidepolelaw29.RankScales', WHERE WHAT IT READS IS OF BULK AT MOST 1048576: true; the input reads as it did. -/
def rankScalesUptoRow : OpenClaim := { program := "ytgkplhdcafbfbaa", sum := "31dfe412e497b3c972b9d79732d35324f1fd1b524bbc6aba8dffbfc45f5020ba", func := "tidepole/tidepolelaw29.RankScales", spec := "rankScales", inPlace := ["math/bits.Add64"], unfollowed := true, recurses := true, named := ["math/bits.divideError", "math/bits.overflowError"], apart := false, narrowed := true }
def RankScalesUptoSaid : Prop := rankScalesUptoRow.holds Try.pinned (OpenSpec.upto rankScalesSpec)

end Rows
end Go.Proofs.Ytgkplhdcafbfbaa
