/-
  No cell of these rows narrows 'for every input' (looked for: loops, veiled, ifaces, maps, wideKeys, modest, calm, conditions, laid).
  DERIVED. THE GIVEN ROWS OF THIS SEAT. 12 by the template 'for every input the law returns true; each argument reads behind the call as it read before'; 0 by the template 'total and deterministic' (their statements: YtcabapilejagkaaTotals.lean).
  GIVEN WITH THE SEED: the statements are not yours to turn. If you find one false, say at which input.
  Laid BY PROGRAM, IN A SANDBOX (cutbox-rows.mjs): the forced cells as the released guide's own fill.sh prints them over the translation be10d62baec75b16… (all of the seat's roots in one cut). By AI agents, Wed Nov 11 2026. No macro, syntax, notation, axiom, sorry.
-/
import Derived.Test.YtcabapilejagkaaChecked
import GoSem.Claim
import GoSem.ClaimJoined
import GoSem.ClaimMapViews
import Derived.JoinedTies
import Derived.KernelRfl
namespace Go.Proofs.Ytcabapilejagkaa
/- THE CELL 'sum', in the pinned program and in every row, IS THE sha256 OF THE DUMP (.gsa) THAT YtcabapilejagkaaProg.lean LOADS. Nothing in Lean hashes anything: it is a label: what it is worth is what the hold of that sum in a sandbox is worth. -/
noncomputable def Try.pinned : Pinned := { name := "ytcabapilejagkaa", sum := "be10d62baec75b160c89f4f701923cf2160a027a23712283894defed943f99b3", checked := Try.checked }
namespace Rows
def none {H : Type} : Left H := { results := [], args := [] }

/-- 'tidepolelaw07.PairsMerge': WHATEVER THE INPUT: true; the input reads as it did. -/
def pairsMergeSpec : ChangeSpec := { name := "pairsMerge", fn := fun _ => fun
  | [d1, d2] => { results := [.lit (.bool true)], args := [d1, d2] }
  | _ => none }
def pairsMergeRow : OpenClaim := { program := "ytcabapilejagkaa", sum := "be10d62baec75b160c89f4f701923cf2160a027a23712283894defed943f99b3", func := "tidepole/tidepolelaw07.PairsMerge", spec := "pairsMerge", unfollowed := true, recurses := true, apart := false }
def PairsMergeSaid : Prop := pairsMergeRow.holds Try.pinned (OpenSpec.ofChange pairsMergeSpec)

/-- ITS FALSE NEIGHBOUR: 'it returns false'. Refute it at one input. -/
def pairsMergeWrong : ChangeSpec := { name := "pairsMerge", fn := fun _ => fun
  | [d1, d2] => { results := [.lit (.bool false)], args := [d1, d2] }
  | _ => none }
def PairsMergeWrongFalsely : Prop := pairsMergeRow.holds Try.pinned (OpenSpec.ofChange pairsMergeWrong)

/-- 'tidepolelaw11.ResetBoth': WHATEVER THE INPUT: true; the input reads as it did. -/
def resetBothSpec : ChangeSpec := { name := "resetBoth", fn := fun _ => fun
  | [d1, d2] => { results := [.lit (.bool true)], args := [d1, d2] }
  | _ => none }
def resetBothRow : OpenClaim := { program := "ytcabapilejagkaa", sum := "be10d62baec75b160c89f4f701923cf2160a027a23712283894defed943f99b3", func := "tidepole/tidepolelaw11.ResetBoth", spec := "resetBoth", inPlace := ["math/bits.Add64", "math.Float64bits"], unfollowed := true, recurses := true, apart := false }
def ResetBothSaid : Prop := resetBothRow.holds Try.pinned (OpenSpec.ofChange resetBothSpec)

/-- ITS FALSE NEIGHBOUR: 'it returns false'. Refute it at one input. -/
def resetBothWrong : ChangeSpec := { name := "resetBoth", fn := fun _ => fun
  | [d1, d2] => { results := [.lit (.bool false)], args := [d1, d2] }
  | _ => none }
def ResetBothWrongFalsely : Prop := resetBothRow.holds Try.pinned (OpenSpec.ofChange resetBothWrong)

/-- 'tidepolelaw09.HistWalks': WHATEVER THE INPUT: true; the input reads as it did. -/
def histWalksSpec : ChangeSpec := { name := "histWalks", fn := fun _ => fun
  | [d1, d2] => { results := [.lit (.bool true)], args := [d1, d2] }
  | _ => none }
def histWalksRow : OpenClaim := { program := "ytcabapilejagkaa", sum := "be10d62baec75b160c89f4f701923cf2160a027a23712283894defed943f99b3", func := "tidepole/tidepolelaw09.HistWalks", spec := "histWalks", inPlace := ["math/bits.Add64"], unfollowed := true, recurses := true, apart := false }
def HistWalksSaid : Prop := histWalksRow.holds Try.pinned (OpenSpec.ofChange histWalksSpec)

/-- ITS FALSE NEIGHBOUR: 'it returns false'. Refute it at one input. -/
def histWalksWrong : ChangeSpec := { name := "histWalks", fn := fun _ => fun
  | [d1, d2] => { results := [.lit (.bool false)], args := [d1, d2] }
  | _ => none }
def HistWalksWrongFalsely : Prop := histWalksRow.holds Try.pinned (OpenSpec.ofChange histWalksWrong)

/-- 'tidepolelaw29.RankAt': WHATEVER THE INPUT: true; the input reads as it did. -/
def rankAtSpec : ChangeSpec := { name := "rankAt", fn := fun _ => fun
  | [d1, d2] => { results := [.lit (.bool true)], args := [d1, d2] }
  | _ => none }
def rankAtRow : OpenClaim := { program := "ytcabapilejagkaa", sum := "be10d62baec75b160c89f4f701923cf2160a027a23712283894defed943f99b3", func := "tidepole/tidepolelaw29.RankAt", spec := "rankAt", inPlace := ["math/bits.Add64"], unfollowed := true, recurses := true, named := ["math/bits.divideError", "math/bits.overflowError"], apart := false }
def RankAtSaid : Prop := rankAtRow.holds Try.pinned (OpenSpec.ofChange rankAtSpec)

/-- ITS FALSE NEIGHBOUR: 'it returns false'. Refute it at one input. -/
def rankAtWrong : ChangeSpec := { name := "rankAt", fn := fun _ => fun
  | [d1, d2] => { results := [.lit (.bool false)], args := [d1, d2] }
  | _ => none }
def RankAtWrongFalsely : Prop := rankAtRow.holds Try.pinned (OpenSpec.ofChange rankAtWrong)

/-- 'tidepolelaw29.RankBelow': WHATEVER THE INPUT: true; the input reads as it did. -/
def rankBelowSpec : ChangeSpec := { name := "rankBelow", fn := fun _ => fun
  | [d1, d2, d3] => { results := [.lit (.bool true)], args := [d1, d2, d3] }
  | _ => none }
def rankBelowRow : OpenClaim := { program := "ytcabapilejagkaa", sum := "be10d62baec75b160c89f4f701923cf2160a027a23712283894defed943f99b3", func := "tidepole/tidepolelaw29.RankBelow", spec := "rankBelow", inPlace := ["math/bits.Add64"], unfollowed := true, recurses := true, named := ["math/bits.divideError", "math/bits.overflowError"], apart := false }
def RankBelowSaid : Prop := rankBelowRow.holds Try.pinned (OpenSpec.ofChange rankBelowSpec)

/-- ITS FALSE NEIGHBOUR: 'it returns false'. Refute it at one input. -/
def rankBelowWrong : ChangeSpec := { name := "rankBelow", fn := fun _ => fun
  | [d1, d2, d3] => { results := [.lit (.bool false)], args := [d1, d2, d3] }
  | _ => none }
def RankBelowWrongFalsely : Prop := rankBelowRow.holds Try.pinned (OpenSpec.ofChange rankBelowWrong)

/-- 'tidepolelaw29.RankFirst': WHATEVER THE INPUT: true; the input reads as it did. -/
def rankFirstSpec : ChangeSpec := { name := "rankFirst", fn := fun _ => fun
  | [d1, d2] => { results := [.lit (.bool true)], args := [d1, d2] }
  | _ => none }
def rankFirstRow : OpenClaim := { program := "ytcabapilejagkaa", sum := "be10d62baec75b160c89f4f701923cf2160a027a23712283894defed943f99b3", func := "tidepole/tidepolelaw29.RankFirst", spec := "rankFirst", inPlace := ["math/bits.Add64"], unfollowed := true, recurses := true, named := ["math/bits.divideError", "math/bits.overflowError"], apart := false }
def RankFirstSaid : Prop := rankFirstRow.holds Try.pinned (OpenSpec.ofChange rankFirstSpec)

/-- ITS FALSE NEIGHBOUR: 'it returns false'. Refute it at one input. -/
def rankFirstWrong : ChangeSpec := { name := "rankFirst", fn := fun _ => fun
  | [d1, d2] => { results := [.lit (.bool false)], args := [d1, d2] }
  | _ => none }
def RankFirstWrongFalsely : Prop := rankFirstRow.holds Try.pinned (OpenSpec.ofChange rankFirstWrong)

/-- 'tidepolelaw29.RankRises': WHATEVER THE INPUT: true; the input reads as it did. -/
def rankRisesSpec : ChangeSpec := { name := "rankRises", fn := fun _ => fun
  | [d1, d2, d3] => { results := [.lit (.bool true)], args := [d1, d2, d3] }
  | _ => none }
def rankRisesRow : OpenClaim := { program := "ytcabapilejagkaa", sum := "be10d62baec75b160c89f4f701923cf2160a027a23712283894defed943f99b3", func := "tidepole/tidepolelaw29.RankRises", spec := "rankRises", inPlace := ["math/bits.Add64"], unfollowed := true, recurses := true, named := ["math/bits.divideError", "math/bits.overflowError"], apart := false }
def RankRisesSaid : Prop := rankRisesRow.holds Try.pinned (OpenSpec.ofChange rankRisesSpec)

/-- ITS FALSE NEIGHBOUR: 'it returns false'. Refute it at one input. -/
def rankRisesWrong : ChangeSpec := { name := "rankRises", fn := fun _ => fun
  | [d1, d2, d3] => { results := [.lit (.bool false)], args := [d1, d2, d3] }
  | _ => none }
def RankRisesWrongFalsely : Prop := rankRisesRow.holds Try.pinned (OpenSpec.ofChange rankRisesWrong)

/-- 'tidepolelaw29.RankParts': WHATEVER THE INPUT: true; the input reads as it did. -/
def rankPartsSpec : ChangeSpec := { name := "rankParts", fn := fun _ => fun
  | [d1, d2, d3] => { results := [.lit (.bool true)], args := [d1, d2, d3] }
  | _ => none }
def rankPartsRow : OpenClaim := { program := "ytcabapilejagkaa", sum := "be10d62baec75b160c89f4f701923cf2160a027a23712283894defed943f99b3", func := "tidepole/tidepolelaw29.RankParts", spec := "rankParts", inPlace := ["math/bits.Add64"], unfollowed := true, recurses := true, named := ["math/bits.divideError", "math/bits.overflowError"], apart := false }
def RankPartsSaid : Prop := rankPartsRow.holds Try.pinned (OpenSpec.ofChange rankPartsSpec)

/-- ITS FALSE NEIGHBOUR: 'it returns false'. Refute it at one input. -/
def rankPartsWrong : ChangeSpec := { name := "rankParts", fn := fun _ => fun
  | [d1, d2, d3] => { results := [.lit (.bool false)], args := [d1, d2, d3] }
  | _ => none }
def RankPartsWrongFalsely : Prop := rankPartsRow.holds Try.pinned (OpenSpec.ofChange rankPartsWrong)

/-- 'tidepolelaw29.RankQuantiles': WHATEVER THE INPUT: true; the input reads as it did. -/
def rankQuantilesSpec : ChangeSpec := { name := "rankQuantiles", fn := fun _ => fun
  | [d1, d2, d3] => { results := [.lit (.bool true)], args := [d1, d2, d3] }
  | _ => none }
def rankQuantilesRow : OpenClaim := { program := "ytcabapilejagkaa", sum := "be10d62baec75b160c89f4f701923cf2160a027a23712283894defed943f99b3", func := "tidepole/tidepolelaw29.RankQuantiles", spec := "rankQuantiles", inPlace := ["math/bits.Add64"], unfollowed := true, recurses := true, named := ["math/bits.divideError", "math/bits.overflowError"], apart := false }
def RankQuantilesSaid : Prop := rankQuantilesRow.holds Try.pinned (OpenSpec.ofChange rankQuantilesSpec)

/-- ITS FALSE NEIGHBOUR: 'it returns false'. Refute it at one input. -/
def rankQuantilesWrong : ChangeSpec := { name := "rankQuantiles", fn := fun _ => fun
  | [d1, d2, d3] => { results := [.lit (.bool false)], args := [d1, d2, d3] }
  | _ => none }
def RankQuantilesWrongFalsely : Prop := rankQuantilesRow.holds Try.pinned (OpenSpec.ofChange rankQuantilesWrong)

/-- 'tidepolelaw10.FhistFloats': WHATEVER THE INPUT: true; the input reads as it did. -/
def fhistFloatsSpec : ChangeSpec := { name := "fhistFloats", fn := fun _ => fun
  | [d1, d2, d3] => { results := [.lit (.bool true)], args := [d1, d2, d3] }
  | _ => none }
def fhistFloatsRow : OpenClaim := { program := "ytcabapilejagkaa", sum := "be10d62baec75b160c89f4f701923cf2160a027a23712283894defed943f99b3", func := "tidepole/tidepolelaw10.FhistFloats", spec := "fhistFloats", inPlace := ["math.Float64frombits", "math.archTrunc", "math.Float64bits", "math/bits.Add64"], unfollowed := true, recurses := true, apart := false }
def FhistFloatsSaid : Prop := fhistFloatsRow.holds Try.pinned (OpenSpec.ofChange fhistFloatsSpec)

/-- ITS FALSE NEIGHBOUR: 'it returns false'. Refute it at one input. -/
def fhistFloatsWrong : ChangeSpec := { name := "fhistFloats", fn := fun _ => fun
  | [d1, d2, d3] => { results := [.lit (.bool false)], args := [d1, d2, d3] }
  | _ => none }
def FhistFloatsWrongFalsely : Prop := fhistFloatsRow.holds Try.pinned (OpenSpec.ofChange fhistFloatsWrong)

/-- 'tidepolelaw10.FhistBack': WHATEVER THE INPUT: true; the input reads as it did. -/
def fhistBackSpec : ChangeSpec := { name := "fhistBack", fn := fun _ => fun
  | [d] => { results := [.lit (.bool true)], args := [d] }
  | _ => none }
def fhistBackRow : OpenClaim := { program := "ytcabapilejagkaa", sum := "be10d62baec75b160c89f4f701923cf2160a027a23712283894defed943f99b3", func := "tidepole/tidepolelaw10.FhistBack", spec := "fhistBack", inPlace := ["math.Float64frombits", "math.archTrunc", "math.Float64bits", "math/bits.Add64"], unfollowed := true, recurses := true, apart := false }
def FhistBackSaid : Prop := fhistBackRow.holds Try.pinned (OpenSpec.ofChange fhistBackSpec)

/-- ITS FALSE NEIGHBOUR: 'it returns false'. Refute it at one input. -/
def fhistBackWrong : ChangeSpec := { name := "fhistBack", fn := fun _ => fun
  | [d] => { results := [.lit (.bool false)], args := [d] }
  | _ => none }
def FhistBackWrongFalsely : Prop := fhistBackRow.holds Try.pinned (OpenSpec.ofChange fhistBackWrong)

/-- 'tidepolelaw10.FhistFrom': WHATEVER THE INPUT: true; the input reads as it did. -/
def fhistFromSpec : ChangeSpec := { name := "fhistFrom", fn := fun _ => fun
  | [d] => { results := [.lit (.bool true)], args := [d] }
  | _ => none }
def fhistFromRow : OpenClaim := { program := "ytcabapilejagkaa", sum := "be10d62baec75b160c89f4f701923cf2160a027a23712283894defed943f99b3", func := "tidepole/tidepolelaw10.FhistFrom", spec := "fhistFrom", inPlace := ["math.Float64frombits", "math.archTrunc", "math.Float64bits", "math/bits.Add64"], unfollowed := true, recurses := true, apart := false }
def FhistFromSaid : Prop := fhistFromRow.holds Try.pinned (OpenSpec.ofChange fhistFromSpec)

/-- ITS FALSE NEIGHBOUR: 'it returns false'. Refute it at one input. -/
def fhistFromWrong : ChangeSpec := { name := "fhistFrom", fn := fun _ => fun
  | [d] => { results := [.lit (.bool false)], args := [d] }
  | _ => none }
def FhistFromWrongFalsely : Prop := fhistFromRow.holds Try.pinned (OpenSpec.ofChange fhistFromWrong)

/- THE SECOND FORM. 'bulk': how many values and letters a reading holds, each counted each time it is reached (what is shared counts as often as it is met; a slice's spare places count too). A statement '..UptoSaid' is the law's where the arguments, and the package variables that the reading takes, are together of bulk at most 1048576: NARROWER than '..Said'. Prove '..Said' where nothing that the law and all that it calls make is longer than what came in: it says more and counts as full. Else prove '..UptoSaid'. A law counts once. -/
mutual
def uptoBulk {H : Type} : DataW H → Nat
  | .lit (.string bytes) => bytes.length + 1
  | .lit _ => 1
  | .nil => 1
  | .ptr d => uptoBulk d + 1
  | .slice elems spare => uptoBulkAll elems + uptoBulkAll spare + 1
  | .agg parts => uptoBulkAll parts + 1
  | .iface _ d => uptoBulk d + 1
  | .map entries => uptoBulkEntries entries + 1
  | .held _ => 1
def uptoBulkAll {H : Type} : List (DataW H) → Nat
  | [] => 0
  | d :: r => uptoBulk d + uptoBulkAll r
def uptoBulkEntries {H : Type} : List (Lit × DataW H) → Nat
  | [] => 0
  | x :: r => uptoBulkEntry x + uptoBulkEntries r
def uptoBulkEntry {H : Type} : Lit × DataW H → Nat
  | (.string bytes, d) => bytes.length + uptoBulk d + 1
  | (_, d) => uptoBulk d + 1
 end
def uptoSmall : (H : Type) → List (DataW H) → Bool := fun _ ds => decide (uptoBulkAll ds ≤ 1048576)
def OpenSpec.upto (s : _root_.Go.ChangeSpec) : _root_.Go.OpenSpec := { _root_.Go.OpenSpec.ofChange s with cond := some uptoSmall }

/-- 'tidepolelaw07.PairsMerge', WHERE WHAT IT READS IS OF BULK AT MOST 1048576: true; the input reads as it did. -/
def pairsMergeUptoRow : OpenClaim := { program := "ytcabapilejagkaa", sum := "be10d62baec75b160c89f4f701923cf2160a027a23712283894defed943f99b3", func := "tidepole/tidepolelaw07.PairsMerge", spec := "pairsMerge", unfollowed := true, recurses := true, apart := false, narrowed := true }
def PairsMergeUptoSaid : Prop := pairsMergeUptoRow.holds Try.pinned (OpenSpec.upto pairsMergeSpec)

/-- 'tidepolelaw11.ResetBoth', WHERE WHAT IT READS IS OF BULK AT MOST 1048576: true; the input reads as it did. -/
def resetBothUptoRow : OpenClaim := { program := "ytcabapilejagkaa", sum := "be10d62baec75b160c89f4f701923cf2160a027a23712283894defed943f99b3", func := "tidepole/tidepolelaw11.ResetBoth", spec := "resetBoth", inPlace := ["math/bits.Add64", "math.Float64bits"], unfollowed := true, recurses := true, apart := false, narrowed := true }
def ResetBothUptoSaid : Prop := resetBothUptoRow.holds Try.pinned (OpenSpec.upto resetBothSpec)

/-- 'tidepolelaw09.HistWalks', WHERE WHAT IT READS IS OF BULK AT MOST 1048576: true; the input reads as it did. -/
def histWalksUptoRow : OpenClaim := { program := "ytcabapilejagkaa", sum := "be10d62baec75b160c89f4f701923cf2160a027a23712283894defed943f99b3", func := "tidepole/tidepolelaw09.HistWalks", spec := "histWalks", inPlace := ["math/bits.Add64"], unfollowed := true, recurses := true, apart := false, narrowed := true }
def HistWalksUptoSaid : Prop := histWalksUptoRow.holds Try.pinned (OpenSpec.upto histWalksSpec)

/-- 'tidepolelaw29.RankAt', WHERE WHAT IT READS IS OF BULK AT MOST 1048576: true; the input reads as it did. -/
def rankAtUptoRow : OpenClaim := { program := "ytcabapilejagkaa", sum := "be10d62baec75b160c89f4f701923cf2160a027a23712283894defed943f99b3", func := "tidepole/tidepolelaw29.RankAt", spec := "rankAt", inPlace := ["math/bits.Add64"], unfollowed := true, recurses := true, named := ["math/bits.divideError", "math/bits.overflowError"], apart := false, narrowed := true }
def RankAtUptoSaid : Prop := rankAtUptoRow.holds Try.pinned (OpenSpec.upto rankAtSpec)

/-- 'tidepolelaw29.RankBelow', WHERE WHAT IT READS IS OF BULK AT MOST 1048576: true; the input reads as it did. -/
def rankBelowUptoRow : OpenClaim := { program := "ytcabapilejagkaa", sum := "be10d62baec75b160c89f4f701923cf2160a027a23712283894defed943f99b3", func := "tidepole/tidepolelaw29.RankBelow", spec := "rankBelow", inPlace := ["math/bits.Add64"], unfollowed := true, recurses := true, named := ["math/bits.divideError", "math/bits.overflowError"], apart := false, narrowed := true }
def RankBelowUptoSaid : Prop := rankBelowUptoRow.holds Try.pinned (OpenSpec.upto rankBelowSpec)

/-- 'tidepolelaw29.RankFirst', WHERE WHAT IT READS IS OF BULK AT MOST 1048576: true; the input reads as it did. -/
def rankFirstUptoRow : OpenClaim := { program := "ytcabapilejagkaa", sum := "be10d62baec75b160c89f4f701923cf2160a027a23712283894defed943f99b3", func := "tidepole/tidepolelaw29.RankFirst", spec := "rankFirst", inPlace := ["math/bits.Add64"], unfollowed := true, recurses := true, named := ["math/bits.divideError", "math/bits.overflowError"], apart := false, narrowed := true }
def RankFirstUptoSaid : Prop := rankFirstUptoRow.holds Try.pinned (OpenSpec.upto rankFirstSpec)

/-- 'tidepolelaw29.RankRises', WHERE WHAT IT READS IS OF BULK AT MOST 1048576: true; the input reads as it did. -/
def rankRisesUptoRow : OpenClaim := { program := "ytcabapilejagkaa", sum := "be10d62baec75b160c89f4f701923cf2160a027a23712283894defed943f99b3", func := "tidepole/tidepolelaw29.RankRises", spec := "rankRises", inPlace := ["math/bits.Add64"], unfollowed := true, recurses := true, named := ["math/bits.divideError", "math/bits.overflowError"], apart := false, narrowed := true }
def RankRisesUptoSaid : Prop := rankRisesUptoRow.holds Try.pinned (OpenSpec.upto rankRisesSpec)

/-- 'tidepolelaw29.RankParts', WHERE WHAT IT READS IS OF BULK AT MOST 1048576: true; the input reads as it did. -/
def rankPartsUptoRow : OpenClaim := { program := "ytcabapilejagkaa", sum := "be10d62baec75b160c89f4f701923cf2160a027a23712283894defed943f99b3", func := "tidepole/tidepolelaw29.RankParts", spec := "rankParts", inPlace := ["math/bits.Add64"], unfollowed := true, recurses := true, named := ["math/bits.divideError", "math/bits.overflowError"], apart := false, narrowed := true }
def RankPartsUptoSaid : Prop := rankPartsUptoRow.holds Try.pinned (OpenSpec.upto rankPartsSpec)

/-- 'tidepolelaw29.RankQuantiles', WHERE WHAT IT READS IS OF BULK AT MOST 1048576: true; the input reads as it did. -/
def rankQuantilesUptoRow : OpenClaim := { program := "ytcabapilejagkaa", sum := "be10d62baec75b160c89f4f701923cf2160a027a23712283894defed943f99b3", func := "tidepole/tidepolelaw29.RankQuantiles", spec := "rankQuantiles", inPlace := ["math/bits.Add64"], unfollowed := true, recurses := true, named := ["math/bits.divideError", "math/bits.overflowError"], apart := false, narrowed := true }
def RankQuantilesUptoSaid : Prop := rankQuantilesUptoRow.holds Try.pinned (OpenSpec.upto rankQuantilesSpec)

/-- 'tidepolelaw10.FhistFloats', WHERE WHAT IT READS IS OF BULK AT MOST 1048576: true; the input reads as it did. -/
def fhistFloatsUptoRow : OpenClaim := { program := "ytcabapilejagkaa", sum := "be10d62baec75b160c89f4f701923cf2160a027a23712283894defed943f99b3", func := "tidepole/tidepolelaw10.FhistFloats", spec := "fhistFloats", inPlace := ["math.Float64frombits", "math.archTrunc", "math.Float64bits", "math/bits.Add64"], unfollowed := true, recurses := true, apart := false, narrowed := true }
def FhistFloatsUptoSaid : Prop := fhistFloatsUptoRow.holds Try.pinned (OpenSpec.upto fhistFloatsSpec)

/-- 'tidepolelaw10.FhistBack', WHERE WHAT IT READS IS OF BULK AT MOST 1048576: true; the input reads as it did. -/
def fhistBackUptoRow : OpenClaim := { program := "ytcabapilejagkaa", sum := "be10d62baec75b160c89f4f701923cf2160a027a23712283894defed943f99b3", func := "tidepole/tidepolelaw10.FhistBack", spec := "fhistBack", inPlace := ["math.Float64frombits", "math.archTrunc", "math.Float64bits", "math/bits.Add64"], unfollowed := true, recurses := true, apart := false, narrowed := true }
def FhistBackUptoSaid : Prop := fhistBackUptoRow.holds Try.pinned (OpenSpec.upto fhistBackSpec)

/-- 'tidepolelaw10.FhistFrom', WHERE WHAT IT READS IS OF BULK AT MOST 1048576: true; the input reads as it did. -/
def fhistFromUptoRow : OpenClaim := { program := "ytcabapilejagkaa", sum := "be10d62baec75b160c89f4f701923cf2160a027a23712283894defed943f99b3", func := "tidepole/tidepolelaw10.FhistFrom", spec := "fhistFrom", inPlace := ["math.Float64frombits", "math.archTrunc", "math.Float64bits", "math/bits.Add64"], unfollowed := true, recurses := true, apart := false, narrowed := true }
def FhistFromUptoSaid : Prop := fhistFromUptoRow.holds Try.pinned (OpenSpec.upto fhistFromSpec)

end Rows
end Go.Proofs.Ytcabapilejagkaa
