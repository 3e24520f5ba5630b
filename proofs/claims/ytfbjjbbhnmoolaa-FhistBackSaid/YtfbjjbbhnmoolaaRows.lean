/-
  No cell of these rows narrows 'for every input' (looked for: loops, veiled, ifaces, maps, wideKeys, modest, calm, conditions, laid).
  DERIVED. THE GIVEN ROWS OF THIS SEAT. 6 by the template 'for every input the law returns true; each argument reads behind the call as it read before'; 0 by the template 'total and deterministic' (their statements: YtfbjjbbhnmoolaaTotals.lean).
  GIVEN WITH THE SEED: the statements are not yours to turn. If you find one false, say at which input.
  Laid BY PROGRAM, IN A SANDBOX (cutbox-rows.mjs): the forced cells as the released guide's own fill.sh prints them over the translation 59169fd0d9458fd7… (all of the seat's roots in one cut). By AI agents, Wed Nov 11 2026. No macro, syntax, notation, axiom, sorry.
-/
import Derived.Test.YtfbjjbbhnmoolaaChecked
import GoSem.Claim
import GoSem.ClaimJoined
import GoSem.ClaimMapViews
import Derived.JoinedTies
import Derived.KernelRfl
namespace Go.Proofs.Ytfbjjbbhnmoolaa
/- THE CELL 'sum', in the pinned program and in every row, IS THE sha256 OF THE DUMP (.gsa) THAT YtfbjjbbhnmoolaaProg.lean LOADS. Nothing in Lean hashes anything: it is a label: what it is worth is what the hold of that sum in a sandbox is worth. -/
noncomputable def Try.pinned : Pinned := { name := "ytfbjjbbhnmoolaa", sum := "59169fd0d9458fd79125b665bd0014b6ee8d825ad9c540b5cff4f74cb7732ddf", checked := Try.checked }
namespace Rows
def none {H : Type} : Left H := { results := [], args := [] }

/-- 'tidepolelaw11.ResetBoth': WHATEVER THE INPUT: true; the input reads as it did. -/
def resetBothSpec : ChangeSpec := { name := "resetBoth", fn := fun _ => fun
  | [d1, d2] => { results := [.lit (.bool true)], args := [d1, d2] }
  | _ => none }
def resetBothRow : OpenClaim := { program := "ytfbjjbbhnmoolaa", sum := "59169fd0d9458fd79125b665bd0014b6ee8d825ad9c540b5cff4f74cb7732ddf", func := "tidepole/tidepolelaw11.ResetBoth", spec := "resetBoth", inPlace := ["math/bits.Add64", "math.Float64bits"], unfollowed := true, recurses := true, apart := false }
def ResetBothSaid : Prop := resetBothRow.holds Try.pinned (OpenSpec.ofChange resetBothSpec)

/-- ITS FALSE NEIGHBOUR: 'it returns false'. Refute it at one input. -/
def resetBothWrong : ChangeSpec := { name := "resetBoth", fn := fun _ => fun
  | [d1, d2] => { results := [.lit (.bool false)], args := [d1, d2] }
  | _ => none }
def ResetBothWrongFalsely : Prop := resetBothRow.holds Try.pinned (OpenSpec.ofChange resetBothWrong)

/-- 'tidepolelaw09.HistWalks': WHATEVER THE INPUT: true; the input reads as it did. -/
def histWalksSpec : ChangeSpec := { name := "histWalks", fn := fun _ => fun
  | [d1, d2] => { results := [.lit (.bool true)], args := [d1, d2] }
  | _ => none }
def histWalksRow : OpenClaim := { program := "ytfbjjbbhnmoolaa", sum := "59169fd0d9458fd79125b665bd0014b6ee8d825ad9c540b5cff4f74cb7732ddf", func := "tidepole/tidepolelaw09.HistWalks", spec := "histWalks", inPlace := ["math/bits.Add64"], unfollowed := true, recurses := true, apart := false }
def HistWalksSaid : Prop := histWalksRow.holds Try.pinned (OpenSpec.ofChange histWalksSpec)

/-- ITS FALSE NEIGHBOUR: 'it returns false'. Refute it at one input. -/
def histWalksWrong : ChangeSpec := { name := "histWalks", fn := fun _ => fun
  | [d1, d2] => { results := [.lit (.bool false)], args := [d1, d2] }
  | _ => none }
def HistWalksWrongFalsely : Prop := histWalksRow.holds Try.pinned (OpenSpec.ofChange histWalksWrong)

/-- 'tidepolelaw29.RankQuantiles': WHATEVER THE INPUT: true; the input reads as it did. -/
def rankQuantilesSpec : ChangeSpec := { name := "rankQuantiles", fn := fun _ => fun
  | [d1, d2, d3] => { results := [.lit (.bool true)], args := [d1, d2, d3] }
  | _ => none }
def rankQuantilesRow : OpenClaim := { program := "ytfbjjbbhnmoolaa", sum := "59169fd0d9458fd79125b665bd0014b6ee8d825ad9c540b5cff4f74cb7732ddf", func := "tidepole/tidepolelaw29.RankQuantiles", spec := "rankQuantiles", inPlace := ["math/bits.Add64"], unfollowed := true, recurses := true, named := ["math/bits.divideError", "math/bits.overflowError"], apart := false }
def RankQuantilesSaid : Prop := rankQuantilesRow.holds Try.pinned (OpenSpec.ofChange rankQuantilesSpec)

/-- ITS FALSE NEIGHBOUR: 'it returns false'. Refute it at one input. -/
def rankQuantilesWrong : ChangeSpec := { name := "rankQuantiles", fn := fun _ => fun
  | [d1, d2, d3] => { results := [.lit (.bool false)], args := [d1, d2, d3] }
  | _ => none }
def RankQuantilesWrongFalsely : Prop := rankQuantilesRow.holds Try.pinned (OpenSpec.ofChange rankQuantilesWrong)

/-- 'tidepolelaw10.FhistFloats': WHATEVER THE INPUT: true; the input reads as it did. -/
def fhistFloatsSpec : ChangeSpec := { name := "fhistFloats", fn := fun _ => fun
  | [d1, d2, d3] => { results := [.lit (.bool true)], args := [d1, d2, d3] }
  | _ => none }
def fhistFloatsRow : OpenClaim := { program := "ytfbjjbbhnmoolaa", sum := "59169fd0d9458fd79125b665bd0014b6ee8d825ad9c540b5cff4f74cb7732ddf", func := "tidepole/tidepolelaw10.FhistFloats", spec := "fhistFloats", inPlace := ["math.Float64frombits", "math.archTrunc", "math.Float64bits", "math/bits.Add64"], unfollowed := true, recurses := true, apart := false }
def FhistFloatsSaid : Prop := fhistFloatsRow.holds Try.pinned (OpenSpec.ofChange fhistFloatsSpec)

/-- ITS FALSE NEIGHBOUR: 'it returns false'. Refute it at one input. -/
def fhistFloatsWrong : ChangeSpec := { name := "fhistFloats", fn := fun _ => fun
  | [d1, d2, d3] => { results := [.lit (.bool false)], args := [d1, d2, d3] }
  | _ => none }
def FhistFloatsWrongFalsely : Prop := fhistFloatsRow.holds Try.pinned (OpenSpec.ofChange fhistFloatsWrong)

/-- 'tidepolelaw10.FhistBack': WHATEVER THE INPUT: true; the input reads as it did. -/
def fhistBackSpec : ChangeSpec := { name := "fhistBack", fn := fun _ => fun
  | [d] => { results := [.lit (.bool true)], args := [d] }
  | _ => none }
def fhistBackRow : OpenClaim := { program := "ytfbjjbbhnmoolaa", sum := "59169fd0d9458fd79125b665bd0014b6ee8d825ad9c540b5cff4f74cb7732ddf", func := "tidepole/tidepolelaw10.FhistBack", spec := "fhistBack", inPlace := ["math.Float64frombits", "math.archTrunc", "math.Float64bits", "math/bits.Add64"], unfollowed := true, recurses := true, apart := false }
def FhistBackSaid : Prop := fhistBackRow.holds Try.pinned (OpenSpec.ofChange fhistBackSpec)

/-- ITS FALSE NEIGHBOUR: 'it returns false'. Refute it at one input. -/
def fhistBackWrong : ChangeSpec := { name := "fhistBack", fn := fun _ => fun
  | [d] => { results := [.lit (.bool false)], args := [d] }
  | _ => none }
def FhistBackWrongFalsely : Prop := fhistBackRow.holds Try.pinned (OpenSpec.ofChange fhistBackWrong)

/-- 'tidepolelaw10.FhistFrom': WHATEVER THE INPUT: true; the input reads as it did. -/
def fhistFromSpec : ChangeSpec := { name := "fhistFrom", fn := fun _ => fun
  | [d] => { results := [.lit (.bool true)], args := [d] }
  | _ => none }
def fhistFromRow : OpenClaim := { program := "ytfbjjbbhnmoolaa", sum := "59169fd0d9458fd79125b665bd0014b6ee8d825ad9c540b5cff4f74cb7732ddf", func := "tidepole/tidepolelaw10.FhistFrom", spec := "fhistFrom", inPlace := ["math.Float64frombits", "math.archTrunc", "math.Float64bits", "math/bits.Add64"], unfollowed := true, recurses := true, apart := false }
def FhistFromSaid : Prop := fhistFromRow.holds Try.pinned (OpenSpec.ofChange fhistFromSpec)

/-- ITS FALSE NEIGHBOUR: 'it returns false'. Refute it at one input. -/
def fhistFromWrong : ChangeSpec := { name := "fhistFrom", fn := fun _ => fun
  | [d] => { results := [.lit (.bool false)], args := [d] }
  | _ => none }
def FhistFromWrongFalsely : Prop := fhistFromRow.holds Try.pinned (OpenSpec.ofChange fhistFromWrong)

/- THE SECOND FORM. 'bulk': how many values and letters a reading holds, each counted each time it is reached (what is shared counts as often as it is met; a slice's spare places count too). A statement '..UptoSaid' is the law's where the arguments, and the package variables that the reading takes, are together of bulk at most 1048576: NARROWER than '..Said'. Prove '..Said' where nothing that the law and all that it calls make is longer than what came in: it says more and counts as full. Else prove '..UptoSaid'. A law counts once. -/
mutual
def uptoBulk {H : Type} : DataW H → Nat
  | .lit (.string bytes) => bytes.length + 1
  | .lit _ => 1
  | .nil => 1
  | .ptr d => uptoBulk d + 1
  | .slice elems spare => uptoBulkAll elems + uptoBulkAll spare + 1
  | .agg parts => uptoBulkAll parts + 1
  | .iface _ d => uptoBulk d + 1
  | .map entries => uptoBulkEntries entries + 1
  | .held _ => 1
def uptoBulkAll {H : Type} : List (DataW H) → Nat
  | [] => 0
  | d :: r => uptoBulk d + uptoBulkAll r
def uptoBulkEntries {H : Type} : List (Lit × DataW H) → Nat
  | [] => 0
  | x :: r => uptoBulkEntry x + uptoBulkEntries r
def uptoBulkEntry {H : Type} : Lit × DataW H → Nat
  | (.string bytes, d) => bytes.length + uptoBulk d + 1
  | (_, d) => uptoBulk d + 1
 end
def uptoSmall : (H : Type) → List (DataW H) → Bool := fun _ ds => decide (uptoBulkAll ds ≤ 1048576)
def OpenSpec.upto (s : _root_.Go.ChangeSpec) : _root_.Go.OpenSpec := { _root_.Go.OpenSpec.ofChange s with cond := some uptoSmall }

/-- 'tidepolelaw11.ResetBoth', WHERE WHAT IT READS IS OF BULK AT MOST 1048576: true; the input reads as it did. -/
def resetBothUptoRow : OpenClaim := { program := "ytfbjjbbhnmoolaa", sum := "59169fd0d9458fd79125b665bd0014b6ee8d825ad9c540b5cff4f74cb7732ddf", func := "tidepole/tidepolelaw11.ResetBoth", spec := "resetBoth", inPlace := ["math/bits.Add64", "math.Float64bits"], unfollowed := true, recurses := true, apart := false, narrowed := true }
def ResetBothUptoSaid : Prop := resetBothUptoRow.holds Try.pinned (OpenSpec.upto resetBothSpec)

/-- 'tidepolelaw09.HistWalks', WHERE WHAT IT READS IS OF BULK AT MOST 1048576: true; the input reads as it did. -/
def histWalksUptoRow : OpenClaim := { program := "ytfbjjbbhnmoolaa", sum := "59169fd0d9458fd79125b665bd0014b6ee8d825ad9c540b5cff4f74cb7732ddf", func := "tidepole/tidepolelaw09.HistWalks", spec := "histWalks", inPlace := ["math/bits.Add64"], unfollowed := true, recurses := true, apart := false, narrowed := true }
def HistWalksUptoSaid : Prop := histWalksUptoRow.holds Try.pinned (OpenSpec.upto histWalksSpec)

/-- 'tidepolelaw29.RankQuantiles', WHERE WHAT IT READS IS OF BULK AT MOST 1048576: true; the input reads as it did. -/
def rankQuantilesUptoRow : OpenClaim := { program := "ytfbjjbbhnmoolaa", sum := "59169fd0d9458fd79125b665bd0014b6ee8d825ad9c540b5cff4f74cb7732ddf", func := "tidepole/tidepolelaw29.RankQuantiles", spec := "rankQuantiles", inPlace := ["math/bits.Add64"], unfollowed := true, recurses := true, named := ["math/bits.divideError", "math/bits.overflowError"], apart := false, narrowed := true }
def RankQuantilesUptoSaid : Prop := rankQuantilesUptoRow.holds Try.pinned (OpenSpec.upto rankQuantilesSpec)

/-- 'tidepolelaw10.FhistFloats', WHERE WHAT IT READS IS OF BULK AT MOST 1048576: true; the input reads as it did. -/
def fhistFloatsUptoRow : OpenClaim := { program := "ytfbjjbbhnmoolaa", sum := "59169fd0d9458fd79125b665bd0014b6ee8d825ad9c540b5cff4f74cb7732ddf", func := "tidepole/tidepolelaw10.FhistFloats", spec := "fhistFloats", inPlace := ["math.Float64frombits", "math.archTrunc", "math.Float64bits", "math/bits.Add64"], unfollowed := true, recurses := true, apart := false, narrowed := true }
def FhistFloatsUptoSaid : Prop := fhistFloatsUptoRow.holds Try.pinned (OpenSpec.upto fhistFloatsSpec)

/-- 'tidepolelaw10.FhistBack', WHERE WHAT IT READS IS OF BULK AT MOST 1048576: true; the input reads as it did. -/
def fhistBackUptoRow : OpenClaim := { program := "ytfbjjbbhnmoolaa", sum := "59169fd0d9458fd79125b665bd0014b6ee8d825ad9c540b5cff4f74cb7732ddf", func := "tidepole/tidepolelaw10.FhistBack", spec := "fhistBack", inPlace := ["math.Float64frombits", "math.archTrunc", "math.Float64bits", "math/bits.Add64"], unfollowed := true, recurses := true, apart := false, narrowed := true }
def FhistBackUptoSaid : Prop := fhistBackUptoRow.holds Try.pinned (OpenSpec.upto fhistBackSpec)

/-- 'tidepolelaw10.FhistFrom', WHERE WHAT IT READS IS OF BULK AT MOST 1048576: true; the input reads as it did. -/
def fhistFromUptoRow : OpenClaim := { program := "ytfbjjbbhnmoolaa", sum := "59169fd0d9458fd79125b665bd0014b6ee8d825ad9c540b5cff4f74cb7732ddf", func := "tidepole/tidepolelaw10.FhistFrom", spec := "fhistFrom", inPlace := ["math.Float64frombits", "math.archTrunc", "math.Float64bits", "math/bits.Add64"], unfollowed := true, recurses := true, apart := false, narrowed := true }
def FhistFromUptoSaid : Prop := fhistFromUptoRow.holds Try.pinned (OpenSpec.upto fhistFromSpec)

end Rows
end Go.Proofs.Ytfbjjbbhnmoolaa
