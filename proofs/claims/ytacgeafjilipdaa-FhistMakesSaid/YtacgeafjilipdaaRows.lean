/-
  No cell of these rows narrows 'for every input' (looked for: loops, veiled, ifaces, maps, wideKeys, modest, calm, conditions, laid).
  DERIVED. THE GIVEN ROWS OF THIS SEAT. 27 by the template 'for every input the law returns true; each argument reads behind the call as it read before'; 0 by the template 'total and deterministic' (their statements: YtacgeafjilipdaaTotals.lean).
  GIVEN WITH THE SEED: the statements are not yours to turn. If you find one false, say at which input.
  Laid BY PROGRAM, IN A SANDBOX (cutbox-rows.mjs): the forced cells as the released guide's own fill.sh prints them over the translation 1af6e9fb3a0c736b… (all of the seat's roots in one cut). By AI agents, Wed Nov 11 2026. No macro, syntax, notation, axiom, sorry.
-/
import Derived.Test.YtacgeafjilipdaaChecked
import GoSem.Claim
import GoSem.ClaimJoined
import GoSem.ClaimMapViews
import Derived.JoinedTies
import Derived.KernelRfl
namespace Go.Proofs.Ytacgeafjilipdaa
/- THE CELL 'sum', in the pinned program and in every row, IS THE sha256 OF THE DUMP (.gsa) THAT YtacgeafjilipdaaProg.lean LOADS. Nothing in Lean hashes anything: it is a label: what it is worth is what the hold of that sum in a sandbox is worth. -/
noncomputable def Try.pinned : Pinned := { name := "ytacgeafjilipdaa", sum := "1af6e9fb3a0c736b6bd0b6a2c33ba599d80996d67dce46050cff46428992a1d5", checked := Try.checked }
namespace Rows
def none {H : Type} : Left H := { results := [], args := [] }

/-- 'tidepolelaw07.PairsUnzip': WHATEVER THE INPUT: true; the input reads as it did. -/
def pairsUnzipSpec : ChangeSpec := { name := "pairsUnzip", fn := fun _ => fun
  | [d] => { results := [.lit (.bool true)], args := [d] }
  | _ => none }
def pairsUnzipRow : OpenClaim := { program := "ytacgeafjilipdaa", sum := "1af6e9fb3a0c736b6bd0b6a2c33ba599d80996d67dce46050cff46428992a1d5", func := "tidepole/tidepolelaw07.PairsUnzip", spec := "pairsUnzip", unfollowed := true, recurses := true, apart := false }
def PairsUnzipSaid : Prop := pairsUnzipRow.holds Try.pinned (OpenSpec.ofChange pairsUnzipSpec)

/-- ITS FALSE NEIGHBOUR: 'it returns false'. Refute it at one input. -/
def pairsUnzipWrong : ChangeSpec := { name := "pairsUnzip", fn := fun _ => fun
  | [d] => { results := [.lit (.bool false)], args := [d] }
  | _ => none }
def PairsUnzipWrongFalsely : Prop := pairsUnzipRow.holds Try.pinned (OpenSpec.ofChange pairsUnzipWrong)

/-- 'tidepolelaw07.PairsFinds': WHATEVER THE INPUT: true; the input reads as it did. -/
def pairsFindsSpec : ChangeSpec := { name := "pairsFinds", fn := fun _ => fun
  | [d1, d2, d3] => { results := [.lit (.bool true)], args := [d1, d2, d3] }
  | _ => none }
def pairsFindsRow : OpenClaim := { program := "ytacgeafjilipdaa", sum := "1af6e9fb3a0c736b6bd0b6a2c33ba599d80996d67dce46050cff46428992a1d5", func := "tidepole/tidepolelaw07.PairsFinds", spec := "pairsFinds", unfollowed := true, recurses := true, apart := false }
def PairsFindsSaid : Prop := pairsFindsRow.holds Try.pinned (OpenSpec.ofChange pairsFindsSpec)

/-- ITS FALSE NEIGHBOUR: 'it returns false'. Refute it at one input. -/
def pairsFindsWrong : ChangeSpec := { name := "pairsFinds", fn := fun _ => fun
  | [d1, d2, d3] => { results := [.lit (.bool false)], args := [d1, d2, d3] }
  | _ => none }
def PairsFindsWrongFalsely : Prop := pairsFindsRow.holds Try.pinned (OpenSpec.ofChange pairsFindsWrong)

/-- 'tidepolelaw07.PairsMerge': WHATEVER THE INPUT: true; the input reads as it did. -/
def pairsMergeSpec : ChangeSpec := { name := "pairsMerge", fn := fun _ => fun
  | [d1, d2] => { results := [.lit (.bool true)], args := [d1, d2] }
  | _ => none }
def pairsMergeRow : OpenClaim := { program := "ytacgeafjilipdaa", sum := "1af6e9fb3a0c736b6bd0b6a2c33ba599d80996d67dce46050cff46428992a1d5", func := "tidepole/tidepolelaw07.PairsMerge", spec := "pairsMerge", unfollowed := true, recurses := true, apart := false }
def PairsMergeSaid : Prop := pairsMergeRow.holds Try.pinned (OpenSpec.ofChange pairsMergeSpec)

/-- ITS FALSE NEIGHBOUR: 'it returns false'. Refute it at one input. -/
def pairsMergeWrong : ChangeSpec := { name := "pairsMerge", fn := fun _ => fun
  | [d1, d2] => { results := [.lit (.bool false)], args := [d1, d2] }
  | _ => none }
def PairsMergeWrongFalsely : Prop := pairsMergeRow.holds Try.pinned (OpenSpec.ofChange pairsMergeWrong)

/-- 'tidepolelaw07.PairsZip': WHATEVER THE INPUT: true; the input reads as it did. -/
def pairsZipSpec : ChangeSpec := { name := "pairsZip", fn := fun _ => fun
  | [d1, d2] => { results := [.lit (.bool true)], args := [d1, d2] }
  | _ => none }
def pairsZipRow : OpenClaim := { program := "ytacgeafjilipdaa", sum := "1af6e9fb3a0c736b6bd0b6a2c33ba599d80996d67dce46050cff46428992a1d5", func := "tidepole/tidepolelaw07.PairsZip", spec := "pairsZip", unfollowed := true, recurses := true, apart := false }
def PairsZipSaid : Prop := pairsZipRow.holds Try.pinned (OpenSpec.ofChange pairsZipSpec)

/-- ITS FALSE NEIGHBOUR: 'it returns false'. Refute it at one input. -/
def pairsZipWrong : ChangeSpec := { name := "pairsZip", fn := fun _ => fun
  | [d1, d2] => { results := [.lit (.bool false)], args := [d1, d2] }
  | _ => none }
def PairsZipWrongFalsely : Prop := pairsZipRow.holds Try.pinned (OpenSpec.ofChange pairsZipWrong)

/-- 'tidepolelaw07.PairsDeltas': WHATEVER THE INPUT: true; the input reads as it did. -/
def pairsDeltasSpec : ChangeSpec := { name := "pairsDeltas", fn := fun _ => fun
  | [d] => { results := [.lit (.bool true)], args := [d] }
  | _ => none }
def pairsDeltasRow : OpenClaim := { program := "ytacgeafjilipdaa", sum := "1af6e9fb3a0c736b6bd0b6a2c33ba599d80996d67dce46050cff46428992a1d5", func := "tidepole/tidepolelaw07.PairsDeltas", spec := "pairsDeltas", unfollowed := true, recurses := true, apart := false }
def PairsDeltasSaid : Prop := pairsDeltasRow.holds Try.pinned (OpenSpec.ofChange pairsDeltasSpec)

/-- ITS FALSE NEIGHBOUR: 'it returns false'. Refute it at one input. -/
def pairsDeltasWrong : ChangeSpec := { name := "pairsDeltas", fn := fun _ => fun
  | [d] => { results := [.lit (.bool false)], args := [d] }
  | _ => none }
def PairsDeltasWrongFalsely : Prop := pairsDeltasRow.holds Try.pinned (OpenSpec.ofChange pairsDeltasWrong)

/-- 'tidepolelaw11.ResetInts': WHATEVER THE INPUT: true; the input reads as it did. -/
def resetIntsSpec : ChangeSpec := { name := "resetInts", fn := fun _ => fun
  | [d1, d2] => { results := [.lit (.bool true)], args := [d1, d2] }
  | _ => none }
def resetIntsRow : OpenClaim := { program := "ytacgeafjilipdaa", sum := "1af6e9fb3a0c736b6bd0b6a2c33ba599d80996d67dce46050cff46428992a1d5", func := "tidepole/tidepolelaw11.ResetInts", spec := "resetInts", inPlace := ["math/bits.Add64"], unfollowed := true, recurses := true, apart := false }
def ResetIntsSaid : Prop := resetIntsRow.holds Try.pinned (OpenSpec.ofChange resetIntsSpec)

/-- ITS FALSE NEIGHBOUR: 'it returns false'. Refute it at one input. -/
def resetIntsWrong : ChangeSpec := { name := "resetInts", fn := fun _ => fun
  | [d1, d2] => { results := [.lit (.bool false)], args := [d1, d2] }
  | _ => none }
def ResetIntsWrongFalsely : Prop := resetIntsRow.holds Try.pinned (OpenSpec.ofChange resetIntsWrong)

/-- 'tidepolelaw11.ResetFloats': WHATEVER THE INPUT: true; the input reads as it did. -/
def resetFloatsSpec : ChangeSpec := { name := "resetFloats", fn := fun _ => fun
  | [d1, d2] => { results := [.lit (.bool true)], args := [d1, d2] }
  | _ => none }
def resetFloatsRow : OpenClaim := { program := "ytacgeafjilipdaa", sum := "1af6e9fb3a0c736b6bd0b6a2c33ba599d80996d67dce46050cff46428992a1d5", func := "tidepole/tidepolelaw11.ResetFloats", spec := "resetFloats", inPlace := ["math/bits.Add64"], unfollowed := true, recurses := true, apart := false }
def ResetFloatsSaid : Prop := resetFloatsRow.holds Try.pinned (OpenSpec.ofChange resetFloatsSpec)

/-- ITS FALSE NEIGHBOUR: 'it returns false'. Refute it at one input. -/
def resetFloatsWrong : ChangeSpec := { name := "resetFloats", fn := fun _ => fun
  | [d1, d2] => { results := [.lit (.bool false)], args := [d1, d2] }
  | _ => none }
def ResetFloatsWrongFalsely : Prop := resetFloatsRow.holds Try.pinned (OpenSpec.ofChange resetFloatsWrong)

/-- 'tidepolelaw11.ResetNames': WHATEVER THE INPUT: true; the input reads as it did. -/
def resetNamesSpec : ChangeSpec := { name := "resetNames", fn := fun _ => fun
  | [d1, d2] => { results := [.lit (.bool true)], args := [d1, d2] }
  | _ => none }
def resetNamesRow : OpenClaim := { program := "ytacgeafjilipdaa", sum := "1af6e9fb3a0c736b6bd0b6a2c33ba599d80996d67dce46050cff46428992a1d5", func := "tidepole/tidepolelaw11.ResetNames", spec := "resetNames", inPlace := ["math/bits.Add64"], unfollowed := true, recurses := true, apart := false }
def ResetNamesSaid : Prop := resetNamesRow.holds Try.pinned (OpenSpec.ofChange resetNamesSpec)

/-- ITS FALSE NEIGHBOUR: 'it returns false'. Refute it at one input. -/
def resetNamesWrong : ChangeSpec := { name := "resetNames", fn := fun _ => fun
  | [d1, d2] => { results := [.lit (.bool false)], args := [d1, d2] }
  | _ => none }
def ResetNamesWrongFalsely : Prop := resetNamesRow.holds Try.pinned (OpenSpec.ofChange resetNamesWrong)

/-- 'tidepolelaw11.ResetGoes': WHATEVER THE INPUT: true; the input reads as it did. -/
def resetGoesSpec : ChangeSpec := { name := "resetGoes", fn := fun _ => fun
  | [d1, d2, d3] => { results := [.lit (.bool true)], args := [d1, d2, d3] }
  | _ => none }
def resetGoesRow : OpenClaim := { program := "ytacgeafjilipdaa", sum := "1af6e9fb3a0c736b6bd0b6a2c33ba599d80996d67dce46050cff46428992a1d5", func := "tidepole/tidepolelaw11.ResetGoes", spec := "resetGoes", inPlace := ["math/bits.Add64"], unfollowed := true, recurses := true, apart := false }
def ResetGoesSaid : Prop := resetGoesRow.holds Try.pinned (OpenSpec.ofChange resetGoesSpec)

/-- ITS FALSE NEIGHBOUR: 'it returns false'. Refute it at one input. -/
def resetGoesWrong : ChangeSpec := { name := "resetGoes", fn := fun _ => fun
  | [d1, d2, d3] => { results := [.lit (.bool false)], args := [d1, d2, d3] }
  | _ => none }
def ResetGoesWrongFalsely : Prop := resetGoesRow.holds Try.pinned (OpenSpec.ofChange resetGoesWrong)

/-- 'tidepolelaw11.ResetBoth': WHATEVER THE INPUT: true; the input reads as it did. -/
def resetBothSpec : ChangeSpec := { name := "resetBoth", fn := fun _ => fun
  | [d1, d2] => { results := [.lit (.bool true)], args := [d1, d2] }
  | _ => none }
def resetBothRow : OpenClaim := { program := "ytacgeafjilipdaa", sum := "1af6e9fb3a0c736b6bd0b6a2c33ba599d80996d67dce46050cff46428992a1d5", func := "tidepole/tidepolelaw11.ResetBoth", spec := "resetBoth", inPlace := ["math/bits.Add64", "math.Float64bits"], unfollowed := true, recurses := true, apart := false }
def ResetBothSaid : Prop := resetBothRow.holds Try.pinned (OpenSpec.ofChange resetBothSpec)

/-- ITS FALSE NEIGHBOUR: 'it returns false'. Refute it at one input. -/
def resetBothWrong : ChangeSpec := { name := "resetBoth", fn := fun _ => fun
  | [d1, d2] => { results := [.lit (.bool false)], args := [d1, d2] }
  | _ => none }
def ResetBothWrongFalsely : Prop := resetBothRow.holds Try.pinned (OpenSpec.ofChange resetBothWrong)

/-- 'tidepolelaw09.HistChecks': WHATEVER THE INPUT: true; the input reads as it did. -/
def histChecksSpec : ChangeSpec := { name := "histChecks", fn := fun _ => fun
  | [d1, d2] => { results := [.lit (.bool true)], args := [d1, d2] }
  | _ => none }
def histChecksRow : OpenClaim := { program := "ytacgeafjilipdaa", sum := "1af6e9fb3a0c736b6bd0b6a2c33ba599d80996d67dce46050cff46428992a1d5", func := "tidepole/tidepolelaw09.HistChecks", spec := "histChecks", inPlace := ["math/bits.Add64"], unfollowed := true, recurses := true, apart := false }
def HistChecksSaid : Prop := histChecksRow.holds Try.pinned (OpenSpec.ofChange histChecksSpec)

/-- ITS FALSE NEIGHBOUR: 'it returns false'. Refute it at one input. -/
def histChecksWrong : ChangeSpec := { name := "histChecks", fn := fun _ => fun
  | [d1, d2] => { results := [.lit (.bool false)], args := [d1, d2] }
  | _ => none }
def HistChecksWrongFalsely : Prop := histChecksRow.holds Try.pinned (OpenSpec.ofChange histChecksWrong)

/-- 'tidepolelaw09.HistPairs': WHATEVER THE INPUT: true; the input reads as it did. -/
def histPairsSpec : ChangeSpec := { name := "histPairs", fn := fun _ => fun
  | [d1, d2] => { results := [.lit (.bool true)], args := [d1, d2] }
  | _ => none }
def histPairsRow : OpenClaim := { program := "ytacgeafjilipdaa", sum := "1af6e9fb3a0c736b6bd0b6a2c33ba599d80996d67dce46050cff46428992a1d5", func := "tidepole/tidepolelaw09.HistPairs", spec := "histPairs", inPlace := ["math/bits.Add64"], unfollowed := true, recurses := true, apart := false }
def HistPairsSaid : Prop := histPairsRow.holds Try.pinned (OpenSpec.ofChange histPairsSpec)

/-- ITS FALSE NEIGHBOUR: 'it returns false'. Refute it at one input. -/
def histPairsWrong : ChangeSpec := { name := "histPairs", fn := fun _ => fun
  | [d1, d2] => { results := [.lit (.bool false)], args := [d1, d2] }
  | _ => none }
def HistPairsWrongFalsely : Prop := histPairsRow.holds Try.pinned (OpenSpec.ofChange histPairsWrong)

/-- 'tidepolelaw09.HistEqual': WHATEVER THE INPUT: true; the input reads as it did. -/
def histEqualSpec : ChangeSpec := { name := "histEqual", fn := fun _ => fun
  | [d1, d2] => { results := [.lit (.bool true)], args := [d1, d2] }
  | _ => none }
def histEqualRow : OpenClaim := { program := "ytacgeafjilipdaa", sum := "1af6e9fb3a0c736b6bd0b6a2c33ba599d80996d67dce46050cff46428992a1d5", func := "tidepole/tidepolelaw09.HistEqual", spec := "histEqual", inPlace := ["math/bits.Add64"], unfollowed := true, recurses := true, apart := false }
def HistEqualSaid : Prop := histEqualRow.holds Try.pinned (OpenSpec.ofChange histEqualSpec)

/-- ITS FALSE NEIGHBOUR: 'it returns false'. Refute it at one input. -/
def histEqualWrong : ChangeSpec := { name := "histEqual", fn := fun _ => fun
  | [d1, d2] => { results := [.lit (.bool false)], args := [d1, d2] }
  | _ => none }
def HistEqualWrongFalsely : Prop := histEqualRow.holds Try.pinned (OpenSpec.ofChange histEqualWrong)

/-- 'tidepolelaw09.HistOver': WHATEVER THE INPUT: true; the input reads as it did. -/
def histOverSpec : ChangeSpec := { name := "histOver", fn := fun _ => fun
  | [d1, d2, d3] => { results := [.lit (.bool true)], args := [d1, d2, d3] }
  | _ => none }
def histOverRow : OpenClaim := { program := "ytacgeafjilipdaa", sum := "1af6e9fb3a0c736b6bd0b6a2c33ba599d80996d67dce46050cff46428992a1d5", func := "tidepole/tidepolelaw09.HistOver", spec := "histOver", inPlace := ["math/bits.Add64"], unfollowed := true, recurses := true, apart := false }
def HistOverSaid : Prop := histOverRow.holds Try.pinned (OpenSpec.ofChange histOverSpec)

/-- ITS FALSE NEIGHBOUR: 'it returns false'. Refute it at one input. -/
def histOverWrong : ChangeSpec := { name := "histOver", fn := fun _ => fun
  | [d1, d2, d3] => { results := [.lit (.bool false)], args := [d1, d2, d3] }
  | _ => none }
def HistOverWrongFalsely : Prop := histOverRow.holds Try.pinned (OpenSpec.ofChange histOverWrong)

/-- 'tidepolelaw09.HistMakes': WHATEVER THE INPUT: true; the input reads as it did. -/
def histMakesSpec : ChangeSpec := { name := "histMakes", fn := fun _ => fun
  | [d1, d2, d3] => { results := [.lit (.bool true)], args := [d1, d2, d3] }
  | _ => none }
def histMakesRow : OpenClaim := { program := "ytacgeafjilipdaa", sum := "1af6e9fb3a0c736b6bd0b6a2c33ba599d80996d67dce46050cff46428992a1d5", func := "tidepole/tidepolelaw09.HistMakes", spec := "histMakes", inPlace := ["math/bits.Add64"], unfollowed := true, recurses := true, apart := false }
def HistMakesSaid : Prop := histMakesRow.holds Try.pinned (OpenSpec.ofChange histMakesSpec)

/-- ITS FALSE NEIGHBOUR: 'it returns false'. Refute it at one input. -/
def histMakesWrong : ChangeSpec := { name := "histMakes", fn := fun _ => fun
  | [d1, d2, d3] => { results := [.lit (.bool false)], args := [d1, d2, d3] }
  | _ => none }
def HistMakesWrongFalsely : Prop := histMakesRow.holds Try.pinned (OpenSpec.ofChange histMakesWrong)

/-- 'tidepolelaw09.HistCanon': WHATEVER THE INPUT: true; the input reads as it did. -/
def histCanonSpec : ChangeSpec := { name := "histCanon", fn := fun _ => fun
  | [d] => { results := [.lit (.bool true)], args := [d] }
  | _ => none }
def histCanonRow : OpenClaim := { program := "ytacgeafjilipdaa", sum := "1af6e9fb3a0c736b6bd0b6a2c33ba599d80996d67dce46050cff46428992a1d5", func := "tidepole/tidepolelaw09.HistCanon", spec := "histCanon", inPlace := ["math/bits.Add64"], unfollowed := true, recurses := true, apart := false }
def HistCanonSaid : Prop := histCanonRow.holds Try.pinned (OpenSpec.ofChange histCanonSpec)

/-- ITS FALSE NEIGHBOUR: 'it returns false'. Refute it at one input. -/
def histCanonWrong : ChangeSpec := { name := "histCanon", fn := fun _ => fun
  | [d] => { results := [.lit (.bool false)], args := [d] }
  | _ => none }
def HistCanonWrongFalsely : Prop := histCanonRow.holds Try.pinned (OpenSpec.ofChange histCanonWrong)

/-- 'tidepolelaw09.HistWalks': WHATEVER THE INPUT: true; the input reads as it did. -/
def histWalksSpec : ChangeSpec := { name := "histWalks", fn := fun _ => fun
  | [d1, d2] => { results := [.lit (.bool true)], args := [d1, d2] }
  | _ => none }
def histWalksRow : OpenClaim := { program := "ytacgeafjilipdaa", sum := "1af6e9fb3a0c736b6bd0b6a2c33ba599d80996d67dce46050cff46428992a1d5", func := "tidepole/tidepolelaw09.HistWalks", spec := "histWalks", inPlace := ["math/bits.Add64"], unfollowed := true, recurses := true, apart := false }
def HistWalksSaid : Prop := histWalksRow.holds Try.pinned (OpenSpec.ofChange histWalksSpec)

/-- ITS FALSE NEIGHBOUR: 'it returns false'. Refute it at one input. -/
def histWalksWrong : ChangeSpec := { name := "histWalks", fn := fun _ => fun
  | [d1, d2] => { results := [.lit (.bool false)], args := [d1, d2] }
  | _ => none }
def HistWalksWrongFalsely : Prop := histWalksRow.holds Try.pinned (OpenSpec.ofChange histWalksWrong)

/-- 'tidepolelaw11.ResetLays': WHATEVER THE INPUT: true; the input reads as it did. -/
def resetLaysSpec : ChangeSpec := { name := "resetLays", fn := fun _ => fun
  | [d1, d2] => { results := [.lit (.bool true)], args := [d1, d2] }
  | _ => none }
def resetLaysRow : OpenClaim := { program := "ytacgeafjilipdaa", sum := "1af6e9fb3a0c736b6bd0b6a2c33ba599d80996d67dce46050cff46428992a1d5", func := "tidepole/tidepolelaw11.ResetLays", spec := "resetLays", inPlace := ["math/bits.Add64"], unfollowed := true, recurses := true, apart := false }
def ResetLaysSaid : Prop := resetLaysRow.holds Try.pinned (OpenSpec.ofChange resetLaysSpec)

/-- ITS FALSE NEIGHBOUR: 'it returns false'. Refute it at one input. -/
def resetLaysWrong : ChangeSpec := { name := "resetLays", fn := fun _ => fun
  | [d1, d2] => { results := [.lit (.bool false)], args := [d1, d2] }
  | _ => none }
def ResetLaysWrongFalsely : Prop := resetLaysRow.holds Try.pinned (OpenSpec.ofChange resetLaysWrong)

/-- 'tidepolelaw10.FhistChecks': WHATEVER THE INPUT: true; the input reads as it did. -/
def fhistChecksSpec : ChangeSpec := { name := "fhistChecks", fn := fun _ => fun
  | [d1, d2] => { results := [.lit (.bool true)], args := [d1, d2] }
  | _ => none }
def fhistChecksRow : OpenClaim := { program := "ytacgeafjilipdaa", sum := "1af6e9fb3a0c736b6bd0b6a2c33ba599d80996d67dce46050cff46428992a1d5", func := "tidepole/tidepolelaw10.FhistChecks", spec := "fhistChecks", inPlace := ["math.Float64frombits", "math.archTrunc", "math.Float64bits", "math/bits.Add64"], unfollowed := true, recurses := true, apart := false }
def FhistChecksSaid : Prop := fhistChecksRow.holds Try.pinned (OpenSpec.ofChange fhistChecksSpec)

/-- ITS FALSE NEIGHBOUR: 'it returns false'. Refute it at one input. -/
def fhistChecksWrong : ChangeSpec := { name := "fhistChecks", fn := fun _ => fun
  | [d1, d2] => { results := [.lit (.bool false)], args := [d1, d2] }
  | _ => none }
def FhistChecksWrongFalsely : Prop := fhistChecksRow.holds Try.pinned (OpenSpec.ofChange fhistChecksWrong)

/-- 'tidepolelaw10.FhistPairs': WHATEVER THE INPUT: true; the input reads as it did. -/
def fhistPairsSpec : ChangeSpec := { name := "fhistPairs", fn := fun _ => fun
  | [d1, d2] => { results := [.lit (.bool true)], args := [d1, d2] }
  | _ => none }
def fhistPairsRow : OpenClaim := { program := "ytacgeafjilipdaa", sum := "1af6e9fb3a0c736b6bd0b6a2c33ba599d80996d67dce46050cff46428992a1d5", func := "tidepole/tidepolelaw10.FhistPairs", spec := "fhistPairs", inPlace := ["math.Float64frombits", "math.archTrunc", "math.Float64bits", "math/bits.Add64"], unfollowed := true, recurses := true, apart := false }
def FhistPairsSaid : Prop := fhistPairsRow.holds Try.pinned (OpenSpec.ofChange fhistPairsSpec)

/-- ITS FALSE NEIGHBOUR: 'it returns false'. Refute it at one input. -/
def fhistPairsWrong : ChangeSpec := { name := "fhistPairs", fn := fun _ => fun
  | [d1, d2] => { results := [.lit (.bool false)], args := [d1, d2] }
  | _ => none }
def FhistPairsWrongFalsely : Prop := fhistPairsRow.holds Try.pinned (OpenSpec.ofChange fhistPairsWrong)

/-- 'tidepolelaw10.FhistEqual': WHATEVER THE INPUT: true; the input reads as it did. -/
def fhistEqualSpec : ChangeSpec := { name := "fhistEqual", fn := fun _ => fun
  | [d1, d2] => { results := [.lit (.bool true)], args := [d1, d2] }
  | _ => none }
def fhistEqualRow : OpenClaim := { program := "ytacgeafjilipdaa", sum := "1af6e9fb3a0c736b6bd0b6a2c33ba599d80996d67dce46050cff46428992a1d5", func := "tidepole/tidepolelaw10.FhistEqual", spec := "fhistEqual", inPlace := ["math.Float64frombits", "math.archTrunc", "math.Float64bits", "math/bits.Add64"], unfollowed := true, recurses := true, apart := false }
def FhistEqualSaid : Prop := fhistEqualRow.holds Try.pinned (OpenSpec.ofChange fhistEqualSpec)

/-- ITS FALSE NEIGHBOUR: 'it returns false'. Refute it at one input. -/
def fhistEqualWrong : ChangeSpec := { name := "fhistEqual", fn := fun _ => fun
  | [d1, d2] => { results := [.lit (.bool false)], args := [d1, d2] }
  | _ => none }
def FhistEqualWrongFalsely : Prop := fhistEqualRow.holds Try.pinned (OpenSpec.ofChange fhistEqualWrong)

/-- 'tidepolelaw10.FhistOver': WHATEVER THE INPUT: true; the input reads as it did. -/
def fhistOverSpec : ChangeSpec := { name := "fhistOver", fn := fun _ => fun
  | [d1, d2, d3] => { results := [.lit (.bool true)], args := [d1, d2, d3] }
  | _ => none }
def fhistOverRow : OpenClaim := { program := "ytacgeafjilipdaa", sum := "1af6e9fb3a0c736b6bd0b6a2c33ba599d80996d67dce46050cff46428992a1d5", func := "tidepole/tidepolelaw10.FhistOver", spec := "fhistOver", inPlace := ["math.Float64frombits", "math.archTrunc", "math.Float64bits", "math/bits.Add64"], unfollowed := true, recurses := true, apart := false }
def FhistOverSaid : Prop := fhistOverRow.holds Try.pinned (OpenSpec.ofChange fhistOverSpec)

/-- ITS FALSE NEIGHBOUR: 'it returns false'. Refute it at one input. -/
def fhistOverWrong : ChangeSpec := { name := "fhistOver", fn := fun _ => fun
  | [d1, d2, d3] => { results := [.lit (.bool false)], args := [d1, d2, d3] }
  | _ => none }
def FhistOverWrongFalsely : Prop := fhistOverRow.holds Try.pinned (OpenSpec.ofChange fhistOverWrong)

/-- 'tidepolelaw10.FhistFloats': WHATEVER THE INPUT: true; the input reads as it did. -/
def fhistFloatsSpec : ChangeSpec := { name := "fhistFloats", fn := fun _ => fun
  | [d1, d2, d3] => { results := [.lit (.bool true)], args := [d1, d2, d3] }
  | _ => none }
def fhistFloatsRow : OpenClaim := { program := "ytacgeafjilipdaa", sum := "1af6e9fb3a0c736b6bd0b6a2c33ba599d80996d67dce46050cff46428992a1d5", func := "tidepole/tidepolelaw10.FhistFloats", spec := "fhistFloats", inPlace := ["math.Float64frombits", "math.archTrunc", "math.Float64bits", "math/bits.Add64"], unfollowed := true, recurses := true, apart := false }
def FhistFloatsSaid : Prop := fhistFloatsRow.holds Try.pinned (OpenSpec.ofChange fhistFloatsSpec)

/-- ITS FALSE NEIGHBOUR: 'it returns false'. Refute it at one input. -/
def fhistFloatsWrong : ChangeSpec := { name := "fhistFloats", fn := fun _ => fun
  | [d1, d2, d3] => { results := [.lit (.bool false)], args := [d1, d2, d3] }
  | _ => none }
def FhistFloatsWrongFalsely : Prop := fhistFloatsRow.holds Try.pinned (OpenSpec.ofChange fhistFloatsWrong)

/-- 'tidepolelaw10.FhistMakes': WHATEVER THE INPUT: true; the input reads as it did. -/
def fhistMakesSpec : ChangeSpec := { name := "fhistMakes", fn := fun _ => fun
  | [d1, d2, d3] => { results := [.lit (.bool true)], args := [d1, d2, d3] }
  | _ => none }
def fhistMakesRow : OpenClaim := { program := "ytacgeafjilipdaa", sum := "1af6e9fb3a0c736b6bd0b6a2c33ba599d80996d67dce46050cff46428992a1d5", func := "tidepole/tidepolelaw10.FhistMakes", spec := "fhistMakes", inPlace := ["math.Float64frombits", "math.archTrunc", "math.Float64bits", "math/bits.Add64"], unfollowed := true, recurses := true, apart := false }
def FhistMakesSaid : Prop := fhistMakesRow.holds Try.pinned (OpenSpec.ofChange fhistMakesSpec)

/-- ITS FALSE NEIGHBOUR: 'it returns false'. Refute it at one input. -/
def fhistMakesWrong : ChangeSpec := { name := "fhistMakes", fn := fun _ => fun
  | [d1, d2, d3] => { results := [.lit (.bool false)], args := [d1, d2, d3] }
  | _ => none }
def FhistMakesWrongFalsely : Prop := fhistMakesRow.holds Try.pinned (OpenSpec.ofChange fhistMakesWrong)

/-- 'tidepolelaw10.FhistCanon': WHATEVER THE INPUT: true; the input reads as it did. -/
def fhistCanonSpec : ChangeSpec := { name := "fhistCanon", fn := fun _ => fun
  | [d] => { results := [.lit (.bool true)], args := [d] }
  | _ => none }
def fhistCanonRow : OpenClaim := { program := "ytacgeafjilipdaa", sum := "1af6e9fb3a0c736b6bd0b6a2c33ba599d80996d67dce46050cff46428992a1d5", func := "tidepole/tidepolelaw10.FhistCanon", spec := "fhistCanon", inPlace := ["math.Float64frombits", "math.archTrunc", "math.Float64bits", "math/bits.Add64"], unfollowed := true, recurses := true, apart := false }
def FhistCanonSaid : Prop := fhistCanonRow.holds Try.pinned (OpenSpec.ofChange fhistCanonSpec)

/-- ITS FALSE NEIGHBOUR: 'it returns false'. Refute it at one input. -/
def fhistCanonWrong : ChangeSpec := { name := "fhistCanon", fn := fun _ => fun
  | [d] => { results := [.lit (.bool false)], args := [d] }
  | _ => none }
def FhistCanonWrongFalsely : Prop := fhistCanonRow.holds Try.pinned (OpenSpec.ofChange fhistCanonWrong)

/-- 'tidepolelaw10.FhistBack': WHATEVER THE INPUT: true; the input reads as it did. -/
def fhistBackSpec : ChangeSpec := { name := "fhistBack", fn := fun _ => fun
  | [d] => { results := [.lit (.bool true)], args := [d] }
  | _ => none }
def fhistBackRow : OpenClaim := { program := "ytacgeafjilipdaa", sum := "1af6e9fb3a0c736b6bd0b6a2c33ba599d80996d67dce46050cff46428992a1d5", func := "tidepole/tidepolelaw10.FhistBack", spec := "fhistBack", inPlace := ["math.Float64frombits", "math.archTrunc", "math.Float64bits", "math/bits.Add64"], unfollowed := true, recurses := true, apart := false }
def FhistBackSaid : Prop := fhistBackRow.holds Try.pinned (OpenSpec.ofChange fhistBackSpec)

/-- ITS FALSE NEIGHBOUR: 'it returns false'. Refute it at one input. -/
def fhistBackWrong : ChangeSpec := { name := "fhistBack", fn := fun _ => fun
  | [d] => { results := [.lit (.bool false)], args := [d] }
  | _ => none }
def FhistBackWrongFalsely : Prop := fhistBackRow.holds Try.pinned (OpenSpec.ofChange fhistBackWrong)

/-- 'tidepolelaw10.FhistFrom': WHATEVER THE INPUT: true; the input reads as it did. -/
def fhistFromSpec : ChangeSpec := { name := "fhistFrom", fn := fun _ => fun
  | [d] => { results := [.lit (.bool true)], args := [d] }
  | _ => none }
def fhistFromRow : OpenClaim := { program := "ytacgeafjilipdaa", sum := "1af6e9fb3a0c736b6bd0b6a2c33ba599d80996d67dce46050cff46428992a1d5", func := "tidepole/tidepolelaw10.FhistFrom", spec := "fhistFrom", inPlace := ["math.Float64frombits", "math.archTrunc", "math.Float64bits", "math/bits.Add64"], unfollowed := true, recurses := true, apart := false }
def FhistFromSaid : Prop := fhistFromRow.holds Try.pinned (OpenSpec.ofChange fhistFromSpec)

/-- ITS FALSE NEIGHBOUR: 'it returns false'. Refute it at one input. -/
def fhistFromWrong : ChangeSpec := { name := "fhistFrom", fn := fun _ => fun
  | [d] => { results := [.lit (.bool false)], args := [d] }
  | _ => none }
def FhistFromWrongFalsely : Prop := fhistFromRow.holds Try.pinned (OpenSpec.ofChange fhistFromWrong)

/- THE SECOND FORM. 'bulk': how many values and letters a reading holds, each counted each time it is reached (what is shared counts as often as it is met; a slice's spare places count too). A statement '..UptoSaid' is the law's where the arguments, and the package variables that the reading takes, are together of bulk at most 1048576: NARROWER than '..Said'. Prove '..Said' where nothing that the law and all that it calls make is longer than what came in: it says more and counts as full. Else prove '..UptoSaid'. A law counts once. -/
mutual
def uptoBulk {H : Type} : DataW H → Nat
  | .lit (.string bytes) => bytes.length + 1
  | .lit _ => 1
  | .nil => 1
  | .ptr d => uptoBulk d + 1
  | .slice elems spare => uptoBulkAll elems + uptoBulkAll spare + 1
  | .agg parts => uptoBulkAll parts + 1
  | .iface _ d => uptoBulk d + 1
  | .map entries => uptoBulkEntries entries + 1
  | .held _ => 1
def uptoBulkAll {H : Type} : List (DataW H) → Nat
  | [] => 0
  | d :: r => uptoBulk d + uptoBulkAll r
def uptoBulkEntries {H : Type} : List (Lit × DataW H) → Nat
  | [] => 0
  | x :: r => uptoBulkEntry x + uptoBulkEntries r
def uptoBulkEntry {H : Type} : Lit × DataW H → Nat
  | (.string bytes, d) => bytes.length + uptoBulk d + 1
  | (_, d) => uptoBulk d + 1
 end
def uptoSmall : (H : Type) → List (DataW H) → Bool := fun _ ds => decide (uptoBulkAll ds ≤ 1048576)
def OpenSpec.upto (s : _root_.Go.ChangeSpec) : _root_.Go.OpenSpec := { _root_.Go.OpenSpec.ofChange s with cond := some uptoSmall }

/-- 'tidepolelaw07.PairsUnzip', WHERE WHAT IT READS IS OF BULK AT MOST 1048576: true; the input reads as it did. -/
def pairsUnzipUptoRow : OpenClaim := { program := "ytacgeafjilipdaa", sum := "1af6e9fb3a0c736b6bd0b6a2c33ba599d80996d67dce46050cff46428992a1d5", func := "tidepole/tidepolelaw07.PairsUnzip", spec := "pairsUnzip", unfollowed := true, recurses := true, apart := false, narrowed := true }
def PairsUnzipUptoSaid : Prop := pairsUnzipUptoRow.holds Try.pinned (OpenSpec.upto pairsUnzipSpec)

/-- 'tidepolelaw07.PairsFinds', WHERE WHAT IT READS IS OF BULK AT MOST 1048576: true; the input reads as it did. -/
def pairsFindsUptoRow : OpenClaim := { program := "ytacgeafjilipdaa", sum := "1af6e9fb3a0c736b6bd0b6a2c33ba599d80996d67dce46050cff46428992a1d5", func := "tidepole/tidepolelaw07.PairsFinds", spec := "pairsFinds", unfollowed := true, recurses := true, apart := false, narrowed := true }
def PairsFindsUptoSaid : Prop := pairsFindsUptoRow.holds Try.pinned (OpenSpec.upto pairsFindsSpec)

/-- 'tidepolelaw07.PairsMerge', WHERE WHAT IT READS IS OF BULK AT MOST 1048576: true; the input reads as it did. -/
def pairsMergeUptoRow : OpenClaim := { program := "ytacgeafjilipdaa", sum := "1af6e9fb3a0c736b6bd0b6a2c33ba599d80996d67dce46050cff46428992a1d5", func := "tidepole/tidepolelaw07.PairsMerge", spec := "pairsMerge", unfollowed := true, recurses := true, apart := false, narrowed := true }
def PairsMergeUptoSaid : Prop := pairsMergeUptoRow.holds Try.pinned (OpenSpec.upto pairsMergeSpec)

/-- 'tidepolelaw07.PairsZip', WHERE WHAT IT READS IS OF BULK AT MOST 1048576: true; the input reads as it did. -/
def pairsZipUptoRow : OpenClaim := { program := "ytacgeafjilipdaa", sum := "1af6e9fb3a0c736b6bd0b6a2c33ba599d80996d67dce46050cff46428992a1d5", func := "tidepole/tidepolelaw07.PairsZip", spec := "pairsZip", unfollowed := true, recurses := true, apart := false, narrowed := true }
def PairsZipUptoSaid : Prop := pairsZipUptoRow.holds Try.pinned (OpenSpec.upto pairsZipSpec)

/-- 'tidepolelaw07.PairsDeltas', WHERE WHAT IT READS IS OF BULK AT MOST 1048576: true; the input reads as it did. -/
def pairsDeltasUptoRow : OpenClaim := { program := "ytacgeafjilipdaa", sum := "1af6e9fb3a0c736b6bd0b6a2c33ba599d80996d67dce46050cff46428992a1d5", func := "tidepole/tidepolelaw07.PairsDeltas", spec := "pairsDeltas", unfollowed := true, recurses := true, apart := false, narrowed := true }
def PairsDeltasUptoSaid : Prop := pairsDeltasUptoRow.holds Try.pinned (OpenSpec.upto pairsDeltasSpec)

/-- 'tidepolelaw11.ResetInts', WHERE WHAT IT READS IS OF BULK AT MOST 1048576: true; the input reads as it did. -/
def resetIntsUptoRow : OpenClaim := { program := "ytacgeafjilipdaa", sum := "1af6e9fb3a0c736b6bd0b6a2c33ba599d80996d67dce46050cff46428992a1d5", func := "tidepole/tidepolelaw11.ResetInts", spec := "resetInts", inPlace := ["math/bits.Add64"], unfollowed := true, recurses := true, apart := false, narrowed := true }
def ResetIntsUptoSaid : Prop := resetIntsUptoRow.holds Try.pinned (OpenSpec.upto resetIntsSpec)

/-- 'tidepolelaw11.ResetFloats', WHERE WHAT IT READS IS OF BULK AT MOST 1048576: true; the input reads as it did. -/
def resetFloatsUptoRow : OpenClaim := { program := "ytacgeafjilipdaa", sum := "1af6e9fb3a0c736b6bd0b6a2c33ba599d80996d67dce46050cff46428992a1d5", func := "tidepole/tidepolelaw11.ResetFloats", spec := "resetFloats", inPlace := ["math/bits.Add64"], unfollowed := true, recurses := true, apart := false, narrowed := true }
def ResetFloatsUptoSaid : Prop := resetFloatsUptoRow.holds Try.pinned (OpenSpec.upto resetFloatsSpec)

/-- 'tidepolelaw11.ResetNames', WHERE WHAT IT READS IS OF BULK AT MOST 1048576: true; the input reads as it did. -/
def resetNamesUptoRow : OpenClaim := { program := "ytacgeafjilipdaa", sum := "1af6e9fb3a0c736b6bd0b6a2c33ba599d80996d67dce46050cff46428992a1d5", func := "tidepole/tidepolelaw11.ResetNames", spec := "resetNames", inPlace := ["math/bits.Add64"], unfollowed := true, recurses := true, apart := false, narrowed := true }
def ResetNamesUptoSaid : Prop := resetNamesUptoRow.holds Try.pinned (OpenSpec.upto resetNamesSpec)

/-- 'tidepolelaw11.ResetGoes', WHERE WHAT IT READS IS OF BULK AT MOST 1048576: true; the input reads as it did. -/
def resetGoesUptoRow : OpenClaim := { program := "ytacgeafjilipdaa", sum := "1af6e9fb3a0c736b6bd0b6a2c33ba599d80996d67dce46050cff46428992a1d5", func := "tidepole/tidepolelaw11.ResetGoes", spec := "resetGoes", inPlace := ["math/bits.Add64"], unfollowed := true, recurses := true, apart := false, narrowed := true }
def ResetGoesUptoSaid : Prop := resetGoesUptoRow.holds Try.pinned (OpenSpec.upto resetGoesSpec)

/-- 'tidepolelaw11.ResetBoth', WHERE WHAT IT READS IS OF BULK AT MOST 1048576: true; the input reads as it did. -/
def resetBothUptoRow : OpenClaim := { program := "ytacgeafjilipdaa", sum := "1af6e9fb3a0c736b6bd0b6a2c33ba599d80996d67dce46050cff46428992a1d5", func := "tidepole/tidepolelaw11.ResetBoth", spec := "resetBoth", inPlace := ["math/bits.Add64", "math.Float64bits"], unfollowed := true, recurses := true, apart := false, narrowed := true }
def ResetBothUptoSaid : Prop := resetBothUptoRow.holds Try.pinned (OpenSpec.upto resetBothSpec)

/-- 'tidepolelaw09.HistChecks', WHERE WHAT IT READS IS OF BULK AT MOST 1048576: true; the input reads as it did. -/
def histChecksUptoRow : OpenClaim := { program := "ytacgeafjilipdaa", sum := "1af6e9fb3a0c736b6bd0b6a2c33ba599d80996d67dce46050cff46428992a1d5", func := "tidepole/tidepolelaw09.HistChecks", spec := "histChecks", inPlace := ["math/bits.Add64"], unfollowed := true, recurses := true, apart := false, narrowed := true }
def HistChecksUptoSaid : Prop := histChecksUptoRow.holds Try.pinned (OpenSpec.upto histChecksSpec)

/-- 'tidepolelaw09.HistPairs', WHERE WHAT IT READS IS OF BULK AT MOST 1048576: true; the input reads as it did. -/
def histPairsUptoRow : OpenClaim := { program := "ytacgeafjilipdaa", sum := "1af6e9fb3a0c736b6bd0b6a2c33ba599d80996d67dce46050cff46428992a1d5", func := "tidepole/tidepolelaw09.HistPairs", spec := "histPairs", inPlace := ["math/bits.Add64"], unfollowed := true, recurses := true, apart := false, narrowed := true }
def HistPairsUptoSaid : Prop := histPairsUptoRow.holds Try.pinned (OpenSpec.upto histPairsSpec)

/-- 'tidepolelaw09.HistEqual', WHERE WHAT IT READS IS OF BULK AT MOST 1048576: true; the input reads as it did. -/
def histEqualUptoRow : OpenClaim := { program := "ytacgeafjilipdaa", sum := "1af6e9fb3a0c736b6bd0b6a2c33ba599d80996d67dce46050cff46428992a1d5", func := "tidepole/tidepolelaw09.HistEqual", spec := "histEqual", inPlace := ["math/bits.Add64"], unfollowed := true, recurses := true, apart := false, narrowed := true }
def HistEqualUptoSaid : Prop := histEqualUptoRow.holds Try.pinned (OpenSpec.upto histEqualSpec)

/-- 'tidepolelaw09.HistOver', WHERE WHAT IT READS IS OF BULK AT MOST 1048576: true; the input reads as it did. -/
def histOverUptoRow : OpenClaim := { program := "ytacgeafjilipdaa", sum := "1af6e9fb3a0c736b6bd0b6a2c33ba599d80996d67dce46050cff46428992a1d5", func := "tidepole/tidepolelaw09.HistOver", spec := "histOver", inPlace := ["math/bits.Add64"], unfollowed := true, recurses := true, apart := false, narrowed := true }
def HistOverUptoSaid : Prop := histOverUptoRow.holds Try.pinned (OpenSpec.upto histOverSpec)

/-- 'tidepolelaw09.HistMakes', WHERE WHAT IT READS IS OF BULK AT MOST 1048576: true; the input reads as it did. -/
def histMakesUptoRow : OpenClaim := { program := "ytacgeafjilipdaa", sum := "1af6e9fb3a0c736b6bd0b6a2c33ba599d80996d67dce46050cff46428992a1d5", func := "tidepole/tidepolelaw09.HistMakes", spec := "histMakes", inPlace := ["math/bits.Add64"], unfollowed := true, recurses := true, apart := false, narrowed := true }
def HistMakesUptoSaid : Prop := histMakesUptoRow.holds Try.pinned (OpenSpec.upto histMakesSpec)

/-- 'tidepolelaw09.HistCanon', WHERE WHAT IT READS IS OF BULK AT MOST 1048576: true; the input reads as it did. -/
def histCanonUptoRow : OpenClaim := { program := "ytacgeafjilipdaa", sum := "1af6e9fb3a0c736b6bd0b6a2c33ba599d80996d67dce46050cff46428992a1d5", func := "tidepole/tidepolelaw09.HistCanon", spec := "histCanon", inPlace := ["math/bits.Add64"], unfollowed := true, recurses := true, apart := false, narrowed := true }
def HistCanonUptoSaid : Prop := histCanonUptoRow.holds Try.pinned (OpenSpec.upto histCanonSpec)

/-- 'tidepolelaw09.HistWalks', WHERE WHAT IT READS IS OF BULK AT MOST 1048576: true; the input reads as it did. -/
def histWalksUptoRow : OpenClaim := { program := "ytacgeafjilipdaa", sum := "1af6e9fb3a0c736b6bd0b6a2c33ba599d80996d67dce46050cff46428992a1d5", func := "tidepole/tidepolelaw09.HistWalks", spec := "histWalks", inPlace := ["math/bits.Add64"], unfollowed := true, recurses := true, apart := false, narrowed := true }
def HistWalksUptoSaid : Prop := histWalksUptoRow.holds Try.pinned (OpenSpec.upto histWalksSpec)

/-- 'tidepolelaw11.ResetLays', WHERE WHAT IT READS IS OF BULK AT MOST 1048576: true; the input reads as it did. -/
def resetLaysUptoRow : OpenClaim := { program := "ytacgeafjilipdaa", sum := "1af6e9fb3a0c736b6bd0b6a2c33ba599d80996d67dce46050cff46428992a1d5", func := "tidepole/tidepolelaw11.ResetLays", spec := "resetLays", inPlace := ["math/bits.Add64"], unfollowed := true, recurses := true, apart := false, narrowed := true }
def ResetLaysUptoSaid : Prop := resetLaysUptoRow.holds Try.pinned (OpenSpec.upto resetLaysSpec)

/-- 'tidepolelaw10.FhistChecks', WHERE WHAT IT READS IS OF BULK AT MOST 1048576: true; the input reads as it did. -/
def fhistChecksUptoRow : OpenClaim := { program := "ytacgeafjilipdaa", sum := "1af6e9fb3a0c736b6bd0b6a2c33ba599d80996d67dce46050cff46428992a1d5", func := "tidepole/tidepolelaw10.FhistChecks", spec := "fhistChecks", inPlace := ["math.Float64frombits", "math.archTrunc", "math.Float64bits", "math/bits.Add64"], unfollowed := true, recurses := true, apart := false, narrowed := true }
def FhistChecksUptoSaid : Prop := fhistChecksUptoRow.holds Try.pinned (OpenSpec.upto fhistChecksSpec)

/-- 'tidepolelaw10.FhistPairs', WHERE WHAT IT READS IS OF BULK AT MOST 1048576: true; the input reads as it did. -/
def fhistPairsUptoRow : OpenClaim := { program := "ytacgeafjilipdaa", sum := "1af6e9fb3a0c736b6bd0b6a2c33ba599d80996d67dce46050cff46428992a1d5", func := "tidepole/tidepolelaw10.FhistPairs", spec := "fhistPairs", inPlace := ["math.Float64frombits", "math.archTrunc", "math.Float64bits", "math/bits.Add64"], unfollowed := true, recurses := true, apart := false, narrowed := true }
def FhistPairsUptoSaid : Prop := fhistPairsUptoRow.holds Try.pinned (OpenSpec.upto fhistPairsSpec)

/-- 'tidepolelaw10.FhistEqual', WHERE WHAT IT READS IS OF BULK AT MOST 1048576: true; the input reads as it did. -/
def fhistEqualUptoRow : OpenClaim := { program := "ytacgeafjilipdaa", sum := "1af6e9fb3a0c736b6bd0b6a2c33ba599d80996d67dce46050cff46428992a1d5", func := "tidepole/tidepolelaw10.FhistEqual", spec := "fhistEqual", inPlace := ["math.Float64frombits", "math.archTrunc", "math.Float64bits", "math/bits.Add64"], unfollowed := true, recurses := true, apart := false, narrowed := true }
def FhistEqualUptoSaid : Prop := fhistEqualUptoRow.holds Try.pinned (OpenSpec.upto fhistEqualSpec)

/-- 'tidepolelaw10.FhistOver', WHERE WHAT IT READS IS OF BULK AT MOST 1048576: true; the input reads as it did. -/
def fhistOverUptoRow : OpenClaim := { program := "ytacgeafjilipdaa", sum := "1af6e9fb3a0c736b6bd0b6a2c33ba599d80996d67dce46050cff46428992a1d5", func := "tidepole/tidepolelaw10.FhistOver", spec := "fhistOver", inPlace := ["math.Float64frombits", "math.archTrunc", "math.Float64bits", "math/bits.Add64"], unfollowed := true, recurses := true, apart := false, narrowed := true }
def FhistOverUptoSaid : Prop := fhistOverUptoRow.holds Try.pinned (OpenSpec.upto fhistOverSpec)

/-- 'tidepolelaw10.FhistFloats', WHERE WHAT IT READS IS OF BULK AT MOST 1048576: true; the input reads as it did. -/
def fhistFloatsUptoRow : OpenClaim := { program := "ytacgeafjilipdaa", sum := "1af6e9fb3a0c736b6bd0b6a2c33ba599d80996d67dce46050cff46428992a1d5", func := "tidepole/tidepolelaw10.FhistFloats", spec := "fhistFloats", inPlace := ["math.Float64frombits", "math.archTrunc", "math.Float64bits", "math/bits.Add64"], unfollowed := true, recurses := true, apart := false, narrowed := true }
def FhistFloatsUptoSaid : Prop := fhistFloatsUptoRow.holds Try.pinned (OpenSpec.upto fhistFloatsSpec)

/-- 'tidepolelaw10.FhistMakes', WHERE WHAT IT READS IS OF BULK AT MOST 1048576: true; the input reads as it did. -/
def fhistMakesUptoRow : OpenClaim := { program := "ytacgeafjilipdaa", sum := "1af6e9fb3a0c736b6bd0b6a2c33ba599d80996d67dce46050cff46428992a1d5", func := "tidepole/tidepolelaw10.FhistMakes", spec := "fhistMakes", inPlace := ["math.Float64frombits", "math.archTrunc", "math.Float64bits", "math/bits.Add64"], unfollowed := true, recurses := true, apart := false, narrowed := true }
def FhistMakesUptoSaid : Prop := fhistMakesUptoRow.holds Try.pinned (OpenSpec.upto fhistMakesSpec)

/-- 'tidepolelaw10.FhistCanon', WHERE WHAT IT READS IS OF BULK AT MOST 1048576: true; the input reads as it did. -/
def fhistCanonUptoRow : OpenClaim := { program := "ytacgeafjilipdaa", sum := "1af6e9fb3a0c736b6bd0b6a2c33ba599d80996d67dce46050cff46428992a1d5", func := "tidepole/tidepolelaw10.FhistCanon", spec := "fhistCanon", inPlace := ["math.Float64frombits", "math.archTrunc", "math.Float64bits", "math/bits.Add64"], unfollowed := true, recurses := true, apart := false, narrowed := true }
def FhistCanonUptoSaid : Prop := fhistCanonUptoRow.holds Try.pinned (OpenSpec.upto fhistCanonSpec)

/-- 'tidepolelaw10.FhistBack', WHERE WHAT IT READS IS OF BULK AT MOST 1048576: true; the input reads as it did. -/
def fhistBackUptoRow : OpenClaim := { program := "ytacgeafjilipdaa", sum := "1af6e9fb3a0c736b6bd0b6a2c33ba599d80996d67dce46050cff46428992a1d5", func := "tidepole/tidepolelaw10.FhistBack", spec := "fhistBack", inPlace := ["math.Float64frombits", "math.archTrunc", "math.Float64bits", "math/bits.Add64"], unfollowed := true, recurses := true, apart := false, narrowed := true }
def FhistBackUptoSaid : Prop := fhistBackUptoRow.holds Try.pinned (OpenSpec.upto fhistBackSpec)

/-- 'tidepolelaw10.FhistFrom', WHERE WHAT IT READS IS OF BULK AT MOST 1048576: true; the input reads as it did. -/
def fhistFromUptoRow : OpenClaim := { program := "ytacgeafjilipdaa", sum := "1af6e9fb3a0c736b6bd0b6a2c33ba599d80996d67dce46050cff46428992a1d5", func := "tidepole/tidepolelaw10.FhistFrom", spec := "fhistFrom", inPlace := ["math.Float64frombits", "math.archTrunc", "math.Float64bits", "math/bits.Add64"], unfollowed := true, recurses := true, apart := false, narrowed := true }
def FhistFromUptoSaid : Prop := fhistFromUptoRow.holds Try.pinned (OpenSpec.upto fhistFromSpec)

end Rows
end Go.Proofs.Ytacgeafjilipdaa
