/-
  No cell of these rows narrows 'for every input' (looked for: loops, veiled, ifaces, maps, wideKeys, modest, calm, conditions, laid).
  DERIVED. THE GIVEN ROWS OF THIS SEAT. 6 by the template 'for every input the law returns true; each argument reads behind the call as it read before'; 0 by the template 'total and deterministic' (their statements: YtbfiacnmielajaaTotals.lean).
  GIVEN WITH THE SEED: the statements are not yours to turn. If you find one false, say at which input.
  Laid BY PROGRAM, IN A SANDBOX (cutbox-rows.mjs): the forced cells as the released guide's own fill.sh prints them over the translation 6eb45f8fca04d6a3… (all of the seat's roots in one cut). By AI agents, Wed Nov 11 2026. No macro, syntax, notation, axiom, sorry.
-/
import Derived.Test.YtbfiacnmielajaaChecked
import GoSem.Claim
import GoSem.ClaimJoined
import GoSem.ClaimMapViews
import Derived.JoinedTies
import Derived.KernelRfl
namespace Go.Proofs.Ytbfiacnmielajaa
/- THE CELL 'sum', in the pinned program and in every row, IS THE sha256 OF THE DUMP (.gsa) THAT YtbfiacnmielajaaProg.lean LOADS. Nothing in Lean hashes anything: it is a label: what it is worth is what the hold of that sum in a sandbox is worth. -/
noncomputable def Try.pinned : Pinned := { name := "ytbfiacnmielajaa", sum := "6eb45f8fca04d6a37bdb035b07fe2a42cf015aaf6c527fdab35522efe60e83bf", checked := Try.checked }
namespace Rows
def none {H : Type} : Left H := { results := [], args := [] }

/-- 'tidepolelaw30.LabelsTexts': WHATEVER THE INPUT: true; the input reads as it did. -/
def labelsTextsSpec : ChangeSpec := { name := "labelsTexts", fn := fun _ => fun
  | [d] => { results := [.lit (.bool true)], args := [d] }
  | _ => none }
def labelsTextsRow : OpenClaim := { program := "ytbfiacnmielajaa", sum := "6eb45f8fca04d6a37bdb035b07fe2a42cf015aaf6c527fdab35522efe60e83bf", func := "tidepole/tidepolelaw30.LabelsTexts", spec := "labelsTexts", inPlace := ["internal/abi.NoEscape", "internal/bytealg.MakeNoZero", "internal/bytealg.IndexByteString", "internal/bytealg.IndexString", "internal/bytealg.abigen_runtime_cmpstring"], unfollowed := true, recurses := true, named := ["internal/bytealg.MaxLen"], apart := false }
def LabelsTextsSaid : Prop := labelsTextsRow.holds Try.pinned (OpenSpec.ofChange labelsTextsSpec)

/-- ITS FALSE NEIGHBOUR: 'it returns false'. Refute it at one input. -/
def labelsTextsWrong : ChangeSpec := { name := "labelsTexts", fn := fun _ => fun
  | [d] => { results := [.lit (.bool false)], args := [d] }
  | _ => none }
def LabelsTextsWrongFalsely : Prop := labelsTextsRow.holds Try.pinned (OpenSpec.ofChange labelsTextsWrong)

/-- 'tidepolelaw30.LabelsParses': WHATEVER THE INPUT: true; the input reads as it did. -/
def labelsParsesSpec : ChangeSpec := { name := "labelsParses", fn := fun _ => fun
  | [d] => { results := [.lit (.bool true)], args := [d] }
  | _ => none }
def labelsParsesRow : OpenClaim := { program := "ytbfiacnmielajaa", sum := "6eb45f8fca04d6a37bdb035b07fe2a42cf015aaf6c527fdab35522efe60e83bf", func := "tidepole/tidepolelaw30.LabelsParses", spec := "labelsParses", inPlace := ["internal/abi.NoEscape", "internal/bytealg.MakeNoZero", "internal/bytealg.IndexByteString", "internal/bytealg.IndexString", "internal/bytealg.abigen_runtime_cmpstring"], unfollowed := true, recurses := true, named := ["internal/bytealg.MaxLen"], apart := false }
def LabelsParsesSaid : Prop := labelsParsesRow.holds Try.pinned (OpenSpec.ofChange labelsParsesSpec)

/-- ITS FALSE NEIGHBOUR: 'it returns false'. Refute it at one input. -/
def labelsParsesWrong : ChangeSpec := { name := "labelsParses", fn := fun _ => fun
  | [d] => { results := [.lit (.bool false)], args := [d] }
  | _ => none }
def LabelsParsesWrongFalsely : Prop := labelsParsesRow.holds Try.pinned (OpenSpec.ofChange labelsParsesWrong)

/-- 'tidepolelaw30.LabelsMatches': WHATEVER THE INPUT: true; the input reads as it did. -/
def labelsMatchesSpec : ChangeSpec := { name := "labelsMatches", fn := fun _ => fun
  | [d1, d2, d3] => { results := [.lit (.bool true)], args := [d1, d2, d3] }
  | _ => none }
def labelsMatchesRow : OpenClaim := { program := "ytbfiacnmielajaa", sum := "6eb45f8fca04d6a37bdb035b07fe2a42cf015aaf6c527fdab35522efe60e83bf", func := "tidepole/tidepolelaw30.LabelsMatches", spec := "labelsMatches", inPlace := ["internal/abi.NoEscape", "internal/bytealg.MakeNoZero", "internal/bytealg.IndexByteString", "internal/bytealg.IndexString", "internal/bytealg.abigen_runtime_cmpstring"], unfollowed := true, recurses := true, named := ["internal/bytealg.MaxLen"], apart := false }
def LabelsMatchesSaid : Prop := labelsMatchesRow.holds Try.pinned (OpenSpec.ofChange labelsMatchesSpec)

/-- ITS FALSE NEIGHBOUR: 'it returns false'. Refute it at one input. -/
def labelsMatchesWrong : ChangeSpec := { name := "labelsMatches", fn := fun _ => fun
  | [d1, d2, d3] => { results := [.lit (.bool false)], args := [d1, d2, d3] }
  | _ => none }
def LabelsMatchesWrongFalsely : Prop := labelsMatchesRow.holds Try.pinned (OpenSpec.ofChange labelsMatchesWrong)

/-- 'tidepolelaw30.LabelsOrder': WHATEVER THE INPUT: true; the input reads as it did. -/
def labelsOrderSpec : ChangeSpec := { name := "labelsOrder", fn := fun _ => fun
  | [d1, d2, d3] => { results := [.lit (.bool true)], args := [d1, d2, d3] }
  | _ => none }
def labelsOrderRow : OpenClaim := { program := "ytbfiacnmielajaa", sum := "6eb45f8fca04d6a37bdb035b07fe2a42cf015aaf6c527fdab35522efe60e83bf", func := "tidepole/tidepolelaw30.LabelsOrder", spec := "labelsOrder", inPlace := ["internal/abi.NoEscape", "internal/bytealg.MakeNoZero", "internal/bytealg.IndexByteString", "internal/bytealg.IndexString", "internal/bytealg.abigen_runtime_cmpstring"], unfollowed := true, recurses := true, named := ["internal/bytealg.MaxLen"], apart := false }
def LabelsOrderSaid : Prop := labelsOrderRow.holds Try.pinned (OpenSpec.ofChange labelsOrderSpec)

/-- ITS FALSE NEIGHBOUR: 'it returns false'. Refute it at one input. -/
def labelsOrderWrong : ChangeSpec := { name := "labelsOrder", fn := fun _ => fun
  | [d1, d2, d3] => { results := [.lit (.bool false)], args := [d1, d2, d3] }
  | _ => none }
def LabelsOrderWrongFalsely : Prop := labelsOrderRow.holds Try.pinned (OpenSpec.ofChange labelsOrderWrong)

/-- 'tidepolelaw30.LabelsApart': WHATEVER THE INPUT: true; the input reads as it did. -/
def labelsApartSpec : ChangeSpec := { name := "labelsApart", fn := fun _ => fun
  | [d1, d2] => { results := [.lit (.bool true)], args := [d1, d2] }
  | _ => none }
def labelsApartRow : OpenClaim := { program := "ytbfiacnmielajaa", sum := "6eb45f8fca04d6a37bdb035b07fe2a42cf015aaf6c527fdab35522efe60e83bf", func := "tidepole/tidepolelaw30.LabelsApart", spec := "labelsApart", inPlace := ["internal/abi.NoEscape", "internal/bytealg.MakeNoZero", "internal/bytealg.IndexByteString", "internal/bytealg.IndexString", "internal/bytealg.abigen_runtime_cmpstring"], unfollowed := true, recurses := true, named := ["internal/bytealg.MaxLen"], apart := false }
def LabelsApartSaid : Prop := labelsApartRow.holds Try.pinned (OpenSpec.ofChange labelsApartSpec)

/-- ITS FALSE NEIGHBOUR: 'it returns false'. Refute it at one input. -/
def labelsApartWrong : ChangeSpec := { name := "labelsApart", fn := fun _ => fun
  | [d1, d2] => { results := [.lit (.bool false)], args := [d1, d2] }
  | _ => none }
def LabelsApartWrongFalsely : Prop := labelsApartRow.holds Try.pinned (OpenSpec.ofChange labelsApartWrong)

/-- 'tidepolelaw30.LabelsMatchers': WHATEVER THE INPUT: true; the input reads as it did. -/
def labelsMatchersSpec : ChangeSpec := { name := "labelsMatchers", fn := fun _ => fun
  | [d] => { results := [.lit (.bool true)], args := [d] }
  | _ => none }
def labelsMatchersRow : OpenClaim := { program := "ytbfiacnmielajaa", sum := "6eb45f8fca04d6a37bdb035b07fe2a42cf015aaf6c527fdab35522efe60e83bf", func := "tidepole/tidepolelaw30.LabelsMatchers", spec := "labelsMatchers", inPlace := ["internal/abi.NoEscape", "internal/bytealg.MakeNoZero", "internal/bytealg.IndexByteString", "internal/bytealg.IndexString", "internal/bytealg.abigen_runtime_cmpstring"], unfollowed := true, recurses := true, named := ["internal/bytealg.MaxLen"], apart := false }
def LabelsMatchersSaid : Prop := labelsMatchersRow.holds Try.pinned (OpenSpec.ofChange labelsMatchersSpec)

/-- ITS FALSE NEIGHBOUR: 'it returns false'. Refute it at one input. -/
def labelsMatchersWrong : ChangeSpec := { name := "labelsMatchers", fn := fun _ => fun
  | [d] => { results := [.lit (.bool false)], args := [d] }
  | _ => none }
def LabelsMatchersWrongFalsely : Prop := labelsMatchersRow.holds Try.pinned (OpenSpec.ofChange labelsMatchersWrong)

/- THE SECOND FORM. 'bulk': how many values and letters a reading holds, each counted each time it is reached (what is shared counts as often as it is met; a slice's spare places count too). A statement '..UptoSaid' is the law's where the arguments, and the package variables that the reading takes, are together of bulk at most 1048576: NARROWER than '..Said'. Prove '..Said' where nothing that the law and all that it calls make is longer than what came in: it says more and counts as full. Else prove '..UptoSaid'. A law counts once. -/
mutual
def uptoBulk {H : Type} : DataW H → Nat
  | .lit (.string bytes) => bytes.length + 1
  | .lit _ => 1
  | .nil => 1
  | .ptr d => uptoBulk d + 1
  | .slice elems spare => uptoBulkAll elems + uptoBulkAll spare + 1
  | .agg parts => uptoBulkAll parts + 1
  | .iface _ d => uptoBulk d + 1
  | .map entries => uptoBulkEntries entries + 1
  | .held _ => 1
def uptoBulkAll {H : Type} : List (DataW H) → Nat
  | [] => 0
  | d :: r => uptoBulk d + uptoBulkAll r
def uptoBulkEntries {H : Type} : List (Lit × DataW H) → Nat
  | [] => 0
  | x :: r => uptoBulkEntry x + uptoBulkEntries r
def uptoBulkEntry {H : Type} : Lit × DataW H → Nat
  | (.string bytes, d) => bytes.length + uptoBulk d + 1
  | (_, d) => uptoBulk d + 1
 end
def uptoSmall : (H : Type) → List (DataW H) → Bool := fun _ ds => decide (uptoBulkAll ds ≤ 1048576)
def OpenSpec.upto (s : _root_.Go.ChangeSpec) : _root_.Go.OpenSpec := { _root_.Go.OpenSpec.ofChange s with cond := some uptoSmall }

/-- 'tidepolelaw30.LabelsTexts', WHERE WHAT IT READS IS OF BULK AT MOST 1048576: true; the input reads as it did. -/
def labelsTextsUptoRow : OpenClaim := { program := "ytbfiacnmielajaa", sum := "6eb45f8fca04d6a37bdb035b07fe2a42cf015aaf6c527fdab35522efe60e83bf", func := "tidepole/tidepolelaw30.LabelsTexts", spec := "labelsTexts", inPlace := ["internal/abi.NoEscape", "internal/bytealg.MakeNoZero", "internal/bytealg.IndexByteString", "internal/bytealg.IndexString", "internal/bytealg.abigen_runtime_cmpstring"], unfollowed := true, recurses := true, named := ["internal/bytealg.MaxLen"], apart := false, narrowed := true }
def LabelsTextsUptoSaid : Prop := labelsTextsUptoRow.holds Try.pinned (OpenSpec.upto labelsTextsSpec)

/-- 'tidepolelaw30.LabelsParses', WHERE WHAT IT READS IS OF BULK AT MOST 1048576: true; the input reads as it did. -/
def labelsParsesUptoRow : OpenClaim := { program := "ytbfiacnmielajaa", sum := "6eb45f8fca04d6a37bdb035b07fe2a42cf015aaf6c527fdab35522efe60e83bf", func := "tidepole/tidepolelaw30.LabelsParses", spec := "labelsParses", inPlace := ["internal/abi.NoEscape", "internal/bytealg.MakeNoZero", "internal/bytealg.IndexByteString", "internal/bytealg.IndexString", "internal/bytealg.abigen_runtime_cmpstring"], unfollowed := true, recurses := true, named := ["internal/bytealg.MaxLen"], apart := false, narrowed := true }
def LabelsParsesUptoSaid : Prop := labelsParsesUptoRow.holds Try.pinned (OpenSpec.upto labelsParsesSpec)

/-- 'tidepolelaw30.LabelsMatches', WHERE WHAT IT READS IS OF BULK AT MOST 1048576: true; the input reads as it did. -/
def labelsMatchesUptoRow : OpenClaim := { program := "ytbfiacnmielajaa", sum := "6eb45f8fca04d6a37bdb035b07fe2a42cf015aaf6c527fdab35522efe60e83bf", func := "tidepole/tidepolelaw30.LabelsMatches", spec := "labelsMatches", inPlace := ["internal/abi.NoEscape", "internal/bytealg.MakeNoZero", "internal/bytealg.IndexByteString", "internal/bytealg.IndexString", "internal/bytealg.abigen_runtime_cmpstring"], unfollowed := true, recurses := true, named := ["internal/bytealg.MaxLen"], apart := false, narrowed := true }
def LabelsMatchesUptoSaid : Prop := labelsMatchesUptoRow.holds Try.pinned (OpenSpec.upto labelsMatchesSpec)

/-- 'tidepolelaw30.LabelsOrder', WHERE WHAT IT READS IS OF BULK AT MOST 1048576: true; the input reads as it did. -/
def labelsOrderUptoRow : OpenClaim := { program := "ytbfiacnmielajaa", sum := "6eb45f8fca04d6a37bdb035b07fe2a42cf015aaf6c527fdab35522efe60e83bf", func := "tidepole/tidepolelaw30.LabelsOrder", spec := "labelsOrder", inPlace := ["internal/abi.NoEscape", "internal/bytealg.MakeNoZero", "internal/bytealg.IndexByteString", "internal/bytealg.IndexString", "internal/bytealg.abigen_runtime_cmpstring"], unfollowed := true, recurses := true, named := ["internal/bytealg.MaxLen"], apart := false, narrowed := true }
def LabelsOrderUptoSaid : Prop := labelsOrderUptoRow.holds Try.pinned (OpenSpec.upto labelsOrderSpec)

/-- 'tidepolelaw30.LabelsApart', WHERE WHAT IT READS IS OF BULK AT MOST 1048576: true; the input reads as it did. -/
def labelsApartUptoRow : OpenClaim := { program := "ytbfiacnmielajaa", sum := "6eb45f8fca04d6a37bdb035b07fe2a42cf015aaf6c527fdab35522efe60e83bf", func := "tidepole/tidepolelaw30.LabelsApart", spec := "labelsApart", inPlace := ["internal/abi.NoEscape", "internal/bytealg.MakeNoZero", "internal/bytealg.IndexByteString", "internal/bytealg.IndexString", "internal/bytealg.abigen_runtime_cmpstring"], unfollowed := true, recurses := true, named := ["internal/bytealg.MaxLen"], apart := false, narrowed := true }
def LabelsApartUptoSaid : Prop := labelsApartUptoRow.holds Try.pinned (OpenSpec.upto labelsApartSpec)

/-- 'tidepolelaw30.LabelsMatchers', WHERE WHAT IT READS IS OF BULK AT MOST 1048576: true; the input reads as it did. -/
def labelsMatchersUptoRow : OpenClaim := { program := "ytbfiacnmielajaa", sum := "6eb45f8fca04d6a37bdb035b07fe2a42cf015aaf6c527fdab35522efe60e83bf", func := "tidepole/tidepolelaw30.LabelsMatchers", spec := "labelsMatchers", inPlace := ["internal/abi.NoEscape", "internal/bytealg.MakeNoZero", "internal/bytealg.IndexByteString", "internal/bytealg.IndexString", "internal/bytealg.abigen_runtime_cmpstring"], unfollowed := true, recurses := true, named := ["internal/bytealg.MaxLen"], apart := false, narrowed := true }
def LabelsMatchersUptoSaid : Prop := labelsMatchersUptoRow.holds Try.pinned (OpenSpec.upto labelsMatchersSpec)

end Rows
end Go.Proofs.Ytbfiacnmielajaa
