/- Words that the proof of LabelsApart leans on. -/
import Derived.Test.YtbfiacnmielajaaQLabelsApartWInv
import Derived.Test.YtbfiacnmielajaaQLabelsApartWFootNe
namespace Go.Proofs.YtbfiacnmielajaaW.PrintWords
open Go.RowKit
end Go.Proofs.YtbfiacnmielajaaW.PrintWords
namespace Go.Proofs.YtbfiacnmielajaaW.PrintLast
section
variable {ops : Array Oper} {a : Act} {o og : Oper} {g : Nat} {t : Tmp} {u : Bool}
end
end Go.Proofs.YtbfiacnmielajaaW.PrintLast
