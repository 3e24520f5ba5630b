/- Words that the proof of LabelsParses leans on. -/
import Derived.Test.YtbfiacnmielajaaQLabelsParsesWInv
import Derived.Test.YtbfiacnmielajaaQLabelsParsesWFootNe
namespace Go.Proofs.YtbfiacnmielajaaW.PrintWords
open Go.RowKit
end Go.Proofs.YtbfiacnmielajaaW.PrintWords
namespace Go.Proofs.YtbfiacnmielajaaW.PrintLast
section
variable {ops : Array Oper} {a : Act} {o og : Oper} {g : Nat} {t : Tmp} {u : Bool}
end
end Go.Proofs.YtbfiacnmielajaaW.PrintLast
