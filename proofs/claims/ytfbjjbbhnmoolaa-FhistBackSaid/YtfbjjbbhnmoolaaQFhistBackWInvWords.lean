/- Words that the proof of FhistBack leans on. -/
import Derived.Test.YtfbjjbbhnmoolaaQFhistBackWInv
import Derived.Test.YtfbjjbbhnmoolaaQFhistBackWFootNe
namespace Go.Proofs.YtfbjjbbhnmoolaaW.PrintWords
open Go.RowKit
end Go.Proofs.YtfbjjbbhnmoolaaW.PrintWords
namespace Go.Proofs.YtfbjjbbhnmoolaaW.PrintLast
section
variable {ops : Array Oper} {a : Act} {o og : Oper} {g : Nat} {t : Tmp} {u : Bool}
end
end Go.Proofs.YtfbjjbbhnmoolaaW.PrintLast
