/- Words that the proof of ScaleFits leans on. -/
import Derived.Test.YtooiccpmngmapaaQScaleFitsWInv
import Derived.Test.YtooiccpmngmapaaQScaleFitsWFootNe
namespace Go.Proofs.YtooiccpmngmapaaW.PrintWords
open Go.RowKit
end Go.Proofs.YtooiccpmngmapaaW.PrintWords
namespace Go.Proofs.YtooiccpmngmapaaW.PrintLast
section
variable {ops : Array Oper} {a : Act} {o og : Oper} {g : Nat} {t : Tmp} {u : Bool}
end
end Go.Proofs.YtooiccpmngmapaaW.PrintLast
