/- Words that the proof of ScaleResets leans on. -/
import Derived.Test.YtgkplhdcafbfbaaQScaleResetsWInv
import Derived.Test.YtgkplhdcafbfbaaQScaleResetsWFootNe
namespace Go.Proofs.YtgkplhdcafbfbaaW.PrintWords
open Go.RowKit
end Go.Proofs.YtgkplhdcafbfbaaW.PrintWords
namespace Go.Proofs.YtgkplhdcafbfbaaW.PrintLast
section
variable {ops : Array Oper} {a : Act} {o og : Oper} {g : Nat} {t : Tmp} {u : Bool}
end
end Go.Proofs.YtgkplhdcafbfbaaW.PrintLast
