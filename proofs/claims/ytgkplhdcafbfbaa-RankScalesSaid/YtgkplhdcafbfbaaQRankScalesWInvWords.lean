/- Words that the proof of RankScales leans on. -/
import Derived.Test.YtgkplhdcafbfbaaQRankScalesWInv
import Derived.Test.YtgkplhdcafbfbaaQRankScalesWFootNe
namespace Go.Proofs.YtgkplhdcafbfbaaW.PrintWords
open Go.RowKit
end Go.Proofs.YtgkplhdcafbfbaaW.PrintWords
namespace Go.Proofs.YtgkplhdcafbfbaaW.PrintLast
section
variable {ops : Array Oper} {a : Act} {o og : Oper} {g : Nat} {t : Tmp} {u : Bool}
end
end Go.Proofs.YtgkplhdcafbfbaaW.PrintLast
