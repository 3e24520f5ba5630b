/- Words that the proof of RankBelow leans on. -/
import Derived.Test.YtcabapilejagkaaQRankBelowWInv
import Derived.Test.YtcabapilejagkaaQRankBelowWFootNe
namespace Go.Proofs.YtcabapilejagkaaW.PrintWords
open Go.RowKit
end Go.Proofs.YtcabapilejagkaaW.PrintWords
namespace Go.Proofs.YtcabapilejagkaaW.PrintLast
section
variable {ops : Array Oper} {a : Act} {o og : Oper} {g : Nat} {t : Tmp} {u : Bool}
end
end Go.Proofs.YtcabapilejagkaaW.PrintLast
