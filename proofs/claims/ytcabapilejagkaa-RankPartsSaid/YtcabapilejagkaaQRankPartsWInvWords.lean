/- Words that the proof of RankParts leans on. -/
import Derived.Test.YtcabapilejagkaaQRankPartsWInv
import Derived.Test.YtcabapilejagkaaQRankPartsWFootNe
namespace Go.Proofs.YtcabapilejagkaaW.PrintWords
open Go.RowKit
end Go.Proofs.YtcabapilejagkaaW.PrintWords
namespace Go.Proofs.YtcabapilejagkaaW.PrintLast
section
variable {ops : Array Oper} {a : Act} {o og : Oper} {g : Nat} {t : Tmp} {u : Bool}
end
end Go.Proofs.YtcabapilejagkaaW.PrintLast
