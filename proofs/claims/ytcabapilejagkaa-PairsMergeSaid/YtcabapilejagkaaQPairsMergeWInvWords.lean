/- Words that the proof of PairsMerge leans on. -/
import Derived.Test.YtcabapilejagkaaQPairsMergeWInv
import Derived.Test.YtcabapilejagkaaQPairsMergeWFootNe
namespace Go.Proofs.YtcabapilejagkaaW.PrintWords
open Go.RowKit
end Go.Proofs.YtcabapilejagkaaW.PrintWords
namespace Go.Proofs.YtcabapilejagkaaW.PrintLast
section
variable {ops : Array Oper} {a : Act} {o og : Oper} {g : Nat} {t : Tmp} {u : Bool}
end
end Go.Proofs.YtcabapilejagkaaW.PrintLast
