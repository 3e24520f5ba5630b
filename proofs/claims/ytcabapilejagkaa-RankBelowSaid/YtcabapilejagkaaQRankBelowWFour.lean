/- Words that the proof of RankBelow leans on. -/
import Derived.Test.YtcabapilejagkaaQRankBelowWTab
namespace Go.Proofs.YtcabapilejagkaaW.PrintLast
section
variable {P : Program} {ops : Array Oper} {Q : Exit → Act → World → Prop} {md : Region.Mode} {S : World → Prop} {ds : List Nat} {T : Bool × List (List Nat × List Nat)}
end
end Go.Proofs.YtcabapilejagkaaW.PrintLast
