/- Words that the proof of RankRises leans on. -/
import Derived.Test.YtcabapilejagkaaQRankRisesWWords
import Derived.Laws.StructEq
namespace Go.Proofs.YtcabapilejagkaaW.PrintWords
open Go.RowKit
section
variable {P : Program} {d : Nat} {xs ys : Array Value} {f : Field} {fs : List Field} {a b : Value} {r s : Bool} {w : World}
end
end Go.Proofs.YtcabapilejagkaaW.PrintWords
