/- Words that the proof of PairsMerge leans on. -/
import Derived.Test.YtcabapilejagkaaQPairsMergeWWords
import Derived.Laws.StructEq
namespace Go.Proofs.YtcabapilejagkaaW.PrintWords
open Go.RowKit
section
variable {P : Program} {d : Nat} {xs ys : Array Value} {f : Field} {fs : List Field} {a b : Value} {r s : Bool} {w : World}
end
end Go.Proofs.YtcabapilejagkaaW.PrintWords
