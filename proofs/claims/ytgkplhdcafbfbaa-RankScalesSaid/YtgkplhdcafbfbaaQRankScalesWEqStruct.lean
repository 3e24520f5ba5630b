/- Words that the proof of RankScales leans on. -/
import Derived.Test.YtgkplhdcafbfbaaQRankScalesWWords
import Derived.Laws.StructEq
namespace Go.Proofs.YtgkplhdcafbfbaaW.PrintWords
open Go.RowKit
section
variable {P : Program} {d : Nat} {xs ys : Array Value} {f : Field} {fs : List Field} {a b : Value} {r s : Bool} {w : World}
end
end Go.Proofs.YtgkplhdcafbfbaaW.PrintWords
