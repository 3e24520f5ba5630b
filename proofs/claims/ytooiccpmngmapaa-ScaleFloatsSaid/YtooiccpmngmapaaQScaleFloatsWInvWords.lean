/- Words that the proof of ScaleFloats leans on. -/
import Derived.Test.YtooiccpmngmapaaQScaleFloatsWInv
import Derived.Test.YtooiccpmngmapaaQScaleFloatsWFootNe
namespace Go.Proofs.YtooiccpmngmapaaW.PrintWords
open Go.RowKit
end Go.Proofs.YtooiccpmngmapaaW.PrintWords
namespace Go.Proofs.YtooiccpmngmapaaW.PrintLast
end Go.Proofs.YtooiccpmngmapaaW.PrintLast