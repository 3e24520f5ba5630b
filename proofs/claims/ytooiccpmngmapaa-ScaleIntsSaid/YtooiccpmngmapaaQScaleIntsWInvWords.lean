/- Words that the proof of ScaleInts leans on. -/
import Derived.Test.YtooiccpmngmapaaQScaleIntsWInv
import Derived.Test.YtooiccpmngmapaaQScaleIntsWFootNe
namespace Go.Proofs.YtooiccpmngmapaaW.PrintWords
open Go.RowKit
end Go.Proofs.YtooiccpmngmapaaW.PrintWords
namespace Go.Proofs.YtooiccpmngmapaaW.PrintLast
end Go.Proofs.YtooiccpmngmapaaW.PrintLast