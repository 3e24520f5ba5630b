/- Words that the proof of ScaleInts leans on. -/
import Derived.Test.YtooiccpmngmapaaQScaleIntsWTab
namespace Go.Proofs.YtooiccpmngmapaaW.PrintLast
end Go.Proofs.YtooiccpmngmapaaW.PrintLast