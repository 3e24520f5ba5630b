/- Words that the proof of ScaleFloats leans on. -/
import Derived.Test.YtooiccpmngmapaaQScaleFloatsWTab
namespace Go.Proofs.YtooiccpmngmapaaW.PrintLast
end Go.Proofs.YtooiccpmngmapaaW.PrintLast