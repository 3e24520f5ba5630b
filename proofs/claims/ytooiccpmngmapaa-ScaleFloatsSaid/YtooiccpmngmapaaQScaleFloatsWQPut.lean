/- Words that the proof of ScaleFloats leans on. -/
import Derived.Test.YtooiccpmngmapaaQScaleFloatsWWords
import Derived.Test.YtooiccpmngmapaaQScaleFloatsWLast
namespace Go.Proofs.YtooiccpmngmapaaW.PrintWords
open Go.RowKit
namespace Kd
end Kd
end Go.Proofs.YtooiccpmngmapaaW.PrintWords