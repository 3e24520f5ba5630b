/- Words that the proof of ScaleFloats leans on. -/
import Derived.Test.YtooiccpmngmapaaQScaleFloatsWN
namespace Go.Proofs.YtooiccpmngmapaaW.PrintWords
open Go.RowKit
namespace Kd
end Kd
end Go.Proofs.YtooiccpmngmapaaW.PrintWords