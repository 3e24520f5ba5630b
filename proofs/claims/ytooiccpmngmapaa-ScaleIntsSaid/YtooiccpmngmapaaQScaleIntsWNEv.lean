/- Words that the proof of ScaleInts leans on. -/
import Derived.Test.YtooiccpmngmapaaQScaleIntsWN
namespace Go.Proofs.YtooiccpmngmapaaW.PrintWords
open Go.RowKit
namespace Kd
end Kd
end Go.Proofs.YtooiccpmngmapaaW.PrintWords