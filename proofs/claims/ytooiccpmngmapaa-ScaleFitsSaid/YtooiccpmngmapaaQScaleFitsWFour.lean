/- Words that the proof of ScaleFits leans on. -/
import Derived.Test.YtooiccpmngmapaaQScaleFitsWTab
namespace Go.Proofs.YtooiccpmngmapaaW.PrintLast
section
variable {P : Program} {ops : Array Oper} {Q : Exit → Act → World → Prop} {md : Region.Mode} {S : World → Prop} {ds : List Nat} {T : Bool × List (List Nat × List Nat)}
end
end Go.Proofs.YtooiccpmngmapaaW.PrintLast
