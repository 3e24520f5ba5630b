/- Words that the proof of FhistOver leans on. -/
import Derived.Test.YtacgeafjilipdaaQFhistOverWInv
import Derived.Test.YtacgeafjilipdaaQFhistOverWFootNe
namespace Go.Proofs.YtacgeafjilipdaaW.PrintWords
open Go.RowKit
end Go.Proofs.YtacgeafjilipdaaW.PrintWords
namespace Go.Proofs.YtacgeafjilipdaaW.PrintLast
section
variable {ops : Array Oper} {a : Act} {o og : Oper} {g : Nat} {t : Tmp} {u : Bool}
end
end Go.Proofs.YtacgeafjilipdaaW.PrintLast
