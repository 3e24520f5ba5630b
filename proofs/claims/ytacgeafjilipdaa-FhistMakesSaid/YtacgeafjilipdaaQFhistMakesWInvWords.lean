/- Words that the proof of FhistMakes leans on. -/
import Derived.Test.YtacgeafjilipdaaQFhistMakesWInv
import Derived.Test.YtacgeafjilipdaaQFhistMakesWFootNe
namespace Go.Proofs.YtacgeafjilipdaaW.PrintWords
open Go.RowKit
end Go.Proofs.YtacgeafjilipdaaW.PrintWords
namespace Go.Proofs.YtacgeafjilipdaaW.PrintLast
section
variable {ops : Array Oper} {a : Act} {o og : Oper} {g : Nat} {t : Tmp} {u : Bool}
end
end Go.Proofs.YtacgeafjilipdaaW.PrintLast
