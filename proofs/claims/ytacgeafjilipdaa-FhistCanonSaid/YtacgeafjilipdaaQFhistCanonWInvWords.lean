/- Words that the proof of FhistCanon leans on. -/
import Derived.Test.YtacgeafjilipdaaQFhistCanonWInv
import Derived.Test.YtacgeafjilipdaaQFhistCanonWFootNe
namespace Go.Proofs.YtacgeafjilipdaaW.PrintWords
open Go.RowKit
end Go.Proofs.YtacgeafjilipdaaW.PrintWords
namespace Go.Proofs.YtacgeafjilipdaaW.PrintLast
section
variable {ops : Array Oper} {a : Act} {o og : Oper} {g : Nat} {t : Tmp} {u : Bool}
end
end Go.Proofs.YtacgeafjilipdaaW.PrintLast
