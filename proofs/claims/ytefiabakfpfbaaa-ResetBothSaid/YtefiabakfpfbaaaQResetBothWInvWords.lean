/- Words that the proof of ResetBoth leans on. -/
import Derived.Test.YtefiabakfpfbaaaQResetBothWInv
import Derived.Test.YtefiabakfpfbaaaQResetBothWFootNe
namespace Go.Proofs.YtefiabakfpfbaaaW.PrintWords
open Go.RowKit
end Go.Proofs.YtefiabakfpfbaaaW.PrintWords
namespace Go.Proofs.YtefiabakfpfbaaaW.PrintLast
section
variable {ops : Array Oper} {a : Act} {o og : Oper} {g : Nat} {t : Tmp} {u : Bool}
end
end Go.Proofs.YtefiabakfpfbaaaW.PrintLast
