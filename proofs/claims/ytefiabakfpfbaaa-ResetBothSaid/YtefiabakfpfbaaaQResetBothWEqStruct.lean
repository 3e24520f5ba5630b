/- Words that the proof of ResetBoth leans on. -/
import Derived.Test.YtefiabakfpfbaaaQResetBothWWords
import Derived.Laws.StructEq
namespace Go.Proofs.YtefiabakfpfbaaaW.PrintWords
open Go.RowKit
section
variable {P : Program} {d : Nat} {xs ys : Array Value} {f : Field} {fs : List Field} {a b : Value} {r s : Bool} {w : World}
end
end Go.Proofs.YtefiabakfpfbaaaW.PrintWords
