/- Words that the proof of ResetGoes leans on. -/
import Derived.Test.YtacgeafjilipdaaQResetGoesWWords
import Derived.Laws.StructEq
namespace Go.Proofs.YtacgeafjilipdaaW.PrintWords
open Go.RowKit
section
variable {P : Program} {d : Nat} {xs ys : Array Value} {f : Field} {fs : List Field} {a b : Value} {r s : Bool} {w : World}
end
end Go.Proofs.YtacgeafjilipdaaW.PrintWords
