/- Words that the proof of ResetBoth leans on. -/
import Derived.Test.YtefiabakfpfbaaaQResetBothWWords
namespace Go.Proofs.YtefiabakfpfbaaaW.PrintWords
end Go.Proofs.YtefiabakfpfbaaaW.PrintWords
