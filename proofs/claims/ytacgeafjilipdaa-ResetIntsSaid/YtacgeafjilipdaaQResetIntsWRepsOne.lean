/- Words that the proof of ResetInts leans on. -/
import Derived.Test.YtacgeafjilipdaaQResetIntsWWords
namespace Go.Proofs.YtacgeafjilipdaaW.PrintWords
end Go.Proofs.YtacgeafjilipdaaW.PrintWords
