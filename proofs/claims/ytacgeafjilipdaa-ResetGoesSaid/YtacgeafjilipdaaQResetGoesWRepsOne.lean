/- Words that the proof of ResetGoes leans on. -/
import Derived.Test.YtacgeafjilipdaaQResetGoesWWords
namespace Go.Proofs.YtacgeafjilipdaaW.PrintWords
end Go.Proofs.YtacgeafjilipdaaW.PrintWords
