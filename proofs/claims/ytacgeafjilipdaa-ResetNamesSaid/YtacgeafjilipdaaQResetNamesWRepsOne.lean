/- Words that the proof of ResetNames leans on. -/
import Derived.Test.YtacgeafjilipdaaQResetNamesWWords
namespace Go.Proofs.YtacgeafjilipdaaW.PrintWords
end Go.Proofs.YtacgeafjilipdaaW.PrintWords
