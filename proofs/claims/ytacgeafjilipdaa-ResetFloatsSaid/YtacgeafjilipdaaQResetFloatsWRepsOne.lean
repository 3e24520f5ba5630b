/- Words that the proof of ResetFloats leans on. -/
import Derived.Test.YtacgeafjilipdaaQResetFloatsWWords
namespace Go.Proofs.YtacgeafjilipdaaW.PrintWords
end Go.Proofs.YtacgeafjilipdaaW.PrintWords
