/- Words that the proof of RankScales leans on. -/
import Derived.Test.YtgkplhdcafbfbaaQRankScalesWN
namespace Go.Proofs.YtgkplhdcafbfbaaW.PrintWords
open Go.RowKit
namespace Kd
section
variable {α : Type} {d : Kd α} {W : World} {g n : Nat} {S ok : Nat → Prop} {A : Option Addr} {ad : Addr} {xs : List α}
end
end Kd
end Go.Proofs.YtgkplhdcafbfbaaW.PrintWords
