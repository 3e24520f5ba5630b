/- PairsFinds, the pure part. No condition. -/
import Derived.Test.YtacgeafjilipdaaMLPairsFinds
import Derived.Test.YtacgeafjilipdaaMOpen
namespace Go.Proofs.Ytacgeafjilipdaa.Pure
open Go.RowKit Go.Proofs.Ytacgeafjilipdaa.P Go.Proofs.YtacgeafjilipdaaW.PrintWords
theorem PairsFinds : ∀ (x0 : List (S26)) (a1 : Int) (a2 : Int), (fun xs_ => ∀ x_ ∈ xs_, wf26 x_) x0 → (inI .i64) a1 → (inI .i64) a2 → tidepolelaw07_PairsFinds.f x0 a1 a2 = some true := fun _ _ _ _ _ _ => rfl
end Go.Proofs.Ytacgeafjilipdaa.Pure
