/- The plain statement of the law OrderHalves. -/
import Derived.Test.YtjiogchafnpkhaaStOrderHalves
namespace Go.Proofs.Ytjiogchafnpkhaa.Pure
open Go.RowKit Go.Proofs.YtjiogchafnpkhaaW.PrintWords Go.Proofs.Ytjiogchafnpkhaa.D
theorem OrderHalves : OrderHalves_Stmt := by
  intro _ _ 
  refine ⟨0, ?_⟩
  unfold pacemakerlaw07_OrderHalves.f
  rfl
end Go.Proofs.Ytjiogchafnpkhaa.Pure
