/- The plain statement of the law OrderPlaces. -/
import Derived.Test.YtjiogchafnpkhaaStOrderPlaces
namespace Go.Proofs.Ytjiogchafnpkhaa.Pure
open Go.RowKit Go.Proofs.YtjiogchafnpkhaaW.PrintWords Go.Proofs.Ytjiogchafnpkhaa.D
theorem OrderPlaces : OrderPlaces_Stmt := by
  intro _ _ _ _ 
  refine ⟨0, ?_⟩
  unfold pacemakerlaw07_OrderPlaces.f
  rfl
end Go.Proofs.Ytjiogchafnpkhaa.Pure
