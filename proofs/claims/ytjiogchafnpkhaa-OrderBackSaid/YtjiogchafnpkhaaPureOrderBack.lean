/- The plain statement of the law OrderBack. -/
import Derived.Test.YtjiogchafnpkhaaStOrderBack
namespace Go.Proofs.Ytjiogchafnpkhaa.Pure
open Go.RowKit Go.Proofs.YtjiogchafnpkhaaW.PrintWords Go.Proofs.Ytjiogchafnpkhaa.D
theorem OrderBack : OrderBack_Stmt := by
  intro _ _ _ _ _ _ 
  refine ⟨0, ?_⟩
  unfold pacemakerlaw07_OrderBack.f
  rfl
end Go.Proofs.Ytjiogchafnpkhaa.Pure
