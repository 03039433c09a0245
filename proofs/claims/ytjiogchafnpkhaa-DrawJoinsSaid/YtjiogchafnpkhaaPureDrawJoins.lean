/- The plain statement of the law DrawJoins. -/
import Derived.Test.YtjiogchafnpkhaaStDrawJoins
namespace Go.Proofs.Ytjiogchafnpkhaa.Pure
open Go.RowKit Go.Proofs.YtjiogchafnpkhaaW.PrintWords Go.Proofs.Ytjiogchafnpkhaa.D
theorem DrawJoins : DrawJoins_Stmt := by
  intro s n m _ _ _
  refine ⟨0, ?_⟩
  unfold pacemakerlaw06_DrawJoins.f
  rfl
end Go.Proofs.Ytjiogchafnpkhaa.Pure
