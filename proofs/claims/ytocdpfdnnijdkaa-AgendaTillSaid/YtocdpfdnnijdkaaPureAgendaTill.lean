/- The plain statement of the law AgendaTill. -/
import Derived.Test.YtocdpfdnnijdkaaStAgendaTill
namespace Go.Proofs.Ytocdpfdnnijdkaa.Pure
open Go.RowKit Go.Proofs.YtocdpfdnnijdkaaW.PrintWords Go.Proofs.Ytocdpfdnnijdkaa.G
theorem AgendaTill : AgendaTill_Stmt := by
  intro _ _ _ _
  refine ⟨0, ?_⟩
  unfold pacemakerlaw29_AgendaTill.f
  rfl
end Go.Proofs.Ytocdpfdnnijdkaa.Pure
