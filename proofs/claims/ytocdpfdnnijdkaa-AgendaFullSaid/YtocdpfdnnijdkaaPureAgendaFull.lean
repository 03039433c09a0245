/- The plain statement of the law AgendaFull. -/
import Derived.Test.YtocdpfdnnijdkaaStAgendaFull
namespace Go.Proofs.Ytocdpfdnnijdkaa.Pure
open Go.RowKit Go.Proofs.YtocdpfdnnijdkaaW.PrintWords Go.Proofs.Ytocdpfdnnijdkaa.G
theorem AgendaFull : AgendaFull_Stmt := by
  intro _ _ _ _ 
  refine ⟨0, ?_⟩
  unfold pacemakerlaw29_AgendaFull.f
  rfl
end Go.Proofs.Ytocdpfdnnijdkaa.Pure
