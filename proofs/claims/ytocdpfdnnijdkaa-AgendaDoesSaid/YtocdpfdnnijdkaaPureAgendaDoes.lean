/- The plain statement of the law AgendaDoes. -/
import Derived.Test.YtocdpfdnnijdkaaStAgendaDoes
namespace Go.Proofs.Ytocdpfdnnijdkaa.Pure
open Go.RowKit Go.Proofs.YtocdpfdnnijdkaaW.PrintWords Go.Proofs.Ytocdpfdnnijdkaa.G
theorem AgendaDoes : AgendaDoes_Stmt := by
  intro _ _ _ _
  refine ⟨0, ?_⟩
  unfold pacemakerlaw29_AgendaDoes.f
  rfl
end Go.Proofs.Ytocdpfdnnijdkaa.Pure
