/- The plain statement of the law AccountDoes. -/
import Derived.Test.YtiodmgcnpaoooaaStAccountDoes
namespace Go.Proofs.Ytiodmgcnpaoooaa.Pure
open Go.RowKit Go.Proofs.YtiodmgcnpaoooaaW.PrintWords Go.Proofs.Ytiodmgcnpaoooaa.A
theorem AccountDoes : AccountDoes_Stmt := by
  intro _ _ _ _ _ _ _ _ 
  refine ⟨0, ?_⟩
  unfold pacemakerlaw09_AccountDoes.f
  rfl
end Go.Proofs.Ytiodmgcnpaoooaa.Pure
