/- The plain statement of the law AccountLeft. -/
import Derived.Test.YtiodmgcnpaoooaaStAccountLeft
namespace Go.Proofs.Ytiodmgcnpaoooaa.Pure
open Go.RowKit Go.Proofs.YtiodmgcnpaoooaaW.PrintWords Go.Proofs.Ytiodmgcnpaoooaa.A
theorem AccountLeft : AccountLeft_Stmt := by
  intro _ _ _ _ 
  refine ⟨0, ?_⟩
  unfold pacemakerlaw09_AccountLeft.f
  rfl
end Go.Proofs.Ytiodmgcnpaoooaa.Pure
