/- The plain statement of the law AccountSums. -/
import Derived.Test.YtiodmgcnpaoooaaStAccountSums
namespace Go.Proofs.Ytiodmgcnpaoooaa.Pure
open Go.RowKit Go.Proofs.YtiodmgcnpaoooaaW.PrintWords Go.Proofs.Ytiodmgcnpaoooaa.A
theorem AccountSums : AccountSums_Stmt := by
  intro _ _ _ _ _ _ 
  refine ⟨0, ?_⟩
  unfold pacemakerlaw09_AccountSums.f
  rfl
end Go.Proofs.Ytiodmgcnpaoooaa.Pure
