/- The plain statement of the law AccountOrder. -/
import Derived.Test.YtiodmgcnpaoooaaStAccountOrder
namespace Go.Proofs.Ytiodmgcnpaoooaa.Pure
open Go.RowKit Go.Proofs.YtiodmgcnpaoooaaW.PrintWords Go.Proofs.Ytiodmgcnpaoooaa.A
theorem AccountOrder : AccountOrder_Stmt := by
  intro x0 _ _ q0 _ _
  refine ⟨0, ?_⟩
  unfold pacemakerlaw09_AccountOrder.f
  exact if_pos (bounds_i64 q0.2.2.2.2.2.2.2.2.2.1).1
end Go.Proofs.Ytiodmgcnpaoooaa.Pure
