/- The plain statement that is left of the law QueueOrder, once its walk is printed. -/
import Derived.Test.YtefigckobfaodaaRQQueueOrder
import Derived.Test.YtefigckobfaodaaQx13
namespace Go.Proofs.Ytefigckobfaodaa.Q
open Go.ChangeShapes Go.WideShapes Go.ChangeAt Go.RowKit Go.Deep Go.Proofs.YtefigckobfaodaaW.PrintWords Go.Proofs.YtefigckobfaodaaW.PrintLast
open Go.ChangeMaps (open_string shut_string)
def QueueOrder_Stmt : Prop := ∀ (x0 : Int) (x1 : Int) (x2 : (List S25)), (Lit.int .i64 x0).wf = true → (Lit.int .i64 x1).wf = true → (x2.length ≤ maxLen ∧ ∀ y ∈ x2, Q25 y) → ∃ k, pacemakerlaw28_QueueOrder.f k x0 x1 x2 = some true
end Go.Proofs.Ytefigckobfaodaa.Q
