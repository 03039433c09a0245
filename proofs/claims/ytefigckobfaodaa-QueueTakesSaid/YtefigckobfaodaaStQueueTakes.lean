/- The plain statement that is left of the law QueueTakes, once its walk is printed. -/
import Derived.Test.YtefigckobfaodaaRQQueueTakes
import Derived.Test.YtefigckobfaodaaQx16
namespace Go.Proofs.Ytefigckobfaodaa.Q
open Go.ChangeShapes Go.WideShapes Go.ChangeAt Go.RowKit Go.Deep Go.Proofs.YtefigckobfaodaaW.PrintWords Go.Proofs.YtefigckobfaodaaW.PrintLast
open Go.ChangeMaps (open_string shut_string)
def QueueTakes_Stmt : Prop := ∀ (x0 : Int) (x1 : S23) (x2 : Int) (x3 : Int), (Lit.int .i64 x0).wf = true → Q23 x1 → (Lit.int .i64 x2).wf = true → (Lit.int .i64 x3).wf = true → ∃ k, pacemakerlaw28_QueueTakes.f k x0 x1.f0 x1.f1 x2 x3 = some true
end Go.Proofs.Ytefigckobfaodaa.Q
