/- The plain statement that is left of the law QueueDoes, once its walk is printed. -/
import Derived.Test.YtefigckobfaodaaRQQueueDoes
import Derived.Test.YtefigckobfaodaaQx12
namespace Go.Proofs.Ytefigckobfaodaa.Q
open Go.ChangeShapes Go.WideShapes Go.ChangeAt Go.RowKit Go.Deep Go.Proofs.YtefigckobfaodaaW.PrintWords Go.Proofs.YtefigckobfaodaaW.PrintLast
open Go.ChangeMaps (open_string shut_string)
def QueueDoes_Stmt : Prop := ∀ (x0 : Int) (x1 : S23) (x2 : Int) (x3 : S25) (x4 : (List S25)), (Lit.int .i64 x0).wf = true → Q23 x1 → (Lit.int .i64 x2).wf = true → Q25 x3 → (x4.length ≤ maxLen ∧ ∀ y ∈ x4, Q25 y) → ∃ k, pacemakerlaw28_QueueDoes.f k x0 x1.f0 x1.f1 x2 x3.f0 x3.f1 x4 = some true
end Go.Proofs.Ytefigckobfaodaa.Q
