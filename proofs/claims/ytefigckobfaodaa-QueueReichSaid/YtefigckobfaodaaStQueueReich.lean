/- The plain statement that is left of the law QueueReich, once its walk is printed. -/
import Derived.Test.YtefigckobfaodaaRQQueueReich
import Derived.Test.YtefigckobfaodaaQx14
namespace Go.Proofs.Ytefigckobfaodaa.Q
open Go.ChangeShapes Go.WideShapes Go.ChangeAt Go.RowKit Go.Deep Go.Proofs.YtefigckobfaodaaW.PrintWords Go.Proofs.YtefigckobfaodaaW.PrintLast
open Go.ChangeMaps (open_string shut_string)
def QueueReich_Stmt : Prop := ∀ (x0 : Int) (x1 : Int) (x2 : (List S25)) (x3 : Int), (Lit.int .i64 x0).wf = true → (Lit.int .i64 x1).wf = true → (x2.length ≤ maxLen ∧ ∀ y ∈ x2, Q25 y) → (Lit.int .i64 x3).wf = true → ∃ k, pacemakerlaw28_QueueReich.f k x0 x1 x2 x3 = some true
end Go.Proofs.Ytefigckobfaodaa.Q
