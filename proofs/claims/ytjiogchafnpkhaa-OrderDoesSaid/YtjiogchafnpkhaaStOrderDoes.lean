/- The plain statement that is left of the law OrderDoes, once its walk is printed. -/
import Derived.Test.YtjiogchafnpkhaaRDOrderDoes
import Derived.Test.YtjiogchafnpkhaaL4
namespace Go.Proofs.Ytjiogchafnpkhaa.D
open Go.ChangeShapes Go.WideShapes Go.ChangeAt Go.RowKit Go.Deep Go.Proofs.YtjiogchafnpkhaaW.PrintWords Go.Proofs.YtjiogchafnpkhaaW.PrintLast
open Go.ChangeMaps (open_string shut_string)
def OrderDoes_Stmt : Prop := ∀ (x0 : Int) (x1 : Int) (x2 : S45) (x3 : S25), (Lit.int .i64 x0).wf = true → (Lit.int .i64 x1).wf = true → Q45 x2 → Q25 x3 → ∃ k, pacemakerlaw07_OrderDoes.f k x0 x1 x2.f0 x2.f1 x2.f2 x2.f3 x3.f0 x3.f1 x3.f2 x3.f3 x3.f4 = some true
end Go.Proofs.Ytjiogchafnpkhaa.D
