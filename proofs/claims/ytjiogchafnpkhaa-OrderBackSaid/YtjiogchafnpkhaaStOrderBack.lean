/- The plain statement that is left of the law OrderBack, once its walk is printed. -/
import Derived.Test.YtjiogchafnpkhaaRDOrderBack
import Derived.Test.YtjiogchafnpkhaaL1
namespace Go.Proofs.Ytjiogchafnpkhaa.D
open Go.ChangeShapes Go.WideShapes Go.ChangeAt Go.RowKit Go.Deep Go.Proofs.YtjiogchafnpkhaaW.PrintWords Go.Proofs.YtjiogchafnpkhaaW.PrintLast
open Go.ChangeMaps (open_string shut_string)
def OrderBack_Stmt : Prop := ∀ (x0 : S45) (x1 : Int) (x2 : Int), Q45 x0 → (Lit.int .i64 x1).wf = true → (Lit.int .i64 x2).wf = true → ∃ k, pacemakerlaw07_OrderBack.f k x0.f0 x0.f1 x0.f2 x0.f3 x1 x2 = some true
end Go.Proofs.Ytjiogchafnpkhaa.D
