/- The plain statement that is left of the law OrderHalves, once its walk is printed. -/
import Derived.Test.YtjiogchafnpkhaaRDOrderHalves
import Derived.Test.YtjiogchafnpkhaaL2
namespace Go.Proofs.Ytjiogchafnpkhaa.D
open Go.ChangeShapes Go.WideShapes Go.ChangeAt Go.RowKit Go.Deep Go.Proofs.YtjiogchafnpkhaaW.PrintWords Go.Proofs.YtjiogchafnpkhaaW.PrintLast
open Go.ChangeMaps (open_string shut_string)
def OrderHalves_Stmt : Prop := ∀ (x0 : S25), Q25 x0 → ∃ k, pacemakerlaw07_OrderHalves.f k x0.f0 x0.f1 x0.f2 x0.f3 x0.f4 = some true
end Go.Proofs.Ytjiogchafnpkhaa.D
