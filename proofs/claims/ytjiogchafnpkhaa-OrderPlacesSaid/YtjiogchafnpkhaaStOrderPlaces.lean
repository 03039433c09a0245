/- The plain statement that is left of the law OrderPlaces, once its walk is printed. -/
import Derived.Test.YtjiogchafnpkhaaRDOrderPlaces
import Derived.Test.YtjiogchafnpkhaaL3
namespace Go.Proofs.Ytjiogchafnpkhaa.D
open Go.ChangeShapes Go.WideShapes Go.ChangeAt Go.RowKit Go.Deep Go.Proofs.YtjiogchafnpkhaaW.PrintWords Go.Proofs.YtjiogchafnpkhaaW.PrintLast
open Go.ChangeMaps (open_string shut_string)
def OrderPlaces_Stmt : Prop := ∀ (x0 : (List Int)) (x1 : Int), (x0.length ≤ maxLen ∧ ∀ y ∈ x0, (Lit.int .u64 y).wf = true) → (Lit.int .i64 x1).wf = true → ∃ k, pacemakerlaw07_OrderPlaces.f k x0 x1 = some true
end Go.Proofs.Ytjiogchafnpkhaa.D
