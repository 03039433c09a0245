/- The plain statement that is left of the law AgendaSorts, once its walk is printed. -/
import Derived.Test.YtocdpfdnnijdkaaRGAgendaSorts
import Derived.Test.YtocdpfdnnijdkaaH3
namespace Go.Proofs.Ytocdpfdnnijdkaa.G
open Go.ChangeShapes Go.WideShapes Go.ChangeAt Go.RowKit Go.Deep Go.Proofs.YtocdpfdnnijdkaaW.PrintWords Go.Proofs.YtocdpfdnnijdkaaW.PrintLast
open Go.ChangeMaps (open_string shut_string)
def AgendaSorts_Stmt : Prop := ∀ (x0 : (List Int)), (x0.length ≤ maxLen ∧ ∀ y ∈ x0, (Lit.int .i64 y).wf = true) → ∃ k, pacemakerlaw29_AgendaSorts.f k x0 = some true
end Go.Proofs.Ytocdpfdnnijdkaa.G
