/- The plain statement that is left of the law AgendaTill, once its walk is printed. -/
import Derived.Test.YtocdpfdnnijdkaaRGAgendaTill
import Derived.Test.YtocdpfdnnijdkaaH2
namespace Go.Proofs.Ytocdpfdnnijdkaa.G
open Go.ChangeShapes Go.WideShapes Go.ChangeAt Go.RowKit Go.Deep Go.Proofs.YtocdpfdnnijdkaaW.PrintWords Go.Proofs.YtocdpfdnnijdkaaW.PrintLast
open Go.ChangeMaps (open_string shut_string)
def AgendaTill_Stmt : Prop := ∀ (x0 : (List Int)) (x1 : Int), (x0.length ≤ maxLen ∧ ∀ y ∈ x0, (Lit.int .i64 y).wf = true) → (Lit.int .i64 x1).wf = true → ∃ k, pacemakerlaw29_AgendaTill.f k x0 x1 = some true
end Go.Proofs.Ytocdpfdnnijdkaa.G
