/- The plain statement that is left of the law AgendaDoes, once its walk is printed. -/
import Derived.Test.YtocdpfdnnijdkaaRGAgendaDoes
import Derived.Test.YtocdpfdnnijdkaaH5
namespace Go.Proofs.Ytocdpfdnnijdkaa.G
open Go.ChangeShapes Go.WideShapes Go.ChangeAt Go.RowKit Go.Deep Go.Proofs.YtocdpfdnnijdkaaW.PrintWords Go.Proofs.YtocdpfdnnijdkaaW.PrintLast
open Go.ChangeMaps (open_string shut_string)
def AgendaDoes_Stmt : Prop := ∀ (x0 : Int) (x1 : (List S40)), (Lit.int .i64 x0).wf = true → (x1.length ≤ maxLen ∧ ∀ y ∈ x1, Q40 y) → ∃ k, pacemakerlaw29_AgendaDoes.f k x0 x1 = some true
end Go.Proofs.Ytocdpfdnnijdkaa.G
