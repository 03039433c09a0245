/- The plain statement that is left of the law AgendaFull, once its walk is printed. -/
import Derived.Test.YtocdpfdnnijdkaaRGAgendaFull
import Derived.Test.YtocdpfdnnijdkaaH1
namespace Go.Proofs.Ytocdpfdnnijdkaa.G
open Go.ChangeShapes Go.WideShapes Go.ChangeAt Go.RowKit Go.Deep Go.Proofs.YtocdpfdnnijdkaaW.PrintWords Go.Proofs.YtocdpfdnnijdkaaW.PrintLast
open Go.ChangeMaps (open_string shut_string)
def AgendaFull_Stmt : Prop := ∀ (x0 : Int) (x1 : S24), (Lit.int .i64 x0).wf = true → Q24 x1 → ∃ k, pacemakerlaw29_AgendaFull.f k x0 x1.f0 x1.f1 x1.f2 x1.f3 = some true
end Go.Proofs.Ytocdpfdnnijdkaa.G
