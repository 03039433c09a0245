/- The plain statement that is left of the law DrawDoes, once its walk is printed. -/
import Derived.Test.YtjiogchafnpkhaaRDDrawDoes
import Derived.Test.YtjiogchafnpkhaaD17
namespace Go.Proofs.Ytjiogchafnpkhaa.D
open Go.ChangeShapes Go.WideShapes Go.ChangeAt Go.RowKit Go.Deep Go.Proofs.YtjiogchafnpkhaaW.PrintWords Go.Proofs.YtjiogchafnpkhaaW.PrintLast
open Go.ChangeMaps (open_string shut_string)
def DrawDoes_Stmt : Prop := ∀ (x0 : S25) (x1 : Int) (x2 : Int), Q25 x0 → (Lit.int .u64 x1).wf = true → (Lit.int .u64 x2).wf = true → ∃ k, pacemakerlaw06_DrawDoes.f k x0.f0 x0.f1 x0.f2 x0.f3 x0.f4 x1 x2 = some true
end Go.Proofs.Ytjiogchafnpkhaa.D
