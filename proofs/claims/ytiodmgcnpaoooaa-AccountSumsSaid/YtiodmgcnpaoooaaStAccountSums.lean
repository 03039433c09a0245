/- The plain statement that is left of the law AccountSums, once its walk is printed. -/
import Derived.Test.YtiodmgcnpaoooaaRAAccountSums
import Derived.Test.YtiodmgcnpaoooaaC5
namespace Go.Proofs.Ytiodmgcnpaoooaa.A
open Go.ChangeShapes Go.WideShapes Go.ChangeAt Go.RowKit Go.Deep Go.Proofs.YtiodmgcnpaoooaaW.PrintWords Go.Proofs.YtiodmgcnpaoooaaW.PrintLast
open Go.ChangeMaps (open_string shut_string)
def AccountSums_Stmt : Prop := ∀ (x0 : Int) (x1 : Int) (x2 : (List S34)), (Lit.int .i64 x0).wf = true → (Lit.int .i64 x1).wf = true → (x2.length ≤ maxLen ∧ ∀ y ∈ x2, Q34 y) → ∃ k, pacemakerlaw09_AccountSums.f k x0 x1 x2 = some true
end Go.Proofs.Ytiodmgcnpaoooaa.A
