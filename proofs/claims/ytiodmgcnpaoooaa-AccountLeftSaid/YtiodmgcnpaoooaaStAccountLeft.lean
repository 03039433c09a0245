/- The plain statement that is left of the law AccountLeft, once its walk is printed. -/
import Derived.Test.YtiodmgcnpaoooaaRAAccountLeft
import Derived.Test.YtiodmgcnpaoooaaD3
namespace Go.Proofs.Ytiodmgcnpaoooaa.A
open Go.ChangeShapes Go.WideShapes Go.ChangeAt Go.RowKit Go.Deep Go.Proofs.YtiodmgcnpaoooaaW.PrintWords Go.Proofs.YtiodmgcnpaoooaaW.PrintLast
open Go.ChangeMaps (open_string shut_string)
def AccountLeft_Stmt : Prop := ∀ (x0 : S23) (x1 : S34), Q23 x0 → Q34 x1 → ∃ k, pacemakerlaw09_AccountLeft.f k x0.f0 x0.f1 x0.f2 x0.f3 x0.f4 x0.f5 x0.f6 x0.f7 x0.f8 x0.f9 x0.f10 x0.f11 x0.f12 x0.f13 x0.f14 x1.f0 x1.f1 x1.f2 x1.f3 = some true
end Go.Proofs.Ytiodmgcnpaoooaa.A
