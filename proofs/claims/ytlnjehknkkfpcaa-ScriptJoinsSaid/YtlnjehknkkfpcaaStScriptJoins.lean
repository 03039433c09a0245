/- The plain statement that is left of the law ScriptJoins, once its walk is printed. -/
import Derived.Test.YtlnjehknkkfpcaaRPScriptJoins
import Derived.Test.YtlnjehknkkfpcaaLJ
namespace Go.Proofs.Ytlnjehknkkfpcaa.P
open Go.ChangeShapes Go.WideShapes Go.ChangeAt Go.RowKit Go.Deep Go.Proofs.YtlnjehknkkfpcaaW.PrintWords Go.Proofs.YtlnjehknkkfpcaaW.PrintLast
open Go.ChangeMaps (open_string shut_string)
def ScriptJoins_Stmt : Prop := ∀ (x0 : Int) (x1 : ByteArray) (x2 : ByteArray), (Lit.int .i64 x0).wf = true → x1.size ≤ maxLen → x2.size ≤ maxLen → ∃ k, pacemakerlaw30_ScriptJoins.f k x0 x1 x2 = some true
end Go.Proofs.Ytlnjehknkkfpcaa.P
