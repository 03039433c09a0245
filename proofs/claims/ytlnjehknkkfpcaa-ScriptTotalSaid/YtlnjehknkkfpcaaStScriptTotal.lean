/- The plain statement that is left of the law ScriptTotal, once its walk is printed. -/
import Derived.Test.YtlnjehknkkfpcaaRPScriptTotal
import Derived.Test.YtlnjehknkkfpcaaPx8
namespace Go.Proofs.Ytlnjehknkkfpcaa.P
open Go.ChangeShapes Go.WideShapes Go.ChangeAt Go.RowKit Go.Deep Go.Proofs.YtlnjehknkkfpcaaW.PrintWords Go.Proofs.YtlnjehknkkfpcaaW.PrintLast
open Go.ChangeMaps (open_string shut_string)
def ScriptTotal_Stmt : Prop := ∀ (x0 : Int) (x1 : ByteArray), (Lit.int .i64 x0).wf = true → x1.size ≤ maxLen → ∃ k, pacemakerlaw30_ScriptTotal.f k x0 x1 = some true
end Go.Proofs.Ytlnjehknkkfpcaa.P
