/- The plain statement that is left of the law ScriptBack, once its walk is printed. -/
import Derived.Test.YtlnjehknkkfpcaaRPScriptBack
import Derived.Test.YtlnjehknkkfpcaaPx9
namespace Go.Proofs.Ytlnjehknkkfpcaa.P
open Go.ChangeShapes Go.WideShapes Go.ChangeAt Go.RowKit Go.Deep Go.Proofs.YtlnjehknkkfpcaaW.PrintWords Go.Proofs.YtlnjehknkkfpcaaW.PrintLast
open Go.ChangeMaps (open_string shut_string)
def ScriptBack_Stmt : Prop := ∀ (x0 : Int) (x1 : (List S24)) (x2 : ByteArray), (Lit.int .i64 x0).wf = true → (x1.length ≤ maxLen ∧ ∀ y ∈ x1, Q24 y) → x2.size ≤ maxLen → ∃ k, pacemakerlaw30_ScriptBack.f k x0 x1 x2 = some true
end Go.Proofs.Ytlnjehknkkfpcaa.P
