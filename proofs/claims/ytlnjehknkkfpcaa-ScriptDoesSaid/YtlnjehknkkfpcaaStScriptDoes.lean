/- The plain statement that is left of the law ScriptDoes, once its walk is printed. -/
import Derived.Test.YtlnjehknkkfpcaaRPScriptDoes
import Derived.Test.YtlnjehknkkfpcaaLD
namespace Go.Proofs.Ytlnjehknkkfpcaa.P
open Go.ChangeShapes Go.WideShapes Go.ChangeAt Go.RowKit Go.Deep Go.Proofs.YtlnjehknkkfpcaaW.PrintWords Go.Proofs.YtlnjehknkkfpcaaW.PrintLast
open Go.ChangeMaps (open_string shut_string)
def ScriptDoes_Stmt : Prop := ∀ (x0 : Int) (x1 : ByteArray) (x2 : (List S24)) (x3 : S24), (Lit.int .i64 x0).wf = true → x1.size ≤ maxLen → (x2.length ≤ maxLen ∧ ∀ y ∈ x2, Q24 y) → Q24 x3 → ∃ k, pacemakerlaw30_ScriptDoes.f k x0 x1 x2 x3.f0 x3.f1 x3.f2 = some true
end Go.Proofs.Ytlnjehknkkfpcaa.P
