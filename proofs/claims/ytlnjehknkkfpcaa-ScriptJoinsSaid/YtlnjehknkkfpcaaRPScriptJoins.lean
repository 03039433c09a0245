/- What a reading of each parameter of the law ScriptJoins gives: the value, as the printed walks take it. -/
import Derived.Test.YtlnjehknkkfpcaaPx0
import Derived.WalkKit
import Derived.ProofKit
import Derived.OpenShut
import Derived.ShutString
import Derived.ChangeOld
import Derived.Below
import Derived.SizedLaws
import Derived.Deep.Slices
import Derived.Deep.Fields
namespace Go.Proofs.Ytlnjehknkkfpcaa.P
open Go.ChangeShapes Go.WideShapes Go.ChangeAt Go.RowKit Go.Deep Go.Proofs.YtlnjehknkkfpcaaW.PrintWords Go.Proofs.YtlnjehknkkfpcaaW.PrintLast
open Go.ChangeMaps (open_string shut_string)
theorem open_T3 {H : Type} {enc : TypeId × Value → H} {w : World} {base : Nat} {spare : Nat → Bool} {held : Bool} {fuel : Nat} {cs : List Value} {x : DataW H × List MemPlace} (h : DataW.trod enc Try.prog w base spare held fuel 3 cs = some x) : ∃ a : Int, (Kd.int .i64).K w a cs ∧ (Lit.int .i64 a).wf = true := by
  obtain ⟨n, rfl, _, hw⟩ := DataW.trod_int Try.underlying3 h
  exact ⟨n, rfl, hw⟩
theorem open_T9 {H : Type} {enc : TypeId × Value → H} {w : World} {base : Nat} {spare : Nat → Bool} {held : Bool} {fuel : Nat} {cs : List Value} {x : DataW H × List MemPlace} (h : DataW.trod enc Try.prog w base spare held fuel 9 cs = some x) : ∃ a : ByteArray, Kd.string.K w a cs ∧ a.size ≤ maxLen := by
  obtain ⟨n, rfl, _, hw⟩ := DataW.trod_string Try.underlying9 h
  exact ⟨n, rfl, hw⟩
end Go.Proofs.Ytlnjehknkkfpcaa.P
