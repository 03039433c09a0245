/- Small lemmas that all texts of this seat use: what a cell reads behind a store into that very cell. -/
import Derived.WalkKit
import Derived.Test.YtocdpfdnnijdkaaWLast
import Derived.Deep.Draws
namespace Go.Proofs.YtocdpfdnnijdkaaS
open Go
theorem cell_set_map (w : World) (a : Addr) (v : Value) : (w.setCell a v).cell? a = (w.cell? a).map (fun _ => v) := by
  cases h : w.cell? a with
  | some u => simpa using World.cell?_setCell_same _ _ _ h
  | none =>
    unfold World.cell? at h ⊢
    simp only [World.setCell, Array.getElem?_modify, ↓reduceIte, Option.map_none]
    cases hh : w.heap[a.block]? with
    | none => simp
    | some x =>
      rw [hh] at h
      cases x <;> simp_all
      all_goals (split at h <;> simp_all)
theorem setCell_drewN (w : World) (n : Nat) (a : Addr) (v : Value) : (w.drewN n).setCell a v = (w.setCell a v).drewN n := rfl
theorem size_alloc (w : World) (o : Obj) : (w.alloc o).heap.size = w.heap.size + 1 := Array.size_push _
open Go.Proofs.YtocdpfdnnijdkaaW.PrintLast in
/-- A call through a slot that holds a function of the text. -/
theorem goesV_ {P : Program} {ops : Array Oper} {Q : Exit → Act → World → Prop} {oi : Oper} {N : Option Tmp} {a : Act} {w : World} {K : Act → World → Prop} {f : FuncId} {fn : Func} {t : Tmp} {as : Array Operand} {ts : Array TypeId} (hf : P.funcs[f]? = some fn) (hname : (fn.name == "runtime.NumGoroutine") = false) (hb : fn.body.isSome = true) (args : Array Value)
    (hw : Region.wanted oi (yielded ops a.tmps) = true) (hN : oi.dst = N) (hop : oi.op = .call { callee := .value (.tmp t), args := as, argTypes := ts }) (hv : a.eval (.tmp t) = .func (.func f) #[] #[]) (hargs : as.map a.eval = args)
    (h : Calls P f args w fun e w' => ∃ v, e = .returned v ∧ K (a.put N v) w') : if Region.wanted oi (yielded ops a.tmps) = true then Oper.wp P oi a w K Q else K (a.put N undef) w := by
  refine call_ f args hw hN ?_ h
  have he := enters_ hf hname hb args w
  unfold execOp
  simp [hop, resolve, Deferred.ofValue, invoke, hv, hargs, he]
end Go.Proofs.YtocdpfdnnijdkaaS
