/- Small lemmas that all texts of this seat use: what a cell reads behind a store into that very cell. -/
import Derived.WalkKit
import Derived.Deep.Draws
namespace Go.Proofs.YtefigckobfaodaaS
open Go
theorem cell_set_map (w : World) (a : Addr) (v : Value) : (w.setCell a v).cell? a = (w.cell? a).map (fun _ => v) := by
  cases h : w.cell? a with
  | some u => simpa using World.cell?_setCell_same _ _ _ h
  | none =>
    unfold World.cell? at h ⊢
    simp only [World.setCell, Array.getElem?_modify, ↓reduceIte, Option.map_none]
    cases hh : w.heap[a.block]? with
    | none => simp
    | some x =>
      rw [hh] at h
      cases x <;> simp_all
      all_goals (split at h <;> simp_all)
theorem setCell_drewN (w : World) (n : Nat) (a : Addr) (v : Value) : (w.drewN n).setCell a v = (w.setCell a v).drewN n := rfl
theorem size_alloc (w : World) (o : Obj) : (w.alloc o).heap.size = w.heap.size + 1 := Array.size_push _
end Go.Proofs.YtefigckobfaodaaS
