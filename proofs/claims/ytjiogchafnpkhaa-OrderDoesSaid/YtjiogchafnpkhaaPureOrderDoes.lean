/- The plain statement of the law OrderDoes. -/
import Derived.Test.YtjiogchafnpkhaaStOrderDoes
namespace Go.Proofs.Ytjiogchafnpkhaa.Pure
open Go.RowKit Go.Proofs.YtjiogchafnpkhaaW.PrintWords Go.Proofs.Ytjiogchafnpkhaa.D
theorem bounds_u64' {n : Int} (h : (Lit.int .u64 n).wf = true) : 0 ≤ n ∧ n < 18446744073709551616 := by
  simp [Lit.wf, IntKind.min, IntKind.max, IntKind.signed, IntKind.bits] at h
  omega
theorem OrderDoes : OrderDoes_Stmt := by
  intro k n x s _ _ _ hq
  refine ⟨0, ?_⟩
  unfold pacemakerlaw07_OrderDoes.f
  split
  · rfl
  · rw [if_pos]
    exact ⟨fun y hy => (bounds_u64' (hq.2.2.2.1.2 y hy)).1, bounds_u64' hq.2.1⟩
end Go.Proofs.Ytjiogchafnpkhaa.Pure
