/- The plain statement of the law DrawDoes. -/
import Derived.Test.YtjiogchafnpkhaaStDrawDoes
namespace Go.Proofs.Ytjiogchafnpkhaa.Pure
open Go.RowKit Go.Proofs.YtjiogchafnpkhaaW.PrintWords Go.Proofs.Ytjiogchafnpkhaa.D
theorem bounds_u64' {n : Int} (h : (Lit.int .u64 n).wf = true) : 0 ≤ n ∧ n < 18446744073709551616 := by
  simp [Lit.wf, IntKind.min, IntKind.max, IntKind.signed, IntKind.bits] at h
  omega
theorem DrawDoes : DrawDoes_Stmt := by
  intro s a b hq _ _
  refine ⟨0, ?_⟩
  unfold pacemakerlaw06_DrawDoes.f
  split
  · rfl
  · rw [if_pos]
    exact ⟨fun y hy => (bounds_u64' (hq.2.2.2.1.2 y hy)).1, bounds_u64' hq.2.1⟩
end Go.Proofs.Ytjiogchafnpkhaa.Pure
