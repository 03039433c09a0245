import Derived.Test.YtjiogchafnpkhaaD12
import Derived.Test.YtjiogchafnpkhaaDP
namespace Go.Proofs.Ytjiogchafnpkhaa.D
open Go.RowKit Go.Proofs.YtjiogchafnpkhaaW.PrintWords Go.Proofs.YtjiogchafnpkhaaW.PrintLast Go.Proofs.YtjiogchafnpkhaaW.PrintMore
attribute [local go_sem] max2_int min2_int max_two min_two max_three min_three max_four min_four
attribute [local go_sem] Go.Proofs.YtjiogchafnpkhaaS.cell_set_map Go.Proofs.YtjiogchafnpkhaaS.setCell_drewN
set_option linter.unusedVariables false
set_option linter.unusedSimpArgs false
set_option maxHeartbeats 4000000 in
set_option maxRecDepth 100000 in
theorem ref_step_calls (k st ic at_ : Int) (A : Option Addr) (c : Nat) (l : List Int) (w : World) : Calls Try.prog 42 #[.agg #[.int .i64 k, .int .u64 st, .int .u64 ic, .slice A l.length c, .int .i64 at_]] w fun e w' => e = .returned (.agg #[.int .i64 k, .int .u64 (pcgSt st ic), .int .u64 ic, .slice A l.length c, .int .i64 at_]) ∧ Below w.heap.size w w' := by
  have hu25 := Try.underlying25
  have hst : IntKind.u64.wrap (IntKind.u64.wrap (6364136223846793005 * st) + ic) = pcgSt st ic := by unfold pcgSt; rw [Int.mul_comm]
  obtain ⟨s1, hs1⟩ : ∃ s1, pcgSt st ic = s1 := ⟨_, rfl⟩
  rw [hs1] at hst ⊢
  clear hs1
  go_enter Try.func42, Try.ntmps42
  go_wp2
  (try simp only [Exit.inBlock, Exit.then])
  refine bodyPost_ret (results_cell_row rfl _ _ (w.heap.size + 1) 25 #[.int .i64 k, .int .u64 s1, .int .u64 ic, .slice A l.length c, .int .i64 at_] (0, 0) _ rfl (by have h_ := blk_new (w.alloc (.cells #[.int .i64 k, .int .u64 s1, .int .u64 ic, .slice A l.length c, .int .i64 at_] 25 (0, 0))) (.cells #[.int .i64 k, .int .u64 s1, .int .u64 ic, .slice A l.length c, .int .i64 at_] 25 (0, 0)); rwa [Go.Proofs.YtjiogchafnpkhaaS.size_alloc] at h_) Try.underlying25 rfl (by kernel_rfl)) rfl ⟨rfl, ?_⟩
  exact below_alloc (below_alloc (Below.refl w.heap.size w) _) _
end Go.Proofs.Ytjiogchafnpkhaa.D
