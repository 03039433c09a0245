import Derived.Test.YtjiogchafnpkhaaD10
namespace Go.Proofs.Ytjiogchafnpkhaa.D
open Go.RowKit Go.Proofs.YtjiogchafnpkhaaW.PrintWords Go.Proofs.YtjiogchafnpkhaaW.PrintLast Go.Proofs.YtjiogchafnpkhaaW.PrintMore
attribute [local go_sem] max2_int min2_int max_two min_two max_three min_three max_four min_four
attribute [local go_sem] Go.Proofs.YtjiogchafnpkhaaS.cell_set_map Go.Proofs.YtjiogchafnpkhaaS.setCell_drewN
set_option linter.unusedVariables false
set_option linter.unusedSimpArgs false
set_option maxHeartbeats 2000000 in
theorem draw_Tape_calls (A : Option Addr) (c : Nat) (l : List Int) (w : World) (hc : l.length ≤ c) (hmx : l.length ≤ 9223372036854775807) (hA : A = none → l.length = 0) : Calls Try.prog 19 #[.slice A l.length c] w fun e w' => e = .returned (.agg #[.int .i64 2, .int .u64 0, .int .u64 0, .slice A l.length l.length, .int .i64 0]) ∧ Below w.heap.size w w' := by
  have hu25 := Try.underlying25
  have hu23 := Try.underlying23
  have B1 := Aside0.mk (blk_new w (.cells #[.int .i64 2, .int .u64 0, .int .u64 0, .slice A l.length l.length, .int .i64 0] 25 (0, 0)))
  have HB := Aside0.mk (below_alloc (Below.refl w.heap.size w) (.cells #[.int .i64 2, .int .u64 0, .int .u64 0, .slice A l.length l.length, .int .i64 0] 25 (0, 0)))
  have h0 : (0 : Int) ≤ (l.length : Int) := by omega
  have h1 : (l.length : Int) ≤ (c : Int) := by omega
  cases A with
  | none =>
    have e1 := hA rfl
    go_enter Try.func19, Try.ntmps19
    go_wp2
    (try simp only [Exit.inBlock, Exit.then])
    refine bodyPost_ret (results_cell_row rfl _ _ w.heap.size 25 _ (0, 0) _ rfl (blk_new w _) Try.underlying25 rfl (by kernel_rfl)) rfl ⟨rfl, below_alloc (Below.refl _ _) _⟩
  | some ad =>
    clear hA
    go_enter Try.func19, Try.ntmps19
    go_wp2
    (try simp only [Exit.inBlock, Exit.then])
    refine bodyPost_ret (results_cell_row rfl _ _ w.heap.size 25 _ (0, 0) _ rfl (blk_new w _) Try.underlying25 rfl (by kernel_rfl)) rfl ⟨rfl, below_alloc (Below.refl _ _) _⟩
end Go.Proofs.Ytjiogchafnpkhaa.D
