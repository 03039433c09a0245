import Derived.Test.YtjiogchafnpkhaaE1
import Derived.Test.YtjiogchafnpkhaaD12
namespace Go.Proofs.Ytjiogchafnpkhaa.D
open Go.RowKit Go.Proofs.YtjiogchafnpkhaaW.PrintWords Go.Proofs.YtjiogchafnpkhaaW.PrintLast Go.Proofs.YtjiogchafnpkhaaW.PrintMore
attribute [local go_sem] max2_int min2_int max_two min_two max_three min_three max_four min_four
attribute [local go_sem] Go.Proofs.YtjiogchafnpkhaaS.cell_set_map Go.Proofs.YtjiogchafnpkhaaS.setCell_drewN
set_option linter.unusedVariables false
set_option linter.unusedSimpArgs false
theorem or_one (a : Int) (h0 : 0 ≤ a) (h1 : a < 18446744073709551616) (h2 : a % 2 = 0) : bits .or .u64 a 1 = a + 1 := by
  rw [u64_or a 1 h0 h1 (by omega) (by omega)]
  obtain ⟨b, rfl⟩ : ∃ b : Nat, a = 2 * (b : Int) := ⟨(a / 2).toNat, by omega⟩
  have e1 : (2 * (b : Int)).toNat = b <<< 1 := by rw [Nat.shiftLeft_eq]; omega
  have e2 : b <<< 1 + 1 = b <<< 1 ||| 1 := Nat.shiftLeft_add_eq_or_of_lt (by decide) b
  rw [e1]
  show ((b <<< 1 ||| 1 : Nat) : Int) = _
  rw [← e2, Nat.shiftLeft_eq]
  omega
theorem pcgInc_ref (stream : Int) : IntKind.u64.wrap (IntKind.u64.wrap (2 * stream) + 1) = pcgInc stream := by
  unfold pcgInc
  rw [Int.mul_comm 2 stream, u64_w, u64_w]
  rw [or_one _ (by omega) (by omega) (by omega)]
  omega
theorem step0 (st ic : Int) (w : World) : Calls Try.prog 42 #[.agg #[.int .i64 1, .int .u64 st, .int .u64 ic, .slice none 0 0, .int .i64 0]] w fun e w' => e = .returned (.agg #[.int .i64 1, .int .u64 (pcgSt st ic), .int .u64 ic, .slice none 0 0, .int .i64 0]) ∧ Below w.heap.size w w' := ref_step_calls 1 st ic 0 none 0 [] w
set_option maxHeartbeats 4000000 in
set_option maxRecDepth 100000 in
theorem ref_Pcg_calls (seed stream : Int) (w : World) : Calls Try.prog 18 #[.int .u64 seed, .int .u64 stream] w fun e w' => e = .returned (.agg #[.int .i64 1, .int .u64 (pcgNew seed (pcgInc stream)), .int .u64 (pcgInc stream), .slice none 0 0, .int .i64 0]) ∧ Below w.heap.size w w' := by
  have hu25 := Try.underlying25
  have hic := pcgInc_ref stream
  unfold pcgNew
  generalize pcgInc stream = ic at *
  obtain ⟨t1, ht1⟩ : ∃ t1, IntKind.u64.wrap (pcgSt 0 ic + seed) = t1 := ⟨_, rfl⟩
  rw [ht1]
  have B4 := Aside0.mk (blk_alloc (blk_new w (.cells #[.int .i64 0, .int .u64 0, .int .u64 0, .slice none 0 0, .int .i64 0] 25 (0, 0))) (.cells #[.int .i64 1, .int .u64 0, .int .u64 ic, .slice none 0 0, .int .i64 0] 25 (0, 0)))
  have B5 := Aside0.mk (show ((w.alloc (.cells #[.int .i64 0, .int .u64 0, .int .u64 0, .slice none 0 0, .int .i64 0] 25 (0, 0))).alloc (.cells #[.int .i64 1, .int .u64 0, .int .u64 ic, .slice none 0 0, .int .i64 0] 25 (0, 0))).heap[w.heap.size + 1]? = some (.cells #[.int .i64 1, .int .u64 0, .int .u64 ic, .slice none 0 0, .int .i64 0] 25 (0, 0)) by have := blk_new (w.alloc (.cells #[.int .i64 0, .int .u64 0, .int .u64 0, .slice none 0 0, .int .i64 0] 25 (0, 0))) (.cells #[.int .i64 1, .int .u64 0, .int .u64 ic, .slice none 0 0, .int .i64 0] 25 (0, 0)); rwa [Go.Proofs.YtjiogchafnpkhaaS.size_alloc] at this)
  have HB := Aside0.mk (below_alloc (below_alloc (Below.refl w.heap.size w) (.cells #[.int .i64 0, .int .u64 0, .int .u64 0, .slice none 0 0, .int .i64 0] 25 (0, 0))) (.cells #[.int .i64 1, .int .u64 0, .int .u64 ic, .slice none 0 0, .int .i64 0] 25 (0, 0)))
  have GE5 : Aside0 (w.heap.size ≤ w.heap.size + 1) := ⟨by omega⟩
  have NE : Aside0 (w.heap.size ≠ w.heap.size + 1) := ⟨by omega⟩
  go_enter Try.func18, Try.ntmps18
  go_wp2_with (first | ((with_reducible refine gate_callee (f := 42) rfl ?_); refine goesL_ (some 11) rfl rfl Try.func42 (by kernel_rfl) rfl #[.agg #[.int .i64 1, .int .u64 0, .int .u64 ic, .slice none 0 0, .int .i64 0]] rfl (by (try simp only [List.map_toArray, List.map_cons, List.map_nil]); first | done | rfl) ?_; (refine (step0 0 ic _).mono ?_); rintro e w1 ⟨rfl, hb⟩; refine ⟨_, rfl, ?_⟩; have n1_ := Aside0.mk (below_step HB.out hb); have n2_ := Aside0.mk (blk_below B5.out hb); have n3_ := Aside0.mk (blk_below B4.out hb); clear HB B5 B4 hb; have HB := n1_; have B5 := n2_; have B4 := n3_; clear n1_ n2_ n3_; have ha0 : w1.cell? ⟨w.heap.size + 1, 0, none⟩ = some (.int .i64 1) := (blk_cell B5.out 0).trans rfl; have fa0 := blk_frozen B5.out 0; have ha1 : w1.cell? ⟨w.heap.size + 1, 1, none⟩ = some (.int .u64 0) := (blk_cell B5.out 1).trans rfl; have fa1 := blk_frozen B5.out 1; have ha2 : w1.cell? ⟨w.heap.size + 1, 2, none⟩ = some (.int .u64 ic) := (blk_cell B5.out 2).trans rfl; have fa2 := blk_frozen B5.out 2; have ha3 : w1.cell? ⟨w.heap.size + 1, 3, none⟩ = some (.slice none 0 0) := (blk_cell B5.out 3).trans rfl; have fa3 := blk_frozen B5.out 3; have ha4 : w1.cell? ⟨w.heap.size + 1, 4, none⟩ = some (.int .i64 0) := (blk_cell B5.out 4).trans rfl; have fa4 := blk_frozen B5.out 4) | ((with_reducible refine gate_callee (f := 42) rfl ?_); clear ha0 fa0 ha1 fa1 ha2 fa2 ha3 fa3 ha4 fa4; refine goesL_ (some 18) rfl rfl Try.func42 (by kernel_rfl) rfl #[.agg #[.int .i64 1, .int .u64 t1, .int .u64 ic, .slice none 0 0, .int .i64 0]] rfl (by (try simp only [List.map_toArray, List.map_cons, List.map_nil]); first | done | rfl) ?_; (refine (step0 t1 ic _).mono ?_); rintro e w2 ⟨rfl, hb⟩; refine ⟨_, rfl, ?_⟩; have n1_ := Aside0.mk (below_step (below_set (j := 1) (v := (.int .u64 t1)) (below_set (j := 4) (v := (.int .i64 0)) (below_set (j := 3) (v := (.slice none 0 0)) (below_set (j := 2) (v := (.int .u64 ic)) (below_set (j := 1) (v := (.int .u64 (pcgSt 0 ic))) (below_set (j := 0) (v := (.int .i64 1)) HB.out GE5.out) GE5.out) GE5.out) GE5.out) GE5.out) GE5.out) hb); have n3_ := Aside0.mk (blk_below (blk_far (blk_far (blk_far (blk_far (blk_far (blk_far B4.out (p := ⟨w.heap.size + 1, 0, none⟩) NE.out (.int .i64 1)) (p := ⟨w.heap.size + 1, 1, none⟩) NE.out (.int .u64 (pcgSt 0 ic))) (p := ⟨w.heap.size + 1, 2, none⟩) NE.out (.int .u64 ic)) (p := ⟨w.heap.size + 1, 3, none⟩) NE.out (.slice none 0 0)) (p := ⟨w.heap.size + 1, 4, none⟩) NE.out (.int .i64 0)) (p := ⟨w.heap.size + 1, 1, none⟩) NE.out (.int .u64 t1)) hb); clear HB B5 B4 hb; have HB := n1_; have B4 := n3_; clear n1_ n3_; have hc0 : w2.cell? ⟨w.heap.size, 0, none⟩ = some (.int .i64 0) := (blk_cell B4.out 0).trans rfl; have fc0 := blk_frozen B4.out 0; have hc1 : w2.cell? ⟨w.heap.size, 1, none⟩ = some (.int .u64 0) := (blk_cell B4.out 1).trans rfl; have fc1 := blk_frozen B4.out 1; have hc2 : w2.cell? ⟨w.heap.size, 2, none⟩ = some (.int .u64 0) := (blk_cell B4.out 2).trans rfl; have fc2 := blk_frozen B4.out 2; have hc3 : w2.cell? ⟨w.heap.size, 3, none⟩ = some (.slice none 0 0) := (blk_cell B4.out 3).trans rfl; have fc3 := blk_frozen B4.out 3; have hc4 : w2.cell? ⟨w.heap.size, 4, none⟩ = some (.int .i64 0) := (blk_cell B4.out 4).trans rfl; have fc4 := blk_frozen B4.out 4))
  have b4 := (blk_set (blk_set (blk_set (blk_set (blk_set B4.out 0 (.int .i64 1)) 1 (.int .u64 (pcgSt t1 ic))) 2 (.int .u64 ic)) 3 (.slice none 0 0)) 4 (.int .i64 0))
  (try simp only [Exit.inBlock, Exit.then])
  refine bodyPost_ret (results_cell_row rfl _ _ w.heap.size 25 #[.int .i64 1, .int .u64 (pcgSt t1 ic), .int .u64 ic, .slice none 0 0, .int .i64 0] (0, 0) _ rfl (b4.trans (by rfl)) Try.underlying25 rfl (by kernel_rfl)) rfl ⟨rfl, ?_⟩
  exact (below_set (j := 4) (v := (.int .i64 0)) (below_set (j := 3) (v := (.slice none 0 0)) (below_set (j := 2) (v := (.int .u64 ic)) (below_set (j := 1) (v := (.int .u64 (pcgSt t1 ic))) (below_set (j := 0) (v := (.int .i64 1)) HB.out (Nat.le_refl _)) (Nat.le_refl _)) (Nat.le_refl _)) (Nat.le_refl _)) (Nat.le_refl _))
set_option maxHeartbeats 2000000 in
theorem ref_Tape_calls (A : Option Addr) (c : Nat) (l : List Int) (w : World) : Calls Try.prog 20 #[.slice A l.length c] w fun e w' => e = .returned (.agg #[.int .i64 2, .int .u64 0, .int .u64 0, .slice A l.length c, .int .i64 0]) ∧ Below w.heap.size w w' := by
  have hu25 := Try.underlying25
  have hu23 := Try.underlying23
  go_enter Try.func20, Try.ntmps20
  go_wp2
  (try simp only [Exit.inBlock, Exit.then])
  refine bodyPost_ret (results_cell_row rfl _ _ w.heap.size 25 _ (0, 0) _ rfl (blk_new w _) Try.underlying25 rfl (by kernel_rfl)) rfl ⟨rfl, below_alloc (Below.refl _ _) _⟩
end Go.Proofs.Ytjiogchafnpkhaa.D
