import Derived.Test.YtjiogchafnpkhaaMC
namespace Go.Proofs.Ytjiogchafnpkhaa.D
open Go.RowKit Go.Proofs.YtjiogchafnpkhaaW.PrintWords Go.Proofs.YtjiogchafnpkhaaW.PrintLast Go.Proofs.YtjiogchafnpkhaaW.PrintMore
attribute [local go_sem] max2_int min2_int max_two min_two max_three min_three max_four min_four
attribute [local go_sem] Go.Proofs.YtjiogchafnpkhaaS.cell_set_map Go.Proofs.YtjiogchafnpkhaaS.setCell_drewN
set_option linter.unusedVariables false
set_option linter.unusedSimpArgs false
attribute [local go_sem] eq45 eq55 idx0 idx1 idx2 idx3 idx4 idx5
set_option maxHeartbeats 8000000 in
set_option maxRecDepth 100000 in
theorem ref_Four_calls (k : Int) (w : World) : Calls Try.prog 34 #[.int .i64 k] w fun e w' => e = .returned (.tuple #[.agg #[.bool (fa k), .bool (fb k), .bool (fc k), .bool (fd k)], .int .i64 (ge_ k)]) ∧ Below w.heap.size w w' := by
  have hu45 := Try.underlying45
  by_cases h : 0 ≤ k ∧ k ≤ 5
  · have h6 : k = 0 ∨ k = 1 ∨ k = 2 ∨ k = 3 ∨ k = 4 ∨ k = 5 := by omega
    clear h
    rcases h6 with rfl | rfl | rfl | rfl | rfl | rfl
    · show Calls Try.prog 34 #[.int .i64 0] w fun e w' => e = .returned (.tuple #[.agg #[.bool true, .bool true, .bool false, .bool false], .int .i64 0]) ∧ Below w.heap.size w w'
      go_enter Try.func34, Try.ntmps34
      go_wp2
      (try simp only [Exit.inBlock, Exit.then])
      exact bodyPost_ret (results_list (rs := [.cell 2 45, .tmp 3]) rfl (by simp) (.cell (w.heap.size) 45 #[.bool true, .bool true, .bool false, .bool false] (0, 0) _ rfl (blk_new w _) Try.underlying45 rfl (by kernel_rfl) (.tmp .nil))) rfl ⟨rfl, below_alloc (Below.refl _ _) _⟩
    · show Calls Try.prog 34 #[.int .i64 1] w fun e w' => e = .returned (.tuple #[.agg #[.bool true, .bool false, .bool true, .bool false], .int .i64 0]) ∧ Below w.heap.size w w'
      go_enter Try.func34, Try.ntmps34
      go_wp2
      (try simp only [Exit.inBlock, Exit.then])
      exact bodyPost_ret (results_list (rs := [.cell 2 45, .tmp 3]) rfl (by simp) (.cell (w.heap.size) 45 #[.bool true, .bool false, .bool true, .bool false] (0, 0) _ rfl (blk_new w _) Try.underlying45 rfl (by kernel_rfl) (.tmp .nil))) rfl ⟨rfl, below_alloc (Below.refl _ _) _⟩
    · show Calls Try.prog 34 #[.int .i64 2] w fun e w' => e = .returned (.tuple #[.agg #[.bool true, .bool false, .bool false, .bool true], .int .i64 0]) ∧ Below w.heap.size w w'
      go_enter Try.func34, Try.ntmps34
      go_wp2
      (try simp only [Exit.inBlock, Exit.then])
      exact bodyPost_ret (results_list (rs := [.cell 2 45, .tmp 3]) rfl (by simp) (.cell (w.heap.size) 45 #[.bool true, .bool false, .bool false, .bool true] (0, 0) _ rfl (blk_new w _) Try.underlying45 rfl (by kernel_rfl) (.tmp .nil))) rfl ⟨rfl, below_alloc (Below.refl _ _) _⟩
    · show Calls Try.prog 34 #[.int .i64 3] w fun e w' => e = .returned (.tuple #[.agg #[.bool false, .bool true, .bool true, .bool false], .int .i64 0]) ∧ Below w.heap.size w w'
      go_enter Try.func34, Try.ntmps34
      go_wp2
      (try simp only [Exit.inBlock, Exit.then])
      exact bodyPost_ret (results_list (rs := [.cell 2 45, .tmp 3]) rfl (by simp) (.cell (w.heap.size) 45 #[.bool false, .bool true, .bool true, .bool false] (0, 0) _ rfl (blk_new w _) Try.underlying45 rfl (by kernel_rfl) (.tmp .nil))) rfl ⟨rfl, below_alloc (Below.refl _ _) _⟩
    · show Calls Try.prog 34 #[.int .i64 4] w fun e w' => e = .returned (.tuple #[.agg #[.bool false, .bool true, .bool false, .bool true], .int .i64 0]) ∧ Below w.heap.size w w'
      go_enter Try.func34, Try.ntmps34
      go_wp2
      (try simp only [Exit.inBlock, Exit.then])
      exact bodyPost_ret (results_list (rs := [.cell 2 45, .tmp 3]) rfl (by simp) (.cell (w.heap.size) 45 #[.bool false, .bool true, .bool false, .bool true] (0, 0) _ rfl (blk_new w _) Try.underlying45 rfl (by kernel_rfl) (.tmp .nil))) rfl ⟨rfl, below_alloc (Below.refl _ _) _⟩
    · show Calls Try.prog 34 #[.int .i64 5] w fun e w' => e = .returned (.tuple #[.agg #[.bool false, .bool false, .bool true, .bool true], .int .i64 0]) ∧ Below w.heap.size w w'
      go_enter Try.func34, Try.ntmps34
      go_wp2
      (try simp only [Exit.inBlock, Exit.then])
      exact bodyPost_ret (results_list (rs := [.cell 2 45, .tmp 3]) rfl (by simp) (.cell (w.heap.size) 45 #[.bool false, .bool false, .bool true, .bool true] (0, 0) _ rfl (blk_new w _) Try.underlying45 rfl (by kernel_rfl) (.tmp .nil))) rfl ⟨rfl, below_alloc (Below.refl _ _) _⟩
  · have e1 : fa k = false := decide_eq_false (by omega)
    have e2 : fb k = false := decide_eq_false (by omega)
    have e3 : fc k = false := decide_eq_false (by omega)
    have e4 : fd k = false := decide_eq_false (by omega)
    have e5 : ge_ k = 1 := if_neg h
    rw [e1, e2, e3, e4, e5]
    clear e1 e2 e3 e4 e5
    have p0 : (k == 0) = false := beq_eq_false_iff_ne.mpr (by omega)
    have p1 : (k == 1) = false := beq_eq_false_iff_ne.mpr (by omega)
    have p2 : (k == 2) = false := beq_eq_false_iff_ne.mpr (by omega)
    have p3 : (k == 3) = false := beq_eq_false_iff_ne.mpr (by omega)
    have p4 : (k == 4) = false := beq_eq_false_iff_ne.mpr (by omega)
    have p5 : (k == 5) = false := beq_eq_false_iff_ne.mpr (by omega)
    clear h
    go_enter Try.func34, Try.ntmps34
    go_wp2
    (try simp only [Exit.inBlock, Exit.then])
    exact bodyPost_ret (results_list (rs := [.cell 2 45, .tmp 3]) rfl (by simp) (.cell (w.heap.size) 45 #[.bool false, .bool false, .bool false, .bool false] (0, 0) _ rfl (blk_new w _) Try.underlying45 rfl (by kernel_rfl) (.tmp .nil))) rfl ⟨rfl, below_alloc (Below.refl _ _) _⟩
theorem rfour0 (w : World) : Calls Try.prog 34 #[.int .i64 0] w fun e w' => e = .returned (.tuple #[.agg #[.bool true, .bool true, .bool false, .bool false], .int .i64 0]) ∧ Below w.heap.size w w' := ref_Four_calls 0 w
theorem rfour1 (w : World) : Calls Try.prog 34 #[.int .i64 1] w fun e w' => e = .returned (.tuple #[.agg #[.bool true, .bool false, .bool true, .bool false], .int .i64 0]) ∧ Below w.heap.size w w' := ref_Four_calls 1 w
theorem rfour2 (w : World) : Calls Try.prog 34 #[.int .i64 2] w fun e w' => e = .returned (.tuple #[.agg #[.bool true, .bool false, .bool false, .bool true], .int .i64 0]) ∧ Below w.heap.size w w' := ref_Four_calls 2 w
theorem rfour3 (w : World) : Calls Try.prog 34 #[.int .i64 3] w fun e w' => e = .returned (.tuple #[.agg #[.bool false, .bool true, .bool true, .bool false], .int .i64 0]) ∧ Below w.heap.size w w' := ref_Four_calls 3 w
theorem rfour4 (w : World) : Calls Try.prog 34 #[.int .i64 4] w fun e w' => e = .returned (.tuple #[.agg #[.bool false, .bool true, .bool false, .bool true], .int .i64 0]) ∧ Below w.heap.size w w' := ref_Four_calls 4 w
theorem rfour5 (w : World) : Calls Try.prog 34 #[.int .i64 5] w fun e w' => e = .returned (.tuple #[.agg #[.bool false, .bool false, .bool true, .bool true], .int .i64 0]) ∧ Below w.heap.size w w' := ref_Four_calls 5 w
set_option maxHeartbeats 8000000 in
set_option maxRecDepth 100000 in
theorem ref_Rank_calls (a b c d : Bool) (n er : Int) (w : World) (h : rk0 a b c d = (n, er)) : Calls Try.prog 35 #[.agg #[.bool a, .bool b, .bool c, .bool d]] w fun e w' => e = .returned (.tuple #[.int .i64 n, .int .i64 er]) ∧ Below w.heap.size w w' := by
  have hu45 := Try.underlying45
  have H0 := Aside0.mk h
  clear h
  have BX := Aside0.mk (blk_new w (.cells #[.bool a, .bool b, .bool c, .bool d] 45 (0, 0)))
  have HB := Aside0.mk (below_alloc (Below.refl w.heap.size w) (.cells #[.bool a, .bool b, .bool c, .bool d] 45 (0, 0)))
  go_enter Try.func35, Try.ntmps35
  go_wp2
  go_loopw [4] (fun v4 wr => ∃ z : Int, (z = 0 ∨ z = 1 ∨ z = 2 ∨ z = 3 ∨ z = 4 ∨ z = 5 ∨ z = 6) ∧ v4 = .int .i64 z ∧ Aside0 (rkFrom z a b c d = (n, er)) ∧ Aside0 (wr.heap[w.heap.size]? = some (.cells #[.bool a, .bool b, .bool c, .bool d] 45 (0, 0))) ∧ Aside0 (Below w.heap.size w wr)) (fun v4 _ => 6 - (intOf v4).toNat)
  case atStart => exact ⟨0, by omega, rfl, H0, BX, HB⟩
  case round =>
    clear BX HB H0
    obtain ⟨z, hz, rfl, hm, BX, HB⟩ := hrel
    replace hm := hm.out
    rcases hz with rfl | rfl | rfl | rfl | rfl | rfl | rfl
    · rw [show rkFrom 0 a b c d = rk0 a b c d from rfl, rk0] at hm
      by_cases hc : e4 true true false false a b c d = true
      · rw [if_pos hc] at hm
        injection hm with e1 e2
        subst e1
        subst e2
        go_wp2_with (first | ((with_reducible refine gate_callee (f := 34) rfl ?_); refine goesL_ (some 13) rfl rfl Try.func34 (by kernel_rfl) rfl #[.int .i64 0] rfl (by (try simp only [List.map_toArray, List.map_cons, List.map_nil]); first | done | rfl) ?_; (refine (rfour0 _).mono ?_); rintro e w1 ⟨rfl, hb⟩; refine ⟨_, rfl, ?_⟩; have n1_ := Aside0.mk (below_alloc (below_step HB.out hb) (.cells #[.bool true, .bool true, .bool false, .bool false] 45 (0, 0))); have n2_ := Aside0.mk (blk_alloc (blk_below BX.out hb) (.cells #[.bool true, .bool true, .bool false, .bool false] 45 (0, 0))); clear HB BX hb; have HB := n1_; have BX := n2_; clear n1_ n2_; have hx0 : (w1.alloc (.cells #[.bool true, .bool true, .bool false, .bool false] 45 (0, 0))).cell? ⟨w.heap.size, 0, none⟩ = some (.bool a) := (blk_cell BX.out 0).trans rfl; have hx1 : (w1.alloc (.cells #[.bool true, .bool true, .bool false, .bool false] 45 (0, 0))).cell? ⟨w.heap.size, 1, none⟩ = some (.bool b) := (blk_cell BX.out 1).trans rfl; have hx2 : (w1.alloc (.cells #[.bool true, .bool true, .bool false, .bool false] 45 (0, 0))).cell? ⟨w.heap.size, 2, none⟩ = some (.bool c) := (blk_cell BX.out 2).trans rfl; have hx3 : (w1.alloc (.cells #[.bool true, .bool true, .bool false, .bool false] 45 (0, 0))).cell? ⟨w.heap.size, 3, none⟩ = some (.bool d) := (blk_cell BX.out 3).trans rfl))
        (try simp only [Exit.inBlock, Exit.then])
        exact bodyPost_ret (results_list (rs := [.tmp 2, .tmp 3]) rfl (by simp) (.tmp (.tmp .nil))) rfl ⟨rfl, HB.out⟩
      · rw [if_neg hc] at hm
        replace hc := Bool.eq_false_iff.mpr hc
        replace hm := Aside0.mk hm
        go_wp2_with (first | ((with_reducible refine gate_callee (f := 34) rfl ?_); refine goesL_ (some 13) rfl rfl Try.func34 (by kernel_rfl) rfl #[.int .i64 0] rfl (by (try simp only [List.map_toArray, List.map_cons, List.map_nil]); first | done | rfl) ?_; (refine (rfour0 _).mono ?_); rintro e w1 ⟨rfl, hb⟩; refine ⟨_, rfl, ?_⟩; have n1_ := Aside0.mk (below_alloc (below_step HB.out hb) (.cells #[.bool true, .bool true, .bool false, .bool false] 45 (0, 0))); have n2_ := Aside0.mk (blk_alloc (blk_below BX.out hb) (.cells #[.bool true, .bool true, .bool false, .bool false] 45 (0, 0))); clear HB BX hb; have HB := n1_; have BX := n2_; clear n1_ n2_; have hx0 : (w1.alloc (.cells #[.bool true, .bool true, .bool false, .bool false] 45 (0, 0))).cell? ⟨w.heap.size, 0, none⟩ = some (.bool a) := (blk_cell BX.out 0).trans rfl; have hx1 : (w1.alloc (.cells #[.bool true, .bool true, .bool false, .bool false] 45 (0, 0))).cell? ⟨w.heap.size, 1, none⟩ = some (.bool b) := (blk_cell BX.out 1).trans rfl; have hx2 : (w1.alloc (.cells #[.bool true, .bool true, .bool false, .bool false] 45 (0, 0))).cell? ⟨w.heap.size, 2, none⟩ = some (.bool c) := (blk_cell BX.out 2).trans rfl; have hx3 : (w1.alloc (.cells #[.bool true, .bool true, .bool false, .bool false] 45 (0, 0))).cell? ⟨w.heap.size, 3, none⟩ = some (.bool d) := (blk_cell BX.out 3).trans rfl))
        go_roundw
        case rel => exact ⟨1, by omega, rfl, hm, BX, HB⟩
        case measure => simp [intOf]
    · rw [show rkFrom 1 a b c d = rk1 a b c d from rfl, rk1] at hm
      by_cases hc : e4 true false true false a b c d = true
      · rw [if_pos hc] at hm
        injection hm with e1 e2
        subst e1
        subst e2
        go_wp2_with (first | ((with_reducible refine gate_callee (f := 34) rfl ?_); refine goesL_ (some 13) rfl rfl Try.func34 (by kernel_rfl) rfl #[.int .i64 1] rfl (by (try simp only [List.map_toArray, List.map_cons, List.map_nil]); first | done | rfl) ?_; (refine (rfour1 _).mono ?_); rintro e w1 ⟨rfl, hb⟩; refine ⟨_, rfl, ?_⟩; have n1_ := Aside0.mk (below_alloc (below_step HB.out hb) (.cells #[.bool true, .bool false, .bool true, .bool false] 45 (0, 0))); have n2_ := Aside0.mk (blk_alloc (blk_below BX.out hb) (.cells #[.bool true, .bool false, .bool true, .bool false] 45 (0, 0))); clear HB BX hb; have HB := n1_; have BX := n2_; clear n1_ n2_; have hx0 : (w1.alloc (.cells #[.bool true, .bool false, .bool true, .bool false] 45 (0, 0))).cell? ⟨w.heap.size, 0, none⟩ = some (.bool a) := (blk_cell BX.out 0).trans rfl; have hx1 : (w1.alloc (.cells #[.bool true, .bool false, .bool true, .bool false] 45 (0, 0))).cell? ⟨w.heap.size, 1, none⟩ = some (.bool b) := (blk_cell BX.out 1).trans rfl; have hx2 : (w1.alloc (.cells #[.bool true, .bool false, .bool true, .bool false] 45 (0, 0))).cell? ⟨w.heap.size, 2, none⟩ = some (.bool c) := (blk_cell BX.out 2).trans rfl; have hx3 : (w1.alloc (.cells #[.bool true, .bool false, .bool true, .bool false] 45 (0, 0))).cell? ⟨w.heap.size, 3, none⟩ = some (.bool d) := (blk_cell BX.out 3).trans rfl))
        (try simp only [Exit.inBlock, Exit.then])
        exact bodyPost_ret (results_list (rs := [.tmp 2, .tmp 3]) rfl (by simp) (.tmp (.tmp .nil))) rfl ⟨rfl, HB.out⟩
      · rw [if_neg hc] at hm
        replace hc := Bool.eq_false_iff.mpr hc
        replace hm := Aside0.mk hm
        go_wp2_with (first | ((with_reducible refine gate_callee (f := 34) rfl ?_); refine goesL_ (some 13) rfl rfl Try.func34 (by kernel_rfl) rfl #[.int .i64 1] rfl (by (try simp only [List.map_toArray, List.map_cons, List.map_nil]); first | done | rfl) ?_; (refine (rfour1 _).mono ?_); rintro e w1 ⟨rfl, hb⟩; refine ⟨_, rfl, ?_⟩; have n1_ := Aside0.mk (below_alloc (below_step HB.out hb) (.cells #[.bool true, .bool false, .bool true, .bool false] 45 (0, 0))); have n2_ := Aside0.mk (blk_alloc (blk_below BX.out hb) (.cells #[.bool true, .bool false, .bool true, .bool false] 45 (0, 0))); clear HB BX hb; have HB := n1_; have BX := n2_; clear n1_ n2_; have hx0 : (w1.alloc (.cells #[.bool true, .bool false, .bool true, .bool false] 45 (0, 0))).cell? ⟨w.heap.size, 0, none⟩ = some (.bool a) := (blk_cell BX.out 0).trans rfl; have hx1 : (w1.alloc (.cells #[.bool true, .bool false, .bool true, .bool false] 45 (0, 0))).cell? ⟨w.heap.size, 1, none⟩ = some (.bool b) := (blk_cell BX.out 1).trans rfl; have hx2 : (w1.alloc (.cells #[.bool true, .bool false, .bool true, .bool false] 45 (0, 0))).cell? ⟨w.heap.size, 2, none⟩ = some (.bool c) := (blk_cell BX.out 2).trans rfl; have hx3 : (w1.alloc (.cells #[.bool true, .bool false, .bool true, .bool false] 45 (0, 0))).cell? ⟨w.heap.size, 3, none⟩ = some (.bool d) := (blk_cell BX.out 3).trans rfl))
        go_roundw
        case rel => exact ⟨2, by omega, rfl, hm, BX, HB⟩
        case measure => simp [intOf]
    · rw [show rkFrom 2 a b c d = rk2 a b c d from rfl, rk2] at hm
      by_cases hc : e4 true false false true a b c d = true
      · rw [if_pos hc] at hm
        injection hm with e1 e2
        subst e1
        subst e2
        go_wp2_with (first | ((with_reducible refine gate_callee (f := 34) rfl ?_); refine goesL_ (some 13) rfl rfl Try.func34 (by kernel_rfl) rfl #[.int .i64 2] rfl (by (try simp only [List.map_toArray, List.map_cons, List.map_nil]); first | done | rfl) ?_; (refine (rfour2 _).mono ?_); rintro e w1 ⟨rfl, hb⟩; refine ⟨_, rfl, ?_⟩; have n1_ := Aside0.mk (below_alloc (below_step HB.out hb) (.cells #[.bool true, .bool false, .bool false, .bool true] 45 (0, 0))); have n2_ := Aside0.mk (blk_alloc (blk_below BX.out hb) (.cells #[.bool true, .bool false, .bool false, .bool true] 45 (0, 0))); clear HB BX hb; have HB := n1_; have BX := n2_; clear n1_ n2_; have hx0 : (w1.alloc (.cells #[.bool true, .bool false, .bool false, .bool true] 45 (0, 0))).cell? ⟨w.heap.size, 0, none⟩ = some (.bool a) := (blk_cell BX.out 0).trans rfl; have hx1 : (w1.alloc (.cells #[.bool true, .bool false, .bool false, .bool true] 45 (0, 0))).cell? ⟨w.heap.size, 1, none⟩ = some (.bool b) := (blk_cell BX.out 1).trans rfl; have hx2 : (w1.alloc (.cells #[.bool true, .bool false, .bool false, .bool true] 45 (0, 0))).cell? ⟨w.heap.size, 2, none⟩ = some (.bool c) := (blk_cell BX.out 2).trans rfl; have hx3 : (w1.alloc (.cells #[.bool true, .bool false, .bool false, .bool true] 45 (0, 0))).cell? ⟨w.heap.size, 3, none⟩ = some (.bool d) := (blk_cell BX.out 3).trans rfl))
        (try simp only [Exit.inBlock, Exit.then])
        exact bodyPost_ret (results_list (rs := [.tmp 2, .tmp 3]) rfl (by simp) (.tmp (.tmp .nil))) rfl ⟨rfl, HB.out⟩
      · rw [if_neg hc] at hm
        replace hc := Bool.eq_false_iff.mpr hc
        replace hm := Aside0.mk hm
        go_wp2_with (first | ((with_reducible refine gate_callee (f := 34) rfl ?_); refine goesL_ (some 13) rfl rfl Try.func34 (by kernel_rfl) rfl #[.int .i64 2] rfl (by (try simp only [List.map_toArray, List.map_cons, List.map_nil]); first | done | rfl) ?_; (refine (rfour2 _).mono ?_); rintro e w1 ⟨rfl, hb⟩; refine ⟨_, rfl, ?_⟩; have n1_ := Aside0.mk (below_alloc (below_step HB.out hb) (.cells #[.bool true, .bool false, .bool false, .bool true] 45 (0, 0))); have n2_ := Aside0.mk (blk_alloc (blk_below BX.out hb) (.cells #[.bool true, .bool false, .bool false, .bool true] 45 (0, 0))); clear HB BX hb; have HB := n1_; have BX := n2_; clear n1_ n2_; have hx0 : (w1.alloc (.cells #[.bool true, .bool false, .bool false, .bool true] 45 (0, 0))).cell? ⟨w.heap.size, 0, none⟩ = some (.bool a) := (blk_cell BX.out 0).trans rfl; have hx1 : (w1.alloc (.cells #[.bool true, .bool false, .bool false, .bool true] 45 (0, 0))).cell? ⟨w.heap.size, 1, none⟩ = some (.bool b) := (blk_cell BX.out 1).trans rfl; have hx2 : (w1.alloc (.cells #[.bool true, .bool false, .bool false, .bool true] 45 (0, 0))).cell? ⟨w.heap.size, 2, none⟩ = some (.bool c) := (blk_cell BX.out 2).trans rfl; have hx3 : (w1.alloc (.cells #[.bool true, .bool false, .bool false, .bool true] 45 (0, 0))).cell? ⟨w.heap.size, 3, none⟩ = some (.bool d) := (blk_cell BX.out 3).trans rfl))
        go_roundw
        case rel => exact ⟨3, by omega, rfl, hm, BX, HB⟩
        case measure => simp [intOf]
    · rw [show rkFrom 3 a b c d = rk3 a b c d from rfl, rk3] at hm
      by_cases hc : e4 false true true false a b c d = true
      · rw [if_pos hc] at hm
        injection hm with e1 e2
        subst e1
        subst e2
        go_wp2_with (first | ((with_reducible refine gate_callee (f := 34) rfl ?_); refine goesL_ (some 13) rfl rfl Try.func34 (by kernel_rfl) rfl #[.int .i64 3] rfl (by (try simp only [List.map_toArray, List.map_cons, List.map_nil]); first | done | rfl) ?_; (refine (rfour3 _).mono ?_); rintro e w1 ⟨rfl, hb⟩; refine ⟨_, rfl, ?_⟩; have n1_ := Aside0.mk (below_alloc (below_step HB.out hb) (.cells #[.bool false, .bool true, .bool true, .bool false] 45 (0, 0))); have n2_ := Aside0.mk (blk_alloc (blk_below BX.out hb) (.cells #[.bool false, .bool true, .bool true, .bool false] 45 (0, 0))); clear HB BX hb; have HB := n1_; have BX := n2_; clear n1_ n2_; have hx0 : (w1.alloc (.cells #[.bool false, .bool true, .bool true, .bool false] 45 (0, 0))).cell? ⟨w.heap.size, 0, none⟩ = some (.bool a) := (blk_cell BX.out 0).trans rfl; have hx1 : (w1.alloc (.cells #[.bool false, .bool true, .bool true, .bool false] 45 (0, 0))).cell? ⟨w.heap.size, 1, none⟩ = some (.bool b) := (blk_cell BX.out 1).trans rfl; have hx2 : (w1.alloc (.cells #[.bool false, .bool true, .bool true, .bool false] 45 (0, 0))).cell? ⟨w.heap.size, 2, none⟩ = some (.bool c) := (blk_cell BX.out 2).trans rfl; have hx3 : (w1.alloc (.cells #[.bool false, .bool true, .bool true, .bool false] 45 (0, 0))).cell? ⟨w.heap.size, 3, none⟩ = some (.bool d) := (blk_cell BX.out 3).trans rfl))
        (try simp only [Exit.inBlock, Exit.then])
        exact bodyPost_ret (results_list (rs := [.tmp 2, .tmp 3]) rfl (by simp) (.tmp (.tmp .nil))) rfl ⟨rfl, HB.out⟩
      · rw [if_neg hc] at hm
        replace hc := Bool.eq_false_iff.mpr hc
        replace hm := Aside0.mk hm
        go_wp2_with (first | ((with_reducible refine gate_callee (f := 34) rfl ?_); refine goesL_ (some 13) rfl rfl Try.func34 (by kernel_rfl) rfl #[.int .i64 3] rfl (by (try simp only [List.map_toArray, List.map_cons, List.map_nil]); first | done | rfl) ?_; (refine (rfour3 _).mono ?_); rintro e w1 ⟨rfl, hb⟩; refine ⟨_, rfl, ?_⟩; have n1_ := Aside0.mk (below_alloc (below_step HB.out hb) (.cells #[.bool false, .bool true, .bool true, .bool false] 45 (0, 0))); have n2_ := Aside0.mk (blk_alloc (blk_below BX.out hb) (.cells #[.bool false, .bool true, .bool true, .bool false] 45 (0, 0))); clear HB BX hb; have HB := n1_; have BX := n2_; clear n1_ n2_; have hx0 : (w1.alloc (.cells #[.bool false, .bool true, .bool true, .bool false] 45 (0, 0))).cell? ⟨w.heap.size, 0, none⟩ = some (.bool a) := (blk_cell BX.out 0).trans rfl; have hx1 : (w1.alloc (.cells #[.bool false, .bool true, .bool true, .bool false] 45 (0, 0))).cell? ⟨w.heap.size, 1, none⟩ = some (.bool b) := (blk_cell BX.out 1).trans rfl; have hx2 : (w1.alloc (.cells #[.bool false, .bool true, .bool true, .bool false] 45 (0, 0))).cell? ⟨w.heap.size, 2, none⟩ = some (.bool c) := (blk_cell BX.out 2).trans rfl; have hx3 : (w1.alloc (.cells #[.bool false, .bool true, .bool true, .bool false] 45 (0, 0))).cell? ⟨w.heap.size, 3, none⟩ = some (.bool d) := (blk_cell BX.out 3).trans rfl))
        go_roundw
        case rel => exact ⟨4, by omega, rfl, hm, BX, HB⟩
        case measure => simp [intOf]
    · rw [show rkFrom 4 a b c d = rk4 a b c d from rfl, rk4] at hm
      by_cases hc : e4 false true false true a b c d = true
      · rw [if_pos hc] at hm
        injection hm with e1 e2
        subst e1
        subst e2
        go_wp2_with (first | ((with_reducible refine gate_callee (f := 34) rfl ?_); refine goesL_ (some 13) rfl rfl Try.func34 (by kernel_rfl) rfl #[.int .i64 4] rfl (by (try simp only [List.map_toArray, List.map_cons, List.map_nil]); first | done | rfl) ?_; (refine (rfour4 _).mono ?_); rintro e w1 ⟨rfl, hb⟩; refine ⟨_, rfl, ?_⟩; have n1_ := Aside0.mk (below_alloc (below_step HB.out hb) (.cells #[.bool false, .bool true, .bool false, .bool true] 45 (0, 0))); have n2_ := Aside0.mk (blk_alloc (blk_below BX.out hb) (.cells #[.bool false, .bool true, .bool false, .bool true] 45 (0, 0))); clear HB BX hb; have HB := n1_; have BX := n2_; clear n1_ n2_; have hx0 : (w1.alloc (.cells #[.bool false, .bool true, .bool false, .bool true] 45 (0, 0))).cell? ⟨w.heap.size, 0, none⟩ = some (.bool a) := (blk_cell BX.out 0).trans rfl; have hx1 : (w1.alloc (.cells #[.bool false, .bool true, .bool false, .bool true] 45 (0, 0))).cell? ⟨w.heap.size, 1, none⟩ = some (.bool b) := (blk_cell BX.out 1).trans rfl; have hx2 : (w1.alloc (.cells #[.bool false, .bool true, .bool false, .bool true] 45 (0, 0))).cell? ⟨w.heap.size, 2, none⟩ = some (.bool c) := (blk_cell BX.out 2).trans rfl; have hx3 : (w1.alloc (.cells #[.bool false, .bool true, .bool false, .bool true] 45 (0, 0))).cell? ⟨w.heap.size, 3, none⟩ = some (.bool d) := (blk_cell BX.out 3).trans rfl))
        (try simp only [Exit.inBlock, Exit.then])
        exact bodyPost_ret (results_list (rs := [.tmp 2, .tmp 3]) rfl (by simp) (.tmp (.tmp .nil))) rfl ⟨rfl, HB.out⟩
      · rw [if_neg hc] at hm
        replace hc := Bool.eq_false_iff.mpr hc
        replace hm := Aside0.mk hm
        go_wp2_with (first | ((with_reducible refine gate_callee (f := 34) rfl ?_); refine goesL_ (some 13) rfl rfl Try.func34 (by kernel_rfl) rfl #[.int .i64 4] rfl (by (try simp only [List.map_toArray, List.map_cons, List.map_nil]); first | done | rfl) ?_; (refine (rfour4 _).mono ?_); rintro e w1 ⟨rfl, hb⟩; refine ⟨_, rfl, ?_⟩; have n1_ := Aside0.mk (below_alloc (below_step HB.out hb) (.cells #[.bool false, .bool true, .bool false, .bool true] 45 (0, 0))); have n2_ := Aside0.mk (blk_alloc (blk_below BX.out hb) (.cells #[.bool false, .bool true, .bool false, .bool true] 45 (0, 0))); clear HB BX hb; have HB := n1_; have BX := n2_; clear n1_ n2_; have hx0 : (w1.alloc (.cells #[.bool false, .bool true, .bool false, .bool true] 45 (0, 0))).cell? ⟨w.heap.size, 0, none⟩ = some (.bool a) := (blk_cell BX.out 0).trans rfl; have hx1 : (w1.alloc (.cells #[.bool false, .bool true, .bool false, .bool true] 45 (0, 0))).cell? ⟨w.heap.size, 1, none⟩ = some (.bool b) := (blk_cell BX.out 1).trans rfl; have hx2 : (w1.alloc (.cells #[.bool false, .bool true, .bool false, .bool true] 45 (0, 0))).cell? ⟨w.heap.size, 2, none⟩ = some (.bool c) := (blk_cell BX.out 2).trans rfl; have hx3 : (w1.alloc (.cells #[.bool false, .bool true, .bool false, .bool true] 45 (0, 0))).cell? ⟨w.heap.size, 3, none⟩ = some (.bool d) := (blk_cell BX.out 3).trans rfl))
        go_roundw
        case rel => exact ⟨5, by omega, rfl, hm, BX, HB⟩
        case measure => simp [intOf]
    · rw [show rkFrom 5 a b c d = rk5 a b c d from rfl, rk5] at hm
      by_cases hc : e4 false false true true a b c d = true
      · rw [if_pos hc] at hm
        injection hm with e1 e2
        subst e1
        subst e2
        go_wp2_with (first | ((with_reducible refine gate_callee (f := 34) rfl ?_); refine goesL_ (some 13) rfl rfl Try.func34 (by kernel_rfl) rfl #[.int .i64 5] rfl (by (try simp only [List.map_toArray, List.map_cons, List.map_nil]); first | done | rfl) ?_; (refine (rfour5 _).mono ?_); rintro e w1 ⟨rfl, hb⟩; refine ⟨_, rfl, ?_⟩; have n1_ := Aside0.mk (below_alloc (below_step HB.out hb) (.cells #[.bool false, .bool false, .bool true, .bool true] 45 (0, 0))); have n2_ := Aside0.mk (blk_alloc (blk_below BX.out hb) (.cells #[.bool false, .bool false, .bool true, .bool true] 45 (0, 0))); clear HB BX hb; have HB := n1_; have BX := n2_; clear n1_ n2_; have hx0 : (w1.alloc (.cells #[.bool false, .bool false, .bool true, .bool true] 45 (0, 0))).cell? ⟨w.heap.size, 0, none⟩ = some (.bool a) := (blk_cell BX.out 0).trans rfl; have hx1 : (w1.alloc (.cells #[.bool false, .bool false, .bool true, .bool true] 45 (0, 0))).cell? ⟨w.heap.size, 1, none⟩ = some (.bool b) := (blk_cell BX.out 1).trans rfl; have hx2 : (w1.alloc (.cells #[.bool false, .bool false, .bool true, .bool true] 45 (0, 0))).cell? ⟨w.heap.size, 2, none⟩ = some (.bool c) := (blk_cell BX.out 2).trans rfl; have hx3 : (w1.alloc (.cells #[.bool false, .bool false, .bool true, .bool true] 45 (0, 0))).cell? ⟨w.heap.size, 3, none⟩ = some (.bool d) := (blk_cell BX.out 3).trans rfl))
        (try simp only [Exit.inBlock, Exit.then])
        exact bodyPost_ret (results_list (rs := [.tmp 2, .tmp 3]) rfl (by simp) (.tmp (.tmp .nil))) rfl ⟨rfl, HB.out⟩
      · rw [if_neg hc] at hm
        replace hc := Bool.eq_false_iff.mpr hc
        replace hm := Aside0.mk hm
        go_wp2_with (first | ((with_reducible refine gate_callee (f := 34) rfl ?_); refine goesL_ (some 13) rfl rfl Try.func34 (by kernel_rfl) rfl #[.int .i64 5] rfl (by (try simp only [List.map_toArray, List.map_cons, List.map_nil]); first | done | rfl) ?_; (refine (rfour5 _).mono ?_); rintro e w1 ⟨rfl, hb⟩; refine ⟨_, rfl, ?_⟩; have n1_ := Aside0.mk (below_alloc (below_step HB.out hb) (.cells #[.bool false, .bool false, .bool true, .bool true] 45 (0, 0))); have n2_ := Aside0.mk (blk_alloc (blk_below BX.out hb) (.cells #[.bool false, .bool false, .bool true, .bool true] 45 (0, 0))); clear HB BX hb; have HB := n1_; have BX := n2_; clear n1_ n2_; have hx0 : (w1.alloc (.cells #[.bool false, .bool false, .bool true, .bool true] 45 (0, 0))).cell? ⟨w.heap.size, 0, none⟩ = some (.bool a) := (blk_cell BX.out 0).trans rfl; have hx1 : (w1.alloc (.cells #[.bool false, .bool false, .bool true, .bool true] 45 (0, 0))).cell? ⟨w.heap.size, 1, none⟩ = some (.bool b) := (blk_cell BX.out 1).trans rfl; have hx2 : (w1.alloc (.cells #[.bool false, .bool false, .bool true, .bool true] 45 (0, 0))).cell? ⟨w.heap.size, 2, none⟩ = some (.bool c) := (blk_cell BX.out 2).trans rfl; have hx3 : (w1.alloc (.cells #[.bool false, .bool false, .bool true, .bool true] 45 (0, 0))).cell? ⟨w.heap.size, 3, none⟩ = some (.bool d) := (blk_cell BX.out 3).trans rfl))
        go_roundw
        case rel => exact ⟨6, by omega, rfl, hm, BX, HB⟩
        case measure => simp [intOf]
    · rw [show rkFrom 6 a b c d = (0, 14) from rfl] at hm
      injection hm with e1 e2
      subst e1
      subst e2
      go_wp2
      (try simp only [Exit.inBlock, Exit.then])
      exact bodyPost_ret (results_list (rs := [.tmp 2, .tmp 3]) rfl (by simp) (.tmp (.tmp .nil))) rfl ⟨rfl, HB.out⟩
end Go.Proofs.Ytjiogchafnpkhaa.D
