import Derived.Test.YtjiogchafnpkhaaD2
namespace Go.Proofs.Ytjiogchafnpkhaa.D
open Go.RowKit Go.Proofs.YtjiogchafnpkhaaW.PrintWords Go.Proofs.YtjiogchafnpkhaaW.PrintLast Go.Proofs.YtjiogchafnpkhaaW.PrintMore
attribute [local go_sem] max2_int min2_int max_two min_two max_three min_three max_four min_four
attribute [local go_sem] Go.Proofs.YtjiogchafnpkhaaS.cell_set_map Go.Proofs.YtjiogchafnpkhaaS.setCell_drewN
set_option linter.unusedVariables false
set_option linter.unusedSimpArgs false
/-- A tape's draw, and its place behind it. -/
def tapeX (l : List Int) (at_ : Int) : Int := if 0 ≤ at_ ∧ at_ < l.length then rdOf 0 l at_ % 4294967296 else 0
def tapeAt (l : List Int) (at_ : Int) : Int := if 0 ≤ at_ ∧ at_ < l.length then at_ + 1 else at_
set_option maxHeartbeats 4000000 in
set_option maxRecDepth 100000 in
theorem tape_calls (k st ic at_ : Int) (A : Option Addr) (c : Nat) (l : List Int) (w : World) (hr : Kd.C (Kd.int .u64) w A l.length l) : Calls Try.prog 61 #[.agg #[.int .i64 k, .int .u64 st, .int .u64 ic, .slice A l.length c, .int .i64 at_]] w fun e w' => e = .returned (.tuple #[.int .u32 (tapeX l at_), .agg #[.int .i64 k, .int .u64 st, .int .u64 ic, .slice A l.length c, .int .i64 (tapeAt l at_)]]) ∧ Below w.heap.size w w' := by
  have hu25 := Try.underlying25
  have hu71 := Try.underlying71
  have hu23 := Try.underlying23
  have hmx : l.length ≤ 9223372036854775807 := hr.2.1
  have HRI := Aside0.mk (Kd.reads_of_C (d := (0 : Int)) hr)
  clear hr
  by_cases h1 : at_ < 0
  · have e1 : tapeX l at_ = 0 := if_neg (by omega)
    have e2 : tapeAt l at_ = at_ := if_neg (by omega)
    rw [e1, e2]
    clear e1 e2
    have c1 : decide (at_ < 0) = true := decide_eq_true h1
    have B1 := Aside0.mk (blk_alloc (blk_new w (.cells #[.int .i64 k, .int .u64 st, .int .u64 ic, .slice A l.length c, .int .i64 at_] 71 (0, 0))) (.cells #[.int .i64 0, .int .u64 0, .int .u64 0, .slice none 0 0, .int .i64 0] 25 (0, 0)))
    have B3 := Aside0.mk (blk_new (w.alloc (.cells #[.int .i64 k, .int .u64 st, .int .u64 ic, .slice A l.length c, .int .i64 at_] 71 (0, 0))) (.cells #[.int .i64 0, .int .u64 0, .int .u64 0, .slice none 0 0, .int .i64 0] 25 (0, 0)))
    have E3 := Aside0.mk (Go.Proofs.YtjiogchafnpkhaaS.size_alloc w (.cells #[.int .i64 k, .int .u64 st, .int .u64 ic, .slice A l.length c, .int .i64 at_] 71 (0, 0)))
    have HB := Aside0.mk (below_alloc (below_alloc (Below.refl w.heap.size w) (.cells #[.int .i64 k, .int .u64 st, .int .u64 ic, .slice A l.length c, .int .i64 at_] 71 (0, 0))) (.cells #[.int .i64 0, .int .u64 0, .int .u64 0, .slice none 0 0, .int .i64 0] 25 (0, 0)))
    have hc0 : ((w.alloc (.cells #[.int .i64 k, .int .u64 st, .int .u64 ic, .slice A l.length c, .int .i64 at_] 71 (0, 0))).alloc (.cells #[.int .i64 0, .int .u64 0, .int .u64 0, .slice none 0 0, .int .i64 0] 25 (0, 0))).cell? ⟨w.heap.size, 0, none⟩ = some (.int .i64 k) := (blk_cell B1.out 0).trans rfl
    have hk0 := blk_frozen B1.out 0
    have hc1 : ((w.alloc (.cells #[.int .i64 k, .int .u64 st, .int .u64 ic, .slice A l.length c, .int .i64 at_] 71 (0, 0))).alloc (.cells #[.int .i64 0, .int .u64 0, .int .u64 0, .slice none 0 0, .int .i64 0] 25 (0, 0))).cell? ⟨w.heap.size, 1, none⟩ = some (.int .u64 st) := (blk_cell B1.out 1).trans rfl
    have hk1 := blk_frozen B1.out 1
    have hc2 : ((w.alloc (.cells #[.int .i64 k, .int .u64 st, .int .u64 ic, .slice A l.length c, .int .i64 at_] 71 (0, 0))).alloc (.cells #[.int .i64 0, .int .u64 0, .int .u64 0, .slice none 0 0, .int .i64 0] 25 (0, 0))).cell? ⟨w.heap.size, 2, none⟩ = some (.int .u64 ic) := (blk_cell B1.out 2).trans rfl
    have hk2 := blk_frozen B1.out 2
    have hc3 : ((w.alloc (.cells #[.int .i64 k, .int .u64 st, .int .u64 ic, .slice A l.length c, .int .i64 at_] 71 (0, 0))).alloc (.cells #[.int .i64 0, .int .u64 0, .int .u64 0, .slice none 0 0, .int .i64 0] 25 (0, 0))).cell? ⟨w.heap.size, 3, none⟩ = some (.slice A l.length c) := (blk_cell B1.out 3).trans rfl
    have hk3 := blk_frozen B1.out 3
    have hc4 : ((w.alloc (.cells #[.int .i64 k, .int .u64 st, .int .u64 ic, .slice A l.length c, .int .i64 at_] 71 (0, 0))).alloc (.cells #[.int .i64 0, .int .u64 0, .int .u64 0, .slice none 0 0, .int .i64 0] 25 (0, 0))).cell? ⟨w.heap.size, 4, none⟩ = some (.int .i64 at_) := (blk_cell B1.out 4).trans rfl
    have hk4 := blk_frozen B1.out 4
    go_enter Try.func61, Try.ntmps61
    go_wp2_with fail
    clear hc0 hk0 hc1 hk1 hc2 hk2 hc3 hk3 hc4 hk4
    simp only [Go.Proofs.YtjiogchafnpkhaaS.size_alloc] at *
    generalize hg1 : w.heap.size = g1 at *
    generalize hg3 : g1 + 1 = g3 at *
    have NG : Aside0 (g1 < g3) := ⟨by omega⟩
    have GE1 : Aside0 (w.heap.size ≤ g1) := ⟨by omega⟩
    have GE3 : Aside0 (w.heap.size ≤ g3) := ⟨by omega⟩
    clear hg3 E3
    generalize (w.alloc (.cells #[.int .i64 k, .int .u64 st, .int .u64 ic, .slice A l.length c, .int .i64 at_] 71 (0, 0))).alloc (.cells #[.int .i64 0, .int .u64 0, .int .u64 0, .slice none 0 0, .int .i64 0] 25 (0, 0)) = W0 at *
    replace HB : Aside0 (Below w.heap.size w W0) := by rw [hg1]; exact HB
    refine start_ (n := 4) (S := fun w' => w'.cell? ⟨g1, 0, none⟩ = some (.int .i64 k) ∧ w'.cell? ⟨g1, 1, none⟩ = some (.int .u64 st) ∧ w'.cell? ⟨g1, 2, none⟩ = some (.int .u64 ic) ∧ w'.cell? ⟨g1, 3, none⟩ = some (.slice A l.length c) ∧ w'.cell? ⟨g1, 4, none⟩ = some (.int .i64 at_)) (ds := [3]) #[false, false, false, false] (by kernel_rfl) rfl rfl ⟨(blk_cell B1.out 0).trans rfl, (blk_cell B1.out 1).trans rfl, (blk_cell B1.out 2).trans rfl, (blk_cell B1.out 3).trans rfl, (blk_cell B1.out 4).trans rfl⟩ (fun hHeld => ?_)
    replace B1 := Aside0.mk (blk_drew B1.out)
    replace B3 := Aside0.mk (blk_drew B3.out)
    replace HB := Aside0.mk (below_drew1 HB.out)
    generalize W0.drew = W1 at B1 B3 HB hHeld ⊢
    refine pure_ (i := 0) (N := (some 19)) (v := ?_) (a' := ?_) #[true, false, false, false] rfl rfl (by kernel_rfl) (fun _ _ _ h => h) (Or.inl ⟨by rfl, ?_⟩) ?_ ?_
    rotate_left
    · intro w'
      go_simp
      with_reducible rfl
    rotate_left
    · simp only [Act.put, List.setIfInBounds_toArray, List.set_cons_zero, List.set_cons_succ, i64_w, i32_w]
      rfl
    refine take_ (i := 1) (N := (some 20)) (v := ?_) (a' := ?_) #[true, true, false, false] rfl rfl (by kernel_rfl) (fun _ _ _ h => h) (Or.inl ⟨by rfl, ?_⟩) hHeld ?_ ?_
    rotate_left
    · rintro w' ⟨s0, s1, s2, s3, s4⟩
      go_simp
      with_reducible rfl
    rotate_left
    · simp only [Act.put, List.setIfInBounds_toArray, List.set_cons_zero, List.set_cons_succ, i64_w, i32_w]
      rfl
    refine pure_ (i := 2) (N := (some 2)) (v := ?_) (a' := ?_) #[true, true, true, false] rfl rfl (by kernel_rfl) (fun _ _ _ h => h) (Or.inl ⟨by rfl, ?_⟩) ?_ ?_
    rotate_left
    · intro w'
      go_simp
      with_reducible rfl
    rotate_left
    · simp only [Act.put, List.setIfInBounds_toArray, List.set_cons_zero, List.set_cons_succ, i64_w, i32_w]
      rfl
    refine last_ (i := 3) (N := none) #[true, true, true, true] rfl rfl (by kernel_rfl) (by decide) (fun K hK => ?_)
    have hs0 : W1.cell? ⟨g3, 0, none⟩ = some (.int .i64 0) := (blk_cell B3.out 0).trans rfl
    have hf0 := blk_frozen B3.out 0
    have hs1 : W1.cell? ⟨g3, 1, none⟩ = some (.int .u64 0) := (blk_cell B3.out 1).trans rfl
    have hf1 := blk_frozen B3.out 1
    have hs2 : W1.cell? ⟨g3, 2, none⟩ = some (.int .u64 0) := (blk_cell B3.out 2).trans rfl
    have hf2 := blk_frozen B3.out 2
    have hs3 : W1.cell? ⟨g3, 3, none⟩ = some (.slice none 0 0) := (blk_cell B3.out 3).trans rfl
    have hf3 := blk_frozen B3.out 3
    have hs4 : W1.cell? ⟨g3, 4, none⟩ = some (.int .i64 0) := (blk_cell B3.out 4).trans rfl
    have hf4 := blk_frozen B3.out 4
    refine skip_ (w1 := ?_) (by rfl) rfl ?_ ?_
    rotate_left
    · go_simp
      rfl
    refine hK.out _ _ ?_
    clear hK K
    refine done_ (by kernel_rfl) ?_
    try go_wp2
    have q0 := blk_set B3.out 0 (.int .i64 k)
    have q1 := blk_set q0 1 (.int .u64 st)
    have q2 := blk_set q1 2 (.int .u64 ic)
    have q3 := blk_set q2 3 (.slice A l.length c)
    have q4 := blk_set q3 4 (.int .i64 at_)
    (try simp only [Exit.inBlock, Exit.then])
    refine bodyPost_ret (results_list (rs := [.tmp 2, .cell 3 25]) rfl (by simp) (.tmp (.cell g3 25 #[.int .i64 k, .int .u64 st, .int .u64 ic, .slice A l.length c, .int .i64 at_] (0, 0) _ rfl (q4.trans (by rfl)) Try.underlying25 rfl (by kernel_rfl) .nil))) rfl ⟨rfl, ?_⟩
    have fin := below_set (j := 4) (v := (.int .i64 at_)) (below_set (j := 3) (v := (.slice A l.length c)) (below_set (j := 2) (v := (.int .u64 ic)) (below_set (j := 1) (v := (.int .u64 st)) (below_set (j := 0) (v := (.int .i64 k)) HB.out GE3.out) GE3.out) GE3.out) GE3.out) GE3.out
    first | exact fin | (rw [hg1] at fin; exact fin)
  · have c1 : decide (at_ < 0) = false := decide_eq_false h1
    by_cases h2 : (l.length : Int) ≤ at_
    · have e1 : tapeX l at_ = 0 := if_neg (by omega)
      have e2 : tapeAt l at_ = at_ := if_neg (by omega)
      rw [e1, e2]
      clear e1 e2
      have c2 : decide ((l.length : Int) ≤ at_) = true := decide_eq_true h2
      have B1 := Aside0.mk (blk_alloc (blk_new w (.cells #[.int .i64 k, .int .u64 st, .int .u64 ic, .slice A l.length c, .int .i64 at_] 71 (0, 0))) (.cells #[.int .i64 0, .int .u64 0, .int .u64 0, .slice none 0 0, .int .i64 0] 25 (0, 0)))
      have B3 := Aside0.mk (blk_new (w.alloc (.cells #[.int .i64 k, .int .u64 st, .int .u64 ic, .slice A l.length c, .int .i64 at_] 71 (0, 0))) (.cells #[.int .i64 0, .int .u64 0, .int .u64 0, .slice none 0 0, .int .i64 0] 25 (0, 0)))
      have E3 := Aside0.mk (Go.Proofs.YtjiogchafnpkhaaS.size_alloc w (.cells #[.int .i64 k, .int .u64 st, .int .u64 ic, .slice A l.length c, .int .i64 at_] 71 (0, 0)))
      have HB := Aside0.mk (below_alloc (below_alloc (Below.refl w.heap.size w) (.cells #[.int .i64 k, .int .u64 st, .int .u64 ic, .slice A l.length c, .int .i64 at_] 71 (0, 0))) (.cells #[.int .i64 0, .int .u64 0, .int .u64 0, .slice none 0 0, .int .i64 0] 25 (0, 0)))
      have hc0 : ((w.alloc (.cells #[.int .i64 k, .int .u64 st, .int .u64 ic, .slice A l.length c, .int .i64 at_] 71 (0, 0))).alloc (.cells #[.int .i64 0, .int .u64 0, .int .u64 0, .slice none 0 0, .int .i64 0] 25 (0, 0))).cell? ⟨w.heap.size, 0, none⟩ = some (.int .i64 k) := (blk_cell B1.out 0).trans rfl
      have hk0 := blk_frozen B1.out 0
      have hc1 : ((w.alloc (.cells #[.int .i64 k, .int .u64 st, .int .u64 ic, .slice A l.length c, .int .i64 at_] 71 (0, 0))).alloc (.cells #[.int .i64 0, .int .u64 0, .int .u64 0, .slice none 0 0, .int .i64 0] 25 (0, 0))).cell? ⟨w.heap.size, 1, none⟩ = some (.int .u64 st) := (blk_cell B1.out 1).trans rfl
      have hk1 := blk_frozen B1.out 1
      have hc2 : ((w.alloc (.cells #[.int .i64 k, .int .u64 st, .int .u64 ic, .slice A l.length c, .int .i64 at_] 71 (0, 0))).alloc (.cells #[.int .i64 0, .int .u64 0, .int .u64 0, .slice none 0 0, .int .i64 0] 25 (0, 0))).cell? ⟨w.heap.size, 2, none⟩ = some (.int .u64 ic) := (blk_cell B1.out 2).trans rfl
      have hk2 := blk_frozen B1.out 2
      have hc3 : ((w.alloc (.cells #[.int .i64 k, .int .u64 st, .int .u64 ic, .slice A l.length c, .int .i64 at_] 71 (0, 0))).alloc (.cells #[.int .i64 0, .int .u64 0, .int .u64 0, .slice none 0 0, .int .i64 0] 25 (0, 0))).cell? ⟨w.heap.size, 3, none⟩ = some (.slice A l.length c) := (blk_cell B1.out 3).trans rfl
      have hk3 := blk_frozen B1.out 3
      have hc4 : ((w.alloc (.cells #[.int .i64 k, .int .u64 st, .int .u64 ic, .slice A l.length c, .int .i64 at_] 71 (0, 0))).alloc (.cells #[.int .i64 0, .int .u64 0, .int .u64 0, .slice none 0 0, .int .i64 0] 25 (0, 0))).cell? ⟨w.heap.size, 4, none⟩ = some (.int .i64 at_) := (blk_cell B1.out 4).trans rfl
      have hk4 := blk_frozen B1.out 4
      go_enter Try.func61, Try.ntmps61
      go_wp2_with fail
      clear hc0 hk0 hc1 hk1 hc2 hk2 hc3 hk3 hc4 hk4
      simp only [Go.Proofs.YtjiogchafnpkhaaS.size_alloc] at *
      generalize hg1 : w.heap.size = g1 at *
      generalize hg3 : g1 + 1 = g3 at *
      have NG : Aside0 (g1 < g3) := ⟨by omega⟩
      have GE1 : Aside0 (w.heap.size ≤ g1) := ⟨by omega⟩
      have GE3 : Aside0 (w.heap.size ≤ g3) := ⟨by omega⟩
      clear hg3 E3
      generalize (w.alloc (.cells #[.int .i64 k, .int .u64 st, .int .u64 ic, .slice A l.length c, .int .i64 at_] 71 (0, 0))).alloc (.cells #[.int .i64 0, .int .u64 0, .int .u64 0, .slice none 0 0, .int .i64 0] 25 (0, 0)) = W0 at *
      replace HB : Aside0 (Below w.heap.size w W0) := by rw [hg1]; exact HB
      refine start_ (n := 4) (S := fun w' => w'.cell? ⟨g1, 0, none⟩ = some (.int .i64 k) ∧ w'.cell? ⟨g1, 1, none⟩ = some (.int .u64 st) ∧ w'.cell? ⟨g1, 2, none⟩ = some (.int .u64 ic) ∧ w'.cell? ⟨g1, 3, none⟩ = some (.slice A l.length c) ∧ w'.cell? ⟨g1, 4, none⟩ = some (.int .i64 at_)) (ds := [3]) #[false, false, false, false] (by kernel_rfl) rfl rfl ⟨(blk_cell B1.out 0).trans rfl, (blk_cell B1.out 1).trans rfl, (blk_cell B1.out 2).trans rfl, (blk_cell B1.out 3).trans rfl, (blk_cell B1.out 4).trans rfl⟩ (fun hHeld => ?_)
      replace B1 := Aside0.mk (blk_drew B1.out)
      replace B3 := Aside0.mk (blk_drew B3.out)
      replace HB := Aside0.mk (below_drew1 HB.out)
      generalize W0.drew = W1 at B1 B3 HB hHeld ⊢
      refine pure_ (i := 0) (N := (some 19)) (v := ?_) (a' := ?_) #[true, false, false, false] rfl rfl (by kernel_rfl) (fun _ _ _ h => h) (Or.inl ⟨by rfl, ?_⟩) ?_ ?_
      rotate_left
      · intro w'
        go_simp
        with_reducible rfl
      rotate_left
      · simp only [Act.put, List.setIfInBounds_toArray, List.set_cons_zero, List.set_cons_succ, i64_w, i32_w]
        rfl
      refine take_ (i := 1) (N := (some 20)) (v := ?_) (a' := ?_) #[true, true, false, false] rfl rfl (by kernel_rfl) (fun _ _ _ h => h) (Or.inl ⟨by rfl, ?_⟩) hHeld ?_ ?_
      rotate_left
      · rintro w' ⟨s0, s1, s2, s3, s4⟩
        go_simp
        with_reducible rfl
      rotate_left
      · simp only [Act.put, List.setIfInBounds_toArray, List.set_cons_zero, List.set_cons_succ, i64_w, i32_w]
        rfl
      refine pure_ (i := 2) (N := (some 2)) (v := ?_) (a' := ?_) #[true, true, true, false] rfl rfl (by kernel_rfl) (fun _ _ _ h => h) (Or.inl ⟨by rfl, ?_⟩) ?_ ?_
      rotate_left
      · intro w'
        go_simp
        with_reducible rfl
      rotate_left
      · simp only [Act.put, List.setIfInBounds_toArray, List.set_cons_zero, List.set_cons_succ, i64_w, i32_w]
        rfl
      refine last_ (i := 3) (N := none) #[true, true, true, true] rfl rfl (by kernel_rfl) (by decide) (fun K hK => ?_)
      have hs0 : W1.cell? ⟨g3, 0, none⟩ = some (.int .i64 0) := (blk_cell B3.out 0).trans rfl
      have hf0 := blk_frozen B3.out 0
      have hs1 : W1.cell? ⟨g3, 1, none⟩ = some (.int .u64 0) := (blk_cell B3.out 1).trans rfl
      have hf1 := blk_frozen B3.out 1
      have hs2 : W1.cell? ⟨g3, 2, none⟩ = some (.int .u64 0) := (blk_cell B3.out 2).trans rfl
      have hf2 := blk_frozen B3.out 2
      have hs3 : W1.cell? ⟨g3, 3, none⟩ = some (.slice none 0 0) := (blk_cell B3.out 3).trans rfl
      have hf3 := blk_frozen B3.out 3
      have hs4 : W1.cell? ⟨g3, 4, none⟩ = some (.int .i64 0) := (blk_cell B3.out 4).trans rfl
      have hf4 := blk_frozen B3.out 4
      refine skip_ (w1 := ?_) (by rfl) rfl ?_ ?_
      rotate_left
      · go_simp
        rfl
      refine hK.out _ _ ?_
      clear hK K
      refine done_ (by kernel_rfl) ?_
      try go_wp2
      have q0 := blk_set B3.out 0 (.int .i64 k)
      have q1 := blk_set q0 1 (.int .u64 st)
      have q2 := blk_set q1 2 (.int .u64 ic)
      have q3 := blk_set q2 3 (.slice A l.length c)
      have q4 := blk_set q3 4 (.int .i64 at_)
      (try simp only [Exit.inBlock, Exit.then])
      refine bodyPost_ret (results_list (rs := [.tmp 2, .cell 3 25]) rfl (by simp) (.tmp (.cell g3 25 #[.int .i64 k, .int .u64 st, .int .u64 ic, .slice A l.length c, .int .i64 at_] (0, 0) _ rfl (q4.trans (by rfl)) Try.underlying25 rfl (by kernel_rfl) .nil))) rfl ⟨rfl, ?_⟩
      have fin := below_set (j := 4) (v := (.int .i64 at_)) (below_set (j := 3) (v := (.slice A l.length c)) (below_set (j := 2) (v := (.int .u64 ic)) (below_set (j := 1) (v := (.int .u64 st)) (below_set (j := 0) (v := (.int .i64 k)) HB.out GE3.out) GE3.out) GE3.out) GE3.out) GE3.out
      first | exact fin | (rw [hg1] at fin; exact fin)
    · have c2 : decide ((l.length : Int) ≤ at_) = false := decide_eq_false h2
      obtain ⟨j, rfl⟩ : ∃ j : Nat, at_ = (j : Int) := ⟨at_.toNat, by omega⟩
      have e1 : tapeX l (j : Int) = rdOf 0 l (j : Int) % 4294967296 := if_pos (by omega)
      have e2 : tapeAt l (j : Int) = (j : Int) + 1 := if_pos (by omega)
      rw [e1, e2]
      clear e1 e2
      have hj0 : (0 : Int) ≤ (j : Int) := by omega
      have hj1 : (j : Int) < (l.length : Int) := by omega
      have hw : IntKind.i64.wrap ((j : Int) + 1) = (j : Int) + 1 := IntWalk.i64_in _ ⟨by omega, by omega⟩
      obtain ⟨ad, e, hx⟩ := HRI.out.at_ (j : Int) hj0 hj1
      rw [Int.toNat_natCast] at hx
      generalize rdOf 0 l (j : Int) = x at *
      subst e
      have B1 := Aside0.mk (blk_alloc (blk_new w (.cells #[.int .i64 k, .int .u64 st, .int .u64 ic, .slice (some ad) l.length c, .int .i64 (j : Int)] 71 (0, 0))) (.cells #[.int .i64 0, .int .u64 0, .int .u64 0, .slice none 0 0, .int .i64 0] 25 (0, 0)))
      have B3 := Aside0.mk (blk_new (w.alloc (.cells #[.int .i64 k, .int .u64 st, .int .u64 ic, .slice (some ad) l.length c, .int .i64 (j : Int)] 71 (0, 0))) (.cells #[.int .i64 0, .int .u64 0, .int .u64 0, .slice none 0 0, .int .i64 0] 25 (0, 0)))
      have E3 := Aside0.mk (Go.Proofs.YtjiogchafnpkhaaS.size_alloc w (.cells #[.int .i64 k, .int .u64 st, .int .u64 ic, .slice (some ad) l.length c, .int .i64 (j : Int)] 71 (0, 0)))
      have HB := Aside0.mk (below_alloc (below_alloc (Below.refl w.heap.size w) (.cells #[.int .i64 k, .int .u64 st, .int .u64 ic, .slice (some ad) l.length c, .int .i64 (j : Int)] 71 (0, 0))) (.cells #[.int .i64 0, .int .u64 0, .int .u64 0, .slice none 0 0, .int .i64 0] 25 (0, 0)))
      have hc0 : ((w.alloc (.cells #[.int .i64 k, .int .u64 st, .int .u64 ic, .slice (some ad) l.length c, .int .i64 (j : Int)] 71 (0, 0))).alloc (.cells #[.int .i64 0, .int .u64 0, .int .u64 0, .slice none 0 0, .int .i64 0] 25 (0, 0))).cell? ⟨w.heap.size, 0, none⟩ = some (.int .i64 k) := (blk_cell B1.out 0).trans rfl
      have hk0 := blk_frozen B1.out 0
      have hc1 : ((w.alloc (.cells #[.int .i64 k, .int .u64 st, .int .u64 ic, .slice (some ad) l.length c, .int .i64 (j : Int)] 71 (0, 0))).alloc (.cells #[.int .i64 0, .int .u64 0, .int .u64 0, .slice none 0 0, .int .i64 0] 25 (0, 0))).cell? ⟨w.heap.size, 1, none⟩ = some (.int .u64 st) := (blk_cell B1.out 1).trans rfl
      have hk1 := blk_frozen B1.out 1
      have hc2 : ((w.alloc (.cells #[.int .i64 k, .int .u64 st, .int .u64 ic, .slice (some ad) l.length c, .int .i64 (j : Int)] 71 (0, 0))).alloc (.cells #[.int .i64 0, .int .u64 0, .int .u64 0, .slice none 0 0, .int .i64 0] 25 (0, 0))).cell? ⟨w.heap.size, 2, none⟩ = some (.int .u64 ic) := (blk_cell B1.out 2).trans rfl
      have hk2 := blk_frozen B1.out 2
      have hc3 : ((w.alloc (.cells #[.int .i64 k, .int .u64 st, .int .u64 ic, .slice (some ad) l.length c, .int .i64 (j : Int)] 71 (0, 0))).alloc (.cells #[.int .i64 0, .int .u64 0, .int .u64 0, .slice none 0 0, .int .i64 0] 25 (0, 0))).cell? ⟨w.heap.size, 3, none⟩ = some (.slice (some ad) l.length c) := (blk_cell B1.out 3).trans rfl
      have hk3 := blk_frozen B1.out 3
      have hc4 : ((w.alloc (.cells #[.int .i64 k, .int .u64 st, .int .u64 ic, .slice (some ad) l.length c, .int .i64 (j : Int)] 71 (0, 0))).alloc (.cells #[.int .i64 0, .int .u64 0, .int .u64 0, .slice none 0 0, .int .i64 0] 25 (0, 0))).cell? ⟨w.heap.size, 4, none⟩ = some (.int .i64 (j : Int)) := (blk_cell B1.out 4).trans rfl
      have hk4 := blk_frozen B1.out 4
      replace hx := (HB.out.cell (World.block_lt_of_cell? w _ hx)).trans hx
      clear B1 B3 E3 HB
      have B1 := Aside0.mk (blk_alloc (blk_new w (.cells #[.int .i64 k, .int .u64 st, .int .u64 ic, .slice (some ad) l.length c, .int .i64 ((j : Int) + 1)] 71 (0, 0))) (.cells #[.int .i64 0, .int .u64 0, .int .u64 0, .slice none 0 0, .int .i64 0] 25 (0, 0)))
      have B3 := Aside0.mk (blk_new (w.alloc (.cells #[.int .i64 k, .int .u64 st, .int .u64 ic, .slice (some ad) l.length c, .int .i64 ((j : Int) + 1)] 71 (0, 0))) (.cells #[.int .i64 0, .int .u64 0, .int .u64 0, .slice none 0 0, .int .i64 0] 25 (0, 0)))
      have E3 := Aside0.mk (Go.Proofs.YtjiogchafnpkhaaS.size_alloc w (.cells #[.int .i64 k, .int .u64 st, .int .u64 ic, .slice (some ad) l.length c, .int .i64 ((j : Int) + 1)] 71 (0, 0)))
      have HB := Aside0.mk (below_alloc (below_alloc (Below.refl w.heap.size w) (.cells #[.int .i64 k, .int .u64 st, .int .u64 ic, .slice (some ad) l.length c, .int .i64 ((j : Int) + 1)] 71 (0, 0))) (.cells #[.int .i64 0, .int .u64 0, .int .u64 0, .slice none 0 0, .int .i64 0] 25 (0, 0)))
      go_enter Try.func61, Try.ntmps61
      go_wp2_with fail
      clear hc0 hk0 hc1 hk1 hc2 hk2 hc3 hk3 hc4 hk4
      clear hx
      simp only [Go.Proofs.YtjiogchafnpkhaaS.size_alloc] at *
      generalize hg1 : w.heap.size = g1 at *
      generalize hg3 : g1 + 1 = g3 at *
      have NG : Aside0 (g1 < g3) := ⟨by omega⟩
      have GE1 : Aside0 (w.heap.size ≤ g1) := ⟨by omega⟩
      have GE3 : Aside0 (w.heap.size ≤ g3) := ⟨by omega⟩
      clear hg3 E3
      generalize (w.alloc (.cells #[.int .i64 k, .int .u64 st, .int .u64 ic, .slice (some ad) l.length c, .int .i64 ((j : Int) + 1)] 71 (0, 0))).alloc (.cells #[.int .i64 0, .int .u64 0, .int .u64 0, .slice none 0 0, .int .i64 0] 25 (0, 0)) = W0 at *
      replace HB : Aside0 (Below w.heap.size w W0) := by rw [hg1]; exact HB
      refine start_ (n := 5) (S := fun w' => w'.cell? ⟨g1, 0, none⟩ = some (.int .i64 k) ∧ w'.cell? ⟨g1, 1, none⟩ = some (.int .u64 st) ∧ w'.cell? ⟨g1, 2, none⟩ = some (.int .u64 ic) ∧ w'.cell? ⟨g1, 3, none⟩ = some (.slice (some ad) l.length c) ∧ w'.cell? ⟨g1, 4, none⟩ = some (.int .i64 ((j : Int) + 1))) (ds := [4]) #[false, false, false, false, false] (by kernel_rfl) rfl rfl ⟨(blk_cell B1.out 0).trans rfl, (blk_cell B1.out 1).trans rfl, (blk_cell B1.out 2).trans rfl, (blk_cell B1.out 3).trans rfl, (blk_cell B1.out 4).trans rfl⟩ (fun hHeld => ?_)
      replace B1 := Aside0.mk (blk_drew B1.out)
      replace B3 := Aside0.mk (blk_drew B3.out)
      replace HB := Aside0.mk (below_drew1 HB.out)
      generalize W0.drew = W1 at B1 B3 HB hHeld ⊢
      refine pure_ (i := 0) (N := (some 36)) (v := ?_) (a' := ?_) #[true, false, false, false, false] rfl rfl (by kernel_rfl) (fun _ _ _ h => h) (Or.inl ⟨by rfl, ?_⟩) ?_ ?_
      rotate_left
      · intro w'
        go_simp
        with_reducible rfl
      rotate_left
      · simp only [Act.put, List.setIfInBounds_toArray, List.set_cons_zero, List.set_cons_succ, i64_w, i32_w]
        rfl
      refine pure_ (i := 1) (N := (some 37)) (v := ?_) (a' := ?_) #[true, true, false, false, false] rfl rfl (by kernel_rfl) (fun _ _ _ h => h) (Or.inl ⟨by rfl, ?_⟩) ?_ ?_
      rotate_left
      · intro w'
        go_simp
        with_reducible rfl
      rotate_left
      · simp only [Act.put, List.setIfInBounds_toArray, List.set_cons_zero, List.set_cons_succ, i64_w, i32_w]
        rfl
      refine take_ (i := 2) (N := (some 38)) (v := ?_) (a' := ?_) #[true, true, true, false, false] rfl rfl (by kernel_rfl) (fun _ _ _ h => h) (Or.inl ⟨by rfl, ?_⟩) hHeld ?_ ?_
      rotate_left
      · rintro w' ⟨s0, s1, s2, s3, s4⟩
        go_simp
        with_reducible rfl
      rotate_left
      · simp only [Act.put, List.setIfInBounds_toArray, List.set_cons_zero, List.set_cons_succ, i64_w, i32_w]
        rfl
      refine pure_ (i := 3) (N := (some 2)) (v := ?_) (a' := ?_) #[true, true, true, true, false] rfl rfl (by kernel_rfl) (fun _ _ _ h => h) (Or.inl ⟨by rfl, ?_⟩) ?_ ?_
      rotate_left
      · intro w'
        go_simp
        with_reducible rfl
      rotate_left
      · simp only [Act.put, List.setIfInBounds_toArray, List.set_cons_zero, List.set_cons_succ, i64_w, i32_w]
        rfl
      refine last_ (i := 4) (N := none) #[true, true, true, true, true] rfl rfl (by kernel_rfl) (by decide) (fun K hK => ?_)
      have hs0 : W1.cell? ⟨g3, 0, none⟩ = some (.int .i64 0) := (blk_cell B3.out 0).trans rfl
      have hf0 := blk_frozen B3.out 0
      have hs1 : W1.cell? ⟨g3, 1, none⟩ = some (.int .u64 0) := (blk_cell B3.out 1).trans rfl
      have hf1 := blk_frozen B3.out 1
      have hs2 : W1.cell? ⟨g3, 2, none⟩ = some (.int .u64 0) := (blk_cell B3.out 2).trans rfl
      have hf2 := blk_frozen B3.out 2
      have hs3 : W1.cell? ⟨g3, 3, none⟩ = some (.slice none 0 0) := (blk_cell B3.out 3).trans rfl
      have hf3 := blk_frozen B3.out 3
      have hs4 : W1.cell? ⟨g3, 4, none⟩ = some (.int .i64 0) := (blk_cell B3.out 4).trans rfl
      have hf4 := blk_frozen B3.out 4
      refine skip_ (w1 := ?_) (by rfl) rfl ?_ ?_
      rotate_left
      · go_simp
        rfl
      refine hK.out _ _ ?_
      clear hK K
      refine done_ (by kernel_rfl) ?_
      try go_wp2
      have q0 := blk_set B3.out 0 (.int .i64 k)
      have q1 := blk_set q0 1 (.int .u64 st)
      have q2 := blk_set q1 2 (.int .u64 ic)
      have q3 := blk_set q2 3 (.slice (some ad) l.length c)
      have q4 := blk_set q3 4 (.int .i64 ((j : Int) + 1))
      (try simp only [Exit.inBlock, Exit.then])
      refine bodyPost_ret (results_list (rs := [.tmp 2, .cell 3 25]) rfl (by simp) (.tmp (.cell g3 25 #[.int .i64 k, .int .u64 st, .int .u64 ic, .slice (some ad) l.length c, .int .i64 ((j : Int) + 1)] (0, 0) _ rfl (q4.trans (by rfl)) Try.underlying25 rfl (by kernel_rfl) .nil))) rfl ⟨rfl, ?_⟩
      have fin := below_set (j := 4) (v := (.int .i64 ((j : Int) + 1))) (below_set (j := 3) (v := (.slice (some ad) l.length c)) (below_set (j := 2) (v := (.int .u64 ic)) (below_set (j := 1) (v := (.int .u64 st)) (below_set (j := 0) (v := (.int .i64 k)) HB.out GE3.out) GE3.out) GE3.out) GE3.out) GE3.out
      first | exact fin | (rw [hg1] at fin; exact fin)
end Go.Proofs.Ytjiogchafnpkhaa.D
