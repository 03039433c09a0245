import Derived.Test.YtjiogchafnpkhaaD5
namespace Go.Proofs.Ytjiogchafnpkhaa.D
open Go.RowKit Go.Proofs.YtjiogchafnpkhaaW.PrintWords Go.Proofs.YtjiogchafnpkhaaW.PrintLast Go.Proofs.YtjiogchafnpkhaaW.PrintMore
attribute [local go_sem] max2_int min2_int max_two min_two max_three min_three max_four min_four
attribute [local go_sem] Go.Proofs.YtjiogchafnpkhaaS.cell_set_map Go.Proofs.YtjiogchafnpkhaaS.setCell_drewN
set_option linter.unusedVariables false
set_option linter.unusedSimpArgs false
/-- A draw below n. -/
def belowX (k st : Int) (l : List Int) (at_ n : Int) : Int := if n ≤ 0 then 0 else Int.tmod (nextX k st l at_) n
def belowSt (k st ic n : Int) : Int := if n ≤ 0 then st else nextSt k st ic
def belowAt (k : Int) (l : List Int) (at_ n : Int) : Int := if n ≤ 0 then at_ else nextAt k l at_
set_option maxHeartbeats 4000000 in
set_option maxRecDepth 100000 in
theorem draw_Below_calls (k st ic at_ : Int) (A : Option Addr) (c : Nat) (l : List Int) (n : Int) (w : World) (hr : Kd.C (Kd.int .u64) w A l.length l) : Calls Try.prog 23 #[.agg #[.int .i64 k, .int .u64 st, .int .u64 ic, .slice A l.length c, .int .i64 at_], .int .i64 n] w fun e w' => e = .returned (.tuple #[.int .i64 (belowX k st l at_ n), .agg #[.int .i64 k, .int .u64 (belowSt k st ic n), .int .u64 ic, .slice A l.length c, .int .i64 (belowAt k l at_ n)]]) ∧ Below w.heap.size w w' := by
  have hu25 := Try.underlying25
  have HR := Aside0.mk hr
  clear hr
  have B1 := Aside0.mk (blk_alloc (blk_new w (.cells #[.int .i64 k, .int .u64 st, .int .u64 ic, .slice A l.length c, .int .i64 at_] 25 (0, 0))) (.cells #[.int .i64 0, .int .u64 0, .int .u64 0, .slice none 0 0, .int .i64 0] 25 (0, 0)))
  have B3 := Aside0.mk (show (((w.alloc (.cells #[.int .i64 k, .int .u64 st, .int .u64 ic, .slice A l.length c, .int .i64 at_] 25 (0, 0))).alloc (.cells #[.int .i64 0, .int .u64 0, .int .u64 0, .slice none 0 0, .int .i64 0] 25 (0, 0))).heap[w.heap.size + 1]? = some (.cells #[.int .i64 0, .int .u64 0, .int .u64 0, .slice none 0 0, .int .i64 0] 25 (0, 0))) by have := blk_new (w.alloc (.cells #[.int .i64 k, .int .u64 st, .int .u64 ic, .slice A l.length c, .int .i64 at_] 25 (0, 0))) (.cells #[.int .i64 0, .int .u64 0, .int .u64 0, .slice none 0 0, .int .i64 0] 25 (0, 0)); rwa [Go.Proofs.YtjiogchafnpkhaaS.size_alloc] at this)
  have HB := Aside0.mk (below_alloc (below_alloc (Below.refl w.heap.size w) (.cells #[.int .i64 k, .int .u64 st, .int .u64 ic, .slice A l.length c, .int .i64 at_] 25 (0, 0))) (.cells #[.int .i64 0, .int .u64 0, .int .u64 0, .slice none 0 0, .int .i64 0] 25 (0, 0)))
  have GE3 : Aside0 (w.heap.size ≤ w.heap.size + 1) := ⟨by omega⟩
  by_cases h1 : n ≤ 0
  · have e1 : belowX k st l at_ n = 0 := if_pos h1
    have e2 : belowSt k st ic n = st := if_pos h1
    have e3 : belowAt k l at_ n = at_ := if_pos h1
    rw [e1, e2, e3]
    clear e1 e2 e3
    go_enter Try.func23, Try.ntmps23
    go_wp2_with fail
    generalize ((w.alloc (.cells #[.int .i64 k, .int .u64 st, .int .u64 ic, .slice A l.length c, .int .i64 at_] 25 (0, 0))).alloc (.cells #[.int .i64 0, .int .u64 0, .int .u64 0, .slice none 0 0, .int .i64 0] 25 (0, 0))) = W0 at *
    refine start_ (n := 3) (S := fun w' => w'.cell? ⟨w.heap.size, 0, none⟩ = some (.int .i64 k) ∧ w'.cell? ⟨w.heap.size, 1, none⟩ = some (.int .u64 st) ∧ w'.cell? ⟨w.heap.size, 2, none⟩ = some (.int .u64 ic) ∧ w'.cell? ⟨w.heap.size, 3, none⟩ = some (.slice A l.length c) ∧ w'.cell? ⟨w.heap.size, 4, none⟩ = some (.int .i64 at_)) (ds := [2]) #[false, false, false] (by kernel_rfl) rfl rfl ⟨(blk_cell B1.out 0).trans rfl, (blk_cell B1.out 1).trans rfl, (blk_cell B1.out 2).trans rfl, (blk_cell B1.out 3).trans rfl, (blk_cell B1.out 4).trans rfl⟩ (fun hHeld => ?_)
    replace B1 := Aside0.mk (blk_drew B1.out)
    replace B3 := Aside0.mk (blk_drew B3.out)
    replace HB := Aside0.mk (below_drew1 HB.out)
    generalize W0.drew = W6 at B1 B3 HB hHeld ⊢
    refine take_ (i := 0) (N := (some 10)) (v := ?_) (a' := ?_) #[true, false, false] rfl rfl (by kernel_rfl) (fun _ _ _ h => h) (Or.inl ⟨by rfl, ?_⟩) hHeld ?_ ?_
    rotate_left
    · rintro w' ⟨s0, s1, s2, s3, s4⟩
      go_simp
      with_reducible rfl
    rotate_left
    · simp only [Act.put, List.setIfInBounds_toArray, List.set_cons_zero, List.set_cons_succ, i64_w, i32_w]
      rfl
    refine pure_ (i := 1) (N := (some 4)) (v := ?_) (a' := ?_) #[true, true, false] rfl rfl (by kernel_rfl) (fun _ _ _ h => h) (Or.inl ⟨by rfl, ?_⟩) ?_ ?_
    rotate_left
    · intro w'
      go_simp
      with_reducible rfl
    rotate_left
    · simp only [Act.put, List.setIfInBounds_toArray, List.set_cons_zero, List.set_cons_succ, i64_w, i32_w]
      rfl
    refine last_ (i := 2) (N := none) #[true, true, true] rfl rfl (by kernel_rfl) (by decide) (fun K hK => ?_)
    have hs0 : W6.cell? ⟨w.heap.size + 1, 0, none⟩ = some (.int .i64 0) := (blk_cell B3.out 0).trans rfl
    have hf0 := blk_frozen B3.out 0
    have hs1 : W6.cell? ⟨w.heap.size + 1, 1, none⟩ = some (.int .u64 0) := (blk_cell B3.out 1).trans rfl
    have hf1 := blk_frozen B3.out 1
    have hs2 : W6.cell? ⟨w.heap.size + 1, 2, none⟩ = some (.int .u64 0) := (blk_cell B3.out 2).trans rfl
    have hf2 := blk_frozen B3.out 2
    have hs3 : W6.cell? ⟨w.heap.size + 1, 3, none⟩ = some (.slice none 0 0) := (blk_cell B3.out 3).trans rfl
    have hf3 := blk_frozen B3.out 3
    have hs4 : W6.cell? ⟨w.heap.size + 1, 4, none⟩ = some (.int .i64 0) := (blk_cell B3.out 4).trans rfl
    have hf4 := blk_frozen B3.out 4
    refine skip_ (w1 := ?_) (by rfl) rfl ?_ ?_
    rotate_left
    · go_simp
      rfl
    refine hK.out _ _ ?_
    clear hK K
    refine done_ (by kernel_rfl) ?_
    try go_wp2
    have q0 := blk_set B3.out 0 (.int .i64 k)
    have q1 := blk_set q0 1 (.int .u64 st)
    have q2 := blk_set q1 2 (.int .u64 ic)
    have q3 := blk_set q2 3 (.slice A l.length c)
    have q4 := blk_set q3 4 (.int .i64 at_)
    (try simp only [Exit.inBlock, Exit.then])
    refine bodyPost_ret (results_list (rs := [.tmp 4, .cell 5 25]) rfl (by simp) (.tmp (.cell (w.heap.size + 1) 25 #[.int .i64 k, .int .u64 st, .int .u64 ic, .slice A l.length c, .int .i64 at_] (0, 0) _ rfl (q4.trans (by rfl)) Try.underlying25 rfl (by kernel_rfl) .nil))) rfl ⟨rfl, ?_⟩
    exact below_set (j := 4) (v := (.int .i64 at_)) (below_set (j := 3) (v := (.slice A l.length c)) (below_set (j := 2) (v := (.int .u64 ic)) (below_set (j := 1) (v := (.int .u64 st)) (below_set (j := 0) (v := (.int .i64 k)) HB.out GE3.out) GE3.out) GE3.out) GE3.out) GE3.out
  · have e1 : belowX k st l at_ n = Int.tmod (nextX k st l at_) n := if_neg h1
    have e2 : belowSt k st ic n = nextSt k st ic := if_neg h1
    have e3 : belowAt k l at_ n = nextAt k l at_ := if_neg h1
    rw [e1, e2, e3]
    clear e1 e2 e3
    have hn0 : ¬ n = 0 := by omega
    go_enter Try.func23, Try.ntmps23
    go_wp2_with (first | ((with_reducible refine gate_callee (f := 13) rfl ?_); refine goesL_ (some 13) rfl rfl Try.func13 (by kernel_rfl) rfl #[.agg #[.int .i64 k, .int .u64 st, .int .u64 ic, .slice A l.length c, .int .i64 at_]] rfl (by (try simp only [List.map_toArray, List.map_cons, List.map_nil]); first | done | rfl) ?_; (refine (draw_Next_calls k st ic at_ A c l _ (Kd.C_below HR.out HB.out)).mono ?_); rintro e w1 ⟨rfl, hb⟩; refine ⟨_, rfl, ?_⟩; have n1_ := Aside0.mk (below_alloc (below_step HB.out hb) (.cells #[.int .i64 k, .int .u64 (nextSt k st ic), .int .u64 ic, .slice A l.length c, .int .i64 (nextAt k l at_)] 25 (0, 0))); have n2_ := Aside0.mk (blk_alloc (blk_below B3.out hb) (.cells #[.int .i64 k, .int .u64 (nextSt k st ic), .int .u64 ic, .slice A l.length c, .int .i64 (nextAt k l at_)] 25 (0, 0))); have B7 := Aside0.mk (blk_new w1 (.cells #[.int .i64 k, .int .u64 (nextSt k st ic), .int .u64 ic, .slice A l.length c, .int .i64 (nextAt k l at_)] 25 (0, 0))); clear HB B3 B1 hb; have HB := n1_; have B3 := n2_; clear n1_ n2_))
    generalize w1.heap.size = g7 at *
    generalize w1.alloc (.cells #[.int .i64 k, .int .u64 (nextSt k st ic), .int .u64 ic, .slice A l.length c, .int .i64 (nextAt k l at_)] 25 (0, 0)) = W5 at *
    refine start_ (n := 6) (S := fun w' => w'.cell? ⟨g7, 0, none⟩ = some (.int .i64 k) ∧ w'.cell? ⟨g7, 1, none⟩ = some (.int .u64 (nextSt k st ic)) ∧ w'.cell? ⟨g7, 2, none⟩ = some (.int .u64 ic) ∧ w'.cell? ⟨g7, 3, none⟩ = some (.slice A l.length c) ∧ w'.cell? ⟨g7, 4, none⟩ = some (.int .i64 (nextAt k l at_))) (ds := [5]) #[false, false, false, false, false, false] (by kernel_rfl) rfl rfl ⟨(blk_cell B7.out 0).trans rfl, (blk_cell B7.out 1).trans rfl, (blk_cell B7.out 2).trans rfl, (blk_cell B7.out 3).trans rfl, (blk_cell B7.out 4).trans rfl⟩ (fun hHeld => ?_)
    replace B7 := Aside0.mk (blk_drew B7.out)
    replace B3 := Aside0.mk (blk_drew B3.out)
    replace HB := Aside0.mk (below_drew1 HB.out)
    generalize W5.drew = W6 at B7 B3 HB hHeld ⊢
    refine pure_ (i := 0) (N := (some 16)) (v := ?_) (a' := ?_) #[true, false, false, false, false, false] rfl rfl (by kernel_rfl) (fun _ _ _ h => h) (Or.inl ⟨by rfl, ?_⟩) ?_ ?_
    rotate_left
    · intro w'
      go_simp
      with_reducible rfl
    rotate_left
    · simp only [Act.put, List.setIfInBounds_toArray, List.set_cons_zero, List.set_cons_succ, i64_w, i32_w]
      rfl
    refine pure_ (i := 1) (N := (some 17)) (v := ?_) (a' := ?_) #[true, true, false, false, false, false] rfl rfl (by kernel_rfl) (fun _ _ _ h => h) (Or.inl ⟨by rfl, ?_⟩) ?_ ?_
    rotate_left
    · intro w'
      go_simp
      with_reducible rfl
    rotate_left
    · simp only [Act.put, List.setIfInBounds_toArray, List.set_cons_zero, List.set_cons_succ, i64_w, i32_w]
      rfl
    refine pure_ (i := 2) (N := (some 18)) (v := ?_) (a' := ?_) #[true, true, true, false, false, false] rfl rfl (by kernel_rfl) (fun _ _ _ h => h) (Or.inl ⟨by rfl, ?_⟩) ?_ ?_
    rotate_left
    · intro w'
      go_simp
      with_reducible rfl
    rotate_left
    · simp only [Act.put, List.setIfInBounds_toArray, List.set_cons_zero, List.set_cons_succ, i64_w, i32_w]
      rfl
    refine take_ (i := 3) (N := (some 19)) (v := ?_) (a' := ?_) #[true, true, true, true, false, false] rfl rfl (by kernel_rfl) (fun _ _ _ h => h) (Or.inl ⟨by rfl, ?_⟩) hHeld ?_ ?_
    rotate_left
    · rintro w' ⟨s0, s1, s2, s3, s4⟩
      go_simp
      with_reducible rfl
    rotate_left
    · simp only [Act.put, List.setIfInBounds_toArray, List.set_cons_zero, List.set_cons_succ, i64_w, i32_w]
      rfl
    refine pure_ (i := 4) (N := (some 4)) (v := ?_) (a' := ?_) #[true, true, true, true, true, false] rfl rfl (by kernel_rfl) (fun _ _ _ h => h) (Or.inl ⟨by rfl, ?_⟩) ?_ ?_
    rotate_left
    · intro w'
      go_simp
      with_reducible rfl
    rotate_left
    · simp only [Act.put, List.setIfInBounds_toArray, List.set_cons_zero, List.set_cons_succ, i64_w, i32_w]
      rfl
    refine last_ (i := 5) (N := none) #[true, true, true, true, true, true] rfl rfl (by kernel_rfl) (by decide) (fun K hK => ?_)
    have hs0 : W6.cell? ⟨w.heap.size + 1, 0, none⟩ = some (.int .i64 0) := (blk_cell B3.out 0).trans rfl
    have hf0 := blk_frozen B3.out 0
    have hs1 : W6.cell? ⟨w.heap.size + 1, 1, none⟩ = some (.int .u64 0) := (blk_cell B3.out 1).trans rfl
    have hf1 := blk_frozen B3.out 1
    have hs2 : W6.cell? ⟨w.heap.size + 1, 2, none⟩ = some (.int .u64 0) := (blk_cell B3.out 2).trans rfl
    have hf2 := blk_frozen B3.out 2
    have hs3 : W6.cell? ⟨w.heap.size + 1, 3, none⟩ = some (.slice none 0 0) := (blk_cell B3.out 3).trans rfl
    have hf3 := blk_frozen B3.out 3
    have hs4 : W6.cell? ⟨w.heap.size + 1, 4, none⟩ = some (.int .i64 0) := (blk_cell B3.out 4).trans rfl
    have hf4 := blk_frozen B3.out 4
    refine skip_ (w1 := ?_) (by rfl) rfl ?_ ?_
    rotate_left
    · go_simp
      rfl
    refine hK.out _ _ ?_
    clear hK K
    refine done_ (by kernel_rfl) ?_
    try go_wp2
    have q0 := blk_set B3.out 0 (.int .i64 k)
    have q1 := blk_set q0 1 (.int .u64 (nextSt k st ic))
    have q2 := blk_set q1 2 (.int .u64 ic)
    have q3 := blk_set q2 3 (.slice A l.length c)
    have q4 := blk_set q3 4 (.int .i64 (nextAt k l at_))
    (try simp only [Exit.inBlock, Exit.then])
    refine bodyPost_ret (results_list (rs := [.tmp 4, .cell 5 25]) rfl (by simp) (.tmp (.cell (w.heap.size + 1) 25 #[.int .i64 k, .int .u64 (nextSt k st ic), .int .u64 ic, .slice A l.length c, .int .i64 (nextAt k l at_)] (0, 0) _ rfl (q4.trans (by rfl)) Try.underlying25 rfl (by kernel_rfl) .nil))) rfl ⟨rfl, ?_⟩
    exact below_set (j := 4) (v := (.int .i64 (nextAt k l at_))) (below_set (j := 3) (v := (.slice A l.length c)) (below_set (j := 2) (v := (.int .u64 ic)) (below_set (j := 1) (v := (.int .u64 (nextSt k st ic))) (below_set (j := 0) (v := (.int .i64 k)) HB.out GE3.out) GE3.out) GE3.out) GE3.out) GE3.out
end Go.Proofs.Ytjiogchafnpkhaa.D
