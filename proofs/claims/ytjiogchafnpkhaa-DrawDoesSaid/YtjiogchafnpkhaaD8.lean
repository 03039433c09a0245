import Derived.Test.YtjiogchafnpkhaaD7
namespace Go.Proofs.Ytjiogchafnpkhaa.D
open Go.RowKit Go.Proofs.YtjiogchafnpkhaaW.PrintWords Go.Proofs.YtjiogchafnpkhaaW.PrintLast Go.Proofs.YtjiogchafnpkhaaW.PrintMore
attribute [local go_sem] max2_int min2_int max_two min_two max_three min_three max_four min_four
attribute [local go_sem] Go.Proofs.YtjiogchafnpkhaaS.cell_set_map Go.Proofs.YtjiogchafnpkhaaS.setCell_drewN
set_option linter.unusedVariables false
set_option linter.unusedSimpArgs false
/-- A draw between two. -/
def wideU (lo hi : Int) : Int := IntKind.u64.wrap (IntKind.u64.wrap hi - IntKind.u64.wrap lo)
def betN (lo hi : Int) : Int := IntKind.i64.wrap (IntKind.i64.wrap (hi - lo) + 1)
def betX (k st : Int) (l : List Int) (at_ lo hi : Int) : Int := if hi ≤ lo ∨ 4294967295 ≤ wideU lo hi then lo else IntKind.i64.wrap (lo + belowX k st l at_ (betN lo hi))
def betSt (k st ic lo hi : Int) : Int := if hi ≤ lo ∨ 4294967295 ≤ wideU lo hi then st else belowSt k st ic (betN lo hi)
def betAt (k : Int) (l : List Int) (at_ lo hi : Int) : Int := if hi ≤ lo ∨ 4294967295 ≤ wideU lo hi then at_ else belowAt k l at_ (betN lo hi)
set_option maxHeartbeats 4000000 in
set_option maxRecDepth 100000 in
theorem draw_Between_calls (k st ic at_ : Int) (A : Option Addr) (c : Nat) (l : List Int) (lo hi : Int) (w : World) (hr : Kd.C (Kd.int .u64) w A l.length l) : Calls Try.prog 24 #[.agg #[.int .i64 k, .int .u64 st, .int .u64 ic, .slice A l.length c, .int .i64 at_], .int .i64 lo, .int .i64 hi] w fun e w' => e = .returned (.tuple #[.int .i64 (betX k st l at_ lo hi), .agg #[.int .i64 k, .int .u64 (betSt k st ic lo hi), .int .u64 ic, .slice A l.length c, .int .i64 (betAt k l at_ lo hi)]]) ∧ Below w.heap.size w w' := by
  have hu25 := Try.underlying25
  have HR := Aside0.mk hr
  clear hr
  have B1 := Aside0.mk (blk_alloc (blk_new w (.cells #[.int .i64 k, .int .u64 st, .int .u64 ic, .slice A l.length c, .int .i64 at_] 25 (0, 0))) (.cells #[.int .i64 0, .int .u64 0, .int .u64 0, .slice none 0 0, .int .i64 0] 25 (0, 0)))
  have B3 := Aside0.mk (show (((w.alloc (.cells #[.int .i64 k, .int .u64 st, .int .u64 ic, .slice A l.length c, .int .i64 at_] 25 (0, 0))).alloc (.cells #[.int .i64 0, .int .u64 0, .int .u64 0, .slice none 0 0, .int .i64 0] 25 (0, 0))).heap[w.heap.size + 1]? = some (.cells #[.int .i64 0, .int .u64 0, .int .u64 0, .slice none 0 0, .int .i64 0] 25 (0, 0))) by have := blk_new (w.alloc (.cells #[.int .i64 k, .int .u64 st, .int .u64 ic, .slice A l.length c, .int .i64 at_] 25 (0, 0))) (.cells #[.int .i64 0, .int .u64 0, .int .u64 0, .slice none 0 0, .int .i64 0] 25 (0, 0)); rwa [Go.Proofs.YtjiogchafnpkhaaS.size_alloc] at this)
  have HB := Aside0.mk (below_alloc (below_alloc (Below.refl w.heap.size w) (.cells #[.int .i64 k, .int .u64 st, .int .u64 ic, .slice A l.length c, .int .i64 at_] 25 (0, 0))) (.cells #[.int .i64 0, .int .u64 0, .int .u64 0, .slice none 0 0, .int .i64 0] 25 (0, 0)))
  have GE3 : Aside0 (w.heap.size ≤ w.heap.size + 1) := ⟨by omega⟩
  by_cases h1 : hi ≤ lo
  · have e1 : betX k st l at_ lo hi = lo := if_pos (.inl h1)
    have e2 : betSt k st ic lo hi = st := if_pos (.inl h1)
    have e3 : betAt k l at_ lo hi = at_ := if_pos (.inl h1)
    rw [e1, e2, e3]
    clear e1 e2 e3
    have c1 : decide (hi ≤ lo) = true := decide_eq_true h1
    go_enter Try.func24, Try.ntmps24
    go_wp2_with fail
    generalize ((w.alloc (.cells #[.int .i64 k, .int .u64 st, .int .u64 ic, .slice A l.length c, .int .i64 at_] 25 (0, 0))).alloc (.cells #[.int .i64 0, .int .u64 0, .int .u64 0, .slice none 0 0, .int .i64 0] 25 (0, 0))) = W0 at *
    refine start_ (n := 4) (S := fun w' => w'.cell? ⟨w.heap.size, 0, none⟩ = some (.int .i64 k) ∧ w'.cell? ⟨w.heap.size, 1, none⟩ = some (.int .u64 st) ∧ w'.cell? ⟨w.heap.size, 2, none⟩ = some (.int .u64 ic) ∧ w'.cell? ⟨w.heap.size, 3, none⟩ = some (.slice A l.length c) ∧ w'.cell? ⟨w.heap.size, 4, none⟩ = some (.int .i64 at_)) (ds := [3]) #[false, false, false, false] (by kernel_rfl) rfl rfl ⟨(blk_cell B1.out 0).trans rfl, (blk_cell B1.out 1).trans rfl, (blk_cell B1.out 2).trans rfl, (blk_cell B1.out 3).trans rfl, (blk_cell B1.out 4).trans rfl⟩ (fun hHeld => ?_)
    replace B1 := Aside0.mk (blk_drew B1.out)
    replace B3 := Aside0.mk (blk_drew B3.out)
    replace HB := Aside0.mk (below_drew1 HB.out)
    generalize W0.drew = W6 at B1 B3 HB hHeld ⊢
    refine pure_ (i := 0) (N := (some 21)) (v := ?_) (a' := ?_) #[true, false, false, false] rfl rfl (by kernel_rfl) (fun _ _ _ h => h) (Or.inl ⟨by rfl, ?_⟩) ?_ ?_
    rotate_left
    · intro w'
      go_simp
      with_reducible rfl
    rotate_left
    · simp only [Act.put, List.setIfInBounds_toArray, List.set_cons_zero, List.set_cons_succ, i64_w, i32_w]
      rfl
    refine take_ (i := 1) (N := (some 22)) (v := ?_) (a' := ?_) #[true, true, false, false] rfl rfl (by kernel_rfl) (fun _ _ _ h => h) (Or.inl ⟨by rfl, ?_⟩) hHeld ?_ ?_
    rotate_left
    · rintro w' ⟨s0, s1, s2, s3, s4⟩
      go_simp
      with_reducible rfl
    rotate_left
    · simp only [Act.put, List.setIfInBounds_toArray, List.set_cons_zero, List.set_cons_succ, i64_w, i32_w]
      rfl
    refine pure_ (i := 2) (N := (some 6)) (v := ?_) (a' := ?_) #[true, true, true, false] rfl rfl (by kernel_rfl) (fun _ _ _ h => h) (Or.inl ⟨by rfl, ?_⟩) ?_ ?_
    rotate_left
    · intro w'
      go_simp
      with_reducible rfl
    rotate_left
    · simp only [Act.put, List.setIfInBounds_toArray, List.set_cons_zero, List.set_cons_succ, i64_w, i32_w]
      rfl
    refine last_ (i := 3) (N := none) #[true, true, true, true] rfl rfl (by kernel_rfl) (by decide) (fun K hK => ?_)
    have hs0 : W6.cell? ⟨w.heap.size + 1, 0, none⟩ = some (.int .i64 0) := (blk_cell B3.out 0).trans rfl
    have hf0 := blk_frozen B3.out 0
    have hs1 : W6.cell? ⟨w.heap.size + 1, 1, none⟩ = some (.int .u64 0) := (blk_cell B3.out 1).trans rfl
    have hf1 := blk_frozen B3.out 1
    have hs2 : W6.cell? ⟨w.heap.size + 1, 2, none⟩ = some (.int .u64 0) := (blk_cell B3.out 2).trans rfl
    have hf2 := blk_frozen B3.out 2
    have hs3 : W6.cell? ⟨w.heap.size + 1, 3, none⟩ = some (.slice none 0 0) := (blk_cell B3.out 3).trans rfl
    have hf3 := blk_frozen B3.out 3
    have hs4 : W6.cell? ⟨w.heap.size + 1, 4, none⟩ = some (.int .i64 0) := (blk_cell B3.out 4).trans rfl
    have hf4 := blk_frozen B3.out 4
    refine skip_ (w1 := ?_) (by rfl) rfl ?_ ?_
    rotate_left
    · go_simp
      rfl
    refine hK.out _ _ ?_
    clear hK K
    refine done_ (by kernel_rfl) ?_
    try go_wp2
    have q0 := blk_set B3.out 0 (.int .i64 k)
    have q1 := blk_set q0 1 (.int .u64 st)
    have q2 := blk_set q1 2 (.int .u64 ic)
    have q3 := blk_set q2 3 (.slice A l.length c)
    have q4 := blk_set q3 4 (.int .i64 at_)
    (try simp only [Exit.inBlock, Exit.then])
    refine bodyPost_ret (results_list (rs := [.tmp 6, .cell 7 25]) rfl (by simp) (.tmp (.cell (w.heap.size + 1) 25 #[.int .i64 k, .int .u64 st, .int .u64 ic, .slice A l.length c, .int .i64 at_] (0, 0) _ rfl (q4.trans (by rfl)) Try.underlying25 rfl (by kernel_rfl) .nil))) rfl ⟨rfl, ?_⟩
    exact below_set (j := 4) (v := (.int .i64 at_)) (below_set (j := 3) (v := (.slice A l.length c)) (below_set (j := 2) (v := (.int .u64 ic)) (below_set (j := 1) (v := (.int .u64 st)) (below_set (j := 0) (v := (.int .i64 k)) HB.out GE3.out) GE3.out) GE3.out) GE3.out) GE3.out
  · have c1 : decide (hi ≤ lo) = false := decide_eq_false h1
    by_cases h2 : 4294967295 ≤ wideU lo hi
    · have e1 : betX k st l at_ lo hi = lo := if_pos (.inr h2)
      have e2 : betSt k st ic lo hi = st := if_pos (.inr h2)
      have e3 : betAt k l at_ lo hi = at_ := if_pos (.inr h2)
      rw [e1, e2, e3]
      clear e1 e2 e3
      unfold wideU at h2
      have c2 : decide (4294967295 ≤ IntKind.u64.wrap (IntKind.u64.wrap hi - IntKind.u64.wrap lo)) = true := decide_eq_true h2
      go_enter Try.func24, Try.ntmps24
      go_wp2_with fail
      generalize ((w.alloc (.cells #[.int .i64 k, .int .u64 st, .int .u64 ic, .slice A l.length c, .int .i64 at_] 25 (0, 0))).alloc (.cells #[.int .i64 0, .int .u64 0, .int .u64 0, .slice none 0 0, .int .i64 0] 25 (0, 0))) = W0 at *
      refine start_ (n := 4) (S := fun w' => w'.cell? ⟨w.heap.size, 0, none⟩ = some (.int .i64 k) ∧ w'.cell? ⟨w.heap.size, 1, none⟩ = some (.int .u64 st) ∧ w'.cell? ⟨w.heap.size, 2, none⟩ = some (.int .u64 ic) ∧ w'.cell? ⟨w.heap.size, 3, none⟩ = some (.slice A l.length c) ∧ w'.cell? ⟨w.heap.size, 4, none⟩ = some (.int .i64 at_)) (ds := [3]) #[false, false, false, false] (by kernel_rfl) rfl rfl ⟨(blk_cell B1.out 0).trans rfl, (blk_cell B1.out 1).trans rfl, (blk_cell B1.out 2).trans rfl, (blk_cell B1.out 3).trans rfl, (blk_cell B1.out 4).trans rfl⟩ (fun hHeld => ?_)
      replace B1 := Aside0.mk (blk_drew B1.out)
      replace B3 := Aside0.mk (blk_drew B3.out)
      replace HB := Aside0.mk (below_drew1 HB.out)
      generalize W0.drew = W6 at B1 B3 HB hHeld ⊢
      refine pure_ (i := 0) (N := (some 21)) (v := ?_) (a' := ?_) #[true, false, false, false] rfl rfl (by kernel_rfl) (fun _ _ _ h => h) (Or.inl ⟨by rfl, ?_⟩) ?_ ?_
      rotate_left
      · intro w'
        go_simp
        with_reducible rfl
      rotate_left
      · simp only [Act.put, List.setIfInBounds_toArray, List.set_cons_zero, List.set_cons_succ, i64_w, i32_w]
        rfl
      refine take_ (i := 1) (N := (some 22)) (v := ?_) (a' := ?_) #[true, true, false, false] rfl rfl (by kernel_rfl) (fun _ _ _ h => h) (Or.inl ⟨by rfl, ?_⟩) hHeld ?_ ?_
      rotate_left
      · rintro w' ⟨s0, s1, s2, s3, s4⟩
        go_simp
        with_reducible rfl
      rotate_left
      · simp only [Act.put, List.setIfInBounds_toArray, List.set_cons_zero, List.set_cons_succ, i64_w, i32_w]
        rfl
      refine pure_ (i := 2) (N := (some 6)) (v := ?_) (a' := ?_) #[true, true, true, false] rfl rfl (by kernel_rfl) (fun _ _ _ h => h) (Or.inl ⟨by rfl, ?_⟩) ?_ ?_
      rotate_left
      · intro w'
        go_simp
        with_reducible rfl
      rotate_left
      · simp only [Act.put, List.setIfInBounds_toArray, List.set_cons_zero, List.set_cons_succ, i64_w, i32_w]
        rfl
      refine last_ (i := 3) (N := none) #[true, true, true, true] rfl rfl (by kernel_rfl) (by decide) (fun K hK => ?_)
      have hs0 : W6.cell? ⟨w.heap.size + 1, 0, none⟩ = some (.int .i64 0) := (blk_cell B3.out 0).trans rfl
      have hf0 := blk_frozen B3.out 0
      have hs1 : W6.cell? ⟨w.heap.size + 1, 1, none⟩ = some (.int .u64 0) := (blk_cell B3.out 1).trans rfl
      have hf1 := blk_frozen B3.out 1
      have hs2 : W6.cell? ⟨w.heap.size + 1, 2, none⟩ = some (.int .u64 0) := (blk_cell B3.out 2).trans rfl
      have hf2 := blk_frozen B3.out 2
      have hs3 : W6.cell? ⟨w.heap.size + 1, 3, none⟩ = some (.slice none 0 0) := (blk_cell B3.out 3).trans rfl
      have hf3 := blk_frozen B3.out 3
      have hs4 : W6.cell? ⟨w.heap.size + 1, 4, none⟩ = some (.int .i64 0) := (blk_cell B3.out 4).trans rfl
      have hf4 := blk_frozen B3.out 4
      refine skip_ (w1 := ?_) (by rfl) rfl ?_ ?_
      rotate_left
      · go_simp
        rfl
      refine hK.out _ _ ?_
      clear hK K
      refine done_ (by kernel_rfl) ?_
      try go_wp2
      have q0 := blk_set B3.out 0 (.int .i64 k)
      have q1 := blk_set q0 1 (.int .u64 st)
      have q2 := blk_set q1 2 (.int .u64 ic)
      have q3 := blk_set q2 3 (.slice A l.length c)
      have q4 := blk_set q3 4 (.int .i64 at_)
      (try simp only [Exit.inBlock, Exit.then])
      refine bodyPost_ret (results_list (rs := [.tmp 6, .cell 7 25]) rfl (by simp) (.tmp (.cell (w.heap.size + 1) 25 #[.int .i64 k, .int .u64 st, .int .u64 ic, .slice A l.length c, .int .i64 at_] (0, 0) _ rfl (q4.trans (by rfl)) Try.underlying25 rfl (by kernel_rfl) .nil))) rfl ⟨rfl, ?_⟩
      exact below_set (j := 4) (v := (.int .i64 at_)) (below_set (j := 3) (v := (.slice A l.length c)) (below_set (j := 2) (v := (.int .u64 ic)) (below_set (j := 1) (v := (.int .u64 st)) (below_set (j := 0) (v := (.int .i64 k)) HB.out GE3.out) GE3.out) GE3.out) GE3.out) GE3.out
    · have e1 : betX k st l at_ lo hi = IntKind.i64.wrap (lo + belowX k st l at_ (betN lo hi)) := if_neg (fun h => h.elim h1 h2)
      have e2 : betSt k st ic lo hi = belowSt k st ic (betN lo hi) := if_neg (fun h => h.elim h1 h2)
      have e3 : betAt k l at_ lo hi = belowAt k l at_ (betN lo hi) := if_neg (fun h => h.elim h1 h2)
      rw [e1, e2, e3]
      clear e1 e2 e3
      unfold wideU at h2
      have c2 : decide (4294967295 ≤ IntKind.u64.wrap (IntKind.u64.wrap hi - IntKind.u64.wrap lo)) = false := decide_eq_false h2
      unfold betN
      obtain ⟨dd, hd⟩ : ∃ dd, IntKind.i64.wrap (hi - lo) = dd := ⟨_, rfl⟩
      rw [hd]
      obtain ⟨m, hm⟩ : ∃ m, IntKind.i64.wrap (dd + 1) = m := ⟨_, rfl⟩
      rw [hm]
      obtain ⟨y, hy⟩ : ∃ y, IntKind.i64.wrap (lo + belowX k st l at_ m) = y := ⟨_, rfl⟩
      rw [hy]
      go_enter Try.func24, Try.ntmps24
      go_wp2_with (first | ((with_reducible refine gate_callee (f := 23) rfl ?_); refine goesL_ (some 29) rfl rfl Try.func23 (by kernel_rfl) rfl #[.agg #[.int .i64 k, .int .u64 st, .int .u64 ic, .slice A l.length c, .int .i64 at_], .int .i64 m] rfl (by (try simp only [List.map_toArray, List.map_cons, List.map_nil]); first | done | rfl) ?_; (refine (draw_Below_calls k st ic at_ A c l m _ (Kd.C_below HR.out HB.out)).mono ?_); rintro e w1 ⟨rfl, hb⟩; refine ⟨_, rfl, ?_⟩; have n1_ := Aside0.mk (below_alloc (below_step HB.out hb) (.cells #[.int .i64 k, .int .u64 (belowSt k st ic m), .int .u64 ic, .slice A l.length c, .int .i64 (belowAt k l at_ m)] 25 (0, 0))); have n2_ := Aside0.mk (blk_alloc (blk_below B3.out hb) (.cells #[.int .i64 k, .int .u64 (belowSt k st ic m), .int .u64 ic, .slice A l.length c, .int .i64 (belowAt k l at_ m)] 25 (0, 0))); have B7 := Aside0.mk (blk_new w1 (.cells #[.int .i64 k, .int .u64 (belowSt k st ic m), .int .u64 ic, .slice A l.length c, .int .i64 (belowAt k l at_ m)] 25 (0, 0))); clear HB B3 B1 hb; have HB := n1_; have B3 := n2_; clear n1_ n2_))
      generalize w1.heap.size = g7 at *
      generalize w1.alloc (.cells #[.int .i64 k, .int .u64 (belowSt k st ic m), .int .u64 ic, .slice A l.length c, .int .i64 (belowAt k l at_ m)] 25 (0, 0)) = W5 at *
      refine start_ (n := 6) (S := fun w' => w'.cell? ⟨g7, 0, none⟩ = some (.int .i64 k) ∧ w'.cell? ⟨g7, 1, none⟩ = some (.int .u64 (belowSt k st ic m)) ∧ w'.cell? ⟨g7, 2, none⟩ = some (.int .u64 ic) ∧ w'.cell? ⟨g7, 3, none⟩ = some (.slice A l.length c) ∧ w'.cell? ⟨g7, 4, none⟩ = some (.int .i64 (belowAt k l at_ m))) (ds := [5]) #[false, false, false, false, false, false] (by kernel_rfl) rfl rfl ⟨(blk_cell B7.out 0).trans rfl, (blk_cell B7.out 1).trans rfl, (blk_cell B7.out 2).trans rfl, (blk_cell B7.out 3).trans rfl, (blk_cell B7.out 4).trans rfl⟩ (fun hHeld => ?_)
      replace B7 := Aside0.mk (blk_drew B7.out)
      replace B3 := Aside0.mk (blk_drew B3.out)
      replace HB := Aside0.mk (below_drew1 HB.out)
      generalize W5.drew = W6 at B7 B3 HB hHeld ⊢
      refine pure_ (i := 0) (N := (some 32)) (v := ?_) (a' := ?_) #[true, false, false, false, false, false] rfl rfl (by kernel_rfl) (fun _ _ _ h => h) (Or.inl ⟨by rfl, ?_⟩) ?_ ?_
      rotate_left
      · intro w'
        go_simp
        with_reducible rfl
      rotate_left
      · simp only [Act.put, List.setIfInBounds_toArray, List.set_cons_zero, List.set_cons_succ, i64_w, i32_w]
        rfl
      refine pure_ (i := 1) (N := (some 33)) (v := ?_) (a' := ?_) #[true, true, false, false, false, false] rfl rfl (by kernel_rfl) (fun _ _ _ h => h) (Or.inl ⟨by rfl, ?_⟩) ?_ ?_
      rotate_left
      · intro w'
        go_simp
        with_reducible rfl
      rotate_left
      · simp only [Act.put, List.setIfInBounds_toArray, List.set_cons_zero, List.set_cons_succ, i64_w, i32_w]
        rfl
      refine pure_ (i := 2) (N := (some 34)) (v := ?_) (a' := ?_) #[true, true, true, false, false, false] rfl rfl (by kernel_rfl) (fun _ _ _ h => h) (Or.inl ⟨by rfl, ?_⟩) ?_ ?_
      rotate_left
      · intro w'
        go_simp
        with_reducible rfl
      rotate_left
      · simp only [Act.put, List.setIfInBounds_toArray, List.set_cons_zero, List.set_cons_succ, i64_w, i32_w]
        rfl
      refine take_ (i := 3) (N := (some 35)) (v := ?_) (a' := ?_) #[true, true, true, true, false, false] rfl rfl (by kernel_rfl) (fun _ _ _ h => h) (Or.inl ⟨by rfl, ?_⟩) hHeld ?_ ?_
      rotate_left
      · rintro w' ⟨s0, s1, s2, s3, s4⟩
        go_simp
        with_reducible rfl
      rotate_left
      · simp only [Act.put, List.setIfInBounds_toArray, List.set_cons_zero, List.set_cons_succ, i64_w, i32_w]
        rfl
      refine pure_ (i := 4) (N := (some 6)) (v := ?_) (a' := ?_) #[true, true, true, true, true, false] rfl rfl (by kernel_rfl) (fun _ _ _ h => h) (Or.inl ⟨by rfl, ?_⟩) ?_ ?_
      rotate_left
      · intro w'
        go_simp
        with_reducible rfl
      rotate_left
      · simp only [Act.put, List.setIfInBounds_toArray, List.set_cons_zero, List.set_cons_succ, i64_w, i32_w]
        rfl
      refine last_ (i := 5) (N := none) #[true, true, true, true, true, true] rfl rfl (by kernel_rfl) (by decide) (fun K hK => ?_)
      have hs0 : W6.cell? ⟨w.heap.size + 1, 0, none⟩ = some (.int .i64 0) := (blk_cell B3.out 0).trans rfl
      have hf0 := blk_frozen B3.out 0
      have hs1 : W6.cell? ⟨w.heap.size + 1, 1, none⟩ = some (.int .u64 0) := (blk_cell B3.out 1).trans rfl
      have hf1 := blk_frozen B3.out 1
      have hs2 : W6.cell? ⟨w.heap.size + 1, 2, none⟩ = some (.int .u64 0) := (blk_cell B3.out 2).trans rfl
      have hf2 := blk_frozen B3.out 2
      have hs3 : W6.cell? ⟨w.heap.size + 1, 3, none⟩ = some (.slice none 0 0) := (blk_cell B3.out 3).trans rfl
      have hf3 := blk_frozen B3.out 3
      have hs4 : W6.cell? ⟨w.heap.size + 1, 4, none⟩ = some (.int .i64 0) := (blk_cell B3.out 4).trans rfl
      have hf4 := blk_frozen B3.out 4
      refine skip_ (w1 := ?_) (by rfl) rfl ?_ ?_
      rotate_left
      · go_simp
        rfl
      refine hK.out _ _ ?_
      clear hK K
      refine done_ (by kernel_rfl) ?_
      try go_wp2
      have q0 := blk_set B3.out 0 (.int .i64 k)
      have q1 := blk_set q0 1 (.int .u64 (belowSt k st ic m))
      have q2 := blk_set q1 2 (.int .u64 ic)
      have q3 := blk_set q2 3 (.slice A l.length c)
      have q4 := blk_set q3 4 (.int .i64 (belowAt k l at_ m))
      (try simp only [Exit.inBlock, Exit.then])
      refine bodyPost_ret (results_list (rs := [.tmp 6, .cell 7 25]) rfl (by simp) (.tmp (.cell (w.heap.size + 1) 25 #[.int .i64 k, .int .u64 (belowSt k st ic m), .int .u64 ic, .slice A l.length c, .int .i64 (belowAt k l at_ m)] (0, 0) _ rfl (q4.trans (by rfl)) Try.underlying25 rfl (by kernel_rfl) .nil))) rfl ⟨rfl, ?_⟩
      exact below_set (j := 4) (v := (.int .i64 (belowAt k l at_ m))) (below_set (j := 3) (v := (.slice A l.length c)) (below_set (j := 2) (v := (.int .u64 ic)) (below_set (j := 1) (v := (.int .u64 (belowSt k st ic m))) (below_set (j := 0) (v := (.int .i64 k)) HB.out GE3.out) GE3.out) GE3.out) GE3.out) GE3.out
end Go.Proofs.Ytjiogchafnpkhaa.D
