import Derived.Test.YtjiogchafnpkhaaP1
namespace Go.Proofs.Ytjiogchafnpkhaa.D
open Go.RowKit Go.Proofs.YtjiogchafnpkhaaW.PrintWords Go.Proofs.YtjiogchafnpkhaaW.PrintLast Go.Proofs.YtjiogchafnpkhaaW.PrintMore
attribute [local go_sem] max2_int min2_int max_two min_two max_three min_three max_four min_four
attribute [local go_sem] Go.Proofs.YtjiogchafnpkhaaS.cell_set_map Go.Proofs.YtjiogchafnpkhaaS.setCell_drewN
set_option linter.unusedVariables false
set_option linter.unusedSimpArgs false
attribute [local go_sem] eq45 eq55 idx0 idx1 idx2 idx3 idx4 idx5
set_option maxHeartbeats 8000000 in
set_option maxRecDepth 100000 in
theorem ref_Pair_calls (k st ic at_ : Int) (A : Option Addr) (c : Nat) (l : List Int) (w : World) (hr : Kd.C (Kd.int .u64) w A l.length l) (hu : ∀ y ∈ l, 0 ≤ y) (hs : 0 ≤ st ∧ st < 18446744073709551616) (up : Bool) (st7 at7 : Int) (h1 : decide (2147483648 ≤ nextX k st l at_) = up) (h2 : nextSt k st ic = st7) (h3 : nextAt k l at_ = at7) : Calls Try.prog 39 #[.agg #[.int .i64 k, .int .u64 st, .int .u64 ic, .slice A l.length c, .int .i64 at_]] w fun e w' => e = .returned (.tuple #[.agg #[.bool up, .bool (!up)], .agg #[.int .i64 k, .int .u64 st7, .int .u64 ic, .slice A l.length c, .int .i64 at7]]) ∧ Below w.heap.size w w' := by
  have hu25 := Try.underlying25
  have hu55 := Try.underlying55
  have hu67 := Try.underlying67
  have HR := Aside0.mk hr
  clear hr
  have HX := Aside0.mk h1
  have HS := Aside0.mk h2
  have HA := Aside0.mk h3
  have HU := Aside0.mk hu
  have HS0 := Aside0.mk hs
  clear h1 h2 h3 hu hs
  have BA : Aside0 ((((w.alloc (.cells #[.int .i64 k, .int .u64 st, .int .u64 ic, .slice A l.length c, .int .i64 at_] 25 (0, 0))).alloc (.cells #[.bool false, .bool false] 55 (0, 0))).alloc (.cells #[.int .i64 0, .int .u64 0, .int .u64 0, .slice none 0 0, .int .i64 0] 25 (0, 0))).heap[w.heap.size + 1]? = some (.cells #[.bool false, .bool false] 55 (0, 0))) := ⟨blk_alloc (by have h_ := blk_new (w.alloc (.cells #[.int .i64 k, .int .u64 st, .int .u64 ic, .slice A l.length c, .int .i64 at_] 25 (0, 0))) (.cells #[.bool false, .bool false] 55 (0, 0)); rwa [Go.Proofs.YtjiogchafnpkhaaS.size_alloc] at h_) (.cells #[.int .i64 0, .int .u64 0, .int .u64 0, .slice none 0 0, .int .i64 0] 25 (0, 0))⟩
  have BS : Aside0 ((((w.alloc (.cells #[.int .i64 k, .int .u64 st, .int .u64 ic, .slice A l.length c, .int .i64 at_] 25 (0, 0))).alloc (.cells #[.bool false, .bool false] 55 (0, 0))).alloc (.cells #[.int .i64 0, .int .u64 0, .int .u64 0, .slice none 0 0, .int .i64 0] 25 (0, 0))).heap[w.heap.size + 1 + 1]? = some (.cells #[.int .i64 0, .int .u64 0, .int .u64 0, .slice none 0 0, .int .i64 0] 25 (0, 0))) := ⟨by have h_ := blk_new ((w.alloc (.cells #[.int .i64 k, .int .u64 st, .int .u64 ic, .slice A l.length c, .int .i64 at_] 25 (0, 0))).alloc (.cells #[.bool false, .bool false] 55 (0, 0))) (.cells #[.int .i64 0, .int .u64 0, .int .u64 0, .slice none 0 0, .int .i64 0] 25 (0, 0)); rwa [Go.Proofs.YtjiogchafnpkhaaS.size_alloc, Go.Proofs.YtjiogchafnpkhaaS.size_alloc] at h_⟩
  have HB := Aside0.mk (below_alloc (below_alloc (below_alloc (Below.refl w.heap.size w) (.cells #[.int .i64 k, .int .u64 st, .int .u64 ic, .slice A l.length c, .int .i64 at_] 25 (0, 0))) (.cells #[.bool false, .bool false] 55 (0, 0))) (.cells #[.int .i64 0, .int .u64 0, .int .u64 0, .slice none 0 0, .int .i64 0] 25 (0, 0)))
  have GA : Aside0 (w.heap.size ≤ w.heap.size + 1) := ⟨by omega⟩
  have GB : Aside0 (w.heap.size ≤ w.heap.size + 1 + 1) := ⟨by omega⟩
  have NAB : Aside0 (w.heap.size + 1 + 1 ≠ w.heap.size + 1) := ⟨by omega⟩
  have NBA : Aside0 (w.heap.size + 1 ≠ w.heap.size + 1 + 1) := ⟨by omega⟩
  go_enter Try.func39, Try.ntmps39
  go_wp2_with (first | ((with_reducible refine gate_callee (f := 29) rfl ?_); refine goesL_ (some 8) rfl rfl Try.func29 (by kernel_rfl) rfl #[.agg #[.int .i64 k, .int .u64 st, .int .u64 ic, .slice A l.length c, .int .i64 at_]] rfl (by (try simp only [List.map_toArray, List.map_cons, List.map_nil]); first | done | rfl) ?_; (refine (ref_Flip_calls k st ic at_ A c l _ (Kd.C_below HR.out HB.out) HU.out HS0.out).mono ?_); rintro e w1 ⟨rfl, hb⟩; rw [HX.out, HS.out, HA.out]; refine ⟨_, rfl, ?_⟩; have n1_ := Aside0.mk (below_alloc (below_step HB.out hb) (.cells #[.int .i64 k, .int .u64 st7, .int .u64 ic, .slice A l.length c, .int .i64 at7] 25 (0, 0))); have n2_ := Aside0.mk (blk_alloc (blk_below BA.out hb) (.cells #[.int .i64 k, .int .u64 st7, .int .u64 ic, .slice A l.length c, .int .i64 at7] 25 (0, 0))); have n3_ := Aside0.mk (blk_alloc (blk_below BS.out hb) (.cells #[.int .i64 k, .int .u64 st7, .int .u64 ic, .slice A l.length c, .int .i64 at7] 25 (0, 0))); have B5 := Aside0.mk (blk_new w1 (.cells #[.int .i64 k, .int .u64 st7, .int .u64 ic, .slice A l.length c, .int .i64 at7] 25 (0, 0))); have NG5 : Aside0 (w1.heap.size ≠ w.heap.size + 1) := ⟨fun e_ => by have h_ := blk_lt (blk_below BA.out hb); omega⟩; clear HB BA BS hb; have HB := n1_; have BA := n2_; have BS := n3_; clear n1_ n2_ n3_))
  generalize w1.heap.size = g5 at *
  generalize w1.alloc (.cells #[.int .i64 k, .int .u64 st7, .int .u64 ic, .slice A l.length c, .int .i64 at7] 25 (0, 0)) = W5 at *
  refine start_ (n := 7) (S := fun w' => w'.cell? ⟨g5, 0, none⟩ = some (.int .i64 k) ∧ w'.cell? ⟨g5, 1, none⟩ = some (.int .u64 st7) ∧ w'.cell? ⟨g5, 2, none⟩ = some (.int .u64 ic) ∧ w'.cell? ⟨g5, 3, none⟩ = some (.slice A l.length c) ∧ w'.cell? ⟨g5, 4, none⟩ = some (.int .i64 at7)) (ds := [6]) #[false, false, false, false, false, false, false] (by kernel_rfl) rfl rfl ⟨(blk_cell B5.out 0).trans rfl, (blk_cell B5.out 1).trans rfl, (blk_cell B5.out 2).trans rfl, (blk_cell B5.out 3).trans rfl, (blk_cell B5.out 4).trans rfl⟩ (fun hHeld => ?_)
  replace B5 := Aside0.mk (blk_drew B5.out)
  replace BA := Aside0.mk (blk_drew BA.out)
  replace BS := Aside0.mk (blk_drew BS.out)
  replace HB := Aside0.mk (below_drew1 HB.out)
  generalize W5.drew = W6 at B5 BA BS HB hHeld ⊢
  refine pure_ (i := 0) (N := (some 11)) (v := ?_) (a' := ?_) #[true, false, false, false, false, false, false] rfl rfl (by kernel_rfl) (fun _ _ _ h => h) (Or.inl ⟨by rfl, ?_⟩) ?_ ?_
  rotate_left
  · intro w'
    go_simp
    with_reducible rfl
  rotate_left
  · simp only [Act.put, List.setIfInBounds_toArray, List.set_cons_zero, List.set_cons_succ, i64_w, i32_w]
    rfl
  refine pure_ (i := 1) (N := (some 12)) (v := ?_) (a' := ?_) #[true, true, false, false, false, false, false] rfl rfl (by kernel_rfl) (fun _ _ _ h => h) (Or.inl ⟨by rfl, ?_⟩) ?_ ?_
  rotate_left
  · intro w'
    go_simp
    with_reducible rfl
  rotate_left
  · simp only [Act.put, List.setIfInBounds_toArray, List.set_cons_zero, List.set_cons_succ, i64_w, i32_w]
    rfl
  refine pure_ (i := 2) (N := (some 13)) (v := ?_) (a' := ?_) #[true, true, true, false, false, false, false] rfl rfl (by kernel_rfl) (fun _ _ _ h => h) (Or.inl ⟨by rfl, ?_⟩) ?_ ?_
  rotate_left
  · intro w'
    go_simp
    with_reducible rfl
  rotate_left
  · simp only [Act.put, List.setIfInBounds_toArray, List.set_cons_zero, List.set_cons_succ, i64_w, i32_w]
    rfl
  refine pure_ (i := 3) (N := (some 14)) (v := ?_) (a' := ?_) #[true, true, true, true, false, false, false] rfl rfl (by kernel_rfl) (fun _ _ _ h => h) (Or.inl ⟨by rfl, ?_⟩) ?_ ?_
  rotate_left
  · intro w'
    go_simp
    with_reducible rfl
  rotate_left
  · simp only [Act.put, List.setIfInBounds_toArray, List.set_cons_zero, List.set_cons_succ, i64_w, i32_w]
    rfl
  refine take_ (i := 4) (N := (some 15)) (v := ?_) (a' := ?_) #[true, true, true, true, true, false, false] rfl rfl (by kernel_rfl) (fun _ _ _ h => h) (Or.inl ⟨by rfl, ?_⟩) hHeld ?_ ?_
  rotate_left
  · rintro w' ⟨s0, s1, s2, s3, s4⟩
    go_simp
    with_reducible rfl
  rotate_left
  · simp only [Act.put, List.setIfInBounds_toArray, List.set_cons_zero, List.set_cons_succ, i64_w, i32_w]
    rfl
  refine one_ (i := 5) (N := none) #[true, true, true, true, true, true, false] rfl rfl (by kernel_rfl) (by decide) (fun K hK => ?_)
  have hs0 : W6.cell? ⟨w.heap.size + 1, 0, none⟩ = some (.bool false) := (blk_cell BA.out 0).trans rfl
  have hf0 := blk_frozen BA.out 0
  have hs1 : W6.cell? ⟨w.heap.size + 1, 1, none⟩ = some (.bool false) := (blk_cell BA.out 1).trans rfl
  have hf1 := blk_frozen BA.out 1
  have n2_ : Aside0 (((W6.setCell ⟨w.heap.size + 1, 0, none⟩ (.bool up)).setCell ⟨w.heap.size + 1, 1, none⟩ (.bool (!up))).heap[w.heap.size + 1]? = some (.cells #[.bool up, .bool (!up)] 55 (0, 0))) := ⟨((blk_set (blk_set BA.out 0 (.bool up)) 1 (.bool (!up)))).trans (by rfl)⟩
  have n3_ : Aside0 (((W6.setCell ⟨w.heap.size + 1, 0, none⟩ (.bool up)).setCell ⟨w.heap.size + 1, 1, none⟩ (.bool (!up))).heap[w.heap.size + 1 + 1]? = some (.cells #[.int .i64 0, .int .u64 0, .int .u64 0, .slice none 0 0, .int .i64 0] 25 (0, 0))) := ⟨(blk_far (blk_far BS.out (p := ⟨w.heap.size + 1, 0, none⟩) NAB.out (.bool up)) (p := ⟨w.heap.size + 1, 1, none⟩) NAB.out (.bool (!up)))⟩
  have n1_ : Aside0 (Below w.heap.size w ((W6.setCell ⟨w.heap.size + 1, 0, none⟩ (.bool up)).setCell ⟨w.heap.size + 1, 1, none⟩ (.bool (!up)))) := ⟨(below_set (j := 1) (v := (.bool (!up))) (below_set (j := 0) (v := (.bool up)) HB.out GA.out) GA.out)⟩
  have n5_ : Aside0 (((W6.setCell ⟨w.heap.size + 1, 0, none⟩ (.bool up)).setCell ⟨w.heap.size + 1, 1, none⟩ (.bool (!up))).heap[g5]? = some (.cells #[.int .i64 k, .int .u64 st7, .int .u64 ic, .slice A l.length c, .int .i64 at7] 25 (0, 0))) := ⟨(blk_far (blk_far B5.out (p := ⟨w.heap.size + 1, 0, none⟩) NG5.out (.bool up)) (p := ⟨w.heap.size + 1, 1, none⟩) NG5.out (.bool (!up)))⟩
  refine skip_ (w1 := ?_) (by rfl) rfl ?_ ?_
  rotate_left
  · go_simp
    rfl
  refine hK.out _ _ ⟨(blk_cell n5_.out 0).trans rfl, (blk_cell n5_.out 1).trans rfl, (blk_cell n5_.out 2).trans rfl, (blk_cell n5_.out 3).trans rfl, (blk_cell n5_.out 4).trans rfl⟩ (fun hHeld => ?_)
  clear hK K
  clear hs0 hf0 hs1 hf1
  clear HB BA BS B5
  have HB := n1_
  have BA := n2_
  have BS := n3_
  clear n1_ n2_ n3_ n5_
  generalize ((W6.setCell ⟨w.heap.size + 1, 0, none⟩ (.bool up)).setCell ⟨w.heap.size + 1, 1, none⟩ (.bool (!up))) = W8 at *
  refine last_ (i := 6) (N := none) #[true, true, true, true, true, true, true] rfl rfl (by kernel_rfl) (by decide) (fun K hK => ?_)
  have hs0 : W8.cell? ⟨w.heap.size + 1 + 1, 0, none⟩ = some (.int .i64 0) := (blk_cell BS.out 0).trans rfl
  have hf0 := blk_frozen BS.out 0
  have hs1 : W8.cell? ⟨w.heap.size + 1 + 1, 1, none⟩ = some (.int .u64 0) := (blk_cell BS.out 1).trans rfl
  have hf1 := blk_frozen BS.out 1
  have hs2 : W8.cell? ⟨w.heap.size + 1 + 1, 2, none⟩ = some (.int .u64 0) := (blk_cell BS.out 2).trans rfl
  have hf2 := blk_frozen BS.out 2
  have hs3 : W8.cell? ⟨w.heap.size + 1 + 1, 3, none⟩ = some (.slice none 0 0) := (blk_cell BS.out 3).trans rfl
  have hf3 := blk_frozen BS.out 3
  have hs4 : W8.cell? ⟨w.heap.size + 1 + 1, 4, none⟩ = some (.int .i64 0) := (blk_cell BS.out 4).trans rfl
  have hf4 := blk_frozen BS.out 4
  refine skip_ (w1 := ?_) (by rfl) rfl ?_ ?_
  rotate_left
  · go_simp
    rfl
  refine hK.out _ _ ?_
  clear hK K
  refine done_ (by kernel_rfl) ?_
  try go_wp2
  have q0 := blk_set BS.out 0 (.int .i64 k)
  have q1 := blk_set q0 1 (.int .u64 st7)
  have q2 := blk_set q1 2 (.int .u64 ic)
  have q3 := blk_set q2 3 (.slice A l.length c)
  have q4 := blk_set q3 4 (.int .i64 at7)
  have qa := (blk_far (blk_far (blk_far (blk_far (blk_far BA.out (p := ⟨w.heap.size + 1 + 1, 0, none⟩) NBA.out (.int .i64 k)) (p := ⟨w.heap.size + 1 + 1, 1, none⟩) NBA.out (.int .u64 st7)) (p := ⟨w.heap.size + 1 + 1, 2, none⟩) NBA.out (.int .u64 ic)) (p := ⟨w.heap.size + 1 + 1, 3, none⟩) NBA.out (.slice A l.length c)) (p := ⟨w.heap.size + 1 + 1, 4, none⟩) NBA.out (.int .i64 at7))
  (try simp only [Exit.inBlock, Exit.then])
  refine bodyPost_ret (results_list (rs := [.cell 2 55, .cell 3 25]) rfl (by simp) (.cell (w.heap.size + 1) 55 #[.bool up, .bool (!up)] (0, 0) _ rfl qa Try.underlying55 rfl (by kernel_rfl) (.cell (w.heap.size + 1 + 1) 25 #[.int .i64 k, .int .u64 st7, .int .u64 ic, .slice A l.length c, .int .i64 at7] (0, 0) _ rfl (q4.trans (by rfl)) Try.underlying25 rfl (by kernel_rfl) .nil))) rfl ⟨rfl, ?_⟩
  exact (below_set (j := 4) (v := (.int .i64 at7)) (below_set (j := 3) (v := (.slice A l.length c)) (below_set (j := 2) (v := (.int .u64 ic)) (below_set (j := 1) (v := (.int .u64 st7)) (below_set (j := 0) (v := (.int .i64 k)) HB.out GB.out) GB.out) GB.out) GB.out) GB.out)
theorem ref_Four_v (k : Int) (w : World) : Calls Try.prog 34 #[.int .i64 k] w fun e w' => e = .returned (.tuple #[.agg #[.bool (fa k), .bool (fb k), .bool (fc k), .bool (fd k)], .int .i64 (ge_ k)]) ∧ Below w.heap.size w w' := ref_Four_calls k w
set_option maxHeartbeats 8000000 in
set_option maxRecDepth 100000 in
theorem ref_Trials_calls (k st ic at_ : Int) (A : Option Addr) (c : Nat) (l : List Int) (w : World) (hr : Kd.C (Kd.int .u64) w A l.length l) (hu : ∀ y ∈ l, 0 ≤ y) (hs : 0 ≤ st ∧ st < 18446744073709551616) (x6 st6 at6 : Int) (h1 : belowX k st l at_ 6 = x6) (h2 : belowSt k st ic 6 = st6) (h3 : belowAt k l at_ 6 = at6) : Calls Try.prog 37 #[.agg #[.int .i64 k, .int .u64 st, .int .u64 ic, .slice A l.length c, .int .i64 at_]] w fun e w' => e = .returned (.tuple #[.agg #[.bool (fa x6), .bool (fb x6), .bool (fc x6), .bool (fd x6)], .agg #[.int .i64 k, .int .u64 st6, .int .u64 ic, .slice A l.length c, .int .i64 at6]]) ∧ Below w.heap.size w w' := by
  have hu25 := Try.underlying25
  have hu45 := Try.underlying45
  have HR := Aside0.mk hr
  have HU := Aside0.mk hu
  have HS0 := Aside0.mk hs
  have HX := Aside0.mk h1
  have HS := Aside0.mk h2
  have HA := Aside0.mk h3
  clear hr hu hs h1 h2 h3
  have BA : Aside0 ((((w.alloc (.cells #[.int .i64 k, .int .u64 st, .int .u64 ic, .slice A l.length c, .int .i64 at_] 25 (0, 0))).alloc (.cells #[.bool false, .bool false, .bool false, .bool false] 45 (0, 0))).alloc (.cells #[.int .i64 0, .int .u64 0, .int .u64 0, .slice none 0 0, .int .i64 0] 25 (0, 0))).heap[w.heap.size + 1]? = some (.cells #[.bool false, .bool false, .bool false, .bool false] 45 (0, 0))) := ⟨blk_alloc (by have h_ := blk_new (w.alloc (.cells #[.int .i64 k, .int .u64 st, .int .u64 ic, .slice A l.length c, .int .i64 at_] 25 (0, 0))) (.cells #[.bool false, .bool false, .bool false, .bool false] 45 (0, 0)); rwa [Go.Proofs.YtjiogchafnpkhaaS.size_alloc] at h_) (.cells #[.int .i64 0, .int .u64 0, .int .u64 0, .slice none 0 0, .int .i64 0] 25 (0, 0))⟩
  have BS : Aside0 ((((w.alloc (.cells #[.int .i64 k, .int .u64 st, .int .u64 ic, .slice A l.length c, .int .i64 at_] 25 (0, 0))).alloc (.cells #[.bool false, .bool false, .bool false, .bool false] 45 (0, 0))).alloc (.cells #[.int .i64 0, .int .u64 0, .int .u64 0, .slice none 0 0, .int .i64 0] 25 (0, 0))).heap[w.heap.size + 1 + 1]? = some (.cells #[.int .i64 0, .int .u64 0, .int .u64 0, .slice none 0 0, .int .i64 0] 25 (0, 0))) := ⟨by have h_ := blk_new ((w.alloc (.cells #[.int .i64 k, .int .u64 st, .int .u64 ic, .slice A l.length c, .int .i64 at_] 25 (0, 0))).alloc (.cells #[.bool false, .bool false, .bool false, .bool false] 45 (0, 0))) (.cells #[.int .i64 0, .int .u64 0, .int .u64 0, .slice none 0 0, .int .i64 0] 25 (0, 0)); rwa [Go.Proofs.YtjiogchafnpkhaaS.size_alloc, Go.Proofs.YtjiogchafnpkhaaS.size_alloc] at h_⟩
  have HB := Aside0.mk (below_alloc (below_alloc (below_alloc (Below.refl w.heap.size w) (.cells #[.int .i64 k, .int .u64 st, .int .u64 ic, .slice A l.length c, .int .i64 at_] 25 (0, 0))) (.cells #[.bool false, .bool false, .bool false, .bool false] 45 (0, 0))) (.cells #[.int .i64 0, .int .u64 0, .int .u64 0, .slice none 0 0, .int .i64 0] 25 (0, 0)))
  have GA : Aside0 (w.heap.size ≤ w.heap.size + 1) := ⟨by omega⟩
  have GB : Aside0 (w.heap.size ≤ w.heap.size + 1 + 1) := ⟨by omega⟩
  have NAB : Aside0 (w.heap.size + 1 + 1 ≠ w.heap.size + 1) := ⟨by omega⟩
  have NBA : Aside0 (w.heap.size + 1 ≠ w.heap.size + 1 + 1) := ⟨by omega⟩
  go_enter Try.func37, Try.ntmps37
  go_wp2_with (first | ((with_reducible refine gate_callee (f := 26) rfl ?_); refine goesL_ (some 10) rfl rfl Try.func26 (by kernel_rfl) rfl #[.agg #[.int .i64 k, .int .u64 st, .int .u64 ic, .slice A l.length c, .int .i64 at_], .int .i64 6] rfl (by (try simp only [List.map_toArray, List.map_cons, List.map_nil]); first | done | rfl) ?_; (refine (ref_Below_calls k st ic at_ A c l 6 _ (Kd.C_below HR.out HB.out) HU.out HS0.out).mono ?_); rintro e w1 ⟨rfl, hb⟩; rw [HX.out, HS.out, HA.out]; refine ⟨_, rfl, ?_⟩; have n1_ := Aside0.mk (below_alloc (below_step HB.out hb) (.cells #[.int .i64 k, .int .u64 st6, .int .u64 ic, .slice A l.length c, .int .i64 at6] 25 (0, 0))); have n2_ := Aside0.mk (blk_alloc (blk_below BA.out hb) (.cells #[.int .i64 k, .int .u64 st6, .int .u64 ic, .slice A l.length c, .int .i64 at6] 25 (0, 0))); have n3_ := Aside0.mk (blk_alloc (blk_below BS.out hb) (.cells #[.int .i64 k, .int .u64 st6, .int .u64 ic, .slice A l.length c, .int .i64 at6] 25 (0, 0))); have B5 := Aside0.mk (blk_new w1 (.cells #[.int .i64 k, .int .u64 st6, .int .u64 ic, .slice A l.length c, .int .i64 at6] 25 (0, 0))); have NG5 : Aside0 (w1.heap.size ≠ w.heap.size + 1) := ⟨fun e_ => by have h_ := blk_lt (blk_below BA.out hb); omega⟩; clear HB BA BS hb; have HB := n1_; have BA := n2_; have BS := n3_; clear n1_ n2_ n3_) | ((with_reducible refine gate_callee (f := 34) rfl ?_); refine goesL_ (some 15) rfl rfl Try.func34 (by kernel_rfl) rfl #[.int .i64 x6] rfl (by (try simp only [List.map_toArray, List.map_cons, List.map_nil]); first | done | rfl) ?_; (refine (ref_Four_v x6 _).mono ?_); rintro e w2 ⟨rfl, hb⟩; refine ⟨_, rfl, ?_⟩; have n1_ := Aside0.mk (below_alloc (below_step HB.out hb) (.cells #[.bool (fa x6), .bool (fb x6), .bool (fc x6), .bool (fd x6)] 45 (0, 0))); have n2_ := Aside0.mk (blk_alloc (blk_below BA.out hb) (.cells #[.bool (fa x6), .bool (fb x6), .bool (fc x6), .bool (fd x6)] 45 (0, 0))); have n3_ := Aside0.mk (blk_alloc (blk_below BS.out hb) (.cells #[.bool (fa x6), .bool (fb x6), .bool (fc x6), .bool (fd x6)] 45 (0, 0))); have n5_ := Aside0.mk (blk_alloc (blk_below B5.out hb) (.cells #[.bool (fa x6), .bool (fb x6), .bool (fc x6), .bool (fd x6)] 45 (0, 0))); have B6 := Aside0.mk (blk_new w2 (.cells #[.bool (fa x6), .bool (fb x6), .bool (fc x6), .bool (fd x6)] 45 (0, 0))); have NG6 : Aside0 (w2.heap.size ≠ w.heap.size + 1) := ⟨fun e_ => by have h_ := blk_lt (blk_below BA.out hb); omega⟩; clear HB BA BS B5 hb; have HB := n1_; have BA := n2_; have BS := n3_; have B5 := n5_; clear n1_ n2_ n3_ n5_))
  generalize w1.heap.size = g5 at *
  generalize w2.heap.size = g6 at *
  generalize w2.alloc (.cells #[.bool (fa x6), .bool (fb x6), .bool (fc x6), .bool (fd x6)] 45 (0, 0)) = W5 at *
  refine start_ (n := 4) (S := fun w' => (w'.cell? ⟨g6, 0, none⟩ = some (.bool (fa x6)) ∧ w'.cell? ⟨g6, 1, none⟩ = some (.bool (fb x6)) ∧ w'.cell? ⟨g6, 2, none⟩ = some (.bool (fc x6)) ∧ w'.cell? ⟨g6, 3, none⟩ = some (.bool (fd x6))) ∧ (w'.cell? ⟨g5, 0, none⟩ = some (.int .i64 k) ∧ w'.cell? ⟨g5, 1, none⟩ = some (.int .u64 st6) ∧ w'.cell? ⟨g5, 2, none⟩ = some (.int .u64 ic) ∧ w'.cell? ⟨g5, 3, none⟩ = some (.slice A l.length c) ∧ w'.cell? ⟨g5, 4, none⟩ = some (.int .i64 at6))) (ds := [3]) #[false, false, false, false] (by kernel_rfl) rfl rfl ⟨⟨(blk_cell B6.out 0).trans rfl, (blk_cell B6.out 1).trans rfl, (blk_cell B6.out 2).trans rfl, (blk_cell B6.out 3).trans rfl⟩, ⟨(blk_cell B5.out 0).trans rfl, (blk_cell B5.out 1).trans rfl, (blk_cell B5.out 2).trans rfl, (blk_cell B5.out 3).trans rfl, (blk_cell B5.out 4).trans rfl⟩⟩ (fun hHeld => ?_)
  replace B5 := Aside0.mk (blk_drew B5.out)
  replace B6 := Aside0.mk (blk_drew B6.out)
  replace BA := Aside0.mk (blk_drew BA.out)
  replace BS := Aside0.mk (blk_drew BS.out)
  replace HB := Aside0.mk (below_drew1 HB.out)
  generalize W5.drew = W6 at B5 B6 BA BS HB hHeld ⊢
  refine take_ (i := 0) (N := (some 18)) (v := ?_) (a' := ?_) #[true, false, false, false] rfl rfl (by kernel_rfl) (fun _ _ _ h => h) (Or.inl ⟨by rfl, ?_⟩) hHeld ?_ ?_
  rotate_left
  · rintro w' ⟨⟨t0, t1, t2, t3⟩, ⟨s0, s1, s2, s3, s4⟩⟩
    go_simp
    with_reducible rfl
  rotate_left
  · simp only [Act.put, List.setIfInBounds_toArray, List.set_cons_zero, List.set_cons_succ, i64_w, i32_w]
    rfl
  refine take_ (i := 1) (N := (some 19)) (v := ?_) (a' := ?_) #[true, true, false, false] rfl rfl (by kernel_rfl) (fun _ _ _ h => h) (Or.inl ⟨by rfl, ?_⟩) hHeld ?_ ?_
  rotate_left
  · rintro w' ⟨⟨t0, t1, t2, t3⟩, ⟨s0, s1, s2, s3, s4⟩⟩
    go_simp
    with_reducible rfl
  rotate_left
  · simp only [Act.put, List.setIfInBounds_toArray, List.set_cons_zero, List.set_cons_succ, i64_w, i32_w]
    rfl
  refine one_ (i := 2) (N := none) #[true, true, true, false] rfl rfl (by kernel_rfl) (by decide) (fun K hK => ?_)
  have hs0 : W6.cell? ⟨w.heap.size + 1, 0, none⟩ = some (.bool false) := (blk_cell BA.out 0).trans rfl
  have hf0 := blk_frozen BA.out 0
  have hs1 : W6.cell? ⟨w.heap.size + 1, 1, none⟩ = some (.bool false) := (blk_cell BA.out 1).trans rfl
  have hf1 := blk_frozen BA.out 1
  have hs2 : W6.cell? ⟨w.heap.size + 1, 2, none⟩ = some (.bool false) := (blk_cell BA.out 2).trans rfl
  have hf2 := blk_frozen BA.out 2
  have hs3 : W6.cell? ⟨w.heap.size + 1, 3, none⟩ = some (.bool false) := (blk_cell BA.out 3).trans rfl
  have hf3 := blk_frozen BA.out 3
  have n2_ : Aside0 (((((W6.setCell ⟨w.heap.size + 1, 0, none⟩ (.bool (fa x6))).setCell ⟨w.heap.size + 1, 1, none⟩ (.bool (fb x6))).setCell ⟨w.heap.size + 1, 2, none⟩ (.bool (fc x6))).setCell ⟨w.heap.size + 1, 3, none⟩ (.bool (fd x6))).heap[w.heap.size + 1]? = some (.cells #[.bool (fa x6), .bool (fb x6), .bool (fc x6), .bool (fd x6)] 45 (0, 0))) := ⟨((blk_set (blk_set (blk_set (blk_set BA.out 0 (.bool (fa x6))) 1 (.bool (fb x6))) 2 (.bool (fc x6))) 3 (.bool (fd x6)))).trans (by rfl)⟩
  have n3_ : Aside0 (((((W6.setCell ⟨w.heap.size + 1, 0, none⟩ (.bool (fa x6))).setCell ⟨w.heap.size + 1, 1, none⟩ (.bool (fb x6))).setCell ⟨w.heap.size + 1, 2, none⟩ (.bool (fc x6))).setCell ⟨w.heap.size + 1, 3, none⟩ (.bool (fd x6))).heap[w.heap.size + 1 + 1]? = some (.cells #[.int .i64 0, .int .u64 0, .int .u64 0, .slice none 0 0, .int .i64 0] 25 (0, 0))) := ⟨(blk_far (blk_far (blk_far (blk_far BS.out (p := ⟨w.heap.size + 1, 0, none⟩) NAB.out (.bool (fa x6))) (p := ⟨w.heap.size + 1, 1, none⟩) NAB.out (.bool (fb x6))) (p := ⟨w.heap.size + 1, 2, none⟩) NAB.out (.bool (fc x6))) (p := ⟨w.heap.size + 1, 3, none⟩) NAB.out (.bool (fd x6)))⟩
  have n1_ : Aside0 (Below w.heap.size w ((((W6.setCell ⟨w.heap.size + 1, 0, none⟩ (.bool (fa x6))).setCell ⟨w.heap.size + 1, 1, none⟩ (.bool (fb x6))).setCell ⟨w.heap.size + 1, 2, none⟩ (.bool (fc x6))).setCell ⟨w.heap.size + 1, 3, none⟩ (.bool (fd x6)))) := ⟨(below_set (j := 3) (v := (.bool (fd x6))) (below_set (j := 2) (v := (.bool (fc x6))) (below_set (j := 1) (v := (.bool (fb x6))) (below_set (j := 0) (v := (.bool (fa x6))) HB.out GA.out) GA.out) GA.out) GA.out)⟩
  have n5_ : Aside0 (((((W6.setCell ⟨w.heap.size + 1, 0, none⟩ (.bool (fa x6))).setCell ⟨w.heap.size + 1, 1, none⟩ (.bool (fb x6))).setCell ⟨w.heap.size + 1, 2, none⟩ (.bool (fc x6))).setCell ⟨w.heap.size + 1, 3, none⟩ (.bool (fd x6))).heap[g5]? = some (.cells #[.int .i64 k, .int .u64 st6, .int .u64 ic, .slice A l.length c, .int .i64 at6] 25 (0, 0))) := ⟨(blk_far (blk_far (blk_far (blk_far B5.out (p := ⟨w.heap.size + 1, 0, none⟩) NG5.out (.bool (fa x6))) (p := ⟨w.heap.size + 1, 1, none⟩) NG5.out (.bool (fb x6))) (p := ⟨w.heap.size + 1, 2, none⟩) NG5.out (.bool (fc x6))) (p := ⟨w.heap.size + 1, 3, none⟩) NG5.out (.bool (fd x6)))⟩
  have n6_ : Aside0 (((((W6.setCell ⟨w.heap.size + 1, 0, none⟩ (.bool (fa x6))).setCell ⟨w.heap.size + 1, 1, none⟩ (.bool (fb x6))).setCell ⟨w.heap.size + 1, 2, none⟩ (.bool (fc x6))).setCell ⟨w.heap.size + 1, 3, none⟩ (.bool (fd x6))).heap[g6]? = some (.cells #[.bool (fa x6), .bool (fb x6), .bool (fc x6), .bool (fd x6)] 45 (0, 0))) := ⟨(blk_far (blk_far (blk_far (blk_far B6.out (p := ⟨w.heap.size + 1, 0, none⟩) NG6.out (.bool (fa x6))) (p := ⟨w.heap.size + 1, 1, none⟩) NG6.out (.bool (fb x6))) (p := ⟨w.heap.size + 1, 2, none⟩) NG6.out (.bool (fc x6))) (p := ⟨w.heap.size + 1, 3, none⟩) NG6.out (.bool (fd x6)))⟩
  refine skip_ (w1 := ?_) (by rfl) rfl ?_ ?_
  rotate_left
  · go_simp
    rfl
  refine hK.out _ _ ⟨⟨(blk_cell n6_.out 0).trans rfl, (blk_cell n6_.out 1).trans rfl, (blk_cell n6_.out 2).trans rfl, (blk_cell n6_.out 3).trans rfl⟩, ⟨(blk_cell n5_.out 0).trans rfl, (blk_cell n5_.out 1).trans rfl, (blk_cell n5_.out 2).trans rfl, (blk_cell n5_.out 3).trans rfl, (blk_cell n5_.out 4).trans rfl⟩⟩ (fun hHeld => ?_)
  clear hK K
  clear hs0 hf0 hs1 hf1 hs2 hf2 hs3 hf3
  clear HB BA BS B5 B6
  have HB := n1_
  have BA := n2_
  have BS := n3_
  clear n1_ n2_ n3_ n5_ n6_
  generalize ((((W6.setCell ⟨w.heap.size + 1, 0, none⟩ (.bool (fa x6))).setCell ⟨w.heap.size + 1, 1, none⟩ (.bool (fb x6))).setCell ⟨w.heap.size + 1, 2, none⟩ (.bool (fc x6))).setCell ⟨w.heap.size + 1, 3, none⟩ (.bool (fd x6))) = W8 at *
  refine last_ (i := 3) (N := none) #[true, true, true, true] rfl rfl (by kernel_rfl) (by decide) (fun K hK => ?_)
  have hs0 : W8.cell? ⟨w.heap.size + 1 + 1, 0, none⟩ = some (.int .i64 0) := (blk_cell BS.out 0).trans rfl
  have hf0 := blk_frozen BS.out 0
  have hs1 : W8.cell? ⟨w.heap.size + 1 + 1, 1, none⟩ = some (.int .u64 0) := (blk_cell BS.out 1).trans rfl
  have hf1 := blk_frozen BS.out 1
  have hs2 : W8.cell? ⟨w.heap.size + 1 + 1, 2, none⟩ = some (.int .u64 0) := (blk_cell BS.out 2).trans rfl
  have hf2 := blk_frozen BS.out 2
  have hs3 : W8.cell? ⟨w.heap.size + 1 + 1, 3, none⟩ = some (.slice none 0 0) := (blk_cell BS.out 3).trans rfl
  have hf3 := blk_frozen BS.out 3
  have hs4 : W8.cell? ⟨w.heap.size + 1 + 1, 4, none⟩ = some (.int .i64 0) := (blk_cell BS.out 4).trans rfl
  have hf4 := blk_frozen BS.out 4
  refine skip_ (w1 := ?_) (by rfl) rfl ?_ ?_
  rotate_left
  · go_simp
    rfl
  refine hK.out _ _ ?_
  clear hK K
  refine done_ (by kernel_rfl) ?_
  try go_wp2
  have q0 := blk_set BS.out 0 (.int .i64 k)
  have q1 := blk_set q0 1 (.int .u64 st6)
  have q2 := blk_set q1 2 (.int .u64 ic)
  have q3 := blk_set q2 3 (.slice A l.length c)
  have q4 := blk_set q3 4 (.int .i64 at6)
  have qa := (blk_far (blk_far (blk_far (blk_far (blk_far BA.out (p := ⟨w.heap.size + 1 + 1, 0, none⟩) NBA.out (.int .i64 k)) (p := ⟨w.heap.size + 1 + 1, 1, none⟩) NBA.out (.int .u64 st6)) (p := ⟨w.heap.size + 1 + 1, 2, none⟩) NBA.out (.int .u64 ic)) (p := ⟨w.heap.size + 1 + 1, 3, none⟩) NBA.out (.slice A l.length c)) (p := ⟨w.heap.size + 1 + 1, 4, none⟩) NBA.out (.int .i64 at6))
  (try simp only [Exit.inBlock, Exit.then])
  refine bodyPost_ret (results_list (rs := [.cell 2 45, .cell 3 25]) rfl (by simp) (.cell (w.heap.size + 1) 45 #[.bool (fa x6), .bool (fb x6), .bool (fc x6), .bool (fd x6)] (0, 0) _ rfl qa Try.underlying45 rfl (by kernel_rfl) (.cell (w.heap.size + 1 + 1) 25 #[.int .i64 k, .int .u64 st6, .int .u64 ic, .slice A l.length c, .int .i64 at6] (0, 0) _ rfl (q4.trans (by rfl)) Try.underlying25 rfl (by kernel_rfl) .nil))) rfl ⟨rfl, ?_⟩
  exact (below_set (j := 4) (v := (.int .i64 at6)) (below_set (j := 3) (v := (.slice A l.length c)) (below_set (j := 2) (v := (.int .u64 ic)) (below_set (j := 1) (v := (.int .u64 st6)) (below_set (j := 0) (v := (.int .i64 k)) HB.out GB.out) GB.out) GB.out) GB.out) GB.out)
end Go.Proofs.Ytjiogchafnpkhaa.D
