import Derived.Laws.ResultCell
import Derived.Laws.CopyOwn
import Derived.Test.YtocdpfdnnijdkaaKA
import Derived.Test.YtocdpfdnnijdkaaG6
namespace Go.Proofs.Ytocdpfdnnijdkaa.G
open Go.RowKit Go.Proofs.YtocdpfdnnijdkaaW.PrintWords Go.Proofs.YtocdpfdnnijdkaaW.PrintLast Go.Proofs.YtocdpfdnnijdkaaW.PrintMore
attribute [local go_sem] max2_int min2_int max_two min_two max_three min_three max_four min_four
attribute [local go_sem] Go.Proofs.YtocdpfdnnijdkaaS.cell_set_map Go.Proofs.YtocdpfdnnijdkaaS.setCell_drewN
set_option linter.unusedVariables false
set_option linter.unusedSimpArgs false
/-- The document's agenda at block gm: its row u holds the list ml. -/
def MG (B : Nat) (w : World) (gm : Nat) (u : Value) (ml : List S24) (most : Int) : Prop := w.heap[gm]? = some (.cells #[.int .i64 most, u] 44 (0, 0)) ∧ Kd.R k24 24 w B (fun _ => True) u ml ∧ B ≤ gm
theorem MG_below {B : Nat} {w w' : World} {gm : Nat} {u : Value} {ml : List S24} {most : Int} (h : MG B w gm u ml most) (hb : Below w.heap.size w w') : MG B w' gm u ml most := ⟨blk_below h.1 hb, Kd.R_below h.2.1 hb, h.2.2⟩
theorem bz {B : Nat} {w w' : World} (h : Below B w w') : Below 0 w w' := ⟨h.os, h.tape, h.output, h.size, fun k hk => absurd hk (Nat.not_lt_zero k)⟩
theorem below_N {B : Nat} {w w' : World} (h : Below B w w') (n : Nat) : Below B w (w'.drewN n) := pw_below_drewN h n
theorem ne44 : ∀ q, q ∈ 24 :: k24.E → q ≠ 44 := by
  intro q hq e
  have hq' : q = 24 := by simpa [k24, Kd.iso, Kd.pair, Kd.int, Kd.scalar] using hq
  omega
theorem MG_set {B : Nat} {w : World} {gm : Nat} {u u' : Value} {ml' : List S24} {most : Int} (h : w.heap[gm]? = some (.cells #[.int .i64 most, u] 44 (0, 0))) (hB : B ≤ gm) (hr : Kd.R k24 24 w B (fun _ => True) u' ml') : MG B (w.setCell ⟨gm, 1, none⟩ u') gm u' ml' most :=
  ⟨(blk_set h 1 u').trans rfl, Kd.R_set hr h ne44 1 u', hB⟩
set_option maxHeartbeats 4000000 in
set_option maxRecDepth 100000 in
theorem refNew_v (most : Int) (w : World) (h1 : 1 ≤ most) (h2 : most ≤ 65536) :
    Calls Try.prog 12 #[.int .i64 most] w fun e w' => ∃ gm, e = .returned (.tuple #[.pointer (some ⟨gm, 0, none⟩), .int .i64 0]) ∧ w.heap.size ≤ gm ∧ w'.heap[gm]? = some (.cells #[.int .i64 most, .slice none 0 0] 44 (0, 0)) ∧ Below w.heap.size w w' := by
  have hu44 := Try.underlying44
  have p1 : decide (most < 1) = false := decide_eq_false (by omega)
  have p2 : decide (65536 < most) = false := decide_eq_false (by omega)
  go_enter Try.func12, Try.ntmps12
  go_wp2
  go_ret2
  exact ⟨w.heap.size, rfl, Nat.le_refl _, blk_new w _, below_alloc (Below.refl _ _) _⟩
set_option maxHeartbeats 4000000 in
set_option maxRecDepth 100000 in
theorem refNew_bad (most : Int) (w : World) (h : most < 1 ∨ 65536 < most) :
    Calls Try.prog 12 #[.int .i64 most] w fun e w' => e = .returned (.tuple #[.pointer none, .int .i64 1]) ∧ Below w.heap.size w w' := by
  have hq : (∃ _ : decide (most < 1) = true, True) ∨ (decide (most < 1) = false ∧ decide (65536 < most) = true) := by
    by_cases g : most < 1
    · exact .inl ⟨decide_eq_true g, trivial⟩
    · exact .inr ⟨decide_eq_false g, decide_eq_true (by omega)⟩
  clear h
  rcases hq with ⟨p1, _⟩ | ⟨p1, p2⟩
  all_goals
    go_enter Try.func12, Try.ntmps12
    go_wp2
    go_ret2
    exact ⟨rfl, Below.refl _ _⟩
set_option maxHeartbeats 4000000 in
set_option maxRecDepth 100000 in
theorem refPut_full (B gm : Nat) (u : Value) (ml : List S24) (most : Int) (x : S24) (w : World) (h : MG B w gm u ml most) (hm : most ≤ (ml.length : Int)) :
    Calls Try.prog 13 #[.pointer (some ⟨gm, 0, none⟩), .agg #[.int .i64 x.f0, .int .i64 x.f1, .int .i64 x.f2, .int .u64 x.f3]] w fun e w' => e = .returned (.int .i64 2) ∧ Below w.heap.size w w' := by
  have hu24 := Try.underlying24
  have hu44 := Try.underlying44
  obtain ⟨A, c, rfl, _, _⟩ := Kd.R_reads h.2.1
  have BX := Aside0.mk (blk_new w (.cells #[.int .i64 x.f0, .int .i64 x.f1, .int .i64 x.f2, .int .u64 x.f3] 24 (0, 0)))
  have HM := Aside0.mk (MG_below h (below_alloc (Below.refl _ _) (.cells #[.int .i64 x.f0, .int .i64 x.f1, .int .i64 x.f2, .int .u64 x.f3] 24 (0, 0))))
  have HB := Aside0.mk (below_alloc (Below.refl w.heap.size w) (.cells #[.int .i64 x.f0, .int .i64 x.f1, .int .i64 x.f2, .int .u64 x.f3] 24 (0, 0)))
  have p1 : decide (most ≤ (ml.length : Int)) = true := decide_eq_true hm
  have p2 : decide ((ml.length : Int) < most) = false := decide_eq_false (by omega)
  clear h
  go_enter Try.func13, Try.ntmps13
  go_wp2
  generalize w.alloc (.cells #[.int .i64 x.f0, .int .i64 x.f1, .int .i64 x.f2, .int .u64 x.f3] 24 (0, 0)) = W1 at *
  have hc0 : W1.cell? ⟨gm, 0, none⟩ = some (.int .i64 most) := (blk_cell HM.out.1 0).trans rfl
  have hc1 : W1.cell? ⟨gm, 1, none⟩ = some (Value.slice A ml.length c) := (blk_cell HM.out.1 1).trans rfl
  go_quiet (fail)
  go_wp2
  go_ret
  exact ⟨rfl, below_N HB.out _⟩
set_option maxHeartbeats 4000000 in
set_option maxRecDepth 100000 in
theorem refPut_v (B gm : Nat) (u : Value) (ml : List S24) (most : Int) (x : S24) (w : World) (h : MG B w gm u ml most) (hm : (ml.length : Int) < most) (hl : ml.length ≤ 1000000) (hB : B ≤ w.heap.size) :
    Calls Try.prog 13 #[.pointer (some ⟨gm, 0, none⟩), .agg #[.int .i64 x.f0, .int .i64 x.f1, .int .i64 x.f2, .int .u64 x.f3]] w fun e w' => ∃ u', e = .returned (.int .i64 0) ∧ MG B w' gm u' (ml ++ [x]) most ∧ KP w w' (fun k => k = gm ∨ some k = u.ownBlock) := by
  have hu24 := Try.underlying24
  have hu44 := Try.underlying44
  obtain ⟨A, c, rfl, _, _⟩ := Kd.R_reads h.2.1
  have BX := Aside0.mk (blk_new w (.cells #[.int .i64 x.f0, .int .i64 x.f1, .int .i64 x.f2, .int .u64 x.f3] 24 (0, 0)))
  have HNX : Aside0 (some w.heap.size ≠ (Value.slice A ml.length c).ownBlock) := ⟨fun e => absurd (Kd.R_lt h.2.1 _ e.symm) (Nat.lt_irrefl _)⟩
  have HM := Aside0.mk (MG_below h (below_alloc (Below.refl _ _) (.cells #[.int .i64 x.f0, .int .i64 x.f1, .int .i64 x.f2, .int .u64 x.f3] 24 (0, 0))))
  have HB := Aside0.mk (below_alloc (Below.refl w.heap.size w) (.cells #[.int .i64 x.f0, .int .i64 x.f1, .int .i64 x.f2, .int .u64 x.f3] 24 (0, 0)))
  have HL := Aside0.mk hl
  have p1 : decide (most ≤ (ml.length : Int)) = false := decide_eq_false (by omega)
  have p2 : decide ((ml.length : Int) < most) = true := decide_eq_true (by omega)
  have HBW := Aside0.mk hB
  have HGB := Aside0.mk h.2.2
  clear h hB hl hm
  go_enter Try.func13, Try.ntmps13
  go_wp2
  generalize w.alloc (.cells #[.int .i64 x.f0, .int .i64 x.f1, .int .i64 x.f2, .int .u64 x.f3] 24 (0, 0)) = W1 at *
  have hc0 : W1.cell? ⟨gm, 0, none⟩ = some (.int .i64 most) := (blk_cell HM.out.1 0).trans rfl
  have hc1 : W1.cell? ⟨gm, 1, none⟩ = some (Value.slice A ml.length c) := (blk_cell HM.out.1 1).trans rfl
  go_quiet (fail)
  go_wp2
  clear hc0 hc1 p1 p2
  replace HM := Aside0.mk (MG_below HM.out (below_N (Below.refl _ _) nq))
  replace BX := Aside0.mk (blk_drewN BX.out nq)
  replace HB := Aside0.mk (below_N HB.out nq)
  generalize W1.drewN nq = W2 at *
  have HBS : Aside0 (B ≤ W2.heap.size) := ⟨Nat.le_trans HBW.out HB.out.size⟩
  refine start_ (n := 11) (S := fun w' => w'.cell? ⟨gm, 1, none⟩ = some (Value.slice A ml.length c) ∧ w'.cell? ⟨w.heap.size, 0, none⟩ = some (.int .i64 x.f0) ∧ w'.cell? ⟨w.heap.size, 1, none⟩ = some (.int .i64 x.f1) ∧ w'.cell? ⟨w.heap.size, 2, none⟩ = some (.int .i64 x.f2) ∧ w'.cell? ⟨w.heap.size, 3, none⟩ = some (.int .u64 x.f3)) (ds := [10]) #[false, false, false, false, false, false, false, false, false, false, false] (by kernel_rfl) rfl rfl ⟨(blk_cell (HM.out.1) 1).trans rfl, (blk_cell (BX.out) 0).trans rfl, (blk_cell (BX.out) 1).trans rfl, (blk_cell (BX.out) 2).trans rfl, (blk_cell (BX.out) 3).trans rfl⟩ (fun hHeld => ?_)
  replace HM := Aside0.mk (MG_below (w' := W2.drew) HM.out (below_drew1 (Below.refl _ _)))
  replace BX := Aside0.mk (blk_drew BX.out)
  replace HB := Aside0.mk (below_drew1 HB.out)
  replace HBS : Aside0 (B ≤ W2.drew.heap.size) := HBS
  generalize W2.drew = W3 at HM BX HB HBS hHeld ⊢
  refine pure_ (i := 0) (N := (some 15)) (v := ?_) (a' := ?_) #[true, false, false, false, false, false, false, false, false, false, false] rfl rfl (by decide +kernel) (fun _ _ _ h => h) (Or.inl ⟨by rfl, ?_⟩) ?_ ?_
  rotate_left
  · intro w'
    go_simp
    with_reducible rfl
  rotate_left
  · simp only [Act.put, List.setIfInBounds_toArray, List.set_cons_zero, List.set_cons_succ, i64_w, i32_w]
    rfl
  refine pure_ (i := 1) (N := (some 16)) (v := ?_) (a' := ?_) #[true, true, false, false, false, false, false, false, false, false, false] rfl rfl (by decide +kernel) (fun _ _ _ h => h) (Or.inl ⟨by rfl, ?_⟩) ?_ ?_
  rotate_left
  · intro w'
    go_simp
    with_reducible rfl
  rotate_left
  · simp only [Act.put, List.setIfInBounds_toArray, List.set_cons_zero, List.set_cons_succ, i64_w, i32_w]
    rfl
  refine pure_ (i := 2) (N := (some 17)) (v := ?_) (a' := ?_) #[true, true, true, false, false, false, false, false, false, false, false] rfl rfl (by decide +kernel) (fun _ _ _ h => h) (Or.inl ⟨by rfl, ?_⟩) ?_ ?_
  rotate_left
  · intro w'
    go_simp
    with_reducible rfl
  rotate_left
  · simp only [Act.put, List.setIfInBounds_toArray, List.set_cons_zero, List.set_cons_succ, i64_w, i32_w]
    rfl
  refine pure_ (i := 3) (N := (some 18)) (v := ?_) (a' := ?_) #[true, true, true, true, false, false, false, false, false, false, false] rfl rfl (by decide +kernel) (fun _ _ _ h => h) (Or.inl ⟨by rfl, ?_⟩) ?_ ?_
  rotate_left
  · intro w'
    go_simp
    with_reducible rfl
  rotate_left
  · simp only [Act.put, List.setIfInBounds_toArray, List.set_cons_zero, List.set_cons_succ, i64_w, i32_w]
    rfl
  refine take_ (i := 4) (N := (some 19)) (v := ?_) (a' := ?_) #[true, true, true, true, true, false, false, false, false, false, false] rfl rfl (by decide +kernel) (fun _ _ _ h => h) (Or.inl ⟨by rfl, ?_⟩) hHeld ?_ ?_
  rotate_left
  · rintro w' ⟨s0, s1, s2, s3, s4⟩
    go_simp
    with_reducible rfl
  rotate_left
  · simp only [Act.put, List.setIfInBounds_toArray, List.set_cons_zero, List.set_cons_succ, i64_w, i32_w]
    rfl
  refine take_ (i := 5) (N := (some 20)) (v := ?_) (a' := ?_) #[true, true, true, true, true, true, false, false, false, false, false] rfl rfl (by decide +kernel) (fun _ _ _ h => h) (Or.inl ⟨by rfl, ?_⟩) hHeld ?_ ?_
  rotate_left
  · rintro w' ⟨s0, s1, s2, s3, s4⟩
    go_simp
    with_reducible rfl
  rotate_left
  · simp only [Act.put, List.setIfInBounds_toArray, List.set_cons_zero, List.set_cons_succ, i64_w, i32_w]
    rfl
  refine one_ (i := 6) (N := (some 21)) #[true, true, true, true, true, true, true, false, false, false, false] rfl rfl (by decide +kernel) (by decide) (fun K hK => ?_)
  refine value_ (w1 := ?_) (v := ?_) (by rfl) rfl ?_ ?_
  rotate_left 2
  · go_simp
    constructor
    · rfl
    · rfl
  refine hK.out _ _ ⟨(blk_cell (blk_alloc HM.out.1 _) 1).trans rfl, (blk_cell (blk_alloc BX.out _) 0).trans rfl, (blk_cell (blk_alloc BX.out _) 1).trans rfl, (blk_cell (blk_alloc BX.out _) 2).trans rfl, (blk_cell (blk_alloc BX.out _) 3).trans rfl⟩ (fun hHeld => ?_)
  clear hK K
  refine norm_ (a' := ?_) ?_ ?_
  rotate_left
  · show Act.put _ (some 21) _ = _
    simp only [Act.put, List.setIfInBounds_toArray, List.set_cons_zero, List.set_cons_succ, i64_w, i32_w]
    rfl
  refine one_ (i := 7) (N := (some 22)) #[true, true, true, true, true, true, true, true, false, false, false] rfl rfl (by decide +kernel) (by decide) (fun K hK => ?_)
  refine Kd.R_append_step k24 (w0 := W3) B (by rfl) (.tmp 19) (.tmp 21) 42 24 (.agg #[.int .i64 0, .int .i64 0, .int .i64 0, .int .u64 0]) 32 rfl Try.underlying42 info24 rfl (by decide) (by decide) (Value.slice A ml.length c) ml x [.int .i64 x.f0, .int .i64 x.f1, .int .i64 x.f2, .int .u64 x.f3] (fun _ => True) (fun _ => False) rfl rfl (k24_mkM _ _ _ x) (fun _ h => h.elim) (fun _ _ => trivial) HM.out.2.1 (Below.refl B W3) HBS.out (by have := HL.out; omega) ?_
  intro v1 W4 ho hb hgr hat
  obtain ⟨A1, n1, c1, rfl⟩ : ∃ A1 n1 c1, v1 = .slice A1 n1 c1 := by
    obtain ⟨A1, c1, e1⟩ := Kd.R_slice ho
    exact ⟨A1, _, c1, e1⟩
  replace BX := Aside0.mk (blk_grown BX.out hgr HNX.out)
  have HG := Aside0.mk (blk_grown HM.out.1 hgr (Kd.R_ne HM.out.2.1 HM.out.1 (by decide)))
  have HR1 := Aside0.mk ho
  have HK := Aside0.mk (KP.of_grown hgr (bz hb) (KP.of_below HB.out (fun k => k = gm ∨ some k = (Value.slice A ml.length c).ownBlock)) (fun k hk => .inl (.inr hk.symm)))
  clear ho hb hgr hat HM HB
  refine hK.out _ _ ⟨(blk_cell (HG.out) 1).trans rfl, (blk_cell (BX.out) 0).trans rfl, (blk_cell (BX.out) 1).trans rfl, (blk_cell (BX.out) 2).trans rfl, (blk_cell (BX.out) 3).trans rfl⟩ (fun hHeld => ?_)
  clear hK K
  refine norm_ (a' := ?_) ?_ ?_
  rotate_left
  · show Act.put _ (some 22) _ = _
    simp only [Act.put, List.setIfInBounds_toArray, List.set_cons_zero, List.set_cons_succ, i64_w, i32_w]
    rfl
  refine pure_ (i := 8) (N := (some 23)) (v := ?_) (a' := ?_) #[true, true, true, true, true, true, true, true, true, false, false] rfl rfl (by decide +kernel) (fun _ _ _ h => h) (Or.inl ⟨by rfl, ?_⟩) ?_ ?_
  rotate_left
  · intro w'
    go_simp
    with_reducible rfl
  rotate_left
  · simp only [Act.put, List.setIfInBounds_toArray, List.set_cons_zero, List.set_cons_succ, i64_w, i32_w]
    rfl
  refine pure_ (i := 9) (N := (some 24)) (v := ?_) (a' := ?_) #[true, true, true, true, true, true, true, true, true, true, false] rfl rfl (by decide +kernel) (fun _ _ _ h => h) (Or.inl ⟨by rfl, ?_⟩) ?_ ?_
  rotate_left
  · intro w'
    go_simp
    with_reducible rfl
  rotate_left
  · simp only [Act.put, List.setIfInBounds_toArray, List.set_cons_zero, List.set_cons_succ, i64_w, i32_w]
    rfl
  have hcg := (blk_cell HG.out 1).trans rfl
  have hfg := blk_frozen HG.out 1
  refine last_ (i := 10) (N := none) #[true, true, true, true, true, true, true, true, true, true, true] rfl rfl (by decide +kernel) (by decide) (fun K hK => ?_)
  refine skip_ (w1 := ?_) (by rfl) rfl ?_ ?_
  rotate_left
  · go_simp
    rfl
  refine hK.out _ _ ?_
  clear hK K
  refine done_ (by kernel_rfl) ?_
  try go_wp2
  go_ret
  exact ⟨.slice A1 n1 c1, rfl, MG_set HG.out HGB.out HR1.out, KP.setCell HK.out (p := ⟨gm, 1, none⟩) (.inl (.inl rfl)) _⟩
end Go.Proofs.Ytocdpfdnnijdkaa.G
