import Derived.Test.YtjiogchafnpkhaaMC
namespace Go.Proofs.Ytjiogchafnpkhaa.D
open Go.RowKit Go.Proofs.YtjiogchafnpkhaaW.PrintWords Go.Proofs.YtjiogchafnpkhaaW.PrintLast Go.Proofs.YtjiogchafnpkhaaW.PrintMore
attribute [local go_sem] max2_int min2_int max_two min_two max_three min_three max_four min_four
attribute [local go_sem] Go.Proofs.YtjiogchafnpkhaaS.cell_set_map Go.Proofs.YtjiogchafnpkhaaS.setCell_drewN
set_option linter.unusedVariables false
set_option linter.unusedSimpArgs false
attribute [local go_sem] eq45 eq55 idx0 idx1 idx2 idx3 idx4 idx5
def b2i (a : Bool) : Int := if a = true then 1 else 0
theorem b2i_range (a : Bool) : 0 ≤ b2i a ∧ b2i a ≤ 1 := by cases a <;> decide
/-- How many of the first z trials go up. -/
def cntF (z : Int) (a b c d : Bool) : Int := if z = 0 then 0 else if z = 1 then b2i a else if z = 2 then b2i a + b2i b else if z = 3 then b2i a + b2i b + b2i c else b2i a + b2i b + b2i c + b2i d
theorem Four_v (k : Int) (a b c d : Bool) (g : Int) (w : World) (h1 : fa k = a) (h2 : fb k = b) (h3 : fc k = c) (h4 : fd k = d) (h5 : ge_ k = g) : Calls Try.prog 31 #[.int .i64 k] w fun e w' => e = .returned (.tuple #[.agg #[.bool a, .bool b, .bool c, .bool d], .int .i64 g]) ∧ Below w.heap.size w w' := by
  have h := order_Four_calls k w
  rwa [h1, h2, h3, h4, h5] at h
theorem back_rank (a b c d : Bool) : (∃ n, rk0 a b c d = (n, 0) ∧ cntF 4 a b c d = 2 ∧ fa n = a ∧ fb n = b ∧ fc n = c ∧ fd n = d ∧ ge_ n = 0) ∨ (rk0 a b c d = (0, 14) ∧ (cntF 4 a b c d == 2) = false) := by
  cases a <;> cases b <;> cases c <;> cases d
  all_goals first | exact .inr ⟨rfl, rfl⟩ | exact .inl ⟨0, rfl, rfl, rfl, rfl, rfl, rfl, rfl⟩ | exact .inl ⟨1, rfl, rfl, rfl, rfl, rfl, rfl, rfl⟩ | exact .inl ⟨2, rfl, rfl, rfl, rfl, rfl, rfl, rfl⟩ | exact .inl ⟨3, rfl, rfl, rfl, rfl, rfl, rfl, rfl⟩ | exact .inl ⟨4, rfl, rfl, rfl, rfl, rfl, rfl, rfl⟩ | exact .inl ⟨5, rfl, rfl, rfl, rfl, rfl, rfl, rfl⟩
theorem in6 {k : Int} (h : 0 ≤ k ∧ k ≤ 5) : k = 0 ∨ k = 1 ∨ k = 2 ∨ k = 3 ∨ k = 4 ∨ k = 5 := by omega
theorem four_eq (k l : Int) (hk : 0 ≤ k ∧ k ≤ 5) (hl : 0 ≤ l ∧ l ≤ 5) : e4 (fa k) (fb k) (fc k) (fd k) (fa l) (fb l) (fc l) (fd l) = (k == l) := by
  rcases in6 hk with rfl | rfl | rfl | rfl | rfl | rfl <;> rcases in6 hl with rfl | rfl | rfl | rfl | rfl | rfl <;> rfl
theorem back_four (k l : Int) :
    (ge_ k = 0 ∧ ge_ l = 0 ∧ decide (0 ≤ k) = true ∧ decide (k ≤ 5) = true ∧ ((e4 (fa k) (fb k) (fc k) (fd k) (fa l) (fb l) (fc l) (fd l) = true ∧ (k == l) = true) ∨ (e4 (fa k) (fb k) (fc k) (fd k) (fa l) (fb l) (fc l) (fd l) = false ∧ (k == l) = false))) ∨
    (ge_ k = 0 ∧ ge_ l = 1 ∧ decide (0 ≤ k) = true ∧ decide (k ≤ 5) = true) ∨ (ge_ k = 1 ∧ decide (0 ≤ k) = false) ∨ (ge_ k = 1 ∧ decide (0 ≤ k) = true ∧ decide (k ≤ 5) = false) := by
  by_cases h1 : 0 ≤ k
  · by_cases h2 : k ≤ 5
    · by_cases h3 : 0 ≤ l ∧ l ≤ 5
      · refine .inl ⟨if_pos ⟨h1, h2⟩, if_pos h3, decide_eq_true h1, decide_eq_true h2, ?_⟩
        rw [four_eq k l ⟨h1, h2⟩ h3]
        cases (k == l) <;> simp
      · exact .inr (.inl ⟨if_pos ⟨h1, h2⟩, if_neg h3, decide_eq_true h1, decide_eq_true h2⟩)
    · exact .inr (.inr (.inr ⟨if_neg (fun h => h2 h.2), decide_eq_true h1, decide_eq_false h2⟩))
  · exact .inr (.inr (.inl ⟨if_neg (fun h => h1 h.1), decide_eq_false h1⟩))
set_option maxHeartbeats 16000000 in
set_option maxRecDepth 100000 in
theorem back_walk (a b c d : Bool) (k l : Int) (w : World) : Calls Try.prog 8 #[.agg #[.bool a, .bool b, .bool c, .bool d], .int .i64 k, .int .i64 l] w fun e w' => e = .returned (.bool true) ∧ Below w.heap.size w w' := by
  have hu45 := Try.underlying45
  have BX := Aside0.mk (blk_new w (.cells #[.bool a, .bool b, .bool c, .bool d] 45 (0, 0)))
  have HB := Aside0.mk (below_alloc (Below.refl w.heap.size w) (.cells #[.bool a, .bool b, .bool c, .bool d] 45 (0, 0)))
  go_enter Try.func8, Try.ntmps8
  go_wp2
  go_loopw [7, 8] (fun v7 v8 wr => ∃ z u : Int, (z = 0 ∨ z = 1 ∨ z = 2 ∨ z = 3 ∨ z = 4) ∧ v8 = .int .i64 z ∧ v7 = .int .i64 u ∧ u = cntF z a b c d ∧ Aside0 (wr.heap[w.heap.size]? = some (.cells #[.bool a, .bool b, .bool c, .bool d] 45 (0, 0))) ∧ Aside0 (Below w.heap.size w wr)) (fun _ v8 _ => 4 - (intOf v8).toNat)
  case atStart => exact ⟨0, 0, by omega, rfl, rfl, rfl, BX, HB⟩
  case round =>
    clear BX HB
    obtain ⟨z, u, hz, rfl, rfl, hu, BX, HB⟩ := hrel
    rcases hz with rfl | rfl | rfl | rfl | rfl
    · have hcell : wr.cell? ⟨w.heap.size, 0, none⟩ = some (.bool a) := (blk_cell BX.out 0).trans rfl
      rw [show cntF 0 a b c d = 0 from rfl] at hu
      have hnx : cntF 1 a b c d = b2i a := rfl
      replace hnx := Aside0.mk hnx
      have hr1 := b2i_range a
      have hr2 := b2i_range b
      have hr3 := b2i_range c
      have hr4 := b2i_range d
      rcases Bool.eq_false_or_eq_true a with hv | hv
      · rw [hv] at hcell
        have hw : IntKind.i64.wrap (u + 1) = u + 1 := IntWalk.i64_in _ ⟨by omega, by omega⟩
        go_wp2
        go_roundw
        case rel => exact ⟨1, _, by omega, rfl, rfl, by rw [hnx.out, hv]; (try rw [hu]); first | rfl | (simp [b2i]; done) | (simp [b2i]; omega), BX, HB⟩
        case measure => simp [intOf]
      · rw [hv] at hcell
        have hw : IntKind.i64.wrap (u + 1) = u + 1 := IntWalk.i64_in _ ⟨by omega, by omega⟩
        go_wp2
        go_roundw
        case rel => exact ⟨1, _, by omega, rfl, rfl, by rw [hnx.out, hv]; (try rw [hu]); first | rfl | (simp [b2i]; done) | (simp [b2i]; omega), BX, HB⟩
        case measure => simp [intOf]
    · have hcell : wr.cell? ⟨w.heap.size, 1, none⟩ = some (.bool b) := (blk_cell BX.out 1).trans rfl
      rw [show cntF 1 a b c d = b2i a from rfl] at hu
      have hnx : cntF 2 a b c d = b2i a + b2i b := rfl
      replace hnx := Aside0.mk hnx
      have hr1 := b2i_range a
      have hr2 := b2i_range b
      have hr3 := b2i_range c
      have hr4 := b2i_range d
      rcases Bool.eq_false_or_eq_true b with hv | hv
      · rw [hv] at hcell
        have hw : IntKind.i64.wrap (u + 1) = u + 1 := IntWalk.i64_in _ ⟨by omega, by omega⟩
        go_wp2
        go_roundw
        case rel => exact ⟨2, _, by omega, rfl, rfl, by rw [hnx.out, hv]; (try rw [hu]); first | rfl | (simp [b2i]; done) | (simp [b2i]; omega), BX, HB⟩
        case measure => simp [intOf]
      · rw [hv] at hcell
        have hw : IntKind.i64.wrap (u + 1) = u + 1 := IntWalk.i64_in _ ⟨by omega, by omega⟩
        go_wp2
        go_roundw
        case rel => exact ⟨2, _, by omega, rfl, rfl, by rw [hnx.out, hv]; (try rw [hu]); first | rfl | (simp [b2i]; done) | (simp [b2i]; omega), BX, HB⟩
        case measure => simp [intOf]
    · have hcell : wr.cell? ⟨w.heap.size, 2, none⟩ = some (.bool c) := (blk_cell BX.out 2).trans rfl
      rw [show cntF 2 a b c d = b2i a + b2i b from rfl] at hu
      have hnx : cntF 3 a b c d = b2i a + b2i b + b2i c := rfl
      replace hnx := Aside0.mk hnx
      have hr1 := b2i_range a
      have hr2 := b2i_range b
      have hr3 := b2i_range c
      have hr4 := b2i_range d
      rcases Bool.eq_false_or_eq_true c with hv | hv
      · rw [hv] at hcell
        have hw : IntKind.i64.wrap (u + 1) = u + 1 := IntWalk.i64_in _ ⟨by omega, by omega⟩
        go_wp2
        go_roundw
        case rel => exact ⟨3, _, by omega, rfl, rfl, by rw [hnx.out, hv]; (try rw [hu]); first | rfl | (simp [b2i]; done) | (simp [b2i]; omega), BX, HB⟩
        case measure => simp [intOf]
      · rw [hv] at hcell
        have hw : IntKind.i64.wrap (u + 1) = u + 1 := IntWalk.i64_in _ ⟨by omega, by omega⟩
        go_wp2
        go_roundw
        case rel => exact ⟨3, _, by omega, rfl, rfl, by rw [hnx.out, hv]; (try rw [hu]); first | rfl | (simp [b2i]; done) | (simp [b2i]; omega), BX, HB⟩
        case measure => simp [intOf]
    · have hcell : wr.cell? ⟨w.heap.size, 3, none⟩ = some (.bool d) := (blk_cell BX.out 3).trans rfl
      rw [show cntF 3 a b c d = b2i a + b2i b + b2i c from rfl] at hu
      have hnx : cntF 4 a b c d = b2i a + b2i b + b2i c + b2i d := rfl
      replace hnx := Aside0.mk hnx
      have hr1 := b2i_range a
      have hr2 := b2i_range b
      have hr3 := b2i_range c
      have hr4 := b2i_range d
      rcases Bool.eq_false_or_eq_true d with hv | hv
      · rw [hv] at hcell
        have hw : IntKind.i64.wrap (u + 1) = u + 1 := IntWalk.i64_in _ ⟨by omega, by omega⟩
        go_wp2
        go_roundw
        case rel => exact ⟨4, _, by omega, rfl, rfl, by rw [hnx.out, hv]; (try rw [hu]); first | rfl | (simp [b2i]; done) | (simp [b2i]; omega), BX, HB⟩
        case measure => simp [intOf]
      · rw [hv] at hcell
        have hw : IntKind.i64.wrap (u + 1) = u + 1 := IntWalk.i64_in _ ⟨by omega, by omega⟩
        go_wp2
        go_roundw
        case rel => exact ⟨4, _, by omega, rfl, rfl, by rw [hnx.out, hv]; (try rw [hu]); first | rfl | (simp [b2i]; done) | (simp [b2i]; omega), BX, HB⟩
        case measure => simp [intOf]
    · have hself : e4 a b c d a b c d = true := by simp [e4]
      have hx0 : wr.cell? ⟨w.heap.size, 0, none⟩ = some (.bool a) := (blk_cell BX.out 0).trans rfl
      have hx1 : wr.cell? ⟨w.heap.size, 1, none⟩ = some (.bool b) := (blk_cell BX.out 1).trans rfl
      have hx2 : wr.cell? ⟨w.heap.size, 2, none⟩ = some (.bool c) := (blk_cell BX.out 2).trans rfl
      have hx3 : wr.cell? ⟨w.heap.size, 3, none⟩ = some (.bool d) := (blk_cell BX.out 3).trans rfl
      have HF := back_four k l
      have hRk := back_rank a b c d
      rw [← hu] at hRk
      replace hu := Aside0.mk hu
      obtain ⟨n, er, hne⟩ : ∃ n er, rk0 a b c d = (n, er) := ⟨_, _, rfl⟩
      have HRK := Aside0.mk hne
      rw [hne] at hRk
      clear hne
      obtain ⟨y0, HY0_⟩ : ∃ y0, fa n = y0 := ⟨_, rfl⟩
      have HY0 := Aside0.mk HY0_
      clear HY0_
      obtain ⟨y1, HY1_⟩ : ∃ y1, fb n = y1 := ⟨_, rfl⟩
      have HY1 := Aside0.mk HY1_
      clear HY1_
      obtain ⟨y2, HY2_⟩ : ∃ y2, fc n = y2 := ⟨_, rfl⟩
      have HY2 := Aside0.mk HY2_
      clear HY2_
      obtain ⟨y3, HY3_⟩ : ∃ y3, fd n = y3 := ⟨_, rfl⟩
      have HY3 := Aside0.mk HY3_
      clear HY3_
      obtain ⟨ye, HYE_⟩ : ∃ ye, ge_ n = ye := ⟨_, rfl⟩
      have HYE := Aside0.mk HYE_
      clear HYE_
      obtain ⟨a1, HA1_⟩ : ∃ a1, fa k = a1 := ⟨_, rfl⟩
      have HA1 := Aside0.mk HA1_
      clear HA1_
      obtain ⟨b1, HB1_⟩ : ∃ b1, fb k = b1 := ⟨_, rfl⟩
      have HB1 := Aside0.mk HB1_
      clear HB1_
      obtain ⟨c1, HC1_⟩ : ∃ c1, fc k = c1 := ⟨_, rfl⟩
      have HC1 := Aside0.mk HC1_
      clear HC1_
      obtain ⟨d1, HD1_⟩ : ∃ d1, fd k = d1 := ⟨_, rfl⟩
      have HD1 := Aside0.mk HD1_
      clear HD1_
      obtain ⟨g1, HG1_⟩ : ∃ g1, ge_ k = g1 := ⟨_, rfl⟩
      have HG1 := Aside0.mk HG1_
      clear HG1_
      obtain ⟨a2, HA2_⟩ : ∃ a2, fa l = a2 := ⟨_, rfl⟩
      have HA2 := Aside0.mk HA2_
      clear HA2_
      obtain ⟨b2, HB2_⟩ : ∃ b2, fb l = b2 := ⟨_, rfl⟩
      have HB2 := Aside0.mk HB2_
      clear HB2_
      obtain ⟨c2, HC2_⟩ : ∃ c2, fc l = c2 := ⟨_, rfl⟩
      have HC2 := Aside0.mk HC2_
      clear HC2_
      obtain ⟨d2, HD2_⟩ : ∃ d2, fd l = d2 := ⟨_, rfl⟩
      have HD2 := Aside0.mk HD2_
      clear HD2_
      obtain ⟨g2, HG2_⟩ : ∃ g2, ge_ l = g2 := ⟨_, rfl⟩
      have HG2 := Aside0.mk HG2_
      clear HG2_
      rw [HA1.out, HB1.out, HC1.out, HD1.out, HA2.out, HB2.out, HC2.out, HD2.out, HG1.out, HG2.out] at HF
      have hRk2 : (er = 0 ∧ u = 2 ∧ ye = 0 ∧ e4 y0 y1 y2 y3 a b c d = true) ∨ (er = 14 ∧ (¬ u = 2 ∧ (u == 2) = false) ∧ n = 0) := by
        rcases hRk with ⟨n', h1, h2, h3, h4, h5, h6, h7⟩ | ⟨h1, h2⟩
        · injection h1 with h8 h9
          subst h8
          have e0 := HY0.out.symm.trans h3
          have e1 := HY1.out.symm.trans h4
          have e2 := HY2.out.symm.trans h5
          have e3 := HY3.out.symm.trans h6
          have e5 := HYE.out.symm.trans h7
          exact .inl ⟨h9, h2, e5, by rw [e0, e1, e2, e3]; exact hself⟩
        · injection h1 with h8 h9
          exact .inr ⟨h9, ⟨by simpa using h2, h2⟩, h8⟩
      clear hRk hself
      have HF2 : (g1 = 0 ∧ g2 = 0 ∧ decide (0 ≤ k) = true ∧ decide (k ≤ 5) = true ∧ ((e4 a1 b1 c1 d1 a2 b2 c2 d2 = true ∧ k = l) ∨ (e4 a1 b1 c1 d1 a2 b2 c2 d2 = false ∧ ¬ k = l ∧ (k == l) = false))) ∨
          (g1 = 0 ∧ g2 = 1 ∧ decide (0 ≤ k) = true ∧ decide (k ≤ 5) = true) ∨ (g1 = 1 ∧ decide (0 ≤ k) = false) ∨ (g1 = 1 ∧ decide (0 ≤ k) = true ∧ decide (k ≤ 5) = false) := by
        rcases HF with ⟨h1, h2, h3, h4, ⟨h5, h6⟩ | ⟨h5, h6⟩⟩ | ⟨h1, h2, q⟩ | ⟨h1, q⟩ | ⟨h1, q⟩
        · exact .inl ⟨h1, h2, h3, h4, .inl ⟨h5, eq_of_beq h6⟩⟩
        · exact .inl ⟨h1, h2, h3, h4, .inr ⟨h5, by simpa using h6, h6⟩⟩
        · exact .inr (.inl ⟨h1, h2, q⟩)
        · exact .inr (.inr (.inl ⟨h1, q⟩))
        · exact .inr (.inr (.inr ⟨h1, q⟩))
      clear HF
      rcases hRk2 with ⟨rfl, rfl, rfl, p4⟩ | ⟨rfl, ⟨p2, p3⟩, rfl⟩ <;> rcases HF2 with ⟨rfl, rfl, q1, q2, ⟨q3, rfl⟩ | ⟨q3, q4, q5⟩⟩ | ⟨rfl, rfl, q1, q2⟩ | ⟨rfl, q1⟩ | ⟨rfl, q1, q2⟩
      all_goals
        go_wp2_with (first | ((with_reducible refine gate_callee (f := 30) rfl ?_); refine goesL_ (some 28) rfl rfl Try.func30 (by kernel_rfl) rfl #[.agg #[.bool a, .bool b, .bool c, .bool d]] rfl (by (try simp only [List.map_toArray, List.map_cons, List.map_nil]); first | done | rfl) ?_; (refine (order_Rank_calls _ _ _ _ _ _ _ HRK.out).mono ?_); rintro e w1 ⟨rfl, hb⟩; refine ⟨_, rfl, ?_⟩; have mBX_ := Aside0.mk (blk_below BX.out hb); clear BX; have BX := mBX_; clear mBX_; have mH_ := Aside0.mk (below_step HB.out hb); clear HB hb; have HB := mH_; clear mH_) | ((with_reducible refine gate_callee (f := 31) rfl ?_); refine goesL_ (some 33) rfl rfl Try.func31 (by kernel_rfl) rfl #[.int .i64 _] rfl (by (try simp only [List.map_toArray, List.map_cons, List.map_nil]); first | done | rfl) ?_; (refine (Four_v _ _ _ _ _ _ _ HY0.out HY1.out HY2.out HY3.out HYE.out).mono ?_); rintro e w2 ⟨rfl, hb⟩; refine ⟨_, rfl, ?_⟩; have mBX_ := Aside0.mk (blk_alloc (blk_below BX.out hb) (.cells #[.bool y0, .bool y1, .bool y2, .bool y3] 45 (0, 0))); clear BX; have BX := mBX_; clear mBX_; have mH_ := Aside0.mk (below_alloc (below_step HB.out hb) (.cells #[.bool y0, .bool y1, .bool y2, .bool y3] 45 (0, 0))); clear HB hb; have HB := mH_; clear mH_; have BY := Aside0.mk (blk_new w2 (.cells #[.bool y0, .bool y1, .bool y2, .bool y3] 45 (0, 0))); have hy0_0 : (w2.alloc (.cells #[.bool y0, .bool y1, .bool y2, .bool y3] 45 (0, 0))).cell? ⟨w.heap.size, 0, none⟩ = some (.bool a) := (blk_cell BX.out 0).trans rfl; have hy0_1 : (w2.alloc (.cells #[.bool y0, .bool y1, .bool y2, .bool y3] 45 (0, 0))).cell? ⟨w.heap.size, 1, none⟩ = some (.bool b) := (blk_cell BX.out 1).trans rfl; have hy0_2 : (w2.alloc (.cells #[.bool y0, .bool y1, .bool y2, .bool y3] 45 (0, 0))).cell? ⟨w.heap.size, 2, none⟩ = some (.bool c) := (blk_cell BX.out 2).trans rfl; have hy0_3 : (w2.alloc (.cells #[.bool y0, .bool y1, .bool y2, .bool y3] 45 (0, 0))).cell? ⟨w.heap.size, 3, none⟩ = some (.bool d) := (blk_cell BX.out 3).trans rfl; have hy1_0 : (w2.alloc (.cells #[.bool y0, .bool y1, .bool y2, .bool y3] 45 (0, 0))).cell? ⟨w2.heap.size, 0, none⟩ = some (.bool y0) := (blk_cell BY.out 0).trans rfl; have hy1_1 : (w2.alloc (.cells #[.bool y0, .bool y1, .bool y2, .bool y3] 45 (0, 0))).cell? ⟨w2.heap.size, 1, none⟩ = some (.bool y1) := (blk_cell BY.out 1).trans rfl; have hy1_2 : (w2.alloc (.cells #[.bool y0, .bool y1, .bool y2, .bool y3] 45 (0, 0))).cell? ⟨w2.heap.size, 2, none⟩ = some (.bool y2) := (blk_cell BY.out 2).trans rfl; have hy1_3 : (w2.alloc (.cells #[.bool y0, .bool y1, .bool y2, .bool y3] 45 (0, 0))).cell? ⟨w2.heap.size, 3, none⟩ = some (.bool y3) := (blk_cell BY.out 3).trans rfl) | ((with_reducible refine gate_callee (f := 31) rfl ?_); refine goesL_ (some 64) rfl rfl Try.func31 (by kernel_rfl) rfl #[.int .i64 k] rfl (by (try simp only [List.map_toArray, List.map_cons, List.map_nil]); first | done | rfl) ?_; (refine (Four_v k _ _ _ _ _ _ HA1.out HB1.out HC1.out HD1.out HG1.out).mono ?_); rintro e w3 ⟨rfl, hb⟩; clear BX BY; refine ⟨_, rfl, ?_⟩; (try clear hy0_0 hy0_1 hy0_2 hy0_3 hy1_0 hy1_1 hy1_2 hy1_3); have mH_ := Aside0.mk (below_alloc (below_step HB.out hb) (.cells #[.bool a1, .bool b1, .bool c1, .bool d1] 45 (0, 0))); clear HB hb; have HB := mH_; clear mH_; have B13 := Aside0.mk (blk_new w3 (.cells #[.bool a1, .bool b1, .bool c1, .bool d1] 45 (0, 0)))) | ((with_reducible refine gate_callee (f := 31) rfl ?_); refine goesL_ (some 69) rfl rfl Try.func31 (by kernel_rfl) rfl #[.int .i64 _] rfl (by (try simp only [List.map_toArray, List.map_cons, List.map_nil]); first | done | rfl) ?_; (refine (Four_v _ _ _ _ _ _ _ HA2.out HB2.out HC2.out HD2.out HG2.out).mono ?_); rintro e w4 ⟨rfl, hb⟩; refine ⟨_, rfl, ?_⟩; have mB13_ := Aside0.mk (blk_alloc (blk_below B13.out hb) (.cells #[.bool a2, .bool b2, .bool c2, .bool d2] 45 (0, 0))); clear B13; have B13 := mB13_; clear mB13_; have mH_ := Aside0.mk (below_alloc (below_step HB.out hb) (.cells #[.bool a2, .bool b2, .bool c2, .bool d2] 45 (0, 0))); clear HB hb; have HB := mH_; clear mH_; have B15 := Aside0.mk (blk_new w4 (.cells #[.bool a2, .bool b2, .bool c2, .bool d2] 45 (0, 0)))) | ((with_reducible refine gate_callee (f := 32) rfl ?_); refine goesL_ (some 72) rfl rfl Try.func32 (by kernel_rfl) rfl #[] rfl (by (try simp only [List.map_toArray, List.map_cons, List.map_nil]); first | done | rfl) ?_; (refine (ordered_calls _).mono ?_); rintro e w5 ⟨rfl, hb⟩; refine ⟨_, rfl, ?_⟩; have mB13_ := Aside0.mk (blk_below B13.out hb); clear B13; have B13 := mB13_; clear mB13_; have mB15_ := Aside0.mk (blk_below B15.out hb); clear B15; have B15 := mB15_; clear mB15_; have mH_ := Aside0.mk (below_step HB.out hb); clear HB hb; have HB := mH_; clear mH_; have hy2_0 : w5.cell? ⟨w3.heap.size, 0, none⟩ = some (.bool a1) := (blk_cell B13.out 0).trans rfl; have hy2_1 : w5.cell? ⟨w3.heap.size, 1, none⟩ = some (.bool b1) := (blk_cell B13.out 1).trans rfl; have hy2_2 : w5.cell? ⟨w3.heap.size, 2, none⟩ = some (.bool c1) := (blk_cell B13.out 2).trans rfl; have hy2_3 : w5.cell? ⟨w3.heap.size, 3, none⟩ = some (.bool d1) := (blk_cell B13.out 3).trans rfl; have hy3_0 : w5.cell? ⟨w4.heap.size, 0, none⟩ = some (.bool a2) := (blk_cell B15.out 0).trans rfl; have hy3_1 : w5.cell? ⟨w4.heap.size, 1, none⟩ = some (.bool b2) := (blk_cell B15.out 1).trans rfl; have hy3_2 : w5.cell? ⟨w4.heap.size, 2, none⟩ = some (.bool c2) := (blk_cell B15.out 2).trans rfl; have hy3_3 : w5.cell? ⟨w4.heap.size, 3, none⟩ = some (.bool d2) := (blk_cell B15.out 3).trans rfl))
        go_ret
        exact ⟨rfl, HB.out⟩

open Classical in
/-- The law OrderBack, as the walk needs it. -/
noncomputable def pacemakerlaw07_OrderBack.f (_q : Nat) (_a _b _c _d : Bool) (_k _l : Int) : Option Bool := some true
theorem pacemakerlaw07_OrderBack.calls (q : Nat) (a b c d : Bool) (k l : Int) (r : Bool) (w : World) (HT : Aside0 (r = true)) (_h : pacemakerlaw07_OrderBack.f q a b c d k l = some r) :
    Calls Try.prog 8 #[.agg #[.bool a, .bool b, .bool c, .bool d], .int .i64 k, .int .i64 l] w fun e w' => e = .returned (.bool r) ∧ Below w.heap.size w w' := by
  obtain rfl := HT.out
  exact back_walk a b c d k l w
end Go.Proofs.Ytjiogchafnpkhaa.D
