import Derived.Test.YtocdpfdnnijdkaaG8
namespace Go.Proofs.Ytocdpfdnnijdkaa.G
open Go.RowKit Go.Proofs.YtocdpfdnnijdkaaW.PrintWords Go.Proofs.YtocdpfdnnijdkaaW.PrintLast Go.Proofs.YtocdpfdnnijdkaaW.PrintMore
attribute [local go_sem] max2_int min2_int max_two min_two max_three min_three max_four min_four
attribute [local go_sem] Go.Proofs.YtocdpfdnnijdkaaS.cell_set_map Go.Proofs.YtocdpfdnnijdkaaS.setCell_drewN
set_option linter.unusedVariables false
set_option linter.unusedSimpArgs false
attribute [local go_sem] eq24
/-- All entries are of one event. -/
def allX (x : S24) (l : List S60) : Prop := ∀ y ∈ l, y.f0 = x.f0 ∧ y.f1 = x.f1 ∧ y.f2 = x.f2 ∧ y.f3 = x.f3
theorem getD_mem {l : List S60} {i : Nat} (h : i < l.length) : l[i]?.getD default ∈ l := List.mem_of_getElem? (getD_get h)
theorem swL_mem {l : List S60} {i j : Nat} {y : S60} (hi : i < l.length) (hj : j < l.length) (h : y ∈ swL l i j) : y ∈ l := by
  unfold swL at h
  rcases List.mem_or_eq_of_mem_set h with h | h
  · rcases List.mem_or_eq_of_mem_set h with h | h
    · exact h
    · exact h ▸ getD_mem hj
  · exact h ▸ getD_mem hi
theorem upF_mem : ∀ (f : Nat) (l : List S60) (i : Nat) (y : S60), i < l.length → y ∈ upF l f i → y ∈ l
  | 0, _, _, _, _, h => h
  | f + 1, l, i, y, hi, h => by
    unfold upF at h
    split at h
    · exact h
    · split at h
      · have h1 := upF_mem f _ _ _ (by rw [swL_length]; omega) h
        exact swL_mem (by omega) hi h1
      · exact h
theorem putL_mem {l : List S60} {x y : S60} (h : y ∈ putL l x) : y ∈ l ∨ y = x := by
  unfold putL at h
  have h1 := upF_mem _ _ _ _ (by simp) h
  rcases List.mem_append.1 h1 with h1 | h1
  · exact .inl h1
  · exact .inr (List.mem_singleton.1 h1)
theorem allX_put {x : S24} {l : List S60} (h : allX x l) (n : Int) : allX x (putL l ⟨x.f0, x.f1, x.f2, x.f3, n⟩) := by
  intro y hy
  rcases putL_mem hy with hy | rfl
  · exact h y hy
  · exact ⟨rfl, rfl, rfl, rfl⟩
theorem allX_first {x : S24} {l : List S60} (h : allX x l) (hl : 0 < l.length) : ∃ k, l[0]? = some (⟨x.f0, x.f1, x.f2, x.f3, k⟩ : S60) := by
  refine ⟨(l[0]'hl).f4, ?_⟩
  rw [List.getElem?_eq_getElem hl]
  have h1 := h _ (List.getElem_mem hl)
  generalize l[0]'hl = y at *
  obtain ⟨a, b, c, d, e⟩ := y
  obtain ⟨h2, h3, h4, h5⟩ := h1
  dsimp only at h2 h3 h4 h5
  subst h2 h3 h4 h5
  rfl
set_option maxHeartbeats 8000000 in
set_option maxRecDepth 100000 in
theorem full_bad (most : Int) (x : S24) (w : World) (hbad : most < 1 ∨ 65536 < most) : Calls Try.prog 3 #[.int .i64 most, .agg #[.int .i64 x.f0, .int .i64 x.f1, .int .i64 x.f2, .int .u64 x.f3]] w fun e w' => e = .returned (.bool true) ∧ Below w.heap.size w w' := by
  have hu24 := Try.underlying24
  have HB := Aside0.mk (Below.refl w.heap.size w)
  go_enter Try.func3, Try.ntmps3
  go_wp2_with (first | ((with_reducible refine gate_dst (N := 3) rfl ?_); refine box_event ?hg (N := 3) ?hd (cs := #[.int .i64 x.f0, .int .i64 x.f1, .int .i64 x.f2, .int .u64 x.f3]) (t := 24) ?hr ?_; (case hd => rfl); (case hg => rfl); (case hr => first | (go_simp; done) | (go_simp; rfl)); intro g_BX hg u1_ hbox hb; have GE_BX : Aside0 (w.heap.size ≤ g_BX) := ⟨by rw [hg]; exact HB.out.size⟩; have n_HB := Aside0.mk (below_step HB.out hb); clear HB; have HB := n_HB; clear n_HB; have BX := Aside0.mk hbox; clear hbox hb hg) | ((with_reducible refine gate_callee (f := 7) rfl ?_); refine goesL_ (some 14) rfl rfl Try.func7 (by kernel_rfl) rfl #[.int .i64 most] rfl (by (try simp only [List.map_toArray, List.map_cons, List.map_nil]); first | done | rfl) ?_; (refine (New_bad most _ hbad).mono ?_); rintro e u2_ ⟨rfl, hb⟩; refine ⟨_, rfl, ?_⟩; have n_HB := Aside0.mk (below_step HB.out hb); have n_BX := Aside0.mk (blk_below BX.out hb); clear HB BX; have HB := n_HB; have BX := n_BX; clear n_HB n_BX; clear hb) | ((with_reducible refine gate_callee (f := 8) rfl ?_); refine goesL_ (some 23) rfl rfl Try.func8 (by kernel_rfl) rfl #[] rfl (by (try simp only [List.map_toArray, List.map_cons, List.map_nil]); first | done | rfl) ?_; (refine (noted_v _).mono ?_); rintro e u3_ ⟨rfl, hb⟩; refine ⟨_, rfl, ?_⟩; have n_HB := Aside0.mk (below_step HB.out hb); have n_BX := Aside0.mk (blk_below BX.out hb); clear HB BX; have HB := n_HB; have BX := n_BX; clear n_HB n_BX; clear hb))
  go_ret
  exact ⟨rfl, HB.out⟩
set_option maxHeartbeats 8000000 in
set_option maxRecDepth 100000 in
theorem full_many (most : Int) (x : S24) (w : World) (hm1 : 1 ≤ most) (hm2 : most ≤ 65536) (hm3 : 200 < most) : Calls Try.prog 3 #[.int .i64 most, .agg #[.int .i64 x.f0, .int .i64 x.f1, .int .i64 x.f2, .int .u64 x.f3]] w fun e w' => e = .returned (.bool true) ∧ Below w.heap.size w w' := by
  have hu24 := Try.underlying24
  have p1 : decide (200 < most) = true := decide_eq_true hm3
  have HB := Aside0.mk (Below.refl w.heap.size w)
  go_enter Try.func3, Try.ntmps3
  go_wp2_with (first | ((with_reducible refine gate_dst (N := 3) rfl ?_); refine box_event ?hg (N := 3) ?hd (cs := #[.int .i64 x.f0, .int .i64 x.f1, .int .i64 x.f2, .int .u64 x.f3]) (t := 24) ?hr ?_; (case hd => rfl); (case hg => rfl); (case hr => first | (go_simp; done) | (go_simp; rfl)); intro g_BX hg u1_ hbox hb; have GE_BX : Aside0 (w.heap.size ≤ g_BX) := ⟨by rw [hg]; exact HB.out.size⟩; have n_HB := Aside0.mk (below_step HB.out hb); clear HB; have HB := n_HB; clear n_HB; have BX := Aside0.mk hbox; clear hbox hb hg) | ((with_reducible refine gate_callee (f := 7) rfl ?_); refine goesL_ (some 14) rfl rfl Try.func7 (by kernel_rfl) rfl #[.int .i64 most] rfl (by (try simp only [List.map_toArray, List.map_cons, List.map_nil]); first | done | rfl) ?_; (refine (New_v most _ hm1 hm2).mono ?_); rintro e u2_ ⟨g, rfl, hg0, ha, hb⟩; refine ⟨_, rfl, ?_⟩; have n_B := Aside0.mk (below_step HB.out hb); have HA : Aside0 (AGX w.heap.size u2_ g (.slice none 0 0) [] most 0) := ⟨⟨ha, Nat.le_trans HB.out.size hg0, fun k hk => by simp [Value.ownBlock] at hk⟩⟩; have n_BX := Aside0.mk (blk_below BX.out hb); have NB_BX : Aside0 (NBX g (.slice none 0 0) g_BX) := ⟨⟨Nat.ne_of_gt (Nat.lt_of_lt_of_le (blk_lt BX.out) hg0), fun k hk => by simp [Value.ownBlock] at hk⟩⟩; clear BX; have BX := n_BX; clear n_BX; clear HB ha hg0 hb; have HB := n_B; clear n_B) | ((with_reducible refine gate_callee (f := 8) rfl ?_); refine goesL_ (some 23) rfl rfl Try.func8 (by kernel_rfl) rfl #[] rfl (by (try simp only [List.map_toArray, List.map_cons, List.map_nil]); first | done | rfl) ?_; (refine (noted_v _).mono ?_); rintro e u3_ ⟨rfl, hb⟩; refine ⟨_, rfl, ?_⟩; have n_HB := Aside0.mk (below_step HB.out hb); have n_HA := Aside0.mk (AGX_below HA.out hb); have n_BX := Aside0.mk (blk_below BX.out hb); clear HB HA BX; have HB := n_HB; have HA := n_HA; have BX := n_BX; clear n_HB n_HA n_BX; clear hb))
  go_ret
  exact ⟨rfl, HB.out⟩
set_option maxHeartbeats 8000000 in
set_option maxRecDepth 100000 in
theorem full_ok (most : Int) (x : S24) (w : World) (hm1 : 1 ≤ most) (hm3 : most ≤ 200) : Calls Try.prog 3 #[.int .i64 most, .agg #[.int .i64 x.f0, .int .i64 x.f1, .int .i64 x.f2, .int .u64 x.f3]] w fun e w' => e = .returned (.bool true) ∧ Below w.heap.size w w' := by
  have hu24 := Try.underlying24
  have hm2 : most ≤ 65536 := by omega
  have p1 : decide (200 < most) = false := decide_eq_false (by omega)
  have HB := Aside0.mk (Below.refl w.heap.size w)
  go_enter Try.func3, Try.ntmps3
  go_wp2_with (first | ((with_reducible refine gate_dst (N := 3) rfl ?_); refine box_event ?hg (N := 3) ?hd (cs := #[.int .i64 x.f0, .int .i64 x.f1, .int .i64 x.f2, .int .u64 x.f3]) (t := 24) ?hr ?_; (case hd => rfl); (case hg => rfl); (case hr => first | (go_simp; done) | (go_simp; rfl)); intro g_BX hg u1_ hbox hb; have GE_BX : Aside0 (w.heap.size ≤ g_BX) := ⟨by rw [hg]; exact HB.out.size⟩; have n_HB := Aside0.mk (below_step HB.out hb); clear HB; have HB := n_HB; clear n_HB; have BX := Aside0.mk hbox; clear hbox hb hg) | ((with_reducible refine gate_callee (f := 7) rfl ?_); refine goesL_ (some 14) rfl rfl Try.func7 (by kernel_rfl) rfl #[.int .i64 most] rfl (by (try simp only [List.map_toArray, List.map_cons, List.map_nil]); first | done | rfl) ?_; (refine (New_v most _ hm1 hm2).mono ?_); rintro e u2_ ⟨g, rfl, hg0, ha, hb⟩; refine ⟨_, rfl, ?_⟩; have n_B := Aside0.mk (below_step HB.out hb); have HA : Aside0 (AGX w.heap.size u2_ g (.slice none 0 0) [] most 0) := ⟨⟨ha, Nat.le_trans HB.out.size hg0, fun k hk => by simp [Value.ownBlock] at hk⟩⟩; have n_BX := Aside0.mk (blk_below BX.out hb); have NB_BX : Aside0 (NBX g (.slice none 0 0) g_BX) := ⟨⟨Nat.ne_of_gt (Nat.lt_of_lt_of_le (blk_lt BX.out) hg0), fun k hk => by simp [Value.ownBlock] at hk⟩⟩; clear BX; have BX := n_BX; clear n_BX; clear HB ha hg0 hb; have HB := n_B; clear n_B))
  have HGG := Aside0.mk HA.out.2.1
  have HGE := Aside0.mk GE_BX.out
  go_loopw [7] (fun v7 wr => ∃ (i : Nat) (v : Value) (l : List S60), (i : Int) ≤ most ∧ v7 = .int .i64 (i : Int) ∧ Aside0 (l.length = i ∧ allX x l) ∧ Aside0 (AGX w.heap.size wr g v l most (i : Int)) ∧ Aside0 (NBX g v g_BX) ∧ Aside0 (wr.heap[g_BX]? = some (.cells #[.int .i64 x.f0, .int .i64 x.f1, .int .i64 x.f2, .int .u64 x.f3] 24 (0, 0))) ∧ Aside0 (Below w.heap.size w wr)) (fun v7 _ => (most - intOf v7).toNat)
  case atStart => exact ⟨0, _, [], by omega, rfl, ⟨rfl, fun y hy => by cases hy⟩, HA, NB_BX, BX, HB⟩
  case round =>
    clear HA NB_BX BX HB
    obtain ⟨i, v, l, hi, rfl, HI, HA, NB_BX, BX, HB⟩ := hrel
    have hli := HI.out.1
    by_cases hlt : (i : Int) < most
    · have hlen : ((putL l (⟨x.f0, x.f1, x.f2, x.f3, (i : Int)⟩ : S60)).length : Int) = (i : Int) + 1 := by rw [putL_length, hli]; omega
      go_wp2_with (first | ((with_reducible refine gate_dst (N := 38) rfl ?_); refine load_event 24 (.tmp 3) rfl rfl rfl BX.out Try.underlying24 rfl (by kernel_rfl) ?_) | ((with_reducible refine gate_callee (f := 9) rfl ?_); refine goesL_ (some 39) rfl rfl Try.func9 (by kernel_rfl) rfl #[.pointer (some ⟨g, 0, none⟩), .agg #[.int .i64 x.f0, .int .i64 x.f1, .int .i64 x.f2, .int .u64 x.f3]] rfl (by (try simp only [List.map_toArray, List.map_cons, List.map_nil]); first | done | rfl) ?_; (refine (Put_x w.heap.size w g v l (putL l (⟨x.f0, x.f1, x.f2, x.f3, (i : Int)⟩ : S60)) most (i : Int) ((i : Int) + 1) x _ HA.out HB.out HB.out.size (by omega) (by omega) (by omega) (by omega) rfl rfl).mono ?_); rintro e u51_ ⟨v51, rfl, hA, hw_⟩; refine ⟨_, rfl, ?_⟩; have m_BX := Aside0.mk (NBX_step NB_BX.out hw_.2.2 (blk_lt BX.out)); have n_HA := Aside0.mk (hA); have n_HB := Aside0.mk (hw_.1); have n_BX := Aside0.mk (blk_nbx BX.out hw_.2.1 NB_BX.out); clear HA HB BX; have HA := n_HA; have HB := n_HB; have BX := n_BX; clear n_HA n_HB n_BX; clear NB_BX; have NB_BX := m_BX; clear m_BX; clear hA hw_) | ((with_reducible refine gate_callee (f := 10) rfl ?_); refine gate_guard (by rfl) ?_; refine goesL_ (some 43) rfl rfl Try.func10 (by kernel_rfl) rfl #[.pointer (some ⟨g, 0, none⟩)] rfl (by (try simp only [List.map_toArray, List.map_cons, List.map_nil]); first | done | rfl) ?_; (refine (Len_v g v51 (putL l (⟨x.f0, x.f1, x.f2, x.f3, (i : Int)⟩ : S60)) most ((i : Int) + 1) _ HA.out.1).mono ?_); rintro e u52_ ⟨rfl, hb⟩; refine ⟨_, rfl, ?_⟩; have n_HB := Aside0.mk (below_step HB.out hb); have n_HA := Aside0.mk (AGX_below HA.out hb); have n_BX := Aside0.mk (blk_below BX.out hb); clear HB HA BX; have HB := n_HB; have HA := n_HA; have BX := n_BX; clear n_HB n_HA n_BX; clear hb))
      go_roundw
      case rel => exact ⟨i + 1, v51, putL l (⟨x.f0, x.f1, x.f2, x.f3, (i : Int)⟩ : S60), by omega, by go_num, ⟨by rw [putL_length, hli], allX_put HI.out.2 _⟩, HA, NB_BX, BX, HB⟩
      case measure => simp [intOf]; omega
    · have HLM : Aside0 ((l.length : Int) = most) := ⟨by rw [hli]; omega⟩
      obtain ⟨kk, hkk⟩ := allX_first HI.out.2 (by omega)
      have HF := Aside0.mk hkk
      have HT1 : Aside0 ((takeL l).length ≤ 1000000) := ⟨by rw [takeL_length]; omega⟩
      have HT2 : Aside0 (¬ ((takeL l).length : Int) = most) := ⟨by rw [takeL_length]; omega⟩
      have hlen : ((putL (takeL l) (⟨x.f0, x.f1, x.f2, x.f3, (i : Int)⟩ : S60)).length : Int) = most := by rw [putL_length, takeL_length, hli]; omega
      clear hkk
      go_wp2_with (first | ((with_reducible refine gate_dst (N := 49) rfl ?_); refine load_event 24 (.tmp 3) rfl rfl rfl BX.out Try.underlying24 rfl (by kernel_rfl) ?_) | ((with_reducible refine gate_callee (f := 9) rfl ?_); refine goesL_ (some 50) rfl rfl Try.func9 (by kernel_rfl) rfl #[.pointer (some ⟨g, 0, none⟩), .agg #[.int .i64 x.f0, .int .i64 x.f1, .int .i64 x.f2, .int .u64 x.f3]] rfl (by (try simp only [List.map_toArray, List.map_cons, List.map_nil]); first | done | rfl) ?_; (refine (Put_full g v l most (i : Int) x _ HA.out.1 HLM.out).mono ?_); rintro e u71_ ⟨rfl, hb⟩; refine ⟨_, rfl, ?_⟩; have n_HB := Aside0.mk (below_step HB.out hb); have n_HA := Aside0.mk (AGX_below HA.out hb); have n_BX := Aside0.mk (blk_below BX.out hb); clear HB HA BX; have HB := n_HB; have HA := n_HA; have BX := n_BX; clear n_HB n_HA n_BX; clear hb; have hcx := (blk_cell BX.out 0).trans rfl) | ((with_reducible refine gate_callee (f := 11) rfl ?_); refine goesL_ (some 55) rfl rfl Try.func11 (by kernel_rfl) rfl #[.pointer (some ⟨g, 0, none⟩), .int .i64 x.f0] rfl (by (try simp only [List.map_toArray, List.map_cons, List.map_nil]); first | done | rfl) ?_; (refine (Next_x w.heap.size w g v l (takeL l) most (i : Int) x.f0 (⟨x.f0, x.f1, x.f2, x.f3, kk⟩ : S60) _ HA.out HB.out HB.out.size HF.out (Int.le_refl _) (by omega) rfl).mono ?_); rintro e u72_ ⟨v72, rfl, hA, hw_⟩; refine ⟨_, rfl, ?_⟩; have m_BX := Aside0.mk (NBX_step NB_BX.out hw_.2.2 (blk_lt BX.out)); have n_HA := Aside0.mk (hA); have n_HB := Aside0.mk (hw_.1); have n_BX := Aside0.mk (blk_nbx BX.out hw_.2.1 NB_BX.out); clear HA HB BX; have HA := n_HA; have HB := n_HB; have BX := n_BX; clear n_HA n_HB n_BX; clear NB_BX; have NB_BX := m_BX; clear m_BX; clear hA hw_; clear hcx) | ((with_reducible refine gate_dst (N := 9) rfl ?_); refine box_event ?hg (N := 9) ?hd (cs := #[.int .i64 0, .int .i64 0, .int .i64 0, .int .u64 0]) (t := 24) ?hr ?_; (case hd => rfl); (case hg => rfl); (case hr => first | (go_simp; done) | (go_simp; rfl)); intro g_BY hg u73_ hbox hb; have GE_BY : Aside0 (w.heap.size ≤ g_BY) := ⟨by rw [hg]; exact HB.out.size⟩; have NE_BX_BY : Aside0 (g_BX ≠ g_BY) := ⟨by rw [hg]; exact Nat.ne_of_lt (blk_lt BX.out)⟩; have NE_BY_BX : Aside0 (g_BY ≠ g_BX) := ⟨fun e_ => NE_BX_BY.out e_.symm⟩; have NB_BY : Aside0 (NBX g v72 g_BY) := ⟨by rw [hg]; exact NBX_new HA.out⟩; have n_HB := Aside0.mk (below_step HB.out hb); have n_HA := Aside0.mk (AGX_below HA.out hb); have n_BX := Aside0.mk (blk_below BX.out hb); clear HB HA BX; have HB := n_HB; have HA := n_HA; have BX := n_BX; clear n_HB n_HA n_BX; have BY := Aside0.mk hbox; clear hbox hb hg) | ((with_reducible refine gate_store (t := 24) (p := 9) rfl ?_); refine store_event (t := 24) (p := 9) (v := .tmp 56) (w1 := (u73_).setRow g_BY #[.int .i64 x.f0, .int .i64 x.f1, .int .i64 x.f2, .int .u64 x.f3]) ?hg ?ho ?hn ?hr ?_; (case ho => rfl); (case hg => rfl); (case hn => rfl); (case hr => exact run_store_row 24 _ _ _ _ rfl rfl rfl BY.out (by kernel_rfl) rfl (by kernel_rfl)); intro u74_ hw; have n_HB : Aside0 (Below w.heap.size w u74_) := ⟨by rw [hw]; exact below_setRow HB.out GE_BY.out _⟩; have n_BX : Aside0 (u74_.heap[g_BX]? = some (.cells #[.int .i64 x.f0, .int .i64 x.f1, .int .i64 x.f2, .int .u64 x.f3] 24 (0, 0))) := ⟨by rw [hw]; exact blk_rowfar _ BX.out NE_BX_BY.out⟩; have n_BY : Aside0 (u74_.heap[g_BY]? = some (.cells #[.int .i64 x.f0, .int .i64 x.f1, .int .i64 x.f2, .int .u64 x.f3] 24 (0, 0))) := ⟨by rw [hw]; exact blk_row _ BY.out⟩; have n_HA := Aside0.mk (AGX_row (vs := #[.int .i64 x.f0, .int .i64 x.f1, .int .i64 x.f2, .int .u64 x.f3]) HA.out NB_BY.out); rw [← hw] at n_HA; clear hw HA; have HA := n_HA; clear n_HA; have hw := trivial; clear hw HB BX BY; have HB := n_HB; have BX := n_BX; have BY := n_BY; clear n_HB n_BX n_BY) | ((with_reducible refine gate_dst (N := 59) rfl ?_); refine load_event 24 (.tmp 3) rfl rfl rfl BX.out Try.underlying24 rfl (by kernel_rfl) ?_) | ((with_reducible refine gate_callee (f := 9) rfl ?_); refine goesL_ (some 60) rfl rfl Try.func9 (by kernel_rfl) rfl #[.pointer (some ⟨g, 0, none⟩), .agg #[.int .i64 x.f0, .int .i64 x.f1, .int .i64 x.f2, .int .u64 x.f3]] rfl (by (try simp only [List.map_toArray, List.map_cons, List.map_nil]); first | done | rfl) ?_; (refine (Put_x w.heap.size w g v72 (takeL l) (putL (takeL l) (⟨x.f0, x.f1, x.f2, x.f3, (i : Int)⟩ : S60)) most (i : Int) ((i : Int) + 1) x _ HA.out HB.out HB.out.size HT1.out HT2.out (by omega) (by omega) rfl rfl).mono ?_); rintro e u75_ ⟨v75, rfl, hA, hw_⟩; refine ⟨_, rfl, ?_⟩; have m_BX := Aside0.mk (NBX_step NB_BX.out hw_.2.2 (blk_lt BX.out)); have m_BY := Aside0.mk (NBX_step NB_BY.out hw_.2.2 (blk_lt BY.out)); have n_HA := Aside0.mk (hA); have n_HB := Aside0.mk (hw_.1); have n_BX := Aside0.mk (blk_nbx BX.out hw_.2.1 NB_BX.out); have n_BY := Aside0.mk (blk_nbx BY.out hw_.2.1 NB_BY.out); clear HA HB BX BY; have HA := n_HA; have HB := n_HB; have BX := n_BX; have BY := n_BY; clear n_HA n_HB n_BX n_BY; clear NB_BX; have NB_BX := m_BX; clear m_BX; clear NB_BY; have NB_BY := m_BY; clear m_BY; clear hA hw_) | ((with_reducible refine gate_callee (f := 8) rfl ?_); refine goesL_ (some 61) rfl rfl Try.func8 (by kernel_rfl) rfl #[] rfl (by (try simp only [List.map_toArray, List.map_cons, List.map_nil]); first | done | rfl) ?_; (refine (noted_v _).mono ?_); rintro e u76_ ⟨rfl, hb⟩; refine ⟨_, rfl, ?_⟩; have n_HB := Aside0.mk (below_step HB.out hb); have n_HA := Aside0.mk (AGX_below HA.out hb); have n_BX := Aside0.mk (blk_below BX.out hb); have n_BY := Aside0.mk (blk_below BY.out hb); clear HB HA BX BY; have HB := n_HB; have HA := n_HA; have BX := n_BX; have BY := n_BY; clear n_HB n_HA n_BX n_BY; clear hb) | ((with_reducible refine gate_dst (N := 70) rfl ?_); refine gate_guard (by rfl) ?_; refine load_event 24 (.tmp 9) rfl rfl rfl BY.out Try.underlying24 rfl (by kernel_rfl) ?_) | ((with_reducible refine gate_dst (N := 71) rfl ?_); refine gate_guard (by rfl) ?_; refine load_event 24 (.tmp 3) rfl rfl rfl BX.out Try.underlying24 rfl (by kernel_rfl) ?_) | ((with_reducible refine gate_callee (f := 10) rfl ?_); refine gate_guard (by rfl) ?_; refine goesL_ (some 80) rfl rfl Try.func10 (by kernel_rfl) rfl #[.pointer (some ⟨g, 0, none⟩)] rfl (by (try simp only [List.map_toArray, List.map_cons, List.map_nil]); first | done | rfl) ?_; (refine (Len_v g v75 (putL (takeL l) (⟨x.f0, x.f1, x.f2, x.f3, (i : Int)⟩ : S60)) most ((i : Int) + 1) _ HA.out.1).mono ?_); rintro e u77_ ⟨rfl, hb⟩; refine ⟨_, rfl, ?_⟩; have n_HB := Aside0.mk (below_step HB.out hb); have n_HA := Aside0.mk (AGX_below HA.out hb); have n_BX := Aside0.mk (blk_below BX.out hb); have n_BY := Aside0.mk (blk_below BY.out hb); clear HB HA BX BY; have HB := n_HB; have HA := n_HA; have BX := n_BX; have BY := n_BY; clear n_HB n_HA n_BX n_BY; clear hb))
      go_ret
      exact ⟨rfl, HB.out⟩
open Classical in
/-- The law AgendaFull, as the walk needs it. -/
noncomputable def pacemakerlaw29_AgendaFull.f (_q : Nat) (_most _x0 _x1 _x2 _x3 : Int) : Option Bool := some true
theorem pacemakerlaw29_AgendaFull.calls (q : Nat) (most x0 x1 x2 x3 : Int) (r : Bool) (w : World) (HT : Aside0 (r = true)) (_h : pacemakerlaw29_AgendaFull.f q most x0 x1 x2 x3 = some r) :
    Calls Try.prog 3 #[.int .i64 most, .agg #[.int .i64 x0, .int .i64 x1, .int .i64 x2, .int .u64 x3]] w fun e w' => e = .returned (.bool r) ∧ Below w.heap.size w w' := by
  obtain rfl := HT.out
  by_cases h1 : most < 1 ∨ 65536 < most
  · exact full_bad most ⟨x0, x1, x2, x3⟩ w h1
  · by_cases h2 : 200 < most
    · exact full_many most ⟨x0, x1, x2, x3⟩ w (by omega) (by omega) h2
    · exact full_ok most ⟨x0, x1, x2, x3⟩ w (by omega) (by omega)
end Go.Proofs.Ytocdpfdnnijdkaa.G
