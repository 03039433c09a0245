import Derived.Test.YtjiogchafnpkhaaE8
namespace Go.Proofs.Ytjiogchafnpkhaa.D
open Go.RowKit Go.Proofs.YtjiogchafnpkhaaW.PrintWords Go.Proofs.YtjiogchafnpkhaaW.PrintLast Go.Proofs.YtjiogchafnpkhaaW.PrintMore
attribute [local go_sem] max2_int min2_int max_two min_two max_three min_three max_four min_four
attribute [local go_sem] Go.Proofs.YtjiogchafnpkhaaS.cell_set_map Go.Proofs.YtjiogchafnpkhaaS.setCell_drewN
set_option linter.unusedVariables false
set_option linter.unusedSimpArgs false
theorem info22 : (Try.prog.info? 22).map (fun i => (i.zero, i.size, i.bytes)) = some (some (.int .u64 0), 1, 8) := by kernel_rfl
theorem pcg_v (seed stream sp ip : Int) (w : World) (h1 : pcgNew seed (pcgInc stream) = sp) (h2 : pcgInc stream = ip) : Calls Try.prog 17 #[.int .u64 seed, .int .u64 stream] w fun e w' => e = .returned (.agg #[.int .i64 1, .int .u64 sp, .int .u64 ip, .slice none 0 0, .int .i64 0]) ∧ Below w.heap.size w w' := by
  have h := draw_Pcg_calls seed stream w
  rwa [h1, h2] at h
theorem rpcg_v (seed stream sp ip : Int) (w : World) (h1 : pcgNew seed (pcgInc stream) = sp) (h2 : pcgInc stream = ip) : Calls Try.prog 18 #[.int .u64 seed, .int .u64 stream] w fun e w' => e = .returned (.agg #[.int .i64 1, .int .u64 sp, .int .u64 ip, .slice none 0 0, .int .i64 0]) ∧ Below w.heap.size w w' := by
  have h := ref_Pcg_calls seed stream w
  rwa [h1, h2] at h
set_option maxHeartbeats 16000000 in
set_option maxRecDepth 100000 in
theorem does_walk (k st ic at_ : Int) (A : Option Addr) (c : Nat) (l : List Int) (seed stream : Int) (w : World) (hr : Kd.C (Kd.int .u64) w A l.length l) (hc : l.length ≤ c) (hbig : ¬ (l.length : Int) > 2000) (hu : ∀ y ∈ l, 0 ≤ y) (hs : 0 ≤ st ∧ st < 18446744073709551616) :
    Calls Try.prog 3 #[.agg #[.int .i64 k, .int .u64 st, .int .u64 ic, .slice A l.length c, .int .i64 at_], .int .u64 seed, .int .u64 stream] w fun e w' => e = .returned (.bool true) ∧ Below w.heap.size w w' := by
  have HAN : Aside0 (A = none → l.length = 0) := ⟨fun e => by
    subst e
    rcases Nat.eq_zero_or_pos l.length with h0 | h0
    · exact h0
    · obtain ⟨ad, e2, _⟩ := hr.2.2 h0
      exact absurd e2 (by simp)⟩
  have hu23 := Try.underlying23
  have HMX : Aside0 (l.length ≤ 9223372036854775807) := ⟨by omega⟩
  have HLM2 : Aside0 (l.length ≤ 2000) := ⟨by omega⟩
  have hE : ∀ q, q ∈ 22 :: (Kd.int .u64).E → q ≠ 25 := by
    intro q hq
    have : q = 22 := by simpa [Kd.int, Kd.scalar] using hq
    omega
  have hu25 := Try.underlying25
  have hu34 := Try.underlying34
  have HR := Aside0.mk hr
  have HC := Aside0.mk hc
  have HBIG : Aside0 (decide ((l.length : Int) > 2000) = false) := ⟨decide_eq_false (by omega)⟩
  have HLM : Aside0 (l.length < 9223372036854775807) := ⟨by omega⟩
  have HU := Aside0.mk hu
  have HS := Aside0.mk hs
  clear hr hc hbig hu hs
  have B4 := Aside0.mk (blk_new w (.cells #[.int .i64 k, .int .u64 st, .int .u64 ic, .slice A l.length c, .int .i64 at_] 25 (0, 0)))
  have HB := Aside0.mk (below_alloc (Below.refl w.heap.size w) (.cells #[.int .i64 k, .int .u64 st, .int .u64 ic, .slice A l.length c, .int .i64 at_] 25 (0, 0)))
  obtain ⟨x9, HX9_⟩ : ∃ x9, nextX k st l at_ = x9 := ⟨_, rfl⟩
  have HX9 := Aside0.mk HX9_
  clear HX9_
  obtain ⟨st9, HS9_⟩ : ∃ st9, nextSt k st ic = st9 := ⟨_, rfl⟩
  have HS9 := Aside0.mk HS9_
  clear HS9_
  obtain ⟨at9, HA9_⟩ : ∃ at9, nextAt k l at_ = at9 := ⟨_, rfl⟩
  have HA9 := Aside0.mk HA9_
  clear HA9_
  obtain ⟨sp, HSP_⟩ : ∃ sp, pcgNew seed (pcgInc stream) = sp := ⟨_, rfl⟩
  have HSP := Aside0.mk HSP_
  clear HSP_
  obtain ⟨ip, HIP_⟩ : ∃ ip, pcgInc stream = ip := ⟨_, rfl⟩
  have HIP := Aside0.mk HIP_
  clear HIP_
  go_enter Try.func3, Try.ntmps3
  go_wp2_with (first | ((with_reducible refine gate_callee (f := 12) rfl ?_); refine goesL_ (some 14) rfl rfl Try.func12 (by kernel_rfl) rfl #[.agg #[.int .i64 k, .int .u64 st, .int .u64 ic, .slice A l.length c, .int .i64 at_]] rfl (by (try simp only [List.map_toArray, List.map_cons, List.map_nil]); first | done | rfl) ?_; (refine (big_calls k st ic at_ l A c _ (Kd.C_below HR.out HB.out) HC.out false HBIG.out).mono ?_); rintro e w1 ⟨rfl, hb⟩; refine ⟨_, rfl, ?_⟩; have hq0 : w1.cell? ⟨w.heap.size, 0, none⟩ = some (.int .i64 k) := (blk_cell (blk_below B4.out hb) 0).trans rfl; have hq1 : w1.cell? ⟨w.heap.size, 1, none⟩ = some (.int .u64 st) := (blk_cell (blk_below B4.out hb) 1).trans rfl; have hq2 : w1.cell? ⟨w.heap.size, 2, none⟩ = some (.int .u64 ic) := (blk_cell (blk_below B4.out hb) 2).trans rfl; have hq3 : w1.cell? ⟨w.heap.size, 3, none⟩ = some (.slice A l.length c) := (blk_cell (blk_below B4.out hb) 3).trans rfl; have hq4 : w1.cell? ⟨w.heap.size, 4, none⟩ = some (.int .i64 at_) := (blk_cell (blk_below B4.out hb) 4).trans rfl; have NEL := Aside0.mk (blk_lt (blk_below B4.out hb)); have mB4_ := Aside0.mk (blk_alloc (blk_below B4.out hb) (.cells #[.int .i64 k, .int .u64 st, .int .u64 ic, .slice A l.length c, .int .i64 at_] 25 (0, 0))); clear B4; have B4 := mB4_; clear mB4_; have mH_ := Aside0.mk (below_alloc (below_step HB.out hb) (.cells #[.int .i64 k, .int .u64 st, .int .u64 ic, .slice A l.length c, .int .i64 at_] 25 (0, 0))); clear HB hb; have HB := mH_; clear mH_; have B7 := Aside0.mk (blk_new w1 (.cells #[.int .i64 k, .int .u64 st, .int .u64 ic, .slice A l.length c, .int .i64 at_] 25 (0, 0))); have hy0_0 : (w1.alloc (.cells #[.int .i64 k, .int .u64 st, .int .u64 ic, .slice A l.length c, .int .i64 at_] 25 (0, 0))).cell? ⟨w.heap.size, 0, none⟩ = some (.int .i64 k) := (blk_cell B4.out 0).trans rfl; have hy0_1 : (w1.alloc (.cells #[.int .i64 k, .int .u64 st, .int .u64 ic, .slice A l.length c, .int .i64 at_] 25 (0, 0))).cell? ⟨w.heap.size, 1, none⟩ = some (.int .u64 st) := (blk_cell B4.out 1).trans rfl; have hy0_2 : (w1.alloc (.cells #[.int .i64 k, .int .u64 st, .int .u64 ic, .slice A l.length c, .int .i64 at_] 25 (0, 0))).cell? ⟨w.heap.size, 2, none⟩ = some (.int .u64 ic) := (blk_cell B4.out 2).trans rfl; have hy0_3 : (w1.alloc (.cells #[.int .i64 k, .int .u64 st, .int .u64 ic, .slice A l.length c, .int .i64 at_] 25 (0, 0))).cell? ⟨w.heap.size, 3, none⟩ = some (.slice A l.length c) := (blk_cell B4.out 3).trans rfl; have hy0_4 : (w1.alloc (.cells #[.int .i64 k, .int .u64 st, .int .u64 ic, .slice A l.length c, .int .i64 at_] 25 (0, 0))).cell? ⟨w.heap.size, 4, none⟩ = some (.int .i64 at_) := (blk_cell B4.out 4).trans rfl; have hy1_0 : (w1.alloc (.cells #[.int .i64 k, .int .u64 st, .int .u64 ic, .slice A l.length c, .int .i64 at_] 25 (0, 0))).cell? ⟨w1.heap.size, 0, none⟩ = some (.int .i64 k) := (blk_cell B7.out 0).trans rfl; have hy1_1 : (w1.alloc (.cells #[.int .i64 k, .int .u64 st, .int .u64 ic, .slice A l.length c, .int .i64 at_] 25 (0, 0))).cell? ⟨w1.heap.size, 1, none⟩ = some (.int .u64 st) := (blk_cell B7.out 1).trans rfl; have hy1_2 : (w1.alloc (.cells #[.int .i64 k, .int .u64 st, .int .u64 ic, .slice A l.length c, .int .i64 at_] 25 (0, 0))).cell? ⟨w1.heap.size, 2, none⟩ = some (.int .u64 ic) := (blk_cell B7.out 2).trans rfl; have hy1_3 : (w1.alloc (.cells #[.int .i64 k, .int .u64 st, .int .u64 ic, .slice A l.length c, .int .i64 at_] 25 (0, 0))).cell? ⟨w1.heap.size, 3, none⟩ = some (.slice A l.length c) := (blk_cell B7.out 3).trans rfl; have hy1_4 : (w1.alloc (.cells #[.int .i64 k, .int .u64 st, .int .u64 ic, .slice A l.length c, .int .i64 at_] 25 (0, 0))).cell? ⟨w1.heap.size, 4, none⟩ = some (.int .i64 at_) := (blk_cell B7.out 4).trans rfl) | ((with_reducible refine gate_builtin (b := .append) (xs := #[.tmp 16, .tmp 18]) rfl ?_); at_builtin; refine Kd.R_append_rows (Kd.int .u64) (w0 := (w1.alloc (.cells #[.int .i64 k, .int .u64 st, .int .u64 ic, .slice A l.length c, .int .i64 at_] 25 (0, 0)))) (w1.alloc (.cells #[.int .i64 k, .int .u64 st, .int .u64 ic, .slice A l.length c, .int .i64 at_] 25 (0, 0))).heap.size (by rfl) (.tmp 16) (.tmp 18) 23 22 (.int .u64 0) 8 rfl Try.underlying23 info22 rfl (by decide) (by omega) (.slice none 0 0) [] l _ _ _ (fun _ => True) (fun _ => False) rfl rfl (Kd.R_nil _ _ _ _ _) (Kd.C_below HR.out HB.out) (fun _ _ h => h) (fun _ h => h.elim) (fun _ _ => trivial) (Below.refl _ _) (below_size (Below.refl _ _)) (by have h1 := HLM2.out; simp; omega) ?_; intro u1 w3 ho hb hgr hat; clear hgr hat; rw [List.nil_append] at ho; obtain ⟨A9, c9, rfl, hl9, hr9⟩ := Kd.R_reads ho; clear hr9; have L9 := Aside0.mk hl9; clear hl9; have NE : Aside0 (w.heap.size ≠ w1.heap.size) := ⟨by have h_ := NEL.out; omega⟩; have GE : Aside0 (w.heap.size ≤ w1.heap.size) := ⟨by have h_ := NEL.out; omega⟩; have n4_ := Aside0.mk (blk_below B4.out hb); have n7_ := Aside0.mk (blk_below B7.out hb); have nH_ := Aside0.mk (below_step HB.out hb); (try clear hy0_0 hy0_1 hy0_2 hy0_3 hy0_4 hy1_0 hy1_1 hy1_2 hy1_3 hy1_4); have ha0 : w3.cell? ⟨w1.heap.size, 0, none⟩ = some (.int .i64 k) := (blk_cell n7_.out 0).trans rfl; have fa0 := blk_frozen n7_.out 0; have ha1 : w3.cell? ⟨w1.heap.size, 1, none⟩ = some (.int .u64 st) := (blk_cell n7_.out 1).trans rfl; have fa1 := blk_frozen n7_.out 1; have ha2 : w3.cell? ⟨w1.heap.size, 2, none⟩ = some (.int .u64 ic) := (blk_cell n7_.out 2).trans rfl; have fa2 := blk_frozen n7_.out 2; have ha3 : w3.cell? ⟨w1.heap.size, 3, none⟩ = some (.slice A l.length c) := (blk_cell n7_.out 3).trans rfl; have fa3 := blk_frozen n7_.out 3; have ha4 : w3.cell? ⟨w1.heap.size, 4, none⟩ = some (.int .i64 at_) := (blk_cell n7_.out 4).trans rfl; have fa4 := blk_frozen n7_.out 4; have R9 : Aside0 (Kd.C (Kd.int .u64) (w3.setCell ⟨w1.heap.size, 3, none⟩ (.slice A9 l.length c9)) A9 l.length l) := ⟨(Kd.R_reads' (Kd.R_set ho (g := w1.heap.size) n7_.out hE 3 (.slice A9 l.length c9))).2.2⟩; clear B4 B7 HB ho hb; have B4 : Aside0 ((w3.setCell ⟨w1.heap.size, 3, none⟩ (.slice A9 l.length c9)).heap[w.heap.size]? = some (.cells #[.int .i64 k, .int .u64 st, .int .u64 ic, .slice A l.length c, .int .i64 at_] 25 (0, 0))) := ⟨blk_far n4_.out (p := ⟨w1.heap.size, 3, none⟩) NE.out (.slice A9 l.length c9)⟩; have B7 : Aside0 ((w3.setCell ⟨w1.heap.size, 3, none⟩ (.slice A9 l.length c9)).heap[w1.heap.size]? = some (.cells #[.int .i64 k, .int .u64 st, .int .u64 ic, .slice A9 l.length c9, .int .i64 at_] 25 (0, 0))) := ⟨(blk_set n7_.out 3 (.slice A9 l.length c9)).trans (by rfl)⟩; have HB : Aside0 (Below w.heap.size w (w3.setCell ⟨w1.heap.size, 3, none⟩ (.slice A9 l.length c9))) := ⟨below_set nH_.out GE.out⟩; clear n4_ n7_ nH_; have hb4_0 : (w3.setCell ⟨w1.heap.size, 3, none⟩ (.slice A9 l.length c9)).cell? ⟨w.heap.size, 0, none⟩ = some (.int .i64 k) := (blk_cell B4.out 0).trans rfl; have hb4_1 : (w3.setCell ⟨w1.heap.size, 3, none⟩ (.slice A9 l.length c9)).cell? ⟨w.heap.size, 1, none⟩ = some (.int .u64 st) := (blk_cell B4.out 1).trans rfl; have hb4_2 : (w3.setCell ⟨w1.heap.size, 3, none⟩ (.slice A9 l.length c9)).cell? ⟨w.heap.size, 2, none⟩ = some (.int .u64 ic) := (blk_cell B4.out 2).trans rfl; have hb4_3 : (w3.setCell ⟨w1.heap.size, 3, none⟩ (.slice A9 l.length c9)).cell? ⟨w.heap.size, 3, none⟩ = some (.slice A l.length c) := (blk_cell B4.out 3).trans rfl; have hb4_4 : (w3.setCell ⟨w1.heap.size, 3, none⟩ (.slice A9 l.length c9)).cell? ⟨w.heap.size, 4, none⟩ = some (.int .i64 at_) := (blk_cell B4.out 4).trans rfl) | ((with_reducible refine gate_callee (f := 13) rfl ?_); refine goesL_ (some 24) rfl rfl Try.func13 (by kernel_rfl) rfl #[.agg #[.int .i64 k, .int .u64 st, .int .u64 ic, .slice A l.length c, .int .i64 at_]] rfl (by (try simp only [List.map_toArray, List.map_cons, List.map_nil]); first | done | rfl) ?_; (refine (draw_Next_calls k st ic at_ A c l _ (Kd.C_below HR.out HB.out)).mono ?_); rintro e w5 ⟨rfl, hb⟩; rw [HX9.out, HS9.out, HA9.out]; refine ⟨_, rfl, ?_⟩; (try clear hb4_0 hb4_1 hb4_2 hb4_3 hb4_4); have mB4_ := Aside0.mk (blk_alloc (blk_below B4.out hb) (.cells #[.int .i64 k, .int .u64 st9, .int .u64 ic, .slice A l.length c, .int .i64 at9] 25 (0, 0))); clear B4; have B4 := mB4_; clear mB4_; have mB7_ := Aside0.mk (blk_alloc (blk_below B7.out hb) (.cells #[.int .i64 k, .int .u64 st9, .int .u64 ic, .slice A l.length c, .int .i64 at9] 25 (0, 0))); clear B7; have B7 := mB7_; clear mB7_; have mR9_ := Aside0.mk (Kd.C_alloc (Kd.C_below R9.out hb) (.cells #[.int .i64 k, .int .u64 st9, .int .u64 ic, .slice A l.length c, .int .i64 at9] 25 (0, 0))); clear R9; have R9 := mR9_; clear mR9_; have mH_ := Aside0.mk (below_alloc (below_step HB.out hb) (.cells #[.int .i64 k, .int .u64 st9, .int .u64 ic, .slice A l.length c, .int .i64 at9] 25 (0, 0))); clear HB hb; have HB := mH_; clear mH_; have B10 := Aside0.mk (blk_new w5 (.cells #[.int .i64 k, .int .u64 st9, .int .u64 ic, .slice A l.length c, .int .i64 at9] 25 (0, 0))); have hy2_0 : (w5.alloc (.cells #[.int .i64 k, .int .u64 st9, .int .u64 ic, .slice A l.length c, .int .i64 at9] 25 (0, 0))).cell? ⟨w1.heap.size, 0, none⟩ = some (.int .i64 k) := (blk_cell B7.out 0).trans rfl; have hy2_1 : (w5.alloc (.cells #[.int .i64 k, .int .u64 st9, .int .u64 ic, .slice A l.length c, .int .i64 at9] 25 (0, 0))).cell? ⟨w1.heap.size, 1, none⟩ = some (.int .u64 st) := (blk_cell B7.out 1).trans rfl; have hy2_2 : (w5.alloc (.cells #[.int .i64 k, .int .u64 st9, .int .u64 ic, .slice A l.length c, .int .i64 at9] 25 (0, 0))).cell? ⟨w1.heap.size, 2, none⟩ = some (.int .u64 ic) := (blk_cell B7.out 2).trans rfl; have hy2_3 : (w5.alloc (.cells #[.int .i64 k, .int .u64 st9, .int .u64 ic, .slice A l.length c, .int .i64 at9] 25 (0, 0))).cell? ⟨w1.heap.size, 3, none⟩ = some (.slice A9 l.length c9) := (blk_cell B7.out 3).trans rfl; have hy2_4 : (w5.alloc (.cells #[.int .i64 k, .int .u64 st9, .int .u64 ic, .slice A l.length c, .int .i64 at9] 25 (0, 0))).cell? ⟨w1.heap.size, 4, none⟩ = some (.int .i64 at_) := (blk_cell B7.out 4).trans rfl) | ((with_reducible refine gate_callee (f := 14) rfl ?_); refine goesL_ (some 29) rfl rfl Try.func14 (by kernel_rfl) rfl #[.agg #[.int .i64 k, .int .u64 st, .int .u64 ic, .slice A9 l.length c9, .int .i64 at_]] rfl (by (try simp only [List.map_toArray, List.map_cons, List.map_nil]); first | done | rfl) ?_; (refine (ref_Next_calls k st ic at_ A9 c9 l _ R9.out HU.out HS.out).mono ?_); rintro e w6 ⟨rfl, hb⟩; rw [HX9.out, HS9.out, HA9.out]; refine ⟨_, rfl, ?_⟩; (try clear hy2_0 hy2_1 hy2_2 hy2_3 hy2_4); have mB4_ := Aside0.mk (blk_alloc (blk_below B4.out hb) (.cells #[.int .i64 k, .int .u64 st9, .int .u64 ic, .slice A9 l.length c9, .int .i64 at9] 25 (0, 0))); clear B4; have B4 := mB4_; clear mB4_; have mB7_ := Aside0.mk (blk_alloc (blk_below B7.out hb) (.cells #[.int .i64 k, .int .u64 st9, .int .u64 ic, .slice A9 l.length c9, .int .i64 at9] 25 (0, 0))); clear B7; have B7 := mB7_; clear mB7_; have mB10_ := Aside0.mk (blk_alloc (blk_below B10.out hb) (.cells #[.int .i64 k, .int .u64 st9, .int .u64 ic, .slice A9 l.length c9, .int .i64 at9] 25 (0, 0))); clear B10; have B10 := mB10_; clear mB10_; have mR9_ := Aside0.mk (Kd.C_alloc (Kd.C_below R9.out hb) (.cells #[.int .i64 k, .int .u64 st9, .int .u64 ic, .slice A9 l.length c9, .int .i64 at9] 25 (0, 0))); clear R9; have R9 := mR9_; clear mR9_; have mH_ := Aside0.mk (below_alloc (below_step HB.out hb) (.cells #[.int .i64 k, .int .u64 st9, .int .u64 ic, .slice A9 l.length c9, .int .i64 at9] 25 (0, 0))); clear HB hb; have HB := mH_; clear mH_; have B12 := Aside0.mk (blk_new w6 (.cells #[.int .i64 k, .int .u64 st9, .int .u64 ic, .slice A9 l.length c9, .int .i64 at9] 25 (0, 0)))))
  generalize hg7 : w1.heap.size = g7 at *
  generalize w5.heap.size = g10 at *
  generalize w6.heap.size = g12 at *
  generalize w6.alloc (.cells #[.int .i64 k, .int .u64 st9, .int .u64 ic, .slice A9 l.length c9, .int .i64 at9] 25 (0, 0)) = W5 at *
  refine start_ (n := 35) (S := fun w' => (w'.cell? ⟨w.heap.size, 0, none⟩ = some (.int .i64 k) ∧ w'.cell? ⟨w.heap.size, 1, none⟩ = some (.int .u64 st) ∧ w'.cell? ⟨w.heap.size, 2, none⟩ = some (.int .u64 ic) ∧ w'.cell? ⟨w.heap.size, 3, none⟩ = some (.slice A l.length c) ∧ w'.cell? ⟨w.heap.size, 4, none⟩ = some (.int .i64 at_)) ∧ (w'.cell? ⟨g7, 0, none⟩ = some (.int .i64 k) ∧ w'.cell? ⟨g7, 1, none⟩ = some (.int .u64 st) ∧ w'.cell? ⟨g7, 2, none⟩ = some (.int .u64 ic) ∧ w'.cell? ⟨g7, 3, none⟩ = some (.slice A9 l.length c9) ∧ w'.cell? ⟨g7, 4, none⟩ = some (.int .i64 at_)) ∧ (w'.cell? ⟨g10, 0, none⟩ = some (.int .i64 k) ∧ w'.cell? ⟨g10, 1, none⟩ = some (.int .u64 st9) ∧ w'.cell? ⟨g10, 2, none⟩ = some (.int .u64 ic) ∧ w'.cell? ⟨g10, 3, none⟩ = some (.slice A l.length c) ∧ w'.cell? ⟨g10, 4, none⟩ = some (.int .i64 at9)) ∧ (w'.cell? ⟨g12, 0, none⟩ = some (.int .i64 k) ∧ w'.cell? ⟨g12, 1, none⟩ = some (.int .u64 st9) ∧ w'.cell? ⟨g12, 2, none⟩ = some (.int .u64 ic) ∧ w'.cell? ⟨g12, 3, none⟩ = some (.slice A9 l.length c9) ∧ w'.cell? ⟨g12, 4, none⟩ = some (.int .i64 at9))) (ds := []) #[false, false, false, false, false, false, false, false, false, false, false, false, false, false, false, false, false, false, false, false, false, false, false, false, false, false, false, false, false, false, false, false, false, false, false] (by kernel_rfl) rfl rfl ⟨⟨(blk_cell B4.out 0).trans rfl, (blk_cell B4.out 1).trans rfl, (blk_cell B4.out 2).trans rfl, (blk_cell B4.out 3).trans rfl, (blk_cell B4.out 4).trans rfl⟩, ⟨(blk_cell B7.out 0).trans rfl, (blk_cell B7.out 1).trans rfl, (blk_cell B7.out 2).trans rfl, (blk_cell B7.out 3).trans rfl, (blk_cell B7.out 4).trans rfl⟩, ⟨(blk_cell B10.out 0).trans rfl, (blk_cell B10.out 1).trans rfl, (blk_cell B10.out 2).trans rfl, (blk_cell B10.out 3).trans rfl, (blk_cell B10.out 4).trans rfl⟩, ⟨(blk_cell B12.out 0).trans rfl, (blk_cell B12.out 1).trans rfl, (blk_cell B12.out 2).trans rfl, (blk_cell B12.out 3).trans rfl, (blk_cell B12.out 4).trans rfl⟩⟩ (fun hHeld => ?_)
  replace B4 := Aside0.mk (blk_drew B4.out)
  replace B7 := Aside0.mk (blk_drew B7.out)
  replace B10 := Aside0.mk (blk_drew B10.out)
  replace B12 := Aside0.mk (blk_drew B12.out)
  replace R9 := Aside0.mk (Kd.C_drew R9.out)
  replace HB := Aside0.mk (below_drew1 HB.out)
  generalize W5.drew = W6 at B4 B7 B10 B12 R9 HB hHeld ⊢
  refine one_ (i := 0) (N := (some 32)) #[true, false, false, false, false, false, false, false, false, false, false, false, false, false, false, false, false, false, false, false, false, false, false, false, false, false, false, false, false, false, false, false, false, false, false] rfl rfl (by kernel_rfl) (by decide) (fun K hK => ?_)
  refine goes_ Try.func15 (by kernel_rfl) rfl #[] (by rfl) rfl rfl (by (try simp only [List.map_toArray, List.map_cons, List.map_nil]); first | done | rfl) ?_
  refine (drawn_calls _).mono ?_
  rintro e w7 ⟨rfl, hb⟩
  refine ⟨_, rfl, ?_⟩
  have nB4_ := Aside0.mk (blk_below B4.out hb)
  clear B4
  have B4 := nB4_
  clear nB4_
  have nB7_ := Aside0.mk (blk_below B7.out hb)
  clear B7
  have B7 := nB7_
  clear nB7_
  have nB10_ := Aside0.mk (blk_below B10.out hb)
  clear B10
  have B10 := nB10_
  clear nB10_
  have nB12_ := Aside0.mk (blk_below B12.out hb)
  clear B12
  have B12 := nB12_
  clear nB12_
  have n9_ := Aside0.mk (Kd.C_below R9.out hb)
  clear R9
  have R9 := n9_
  clear n9_
  have nH_ := Aside0.mk (below_step HB.out hb)
  clear HB hb
  have HB := nH_
  clear nH_
  refine hK.out _ _ ⟨⟨(blk_cell B4.out 0).trans rfl, (blk_cell B4.out 1).trans rfl, (blk_cell B4.out 2).trans rfl, (blk_cell B4.out 3).trans rfl, (blk_cell B4.out 4).trans rfl⟩, ⟨(blk_cell B7.out 0).trans rfl, (blk_cell B7.out 1).trans rfl, (blk_cell B7.out 2).trans rfl, (blk_cell B7.out 3).trans rfl, (blk_cell B7.out 4).trans rfl⟩, ⟨(blk_cell B10.out 0).trans rfl, (blk_cell B10.out 1).trans rfl, (blk_cell B10.out 2).trans rfl, (blk_cell B10.out 3).trans rfl, (blk_cell B10.out 4).trans rfl⟩, ⟨(blk_cell B12.out 0).trans rfl, (blk_cell B12.out 1).trans rfl, (blk_cell B12.out 2).trans rfl, (blk_cell B12.out 3).trans rfl, (blk_cell B12.out 4).trans rfl⟩⟩ (fun hHeld => ?_)
  clear hK K
  refine norm_ (a' := ?_) ?_ ?_
  rotate_left
  · show Act.put _ (some 32) _ = _
    simp only [Act.put, List.setIfInBounds_toArray, List.set_cons_zero, List.set_cons_succ, i64_w, i32_w]
    rfl
  refine pure_ (i := 1) (N := (some 33)) (v := ?_) (a' := ?_) #[true, true, false, false, false, false, false, false, false, false, false, false, false, false, false, false, false, false, false, false, false, false, false, false, false, false, false, false, false, false, false, false, false, false, false] rfl rfl (by kernel_rfl) (fun _ _ _ h => h) (Or.inl ⟨by rfl, ?_⟩) ?_ ?_
  rotate_left
  · intro w'
    go_simp
    with_reducible rfl
  rotate_left
  · simp only [Act.put, List.setIfInBounds_toArray, List.set_cons_zero, List.set_cons_succ, i64_w, i32_w]
    rfl
  refine pure_ (i := 2) (N := (some 34)) (v := ?_) (a' := ?_) #[true, true, true, false, false, false, false, false, false, false, false, false, false, false, false, false, false, false, false, false, false, false, false, false, false, false, false, false, false, false, false, false, false, false, false] rfl rfl (by kernel_rfl) (fun _ _ _ h => h) (Or.inl ⟨by rfl, ?_⟩) ?_ ?_
  rotate_left
  · intro w'
    go_simp
    with_reducible rfl
  rotate_left
  · simp only [Act.put, List.setIfInBounds_toArray, List.set_cons_zero, List.set_cons_succ, i64_w, i32_w]
    rfl
  refine pure_ (i := 3) (N := (some 35)) (v := ?_) (a' := ?_) #[true, true, true, true, false, false, false, false, false, false, false, false, false, false, false, false, false, false, false, false, false, false, false, false, false, false, false, false, false, false, false, false, false, false, false] rfl rfl (by kernel_rfl) (fun _ _ _ h => h) (Or.inl ⟨by rfl, ?_⟩) ?_ ?_
  rotate_left
  · intro w'
    go_simp
    with_reducible rfl
  rotate_left
  · simp only [Act.put, List.setIfInBounds_toArray, List.set_cons_zero, List.set_cons_succ, i64_w, i32_w]
    rfl
  refine pure_ (i := 4) (N := (some 36)) (v := ?_) (a' := ?_) #[true, true, true, true, true, false, false, false, false, false, false, false, false, false, false, false, false, false, false, false, false, false, false, false, false, false, false, false, false, false, false, false, false, false, false] rfl rfl (by kernel_rfl) (fun _ _ _ h => h) (Or.inl ⟨by rfl, ?_⟩) ?_ ?_
  rotate_left
  · intro w'
    go_simp
    with_reducible rfl
  rotate_left
  · simp only [Act.put, List.setIfInBounds_toArray, List.set_cons_zero, List.set_cons_succ, i64_w, i32_w]
    rfl
  refine pure_ (i := 5) (N := (some 37)) (v := ?_) (a' := ?_) #[true, true, true, true, true, true, false, false, false, false, false, false, false, false, false, false, false, false, false, false, false, false, false, false, false, false, false, false, false, false, false, false, false, false, false] rfl rfl (by kernel_rfl) (fun _ _ _ h => h) (Or.inl ⟨by rfl, ?_⟩) ?_ ?_
  rotate_left
  · intro w'
    go_simp
    with_reducible rfl
  rotate_left
  · simp only [Act.put, List.setIfInBounds_toArray, List.set_cons_zero, List.set_cons_succ, i64_w, i32_w]
    rfl
  refine pure_ (i := 6) (N := (some 38)) (v := ?_) (a' := ?_) #[true, true, true, true, true, true, true, false, false, false, false, false, false, false, false, false, false, false, false, false, false, false, false, false, false, false, false, false, false, false, false, false, false, false, false] rfl rfl (by kernel_rfl) (fun _ _ _ h => h) (Or.inl ⟨by rfl, ?_⟩) ?_ ?_
  rotate_left
  · intro w'
    go_simp
    with_reducible rfl
  rotate_left
  · simp only [Act.put, List.setIfInBounds_toArray, List.set_cons_zero, List.set_cons_succ, i64_w, i32_w]
    rfl
  refine take_ (i := 7) (N := (some 39)) (v := ?_) (a' := ?_) #[true, true, true, true, true, true, true, true, false, false, false, false, false, false, false, false, false, false, false, false, false, false, false, false, false, false, false, false, false, false, false, false, false, false, false] rfl rfl (by kernel_rfl) (fun _ _ _ h => h) (Or.inl ⟨by rfl, ?_⟩) hHeld ?_ ?_
  rotate_left
  · rintro w' ⟨⟨s00, s01, s02, s03, s04⟩, ⟨s10, s11, s12, s13, s14⟩, ⟨s20, s21, s22, s23, s24⟩, ⟨s30, s31, s32, s33, s34⟩⟩
    go_simp
    with_reducible rfl
  rotate_left
  · simp only [Act.put, List.setIfInBounds_toArray, List.set_cons_zero, List.set_cons_succ, i64_w, i32_w]
    rfl
  refine take_ (i := 8) (N := (some 40)) (v := ?_) (a' := ?_) #[true, true, true, true, true, true, true, true, true, false, false, false, false, false, false, false, false, false, false, false, false, false, false, false, false, false, false, false, false, false, false, false, false, false, false] rfl rfl (by kernel_rfl) (fun _ _ _ h => h) (Or.inl ⟨by rfl, ?_⟩) hHeld ?_ ?_
  rotate_left
  · rintro w' ⟨⟨s00, s01, s02, s03, s04⟩, ⟨s10, s11, s12, s13, s14⟩, ⟨s20, s21, s22, s23, s24⟩, ⟨s30, s31, s32, s33, s34⟩⟩
    go_simp
    with_reducible rfl
  rotate_left
  · simp only [Act.put, List.setIfInBounds_toArray, List.set_cons_zero, List.set_cons_succ, i64_w, i32_w]
    rfl
  refine one_ (i := 9) (N := (some 41)) #[true, true, true, true, true, true, true, true, true, true, false, false, false, false, false, false, false, false, false, false, false, false, false, false, false, false, false, false, false, false, false, false, false, false, false] rfl rfl (by kernel_rfl) (by decide) (fun K hK => ?_)
  refine goes_ Try.func16 (by kernel_rfl) rfl #[.agg #[.int .i64 k, .int .u64 st9, .int .u64 ic, .slice A l.length c, .int .i64 at9], .agg #[.int .i64 k, .int .u64 st9, .int .u64 ic, .slice A9 l.length c9, .int .i64 at9]] (by rfl) rfl rfl (by (try simp only [List.map_toArray, List.map_cons, List.map_nil]); first | done | rfl) ?_
  refine (same_calls k st9 ic at9 l A A9 c c9 _ (Kd.C_below HR.out HB.out) HC.out R9.out L9.out HLM.out).mono ?_
  rintro e w8 ⟨rfl, hb⟩
  refine ⟨_, rfl, ?_⟩
  have nB4_ := Aside0.mk (blk_below B4.out hb)
  clear B4
  have B4 := nB4_
  clear nB4_
  have nB7_ := Aside0.mk (blk_below B7.out hb)
  clear B7
  have B7 := nB7_
  clear nB7_
  have nB10_ := Aside0.mk (blk_below B10.out hb)
  clear B10
  have B10 := nB10_
  clear nB10_
  have nB12_ := Aside0.mk (blk_below B12.out hb)
  clear B12
  have B12 := nB12_
  clear nB12_
  have n9_ := Aside0.mk (Kd.C_below R9.out hb)
  clear R9
  have R9 := n9_
  clear n9_
  have nH_ := Aside0.mk (below_step HB.out hb)
  clear HB hb
  have HB := nH_
  clear nH_
  refine hK.out _ _ ⟨⟨(blk_cell B4.out 0).trans rfl, (blk_cell B4.out 1).trans rfl, (blk_cell B4.out 2).trans rfl, (blk_cell B4.out 3).trans rfl, (blk_cell B4.out 4).trans rfl⟩, ⟨(blk_cell B7.out 0).trans rfl, (blk_cell B7.out 1).trans rfl, (blk_cell B7.out 2).trans rfl, (blk_cell B7.out 3).trans rfl, (blk_cell B7.out 4).trans rfl⟩, ⟨(blk_cell B10.out 0).trans rfl, (blk_cell B10.out 1).trans rfl, (blk_cell B10.out 2).trans rfl, (blk_cell B10.out 3).trans rfl, (blk_cell B10.out 4).trans rfl⟩, ⟨(blk_cell B12.out 0).trans rfl, (blk_cell B12.out 1).trans rfl, (blk_cell B12.out 2).trans rfl, (blk_cell B12.out 3).trans rfl, (blk_cell B12.out 4).trans rfl⟩⟩ (fun hHeld => ?_)
  clear hK K
  refine norm_ (a' := ?_) ?_ ?_
  rotate_left
  · show Act.put _ (some 41) _ = _
    simp only [Act.put, List.setIfInBounds_toArray, List.set_cons_zero, List.set_cons_succ, i64_w, i32_w]
    rfl
  refine pure_ (i := 10) (N := (some 42)) (v := ?_) (a' := ?_) #[true, true, true, true, true, true, true, true, true, true, true, false, false, false, false, false, false, false, false, false, false, false, false, false, false, false, false, false, false, false, false, false, false, false, false] rfl rfl (by kernel_rfl) (fun _ _ _ h => h) (Or.inl ⟨by rfl, ?_⟩) ?_ ?_
  rotate_left
  · intro w'
    go_simp
    with_reducible rfl
  rotate_left
  · simp only [Act.put, List.setIfInBounds_toArray, List.set_cons_zero, List.set_cons_succ, i64_w, i32_w]
    rfl
  refine pure_ (i := 11) (N := (some 43)) (v := ?_) (a' := ?_) #[true, true, true, true, true, true, true, true, true, true, true, true, false, false, false, false, false, false, false, false, false, false, false, false, false, false, false, false, false, false, false, false, false, false, false] rfl rfl (by kernel_rfl) (fun _ _ _ h => h) (Or.inl ⟨by rfl, ?_⟩) ?_ ?_
  rotate_left
  · intro w'
    go_simp
    with_reducible rfl
  rotate_left
  · simp only [Act.put, List.setIfInBounds_toArray, List.set_cons_zero, List.set_cons_succ, i64_w, i32_w]
    rfl
  refine take_ (i := 12) (N := (some 44)) (v := ?_) (a' := ?_) #[true, true, true, true, true, true, true, true, true, true, true, true, true, false, false, false, false, false, false, false, false, false, false, false, false, false, false, false, false, false, false, false, false, false, false] rfl rfl (by kernel_rfl) (fun _ _ _ h => h) (Or.inl ⟨by rfl, ?_⟩) hHeld ?_ ?_
  rotate_left
  · rintro w' ⟨⟨s00, s01, s02, s03, s04⟩, ⟨s10, s11, s12, s13, s14⟩, ⟨s20, s21, s22, s23, s24⟩, ⟨s30, s31, s32, s33, s34⟩⟩
    go_simp
    with_reducible rfl
  rotate_left
  · simp only [Act.put, List.setIfInBounds_toArray, List.set_cons_zero, List.set_cons_succ, i64_w, i32_w]
    rfl
  refine take_ (i := 13) (N := (some 45)) (v := ?_) (a' := ?_) #[true, true, true, true, true, true, true, true, true, true, true, true, true, true, false, false, false, false, false, false, false, false, false, false, false, false, false, false, false, false, false, false, false, false, false] rfl rfl (by kernel_rfl) (fun _ _ _ h => h) (Or.inl ⟨by rfl, ?_⟩) hHeld ?_ ?_
  rotate_left
  · rintro w' ⟨⟨s00, s01, s02, s03, s04⟩, ⟨s10, s11, s12, s13, s14⟩, ⟨s20, s21, s22, s23, s24⟩, ⟨s30, s31, s32, s33, s34⟩⟩
    go_simp
    with_reducible rfl
  rotate_left
  · simp only [Act.put, List.setIfInBounds_toArray, List.set_cons_zero, List.set_cons_succ, i64_w, i32_w]
    rfl
  refine one_ (i := 14) (N := (some 46)) #[true, true, true, true, true, true, true, true, true, true, true, true, true, true, true, false, false, false, false, false, false, false, false, false, false, false, false, false, false, false, false, false, false, false, false] rfl rfl (by kernel_rfl) (by decide) (fun K hK => ?_)
  refine goes_ Try.func16 (by kernel_rfl) rfl #[.agg #[.int .i64 k, .int .u64 st, .int .u64 ic, .slice A l.length c, .int .i64 at_], .agg #[.int .i64 k, .int .u64 st, .int .u64 ic, .slice A9 l.length c9, .int .i64 at_]] (by rfl) rfl rfl (by (try simp only [List.map_toArray, List.map_cons, List.map_nil]); first | done | rfl) ?_
  refine (same_calls k st ic at_ l A A9 c c9 _ (Kd.C_below HR.out HB.out) HC.out R9.out L9.out HLM.out).mono ?_
  rintro e w9 ⟨rfl, hb⟩
  refine ⟨_, rfl, ?_⟩
  have nB4_ := Aside0.mk (blk_below B4.out hb)
  clear B4
  have B4 := nB4_
  clear nB4_
  have nB7_ := Aside0.mk (blk_below B7.out hb)
  clear B7
  have B7 := nB7_
  clear nB7_
  have nB10_ := Aside0.mk (blk_below B10.out hb)
  clear B10
  have B10 := nB10_
  clear nB10_
  have nB12_ := Aside0.mk (blk_below B12.out hb)
  clear B12
  have B12 := nB12_
  clear nB12_
  have n9_ := Aside0.mk (Kd.C_below R9.out hb)
  clear R9
  have R9 := n9_
  clear n9_
  have nH_ := Aside0.mk (below_step HB.out hb)
  clear HB hb
  have HB := nH_
  clear nH_
  refine hK.out _ _ ⟨⟨(blk_cell B4.out 0).trans rfl, (blk_cell B4.out 1).trans rfl, (blk_cell B4.out 2).trans rfl, (blk_cell B4.out 3).trans rfl, (blk_cell B4.out 4).trans rfl⟩, ⟨(blk_cell B7.out 0).trans rfl, (blk_cell B7.out 1).trans rfl, (blk_cell B7.out 2).trans rfl, (blk_cell B7.out 3).trans rfl, (blk_cell B7.out 4).trans rfl⟩, ⟨(blk_cell B10.out 0).trans rfl, (blk_cell B10.out 1).trans rfl, (blk_cell B10.out 2).trans rfl, (blk_cell B10.out 3).trans rfl, (blk_cell B10.out 4).trans rfl⟩, ⟨(blk_cell B12.out 0).trans rfl, (blk_cell B12.out 1).trans rfl, (blk_cell B12.out 2).trans rfl, (blk_cell B12.out 3).trans rfl, (blk_cell B12.out 4).trans rfl⟩⟩ (fun hHeld => ?_)
  clear hK K
  refine norm_ (a' := ?_) ?_ ?_
  rotate_left
  · show Act.put _ (some 46) _ = _
    simp only [Act.put, List.setIfInBounds_toArray, List.set_cons_zero, List.set_cons_succ, i64_w, i32_w]
    rfl
  refine pure_ (i := 15) (N := (some 47)) (v := ?_) (a' := ?_) #[true, true, true, true, true, true, true, true, true, true, true, true, true, true, true, true, false, false, false, false, false, false, false, false, false, false, false, false, false, false, false, false, false, false, false] rfl rfl (by kernel_rfl) (fun _ _ _ h => h) (Or.inl ⟨by rfl, ?_⟩) ?_ ?_
  rotate_left
  · intro w'
    go_simp
    with_reducible rfl
  rotate_left
  · simp only [Act.put, List.setIfInBounds_toArray, List.set_cons_zero, List.set_cons_succ, i64_w, i32_w]
    rfl
  refine pure_ (i := 16) (N := (some 48)) (v := ?_) (a' := ?_) #[true, true, true, true, true, true, true, true, true, true, true, true, true, true, true, true, true, false, false, false, false, false, false, false, false, false, false, false, false, false, false, false, false, false, false] rfl rfl (by kernel_rfl) (fun _ _ _ h => h) (Or.inl ⟨by rfl, ?_⟩) ?_ ?_
  rotate_left
  · intro w'
    go_simp
    with_reducible rfl
  rotate_left
  · simp only [Act.put, List.setIfInBounds_toArray, List.set_cons_zero, List.set_cons_succ, i64_w, i32_w]
    rfl
  refine pure_ (i := 17) (N := (some 49)) (v := ?_) (a' := ?_) #[true, true, true, true, true, true, true, true, true, true, true, true, true, true, true, true, true, true, false, false, false, false, false, false, false, false, false, false, false, false, false, false, false, false, false] rfl rfl (by kernel_rfl) (fun _ _ _ h => h) (Or.inl ⟨by rfl, ?_⟩) ?_ ?_
  rotate_left
  · intro w'
    go_simp
    with_reducible rfl
  rotate_left
  · simp only [Act.put, List.setIfInBounds_toArray, List.set_cons_zero, List.set_cons_succ, i64_w, i32_w]
    rfl
  refine pure_ (i := 18) (N := (some 50)) (v := ?_) (a' := ?_) #[true, true, true, true, true, true, true, true, true, true, true, true, true, true, true, true, true, true, true, false, false, false, false, false, false, false, false, false, false, false, false, false, false, false, false] rfl rfl (by kernel_rfl) (fun _ _ _ h => h) (Or.inl ⟨by rfl, ?_⟩) ?_ ?_
  rotate_left
  · intro w'
    go_simp
    with_reducible rfl
  rotate_left
  · simp only [Act.put, List.setIfInBounds_toArray, List.set_cons_zero, List.set_cons_succ, i64_w, i32_w]
    rfl
  refine pure_ (i := 20) (N := (some 52)) (v := ?_) (a' := ?_) #[true, true, true, true, true, true, true, true, true, true, true, true, true, true, true, true, true, true, true, false, true, false, false, false, false, false, false, false, false, false, false, false, false, false, false] rfl rfl (by kernel_rfl) (fun _ _ _ h => h) (Or.inl ⟨by rfl, ?_⟩) ?_ ?_
  rotate_left
  · intro w'
    go_simp
    with_reducible rfl
  rotate_left
  · simp only [Act.put, List.setIfInBounds_toArray, List.set_cons_zero, List.set_cons_succ, i64_w, i32_w]
    rfl
  refine pure_ (i := 21) (N := (some 53)) (v := ?_) (a' := ?_) #[true, true, true, true, true, true, true, true, true, true, true, true, true, true, true, true, true, true, true, false, true, true, false, false, false, false, false, false, false, false, false, false, false, false, false] rfl rfl (by kernel_rfl) (fun _ _ _ h => h) (Or.inl ⟨by rfl, ?_⟩) ?_ ?_
  rotate_left
  · intro w'
    go_simp
    with_reducible rfl
  rotate_left
  · simp only [Act.put, List.setIfInBounds_toArray, List.set_cons_zero, List.set_cons_succ, i64_w, i32_w]
    rfl
  refine one_ (i := 19) (N := (some 51)) #[true, true, true, true, true, true, true, true, true, true, true, true, true, true, true, true, true, true, true, true, true, true, false, false, false, false, false, false, false, false, false, false, false, false, false] rfl rfl (by kernel_rfl) (by decide) (fun K hK => ?_)
  refine goes_ Try.func17 (by kernel_rfl) rfl #[.int .u64 seed, .int .u64 stream] (by rfl) rfl rfl (by (try simp only [List.map_toArray, List.map_cons, List.map_nil]); first | done | rfl) ?_
  refine (pcg_v seed stream sp ip _ HSP.out HIP.out).mono ?_
  rintro e w10 ⟨rfl, hb⟩
  refine ⟨_, rfl, ?_⟩
  have nB4_ := Aside0.mk (blk_below B4.out hb)
  clear B4
  have B4 := nB4_
  clear nB4_
  have nB7_ := Aside0.mk (blk_below B7.out hb)
  clear B7
  have B7 := nB7_
  clear nB7_
  have nB10_ := Aside0.mk (blk_below B10.out hb)
  clear B10
  have B10 := nB10_
  clear nB10_
  have nB12_ := Aside0.mk (blk_below B12.out hb)
  clear B12
  have B12 := nB12_
  clear nB12_
  have n9_ := Aside0.mk (Kd.C_below R9.out hb)
  clear R9
  have R9 := n9_
  clear n9_
  have nH_ := Aside0.mk (below_step HB.out hb)
  clear HB hb
  have HB := nH_
  clear nH_
  refine hK.out _ _ ⟨⟨(blk_cell B4.out 0).trans rfl, (blk_cell B4.out 1).trans rfl, (blk_cell B4.out 2).trans rfl, (blk_cell B4.out 3).trans rfl, (blk_cell B4.out 4).trans rfl⟩, ⟨(blk_cell B7.out 0).trans rfl, (blk_cell B7.out 1).trans rfl, (blk_cell B7.out 2).trans rfl, (blk_cell B7.out 3).trans rfl, (blk_cell B7.out 4).trans rfl⟩, ⟨(blk_cell B10.out 0).trans rfl, (blk_cell B10.out 1).trans rfl, (blk_cell B10.out 2).trans rfl, (blk_cell B10.out 3).trans rfl, (blk_cell B10.out 4).trans rfl⟩, ⟨(blk_cell B12.out 0).trans rfl, (blk_cell B12.out 1).trans rfl, (blk_cell B12.out 2).trans rfl, (blk_cell B12.out 3).trans rfl, (blk_cell B12.out 4).trans rfl⟩⟩ (fun hHeld => ?_)
  clear hK K
  refine norm_ (a' := ?_) ?_ ?_
  rotate_left
  · show Act.put _ (some 51) _ = _
    simp only [Act.put, List.setIfInBounds_toArray, List.set_cons_zero, List.set_cons_succ, i64_w, i32_w]
    rfl
  refine one_ (i := 22) (N := (some 54)) #[true, true, true, true, true, true, true, true, true, true, true, true, true, true, true, true, true, true, true, true, true, true, true, false, false, false, false, false, false, false, false, false, false, false, false] rfl rfl (by kernel_rfl) (by decide) (fun K hK => ?_)
  refine goes_ Try.func18 (by kernel_rfl) rfl #[.int .u64 seed, .int .u64 stream] (by rfl) rfl rfl (by (try simp only [List.map_toArray, List.map_cons, List.map_nil]); first | done | rfl) ?_
  refine (rpcg_v seed stream sp ip _ HSP.out HIP.out).mono ?_
  rintro e w11 ⟨rfl, hb⟩
  refine ⟨_, rfl, ?_⟩
  have nB4_ := Aside0.mk (blk_below B4.out hb)
  clear B4
  have B4 := nB4_
  clear nB4_
  have nB7_ := Aside0.mk (blk_below B7.out hb)
  clear B7
  have B7 := nB7_
  clear nB7_
  have nB10_ := Aside0.mk (blk_below B10.out hb)
  clear B10
  have B10 := nB10_
  clear nB10_
  have nB12_ := Aside0.mk (blk_below B12.out hb)
  clear B12
  have B12 := nB12_
  clear nB12_
  have n9_ := Aside0.mk (Kd.C_below R9.out hb)
  clear R9
  have R9 := n9_
  clear n9_
  have nH_ := Aside0.mk (below_step HB.out hb)
  clear HB hb
  have HB := nH_
  clear nH_
  refine hK.out _ _ ⟨⟨(blk_cell B4.out 0).trans rfl, (blk_cell B4.out 1).trans rfl, (blk_cell B4.out 2).trans rfl, (blk_cell B4.out 3).trans rfl, (blk_cell B4.out 4).trans rfl⟩, ⟨(blk_cell B7.out 0).trans rfl, (blk_cell B7.out 1).trans rfl, (blk_cell B7.out 2).trans rfl, (blk_cell B7.out 3).trans rfl, (blk_cell B7.out 4).trans rfl⟩, ⟨(blk_cell B10.out 0).trans rfl, (blk_cell B10.out 1).trans rfl, (blk_cell B10.out 2).trans rfl, (blk_cell B10.out 3).trans rfl, (blk_cell B10.out 4).trans rfl⟩, ⟨(blk_cell B12.out 0).trans rfl, (blk_cell B12.out 1).trans rfl, (blk_cell B12.out 2).trans rfl, (blk_cell B12.out 3).trans rfl, (blk_cell B12.out 4).trans rfl⟩⟩ (fun hHeld => ?_)
  clear hK K
  refine norm_ (a' := ?_) ?_ ?_
  rotate_left
  · show Act.put _ (some 54) _ = _
    simp only [Act.put, List.setIfInBounds_toArray, List.set_cons_zero, List.set_cons_succ, i64_w, i32_w]
    rfl
  refine one_ (i := 23) (N := (some 55)) #[true, true, true, true, true, true, true, true, true, true, true, true, true, true, true, true, true, true, true, true, true, true, true, true, false, false, false, false, false, false, false, false, false, false, false] rfl rfl (by kernel_rfl) (by decide) (fun K hK => ?_)
  refine goes_ Try.func16 (by kernel_rfl) rfl #[.agg #[.int .i64 1, .int .u64 sp, .int .u64 ip, .slice none 0 0, .int .i64 0], .agg #[.int .i64 1, .int .u64 sp, .int .u64 ip, .slice none 0 0, .int .i64 0]] (by rfl) rfl rfl (by (try simp only [List.map_toArray, List.map_cons, List.map_nil]); first | done | rfl) ?_
  refine (same_calls 1 sp ip 0 [] none none 0 0 _ (Kd.C_nil _ _) (Nat.le_refl _) (Kd.C_nil _ _) (Nat.le_refl _) (by decide)).mono ?_
  rintro e w12 ⟨rfl, hb⟩
  refine ⟨_, rfl, ?_⟩
  have nB4_ := Aside0.mk (blk_below B4.out hb)
  clear B4
  have B4 := nB4_
  clear nB4_
  have nB7_ := Aside0.mk (blk_below B7.out hb)
  clear B7
  have B7 := nB7_
  clear nB7_
  have nB10_ := Aside0.mk (blk_below B10.out hb)
  clear B10
  have B10 := nB10_
  clear nB10_
  have nB12_ := Aside0.mk (blk_below B12.out hb)
  clear B12
  have B12 := nB12_
  clear nB12_
  have n9_ := Aside0.mk (Kd.C_below R9.out hb)
  clear R9
  have R9 := n9_
  clear n9_
  have nH_ := Aside0.mk (below_step HB.out hb)
  clear HB hb
  have HB := nH_
  clear nH_
  refine hK.out _ _ ⟨⟨(blk_cell B4.out 0).trans rfl, (blk_cell B4.out 1).trans rfl, (blk_cell B4.out 2).trans rfl, (blk_cell B4.out 3).trans rfl, (blk_cell B4.out 4).trans rfl⟩, ⟨(blk_cell B7.out 0).trans rfl, (blk_cell B7.out 1).trans rfl, (blk_cell B7.out 2).trans rfl, (blk_cell B7.out 3).trans rfl, (blk_cell B7.out 4).trans rfl⟩, ⟨(blk_cell B10.out 0).trans rfl, (blk_cell B10.out 1).trans rfl, (blk_cell B10.out 2).trans rfl, (blk_cell B10.out 3).trans rfl, (blk_cell B10.out 4).trans rfl⟩, ⟨(blk_cell B12.out 0).trans rfl, (blk_cell B12.out 1).trans rfl, (blk_cell B12.out 2).trans rfl, (blk_cell B12.out 3).trans rfl, (blk_cell B12.out 4).trans rfl⟩⟩ (fun hHeld => ?_)
  clear hK K
  refine norm_ (a' := ?_) ?_ ?_
  rotate_left
  · show Act.put _ (some 55) _ = _
    simp only [Act.put, List.setIfInBounds_toArray, List.set_cons_zero, List.set_cons_succ, i64_w, i32_w]
    rfl
  refine pure_ (i := 24) (N := (some 56)) (v := ?_) (a' := ?_) #[true, true, true, true, true, true, true, true, true, true, true, true, true, true, true, true, true, true, true, true, true, true, true, true, true, false, false, false, false, false, false, false, false, false, false] rfl rfl (by kernel_rfl) (fun _ _ _ h => h) (Or.inl ⟨by rfl, ?_⟩) ?_ ?_
  rotate_left
  · intro w'
    go_simp
    with_reducible rfl
  rotate_left
  · simp only [Act.put, List.setIfInBounds_toArray, List.set_cons_zero, List.set_cons_succ, i64_w, i32_w]
    rfl
  refine pure_ (i := 25) (N := (some 57)) (v := ?_) (a' := ?_) #[true, true, true, true, true, true, true, true, true, true, true, true, true, true, true, true, true, true, true, true, true, true, true, true, true, true, false, false, false, false, false, false, false, false, false] rfl rfl (by kernel_rfl) (fun _ _ _ h => h) (Or.inl ⟨by rfl, ?_⟩) ?_ ?_
  rotate_left
  · intro w'
    go_simp
    with_reducible rfl
  rotate_left
  · simp only [Act.put, List.setIfInBounds_toArray, List.set_cons_zero, List.set_cons_succ, i64_w, i32_w]
    rfl
  refine pure_ (i := 26) (N := (some 58)) (v := ?_) (a' := ?_) #[true, true, true, true, true, true, true, true, true, true, true, true, true, true, true, true, true, true, true, true, true, true, true, true, true, true, true, false, false, false, false, false, false, false, false] rfl rfl (by kernel_rfl) (fun _ _ _ h => h) (Or.inl ⟨by rfl, ?_⟩) ?_ ?_
  rotate_left
  · intro w'
    go_simp
    with_reducible rfl
  rotate_left
  · simp only [Act.put, List.setIfInBounds_toArray, List.set_cons_zero, List.set_cons_succ, i64_w, i32_w]
    rfl
  refine pure_ (i := 29) (N := (some 61)) (v := ?_) (a' := ?_) #[true, true, true, true, true, true, true, true, true, true, true, true, true, true, true, true, true, true, true, true, true, true, true, true, true, true, true, false, false, true, false, false, false, false, false] rfl rfl (by kernel_rfl) (fun _ _ _ h => h) (Or.inl ⟨by rfl, ?_⟩) ?_ ?_
  rotate_left
  · intro w'
    go_simp
    with_reducible rfl
  rotate_left
  · simp only [Act.put, List.setIfInBounds_toArray, List.set_cons_zero, List.set_cons_succ, i64_w, i32_w]
    rfl
  refine take_ (i := 27) (N := (some 59)) (v := ?_) (a' := ?_) #[true, true, true, true, true, true, true, true, true, true, true, true, true, true, true, true, true, true, true, true, true, true, true, true, true, true, true, true, false, true, false, false, false, false, false] rfl rfl (by kernel_rfl) (fun _ _ _ h => h) (Or.inl ⟨by rfl, ?_⟩) hHeld ?_ ?_
  rotate_left
  · rintro w' ⟨⟨s00, s01, s02, s03, s04⟩, ⟨s10, s11, s12, s13, s14⟩, ⟨s20, s21, s22, s23, s24⟩, ⟨s30, s31, s32, s33, s34⟩⟩
    go_simp
    with_reducible rfl
  rotate_left
  · simp only [Act.put, List.setIfInBounds_toArray, List.set_cons_zero, List.set_cons_succ, i64_w, i32_w]
    rfl
  refine take_ (i := 30) (N := (some 62)) (v := ?_) (a' := ?_) #[true, true, true, true, true, true, true, true, true, true, true, true, true, true, true, true, true, true, true, true, true, true, true, true, true, true, true, true, false, true, true, false, false, false, false] rfl rfl (by kernel_rfl) (fun _ _ _ h => h) (Or.inl ⟨by rfl, ?_⟩) hHeld ?_ ?_
  rotate_left
  · rintro w' ⟨⟨s00, s01, s02, s03, s04⟩, ⟨s10, s11, s12, s13, s14⟩, ⟨s20, s21, s22, s23, s24⟩, ⟨s30, s31, s32, s33, s34⟩⟩
    go_simp
    with_reducible rfl
  rotate_left
  · simp only [Act.put, List.setIfInBounds_toArray, List.set_cons_zero, List.set_cons_succ, i64_w, i32_w]
    rfl
  refine one_ (i := 28) (N := (some 60)) #[true, true, true, true, true, true, true, true, true, true, true, true, true, true, true, true, true, true, true, true, true, true, true, true, true, true, true, true, true, true, true, false, false, false, false] rfl rfl (by kernel_rfl) (by decide) (fun K hK => ?_)
  refine goes_ Try.func19 (by kernel_rfl) rfl #[.slice A l.length c] (by rfl) rfl rfl (by (try simp only [List.map_toArray, List.map_cons, List.map_nil]); first | done | rfl) ?_
  refine (draw_Tape_calls A c l _ HC.out HMX.out HAN.out).mono ?_
  rintro e w13 ⟨rfl, hb⟩
  refine ⟨_, rfl, ?_⟩
  have nB4_ := Aside0.mk (blk_below B4.out hb)
  clear B4
  have B4 := nB4_
  clear nB4_
  have nB7_ := Aside0.mk (blk_below B7.out hb)
  clear B7
  have B7 := nB7_
  clear nB7_
  have nB10_ := Aside0.mk (blk_below B10.out hb)
  clear B10
  have B10 := nB10_
  clear nB10_
  have nB12_ := Aside0.mk (blk_below B12.out hb)
  clear B12
  have B12 := nB12_
  clear nB12_
  have n9_ := Aside0.mk (Kd.C_below R9.out hb)
  clear R9
  have R9 := n9_
  clear n9_
  have nH_ := Aside0.mk (below_step HB.out hb)
  clear HB hb
  have HB := nH_
  clear nH_
  refine hK.out _ _ ⟨⟨(blk_cell B4.out 0).trans rfl, (blk_cell B4.out 1).trans rfl, (blk_cell B4.out 2).trans rfl, (blk_cell B4.out 3).trans rfl, (blk_cell B4.out 4).trans rfl⟩, ⟨(blk_cell B7.out 0).trans rfl, (blk_cell B7.out 1).trans rfl, (blk_cell B7.out 2).trans rfl, (blk_cell B7.out 3).trans rfl, (blk_cell B7.out 4).trans rfl⟩, ⟨(blk_cell B10.out 0).trans rfl, (blk_cell B10.out 1).trans rfl, (blk_cell B10.out 2).trans rfl, (blk_cell B10.out 3).trans rfl, (blk_cell B10.out 4).trans rfl⟩, ⟨(blk_cell B12.out 0).trans rfl, (blk_cell B12.out 1).trans rfl, (blk_cell B12.out 2).trans rfl, (blk_cell B12.out 3).trans rfl, (blk_cell B12.out 4).trans rfl⟩⟩ (fun hHeld => ?_)
  clear hK K
  refine norm_ (a' := ?_) ?_ ?_
  rotate_left
  · show Act.put _ (some 60) _ = _
    simp only [Act.put, List.setIfInBounds_toArray, List.set_cons_zero, List.set_cons_succ, i64_w, i32_w]
    rfl
  refine one_ (i := 31) (N := (some 63)) #[true, true, true, true, true, true, true, true, true, true, true, true, true, true, true, true, true, true, true, true, true, true, true, true, true, true, true, true, true, true, true, true, false, false, false] rfl rfl (by kernel_rfl) (by decide) (fun K hK => ?_)
  refine goes_ Try.func20 (by kernel_rfl) rfl #[.slice A9 l.length c9] (by rfl) rfl rfl (by (try simp only [List.map_toArray, List.map_cons, List.map_nil]); first | done | rfl) ?_
  refine (ref_Tape_calls A9 c9 l _).mono ?_
  rintro e w14 ⟨rfl, hb⟩
  refine ⟨_, rfl, ?_⟩
  have nB4_ := Aside0.mk (blk_below B4.out hb)
  clear B4
  have B4 := nB4_
  clear nB4_
  have nB7_ := Aside0.mk (blk_below B7.out hb)
  clear B7
  have B7 := nB7_
  clear nB7_
  have nB10_ := Aside0.mk (blk_below B10.out hb)
  clear B10
  have B10 := nB10_
  clear nB10_
  have nB12_ := Aside0.mk (blk_below B12.out hb)
  clear B12
  have B12 := nB12_
  clear nB12_
  have n9_ := Aside0.mk (Kd.C_below R9.out hb)
  clear R9
  have R9 := n9_
  clear n9_
  have nH_ := Aside0.mk (below_step HB.out hb)
  clear HB hb
  have HB := nH_
  clear nH_
  refine hK.out _ _ ⟨⟨(blk_cell B4.out 0).trans rfl, (blk_cell B4.out 1).trans rfl, (blk_cell B4.out 2).trans rfl, (blk_cell B4.out 3).trans rfl, (blk_cell B4.out 4).trans rfl⟩, ⟨(blk_cell B7.out 0).trans rfl, (blk_cell B7.out 1).trans rfl, (blk_cell B7.out 2).trans rfl, (blk_cell B7.out 3).trans rfl, (blk_cell B7.out 4).trans rfl⟩, ⟨(blk_cell B10.out 0).trans rfl, (blk_cell B10.out 1).trans rfl, (blk_cell B10.out 2).trans rfl, (blk_cell B10.out 3).trans rfl, (blk_cell B10.out 4).trans rfl⟩, ⟨(blk_cell B12.out 0).trans rfl, (blk_cell B12.out 1).trans rfl, (blk_cell B12.out 2).trans rfl, (blk_cell B12.out 3).trans rfl, (blk_cell B12.out 4).trans rfl⟩⟩ (fun hHeld => ?_)
  clear hK K
  refine norm_ (a' := ?_) ?_ ?_
  rotate_left
  · show Act.put _ (some 63) _ = _
    simp only [Act.put, List.setIfInBounds_toArray, List.set_cons_zero, List.set_cons_succ, i64_w, i32_w]
    rfl
  refine one_ (i := 32) (N := (some 64)) #[true, true, true, true, true, true, true, true, true, true, true, true, true, true, true, true, true, true, true, true, true, true, true, true, true, true, true, true, true, true, true, true, true, false, false] rfl rfl (by kernel_rfl) (by decide) (fun K hK => ?_)
  refine goes_ Try.func16 (by kernel_rfl) rfl #[.agg #[.int .i64 2, .int .u64 0, .int .u64 0, .slice A l.length l.length, .int .i64 0], .agg #[.int .i64 2, .int .u64 0, .int .u64 0, .slice A9 l.length c9, .int .i64 0]] (by rfl) rfl rfl (by (try simp only [List.map_toArray, List.map_cons, List.map_nil]); first | done | rfl) ?_
  refine (same_calls 2 0 0 0 l A A9 l.length c9 _ (Kd.C_below HR.out HB.out) (Nat.le_refl _) R9.out L9.out HLM.out).mono ?_
  rintro e w15 ⟨rfl, hb⟩
  refine ⟨_, rfl, ?_⟩
  have nB4_ := Aside0.mk (blk_below B4.out hb)
  clear B4
  have B4 := nB4_
  clear nB4_
  have nB7_ := Aside0.mk (blk_below B7.out hb)
  clear B7
  have B7 := nB7_
  clear nB7_
  have nB10_ := Aside0.mk (blk_below B10.out hb)
  clear B10
  have B10 := nB10_
  clear nB10_
  have nB12_ := Aside0.mk (blk_below B12.out hb)
  clear B12
  have B12 := nB12_
  clear nB12_
  have n9_ := Aside0.mk (Kd.C_below R9.out hb)
  clear R9
  have R9 := n9_
  clear n9_
  have nH_ := Aside0.mk (below_step HB.out hb)
  clear HB hb
  have HB := nH_
  clear nH_
  refine hK.out _ _ ⟨⟨(blk_cell B4.out 0).trans rfl, (blk_cell B4.out 1).trans rfl, (blk_cell B4.out 2).trans rfl, (blk_cell B4.out 3).trans rfl, (blk_cell B4.out 4).trans rfl⟩, ⟨(blk_cell B7.out 0).trans rfl, (blk_cell B7.out 1).trans rfl, (blk_cell B7.out 2).trans rfl, (blk_cell B7.out 3).trans rfl, (blk_cell B7.out 4).trans rfl⟩, ⟨(blk_cell B10.out 0).trans rfl, (blk_cell B10.out 1).trans rfl, (blk_cell B10.out 2).trans rfl, (blk_cell B10.out 3).trans rfl, (blk_cell B10.out 4).trans rfl⟩, ⟨(blk_cell B12.out 0).trans rfl, (blk_cell B12.out 1).trans rfl, (blk_cell B12.out 2).trans rfl, (blk_cell B12.out 3).trans rfl, (blk_cell B12.out 4).trans rfl⟩⟩ (fun hHeld => ?_)
  clear hK K
  refine norm_ (a' := ?_) ?_ ?_
  rotate_left
  · show Act.put _ (some 64) _ = _
    simp only [Act.put, List.setIfInBounds_toArray, List.set_cons_zero, List.set_cons_succ, i64_w, i32_w]
    rfl
  refine pure_ (i := 33) (N := (some 65)) (v := ?_) (a' := ?_) #[true, true, true, true, true, true, true, true, true, true, true, true, true, true, true, true, true, true, true, true, true, true, true, true, true, true, true, true, true, true, true, true, true, true, false] rfl rfl (by kernel_rfl) (fun _ _ _ h => h) (Or.inl ⟨by rfl, ?_⟩) ?_ ?_
  rotate_left
  · intro w'
    go_simp
    with_reducible rfl
  rotate_left
  · simp only [Act.put, List.setIfInBounds_toArray, List.set_cons_zero, List.set_cons_succ, i64_w, i32_w]
    rfl
  refine pure_ (i := 34) (N := (some 6)) (v := ?_) (a' := ?_) #[true, true, true, true, true, true, true, true, true, true, true, true, true, true, true, true, true, true, true, true, true, true, true, true, true, true, true, true, true, true, true, true, true, true, true] rfl rfl (by kernel_rfl) (fun _ _ _ h => h) (Or.inl ⟨by rfl, ?_⟩) ?_ ?_
  rotate_left
  · intro w'
    go_simp
    with_reducible rfl
  rotate_left
  · simp only [Act.put, List.setIfInBounds_toArray, List.set_cons_zero, List.set_cons_succ, i64_w, i32_w]
    rfl
  refine done_ (by kernel_rfl) ?_
  go_wp2
  go_ret
  exact ⟨rfl, HB.out⟩
set_option maxHeartbeats 4000000 in
theorem does_out (k st ic at_ : Int) (A : Option Addr) (c : Nat) (l : List Int) (seed stream : Int) (w : World) (hr : Kd.C (Kd.int .u64) w A l.length l) (hc : l.length ≤ c) (hbig : (l.length : Int) > 2000) :
    Calls Try.prog 3 #[.agg #[.int .i64 k, .int .u64 st, .int .u64 ic, .slice A l.length c, .int .i64 at_], .int .u64 seed, .int .u64 stream] w fun e w' => e = .returned (.bool true) ∧ Below w.heap.size w w' := by
  have hu25 := Try.underlying25
  have HR := Aside0.mk hr
  have HC := Aside0.mk hc
  have HBIG : Aside0 (decide ((l.length : Int) > 2000) = true) := ⟨decide_eq_true hbig⟩
  clear hr hc hbig
  have HB := Aside0.mk (below_alloc (Below.refl w.heap.size w) (.cells #[.int .i64 k, .int .u64 st, .int .u64 ic, .slice A l.length c, .int .i64 at_] 25 (0, 0)))
  go_enter Try.func3, Try.ntmps3
  go_wp2_with (first | ((with_reducible refine gate_callee (f := 12) rfl ?_); refine goesL_ (some 14) rfl rfl Try.func12 (by kernel_rfl) rfl #[.agg #[.int .i64 k, .int .u64 st, .int .u64 ic, .slice A l.length c, .int .i64 at_]] rfl (by (try simp only [List.map_toArray, List.map_cons, List.map_nil]); first | done | rfl) ?_; (refine (big_calls k st ic at_ l A c _ (Kd.C_below HR.out HB.out) HC.out true HBIG.out).mono ?_); rintro e w1 ⟨rfl, hb⟩; refine ⟨_, rfl, ?_⟩; have mH_ := Aside0.mk (below_step HB.out hb); clear HB hb; have HB := mH_; clear mH_; ))
  go_ret
  exact ⟨rfl, HB.out⟩
open Classical in
/-- The law DrawDoes, as the walk needs it. -/
noncomputable def pacemakerlaw06_DrawDoes.f (_q : Nat) (_k st _ic : Int) (l : List Int) (_at _seed _stream : Int) : Option Bool :=
  if (l.length : Int) > 2000 then some true else if (∀ y ∈ l, 0 ≤ y) ∧ 0 ≤ st ∧ st < 18446744073709551616 then some true else none
theorem pacemakerlaw06_DrawDoes.calls (q : Nat) (k st ic : Int) (A : Option Addr) (c : Nat) (l : List Int) (at_ seed stream : Int) (r : Bool) (w : World) (hr : Kd.C (Kd.int .u64) w A l.length l) (hc : l.length ≤ c) (HT : Aside0 (r = true)) (h : pacemakerlaw06_DrawDoes.f q k st ic l at_ seed stream = some r) :
    Calls Try.prog 3 #[.agg #[.int .i64 k, .int .u64 st, .int .u64 ic, .slice A l.length c, .int .i64 at_], .int .u64 seed, .int .u64 stream] w fun e w' => e = .returned (.bool r) ∧ Below w.heap.size w w' := by
  obtain rfl := HT.out
  unfold pacemakerlaw06_DrawDoes.f at h
  split at h
  · rename_i H
    exact does_out k st ic at_ A c l seed stream w hr hc H
  · rename_i H
    split at h
    · rename_i H2
      exact does_walk k st ic at_ A c l seed stream w hr hc H H2.1 H2.2
    · exact absurd h (by simp)
end Go.Proofs.Ytjiogchafnpkhaa.D
