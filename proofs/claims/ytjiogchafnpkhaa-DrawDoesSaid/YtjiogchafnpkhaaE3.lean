import Derived.Test.YtjiogchafnpkhaaE2
namespace Go.Proofs.Ytjiogchafnpkhaa.D
open Go.RowKit Go.Proofs.YtjiogchafnpkhaaW.PrintWords Go.Proofs.YtjiogchafnpkhaaW.PrintLast Go.Proofs.YtjiogchafnpkhaaW.PrintMore
attribute [local go_sem] max2_int min2_int max_two min_two max_three min_three max_four min_four
attribute [local go_sem] Go.Proofs.YtjiogchafnpkhaaS.cell_set_map Go.Proofs.YtjiogchafnpkhaaS.setCell_drewN
set_option linter.unusedVariables false
set_option linter.unusedSimpArgs false
theorem quo_val (x : Int) (h : 0 ≤ x) : Int.tdiv x 2 = x / 2 := Int.tdiv_eq_ediv_of_nonneg h
theorem rem_val (x : Int) (h : 0 ≤ x) : Int.tmod x 2 = x % 2 := Int.tmod_eq_emod_of_nonneg h
theorem u64_in (x : Int) (h0 : 0 ≤ x) (h1 : x < 18446744073709551616) : IntKind.u64.wrap x = x := by rw [u64_w]; omega
theorem xor_range (a b : Int) (a0 : 0 ≤ a) (a1 : a < 18446744073709551616) (b0 : 0 ≤ b) (b1 : b < 18446744073709551616) : 0 ≤ bits .xor .u64 a b ∧ bits .xor .u64 a b < 18446744073709551616 := by
  rw [u64_xor a b a0 a1 b0 b1]
  have := Nat.xor_lt_two_pow (n := 64) (show a.toNat < 2 ^ 64 by omega) (show b.toNat < 2 ^ 64 by omega)
  omega
set_option maxHeartbeats 8000000 in
set_option maxRecDepth 100000 in
theorem ref_next_pcg (st ic at_ : Int) (A : Option Addr) (c : Nat) (l : List Int) (w : World) (s0 : 0 ≤ st) (s1 : st < 18446744073709551616) : Calls Try.prog 14 #[.agg #[.int .i64 1, .int .u64 st, .int .u64 ic, .slice A l.length c, .int .i64 at_]] w fun e w' => e = .returned (.tuple #[.int .i64 (wrap64 (pcgX st)), .agg #[.int .i64 1, .int .u64 (pcgSt st ic), .int .u64 ic, .slice A l.length c, .int .i64 at_]]) ∧ Below w.heap.size w w' := by
  have hu25 := Try.underlying25
  have hR := pcgX_rot st s0 s1
  rw [hR]
  clear hR
  have hx := xor_range (st / 262144) st (by omega) (by omega) s0 s1
  obtain ⟨y, hy⟩ : ∃ y, bits .xor .u64 (st / 262144) st = y := ⟨_, rfl⟩
  rw [hy] at hx
  obtain ⟨x0, hx0⟩ : ∃ x0, IntKind.u32.wrap (y / 134217728) = x0 := ⟨_, rfl⟩
  rw [hy, hx0]
  have hx1 : Int.tmod (y / 134217728) 4294967296 = x0 := by rw [← hx0, IntKind.wrap_u32]; exact Int.tmod_eq_emod_of_nonneg (by omega)
  have r0 : 0 ≤ x0 ∧ x0 < 4294967296 := by rw [← hx0, IntKind.wrap_u32]; omega
  clear hx0
  obtain ⟨r, hr⟩ : ∃ r : Nat, st / 576460752303423488 = (r : Int) := ⟨(st / 576460752303423488).toNat, by omega⟩
  have hr2 : r < 32 := by omega
  rw [hr, Int.toNat_natCast]
  have HT := fun i hi => rotI_step x0 r0.1 r0.2 i hi
  have HG := fun i hi => rotI_range x0 r0.1 r0.2 i hi
  have HZ := rotI_zero x0
  replace HT := Aside0.mk HT
  replace HG := Aside0.mk HG
  replace HZ := Aside0.mk HZ
  obtain ⟨xr, hxr⟩ : ∃ xr, wrap64 (rotI x0 r) = xr := ⟨_, rfl⟩
  rw [hxr]
  have hxr1 : IntKind.i64.wrap (rotI x0 r) = xr := by rw [i64_w]; exact hxr
  replace hxr := Aside0.mk hxr1
  clear hxr1 hx r0 s0 s1
  have B1 := Aside0.mk (blk_alloc (blk_new w (.cells #[.int .i64 1, .int .u64 st, .int .u64 ic, .slice A l.length c, .int .i64 at_] 25 (0, 0))) (.cells #[.int .i64 0, .int .u64 0, .int .u64 0, .slice none 0 0, .int .i64 0] 25 (0, 0)))
  have B3 := Aside0.mk (show (((w.alloc (.cells #[.int .i64 1, .int .u64 st, .int .u64 ic, .slice A l.length c, .int .i64 at_] 25 (0, 0))).alloc (.cells #[.int .i64 0, .int .u64 0, .int .u64 0, .slice none 0 0, .int .i64 0] 25 (0, 0))).heap[w.heap.size + 1]? = some (.cells #[.int .i64 0, .int .u64 0, .int .u64 0, .slice none 0 0, .int .i64 0] 25 (0, 0))) by have := blk_new (w.alloc (.cells #[.int .i64 1, .int .u64 st, .int .u64 ic, .slice A l.length c, .int .i64 at_] 25 (0, 0))) (.cells #[.int .i64 0, .int .u64 0, .int .u64 0, .slice none 0 0, .int .i64 0] 25 (0, 0)); rwa [Go.Proofs.YtjiogchafnpkhaaS.size_alloc] at this)
  have HB := Aside0.mk (below_alloc (below_alloc (Below.refl w.heap.size w) (.cells #[.int .i64 1, .int .u64 st, .int .u64 ic, .slice A l.length c, .int .i64 at_] 25 (0, 0))) (.cells #[.int .i64 0, .int .u64 0, .int .u64 0, .slice none 0 0, .int .i64 0] 25 (0, 0)))
  have GE3 : Aside0 (w.heap.size ≤ w.heap.size + 1) := ⟨by omega⟩
  have hz0 : ((w.alloc (.cells #[.int .i64 1, .int .u64 st, .int .u64 ic, .slice A l.length c, .int .i64 at_] 25 (0, 0))).alloc (.cells #[.int .i64 0, .int .u64 0, .int .u64 0, .slice none 0 0, .int .i64 0] 25 (0, 0))).cell? ⟨w.heap.size, 0, none⟩ = some (.int .i64 1) := (blk_cell B1.out 0).trans rfl
  have hz1 : ((w.alloc (.cells #[.int .i64 1, .int .u64 st, .int .u64 ic, .slice A l.length c, .int .i64 at_] 25 (0, 0))).alloc (.cells #[.int .i64 0, .int .u64 0, .int .u64 0, .slice none 0 0, .int .i64 0] 25 (0, 0))).cell? ⟨w.heap.size, 1, none⟩ = some (.int .u64 st) := (blk_cell B1.out 1).trans rfl
  have hz2 : ((w.alloc (.cells #[.int .i64 1, .int .u64 st, .int .u64 ic, .slice A l.length c, .int .i64 at_] 25 (0, 0))).alloc (.cells #[.int .i64 0, .int .u64 0, .int .u64 0, .slice none 0 0, .int .i64 0] 25 (0, 0))).cell? ⟨w.heap.size, 2, none⟩ = some (.int .u64 ic) := (blk_cell B1.out 2).trans rfl
  have hz3 : ((w.alloc (.cells #[.int .i64 1, .int .u64 st, .int .u64 ic, .slice A l.length c, .int .i64 at_] 25 (0, 0))).alloc (.cells #[.int .i64 0, .int .u64 0, .int .u64 0, .slice none 0 0, .int .i64 0] 25 (0, 0))).cell? ⟨w.heap.size, 3, none⟩ = some (.slice A l.length c) := (blk_cell B1.out 3).trans rfl
  have hz4 : ((w.alloc (.cells #[.int .i64 1, .int .u64 st, .int .u64 ic, .slice A l.length c, .int .i64 at_] 25 (0, 0))).alloc (.cells #[.int .i64 0, .int .u64 0, .int .u64 0, .slice none 0 0, .int .i64 0] 25 (0, 0))).cell? ⟨w.heap.size, 4, none⟩ = some (.int .i64 at_) := (blk_cell B1.out 4).trans rfl
  go_enter Try.func14, Try.ntmps14
  go_wp2
  clear hz0 hz1 hz2 hz3 hz4
  generalize ((w.alloc (.cells #[.int .i64 1, .int .u64 st, .int .u64 ic, .slice A l.length c, .int .i64 at_] 25 (0, 0))).alloc (.cells #[.int .i64 0, .int .u64 0, .int .u64 0, .slice none 0 0, .int .i64 0] 25 (0, 0))) = W0 at *
  clear hx1 hy
  go_loop [5, 7] (fun v5 v7 => ∃ i : Nat, i ≤ r ∧ v7 = .int .u64 i ∧ v5 = .int .u64 (rotI x0 i)) (fun _ v7 => r - (intOf v7).toNat)
  case atStart => exact ⟨0, Nat.zero_le _, rfl, by rw [HZ.out]⟩
  case round =>
    obtain ⟨i, hi, rfl, rfl⟩ := hrel
    by_cases hlt : i < r
    · have hq : (i : Int) < (r : Int) := by omega
      have t1 := HT.out i (by omega)
      have g1 := HG.out i (by omega)
      have g2 := HG.out (i + 1) (by omega)
      obtain ⟨z, hz⟩ : ∃ z, rotI x0 (i + 1) = z := ⟨_, rfl⟩
      rw [hz] at t1 g2
      generalize rotI x0 i = y0 at *
      have a1 := quo_val y0 g1.1
      have a2 := rem_val y0 g1.1
      have a6 : IntKind.u64.wrap (y0 / 2) = y0 / 2 := u64_in _ (by omega) (by omega)
      have a3 : IntKind.u64.wrap (y0 % 2 * 2147483648) = y0 % 2 * 2147483648 := u64_in _ (by omega) (by omega)
      have a4 : IntKind.u64.wrap (y0 / 2 + y0 % 2 * 2147483648) = z := by rw [t1]; exact u64_in _ (by omega) (by omega)
      have a5 : IntKind.u64.wrap ((i : Int) + 1) = (i : Int) + 1 := u64_in _ (by omega) (by omega)
      have hz2 := Aside0.mk hz
      clear hz t1 g1 g2
      go_wp2
      go_round
      case rel => exact ⟨i + 1, by omega, by go_num, by rw [hz2.out]⟩
      case measure => simp [intOf]; omega
    · have hq : ¬ (i : Int) < (r : Int) := by omega
      obtain rfl : i = r := by omega
      have hxr1 := hxr.out
      clear hxr
      generalize rotI x0 i = xi at *
      clear hr
      have ha0 : W0.cell? ⟨w.heap.size, 0, none⟩ = some (.int .i64 1) := (blk_cell B1.out 0).trans rfl; have fa0 := blk_frozen B1.out 0; have ha1 : W0.cell? ⟨w.heap.size, 1, none⟩ = some (.int .u64 st) := (blk_cell B1.out 1).trans rfl; have fa1 := blk_frozen B1.out 1; have ha2 : W0.cell? ⟨w.heap.size, 2, none⟩ = some (.int .u64 ic) := (blk_cell B1.out 2).trans rfl; have fa2 := blk_frozen B1.out 2; have ha3 : W0.cell? ⟨w.heap.size, 3, none⟩ = some (.slice A l.length c) := (blk_cell B1.out 3).trans rfl; have fa3 := blk_frozen B1.out 3; have ha4 : W0.cell? ⟨w.heap.size, 4, none⟩ = some (.int .i64 at_) := (blk_cell B1.out 4).trans rfl; have fa4 := blk_frozen B1.out 4
      go_wp2_with (first | ((with_reducible refine gate_callee (f := 42) rfl ?_); refine goesL_ (some 66) rfl rfl Try.func42 (by kernel_rfl) rfl #[.agg #[.int .i64 1, .int .u64 st, .int .u64 ic, .slice A l.length c, .int .i64 at_]] rfl (by (try simp only [List.map_toArray, List.map_cons, List.map_nil]); first | done | rfl) ?_; (refine (ref_step_calls 1 st ic at_ A c l _).mono ?_); rintro e w1 ⟨rfl, hb⟩; refine ⟨_, rfl, ?_⟩; have n1_ := Aside0.mk (blk_below B1.out hb); have n2_ := Aside0.mk (blk_below B3.out hb); have n3_ := Aside0.mk (below_step HB.out hb); clear B1 B3 HB hb; have B1 := n1_; have B3 := n2_; have HB := n3_; clear n1_ n2_ n3_; have hs0 : w1.cell? ⟨w.heap.size + 1, 0, none⟩ = some (.int .i64 0) := (blk_cell B3.out 0).trans rfl; have fs0 := blk_frozen B3.out 0; have hs1 : w1.cell? ⟨w.heap.size + 1, 1, none⟩ = some (.int .u64 0) := (blk_cell B3.out 1).trans rfl; have fs1 := blk_frozen B3.out 1; have hs2 : w1.cell? ⟨w.heap.size + 1, 2, none⟩ = some (.int .u64 0) := (blk_cell B3.out 2).trans rfl; have fs2 := blk_frozen B3.out 2; have hs3 : w1.cell? ⟨w.heap.size + 1, 3, none⟩ = some (.slice none 0 0) := (blk_cell B3.out 3).trans rfl; have fs3 := blk_frozen B3.out 3; have hs4 : w1.cell? ⟨w.heap.size + 1, 4, none⟩ = some (.int .i64 0) := (blk_cell B3.out 4).trans rfl; have fs4 := blk_frozen B3.out 4))
      have q0 := blk_set B3.out 0 (.int .i64 1)
      have q1 := blk_set q0 1 (.int .u64 (pcgSt st ic))
      have q2 := blk_set q1 2 (.int .u64 ic)
      have q3 := blk_set q2 3 (.slice A l.length c)
      have q4 := blk_set q3 4 (.int .i64 at_)
      (try simp only [Exit.inBlock, Exit.then])
      refine bodyPost_ret (results_list (rs := [.tmp 2, .cell 3 25]) rfl (by simp) (.tmp (.cell (w.heap.size + 1) 25 #[.int .i64 1, .int .u64 (pcgSt st ic), .int .u64 ic, .slice A l.length c, .int .i64 at_] (0, 0) _ rfl (q4.trans (by rfl)) Try.underlying25 rfl (by kernel_rfl) .nil))) rfl ⟨rfl, ?_⟩
      exact below_set (j := 4) (v := (.int .i64 at_)) (below_set (j := 3) (v := (.slice A l.length c)) (below_set (j := 2) (v := (.int .u64 ic)) (below_set (j := 1) (v := (.int .u64 (pcgSt st ic))) (below_set (j := 0) (v := (.int .i64 1)) HB.out GE3.out) GE3.out) GE3.out) GE3.out) GE3.out

theorem ref_Next_calls (k st ic at_ : Int) (A : Option Addr) (c : Nat) (l : List Int) (w : World) (hr : Kd.C (Kd.int .u64) w A l.length l) (hu : ∀ y ∈ l, 0 ≤ y) (hs : 0 ≤ st ∧ st < 18446744073709551616) : Calls Try.prog 14 #[.agg #[.int .i64 k, .int .u64 st, .int .u64 ic, .slice A l.length c, .int .i64 at_]] w fun e w' => e = .returned (.tuple #[.int .i64 (nextX k st l at_), .agg #[.int .i64 k, .int .u64 (nextSt k st ic), .int .u64 ic, .slice A l.length c, .int .i64 (nextAt k l at_)]]) ∧ Below w.heap.size w w' := by
  by_cases h1 : k = 1
  · subst h1
    have e1 : nextX 1 st l at_ = wrap64 (pcgX st) := by unfold nextX; rw [if_pos rfl]
    have e2 : nextSt 1 st ic = pcgSt st ic := by unfold nextSt; rw [if_pos rfl]
    have e3 : nextAt 1 l at_ = at_ := by unfold nextAt; rw [if_neg (by decide)]
    rw [e1, e2, e3]
    exact ref_next_pcg st ic at_ A c l w hs.1 hs.2
  · by_cases h2 : k = 2
    · subst h2
      have e1 : nextX 2 st l at_ = wrap64 (tapeX l at_) := by unfold nextX; rw [if_neg (by decide), if_pos rfl]
      have e2 : nextSt 2 st ic = st := by unfold nextSt; rw [if_neg (by decide)]
      have e3 : nextAt 2 l at_ = tapeAt l at_ := by unfold nextAt; rw [if_pos rfl]
      rw [e1, e2, e3]
      exact ref_next_tape st ic at_ A c l w hr hu
    · have e1 : nextX k st l at_ = 0 := by unfold nextX; rw [if_neg h1, if_neg h2, w64_0]
      have e2 : nextSt k st ic = st := by unfold nextSt; rw [if_neg h1]
      have e3 : nextAt k l at_ = at_ := by unfold nextAt; rw [if_neg h2]
      rw [e1, e2, e3]
      exact ref_next_none k st ic at_ A c l w h1 h2
end Go.Proofs.Ytjiogchafnpkhaa.D
