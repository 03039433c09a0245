import Derived.Test.YtocdpfdnnijdkaaGS
namespace Go.Proofs.Ytocdpfdnnijdkaa.G
open Go.RowKit Go.Proofs.YtocdpfdnnijdkaaW.PrintWords Go.Proofs.YtocdpfdnnijdkaaW.PrintLast Go.Proofs.YtocdpfdnnijdkaaW.PrintMore
attribute [local go_sem] max2_int min2_int max_two min_two max_three min_three max_four min_four
attribute [local go_sem] Go.Proofs.YtocdpfdnnijdkaaS.cell_set_map Go.Proofs.YtocdpfdnnijdkaaS.setCell_drewN
set_option linter.unusedVariables false
set_option linter.unusedSimpArgs false
attribute [local go_sem] eq24 add0
attribute [local go_sem high] eqA24
set_option maxRecDepth 100000 in
theorem sorts_none (ts : List Int) (A : Option Addr) (c : Nat) (w : World) (hg : 200 < ts.length ∨ ts.length = 0) : Calls Try.prog 5 #[.slice A ts.length c] w fun e w' => e = .returned (.bool true) ∧ Below w.heap.size w w' := by
  rcases hg with hg | hg
  · have p1 : decide (200 < (ts.length : Int)) = true := decide_eq_true (by omega)
    go_enter Try.func5, Try.ntmps5
    go_wp2_with (first | ((with_reducible refine gate_callee (f := 8) rfl ?_); refine goesL_ (some 21) rfl rfl Try.func8 (by kernel_rfl) rfl #[] rfl (by (try simp only [List.map_toArray, List.map_cons, List.map_nil]); first | done | rfl) ?_; (refine (noted_v _).mono ?_); rintro e w1 ⟨rfl, hb⟩; refine ⟨_, rfl, ?_⟩))
    go_ret
    exact ⟨rfl, hb⟩
  · have p1 : decide (200 < (ts.length : Int)) = false := decide_eq_false (by omega)
    have p2 : ((ts.length : Int) == 0) = true := beq_iff_eq.mpr (by omega)
    go_enter Try.func5, Try.ntmps5
    go_wp2_with (first | ((with_reducible refine gate_callee (f := 8) rfl ?_); refine goesL_ (some 21) rfl rfl Try.func8 (by kernel_rfl) rfl #[] rfl (by (try simp only [List.map_toArray, List.map_cons, List.map_nil]); first | done | rfl) ?_; (refine (noted_v _).mono ?_); rintro e w1 ⟨rfl, hb⟩; refine ⟨_, rfl, ?_⟩))
    go_ret
    exact ⟨rfl, hb⟩
theorem AGX_drewN {B : Nat} {w : World} {g : Nat} {v : Value} {l : List S60} {most n : Int} (h : AGX B w g v l most n) (m : Nat) : AGX B (w.drewN m) g v l most n := ⟨AG_move h.1 (fun _ _ _ => rfl), h.2⟩
set_option maxHeartbeats 16000000 in
set_option maxRecDepth 100000 in
theorem sorts_ok (ts : List Int) (A : Option Addr) (c : Nat) (w : World) (hr0 : Kd.C (Kd.int .i64) w A ts.length ts) (L : Nat) (hL : ts.length = L) (h0 : 0 < L) (h1 : L ≤ 200) (hbd : ∀ k : Nat, k < L → rd ts (k : Int) ≤ 9223372036854775807) : Calls Try.prog 5 #[.slice A L c] w fun e w' => e = .returned (.bool true) ∧ Below w.heap.size w w' := by
  have hu24 := Try.underlying24
  have HR0 := Aside0.mk hr0
  have HBD := Aside0.mk hbd
  have p1 : decide (200 < (L : Int)) = false := decide_eq_false (by omega)
  have p2 : ((L : Int) == 0) = false := beq_eq_false_iff_ne.mpr (by omega)
  have HB := Aside0.mk (Below.refl w.heap.size w)
  have HLL := Aside0.mk hL
  obtain ⟨ad, hA0, _⟩ := Kd.at_int hr0 0 (by omega) (by omega)
  subst hA0
  have hmk := print_make_of 49 4 (.bool false) 1 Try.underlying49 info4 rfl (by decide) L (by omega)
  have HMK := Aside0.mk hmk
  clear hr0 hL hbd hmk
  go_enter Try.func5, Try.ntmps5
  go_wp2_with (first | ((with_reducible refine gate_callee (f := 7) rfl ?_); refine goesL_ (some 25) rfl rfl Try.func7 (by kernel_rfl) rfl #[.int .i64 (L : Int)] rfl (by (try simp only [List.map_toArray, List.map_cons, List.map_nil]); first | done | rfl) ?_; (refine (New_v (L : Int) _ (by omega) (by omega)).mono ?_); rintro e u1_ ⟨g, rfl, hg0, ha, hb⟩; refine ⟨_, rfl, ?_⟩; have n_B := Aside0.mk (below_step HB.out hb); have HA : Aside0 (AGX w.heap.size u1_ g (.slice none 0 0) [] (L : Int) 0) := ⟨⟨ha, Nat.le_trans HB.out.size hg0, fun k hk => by simp [Value.ownBlock] at hk⟩⟩; clear HB ha hg0 hb; have HB := n_B; clear n_B))
  clear p1 p2
  go_loopw [5] (fun v5 wr => ∃ (i : Nat) (v : Value), i ≤ L ∧ v5 = .int .i64 (i : Int) ∧ Aside0 (AGX w.heap.size wr g v (hE (eW ts) i) (L : Int) (i : Int)) ∧ Aside0 (Below w.heap.size w wr)) (fun v5 _ => ((L : Int) - intOf v5).toNat)
  case atStart => exact ⟨0, _, by omega, rfl, HA, HB⟩
  case round =>
    clear HA HB
    obtain ⟨i, v, hi, rfl, HA, HB⟩ := hrel
    by_cases hlt : i < L
    · have p3 : decide ((i : Int) < (L : Int)) = true := decide_eq_true (by omega)
      have p0 : (0 : Int) ≤ (i : Int) := by omega
      have q0 : (i : Int) < (L : Int) := by omega
      have HX : Aside0 (w.cell? (ad.add i) = some (.int .i64 (rd ts (i : Int)))) := ⟨by
        obtain ⟨ad', e, h_⟩ := Kd.at_int HR0.out (i : Int) p0 (by rw [HLL.out]; exact q0)
        cases e
        exact h_⟩
      have hx := pw_cell_below HB.out HX.out
      have hwi : IntKind.i64.wrap ((i : Int) + 1) = (i : Int) + 1 := by rw [i64_w]; unfold wrap64; omega
      go_wp2_with (first | ((with_reducible refine gate_callee (f := 9) rfl ?_); refine goesL_ (some 43) rfl rfl Try.func9 (by kernel_rfl) rfl #[.pointer (some ⟨g, 0, none⟩), .agg #[.int .i64 (rd ts (i : Int)), .int .i64 0, .int .i64 (i : Int), .int .u64 0]] rfl (by (try simp only [List.map_toArray, List.map_cons, List.map_nil]); first | done | rfl) ?_; (refine (Put_x w.heap.size w g v (hE (eW ts) i) (hE (eW ts) (i + 1)) (L : Int) (i : Int) ((i : Int) + 1) (⟨rd ts (i : Int), 0, (i : Int), 0⟩ : S24) _ HA.out HB.out HB.out.size (by rw [hE_length]; omega) (by rw [hE_length]; omega) (by omega) (by omega) rfl rfl).mono ?_); rintro e u51_ ⟨v51, rfl, hA, hw_⟩; refine ⟨_, rfl, ?_⟩; have n_HA := Aside0.mk (hA); have n_HB := Aside0.mk (hw_.1); clear HA HB; have HA := n_HA; have HB := n_HB; clear n_HA n_HB; clear hA hw_; clear hx))
      go_roundw
      case rel => exact ⟨i + 1, v51, by omega, by go_num, HA, HB⟩
      case measure => simp [intOf]; omega
    · obtain rfl : L = i := by omega
      have p3 : decide ((L : Int) < (L : Int)) = false := decide_eq_false (by omega)
      have hmk := HMK.out
      clear hi hlt
      go_wp2_with (first | ((with_reducible refine gate_callee (f := 18) rfl ?_); refine goesL_ (some 46) rfl rfl Try.func18 (by kernel_rfl) rfl #[.pointer (some ⟨g, 0, none⟩)] rfl (by (try simp only [List.map_toArray, List.map_cons, List.map_nil]); first | done | rfl) ?_; (refine (All_x w.heap.size g v (hE (eW ts) L) (L : Int) (L : Int) _ HA.out HB.out.size L (hE_length _ _).symm (by omega)).mono ?_); rintro e uA ⟨A2, c2, rfl, hc2, hu, hb⟩; refine ⟨_, rfl, ?_⟩; have n_A := Aside0.mk (AGX_below HA.out hb); have n_B := Aside0.mk (below_step HB.out hb); have HU := Aside0.mk hu; have HC2 := Aside0.mk hc2; clear HA HB hu hc2 hb; have HA := n_A; have HB := n_B; clear n_A n_B))
      clear p3 hmk
      have HIS := Aside0.mk (s_start ts L)
      generalize hE (eW ts) L = l at *
      have BS : Aside0 ((uA.alloc (.cells (madeCells #[.bool false] L) 4 (0, 0))).heap[uA.heap.size]? = some (.cells (mkB (List.replicate L false)) 4 (0, 0))) := ⟨by rw [← made_false]; exact blk_new _ _⟩
      have NBS := Aside0.mk (NBX_new HA.out)
      have GS := Aside0.mk HB.out.size
      have n_A := Aside0.mk (AGX_below HA.out (below_alloc (Below.refl _ _) (.cells (madeCells #[.bool false] L) 4 (0, 0))))
      have n_B := Aside0.mk (below_step HB.out (below_alloc (Below.refl _ _) (.cells (madeCells #[.bool false] L) 4 (0, 0))))
      have n_U := Aside0.mk (Kd.R_alloc HU.out (.cells (madeCells #[.bool false] L) 4 (0, 0)))
      clear HA HB HU
      have HA := n_A
      have HB := n_B
      have HU := n_U
      clear n_A n_B n_U
      generalize uA.alloc (.cells (madeCells #[.bool false] L) 4 (0, 0)) = uS at *
      generalize uA.heap.size = gs at *
      go_loopw [8] (fun v8 wr => ∃ (i : Nat) (v : Value) (lr : List S60) (sn : List Bool), i ≤ L ∧ v8 = .int .i64 (i : Int) ∧ Aside0 (SInv ts L l lr i sn) ∧ Aside0 (AGX w.heap.size wr g v lr (L : Int) (L : Int)) ∧ Aside0 (NBX g v gs) ∧ Aside0 (Kd.R k24 24 wr w.heap.size (fun _ => True) (.slice A2 L c2) (allL l)) ∧ Aside0 (wr.heap[gs]? = some (.cells (mkB sn) 4 (0, 0))) ∧ Aside0 (Below w.heap.size w wr)) (fun v8 _ => ((L : Int) - intOf v8).toNat)
      case atStart => exact ⟨0, v, l, _, by omega, rfl, HIS, HA, NBS, HU, BS, HB⟩
      case round =>
        clear HA HU HB HIS NBS BS
        obtain ⟨i, v, lr, sn, hi, rfl, HI, HA, NBS, HU, BS, HB⟩ := hrel
        by_cases hlt : i < L
        · obtain ⟨k, hk, hx0, hsn, hrd, hnx, hord⟩ := s_step HI.out hlt
          have HX0 : Aside0 (lr[0]? = some (⟨rd ts (k : Int), 0, (k : Int), 0, (k : Int)⟩ : S60)) := ⟨hx0⟩
          have HXT : Aside0 (((⟨rd ts (k : Int), 0, (k : Int), 0, (k : Int)⟩ : S60)).f0 ≤ 9223372036854775807) := ⟨HBD.out k hk⟩
          have HLR : Aside0 (lr.length ≤ 1000000) := ⟨by have := HI.out.1; omega⟩
          have HRD := Aside0.mk hrd
          have HNX := Aside0.mk hnx
          have HORD := Aside0.mk hord
          have HSN := Aside0.mk hsn
          have HSL : Aside0 (k < sn.length) := ⟨by rw [HI.out.2.2.2.2.2.2.2.2.1]; exact hk⟩
          have HLl : Aside0 ((allL l).length = L) := ⟨by rw [allL_length]; exact HI.out.2.1⟩
          have p3 : decide ((i : Int) < (L : Int)) = true := decide_eq_true (by omega)
          have p4 : decide ((k : Int) < 0) = false := decide_eq_false (by omega)
          have hwi : IntKind.i64.wrap ((i : Int) + 1) = (i : Int) + 1 := by rw [i64_w]; unfold wrap64; omega
          clear hx0 hsn hrd hnx hord
          go_wp2_with (first | ((with_reducible refine gate_callee (f := 11) rfl ?_); refine goesL_ (some 58) rfl rfl Try.func11 (by kernel_rfl) rfl #[.pointer (some ⟨g, 0, none⟩), .int .i64 9223372036854775807] rfl (by (try simp only [List.map_toArray, List.map_cons, List.map_nil]); first | done | rfl) ?_; (refine (Next_x w.heap.size w g v lr (takeL lr) (L : Int) (L : Int) 9223372036854775807 (⟨rd ts (k : Int), 0, (k : Int), 0, (k : Int)⟩ : S60) _ HA.out HB.out HB.out.size HX0.out HXT.out HLR.out rfl).mono ?_); rintro e u80_ ⟨v2, rfl, hA, hw_⟩; refine ⟨_, rfl, ?_⟩; have n_N := Aside0.mk (NBX_step NBS.out hw_.2.2 (blk_lt BS.out)); have n_HU := Aside0.mk (R_went HU.out HA.out.1 hw_.2.1); have n_BS := Aside0.mk (blk_nbx BS.out hw_.2.1 NBS.out); have n_HA := Aside0.mk (hA); have n_HB := Aside0.mk (hw_.1); clear HU BS HA HB; have HU := n_HU; have BS := n_BS; have HA := n_HA; have HB := n_HB; clear n_HU n_BS n_HA n_HB; clear hA hw_ NBS; have NBS := n_N; clear n_N) | ((with_reducible refine gate_dst (N := 9) rfl ?_); refine box_event ?hg (N := 9) ?hd (cs := #[.int .i64 0, .int .i64 0, .int .i64 0, .int .u64 0]) (t := 24) ?hr ?_; (case hd => rfl); (case hg => rfl); (case hr => first | (go_simp; done) | (go_simp; rfl)); intro gx hg u81_ hbox hb; have GE : Aside0 (w.heap.size ≤ gx) := ⟨by rw [hg]; exact HB.out.size⟩; have NB : Aside0 (NBX g v2 gx) := ⟨by rw [hg]; exact NBX_new HA.out⟩; have NES : Aside0 (gs ≠ gx) := ⟨by rw [hg]; exact Nat.ne_of_lt (blk_lt BS.out)⟩; have n_U : Aside0 (RU w.heap.size u81_ (.slice A2 L c2) (allL l) gx) := ⟨RU_below (RU_of HU.out (by rw [hg]; exact Nat.le_refl _)) hb⟩; clear HU; have HU := n_U; clear n_U; have n_HB := Aside0.mk (below_step HB.out hb); have n_HA := Aside0.mk (AGX_below HA.out hb); have n_BS := Aside0.mk (blk_below BS.out hb); clear HB HA BS; have HB := n_HB; have HA := n_HA; have BS := n_BS; clear n_HB n_HA n_BS; have BX := Aside0.mk hbox; clear hbox hb hg) | ((with_reducible refine gate_store (t := 24) (p := 9) rfl ?_); refine store_event (t := 24) (p := 9) (v := .tmp 59) (w1 := (u81_).setRow gx #[.int .i64 (rd ts (k : Int)), .int .i64 0, .int .i64 (k : Int), .int .u64 0]) ?hg ?ho ?hn ?hr ?_; (case ho => rfl); (case hg => rfl); (case hn => rfl); (case hr => exact run_store_row 24 _ _ _ _ rfl rfl rfl BX.out (by kernel_rfl) rfl (by kernel_rfl)); intro u82_ hw; have n_HB : Aside0 (Below w.heap.size w u82_) := ⟨by rw [hw]; exact below_setRow HB.out GE.out _⟩; have n_HU : Aside0 (RU w.heap.size u82_ (.slice A2 L c2) (allL l) gx) := ⟨by rw [hw]; exact RU_row HU.out _⟩; have n_BS : Aside0 (u82_.heap[gs]? = some (.cells (mkB sn) 4 (0, 0))) := ⟨by rw [hw]; exact blk_rowfar _ BS.out NES.out⟩; have n_HA : Aside0 (AGX w.heap.size u82_ g v2 (takeL lr) (L : Int) (L : Int)) := ⟨by rw [hw]; exact AGX_row HA.out NB.out _⟩; have n_BX : Aside0 (u82_.heap[gx]? = some (.cells #[.int .i64 (rd ts (k : Int)), .int .i64 0, .int .i64 (k : Int), .int .u64 0] 24 (0, 0))) := ⟨by rw [hw]; exact blk_row _ BX.out⟩; clear hw HB HU BS HA BX; have HB := n_HB; have HU := n_HU; have BS := n_BS; have HA := n_HA; have BX := n_BX; clear n_HB n_HU n_BS n_HA n_BX; have hy0 : u82_.cell? ⟨gx, 0, none⟩ = some (.int .i64 (rd ts (k : Int))) := (blk_cell BX.out 0).trans rfl; have hy1 : u82_.cell? ⟨gx, 1, none⟩ = some (.int .i64 0) := (blk_cell BX.out 1).trans rfl; have hy2 : u82_.cell? ⟨gx, 2, none⟩ = some (.int .i64 (k : Int)) := (blk_cell BX.out 2).trans rfl; have hy3 : u82_.cell? ⟨gx, 3, none⟩ = some (.int .u64 0) := (blk_cell BX.out 3).trans rfl))
          obtain ⟨ad2, e2, hz0, hz1, hz2, hz3⟩ := at_T24 (Kd.R_reads' HU.out).2.2 (i : Int) (by omega) (by rw [HLl.out]; omega)
          subst e2
          rw [HRD.out] at hz0 hz1 hz2 hz3
          simp only [Int.toNat_natCast, evS, eW] at hz0 hz1 hz2 hz3
          have hx : u82_.cell? (ad.add k) = some (.int .i64 (rd ts (k : Int))) := pw_cell_below HB.out (by
            obtain ⟨ad', e, h_⟩ := Kd.at_int HR0.out (k : Int) (by omega) (by rw [HLL.out]; omega)
            cases e
            exact h_)
          have hcs := rowB_cell BS.out k HSL.out
          rw [HSN.out] at hcs
          have hfr := blk_frozen BS.out k
          go_quiet (fail)
          go_wp2
          have n_A := Aside0.mk (AGX_drewN (AGX_cell HA.out NBS.out k (.bool true)) nq)
          have n_U := Aside0.mk (RU_below (RU_cell HU.out BS.out k (.bool true)) (pw_below_drewN (Below.refl _ _) nq))
          have n_S := Aside0.mk (blk_drewN (rowB_set BS.out k true) nq)
          have n_X := Aside0.mk (blk_drewN (blk_far BX.out (p := ⟨gs, k, none⟩) NES.out.symm (.bool true)) nq)
          have n_B := Aside0.mk (pw_below_drewN (below_set (j := k) (v := .bool true) HB.out GS.out) nq)
          clear HA HU BS BX HB hy0 hy1 hy2 hy3 hz0 hz1 hz2 hz3 hx hcs hfr
          have HA := n_A
          have HU := n_U
          have BS := n_S
          have BX := n_X
          have HB := n_B
          clear n_A n_U n_S n_X n_B
          generalize (u82_.setCell ⟨gs, k, none⟩ (.bool true)).drewN nq = u83_ at *
          have hy0 : u83_.cell? ⟨gx, 0, none⟩ = some (.int .i64 (rd ts (k : Int))) := (blk_cell BX.out 0).trans rfl
          have hy2 : u83_.cell? ⟨gx, 2, none⟩ = some (.int .i64 (k : Int)) := (blk_cell BX.out 2).trans rfl
          rcases HORD.out with h_ | ⟨j, m, hj, hrdj, hor⟩
          · have hi0 : ¬ 0 < i := by omega
            have p6 : decide (0 < (i : Int)) = false := decide_eq_false (by omega)
            clear h_
            go_quiet (fail)
            go_wp2
            go_roundw
            case rel => exact ⟨i + 1, v2, takeL lr, sn.set k true, by omega, by go_num, HNX, ⟨AGX_drewN HA.out _⟩, NBS, ⟨Kd.R_drewN (RU_any HU.out) _⟩, ⟨blk_drewN BS.out _⟩, ⟨pw_below_drewN HB.out _⟩⟩
            case measure => simp [intOf]; omega
          · have hi0 : 0 < i := by omega
            have p6 : decide (0 < (i : Int)) = true := decide_eq_true (by omega)
            have hwj : IntKind.i64.wrap ((i : Int) - 1) = (j : Int) := by rw [i64_w]; unfold wrap64; omega
            have hjL : j < L := by omega
            obtain ⟨ad3, e3, hz0, hz1, hz2, hz3⟩ := at_T24 (Kd.R_reads' HU.out).2.2 (j : Int) (by omega) (by rw [HLl.out]; omega)
            cases e3
            rw [hrdj] at hz0 hz1 hz2 hz3
            simp only [Int.toNat_natCast, evS, eW] at hz0 hz1 hz2 hz3
            clear hz1 hz3 hj hrdj
            rcases hor with hor | ⟨hor, hmk⟩
            · have c1 : decide (rd ts (k : Int) < rd ts (m : Int)) = false := decide_eq_false (by omega)
              have c2' : (rd ts (k : Int) == rd ts (m : Int)) = false := beq_eq_false_iff_ne.mpr (by omega)
              clear hor
              go_quiet (fail)
              go_wp2
              go_roundw
              case rel => exact ⟨i + 1, v2, takeL lr, sn.set k true, by omega, by go_num, HNX, ⟨AGX_drewN HA.out _⟩, NBS, ⟨Kd.R_drewN (RU_any HU.out) _⟩, ⟨blk_drewN BS.out _⟩, ⟨pw_below_drewN HB.out _⟩⟩
              case measure => simp [intOf]; omega
            · have c1 : decide (rd ts (k : Int) < rd ts (m : Int)) = false := decide_eq_false (by omega)
              have c2' : (rd ts (k : Int) == rd ts (m : Int)) = true := beq_iff_eq.mpr (by omega)
              have c3 : ¬ k < m := by omega
              clear hor
              go_quiet (fail)
              go_wp2
              go_roundw
              case rel => exact ⟨i + 1, v2, takeL lr, sn.set k true, by omega, by go_num, HNX, ⟨AGX_drewN HA.out _⟩, NBS, ⟨Kd.R_drewN (RU_any HU.out) _⟩, ⟨blk_drewN BS.out _⟩, ⟨pw_below_drewN HB.out _⟩⟩
              case measure => simp [intOf]; omega
        · obtain rfl : L = i := by omega
          have p3 : decide ((L : Int) < (L : Int)) = false := decide_eq_false (by omega)
          obtain rfl : lr = [] := List.length_eq_zero_iff.1 (by have := HI.out.1; omega)
          clear hi hlt NBS HU BS HI
          go_wp2_with (first | ((with_reducible refine gate_callee (f := 11) rfl ?_); refine goesL_ (some 148) rfl rfl Try.func11 (by kernel_rfl) rfl #[.pointer (some ⟨g, 0, none⟩), .int .i64 9223372036854775807] rfl (by (try simp only [List.map_toArray, List.map_cons, List.map_nil]); first | done | rfl) ?_; (refine (Next_stop g v [] (L : Int) (L : Int) 9223372036854775807 _ HA.out.1 (fun x hx_ => by cases hx_)).mono ?_); rintro e u80_ ⟨rfl, hb⟩; refine ⟨_, rfl, ?_⟩; have n_HB := Aside0.mk (below_step HB.out hb); have n_HA := Aside0.mk (AGX_below HA.out hb); clear HB HA; have HB := n_HB; have HA := n_HA; clear n_HB n_HA; clear hb) | ((with_reducible refine gate_dst (N := 11) rfl ?_); refine box_event ?hg (N := 11) ?hd (cs := #[.int .i64 0, .int .i64 0, .int .i64 0, .int .u64 0]) (t := 24) ?hr ?_; (case hd => rfl); (case hg => rfl); (case hr => first | (go_simp; done) | (go_simp; rfl)); intro gx hg u81_ hbox hb; have GE : Aside0 (w.heap.size ≤ gx) := ⟨by rw [hg]; exact HB.out.size⟩; have NB : Aside0 (NBX g v gx) := ⟨by rw [hg]; exact NBX_new HA.out⟩; have n_HB := Aside0.mk (below_step HB.out hb); have n_HA := Aside0.mk (AGX_below HA.out hb); clear HB HA; have HB := n_HB; have HA := n_HA; clear n_HB n_HA; have BX := Aside0.mk hbox; clear hbox hb hg) | ((with_reducible refine gate_store (t := 24) (p := 11) rfl ?_); refine store_event (t := 24) (p := 11) (v := .tmp 149) (w1 := (u81_).setRow gx #[.int .i64 0, .int .i64 0, .int .i64 0, .int .u64 0]) ?hg ?ho ?hn ?hr ?_; (case ho => rfl); (case hg => rfl); (case hn => rfl); (case hr => exact run_store_row 24 _ _ _ _ rfl rfl rfl BX.out (by kernel_rfl) rfl (by kernel_rfl)); intro u82_ hw; have n_HB : Aside0 (Below w.heap.size w u82_) := ⟨by rw [hw]; exact below_setRow HB.out GE.out _⟩; have n_HA : Aside0 (AGX w.heap.size u82_ g v [] (L : Int) (L : Int)) := ⟨by rw [hw]; exact AGX_row HA.out NB.out _⟩; have n_BX : Aside0 (u82_.heap[gx]? = some (.cells #[.int .i64 0, .int .i64 0, .int .i64 0, .int .u64 0] 24 (0, 0))) := ⟨by rw [hw]; exact blk_row _ BX.out⟩; clear hw HB HA BX; have HB := n_HB; have HA := n_HA; have BX := n_BX; clear n_HB n_HA n_BX) | ((with_reducible refine gate_callee (f := 8) rfl ?_); refine goesL_ (some 151) rfl rfl Try.func8 (by kernel_rfl) rfl #[] rfl (by (try simp only [List.map_toArray, List.map_cons, List.map_nil]); first | done | rfl) ?_; (refine (noted_v _).mono ?_); rintro e u84_ ⟨rfl, hb⟩; refine ⟨_, rfl, ?_⟩; have n_HB := Aside0.mk (below_step HB.out hb); have n_HA := Aside0.mk (AGX_below HA.out hb); clear HB HA; have HB := n_HB; have HA := n_HA; clear n_HB n_HA; clear hb) | ((with_reducible refine gate_callee (f := 10) rfl ?_); refine gate_guard (by rfl) ?_; refine goesL_ (some 158) rfl rfl Try.func10 (by kernel_rfl) rfl #[.pointer (some ⟨g, 0, none⟩)] rfl (by (try simp only [List.map_toArray, List.map_cons, List.map_nil]); first | done | rfl) ?_; (refine (Len_v g v [] (L : Int) (L : Int) _ HA.out.1).mono ?_); rintro e u85_ ⟨rfl, hb⟩; refine ⟨_, rfl, ?_⟩; have n_HB := Aside0.mk (below_step HB.out hb); clear HB; have HB := n_HB; clear n_HB; clear hb))
          go_ret
          exact ⟨rfl, HB.out⟩
open Classical in
/-- The law AgendaSorts, as the walk needs it. -/
noncomputable def pacemakerlaw29_AgendaSorts.f (_q : Nat) (ts : List Int) : Option Bool := if ∀ k : Nat, k < ts.length → rd ts (k : Int) ≤ 9223372036854775807 then some true else none
theorem pacemakerlaw29_AgendaSorts.calls (q : Nat) (A : Option Addr) (c : Nat) (ts : List Int) (r : Bool) (w : World) (hr0 : Kd.C (Kd.int .i64) w A ts.length ts) (_hc0 : ts.length ≤ c) (HT : Aside0 (r = true)) (h : pacemakerlaw29_AgendaSorts.f q ts = some r) :
    Calls Try.prog 5 #[.slice A ts.length c] w fun e w' => e = .returned (.bool r) ∧ Below w.heap.size w w' := by
  obtain rfl := HT.out
  unfold pacemakerlaw29_AgendaSorts.f at h
  split at h
  · rename_i hb
    by_cases h1 : 200 < ts.length ∨ ts.length = 0
    · exact sorts_none ts A c w h1
    · exact sorts_ok ts A c w hr0 ts.length rfl (by omega) (by omega) hb
  · cases h
end Go.Proofs.Ytocdpfdnnijdkaa.G
