import Derived.Test.YtocdpfdnnijdkaaH4
namespace Go.Proofs.Ytocdpfdnnijdkaa.G
open Go.RowKit Go.Proofs.YtocdpfdnnijdkaaW.PrintWords Go.Proofs.YtocdpfdnnijdkaaW.PrintLast Go.Proofs.YtocdpfdnnijdkaaW.PrintMore
attribute [local go_sem] max2_int min2_int max_two min_two max_three min_three max_four min_four
attribute [local go_sem] Go.Proofs.YtocdpfdnnijdkaaS.cell_set_map Go.Proofs.YtocdpfdnnijdkaaS.setCell_drewN
set_option linter.unusedVariables false
set_option linter.unusedSimpArgs false
attribute [local go_sem] eq24 add0
attribute [local go_sem high] eqA24
set_option maxHeartbeats 16000000 in
set_option maxRecDepth 100000 in
theorem does_ok (most : Int) (scr : List S40) (A : Option Addr) (c : Nat) (w : World) (L : Nat) (hr0 : Kd.C k40 w A scr.length scr) (hL : scr.length = L) (h1 : ¬ 100 < L) (hm1 : 1 ≤ most) (hm2 : most ≤ 65536) : Calls Try.prog 4 #[.int .i64 most, .slice A L c] w fun e w' => e = .returned (.bool true) ∧ Below w.heap.size w w' := by
  have hu24 := Try.underlying24
  have hu40 := Try.underlying40
  have hu44 := Try.underlying44
  have p1 : decide (100 < (L : Int)) = false := decide_eq_false (by omega)
  have HR0 := Aside0.mk hr0
  have HLL := Aside0.mk hL
  have HB := Aside0.mk (Below.refl w.heap.size w)
  clear hr0 hL
  go_enter Try.func4, Try.ntmps4
  go_wp2_with (first | ((with_reducible refine gate_callee (f := 7) rfl ?_); refine goesL_ (some 24) rfl rfl Try.func7 (by kernel_rfl) rfl #[.int .i64 most] rfl (by (try simp only [List.map_toArray, List.map_cons, List.map_nil]); first | done | rfl) ?_; (refine (New_v most _ hm1 hm2).mono ?_); rintro e z1_ ⟨g, rfl, hg0, ha, hb⟩; refine ⟨_, rfl, ?_⟩; have HA := Aside0.mk ha; have HGG := Aside0.mk hg0; have n_HB := Aside0.mk (below_step HB.out hb); clear HB; have HB := n_HB; clear n_HB; clear hb ha hg0) | ((with_reducible refine gate_callee (f := 12) rfl ?_); refine goesL_ (some 29) rfl rfl Try.func12 (by kernel_rfl) rfl #[.int .i64 most] rfl (by (try simp only [List.map_toArray, List.map_cons, List.map_nil]); first | done | rfl) ?_; (refine (refNew_v most _ hm1 hm2).mono ?_); rintro e z2_ ⟨gm, rfl, hg0, hm, hb⟩; refine ⟨_, rfl, ?_⟩; have HG : Aside0 (BG w.heap.size w z2_ g (.slice none 0 0) [] most 0 gm (.slice none 0 0) []) := ⟨⟨⟨AG_below HA.out hb, HGG.out, fun k hk => by simp [Value.ownBlock] at hk⟩, ⟨hm, Kd.R_nil _ _ _ _ _, Nat.le_trans HB.out.size hg0⟩, below_step HB.out hb, Nat.le_trans HB.out.size hb.size⟩⟩; clear HA HB HGG hm hg0 hb))
  clear p1
  go_loopw [9] (fun v9 wr => ∃ (i : Nat) (v : Value) (Au : Option Addr) (cu : Nat) (l : List S60) (ml : List S24) (n : Int), i ≤ L ∧ v9 = .int .i64 (i : Int) ∧ Aside0 (Rel l ml n ∧ 0 ≤ n ∧ n ≤ (i : Int) ∧ (l.length : Int) ≤ most ∧ l.length ≤ i) ∧ Aside0 (BG w.heap.size w wr g v l most n gm (Value.slice Au ml.length cu) ml)) (fun v9 _ => ((L : Int) - intOf v9).toNat)
  case atStart => exact ⟨0, _, none, 0, [], [], 0, by omega, rfl, ⟨rel_nil, by omega, by omega, by simp; omega, by simp⟩, HG⟩
  case round =>
    clear HG
    obtain ⟨i, v, Au, cu, l, ml, n, hi, rfl, HI, HG⟩ := hrel
    have hlen := rel_len HI.out.1
    have HL : Aside0 (l.length ≤ 1000000) := ⟨by have := HI.out.2.2.2.2; omega⟩
    have HML : Aside0 (ml.length ≤ 1000000) := ⟨by have := HI.out.2.2.2.2; omega⟩
    have HN0 : Aside0 (0 ≤ n) := ⟨HI.out.2.1⟩
    have HN1 : Aside0 (n ≤ 1000000) := ⟨by have := HI.out.2.2.1; omega⟩
    by_cases hlt : i < L
    · have p3 : decide ((i : Int) < (L : Int)) = true := decide_eq_true (by omega)
      have hwi : IntKind.i64.wrap ((i : Int) + 1) = (i : Int) + 1 := by rw [i64_w]; unfold wrap64; omega
      obtain ⟨ad, e2, hz0, hz1, hz2, hz3, hz4, hz5⟩ := at_T40 HR0.out (i : Int) (by omega) (by rw [HLL.out]; omega)
      subst e2
      obtain ⟨k0, x, till, hs⟩ : ∃ k0 x till, rd_T40 scr (i : Int) = ⟨k0, x, till⟩ := ⟨_, _, _, rfl⟩
      rw [hs] at hz0 hz1 hz2 hz3 hz4 hz5
      simp only [Int.toNat_natCast] at hz0 hz1 hz2 hz3 hz4 hz5
      replace hz0 := pw_cell_below HG.out.2.2.1 hz0
      replace hz1 := pw_cell_below HG.out.2.2.1 hz1
      replace hz2 := pw_cell_below HG.out.2.2.1 hz2
      replace hz3 := pw_cell_below HG.out.2.2.1 hz3
      replace hz4 := pw_cell_below HG.out.2.2.1 hz4
      replace hz5 := pw_cell_below HG.out.2.2.1 hz5
      clear hs hlen
      by_cases hk : k0 = 0
      · have p4 : (k0 == 0) = true := beq_iff_eq.mpr hk
        obtain ⟨q, l', n', ml', hpa, hpr, hre, hn1, hn2, hl1, hl2⟩ := do_put HI.out.1 HI.out.2.2.2.1 x
        have hll : l'.length ≤ 1000000 := by have := HI.out.2.2.2.2; omega
        obtain ⟨pq, px, pb, hkf, hka, hkr⟩ := do_peek hre hll
        have HPA := Aside0.mk hpa
        have HPR := Aside0.mk hpr
        have HRE := Aside0.mk hre
        have HKF := Aside0.mk hkf
        have HKA := Aside0.mk hka
        have HKR := Aside0.mk hkr
        have HLEN := Aside0.mk (rel_len hre)
        have HNN : Aside0 (n ≤ n' ∧ n' ≤ n + 1 ∧ (l'.length : Int) ≤ most ∧ l'.length ≤ l.length + 1) := ⟨⟨hn1, hn2, hl1, hl2⟩⟩
        clear hk hpa hpr hre hkf hka hkr hn1 hn2 hl1 hl2 hll
        go_wp2_with (first | ((with_reducible refine gate_dst (N := 10) rfl ?_); refine box_event ?hg (N := 10) ?hd (cs := #[.int .i64 0, .int .i64 0, .int .i64 0, .int .i64 0, .int .u64 0, .int .i64 0]) (t := 40) ?hr ?_; (case hd => rfl); (case hg => rfl); (case hr => first | (go_simp; done) | (go_simp; rfl)); intro g_BS hg y1_ hbox hb; have HGE : Aside0 (wr.heap.size ≤ g_BS) := ⟨by rw [hg]; exact Nat.le_refl _⟩; have HWB := Aside0.mk hb; have BS := Aside0.mk hbox; clear hbox hb hg) | ((with_reducible refine gate_store (t := 40) (p := 10) rfl ?_); refine store_event (t := 40) (p := 10) (v := .tmp 55) (w1 := (y1_).setRow g_BS #[.int .i64 k0, .int .i64 x.f0, .int .i64 x.f1, .int .i64 x.f2, .int .u64 x.f3, .int .i64 till]) ?hg ?ho ?hn ?hr ?_; (case ho => rfl); (case hg => rfl); (case hn => rfl); (case hr => exact run_store_row 40 _ _ _ _ rfl rfl rfl BS.out (by kernel_rfl) rfl (by kernel_rfl)); intro y2_ hw; have n_HWB : Aside0 (Below wr.heap.size wr y2_) := ⟨by rw [hw]; exact below_setRow HWB.out HGE.out _⟩; have n_BS : Aside0 (y2_.heap[g_BS]? = some (.cells #[.int .i64 k0, .int .i64 x.f0, .int .i64 x.f1, .int .i64 x.f2, .int .u64 x.f3, .int .i64 till] 40 (0, 0))) := ⟨by rw [hw]; exact blk_row _ BS.out⟩; clear hw HWB BS; have HWB := n_HWB; have BS := n_BS; clear n_HWB n_BS; have hb := HWB.out; clear HWB HGE; have n_HG := Aside0.mk (BG_below HG.out hb); clear HG; have HG := n_HG; clear n_HG; clear hb; clear hz0 hz1 hz2 hz3 hz4 hz5; have hs0 : y2_.cell? ⟨g_BS, 0, none⟩ = some (.int .i64 k0) := (blk_cell BS.out 0).trans rfl; have hs1 : y2_.cell? ⟨g_BS, 1, none⟩ = some (.int .i64 x.f0) := (blk_cell BS.out 1).trans rfl; have hs2 : y2_.cell? ⟨g_BS, 2, none⟩ = some (.int .i64 x.f1) := (blk_cell BS.out 2).trans rfl; have hs3 : y2_.cell? ⟨g_BS, 3, none⟩ = some (.int .i64 x.f2) := (blk_cell BS.out 3).trans rfl; have hs4 : y2_.cell? ⟨g_BS, 4, none⟩ = some (.int .u64 x.f3) := (blk_cell BS.out 4).trans rfl; have hs5 : y2_.cell? ⟨g_BS, 5, none⟩ = some (.int .i64 till) := (blk_cell BS.out 5).trans rfl))
        refine start_ (n := 9) (S := fun w' => w'.cell? ⟨g_BS, 1, none⟩ = some (.int .i64 x.f0) ∧ w'.cell? ⟨g_BS, 2, none⟩ = some (.int .i64 x.f1) ∧ w'.cell? ⟨g_BS, 3, none⟩ = some (.int .i64 x.f2) ∧ w'.cell? ⟨g_BS, 4, none⟩ = some (.int .u64 x.f3)) (ds := []) #[false, false, false, false, false, false, false, false, false] (by kernel_rfl) rfl rfl ⟨(blk_cell BS.out 1).trans rfl, (blk_cell BS.out 2).trans rfl, (blk_cell BS.out 3).trans rfl, (blk_cell BS.out 4).trans rfl⟩ (fun hHeld => ?_)
        replace HG := Aside0.mk (BG_drew HG.out)
        replace BS := Aside0.mk (blk_drew BS.out)
        generalize y2_.drew = r1_ at HG BS hHeld ⊢
        refine pure_ (i := 0) (N := (some 59)) (v := ?_) (a' := ?_) #[true, false, false, false, false, false, false, false, false] rfl rfl (by decide +kernel) (fun _ _ _ h => h) (Or.inl ⟨by rfl, ?_⟩) ?_ ?_
        rotate_left
        · intro w'
          go_simp
          with_reducible rfl
        rotate_left
        · simp only [Act.put, List.setIfInBounds_toArray, List.set_cons_zero, List.set_cons_succ, i64_w, i32_w]
          rfl
        refine pure_ (i := 1) (N := (some 60)) (v := ?_) (a' := ?_) #[true, true, false, false, false, false, false, false, false] rfl rfl (by decide +kernel) (fun _ _ _ h => h) (Or.inl ⟨by rfl, ?_⟩) ?_ ?_
        rotate_left
        · intro w'
          go_simp
          with_reducible rfl
        rotate_left
        · simp only [Act.put, List.setIfInBounds_toArray, List.set_cons_zero, List.set_cons_succ, i64_w, i32_w]
          rfl
        refine take_ (i := 2) (N := (some 61)) (v := ?_) (a' := ?_) #[true, true, true, false, false, false, false, false, false] rfl rfl (by decide +kernel) (fun _ _ _ h => h) (Or.inl ⟨by rfl, ?_⟩) hHeld ?_ ?_
        rotate_left
        · rintro w' ⟨s1, s2, s3, s4⟩
          go_simp
          with_reducible rfl
        rotate_left
        · simp only [Act.put, List.setIfInBounds_toArray, List.set_cons_zero, List.set_cons_succ, i64_w, i32_w]
          rfl
        refine pure_ (i := 4) (N := (some 63)) (v := ?_) (a' := ?_) #[true, true, true, false, true, false, false, false, false] rfl rfl (by decide +kernel) (fun _ _ _ h => h) (Or.inl ⟨by rfl, ?_⟩) ?_ ?_
        rotate_left
        · intro w'
          go_simp
          with_reducible rfl
        rotate_left
        · simp only [Act.put, List.setIfInBounds_toArray, List.set_cons_zero, List.set_cons_succ, i64_w, i32_w]
          rfl
        refine pure_ (i := 5) (N := (some 64)) (v := ?_) (a' := ?_) #[true, true, true, false, true, true, false, false, false] rfl rfl (by decide +kernel) (fun _ _ _ h => h) (Or.inl ⟨by rfl, ?_⟩) ?_ ?_
        rotate_left
        · intro w'
          go_simp
          with_reducible rfl
        rotate_left
        · simp only [Act.put, List.setIfInBounds_toArray, List.set_cons_zero, List.set_cons_succ, i64_w, i32_w]
          rfl
        refine take_ (i := 6) (N := (some 65)) (v := ?_) (a' := ?_) #[true, true, true, false, true, true, true, false, false] rfl rfl (by decide +kernel) (fun _ _ _ h => h) (Or.inl ⟨by rfl, ?_⟩) hHeld ?_ ?_
        rotate_left
        · rintro w' ⟨s1, s2, s3, s4⟩
          go_simp
          with_reducible rfl
        rotate_left
        · simp only [Act.put, List.setIfInBounds_toArray, List.set_cons_zero, List.set_cons_succ, i64_w, i32_w]
          rfl
        refine one_ (i := 3) (N := (some 62)) #[true, true, true, true, true, true, true, false, false] rfl rfl (by decide +kernel) (by decide) (fun K hK => ?_)
        refine goes_ Try.func9 (by kernel_rfl) rfl #[.pointer (some ⟨g, 0, none⟩), .agg #[.int .i64 x.f0, .int .i64 x.f1, .int .i64 x.f2, .int .u64 x.f3]] (by rfl) rfl rfl (by (try simp only [List.map_toArray, List.map_cons, List.map_nil]); first | done | rfl) ?_
        refine (BPut w.heap.size w g v l most n gm (.slice Au ml.length cu) ml x q l' n' _ HG.out HL.out HN0.out HN1.out HPA.out).mono ?_
        rintro e r2_ ⟨v2, rfl, hG, hs40⟩
        refine ⟨_, rfl, ?_⟩
        have n_S := Aside0.mk (hs40 _ _ BS.out)
        replace HG := Aside0.mk hG
        clear BS hG hs40
        have BS := n_S
        clear n_S
        refine hK.out _ _ ⟨(blk_cell BS.out 1).trans rfl, (blk_cell BS.out 2).trans rfl, (blk_cell BS.out 3).trans rfl, (blk_cell BS.out 4).trans rfl⟩ (fun hHeld => ?_)
        clear hK K
        refine norm_ (a' := ?_) ?_ ?_
        rotate_left
        · show Act.put _ (some 62) _ = _
          simp only [Act.put, List.setIfInBounds_toArray, List.set_cons_zero, List.set_cons_succ, i64_w, i32_w]
          rfl
        refine one_ (i := 7) (N := (some 66)) #[true, true, true, true, true, true, true, true, false] rfl rfl (by decide +kernel) (by decide) (fun K hK => ?_)
        refine goes_ Try.func13 (by kernel_rfl) rfl #[.pointer (some ⟨gm, 0, none⟩), .agg #[.int .i64 x.f0, .int .i64 x.f1, .int .i64 x.f2, .int .u64 x.f3]] (by rfl) rfl rfl (by (try simp only [List.map_toArray, List.map_cons, List.map_nil]); first | done | rfl) ?_
        refine (BrPut w.heap.size w g v2 l' most n' gm (.slice Au ml.length cu) ml x q ml' _ HG.out HML.out HPR.out).mono ?_
        rintro e r3_ ⟨A2, c2, rfl, hG, hs40⟩
        refine ⟨_, rfl, ?_⟩
        have n_S := Aside0.mk (hs40 _ _ BS.out)
        replace HG := Aside0.mk hG
        clear BS hG hs40
        have BS := n_S
        clear n_S
        refine hK.out _ _ ⟨(blk_cell BS.out 1).trans rfl, (blk_cell BS.out 2).trans rfl, (blk_cell BS.out 3).trans rfl, (blk_cell BS.out 4).trans rfl⟩ (fun hHeld => ?_)
        clear hK K
        refine norm_ (a' := ?_) ?_ ?_
        rotate_left
        · show Act.put _ (some 66) _ = _
          simp only [Act.put, List.setIfInBounds_toArray, List.set_cons_zero, List.set_cons_succ, i64_w, i32_w]
          rfl
        refine pure_ (i := 8) (N := (some 67)) (v := ?_) (a' := ?_) #[true, true, true, true, true, true, true, true, true] rfl rfl (by decide +kernel) (fun _ _ _ h => h) (Or.inl ⟨by rfl, ?_⟩) ?_ ?_
        rotate_left
        · intro w'
          go_simp
          with_reducible rfl
        rotate_left
        · simp only [Act.put, List.setIfInBounds_toArray, List.set_cons_zero, List.set_cons_succ, i64_w, i32_w]
          rfl
        refine done_ (by kernel_rfl) ?_
        clear BS
        go_wp2_with (first | ((with_reducible refine gate_callee (f := 15) rfl ?_); refine goesL_ (some 92) rfl rfl Try.func15 (by kernel_rfl) rfl #[.pointer (some ⟨g, 0, none⟩)] rfl (by (try simp only [List.map_toArray, List.map_cons, List.map_nil]); first | done | rfl) ?_; (refine (BPeek w.heap.size w g v2 l' most n' gm (.slice A2 ml'.length c2) ml' px pb _ HG.out HKA.out).mono ?_); rintro e y101_ ⟨rfl, hb⟩; refine ⟨_, rfl, ?_⟩; have n_HG := Aside0.mk (BG_below HG.out hb); clear HG; have HG := n_HG; clear n_HG; clear hb) | ((with_reducible refine gate_dst (N := 15) rfl ?_); refine box_event ?hg (N := 15) ?hd (cs := #[.int .i64 0, .int .i64 0, .int .i64 0, .int .u64 0]) (t := 24) ?hr ?_; (case hd => rfl); (case hg => rfl); (case hr => first | (go_simp; done) | (go_simp; rfl)); intro g_BP hg y102_ hbox hb; have HGE : Aside0 (y101_.heap.size ≤ g_BP) := ⟨by rw [hg]; exact Nat.le_refl _⟩; have HWB := Aside0.mk hb; have BP := Aside0.mk hbox; clear hbox hb hg) | ((with_reducible refine gate_store (t := 24) (p := 15) rfl ?_); refine store_event (t := 24) (p := 15) (v := .tmp 93) (w1 := (y102_).setRow g_BP #[.int .i64 px.f0, .int .i64 px.f1, .int .i64 px.f2, .int .u64 px.f3]) ?hg ?ho ?hn ?hr ?_; (case ho => rfl); (case hg => rfl); (case hn => rfl); (case hr => exact run_store_row 24 _ _ _ _ rfl rfl rfl BP.out (by kernel_rfl) rfl (by kernel_rfl)); intro y103_ hw; have n_HWB : Aside0 (Below y101_.heap.size y101_ y103_) := ⟨by rw [hw]; exact below_setRow HWB.out HGE.out _⟩; have n_BP : Aside0 (y103_.heap[g_BP]? = some (.cells #[.int .i64 px.f0, .int .i64 px.f1, .int .i64 px.f2, .int .u64 px.f3] 24 (0, 0))) := ⟨by rw [hw]; exact blk_row _ BP.out⟩; clear hw HWB BP; have HWB := n_HWB; have BP := n_BP; clear n_HWB n_BP; have hb := HWB.out; clear HWB HGE; have n_HG := Aside0.mk (BG_below HG.out hb); clear HG; have HG := n_HG; clear n_HG; clear hb) | ((with_reducible refine gate_callee (f := 16) rfl ?_); refine goesL_ (some 97) rfl rfl Try.func16 (by kernel_rfl) rfl #[.pointer (some ⟨gm, 0, none⟩)] rfl (by (try simp only [List.map_toArray, List.map_cons, List.map_nil]); first | done | rfl) ?_; (refine (BrPeek w.heap.size w g v2 l' most n' gm (.slice A2 ml'.length c2) ml' pq px pb _ HG.out HKF.out HKR.out).mono ?_); rintro e y104_ ⟨rfl, hb⟩; refine ⟨_, rfl, ?_⟩; have n_HG := Aside0.mk (BG_below HG.out hb); have n_BP := Aside0.mk (blk_below BP.out hb); clear HG BP; have HG := n_HG; have BP := n_BP; clear n_HG n_BP; clear hb) | ((with_reducible refine gate_dst (N := 17) rfl ?_); refine box_event ?hg (N := 17) ?hd (cs := #[.int .i64 0, .int .i64 0, .int .i64 0, .int .u64 0]) (t := 24) ?hr ?_; (case hd => rfl); (case hg => rfl); (case hr => first | (go_simp; done) | (go_simp; rfl)); intro g_BQ hg y105_ hbox hb; have HGE : Aside0 (y104_.heap.size ≤ g_BQ) := ⟨by rw [hg]; exact Nat.le_refl _⟩; have HWB := Aside0.mk hb; have BQ := Aside0.mk hbox; clear hbox hb hg) | ((with_reducible refine gate_store (t := 24) (p := 17) rfl ?_); refine store_event (t := 24) (p := 17) (v := .tmp 98) (w1 := (y105_).setRow g_BQ #[.int .i64 px.f0, .int .i64 px.f1, .int .i64 px.f2, .int .u64 px.f3]) ?hg ?ho ?hn ?hr ?_; (case ho => rfl); (case hg => rfl); (case hn => rfl); (case hr => exact run_store_row 24 _ _ _ _ rfl rfl rfl BQ.out (by kernel_rfl) rfl (by kernel_rfl)); intro y106_ hw; have n_HWB : Aside0 (Below y104_.heap.size y104_ y106_) := ⟨by rw [hw]; exact below_setRow HWB.out HGE.out _⟩; have n_BQ : Aside0 (y106_.heap[g_BQ]? = some (.cells #[.int .i64 px.f0, .int .i64 px.f1, .int .i64 px.f2, .int .u64 px.f3] 24 (0, 0))) := ⟨by rw [hw]; exact blk_row _ BQ.out⟩; clear hw HWB BQ; have HWB := n_HWB; have BQ := n_BQ; clear n_HWB n_BQ; have hb := HWB.out; clear HWB HGE; have n_HG := Aside0.mk (BG_below HG.out hb); have n_BP := Aside0.mk (blk_below BP.out hb); clear HG BP; have HG := n_HG; have BP := n_BP; clear n_HG n_BP; clear hb))
        refine start_ (n := 18) (S := fun w' => w'.cell? ⟨g_BP, 0, none⟩ = some (.int .i64 px.f0) ∧ w'.cell? ⟨g_BP, 1, none⟩ = some (.int .i64 px.f1) ∧ w'.cell? ⟨g_BP, 2, none⟩ = some (.int .i64 px.f2) ∧ w'.cell? ⟨g_BP, 3, none⟩ = some (.int .u64 px.f3) ∧ w'.cell? ⟨g_BQ, 0, none⟩ = some (.int .i64 px.f0) ∧ w'.cell? ⟨g_BQ, 1, none⟩ = some (.int .i64 px.f1) ∧ w'.cell? ⟨g_BQ, 2, none⟩ = some (.int .i64 px.f2) ∧ w'.cell? ⟨g_BQ, 3, none⟩ = some (.int .u64 px.f3) ∧ w'.cell? ⟨gm, 1, none⟩ = some (.slice A2 ml'.length c2)) (ds := []) #[false, false, false, false, false, false, false, false, false, false, false, false, false, false, false, false, false, false] (by kernel_rfl) rfl rfl ⟨(blk_cell BP.out 0).trans rfl, (blk_cell BP.out 1).trans rfl, (blk_cell BP.out 2).trans rfl, (blk_cell BP.out 3).trans rfl, (blk_cell BQ.out 0).trans rfl, (blk_cell BQ.out 1).trans rfl, (blk_cell BQ.out 2).trans rfl, (blk_cell BQ.out 3).trans rfl, (blk_cell HG.out.2.1.1 1).trans rfl⟩ (fun hHeld => ?_)
        replace HG := Aside0.mk (BG_drew HG.out)
        replace BP := Aside0.mk (blk_drew BP.out)
        replace BQ := Aside0.mk (blk_drew BQ.out)
        generalize y106_.drew = t1_ at HG BP BQ hHeld ⊢
        refine take_ (i := 0) (N := (some 100)) (v := ?_) (a' := ?_) #[true, false, false, false, false, false, false, false, false, false, false, false, false, false, false, false, false, false] rfl rfl (by decide +kernel) (fun _ _ _ h => h) (Or.inl ⟨by rfl, ?_⟩) hHeld ?_ ?_
        rotate_left
        · rintro w' ⟨s0, s1, s2, s3, s4, s5, s6, s7, s8⟩
          go_simp
          with_reducible rfl
        rotate_left
        · simp only [Act.put, List.setIfInBounds_toArray, List.set_cons_zero, List.set_cons_succ, i64_w, i32_w]
          rfl
        refine take_ (i := 1) (N := (some 101)) (v := ?_) (a' := ?_) #[true, true, false, false, false, false, false, false, false, false, false, false, false, false, false, false, false, false] rfl rfl (by decide +kernel) (fun _ _ _ h => h) (Or.inl ⟨by rfl, ?_⟩) hHeld ?_ ?_
        rotate_left
        · rintro w' ⟨s0, s1, s2, s3, s4, s5, s6, s7, s8⟩
          go_simp
          with_reducible rfl
        rotate_left
        · simp only [Act.put, List.setIfInBounds_toArray, List.set_cons_zero, List.set_cons_succ, i64_w, i32_w]
          rfl
        refine pure_ (i := 2) (N := (some 102)) (v := ?_) (a' := ?_) #[true, true, true, false, false, false, false, false, false, false, false, false, false, false, false, false, false, false] rfl rfl (by decide +kernel) (fun _ _ _ h => h) (Or.inl ⟨by rfl, ?_⟩) ?_ ?_
        rotate_left
        · intro w'
          go_simp
          with_reducible rfl
        rotate_left
        · simp only [Act.put, List.setIfInBounds_toArray, List.set_cons_zero, List.set_cons_succ, i64_w, i32_w]
          rfl
        refine pure_ (i := 3) (N := (some 103)) (v := ?_) (a' := ?_) #[true, true, true, true, false, false, false, false, false, false, false, false, false, false, false, false, false, false] rfl rfl (by decide +kernel) (fun _ _ _ h => h) (Or.inl ⟨by rfl, ?_⟩) ?_ ?_
        rotate_left
        · intro w'
          go_simp
          with_reducible rfl
        rotate_left
        · simp only [Act.put, List.setIfInBounds_toArray, List.set_cons_zero, List.set_cons_succ, i64_w, i32_w]
          rfl
        refine pure_ (i := 4) (N := (some 104)) (v := ?_) (a' := ?_) #[true, true, true, true, true, false, false, false, false, false, false, false, false, false, false, false, false, false] rfl rfl (by decide +kernel) (fun _ _ _ h => h) (Or.inl ⟨by rfl, ?_⟩) ?_ ?_
        rotate_left
        · intro w'
          go_simp
          with_reducible rfl
        rotate_left
        · simp only [Act.put, List.setIfInBounds_toArray, List.set_cons_zero, List.set_cons_succ, i64_w, i32_w]
          rfl
        refine pure_ (i := 5) (N := (some 105)) (v := ?_) (a' := ?_) #[true, true, true, true, true, true, false, false, false, false, false, false, false, false, false, false, false, false] rfl rfl (by decide +kernel) (fun _ _ _ h => h) (Or.inl ⟨by rfl, ?_⟩) ?_ ?_
        rotate_left
        · intro w'
          go_simp
          with_reducible rfl
        rotate_left
        · simp only [Act.put, List.setIfInBounds_toArray, List.set_cons_zero, List.set_cons_succ, i64_w, i32_w]
          rfl
        refine pure_ (i := 6) (N := (some 106)) (v := ?_) (a' := ?_) #[true, true, true, true, true, true, true, false, false, false, false, false, false, false, false, false, false, false] rfl rfl (by decide +kernel) (fun _ _ _ h => h) (Or.inl ⟨by rfl, ?_⟩) ?_ ?_
        rotate_left
        · intro w'
          go_simp
          with_reducible rfl
        rotate_left
        · simp only [Act.put, List.setIfInBounds_toArray, List.set_cons_zero, List.set_cons_succ, i64_w, i32_w]
          rfl
        refine pure_ (i := 7) (N := (some 107)) (v := ?_) (a' := ?_) #[true, true, true, true, true, true, true, true, false, false, false, false, false, false, false, false, false, false] rfl rfl (by decide +kernel) (fun _ _ _ h => h) (Or.inl ⟨by rfl, ?_⟩) ?_ ?_
        rotate_left
        · intro w'
          go_simp
          with_reducible rfl
        rotate_left
        · simp only [Act.put, List.setIfInBounds_toArray, List.set_cons_zero, List.set_cons_succ, i64_w, i32_w]
          rfl
        refine pure_ (i := 8) (N := (some 108)) (v := ?_) (a' := ?_) #[true, true, true, true, true, true, true, true, true, false, false, false, false, false, false, false, false, false] rfl rfl (by decide +kernel) (fun _ _ _ h => h) (Or.inl ⟨by rfl, ?_⟩) ?_ ?_
        rotate_left
        · intro w'
          go_simp
          with_reducible rfl
        rotate_left
        · simp only [Act.put, List.setIfInBounds_toArray, List.set_cons_zero, List.set_cons_succ, i64_w, i32_w]
          rfl
        refine pure_ (i := 9) (N := (some 109)) (v := ?_) (a' := ?_) #[true, true, true, true, true, true, true, true, true, true, false, false, false, false, false, false, false, false] rfl rfl (by decide +kernel) (fun _ _ _ h => h) (Or.inl ⟨by rfl, ?_⟩) ?_ ?_
        rotate_left
        · intro w'
          go_simp
          with_reducible rfl
        rotate_left
        · simp only [Act.put, List.setIfInBounds_toArray, List.set_cons_zero, List.set_cons_succ, i64_w, i32_w]
          rfl
        refine pure_ (i := 11) (N := (some 111)) (v := ?_) (a' := ?_) #[true, true, true, true, true, true, true, true, true, true, false, true, false, false, false, false, false, false] rfl rfl (by decide +kernel) (fun _ _ _ h => h) (Or.inl ⟨by rfl, ?_⟩) ?_ ?_
        rotate_left
        · intro w'
          go_simp
          with_reducible rfl
        rotate_left
        · simp only [Act.put, List.setIfInBounds_toArray, List.set_cons_zero, List.set_cons_succ, i64_w, i32_w]
          rfl
        refine pure_ (i := 12) (N := (some 112)) (v := ?_) (a' := ?_) #[true, true, true, true, true, true, true, true, true, true, false, true, true, false, false, false, false, false] rfl rfl (by decide +kernel) (fun _ _ _ h => h) (Or.inl ⟨by rfl, ?_⟩) ?_ ?_
        rotate_left
        · intro w'
          go_simp
          with_reducible rfl
        rotate_left
        · simp only [Act.put, List.setIfInBounds_toArray, List.set_cons_zero, List.set_cons_succ, i64_w, i32_w]
          rfl
        refine pure_ (i := 13) (N := (some 113)) (v := ?_) (a' := ?_) #[true, true, true, true, true, true, true, true, true, true, false, true, true, true, false, false, false, false] rfl rfl (by decide +kernel) (fun _ _ _ h => h) (Or.inl ⟨by rfl, ?_⟩) ?_ ?_
        rotate_left
        · intro w'
          go_simp
          with_reducible rfl
        rotate_left
        · simp only [Act.put, List.setIfInBounds_toArray, List.set_cons_zero, List.set_cons_succ, i64_w, i32_w]
          rfl
        refine take_ (i := 14) (N := (some 114)) (v := ?_) (a' := ?_) #[true, true, true, true, true, true, true, true, true, true, false, true, true, true, true, false, false, false] rfl rfl (by decide +kernel) (fun _ _ _ h => h) (Or.inl ⟨by rfl, ?_⟩) hHeld ?_ ?_
        rotate_left
        · rintro w' ⟨s0, s1, s2, s3, s4, s5, s6, s7, s8⟩
          go_simp
          with_reducible rfl
        rotate_left
        · simp only [Act.put, List.setIfInBounds_toArray, List.set_cons_zero, List.set_cons_succ, i64_w, i32_w]
          rfl
        refine pure_ (i := 15) (N := (some 115)) (v := ?_) (a' := ?_) #[true, true, true, true, true, true, true, true, true, true, false, true, true, true, true, true, false, false] rfl rfl (by decide +kernel) (fun _ _ _ h => h) (Or.inl ⟨by rfl, ?_⟩) ?_ ?_
        rotate_left
        · intro w'
          go_simp
          with_reducible rfl
        rotate_left
        · simp only [Act.put, List.setIfInBounds_toArray, List.set_cons_zero, List.set_cons_succ, i64_w, i32_w]
          rfl
        refine one_ (i := 10) (N := (some 110)) #[true, true, true, true, true, true, true, true, true, true, true, true, true, true, true, true, false, false] rfl rfl (by decide +kernel) (by decide) (fun K hK => ?_)
        refine goes_ Try.func10 (by kernel_rfl) rfl #[.pointer (some ⟨g, 0, none⟩)] (by rfl) rfl rfl (by (try simp only [List.map_toArray, List.map_cons, List.map_nil]); first | done | rfl) ?_
        refine (BLen w.heap.size w g v2 l' most n' gm (.slice A2 ml'.length c2) ml' _ HG.out HLEN.out).mono ?_
        rintro e t2_ ⟨rfl, hb⟩
        refine ⟨_, rfl, ?_⟩
        replace BP := Aside0.mk (blk_below BP.out hb)
        replace BQ := Aside0.mk (blk_below BQ.out hb)
        replace HG := Aside0.mk (BG_below HG.out hb)
        clear hb
        refine hK.out _ _ ⟨(blk_cell BP.out 0).trans rfl, (blk_cell BP.out 1).trans rfl, (blk_cell BP.out 2).trans rfl, (blk_cell BP.out 3).trans rfl, (blk_cell BQ.out 0).trans rfl, (blk_cell BQ.out 1).trans rfl, (blk_cell BQ.out 2).trans rfl, (blk_cell BQ.out 3).trans rfl, (blk_cell HG.out.2.1.1 1).trans rfl⟩ (fun hHeld => ?_)
        clear hK K
        refine norm_ (a' := ?_) ?_ ?_
        rotate_left
        · show Act.put _ (some 110) _ = _
          simp only [Act.put, List.setIfInBounds_toArray, List.set_cons_zero, List.set_cons_succ, i64_w, i32_w]
          rfl
        refine pure_ (i := 16) (N := (some 116)) (v := ?_) (a' := ?_) #[true, true, true, true, true, true, true, true, true, true, true, true, true, true, true, true, true, false] rfl rfl (by decide +kernel) (fun _ _ _ h => h) (Or.inl ⟨by rfl, ?_⟩) ?_ ?_
        rotate_left
        · intro w'
          go_simp
          with_reducible rfl
        rotate_left
        · simp only [Act.put, List.setIfInBounds_toArray, List.set_cons_zero, List.set_cons_succ, i64_w, i32_w]
          rfl
        refine pure_ (i := 17) (N := (some 117)) (v := ?_) (a' := ?_) #[true, true, true, true, true, true, true, true, true, true, true, true, true, true, true, true, true, true] rfl rfl (by decide +kernel) (fun _ _ _ h => h) (Or.inl ⟨by rfl, ?_⟩) ?_ ?_
        rotate_left
        · intro w'
          go_simp
          with_reducible rfl
        rotate_left
        · simp only [Act.put, List.setIfInBounds_toArray, List.set_cons_zero, List.set_cons_succ, i64_w, i32_w]
          rfl
        refine done_ (by kernel_rfl) ?_
        go_wp2
        go_roundw
        case rel => exact ⟨i + 1, v2, A2, c2, l', ml', n', by omega, by go_num, ⟨HRE.out, by have := HNN.out; have := HI.out; omega, by have := HNN.out; have := HI.out; omega, HNN.out.2.2.1, by have := HNN.out; have := HI.out; omega⟩, HG⟩
        case measure => simp [intOf]; omega
      · have p4 : (k0 == 0) = false := beq_eq_false_iff_ne.mpr hk
        obtain ⟨q, x1, b1, l', ml', hf, hna, hnr, hre, hl2⟩ := do_next HI.out.1 HL.out till
        have hll : l'.length ≤ 1000000 := by have := HL.out; omega
        obtain ⟨pq, px, pb, hkf, hka, hkr⟩ := do_peek hre hll
        have HF := Aside0.mk hf
        have HNA := Aside0.mk hna
        have HNR := Aside0.mk hnr
        have HRE := Aside0.mk hre
        have HKF := Aside0.mk hkf
        have HKA := Aside0.mk hka
        have HKR := Aside0.mk hkr
        have HLEN := Aside0.mk (rel_len hre)
        have HNN := Aside0.mk hl2
        clear hk hf hna hnr hre hkf hka hkr hl2 hll
        go_wp2_with (first | ((with_reducible refine gate_dst (N := 10) rfl ?_); refine box_event ?hg (N := 10) ?hd (cs := #[.int .i64 0, .int .i64 0, .int .i64 0, .int .i64 0, .int .u64 0, .int .i64 0]) (t := 40) ?hr ?_; (case hd => rfl); (case hg => rfl); (case hr => first | (go_simp; done) | (go_simp; rfl)); intro g_BS hg y1_ hbox hb; have HGE : Aside0 (wr.heap.size ≤ g_BS) := ⟨by rw [hg]; exact Nat.le_refl _⟩; have HWB := Aside0.mk hb; have BS := Aside0.mk hbox; clear hbox hb hg) | ((with_reducible refine gate_store (t := 40) (p := 10) rfl ?_); refine store_event (t := 40) (p := 10) (v := .tmp 55) (w1 := (y1_).setRow g_BS #[.int .i64 k0, .int .i64 x.f0, .int .i64 x.f1, .int .i64 x.f2, .int .u64 x.f3, .int .i64 till]) ?hg ?ho ?hn ?hr ?_; (case ho => rfl); (case hg => rfl); (case hn => rfl); (case hr => exact run_store_row 40 _ _ _ _ rfl rfl rfl BS.out (by kernel_rfl) rfl (by kernel_rfl)); intro y2_ hw; have n_HWB : Aside0 (Below wr.heap.size wr y2_) := ⟨by rw [hw]; exact below_setRow HWB.out HGE.out _⟩; have n_BS : Aside0 (y2_.heap[g_BS]? = some (.cells #[.int .i64 k0, .int .i64 x.f0, .int .i64 x.f1, .int .i64 x.f2, .int .u64 x.f3, .int .i64 till] 40 (0, 0))) := ⟨by rw [hw]; exact blk_row _ BS.out⟩; clear hw HWB BS; have HWB := n_HWB; have BS := n_BS; clear n_HWB n_BS; have hb := HWB.out; clear HWB HGE; have n_HG := Aside0.mk (BG_below HG.out hb); clear HG; have HG := n_HG; clear n_HG; clear hb; clear hz0 hz1 hz2 hz3 hz4 hz5; have hs0 : y2_.cell? ⟨g_BS, 0, none⟩ = some (.int .i64 k0) := (blk_cell BS.out 0).trans rfl; have hs1 : y2_.cell? ⟨g_BS, 1, none⟩ = some (.int .i64 x.f0) := (blk_cell BS.out 1).trans rfl; have hs2 : y2_.cell? ⟨g_BS, 2, none⟩ = some (.int .i64 x.f1) := (blk_cell BS.out 2).trans rfl; have hs3 : y2_.cell? ⟨g_BS, 3, none⟩ = some (.int .i64 x.f2) := (blk_cell BS.out 3).trans rfl; have hs4 : y2_.cell? ⟨g_BS, 4, none⟩ = some (.int .u64 x.f3) := (blk_cell BS.out 4).trans rfl; have hs5 : y2_.cell? ⟨g_BS, 5, none⟩ = some (.int .i64 till) := (blk_cell BS.out 5).trans rfl) | ((with_reducible refine gate_callee (f := 11) rfl ?_); refine goesL_ (some 72) rfl rfl Try.func11 (by kernel_rfl) rfl #[.pointer (some ⟨g, 0, none⟩), .int .i64 till] rfl (by (try simp only [List.map_toArray, List.map_cons, List.map_nil]); first | done | rfl) ?_; (refine (BNext w.heap.size w g v l most n gm (Value.slice Au ml.length cu) ml till x1 b1 l' _ HG.out HL.out HNA.out).mono ?_); rintro e y3_ ⟨v2, rfl, hG, hs40⟩; refine ⟨_, rfl, ?_⟩; have n_HG := Aside0.mk (hG); have n_BS := Aside0.mk (hs40 _ _ BS.out); clear HG BS; have HG := n_HG; have BS := n_BS; clear n_HG n_BS; clear hG hs40; clear hs0 hs1 hs2 hs3 hs4 hs5) | ((with_reducible refine gate_dst (N := 11) rfl ?_); refine box_event ?hg (N := 11) ?hd (cs := #[.int .i64 0, .int .i64 0, .int .i64 0, .int .u64 0]) (t := 24) ?hr ?_; (case hd => rfl); (case hg => rfl); (case hr => first | (go_simp; done) | (go_simp; rfl)); intro g_BX hg y4_ hbox hb; have HGE : Aside0 (y3_.heap.size ≤ g_BX) := ⟨by rw [hg]; exact Nat.le_refl _⟩; have HWB := Aside0.mk hb; have BX := Aside0.mk hbox; clear hbox hb hg) | ((with_reducible refine gate_store (t := 24) (p := 11) rfl ?_); refine store_event (t := 24) (p := 11) (v := .tmp 73) (w1 := (y4_).setRow g_BX #[.int .i64 x1.f0, .int .i64 x1.f1, .int .i64 x1.f2, .int .u64 x1.f3]) ?hg ?ho ?hn ?hr ?_; (case ho => rfl); (case hg => rfl); (case hn => rfl); (case hr => exact run_store_row 24 _ _ _ _ rfl rfl rfl BX.out (by kernel_rfl) rfl (by kernel_rfl)); intro y5_ hw; have n_HWB : Aside0 (Below y3_.heap.size y3_ y5_) := ⟨by rw [hw]; exact below_setRow HWB.out HGE.out _⟩; have n_BX : Aside0 (y5_.heap[g_BX]? = some (.cells #[.int .i64 x1.f0, .int .i64 x1.f1, .int .i64 x1.f2, .int .u64 x1.f3] 24 (0, 0))) := ⟨by rw [hw]; exact blk_row _ BX.out⟩; clear hw HWB BX; have HWB := n_HWB; have BX := n_BX; clear n_HWB n_BX; have hb := HWB.out; clear HWB HGE; have n_HG := Aside0.mk (BG_below HG.out hb); have n_BS := Aside0.mk (blk_below BS.out hb); clear HG BS; have HG := n_HG; have BS := n_BS; clear n_HG n_BS; clear hb; have hs5 : y5_.cell? ⟨g_BS, 5, none⟩ = some (.int .i64 till) := (blk_cell BS.out 5).trans rfl) | ((with_reducible refine gate_callee (f := 14) rfl ?_); refine goesL_ (some 79) rfl rfl Try.func14 (by kernel_rfl) rfl #[.pointer (some ⟨gm, 0, none⟩), .int .i64 till] rfl (by (try simp only [List.map_toArray, List.map_cons, List.map_nil]); first | done | rfl) ?_; (refine (BrNext w.heap.size w g v2 l' most n gm (Value.slice Au ml.length cu) ml till q x1 b1 ml' _ HG.out HML.out HF.out HNR.out).mono ?_); rintro e y6_ ⟨A2, c2, rfl, hG, hs40, hs24⟩; refine ⟨_, rfl, ?_⟩; have n_HG := Aside0.mk (hG); have n_BS := Aside0.mk (hs40 _ _ BS.out); have n_BX := Aside0.mk (hs24 _ _ BX.out); clear HG BS BX; have HG := n_HG; have BS := n_BS; have BX := n_BX; clear n_HG n_BS n_BX; clear hG hs40 hs24; clear hs5) | ((with_reducible refine gate_dst (N := 13) rfl ?_); refine box_event ?hg (N := 13) ?hd (cs := #[.int .i64 0, .int .i64 0, .int .i64 0, .int .u64 0]) (t := 24) ?hr ?_; (case hd => rfl); (case hg => rfl); (case hr => first | (go_simp; done) | (go_simp; rfl)); intro g_BY hg y7_ hbox hb; have HGE : Aside0 (y6_.heap.size ≤ g_BY) := ⟨by rw [hg]; exact Nat.le_refl _⟩; have HWB := Aside0.mk hb; have BY := Aside0.mk hbox; clear hbox hb hg) | ((with_reducible refine gate_store (t := 24) (p := 13) rfl ?_); refine store_event (t := 24) (p := 13) (v := .tmp 80) (w1 := (y7_).setRow g_BY #[.int .i64 x1.f0, .int .i64 x1.f1, .int .i64 x1.f2, .int .u64 x1.f3]) ?hg ?ho ?hn ?hr ?_; (case ho => rfl); (case hg => rfl); (case hn => rfl); (case hr => exact run_store_row 24 _ _ _ _ rfl rfl rfl BY.out (by kernel_rfl) rfl (by kernel_rfl)); intro y8_ hw; have n_HWB : Aside0 (Below y6_.heap.size y6_ y8_) := ⟨by rw [hw]; exact below_setRow HWB.out HGE.out _⟩; have n_BY : Aside0 (y8_.heap[g_BY]? = some (.cells #[.int .i64 x1.f0, .int .i64 x1.f1, .int .i64 x1.f2, .int .u64 x1.f3] 24 (0, 0))) := ⟨by rw [hw]; exact blk_row _ BY.out⟩; clear hw HWB BY; have HWB := n_HWB; have BY := n_BY; clear n_HWB n_BY; have hb := HWB.out; clear HWB HGE; have n_HG := Aside0.mk (BG_below HG.out hb); have n_BS := Aside0.mk (blk_below BS.out hb); have n_BX := Aside0.mk (blk_below BX.out hb); clear HG BS BX; have HG := n_HG; have BS := n_BS; have BX := n_BX; clear n_HG n_BS n_BX; clear hb) | ((with_reducible refine gate_dst (N := 82) rfl ?_); refine load_event 24 (.tmp 11) rfl rfl rfl BX.out Try.underlying24 rfl (by kernel_rfl) ?_) | ((with_reducible refine gate_dst (N := 83) rfl ?_); refine load_event 24 (.tmp 13) rfl rfl rfl BY.out Try.underlying24 rfl (by kernel_rfl) ?_) | ((with_reducible refine gate_callee (f := 15) rfl ?_); refine goesL_ (some 92) rfl rfl Try.func15 (by kernel_rfl) rfl #[.pointer (some ⟨g, 0, none⟩)] rfl (by (try simp only [List.map_toArray, List.map_cons, List.map_nil]); first | done | rfl) ?_; (refine (BPeek w.heap.size w g v2 l' most n gm (.slice A2 ml'.length c2) ml' px pb _ HG.out HKA.out).mono ?_); rintro e y9_ ⟨rfl, hb⟩; refine ⟨_, rfl, ?_⟩; have n_HG := Aside0.mk (BG_below HG.out hb); have n_BS := Aside0.mk (blk_below BS.out hb); have n_BX := Aside0.mk (blk_below BX.out hb); have n_BY := Aside0.mk (blk_below BY.out hb); clear HG BS BX BY; have HG := n_HG; have BS := n_BS; have BX := n_BX; have BY := n_BY; clear n_HG n_BS n_BX n_BY; clear hb) | ((with_reducible refine gate_dst (N := 15) rfl ?_); refine box_event ?hg (N := 15) ?hd (cs := #[.int .i64 0, .int .i64 0, .int .i64 0, .int .u64 0]) (t := 24) ?hr ?_; (case hd => rfl); (case hg => rfl); (case hr => first | (go_simp; done) | (go_simp; rfl)); intro g_BP hg y10_ hbox hb; have HGE : Aside0 (y9_.heap.size ≤ g_BP) := ⟨by rw [hg]; exact Nat.le_refl _⟩; have HWB := Aside0.mk hb; have BP := Aside0.mk hbox; clear hbox hb hg) | ((with_reducible refine gate_store (t := 24) (p := 15) rfl ?_); refine store_event (t := 24) (p := 15) (v := .tmp 93) (w1 := (y10_).setRow g_BP #[.int .i64 px.f0, .int .i64 px.f1, .int .i64 px.f2, .int .u64 px.f3]) ?hg ?ho ?hn ?hr ?_; (case ho => rfl); (case hg => rfl); (case hn => rfl); (case hr => exact run_store_row 24 _ _ _ _ rfl rfl rfl BP.out (by kernel_rfl) rfl (by kernel_rfl)); intro y11_ hw; have n_HWB : Aside0 (Below y9_.heap.size y9_ y11_) := ⟨by rw [hw]; exact below_setRow HWB.out HGE.out _⟩; have n_BP : Aside0 (y11_.heap[g_BP]? = some (.cells #[.int .i64 px.f0, .int .i64 px.f1, .int .i64 px.f2, .int .u64 px.f3] 24 (0, 0))) := ⟨by rw [hw]; exact blk_row _ BP.out⟩; clear hw HWB BP; have HWB := n_HWB; have BP := n_BP; clear n_HWB n_BP; have hb := HWB.out; clear HWB HGE; have n_HG := Aside0.mk (BG_below HG.out hb); have n_BS := Aside0.mk (blk_below BS.out hb); have n_BX := Aside0.mk (blk_below BX.out hb); have n_BY := Aside0.mk (blk_below BY.out hb); clear HG BS BX BY; have HG := n_HG; have BS := n_BS; have BX := n_BX; have BY := n_BY; clear n_HG n_BS n_BX n_BY; clear hb) | ((with_reducible refine gate_callee (f := 16) rfl ?_); refine goesL_ (some 97) rfl rfl Try.func16 (by kernel_rfl) rfl #[.pointer (some ⟨gm, 0, none⟩)] rfl (by (try simp only [List.map_toArray, List.map_cons, List.map_nil]); first | done | rfl) ?_; (refine (BrPeek w.heap.size w g v2 l' most n gm (.slice A2 ml'.length c2) ml' pq px pb _ HG.out HKF.out HKR.out).mono ?_); rintro e y12_ ⟨rfl, hb⟩; refine ⟨_, rfl, ?_⟩; have n_HG := Aside0.mk (BG_below HG.out hb); have n_BS := Aside0.mk (blk_below BS.out hb); have n_BX := Aside0.mk (blk_below BX.out hb); have n_BY := Aside0.mk (blk_below BY.out hb); have n_BP := Aside0.mk (blk_below BP.out hb); clear HG BS BX BY BP; have HG := n_HG; have BS := n_BS; have BX := n_BX; have BY := n_BY; have BP := n_BP; clear n_HG n_BS n_BX n_BY n_BP; clear hb) | ((with_reducible refine gate_dst (N := 17) rfl ?_); refine box_event ?hg (N := 17) ?hd (cs := #[.int .i64 0, .int .i64 0, .int .i64 0, .int .u64 0]) (t := 24) ?hr ?_; (case hd => rfl); (case hg => rfl); (case hr => first | (go_simp; done) | (go_simp; rfl)); intro g_BQ hg y13_ hbox hb; have HGE : Aside0 (y12_.heap.size ≤ g_BQ) := ⟨by rw [hg]; exact Nat.le_refl _⟩; have HWB := Aside0.mk hb; have BQ := Aside0.mk hbox; clear hbox hb hg) | ((with_reducible refine gate_store (t := 24) (p := 17) rfl ?_); refine store_event (t := 24) (p := 17) (v := .tmp 98) (w1 := (y13_).setRow g_BQ #[.int .i64 px.f0, .int .i64 px.f1, .int .i64 px.f2, .int .u64 px.f3]) ?hg ?ho ?hn ?hr ?_; (case ho => rfl); (case hg => rfl); (case hn => rfl); (case hr => exact run_store_row 24 _ _ _ _ rfl rfl rfl BQ.out (by kernel_rfl) rfl (by kernel_rfl)); intro y14_ hw; have n_HWB : Aside0 (Below y12_.heap.size y12_ y14_) := ⟨by rw [hw]; exact below_setRow HWB.out HGE.out _⟩; have n_BQ : Aside0 (y14_.heap[g_BQ]? = some (.cells #[.int .i64 px.f0, .int .i64 px.f1, .int .i64 px.f2, .int .u64 px.f3] 24 (0, 0))) := ⟨by rw [hw]; exact blk_row _ BQ.out⟩; clear hw HWB BQ; have HWB := n_HWB; have BQ := n_BQ; clear n_HWB n_BQ; have hb := HWB.out; clear HWB HGE; have n_HG := Aside0.mk (BG_below HG.out hb); have n_BS := Aside0.mk (blk_below BS.out hb); have n_BX := Aside0.mk (blk_below BX.out hb); have n_BY := Aside0.mk (blk_below BY.out hb); have n_BP := Aside0.mk (blk_below BP.out hb); clear HG BS BX BY BP; have HG := n_HG; have BS := n_BS; have BX := n_BX; have BY := n_BY; have BP := n_BP; clear n_HG n_BS n_BX n_BY n_BP; clear hb))
        refine start_ (n := 18) (S := fun w' => w'.cell? ⟨g_BP, 0, none⟩ = some (.int .i64 px.f0) ∧ w'.cell? ⟨g_BP, 1, none⟩ = some (.int .i64 px.f1) ∧ w'.cell? ⟨g_BP, 2, none⟩ = some (.int .i64 px.f2) ∧ w'.cell? ⟨g_BP, 3, none⟩ = some (.int .u64 px.f3) ∧ w'.cell? ⟨g_BQ, 0, none⟩ = some (.int .i64 px.f0) ∧ w'.cell? ⟨g_BQ, 1, none⟩ = some (.int .i64 px.f1) ∧ w'.cell? ⟨g_BQ, 2, none⟩ = some (.int .i64 px.f2) ∧ w'.cell? ⟨g_BQ, 3, none⟩ = some (.int .u64 px.f3) ∧ w'.cell? ⟨gm, 1, none⟩ = some (.slice A2 ml'.length c2)) (ds := []) #[false, false, false, false, false, false, false, false, false, false, false, false, false, false, false, false, false, false] (by kernel_rfl) rfl rfl ⟨(blk_cell BP.out 0).trans rfl, (blk_cell BP.out 1).trans rfl, (blk_cell BP.out 2).trans rfl, (blk_cell BP.out 3).trans rfl, (blk_cell BQ.out 0).trans rfl, (blk_cell BQ.out 1).trans rfl, (blk_cell BQ.out 2).trans rfl, (blk_cell BQ.out 3).trans rfl, (blk_cell HG.out.2.1.1 1).trans rfl⟩ (fun hHeld => ?_)
        replace HG := Aside0.mk (BG_drew HG.out)
        replace BP := Aside0.mk (blk_drew BP.out)
        replace BQ := Aside0.mk (blk_drew BQ.out)
        generalize y14_.drew = t1_ at HG BP BQ hHeld ⊢
        refine take_ (i := 0) (N := (some 100)) (v := ?_) (a' := ?_) #[true, false, false, false, false, false, false, false, false, false, false, false, false, false, false, false, false, false] rfl rfl (by decide +kernel) (fun _ _ _ h => h) (Or.inl ⟨by rfl, ?_⟩) hHeld ?_ ?_
        rotate_left
        · rintro w' ⟨s0, s1, s2, s3, s4, s5, s6, s7, s8⟩
          go_simp
          with_reducible rfl
        rotate_left
        · simp only [Act.put, List.setIfInBounds_toArray, List.set_cons_zero, List.set_cons_succ, i64_w, i32_w]
          rfl
        refine take_ (i := 1) (N := (some 101)) (v := ?_) (a' := ?_) #[true, true, false, false, false, false, false, false, false, false, false, false, false, false, false, false, false, false] rfl rfl (by decide +kernel) (fun _ _ _ h => h) (Or.inl ⟨by rfl, ?_⟩) hHeld ?_ ?_
        rotate_left
        · rintro w' ⟨s0, s1, s2, s3, s4, s5, s6, s7, s8⟩
          go_simp
          with_reducible rfl
        rotate_left
        · simp only [Act.put, List.setIfInBounds_toArray, List.set_cons_zero, List.set_cons_succ, i64_w, i32_w]
          rfl
        refine pure_ (i := 2) (N := (some 102)) (v := ?_) (a' := ?_) #[true, true, true, false, false, false, false, false, false, false, false, false, false, false, false, false, false, false] rfl rfl (by decide +kernel) (fun _ _ _ h => h) (Or.inl ⟨by rfl, ?_⟩) ?_ ?_
        rotate_left
        · intro w'
          go_simp
          with_reducible rfl
        rotate_left
        · simp only [Act.put, List.setIfInBounds_toArray, List.set_cons_zero, List.set_cons_succ, i64_w, i32_w]
          rfl
        refine pure_ (i := 3) (N := (some 103)) (v := ?_) (a' := ?_) #[true, true, true, true, false, false, false, false, false, false, false, false, false, false, false, false, false, false] rfl rfl (by decide +kernel) (fun _ _ _ h => h) (Or.inl ⟨by rfl, ?_⟩) ?_ ?_
        rotate_left
        · intro w'
          go_simp
          with_reducible rfl
        rotate_left
        · simp only [Act.put, List.setIfInBounds_toArray, List.set_cons_zero, List.set_cons_succ, i64_w, i32_w]
          rfl
        refine pure_ (i := 4) (N := (some 104)) (v := ?_) (a' := ?_) #[true, true, true, true, true, false, false, false, false, false, false, false, false, false, false, false, false, false] rfl rfl (by decide +kernel) (fun _ _ _ h => h) (Or.inl ⟨by rfl, ?_⟩) ?_ ?_
        rotate_left
        · intro w'
          go_simp
          with_reducible rfl
        rotate_left
        · simp only [Act.put, List.setIfInBounds_toArray, List.set_cons_zero, List.set_cons_succ, i64_w, i32_w]
          rfl
        refine pure_ (i := 5) (N := (some 105)) (v := ?_) (a' := ?_) #[true, true, true, true, true, true, false, false, false, false, false, false, false, false, false, false, false, false] rfl rfl (by decide +kernel) (fun _ _ _ h => h) (Or.inl ⟨by rfl, ?_⟩) ?_ ?_
        rotate_left
        · intro w'
          go_simp
          with_reducible rfl
        rotate_left
        · simp only [Act.put, List.setIfInBounds_toArray, List.set_cons_zero, List.set_cons_succ, i64_w, i32_w]
          rfl
        refine pure_ (i := 6) (N := (some 106)) (v := ?_) (a' := ?_) #[true, true, true, true, true, true, true, false, false, false, false, false, false, false, false, false, false, false] rfl rfl (by decide +kernel) (fun _ _ _ h => h) (Or.inl ⟨by rfl, ?_⟩) ?_ ?_
        rotate_left
        · intro w'
          go_simp
          with_reducible rfl
        rotate_left
        · simp only [Act.put, List.setIfInBounds_toArray, List.set_cons_zero, List.set_cons_succ, i64_w, i32_w]
          rfl
        refine pure_ (i := 7) (N := (some 107)) (v := ?_) (a' := ?_) #[true, true, true, true, true, true, true, true, false, false, false, false, false, false, false, false, false, false] rfl rfl (by decide +kernel) (fun _ _ _ h => h) (Or.inl ⟨by rfl, ?_⟩) ?_ ?_
        rotate_left
        · intro w'
          go_simp
          with_reducible rfl
        rotate_left
        · simp only [Act.put, List.setIfInBounds_toArray, List.set_cons_zero, List.set_cons_succ, i64_w, i32_w]
          rfl
        refine pure_ (i := 8) (N := (some 108)) (v := ?_) (a' := ?_) #[true, true, true, true, true, true, true, true, true, false, false, false, false, false, false, false, false, false] rfl rfl (by decide +kernel) (fun _ _ _ h => h) (Or.inl ⟨by rfl, ?_⟩) ?_ ?_
        rotate_left
        · intro w'
          go_simp
          with_reducible rfl
        rotate_left
        · simp only [Act.put, List.setIfInBounds_toArray, List.set_cons_zero, List.set_cons_succ, i64_w, i32_w]
          rfl
        refine pure_ (i := 9) (N := (some 109)) (v := ?_) (a' := ?_) #[true, true, true, true, true, true, true, true, true, true, false, false, false, false, false, false, false, false] rfl rfl (by decide +kernel) (fun _ _ _ h => h) (Or.inl ⟨by rfl, ?_⟩) ?_ ?_
        rotate_left
        · intro w'
          go_simp
          with_reducible rfl
        rotate_left
        · simp only [Act.put, List.setIfInBounds_toArray, List.set_cons_zero, List.set_cons_succ, i64_w, i32_w]
          rfl
        refine pure_ (i := 11) (N := (some 111)) (v := ?_) (a' := ?_) #[true, true, true, true, true, true, true, true, true, true, false, true, false, false, false, false, false, false] rfl rfl (by decide +kernel) (fun _ _ _ h => h) (Or.inl ⟨by rfl, ?_⟩) ?_ ?_
        rotate_left
        · intro w'
          go_simp
          with_reducible rfl
        rotate_left
        · simp only [Act.put, List.setIfInBounds_toArray, List.set_cons_zero, List.set_cons_succ, i64_w, i32_w]
          rfl
        refine pure_ (i := 12) (N := (some 112)) (v := ?_) (a' := ?_) #[true, true, true, true, true, true, true, true, true, true, false, true, true, false, false, false, false, false] rfl rfl (by decide +kernel) (fun _ _ _ h => h) (Or.inl ⟨by rfl, ?_⟩) ?_ ?_
        rotate_left
        · intro w'
          go_simp
          with_reducible rfl
        rotate_left
        · simp only [Act.put, List.setIfInBounds_toArray, List.set_cons_zero, List.set_cons_succ, i64_w, i32_w]
          rfl
        refine pure_ (i := 13) (N := (some 113)) (v := ?_) (a' := ?_) #[true, true, true, true, true, true, true, true, true, true, false, true, true, true, false, false, false, false] rfl rfl (by decide +kernel) (fun _ _ _ h => h) (Or.inl ⟨by rfl, ?_⟩) ?_ ?_
        rotate_left
        · intro w'
          go_simp
          with_reducible rfl
        rotate_left
        · simp only [Act.put, List.setIfInBounds_toArray, List.set_cons_zero, List.set_cons_succ, i64_w, i32_w]
          rfl
        refine take_ (i := 14) (N := (some 114)) (v := ?_) (a' := ?_) #[true, true, true, true, true, true, true, true, true, true, false, true, true, true, true, false, false, false] rfl rfl (by decide +kernel) (fun _ _ _ h => h) (Or.inl ⟨by rfl, ?_⟩) hHeld ?_ ?_
        rotate_left
        · rintro w' ⟨s0, s1, s2, s3, s4, s5, s6, s7, s8⟩
          go_simp
          with_reducible rfl
        rotate_left
        · simp only [Act.put, List.setIfInBounds_toArray, List.set_cons_zero, List.set_cons_succ, i64_w, i32_w]
          rfl
        refine pure_ (i := 15) (N := (some 115)) (v := ?_) (a' := ?_) #[true, true, true, true, true, true, true, true, true, true, false, true, true, true, true, true, false, false] rfl rfl (by decide +kernel) (fun _ _ _ h => h) (Or.inl ⟨by rfl, ?_⟩) ?_ ?_
        rotate_left
        · intro w'
          go_simp
          with_reducible rfl
        rotate_left
        · simp only [Act.put, List.setIfInBounds_toArray, List.set_cons_zero, List.set_cons_succ, i64_w, i32_w]
          rfl
        refine one_ (i := 10) (N := (some 110)) #[true, true, true, true, true, true, true, true, true, true, true, true, true, true, true, true, false, false] rfl rfl (by decide +kernel) (by decide) (fun K hK => ?_)
        refine goes_ Try.func10 (by kernel_rfl) rfl #[.pointer (some ⟨g, 0, none⟩)] (by rfl) rfl rfl (by (try simp only [List.map_toArray, List.map_cons, List.map_nil]); first | done | rfl) ?_
        refine (BLen w.heap.size w g v2 l' most n gm (.slice A2 ml'.length c2) ml' _ HG.out HLEN.out).mono ?_
        rintro e t2_ ⟨rfl, hb⟩
        refine ⟨_, rfl, ?_⟩
        replace BP := Aside0.mk (blk_below BP.out hb)
        replace BQ := Aside0.mk (blk_below BQ.out hb)
        replace HG := Aside0.mk (BG_below HG.out hb)
        clear hb
        refine hK.out _ _ ⟨(blk_cell BP.out 0).trans rfl, (blk_cell BP.out 1).trans rfl, (blk_cell BP.out 2).trans rfl, (blk_cell BP.out 3).trans rfl, (blk_cell BQ.out 0).trans rfl, (blk_cell BQ.out 1).trans rfl, (blk_cell BQ.out 2).trans rfl, (blk_cell BQ.out 3).trans rfl, (blk_cell HG.out.2.1.1 1).trans rfl⟩ (fun hHeld => ?_)
        clear hK K
        refine norm_ (a' := ?_) ?_ ?_
        rotate_left
        · show Act.put _ (some 110) _ = _
          simp only [Act.put, List.setIfInBounds_toArray, List.set_cons_zero, List.set_cons_succ, i64_w, i32_w]
          rfl
        refine pure_ (i := 16) (N := (some 116)) (v := ?_) (a' := ?_) #[true, true, true, true, true, true, true, true, true, true, true, true, true, true, true, true, true, false] rfl rfl (by decide +kernel) (fun _ _ _ h => h) (Or.inl ⟨by rfl, ?_⟩) ?_ ?_
        rotate_left
        · intro w'
          go_simp
          with_reducible rfl
        rotate_left
        · simp only [Act.put, List.setIfInBounds_toArray, List.set_cons_zero, List.set_cons_succ, i64_w, i32_w]
          rfl
        refine pure_ (i := 17) (N := (some 117)) (v := ?_) (a' := ?_) #[true, true, true, true, true, true, true, true, true, true, true, true, true, true, true, true, true, true] rfl rfl (by decide +kernel) (fun _ _ _ h => h) (Or.inl ⟨by rfl, ?_⟩) ?_ ?_
        rotate_left
        · intro w'
          go_simp
          with_reducible rfl
        rotate_left
        · simp only [Act.put, List.setIfInBounds_toArray, List.set_cons_zero, List.set_cons_succ, i64_w, i32_w]
          rfl
        refine done_ (by kernel_rfl) ?_
        go_wp2
        go_roundw
        case rel => exact ⟨i + 1, v2, A2, c2, l', ml', n, by omega, by go_num, ⟨HRE.out, HI.out.2.1, by have := HI.out; omega, by have := HNN.out; have := HI.out; omega, by have := HNN.out; have := HI.out; omega⟩, HG⟩
        case measure => simp [intOf]; omega
    · have p3 : decide ((i : Int) < (L : Int)) = false := decide_eq_false (by omega)
      have HREL := Aside0.mk HI.out.1
      obtain ⟨m, hm⟩ : ∃ m, m = l.length := ⟨_, rfl⟩
      have HM := Aside0.mk hm
      have HMM : Aside0 (m ≤ 1000000) := ⟨by have := HL.out; omega⟩
      clear hm hlen
      go_wp2_with (first | ((with_reducible refine gate_callee (f := 8) rfl ?_); refine goesL_ (some 118) rfl rfl Try.func8 (by kernel_rfl) rfl #[] rfl (by (try simp only [List.map_toArray, List.map_cons, List.map_nil]); first | done | rfl) ?_; (refine (noted_v _).mono ?_); rintro e z3_ ⟨rfl, hb⟩; refine ⟨_, rfl, ?_⟩; have n_HG := Aside0.mk (BG_below HG.out hb); clear HG; have HG := n_HG; clear n_HG; clear hb) | ((with_reducible refine gate_callee (f := 18) rfl ?_); refine gate_guard (by rfl) ?_; refine goesL_ (some 124) rfl rfl Try.func18 (by kernel_rfl) rfl #[.pointer (some ⟨g, 0, none⟩)] rfl (by (try simp only [List.map_toArray, List.map_cons, List.map_nil]); first | done | rfl) ?_; (refine (BAll w.heap.size w g v l most n gm (Value.slice Au ml.length cu) ml _ HG.out m HM.out HMM.out).mono ?_); rintro e z4_ ⟨A3, c3, rfl, hc3, hu, hb⟩; refine ⟨_, rfl, ?_⟩; have HU3 := Aside0.mk hu; have HC3 := Aside0.mk hc3; have n_HG := Aside0.mk (BG_below HG.out hb); clear HG; have HG := n_HG; clear n_HG; clear hb hu hc3) | ((with_reducible refine gate_callee (f := 19) rfl ?_); refine gate_guard (by rfl) ?_; refine goesL_ (some 126) rfl rfl Try.func19 (by kernel_rfl) rfl #[.pointer (some ⟨gm, 0, none⟩)] rfl (by (try simp only [List.map_toArray, List.map_cons, List.map_nil]); first | done | rfl) ?_; (refine (BrAll w.heap.size w g v l most n gm (Value.slice Au ml.length cu) ml _ HG.out HREL.out m HM.out HMM.out).mono ?_); rintro e z5_ ⟨A4, c4, rfl, hc4, hu, hb⟩; refine ⟨_, rfl, ?_⟩; have HU4 := Aside0.mk hu; have HC4 := Aside0.mk hc4; have n_HG := Aside0.mk (BG_below HG.out hb); have n_HU3 := Aside0.mk (Kd.R_below HU3.out hb); clear HG HU3; have HG := n_HG; have HU3 := n_HU3; clear n_HG n_HU3; clear hb hu hc4) | ((with_reducible refine gate_callee (f := 17) rfl ?_); refine gate_guard (by rfl) ?_; refine goesL_ (some 127) rfl rfl Try.func17 (by kernel_rfl) rfl #[.slice A3 m c3, .slice A4 m c4] rfl (by (try simp only [List.map_toArray, List.map_cons, List.map_nil]); first | done | rfl) ?_; (refine (Same_x (allL l) m (by rw [allL_length]; exact HM.out) HMM.out A3 c3 A4 c4 _ (Kd.R_reads' HU3.out).2.2 HC3.out (Kd.R_reads' HU4.out).2.2 HC4.out).mono ?_); rintro e z6_ ⟨rfl, hb⟩; refine ⟨_, rfl, ?_⟩; have n_HG := Aside0.mk (BG_below HG.out hb); clear HG; have HG := n_HG; clear n_HG; clear hb))
      go_ret
      exact ⟨rfl, HG.out.2.2.1⟩
open Classical in
/-- The law AgendaDoes, as the walk needs it. -/
noncomputable def pacemakerlaw29_AgendaDoes.f (_q : Nat) (_most : Int) (_scr : List S40) : Option Bool := some true
theorem pacemakerlaw29_AgendaDoes.calls (q : Nat) (most : Int) (A : Option Addr) (c : Nat) (scr : List S40) (r : Bool) (w : World) (hr0 : Kd.C k40 w A scr.length scr) (_hc0 : scr.length ≤ c) (HT : Aside0 (r = true)) (_h : pacemakerlaw29_AgendaDoes.f q most scr = some r) :
    Calls Try.prog 4 #[.int .i64 most, .slice A scr.length c] w fun e w' => e = .returned (.bool r) ∧ Below w.heap.size w w' := by
  obtain rfl := HT.out
  by_cases h1 : 100 < scr.length
  · exact does_many most scr A c w scr.length h1
  · by_cases h2 : most < 1 ∨ 65536 < most
    · exact does_bad most scr A c w scr.length h1 h2
    · exact does_ok most scr A c w scr.length hr0 rfl h1 (by omega) (by omega)
end Go.Proofs.Ytocdpfdnnijdkaa.G
