import Derived.Test.YtocdpfdnnijdkaaGR
namespace Go.Proofs.Ytocdpfdnnijdkaa.G
open Go.RowKit Go.Proofs.YtocdpfdnnijdkaaW.PrintWords Go.Proofs.YtocdpfdnnijdkaaW.PrintLast Go.Proofs.YtocdpfdnnijdkaaW.PrintMore
attribute [local go_sem] max2_int min2_int max_two min_two max_three min_three max_four min_four
attribute [local go_sem] Go.Proofs.YtocdpfdnnijdkaaS.cell_set_map Go.Proofs.YtocdpfdnnijdkaaS.setCell_drewN
set_option linter.unusedVariables false
set_option linter.unusedSimpArgs false
attribute [local go_sem] eq24
attribute [local go_sem high] eqA24
/-- The entries of a row of times. -/
def eT (ts : List Int) (m : Nat) : S60 := ⟨rd ts (m : Int), 0, 0, (m : Int), (m : Int)⟩
theorem till_none (ts : List Int) (A : Option Addr) (c : Nat) (till : Int) (w : World) (hg : 200 < ts.length ∨ ts.length = 0) : Calls Try.prog 6 #[.slice A ts.length c, .int .i64 till] w fun e w' => e = .returned (.bool true) ∧ Below w.heap.size w w' := by
  rcases hg with hg | hg
  · have p1 : decide (200 < (ts.length : Int)) = true := decide_eq_true (by omega)
    go_enter Try.func6, Try.ntmps6
    go_wp2_with (first | ((with_reducible refine gate_callee (f := 8) rfl ?_); refine goesL_ (some 21) rfl rfl Try.func8 (by kernel_rfl) rfl #[] rfl (by (try simp only [List.map_toArray, List.map_cons, List.map_nil]); first | done | rfl) ?_; (refine (noted_v _).mono ?_); rintro e w1 ⟨rfl, hb⟩; refine ⟨_, rfl, ?_⟩))
    go_ret
    exact ⟨rfl, hb⟩
  · have p1 : decide (200 < (ts.length : Int)) = false := decide_eq_false (by omega)
    have p2 : ((ts.length : Int) == 0) = true := beq_iff_eq.mpr (by omega)
    go_enter Try.func6, Try.ntmps6
    go_wp2_with (first | ((with_reducible refine gate_callee (f := 8) rfl ?_); refine goesL_ (some 21) rfl rfl Try.func8 (by kernel_rfl) rfl #[] rfl (by (try simp only [List.map_toArray, List.map_cons, List.map_nil]); first | done | rfl) ?_; (refine (noted_v _).mono ?_); rintro e w1 ⟨rfl, hb⟩; refine ⟨_, rfl, ?_⟩))
    go_ret
    exact ⟨rfl, hb⟩
set_option maxHeartbeats 16000000 in
set_option maxRecDepth 100000 in
theorem till_ok (ts : List Int) (A : Option Addr) (c : Nat) (till : Int) (w : World) (hr0 : Kd.C (Kd.int .i64) w A ts.length ts) (L : Nat) (hL : ts.length = L) (h0 : 0 < L) (h1 : L ≤ 200) : Calls Try.prog 6 #[.slice A L c, .int .i64 till] w fun e w' => e = .returned (.bool true) ∧ Below w.heap.size w w' := by
  have hu24 := Try.underlying24
  have HR0 := Aside0.mk hr0
  have p1 : decide (200 < (L : Int)) = false := decide_eq_false (by omega)
  have p2 : ((L : Int) == 0) = false := beq_eq_false_iff_ne.mpr (by omega)
  have HB := Aside0.mk (Below.refl w.heap.size w)
  have HLL := Aside0.mk hL
  obtain ⟨ad, hA0, _⟩ := Kd.at_int hr0 0 (by omega) (by omega)
  subst hA0
  clear hr0 hL
  go_enter Try.func6, Try.ntmps6
  go_wp2_with (first | ((with_reducible refine gate_callee (f := 7) rfl ?_); refine goesL_ (some 23) rfl rfl Try.func7 (by kernel_rfl) rfl #[.int .i64 65536] rfl (by (try simp only [List.map_toArray, List.map_cons, List.map_nil]); first | done | rfl) ?_; (refine (New_v 65536 _ (by decide) (by decide)).mono ?_); rintro e u1_ ⟨g, rfl, hg0, ha, hb⟩; refine ⟨_, rfl, ?_⟩; have n_B := Aside0.mk (below_step HB.out hb); have HA : Aside0 (AGX w.heap.size u1_ g (.slice none 0 0) [] 65536 0) := ⟨⟨ha, Nat.le_trans HB.out.size hg0, fun k hk => by simp [Value.ownBlock] at hk⟩⟩; clear HB ha hg0 hb; have HB := n_B; clear n_B))
  clear p1 p2
  go_loopw [7, 8] (fun v7 v8 wr => ∃ (i : Nat) (v : Value), i ≤ L ∧ v7 = .int .i64 (cT till (hE (eT ts) i) : Int) ∧ v8 = .int .i64 (i : Int) ∧ Aside0 (AGX w.heap.size wr g v (hE (eT ts) i) 65536 (i : Int)) ∧ Aside0 (Below w.heap.size w wr)) (fun _ v8 _ => ((L : Int) - intOf v8).toNat)
  case atStart => exact ⟨0, _, by omega, rfl, rfl, HA, HB⟩
  case round =>
    clear HA HB
    obtain ⟨i, v, hi, rfl, rfl, HA, HB⟩ := hrel
    obtain ⟨wn, hwn⟩ : ∃ wn, cT till (hE (eT ts) i) = wn := ⟨_, rfl⟩
    have HWN := Aside0.mk hwn
    have hwl : wn ≤ 200 := by have h_ := cT_le till (hE (eT ts) i); rw [hE_length] at h_; omega
    rw [hwn]
    clear hwn
    by_cases hlt : i < L
    · have p3 : decide ((i : Int) < (L : Int)) = true := decide_eq_true (by omega)
      have p0 : (0 : Int) ≤ (i : Int) := by omega
      have q0 : (i : Int) < (L : Int) := by omega
      have HX : Aside0 (w.cell? (ad.add i) = some (.int .i64 (rd ts (i : Int)))) := ⟨by
        obtain ⟨ad', e, h_⟩ := Kd.at_int HR0.out (i : Int) p0 (by rw [HLL.out]; exact q0)
        cases e
        exact h_⟩
      have hx := pw_cell_below HB.out HX.out
      have hwu : IntKind.u64.wrap (i : Int) = (i : Int) := by show (i : Int) % 18446744073709551616 = _; omega
      have hwi : IntKind.i64.wrap ((i : Int) + 1) = (i : Int) + 1 := by rw [i64_w]; unfold wrap64; omega
      have hww : IntKind.i64.wrap ((wn : Int) + 1) = (wn : Int) + 1 := by rw [i64_w]; unfold wrap64; omega
      have HS : Aside0 (cT till (hE (eT ts) (i + 1)) = wn + if rd ts (i : Int) ≤ till then 1 else 0) := ⟨by rw [← HWN.out]; exact cT_put _ _ _⟩
      clear HWN
      by_cases hle : rd ts (i : Int) ≤ till
      · have p4 : decide (rd ts (i : Int) ≤ till) = true := decide_eq_true hle
        have HS1 : Aside0 (cT till (hE (eT ts) (i + 1)) = wn + 1) := ⟨by rw [HS.out, if_pos hle]⟩
        clear HS hle
        go_wp2_with (first | ((with_reducible refine gate_callee (f := 9) rfl ?_); refine goesL_ (some 42) rfl rfl Try.func9 (by kernel_rfl) rfl #[.pointer (some ⟨g, 0, none⟩), .agg #[.int .i64 (rd ts (i : Int)), .int .i64 0, .int .i64 0, .int .u64 (i : Int)]] rfl (by (try simp only [List.map_toArray, List.map_cons, List.map_nil]); first | done | rfl) ?_; (refine (Put_x w.heap.size w g v (hE (eT ts) i) (hE (eT ts) (i + 1)) 65536 (i : Int) ((i : Int) + 1) (⟨rd ts (i : Int), 0, 0, (i : Int)⟩ : S24) _ HA.out HB.out HB.out.size (by rw [hE_length]; omega) (by rw [hE_length]; omega) (by omega) (by omega) rfl rfl).mono ?_); rintro e u51_ ⟨v51, rfl, hA, hw_⟩; refine ⟨_, rfl, ?_⟩; have n_HA := Aside0.mk (hA); have n_HB := Aside0.mk (hw_.1); clear HA HB; have HA := n_HA; have HB := n_HB; clear n_HA n_HB; clear hA hw_; clear hx; have hx := pw_cell_below HB.out HX.out))
        go_roundw
        case rel => exact ⟨i + 1, v51, by omega, by rw [HS1.out]; rfl, by go_num, HA, HB⟩
        case measure => simp [intOf]; omega
      · have p4 : decide (rd ts (i : Int) ≤ till) = false := decide_eq_false hle
        have HS1 : Aside0 (cT till (hE (eT ts) (i + 1)) = wn) := ⟨by rw [HS.out, if_neg hle]; rfl⟩
        clear HS hle
        go_wp2_with (first | ((with_reducible refine gate_callee (f := 9) rfl ?_); refine goesL_ (some 42) rfl rfl Try.func9 (by kernel_rfl) rfl #[.pointer (some ⟨g, 0, none⟩), .agg #[.int .i64 (rd ts (i : Int)), .int .i64 0, .int .i64 0, .int .u64 (i : Int)]] rfl (by (try simp only [List.map_toArray, List.map_cons, List.map_nil]); first | done | rfl) ?_; (refine (Put_x w.heap.size w g v (hE (eT ts) i) (hE (eT ts) (i + 1)) 65536 (i : Int) ((i : Int) + 1) (⟨rd ts (i : Int), 0, 0, (i : Int)⟩ : S24) _ HA.out HB.out HB.out.size (by rw [hE_length]; omega) (by rw [hE_length]; omega) (by omega) (by omega) rfl rfl).mono ?_); rintro e u51_ ⟨v51, rfl, hA, hw_⟩; refine ⟨_, rfl, ?_⟩; have n_HA := Aside0.mk (hA); have n_HB := Aside0.mk (hw_.1); clear HA HB; have HA := n_HA; have HB := n_HB; clear n_HA n_HB; clear hA hw_; clear hx; have hx := pw_cell_below HB.out HX.out))
        go_roundw
        case rel => exact ⟨i + 1, v51, by omega, by rw [HS1.out], by go_num, HA, HB⟩
        case measure => simp [intOf]; omega
    · obtain rfl : L = i := by omega
      have p3 : decide ((L : Int) < (L : Int)) = false := decide_eq_false (by omega)
      clear hi hlt
      go_wp2_with (first | ((with_reducible refine gate_callee (f := 18) rfl ?_); refine goesL_ (some 52) rfl rfl Try.func18 (by kernel_rfl) rfl #[.pointer (some ⟨g, 0, none⟩)] rfl (by (try simp only [List.map_toArray, List.map_cons, List.map_nil]); first | done | rfl) ?_; (refine (All_x w.heap.size g v (hE (eT ts) L) 65536 (L : Int) _ HA.out HB.out.size L (hE_length _ _).symm (by omega)).mono ?_); rintro e uA ⟨A2, c2, rfl, hc2, hu, hb⟩; refine ⟨_, rfl, ?_⟩; have n_A := Aside0.mk (AGX_below HA.out hb); have n_B := Aside0.mk (below_step HB.out hb); have HU := Aside0.mk hu; have HC2 := Aside0.mk hc2; clear HA HB hu hc2 hb; have HA := n_A; have HB := n_B; clear n_A n_B))
      clear p3
      have hle := hE_heap (eT ts) L
      have hel := hE_length (eT ts) L
      generalize hE (eT ts) L = l at *
      go_loopw [10] (fun v10 wr => ∃ (n : Nat) (v : Value) (lr : List S60), v10 = .int .i64 (n : Int) ∧ Aside0 (n + lr.length = L ∧ isHeap lr ∧ (drain l).drop n = drain lr ∧ wn = n + cT till lr) ∧ Aside0 (AGX w.heap.size wr g v lr 65536 (L : Int)) ∧ Aside0 (Kd.R k24 24 wr w.heap.size (fun _ => True) (.slice A2 L c2) (allL l)) ∧ Aside0 (Below w.heap.size w wr)) (fun v10 _ => ((L : Int) - intOf v10).toNat)
      case atStart => exact ⟨0, v, l, rfl, ⟨by omega, hle, rfl, by rw [HWN.out]; omega⟩, HA, HU, HB⟩
      case round =>
        clear HA HU HB HWN
        obtain ⟨n, v, lr, rfl, HI, HA, HU, HB⟩ := hrel
        have hnl : n + lr.length = L := HI.out.1
        have p3 : decide ((n : Int) ≤ (L : Int)) = true := decide_eq_true (by omega)
        by_cases hs : ∀ x, lr[0]? = some x → till < x.f0
        · have HS := Aside0.mk hs
          have hc0 := cT_stop HI.out.2.1 hs
          obtain rfl : wn = n := by have h_ := HI.out.2.2.2; omega
          have HHD := Aside0.mk (told_rest HI.out.2.2.1)
          obtain ⟨m, hm⟩ : ∃ m, m = lr.length := ⟨_, rfl⟩
          have HM := Aside0.mk hm
          have HML : Aside0 (m ≤ 1000000) := ⟨by omega⟩
          have HLM : Aside0 (L - wn = m) := ⟨by omega⟩
          clear hs hc0 hm HI
          go_wp2_with (first | ((with_reducible refine gate_callee (f := 11) rfl ?_); refine goesL_ (some 60) rfl rfl Try.func11 (by kernel_rfl) rfl #[.pointer (some ⟨g, 0, none⟩), .int .i64 till] rfl (by (try simp only [List.map_toArray, List.map_cons, List.map_nil]); first | done | rfl) ?_; (refine (Next_stop g v lr 65536 (L : Int) till _ HA.out.1 HS.out).mono ?_); rintro e u80_ ⟨rfl, hb⟩; refine ⟨_, rfl, ?_⟩; have n_HB := Aside0.mk (below_step HB.out hb); have n_HA := Aside0.mk (AGX_below HA.out hb); have n_HU := Aside0.mk (Kd.R_below HU.out hb); clear HB HA HU; have HB := n_HB; have HA := n_HA; have HU := n_HU; clear n_HB n_HA n_HU; clear hb) | ((with_reducible refine gate_dst (N := 11) rfl ?_); refine box_event ?hg (N := 11) ?hd (cs := #[.int .i64 0, .int .i64 0, .int .i64 0, .int .u64 0]) (t := 24) ?hr ?_; (case hd => rfl); (case hg => rfl); (case hr => first | (go_simp; done) | (go_simp; rfl)); intro gx hg u81_ hbox hb; have GE : Aside0 (w.heap.size ≤ gx) := ⟨by rw [hg]; exact HB.out.size⟩; have NB : Aside0 (NBX g v gx) := ⟨by rw [hg]; exact NBX_new HA.out⟩; have n_U : Aside0 (RU w.heap.size u81_ (.slice A2 L c2) (allL l) gx) := ⟨RU_below (RU_of HU.out (by rw [hg]; exact Nat.le_refl _)) hb⟩; clear HU; have HU := n_U; clear n_U; have n_HB := Aside0.mk (below_step HB.out hb); have n_HA := Aside0.mk (AGX_below HA.out hb); clear HB HA; have HB := n_HB; have HA := n_HA; clear n_HB n_HA; have BX := Aside0.mk hbox; clear hbox hb hg) | ((with_reducible refine gate_store (t := 24) (p := 11) rfl ?_); refine store_event (t := 24) (p := 11) (v := .tmp 61) (w1 := (u81_).setRow gx #[.int .i64 0, .int .i64 0, .int .i64 0, .int .u64 0]) ?hg ?ho ?hn ?hr ?_; (case ho => rfl); (case hg => rfl); (case hn => rfl); (case hr => exact run_store_row 24 _ _ _ _ rfl rfl rfl BX.out (by kernel_rfl) rfl (by kernel_rfl)); intro u82_ hw; have n_HB : Aside0 (Below w.heap.size w u82_) := ⟨by rw [hw]; exact below_setRow HB.out GE.out _⟩; have n_HU : Aside0 (RU w.heap.size u82_ (.slice A2 L c2) (allL l) gx) := ⟨by rw [hw]; exact RU_row HU.out _⟩; have n_HA : Aside0 (AGX w.heap.size u82_ g v lr 65536 (L : Int)) := ⟨by rw [hw]; exact AGX_row HA.out NB.out _⟩; have n_BX : Aside0 (u82_.heap[gx]? = some (.cells #[.int .i64 0, .int .i64 0, .int .i64 0, .int .u64 0] 24 (0, 0))) := ⟨by rw [hw]; exact blk_row _ BX.out⟩; clear hw HB HU HA BX; have HB := n_HB; have HU := n_HU; have HA := n_HA; have BX := n_BX; clear n_HB n_HU n_HA n_BX))
          replace HU := Aside0.mk (RU_any HU.out)
          clear NB GE BX
          obtain ⟨i0, hi0, _, hsz, _⟩ := info_parts info24
          have hcut := cut_from (P := Try.prog) 42 24 .i64 Try.underlying42 hi0 4 hsz A2 L c2 (wn : Int) (by omega) (by omega)
          have hnn : ((wn : Int)).toNat = wn := Int.toNat_natCast wn
          rw [hnn, HLM.out] at hcut
          obtain ⟨A1, hA1⟩ : ∃ A1, A1 = (if c2 = wn then A2 else A2.map (·.add (wn * 4))) := ⟨_, rfl⟩
          obtain ⟨c1, hc1⟩ : ∃ c1, c1 = c2 - wn := ⟨_, rfl⟩
          rw [← hA1, ← hc1] at hcut
          have HCC : Aside0 (m ≤ c1) := ⟨by have := HC2.out; have := HLM.out; omega⟩
          have HD : Aside0 (∀ W : World, Kd.R k24 24 W w.heap.size (fun _ => True) (.slice A2 L c2) (allL l) → Kd.C k24 W A1 (allL lr).length (allL lr)) := ⟨by
            intro W h_
            rw [hA1, ← HHD.out]
            obtain ⟨h1_, h2_, h3_⟩ := Kd.R_reads' h_
            exact Kd.C_drop h3_ (by omega) (by omega)⟩
          clear hnn hi0 hsz hA1 hc1
          refine start_ (n := 22) (S := fun w' => True) (ds := []) #[false, false, false, false, false, false, false, false, false, false, false, false, false, false, false, false, false, false, false, false, false, false] (by kernel_rfl) rfl rfl trivial (fun hHeld => ?_)
          replace HA := Aside0.mk (AGX_drew HA.out)
          replace HU := Aside0.mk (Kd.R_drew HU.out)
          replace HB := Aside0.mk (below_drew1 HB.out)
          generalize u82_.drew = u83_ at HA HU HB hHeld ⊢
          refine one_ (i := 0) (N := (some 79)) #[true, false, false, false, false, false, false, false, false, false, false, false, false, false, false, false, false, false, false, false, false, false] rfl rfl (by decide +kernel) (by decide) (fun K hK => ?_)
          refine goes_ Try.func8 (by kernel_rfl) rfl #[] (by rfl) rfl rfl (by (try simp only [List.map_toArray, List.map_cons, List.map_nil]); first | done | rfl) ?_
          refine (noted_v _).mono ?_
          rintro e u84_ ⟨rfl, hb⟩
          refine ⟨_, rfl, ?_⟩
          replace HA := Aside0.mk (AGX_below HA.out hb)
          replace HU := Aside0.mk (Kd.R_below HU.out hb)
          replace HB := Aside0.mk (below_step HB.out hb)
          clear hb
          refine hK.out _ _ trivial (fun hHeld => ?_)
          clear hK K
          refine norm_ (a' := ?_) ?_ ?_
          rotate_left
          · show Act.put _ (some 79) _ = _
            simp only [Act.put, List.setIfInBounds_toArray, List.set_cons_zero, List.set_cons_succ, i64_w, i32_w]
            rfl
          refine pure_ (i := 1) (N := (some 80)) (v := ?_) (a' := ?_) #[true, true, false, false, false, false, false, false, false, false, false, false, false, false, false, false, false, false, false, false, false, false] rfl rfl (by decide +kernel) (fun _ _ _ h => h) (Or.inl ⟨by rfl, ?_⟩) ?_ ?_
          rotate_left
          · intro w'
            go_simp
            with_reducible rfl
          rotate_left
          · simp only [Act.put, List.setIfInBounds_toArray, List.set_cons_zero, List.set_cons_succ, i64_w, i32_w]
            rfl
          refine pure_ (i := 2) (N := (some 81)) (v := ?_) (a' := ?_) #[true, true, true, false, false, false, false, false, false, false, false, false, false, false, false, false, false, false, false, false, false, false] rfl rfl (by decide +kernel) (fun _ _ _ h => h) (Or.inl ⟨by rfl, ?_⟩) ?_ ?_
          rotate_left
          · intro w'
            go_simp
            with_reducible rfl
          rotate_left
          · simp only [Act.put, List.setIfInBounds_toArray, List.set_cons_zero, List.set_cons_succ, i64_w, i32_w]
            rfl
          refine pure_ (i := 3) (N := (some 82)) (v := ?_) (a' := ?_) #[true, true, true, true, false, false, false, false, false, false, false, false, false, false, false, false, false, false, false, false, false, false] rfl rfl (by decide +kernel) (fun _ _ _ h => h) (Or.inl ⟨by rfl, ?_⟩) ?_ ?_
          rotate_left
          · intro w'
            go_simp
            with_reducible rfl
          rotate_left
          · simp only [Act.put, List.setIfInBounds_toArray, List.set_cons_zero, List.set_cons_succ, i64_w, i32_w]
            rfl
          refine pure_ (i := 4) (N := (some 83)) (v := ?_) (a' := ?_) #[true, true, true, true, true, false, false, false, false, false, false, false, false, false, false, false, false, false, false, false, false, false] rfl rfl (by decide +kernel) (fun _ _ _ h => h) (Or.inl ⟨by rfl, ?_⟩) ?_ ?_
          rotate_left
          · intro w'
            go_simp
            with_reducible rfl
          rotate_left
          · simp only [Act.put, List.setIfInBounds_toArray, List.set_cons_zero, List.set_cons_succ, i64_w, i32_w]
            rfl
          refine pure_ (i := 5) (N := (some 84)) (v := ?_) (a' := ?_) #[true, true, true, true, true, true, false, false, false, false, false, false, false, false, false, false, false, false, false, false, false, false] rfl rfl (by decide +kernel) (fun _ _ _ h => h) (Or.inl ⟨by rfl, ?_⟩) ?_ ?_
          rotate_left
          · intro w'
            go_simp
            with_reducible rfl
          rotate_left
          · simp only [Act.put, List.setIfInBounds_toArray, List.set_cons_zero, List.set_cons_succ, i64_w, i32_w]
            rfl
          refine pure_ (i := 6) (N := (some 85)) (v := ?_) (a' := ?_) #[true, true, true, true, true, true, true, false, false, false, false, false, false, false, false, false, false, false, false, false, false, false] rfl rfl (by decide +kernel) (fun _ _ _ h => h) (Or.inl ⟨by rfl, ?_⟩) ?_ ?_
          rotate_left
          · intro w'
            go_simp
            with_reducible rfl
          rotate_left
          · simp only [Act.put, List.setIfInBounds_toArray, List.set_cons_zero, List.set_cons_succ, i64_w, i32_w]
            rfl
          refine pure_ (i := 7) (N := (some 86)) (v := ?_) (a' := ?_) #[true, true, true, true, true, true, true, true, false, false, false, false, false, false, false, false, false, false, false, false, false, false] rfl rfl (by decide +kernel) (fun _ _ _ h => h) (Or.inl ⟨by rfl, ?_⟩) ?_ ?_
          rotate_left
          · intro w'
            go_simp
            with_reducible rfl
          rotate_left
          · simp only [Act.put, List.setIfInBounds_toArray, List.set_cons_zero, List.set_cons_succ, i64_w, i32_w]
            rfl
          refine pure_ (i := 8) (N := (some 87)) (v := ?_) (a' := ?_) #[true, true, true, true, true, true, true, true, true, false, false, false, false, false, false, false, false, false, false, false, false, false] rfl rfl (by decide +kernel) (fun _ _ _ h => h) (Or.inl ⟨by rfl, ?_⟩) ?_ ?_
          rotate_left
          · intro w'
            go_simp
            with_reducible rfl
          rotate_left
          · simp only [Act.put, List.setIfInBounds_toArray, List.set_cons_zero, List.set_cons_succ, i64_w, i32_w]
            rfl
          refine pure_ (i := 9) (N := (some 88)) (v := ?_) (a' := ?_) #[true, true, true, true, true, true, true, true, true, true, false, false, false, false, false, false, false, false, false, false, false, false] rfl rfl (by decide +kernel) (fun _ _ _ h => h) (Or.inl ⟨by rfl, ?_⟩) ?_ ?_
          rotate_left
          · intro w'
            go_simp
            with_reducible rfl
          rotate_left
          · simp only [Act.put, List.setIfInBounds_toArray, List.set_cons_zero, List.set_cons_succ, i64_w, i32_w]
            rfl
          refine pure_ (i := 10) (N := (some 89)) (v := ?_) (a' := ?_) #[true, true, true, true, true, true, true, true, true, true, true, false, false, false, false, false, false, false, false, false, false, false] rfl rfl (by decide +kernel) (fun _ _ _ h => h) (Or.inl ⟨by rfl, ?_⟩) ?_ ?_
          rotate_left
          · intro w'
            go_simp
            with_reducible rfl
          rotate_left
          · simp only [Act.put, List.setIfInBounds_toArray, List.set_cons_zero, List.set_cons_succ, i64_w, i32_w]
            rfl
          refine pure_ (i := 11) (N := (some 90)) (v := ?_) (a' := ?_) #[true, true, true, true, true, true, true, true, true, true, true, true, false, false, false, false, false, false, false, false, false, false] rfl rfl (by decide +kernel) (fun _ _ _ h => h) (Or.inl ⟨by rfl, ?_⟩) ?_ ?_
          rotate_left
          · intro w'
            go_simp
            with_reducible rfl
          rotate_left
          · simp only [Act.put, List.setIfInBounds_toArray, List.set_cons_zero, List.set_cons_succ, i64_w, i32_w]
            rfl
          refine pure_ (i := 12) (N := (some 91)) (v := ?_) (a' := ?_) #[true, true, true, true, true, true, true, true, true, true, true, true, true, false, false, false, false, false, false, false, false, false] rfl rfl (by decide +kernel) (fun _ _ _ h => h) (Or.inl ⟨by rfl, ?_⟩) ?_ ?_
          rotate_left
          · intro w'
            go_simp
            with_reducible rfl
          rotate_left
          · simp only [Act.put, List.setIfInBounds_toArray, List.set_cons_zero, List.set_cons_succ, i64_w, i32_w]
            rfl
          refine pure_ (i := 13) (N := (some 92)) (v := ?_) (a' := ?_) #[true, true, true, true, true, true, true, true, true, true, true, true, true, true, false, false, false, false, false, false, false, false] rfl rfl (by decide +kernel) (fun _ _ _ h => h) (Or.inl ⟨by rfl, ?_⟩) ?_ ?_
          rotate_left
          · intro w'
            go_simp
            with_reducible rfl
          rotate_left
          · simp only [Act.put, List.setIfInBounds_toArray, List.set_cons_zero, List.set_cons_succ, i64_w, i32_w]
            rfl
          refine pure_ (i := 14) (N := (some 93)) (v := ?_) (a' := ?_) #[true, true, true, true, true, true, true, true, true, true, true, true, true, true, true, false, false, false, false, false, false, false] rfl rfl (by decide +kernel) (fun _ _ _ h => h) (Or.inl ⟨by rfl, ?_⟩) ?_ ?_
          rotate_left
          · intro w'
            go_simp
            with_reducible rfl
          rotate_left
          · simp only [Act.put, List.setIfInBounds_toArray, List.set_cons_zero, List.set_cons_succ, i64_w, i32_w]
            rfl
          refine pure_ (i := 16) (N := (some 95)) (v := ?_) (a' := ?_) #[true, true, true, true, true, true, true, true, true, true, true, true, true, true, true, false, true, false, false, false, false, false] rfl rfl (by decide +kernel) (fun _ _ _ h => h) (Or.inl ⟨by rfl, ?_⟩) ?_ ?_
          rotate_left
          · intro w'
            go_simp
            with_reducible rfl
          rotate_left
          · simp only [Act.put, List.setIfInBounds_toArray, List.set_cons_zero, List.set_cons_succ, i64_w, i32_w]
            rfl
          refine pure_ (i := 17) (N := (some 96)) (v := ?_) (a' := ?_) #[true, true, true, true, true, true, true, true, true, true, true, true, true, true, true, false, true, true, false, false, false, false] rfl rfl (by decide +kernel) (fun _ _ _ h => h) (Or.inl ⟨by rfl, ?_⟩) ?_ ?_
          rotate_left
          · intro w'
            go_simp
            with_reducible rfl
          rotate_left
          · simp only [Act.put, List.setIfInBounds_toArray, List.set_cons_zero, List.set_cons_succ, i64_w, i32_w]
            rfl
          refine pure_ (i := 18) (N := (some 97)) (v := ?_) (a' := ?_) #[true, true, true, true, true, true, true, true, true, true, true, true, true, true, true, false, true, true, true, false, false, false] rfl rfl (by decide +kernel) (fun _ _ _ h => h) (Or.inl ⟨by rfl, ?_⟩) ?_ ?_
          rotate_left
          · intro w'
            go_simp
            with_reducible rfl
          rotate_left
          · simp only [Act.put, List.setIfInBounds_toArray, List.set_cons_zero, List.set_cons_succ, i64_w, i32_w]
            rfl
          refine one_ (i := 15) (N := (some 94)) #[true, true, true, true, true, true, true, true, true, true, true, true, true, true, true, true, true, true, true, false, false, false] rfl rfl (by decide +kernel) (by decide) (fun K hK => ?_)
          refine goes_ Try.func18 (by kernel_rfl) rfl #[.pointer (some ⟨g, 0, none⟩)] (by rfl) rfl rfl (by (try simp only [List.map_toArray, List.map_cons, List.map_nil]); first | done | rfl) ?_
          refine (All_x w.heap.size g v lr 65536 (L : Int) _ HA.out HB.out.size m HM.out HML.out).mono ?_
          rintro e u85_ ⟨A3, c3, rfl, hc3, hu, hb⟩
          refine ⟨_, rfl, ?_⟩
          replace HA := Aside0.mk (AGX_below HA.out hb)
          replace HU := Aside0.mk (Kd.R_below HU.out hb)
          replace HB := Aside0.mk (below_step HB.out hb)
          have HU3 := Aside0.mk hu
          have HC3 := Aside0.mk hc3
          clear hb hu hc3
          refine hK.out _ _ trivial (fun hHeld => ?_)
          clear hK K
          refine norm_ (a' := ?_) ?_ ?_
          rotate_left
          · show Act.put _ (some 94) _ = _
            simp only [Act.put, List.setIfInBounds_toArray, List.set_cons_zero, List.set_cons_succ, i64_w, i32_w]
            rfl
          refine one_ (i := 19) (N := (some 98)) #[true, true, true, true, true, true, true, true, true, true, true, true, true, true, true, true, true, true, true, true, false, false] rfl rfl (by decide +kernel) (by decide) (fun K hK => ?_)
          refine goes_ Try.func17 (by kernel_rfl) rfl #[.slice A3 m c3, .slice A1 m c1] (by rfl) rfl rfl (by (try simp only [List.map_toArray, List.map_cons, List.map_nil]); first | done | rfl) ?_
          refine (Same_x (allL lr) m (by rw [allL_length]; exact HM.out) HML.out A3 c3 A1 c1 _ (Kd.R_reads' HU3.out).2.2 HC3.out (HD.out _ HU.out) HCC.out).mono ?_
          rintro e u86_ ⟨rfl, hb⟩
          refine ⟨_, rfl, ?_⟩
          replace HA := Aside0.mk (AGX_below HA.out hb)
          replace HB := Aside0.mk (below_step HB.out hb)
          clear HU HU3
          clear hb
          refine hK.out _ _ trivial (fun hHeld => ?_)
          clear hK K
          refine norm_ (a' := ?_) ?_ ?_
          rotate_left
          · show Act.put _ (some 98) _ = _
            simp only [Act.put, List.setIfInBounds_toArray, List.set_cons_zero, List.set_cons_succ, i64_w, i32_w]
            rfl
          refine pure_ (i := 20) (N := (some 99)) (v := ?_) (a' := ?_) #[true, true, true, true, true, true, true, true, true, true, true, true, true, true, true, true, true, true, true, true, true, false] rfl rfl (by decide +kernel) (fun _ _ _ h => h) (Or.inl ⟨by rfl, ?_⟩) ?_ ?_
          rotate_left
          · intro w'
            go_simp
            with_reducible rfl
          rotate_left
          · simp only [Act.put, List.setIfInBounds_toArray, List.set_cons_zero, List.set_cons_succ, i64_w, i32_w]
            rfl
          refine pure_ (i := 21) (N := (some 4)) (v := ?_) (a' := ?_) #[true, true, true, true, true, true, true, true, true, true, true, true, true, true, true, true, true, true, true, true, true, true] rfl rfl (by decide +kernel) (fun _ _ _ h => h) (Or.inl ⟨by rfl, ?_⟩) ?_ ?_
          rotate_left
          · intro w'
            go_simp
            with_reducible rfl
          rotate_left
          · simp only [Act.put, List.setIfInBounds_toArray, List.set_cons_zero, List.set_cons_succ, i64_w, i32_w]
            rfl
          refine done_ (by kernel_rfl) ?_
          go_wp2
          go_ret
          exact ⟨rfl, HB.out⟩
        · obtain ⟨x, hx0, hxt⟩ : ∃ x, lr[0]? = some x ∧ x.f0 ≤ till := by
            apply Classical.byContradiction
            intro hn
            exact hs (fun x h1_ => by
              apply Classical.byContradiction
              intro h2_
              exact hn ⟨x, h1_, by omega⟩)
          have hlp := (List.getElem?_eq_some_iff.1 hx0).1
          have HX0 := Aside0.mk hx0
          have HXT := Aside0.mk hxt
          have HLR : Aside0 (lr.length ≤ 1000000) := ⟨by omega⟩
          have HTD := Aside0.mk (told_step HI.out.2.2.1 hx0)
          have HCT := Aside0.mk (cT_take hx0 hxt)
          have HLl : Aside0 (l.length = L) := ⟨hel⟩
          have p5 : n < L := by omega
          have hwi : IntKind.i64.wrap ((n : Int) + 1) = (n : Int) + 1 := by rw [i64_w]; unfold wrap64; omega
          clear hs hx0 hxt
          go_wp2_with (first | ((with_reducible refine gate_callee (f := 11) rfl ?_); refine goesL_ (some 60) rfl rfl Try.func11 (by kernel_rfl) rfl #[.pointer (some ⟨g, 0, none⟩), .int .i64 till] rfl (by (try simp only [List.map_toArray, List.map_cons, List.map_nil]); first | done | rfl) ?_; (refine (Next_x w.heap.size w g v lr (takeL lr) 65536 (L : Int) till x _ HA.out HB.out HB.out.size HX0.out HXT.out HLR.out rfl).mono ?_); rintro e u80_ ⟨v2, rfl, hA, hw_⟩; refine ⟨_, rfl, ?_⟩; have n_HU := Aside0.mk (R_went HU.out HA.out.1 hw_.2.1); have n_HA := Aside0.mk (hA); have n_HB := Aside0.mk (hw_.1); clear HU HA HB; have HU := n_HU; have HA := n_HA; have HB := n_HB; clear n_HU n_HA n_HB; clear hA hw_) | ((with_reducible refine gate_dst (N := 11) rfl ?_); refine box_event ?hg (N := 11) ?hd (cs := #[.int .i64 0, .int .i64 0, .int .i64 0, .int .u64 0]) (t := 24) ?hr ?_; (case hd => rfl); (case hg => rfl); (case hr => first | (go_simp; done) | (go_simp; rfl)); intro gx hg u81_ hbox hb; have GE : Aside0 (w.heap.size ≤ gx) := ⟨by rw [hg]; exact HB.out.size⟩; have NB : Aside0 (NBX g v2 gx) := ⟨by rw [hg]; exact NBX_new HA.out⟩; have n_U : Aside0 (RU w.heap.size u81_ (.slice A2 L c2) (allL l) gx) := ⟨RU_below (RU_of HU.out (by rw [hg]; exact Nat.le_refl _)) hb⟩; clear HU; have HU := n_U; clear n_U; have n_HB := Aside0.mk (below_step HB.out hb); have n_HA := Aside0.mk (AGX_below HA.out hb); clear HB HA; have HB := n_HB; have HA := n_HA; clear n_HB n_HA; have BX := Aside0.mk hbox; clear hbox hb hg) | ((with_reducible refine gate_store (t := 24) (p := 11) rfl ?_); refine store_event (t := 24) (p := 11) (v := .tmp 61) (w1 := (u81_).setRow gx #[.int .i64 x.f0, .int .i64 x.f1, .int .i64 x.f2, .int .u64 x.f3]) ?hg ?ho ?hn ?hr ?_; (case ho => rfl); (case hg => rfl); (case hn => rfl); (case hr => exact run_store_row 24 _ _ _ _ rfl rfl rfl BX.out (by kernel_rfl) rfl (by kernel_rfl)); intro u82_ hw; have n_HB : Aside0 (Below w.heap.size w u82_) := ⟨by rw [hw]; exact below_setRow HB.out GE.out _⟩; have n_HU : Aside0 (RU w.heap.size u82_ (.slice A2 L c2) (allL l) gx) := ⟨by rw [hw]; exact RU_row HU.out _⟩; have n_HA : Aside0 (AGX w.heap.size u82_ g v2 (takeL lr) 65536 (L : Int)) := ⟨by rw [hw]; exact AGX_row HA.out NB.out _⟩; have n_BX : Aside0 (u82_.heap[gx]? = some (.cells #[.int .i64 x.f0, .int .i64 x.f1, .int .i64 x.f2, .int .u64 x.f3] 24 (0, 0))) := ⟨by rw [hw]; exact blk_row _ BX.out⟩; clear hw HB HU HA BX; have HB := n_HB; have HU := n_HU; have HA := n_HA; have BX := n_BX; clear n_HB n_HU n_HA n_BX; have hy0 : u82_.cell? ⟨gx, 0, none⟩ = some (.int .i64 x.f0) := (blk_cell BX.out 0).trans rfl; have hy1 : u82_.cell? ⟨gx, 1, none⟩ = some (.int .i64 x.f1) := (blk_cell BX.out 1).trans rfl; have hy2 : u82_.cell? ⟨gx, 2, none⟩ = some (.int .i64 x.f2) := (blk_cell BX.out 2).trans rfl; have hy3 : u82_.cell? ⟨gx, 3, none⟩ = some (.int .u64 x.f3) := (blk_cell BX.out 3).trans rfl))
          obtain ⟨ad2, e2, hz0, hz1, hz2, hz3⟩ := at_T24 (Kd.R_reads' HU.out).2.2 (n : Int) (by omega) (by rw [allL_length, HLl.out]; omega)
          subst e2
          rw [HTD.out.2] at hz0 hz1 hz2 hz3
          simp only [Int.toNat_natCast, evS] at hz0 hz1 hz2 hz3
          repeat (go_quiet (fail); try go_wp2)
          go_roundw
          case rel => exact ⟨n + 1, v2, takeL lr, by go_num, ⟨by rw [takeL_length]; omega, takeL_heap HI.out.2.1, HTD.out.1, by have h1_ := HI.out.2.2.2; have h2_ := HCT.out; omega⟩, ⟨⟨AG_move HA.out.1 (fun _ _ _ => rfl), HA.out.2⟩⟩, ⟨Kd.R_drewN (RU_any HU.out) _⟩, ⟨pw_below_drewN HB.out _⟩⟩
          case measure => simp [intOf]; omega
open Classical in
/-- The law AgendaTill, as the walk needs it. -/
noncomputable def pacemakerlaw29_AgendaTill.f (_q : Nat) (_ts : List Int) (_till : Int) : Option Bool := some true
theorem pacemakerlaw29_AgendaTill.calls (q : Nat) (A : Option Addr) (c : Nat) (ts : List Int) (till : Int) (r : Bool) (w : World) (hr0 : Kd.C (Kd.int .i64) w A ts.length ts) (_hc0 : ts.length ≤ c) (HT : Aside0 (r = true)) (_h : pacemakerlaw29_AgendaTill.f q ts till = some r) :
    Calls Try.prog 6 #[.slice A ts.length c, .int .i64 till] w fun e w' => e = .returned (.bool r) ∧ Below w.heap.size w w' := by
  obtain rfl := HT.out
  by_cases h1 : 200 < ts.length ∨ ts.length = 0
  · exact till_none ts A c till w h1
  · exact till_ok ts A c till w hr0 ts.length rfl (by omega) (by omega)
end Go.Proofs.Ytocdpfdnnijdkaa.G
