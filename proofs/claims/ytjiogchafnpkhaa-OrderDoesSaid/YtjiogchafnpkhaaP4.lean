import Derived.Test.YtjiogchafnpkhaaP3
namespace Go.Proofs.Ytjiogchafnpkhaa.D
open Go.RowKit Go.Proofs.YtjiogchafnpkhaaW.PrintWords Go.Proofs.YtjiogchafnpkhaaW.PrintLast Go.Proofs.YtjiogchafnpkhaaW.PrintMore
attribute [local go_sem] max2_int min2_int max_two min_two max_three min_three max_four min_four
attribute [local go_sem] Go.Proofs.YtjiogchafnpkhaaS.cell_set_map Go.Proofs.YtjiogchafnpkhaaS.setCell_drewN
set_option linter.unusedVariables false
set_option linter.unusedSimpArgs false
attribute [local go_sem] eq45 eq55 idx0 idx1 idx2 idx3 idx4 idx5
theorem nextSt_range (k st ic : Int) (h : 0 ≤ st ∧ st < 18446744073709551616) : 0 ≤ nextSt k st ic ∧ nextSt k st ic < 18446744073709551616 := stI_range k ic st h 1
theorem belowSt_range (k st ic n : Int) (h : 0 ≤ st ∧ st < 18446744073709551616) : 0 ≤ belowSt k st ic n ∧ belowSt k st ic n < 18446744073709551616 := by
  unfold belowSt
  split
  · exact h
  · exact nextSt_range k st ic h
set_option maxHeartbeats 16000000 in
set_option maxRecDepth 100000 in
theorem ref_perm_walk (k st ic at_ : Int) (A : Option Addr) (c : Nat) (l : List Int) (n : Nat) (w : World) (hr : Kd.C (Kd.int .u64) w A l.length l) (hu : ∀ y ∈ l, 0 ≤ y) (hs : 0 ≤ st ∧ st < 18446744073709551616) (h1 : 1 ≤ n) (h2 : n ≤ 64) (xs9 : List Int) (st9 at9 : Int) (hP : permI k ic l (n - 1) (rangeI n) st at_ = (xs9, st9, at9)) :
    Calls Try.prog 40 #[.agg #[.int .i64 k, .int .u64 st, .int .u64 ic, .slice A l.length c, .int .i64 at_], .int .i64 (n : Int)] w fun e w' => ∃ (A1 : Option Addr) (c1 : Nat), e = .returned (.tuple #[.slice A1 n c1, .agg #[.int .i64 k, .int .u64 st9, .int .u64 ic, .slice A l.length c, .int .i64 at9]]) ∧ n ≤ c1 ∧ Kd.C (Kd.int .i64) w' A1 n xs9 ∧ Below w.heap.size w w' := by
  have hu25 := Try.underlying25
  have HR := Aside0.mk hr
  clear hr
  have B2 := Aside0.mk (blk_alloc (blk_new w (.cells #[.int .i64 k, .int .u64 st, .int .u64 ic, .slice A l.length c, .int .i64 at_] 25 (0, 0))) (.cells #[.int .i64 0, .int .u64 0, .int .u64 0, .slice none 0 0, .int .i64 0] 25 (0, 0)))
  have B5 := Aside0.mk (show (((w.alloc (.cells #[.int .i64 k, .int .u64 st, .int .u64 ic, .slice A l.length c, .int .i64 at_] 25 (0, 0))).alloc (.cells #[.int .i64 0, .int .u64 0, .int .u64 0, .slice none 0 0, .int .i64 0] 25 (0, 0))).heap[w.heap.size + 1]? = some (.cells #[.int .i64 0, .int .u64 0, .int .u64 0, .slice none 0 0, .int .i64 0] 25 (0, 0))) by have := blk_new (w.alloc (.cells #[.int .i64 k, .int .u64 st, .int .u64 ic, .slice A l.length c, .int .i64 at_] 25 (0, 0))) (.cells #[.int .i64 0, .int .u64 0, .int .u64 0, .slice none 0 0, .int .i64 0] 25 (0, 0)); rwa [Go.Proofs.YtjiogchafnpkhaaS.size_alloc] at this)
  have HB := Aside0.mk (below_alloc (below_alloc (Below.refl w.heap.size w) (.cells #[.int .i64 k, .int .u64 st, .int .u64 ic, .slice A l.length c, .int .i64 at_] 25 (0, 0))) (.cells #[.int .i64 0, .int .u64 0, .int .u64 0, .slice none 0 0, .int .i64 0] 25 (0, 0)))
  have GE5 : Aside0 (w.heap.size ≤ w.heap.size + 1) := ⟨by omega⟩
  have hu34 := Try.underlying34
  have p1 : decide ((n : Int) < 1) = false := decide_eq_false (by omega)
  have p2 : decide (64 < (n : Int)) = false := decide_eq_false (by omega)
  have HP := Aside0.mk hP
  have HU := Aside0.mk hu
  have HS2 := Aside0.mk hs
  clear hP hu hs
  go_enter Try.func40, Try.ntmps40
  go_wp2
  have NE : Aside0 (w.heap.size + 1 ≠ w.heap.size) := ⟨by omega⟩
  go_loopw [6, 7] (fun v6 v7 wr => ∃ i : Nat, i ≤ n ∧ v7 = .int .i64 (i : Int) ∧ Aside0 (wr.heap[w.heap.size]? = some (.cells #[.int .i64 k, .int .u64 st, .int .u64 ic, .slice A l.length c, .int .i64 at_] 25 (0, 0))) ∧ Aside0 (wr.heap[w.heap.size + 1]? = some (.cells #[.int .i64 0, .int .u64 0, .int .u64 0, .slice none 0 0, .int .i64 0] 25 (0, 0))) ∧ Aside0 (Kd.R (Kd.int .i64) 3 wr w.heap.size (fun k_ => k_ ≠ w.heap.size ∧ k_ ≠ w.heap.size + 1) v6 (rangeI i)) ∧ Aside0 (Below w.heap.size w wr)) (fun _ v7 _ => n - (intOf v7).toNat)
  case atStart => exact ⟨0, Nat.zero_le _, rfl, B2, B5, ⟨Kd.R_nil _ _ _ _ _⟩, HB⟩
  case round =>
    clear B2 B5 HB
    obtain ⟨i, hi, rfl, B2, B5, HO, HB⟩ := hrel
    by_cases hlt : i < n
    · have hq : (i : Int) < (n : Int) := by omega
      have LEN : Aside0 ((rangeI i).length ≤ 64) := ⟨by rw [rangeI_length]; omega⟩
      have HU2 : Aside0 (rangeI (i + 1) = rangeI i ++ [(i : Int)]) := ⟨by simp [rangeI, List.range_succ]⟩
      have BN := Aside0.mk (blk_new wr (.cells #[.int .i64 (i : Int)] 3 (0, 0)))
      replace B2 := Aside0.mk (blk_alloc B2.out (.cells #[.int .i64 (i : Int)] 3 (0, 0)))
      replace B5 := Aside0.mk (blk_alloc B5.out (.cells #[.int .i64 (i : Int)] 3 (0, 0)))
      replace HO := Aside0.mk (Kd.R_alloc HO.out (.cells #[.int .i64 (i : Int)] 3 (0, 0)))
      replace HB := Aside0.mk (below_alloc HB.out (.cells #[.int .i64 (i : Int)] 3 (0, 0)))
      go_wp2_with (first | ((with_reducible refine gate_builtin (b := .append) (xs := #[.tmp 24, .tmp 26]) rfl ?_); at_builtin; refine Kd.R_append_rows (Kd.int .i64) (w0 := w) w.heap.size (by rfl) (.tmp 24) (.tmp 26) 34 3 (.int .i64 0) 8 rfl Try.underlying34 info3 rfl (by decide) (by omega) u6 (rangeI i) [(i : Int)] _ _ _ (fun k_ => k_ ≠ w.heap.size ∧ k_ ≠ w.heap.size + 1) (fun _ => False) rfl rfl HO.out (reads_blk1 BN.out) (fun _ _ h => h) (fun _ h => h.elim) (fun k_ hk => by have h1 := blk_lt B2.out; have h2 := blk_lt B5.out; exact ⟨by omega, by omega⟩) HB.out (below_size HB.out) (by have := LEN.out; simp; omega) ?_; intro v1 w3 ho hb hgr hat; have n2_ := Aside0.mk (blk_grown B2.out hgr (Kd.R_ne HO.out B2.out (by decide))); have n3_ := Aside0.mk (blk_grown B5.out hgr (Kd.R_ne HO.out B5.out (by decide))); clear HO HB B2 B5 BN hgr hat; have HO := Aside0.mk ho; have HB := Aside0.mk hb; have B2 := n2_; have B5 := n3_; clear ho hb n2_ n3_))
      go_roundw
      case rel => exact ⟨i + 1, by omega, by go_num, B2, B5, ⟨by rw [HU2.out]; exact HO.out⟩, HB⟩
      case measure => simp [intOf]; omega
    · have hq : ¬ (i : Int) < (n : Int) := by omega
      obtain rfl : n = i := by omega
      have hro := row_of_R HO.out (by rw [rangeI_length]; omega)
      have hne2 := Kd.R_ne HO.out B2.out (by decide)
      have hne5 := Kd.R_ne HO.out B5.out (by decide)
      obtain ⟨gg, cap, ex, he, hcap, hgb, hg⟩ := hro
      subst he
      clear HO
      rw [rangeI_length] at hcap ⊢
      have GL : Aside0 (w.heap.size ≤ gg) := ⟨hgb⟩
      have NL2 : Aside0 (w.heap.size ≠ gg) := ⟨fun e => hne2 (by rw [e]; rfl)⟩
      have NL5 : Aside0 (w.heap.size + 1 ≠ gg) := ⟨fun e => hne5 (by rw [e]; rfl)⟩
      have NS2 : Aside0 (gg ≠ w.heap.size) := ⟨fun e => NL2.out e.symm⟩
      have NGG : Aside0 (gg ≠ w.heap.size + 1) := ⟨fun e => NL5.out e.symm⟩
      have HCAP := Aside0.mk hcap
      have B6 := Aside0.mk hg
      generalize had : (⟨gg, 0, none⟩ : Addr) = ad
      have HAD : Aside0 (∀ j : Nat, ad.add j = ⟨gg, j, none⟩) := ⟨fun j => by rw [← had]; exact add0 _ j⟩
      have HAD0 := Aside0.mk had
      clear had hne2 hne5 hgb hg hcap
      go_wp2
      have hN0 : ∃ m0 : Nat, n = m0 + 1 := ⟨n - 1, by omega⟩
      obtain ⟨m0, hi0⟩ := hN0
      have hPs := HP.out
      rw [show n - 1 = m0 by omega] at hPs
      have hv8 : (n : Int) - 1 = (m0 : Int) := by omega
      rw [hv8]
      have hA0 := Aside0.mk hPs
      clear hPs hv8 HP
      have HRL := Aside0.mk (rangeI_length n)
      go_loopw [8] (fun v8 wr => ∃ (i : Nat) (xs : List Int) (st0 at0 : Int), i < n ∧ Aside0 (xs.length = n) ∧ v8 = .int .i64 (i : Int) ∧ Aside0 (permI k ic l i xs st0 at0 = (xs9, st9, at9)) ∧ Aside0 (0 ≤ st0 ∧ st0 < 18446744073709551616) ∧ Aside0 (wr.heap[w.heap.size]? = some (.cells #[.int .i64 k, .int .u64 st0, .int .u64 ic, .slice A l.length c, .int .i64 at0] 25 (0, 0))) ∧ Aside0 (wr.heap[w.heap.size + 1]? = some (.cells #[.int .i64 0, .int .u64 0, .int .u64 0, .slice none 0 0, .int .i64 0] 25 (0, 0))) ∧ Aside0 (wr.heap[gg]? = some (.cells (mkA xs ++ ex) 3 (0, 0))) ∧ Aside0 (Below w.heap.size w wr)) (fun v8 _ => (intOf v8).toNat)
      case atStart => exact ⟨m0, rangeI n, st, at_, by omega, HRL, rfl, hA0, HS2, B2, B5, B6, HB⟩
      case round =>
        clear B2 B5 B6 HB HRL hA0
        clear hi0
        obtain ⟨i, xs, st0, at0, hi, HXL, rfl, HPI, HS0, B2, B5, B6, HB⟩ := hrel
        cases i with
        | zero =>
          have hPe := HPI.out
          unfold permI at hPe
          injection hPe with e1 e2
          injection e2 with e2 e3
          subst e1
          subst e2
          subst e3
          have B3 := B5
          have GE3 := GE5
          clear B5 HPI
          have NG6 := NGG
          go_wp2_with fail
          refine start_ (n := 4) (S := fun w' => w'.cell? ⟨w.heap.size, 0, none⟩ = some (.int .i64 k) ∧ w'.cell? ⟨w.heap.size, 1, none⟩ = some (.int .u64 st0) ∧ w'.cell? ⟨w.heap.size, 2, none⟩ = some (.int .u64 ic) ∧ w'.cell? ⟨w.heap.size, 3, none⟩ = some (.slice A l.length c) ∧ w'.cell? ⟨w.heap.size, 4, none⟩ = some (.int .i64 at0)) (ds := [3]) #[false, false, false, false] (by kernel_rfl) rfl rfl ⟨(blk_cell B2.out 0).trans rfl, (blk_cell B2.out 1).trans rfl, (blk_cell B2.out 2).trans rfl, (blk_cell B2.out 3).trans rfl, (blk_cell B2.out 4).trans rfl⟩ (fun hHeld => ?_)
          replace B2 := Aside0.mk (blk_drew B2.out)
          replace B3 := Aside0.mk (blk_drew B3.out)
          replace B6 := Aside0.mk (blk_drew B6.out)
          replace HB := Aside0.mk (below_drew1 HB.out)
          generalize wr.drew = W6 at B2 B3 B6 HB hHeld ⊢
          refine pure_ (i := 0) (N := (some 57)) (v := ?_) (a' := ?_) #[true, false, false, false] rfl rfl (by kernel_rfl) (fun _ _ _ h => h) (Or.inl ⟨by rfl, ?_⟩) ?_ ?_
          rotate_left
          · intro w'
            go_simp
            with_reducible rfl
          rotate_left
          · simp only [Act.put, List.setIfInBounds_toArray, List.set_cons_zero, List.set_cons_succ, i64_w, i32_w]
            rfl
          refine take_ (i := 1) (N := (some 58)) (v := ?_) (a' := ?_) #[true, true, false, false] rfl rfl (by kernel_rfl) (fun _ _ _ h => h) (Or.inl ⟨by rfl, ?_⟩) hHeld ?_ ?_
          rotate_left
          · rintro w' ⟨s0, s1, s2, s3, s4⟩
            go_simp
            with_reducible rfl
          rotate_left
          · simp only [Act.put, List.setIfInBounds_toArray, List.set_cons_zero, List.set_cons_succ, i64_w, i32_w]
            rfl
          refine pure_ (i := 2) (N := (some 4)) (v := ?_) (a' := ?_) #[true, true, true, false] rfl rfl (by kernel_rfl) (fun _ _ _ h => h) (Or.inl ⟨by rfl, ?_⟩) ?_ ?_
          rotate_left
          · intro w'
            go_simp
            with_reducible rfl
          rotate_left
          · simp only [Act.put, List.setIfInBounds_toArray, List.set_cons_zero, List.set_cons_succ, i64_w, i32_w]
            rfl
          refine last_ (i := 3) (N := none) #[true, true, true, true] rfl rfl (by kernel_rfl) (by decide) (fun K hK => ?_)
          have hs0 : W6.cell? ⟨w.heap.size + 1, 0, none⟩ = some (.int .i64 0) := (blk_cell B3.out 0).trans rfl
          have hf0 := blk_frozen B3.out 0
          have hs1 : W6.cell? ⟨w.heap.size + 1, 1, none⟩ = some (.int .u64 0) := (blk_cell B3.out 1).trans rfl
          have hf1 := blk_frozen B3.out 1
          have hs2 : W6.cell? ⟨w.heap.size + 1, 2, none⟩ = some (.int .u64 0) := (blk_cell B3.out 2).trans rfl
          have hf2 := blk_frozen B3.out 2
          have hs3 : W6.cell? ⟨w.heap.size + 1, 3, none⟩ = some (.slice none 0 0) := (blk_cell B3.out 3).trans rfl
          have hf3 := blk_frozen B3.out 3
          have hs4 : W6.cell? ⟨w.heap.size + 1, 4, none⟩ = some (.int .i64 0) := (blk_cell B3.out 4).trans rfl
          have hf4 := blk_frozen B3.out 4
          refine skip_ (w1 := ?_) (by rfl) rfl ?_ ?_
          rotate_left
          · go_simp
            rfl
          refine hK.out _ _ ?_
          clear hK K
          refine done_ (by kernel_rfl) ?_
          try go_wp2
          have q0 := blk_set B3.out 0 (.int .i64 k)
          have q1 := blk_set q0 1 (.int .u64 st0)
          have q2 := blk_set q1 2 (.int .u64 ic)
          have q3 := blk_set q2 3 (.slice A l.length c)
          have q4 := blk_set q3 4 (.int .i64 at0)
          (try simp only [Exit.inBlock, Exit.then])
          (try rw [Exit.noGoto_ret])
          refine bodyPost_ret (results_list (rs := [.tmp 4, .cell 5 25]) rfl (by simp) (.tmp (.cell (w.heap.size + 1) 25 #[.int .i64 k, .int .u64 st0, .int .u64 ic, .slice A l.length c, .int .i64 at0] (0, 0) _ rfl (q4.trans (by rfl)) Try.underlying25 rfl (by kernel_rfl) .nil))) rfl ⟨_, _, rfl, HCAP.out, ?_, ?_⟩
          · have h_ := rowE_C (by rw [HXL.out]; omega) (blk_far (blk_far (blk_far (blk_far (blk_far B6.out (p := ⟨w.heap.size + 1, 0, none⟩) NG6.out (.int .i64 k)) (p := ⟨w.heap.size + 1, 1, none⟩) NG6.out (.int .u64 st0)) (p := ⟨w.heap.size + 1, 2, none⟩) NG6.out (.int .u64 ic)) (p := ⟨w.heap.size + 1, 3, none⟩) NG6.out (.slice A l.length c)) (p := ⟨w.heap.size + 1, 4, none⟩) NG6.out (.int .i64 at0))
            rw [HXL.out, HAD0.out] at h_
            exact h_
          · exact (below_set (j := 4) (v := (.int .i64 at0)) (below_set (j := 3) (v := (.slice A l.length c)) (below_set (j := 2) (v := (.int .u64 ic)) (below_set (j := 1) (v := (.int .u64 st0)) (below_set (j := 0) (v := (.int .i64 k)) HB.out GE3.out) GE3.out) GE3.out) GE3.out) GE3.out)
        | succ i0 =>
          obtain ⟨ip, hip⟩ : ∃ ip : Nat, i0 + 1 = ip := ⟨_, rfl⟩
          obtain ⟨jj, hjj⟩ : ∃ jj : Int, (i0 : Int) + 2 = jj := ⟨_, rfl⟩
          rw [hip] at hi ⊢
          have hPe := HPI.out
          unfold permI at hPe
          rw [hjj, show (i0 : Int) + 1 = (ip : Int) by omega] at hPe
          have hjr := d_below k st0 l at0 jj (by omega)
          obtain ⟨jn, hjn⟩ : ∃ jn : Nat, belowX k st0 l at0 jj = (jn : Int) := ⟨(belowX k st0 l at0 jj).toNat, by omega⟩
          rw [hjn] at hPe hjr
          have hw : IntKind.i64.wrap ((ip : Int) + 1) = jj := (IntWalk.i64_in _ ⟨by omega, by omega⟩).trans (by omega)
          have hw2 : IntKind.i64.wrap ((ip : Int) - 1) = (i0 : Int) := (IntWalk.i64_in _ ⟨by omega, by omega⟩).trans (by omega)
          have p3 : decide ((ip : Int) < 1) = false := decide_eq_false (by omega)
          have p4 : decide (1 ≤ (ip : Int)) = true := decide_eq_true (by omega)
          have hip0 : (0 : Int) ≤ (ip : Int) := by omega
          have hip1 : (ip : Int) < (n : Int) := by omega
          have hj0 : (0 : Int) ≤ (jn : Int) := by omega
          have hj1 : (jn : Int) < (n : Int) := by omega
          have HIP := Aside0.mk hi
          have HJN : Aside0 (jn < n) := ⟨by omega⟩
          have HX := Aside0.mk hjn
          have HSN_ := belowSt_range k st0 ic jj HS0.out
          clear hjn hjr
          obtain ⟨st1, hs1⟩ : ∃ z, belowSt k st0 ic jj = z := ⟨_, rfl⟩
          obtain ⟨at1, ha1⟩ : ∃ z, belowAt k l at0 jj = z := ⟨_, rfl⟩
          rw [hs1, ha1] at hPe
          rw [hs1] at HSN_
          have HSN := Aside0.mk HSN_
          clear HSN_
          have HS := Aside0.mk hs1
          have HA := Aside0.mk ha1
          clear hs1 ha1
          have hxi := rowE_cell B6.out ip (by rw [HXL.out]; exact hi)
          have hxj := rowE_cell B6.out jn (by rw [HXL.out]; exact HJN.out)
          obtain ⟨xi, hxi1⟩ : ∃ z, rd xs (ip : Int) = z := ⟨_, rfl⟩
          obtain ⟨xj, hxj1⟩ : ∃ z, rd xs (jn : Int) = z := ⟨_, rfl⟩
          have hsw : swapL xs (ip : Int) (jn : Int) = (xs.set ip xj).set jn xi := by rw [← hxi1, ← hxj1]; rfl
          rw [hsw] at hPe
          replace HPI := Aside0.mk hPe
          have HXI := Aside0.mk hxi1
          have HXJ := Aside0.mk hxj1
          have HIPE := Aside0.mk hip
          clear hPe hsw hxi hxj hxi1 hxj1 hip hjj
          have ha0 : wr.cell? ⟨w.heap.size, 0, none⟩ = some (.int .i64 k) := (blk_cell B2.out 0).trans rfl; have fa0 := blk_frozen B2.out 0; have ha1 : wr.cell? ⟨w.heap.size, 1, none⟩ = some (.int .u64 st0) := (blk_cell B2.out 1).trans rfl; have fa1 := blk_frozen B2.out 1; have ha2 : wr.cell? ⟨w.heap.size, 2, none⟩ = some (.int .u64 ic) := (blk_cell B2.out 2).trans rfl; have fa2 := blk_frozen B2.out 2; have ha3 : wr.cell? ⟨w.heap.size, 3, none⟩ = some (.slice A l.length c) := (blk_cell B2.out 3).trans rfl; have fa3 := blk_frozen B2.out 3; have ha4 : wr.cell? ⟨w.heap.size, 4, none⟩ = some (.int .i64 at0) := (blk_cell B2.out 4).trans rfl; have fa4 := blk_frozen B2.out 4
          go_wp2_with (first | ((with_reducible refine gate_callee (f := 26) rfl ?_); refine goesL_ (some 38) rfl rfl Try.func26 (by kernel_rfl) rfl #[.agg #[.int .i64 k, .int .u64 st0, .int .u64 ic, .slice A l.length c, .int .i64 at0], .int .i64 jj] rfl (by (try simp only [List.map_toArray, List.map_cons, List.map_nil]); first | done | rfl) ?_; (refine (ref_Below_calls k st0 ic at0 A c l jj _ (Kd.C_below HR.out HB.out) HU.out HS0.out).mono ?_); rintro e w1 ⟨rfl, hb⟩; rw [HX.out, HS.out, HA.out]; refine ⟨_, rfl, ?_⟩; have n1_ := Aside0.mk (below_alloc (below_step HB.out hb) (.cells #[.int .i64 k, .int .u64 st1, .int .u64 ic, .slice A l.length c, .int .i64 at1] 25 (0, 0))); have n2_ := Aside0.mk (blk_alloc (blk_below B2.out hb) (.cells #[.int .i64 k, .int .u64 st1, .int .u64 ic, .slice A l.length c, .int .i64 at1] 25 (0, 0))); have n5_ := Aside0.mk (blk_alloc (blk_below B5.out hb) (.cells #[.int .i64 k, .int .u64 st1, .int .u64 ic, .slice A l.length c, .int .i64 at1] 25 (0, 0))); have n6_ := Aside0.mk (blk_alloc (blk_below B6.out hb) (.cells #[.int .i64 k, .int .u64 st1, .int .u64 ic, .slice A l.length c, .int .i64 at1] 25 (0, 0))); have n9_ := Aside0.mk (blk_new w1 (.cells #[.int .i64 k, .int .u64 st1, .int .u64 ic, .slice A l.length c, .int .i64 at1] 25 (0, 0))); clear HB B2 B5 B6 hb; clear ha0 fa0 ha1 fa1 ha2 fa2 ha3 fa3 ha4 fa4; have hb0 : (w1.alloc (.cells #[.int .i64 k, .int .u64 st1, .int .u64 ic, .slice A l.length c, .int .i64 at1] 25 (0, 0))).cell? ⟨w.heap.size, 0, none⟩ = some (.int .i64 k) := (blk_cell n2_.out 0).trans rfl; have fb0 := blk_frozen n2_.out 0; have hb1 : (w1.alloc (.cells #[.int .i64 k, .int .u64 st1, .int .u64 ic, .slice A l.length c, .int .i64 at1] 25 (0, 0))).cell? ⟨w.heap.size, 1, none⟩ = some (.int .u64 st0) := (blk_cell n2_.out 1).trans rfl; have fb1 := blk_frozen n2_.out 1; have hb2 : (w1.alloc (.cells #[.int .i64 k, .int .u64 st1, .int .u64 ic, .slice A l.length c, .int .i64 at1] 25 (0, 0))).cell? ⟨w.heap.size, 2, none⟩ = some (.int .u64 ic) := (blk_cell n2_.out 2).trans rfl; have fb2 := blk_frozen n2_.out 2; have hb3 : (w1.alloc (.cells #[.int .i64 k, .int .u64 st1, .int .u64 ic, .slice A l.length c, .int .i64 at1] 25 (0, 0))).cell? ⟨w.heap.size, 3, none⟩ = some (.slice A l.length c) := (blk_cell n2_.out 3).trans rfl; have fb3 := blk_frozen n2_.out 3; have hb4 : (w1.alloc (.cells #[.int .i64 k, .int .u64 st1, .int .u64 ic, .slice A l.length c, .int .i64 at1] 25 (0, 0))).cell? ⟨w.heap.size, 4, none⟩ = some (.int .i64 at0) := (blk_cell n2_.out 4).trans rfl; have fb4 := blk_frozen n2_.out 4; have hd0 : (w1.alloc (.cells #[.int .i64 k, .int .u64 st1, .int .u64 ic, .slice A l.length c, .int .i64 at1] 25 (0, 0))).cell? ⟨w1.heap.size, 0, none⟩ = some (.int .i64 k) := (blk_cell n9_.out 0).trans rfl; have hd1 : (w1.alloc (.cells #[.int .i64 k, .int .u64 st1, .int .u64 ic, .slice A l.length c, .int .i64 at1] 25 (0, 0))).cell? ⟨w1.heap.size, 1, none⟩ = some (.int .u64 st1) := (blk_cell n9_.out 1).trans rfl; have hd2 : (w1.alloc (.cells #[.int .i64 k, .int .u64 st1, .int .u64 ic, .slice A l.length c, .int .i64 at1] 25 (0, 0))).cell? ⟨w1.heap.size, 2, none⟩ = some (.int .u64 ic) := (blk_cell n9_.out 2).trans rfl; have hd3 : (w1.alloc (.cells #[.int .i64 k, .int .u64 st1, .int .u64 ic, .slice A l.length c, .int .i64 at1] 25 (0, 0))).cell? ⟨w1.heap.size, 3, none⟩ = some (.slice A l.length c) := (blk_cell n9_.out 3).trans rfl; have hd4 : (w1.alloc (.cells #[.int .i64 k, .int .u64 st1, .int .u64 ic, .slice A l.length c, .int .i64 at1] 25 (0, 0))).cell? ⟨w1.heap.size, 4, none⟩ = some (.int .i64 at1) := (blk_cell n9_.out 4).trans rfl; have B2 : Aside0 (((((((w1.alloc (.cells #[.int .i64 k, .int .u64 st1, .int .u64 ic, .slice A l.length c, .int .i64 at1] 25 (0, 0))).setCell ⟨w.heap.size, 0, none⟩ (.int .i64 k)).setCell ⟨w.heap.size, 1, none⟩ (.int .u64 st1)).setCell ⟨w.heap.size, 2, none⟩ (.int .u64 ic)).setCell ⟨w.heap.size, 3, none⟩ (.slice A l.length c)).setCell ⟨w.heap.size, 4, none⟩ (.int .i64 at1)).heap[w.heap.size]? = some (.cells #[.int .i64 k, .int .u64 st1, .int .u64 ic, .slice A l.length c, .int .i64 at1] 25 (0, 0))) := ⟨((blk_set (blk_set (blk_set (blk_set (blk_set n2_.out 0 (.int .i64 k)) 1 (.int .u64 st1)) 2 (.int .u64 ic)) 3 (.slice A l.length c)) 4 (.int .i64 at1))).trans (by rfl)⟩; have B5 : Aside0 (((((((w1.alloc (.cells #[.int .i64 k, .int .u64 st1, .int .u64 ic, .slice A l.length c, .int .i64 at1] 25 (0, 0))).setCell ⟨w.heap.size, 0, none⟩ (.int .i64 k)).setCell ⟨w.heap.size, 1, none⟩ (.int .u64 st1)).setCell ⟨w.heap.size, 2, none⟩ (.int .u64 ic)).setCell ⟨w.heap.size, 3, none⟩ (.slice A l.length c)).setCell ⟨w.heap.size, 4, none⟩ (.int .i64 at1)).heap[w.heap.size + 1]? = some (.cells #[.int .i64 0, .int .u64 0, .int .u64 0, .slice none 0 0, .int .i64 0] 25 (0, 0))) := ⟨(blk_far (blk_far (blk_far (blk_far (blk_far n5_.out (p := ⟨w.heap.size, 0, none⟩) NE.out (.int .i64 k)) (p := ⟨w.heap.size, 1, none⟩) NE.out (.int .u64 st1)) (p := ⟨w.heap.size, 2, none⟩) NE.out (.int .u64 ic)) (p := ⟨w.heap.size, 3, none⟩) NE.out (.slice A l.length c)) (p := ⟨w.heap.size, 4, none⟩) NE.out (.int .i64 at1))⟩; have B6 : Aside0 (((((((w1.alloc (.cells #[.int .i64 k, .int .u64 st1, .int .u64 ic, .slice A l.length c, .int .i64 at1] 25 (0, 0))).setCell ⟨w.heap.size, 0, none⟩ (.int .i64 k)).setCell ⟨w.heap.size, 1, none⟩ (.int .u64 st1)).setCell ⟨w.heap.size, 2, none⟩ (.int .u64 ic)).setCell ⟨w.heap.size, 3, none⟩ (.slice A l.length c)).setCell ⟨w.heap.size, 4, none⟩ (.int .i64 at1)).heap[gg]? = some (.cells (mkA xs ++ ex) 3 (0, 0))) := ⟨(blk_far (blk_far (blk_far (blk_far (blk_far n6_.out (p := ⟨w.heap.size, 0, none⟩) NS2.out (.int .i64 k)) (p := ⟨w.heap.size, 1, none⟩) NS2.out (.int .u64 st1)) (p := ⟨w.heap.size, 2, none⟩) NS2.out (.int .u64 ic)) (p := ⟨w.heap.size, 3, none⟩) NS2.out (.slice A l.length c)) (p := ⟨w.heap.size, 4, none⟩) NS2.out (.int .i64 at1))⟩; have HB : Aside0 (Below w.heap.size w ((((((w1.alloc (.cells #[.int .i64 k, .int .u64 st1, .int .u64 ic, .slice A l.length c, .int .i64 at1] 25 (0, 0))).setCell ⟨w.heap.size, 0, none⟩ (.int .i64 k)).setCell ⟨w.heap.size, 1, none⟩ (.int .u64 st1)).setCell ⟨w.heap.size, 2, none⟩ (.int .u64 ic)).setCell ⟨w.heap.size, 3, none⟩ (.slice A l.length c)).setCell ⟨w.heap.size, 4, none⟩ (.int .i64 at1))) := ⟨(below_set (j := 4) (v := (.int .i64 at1)) (below_set (j := 3) (v := (.slice A l.length c)) (below_set (j := 2) (v := (.int .u64 ic)) (below_set (j := 1) (v := (.int .u64 st1)) (below_set (j := 0) (v := (.int .i64 k)) n1_.out (Nat.le_refl _)) (Nat.le_refl _)) (Nat.le_refl _)) (Nat.le_refl _)) (Nat.le_refl _))⟩; clear n1_ n2_ n5_ n6_ n9_; have hci : ((((((w1.alloc (.cells #[.int .i64 k, .int .u64 st1, .int .u64 ic, .slice A l.length c, .int .i64 at1] 25 (0, 0))).setCell ⟨w.heap.size, 0, none⟩ (.int .i64 k)).setCell ⟨w.heap.size, 1, none⟩ (.int .u64 st1)).setCell ⟨w.heap.size, 2, none⟩ (.int .u64 ic)).setCell ⟨w.heap.size, 3, none⟩ (.slice A l.length c)).setCell ⟨w.heap.size, 4, none⟩ (.int .i64 at1)).cell? (ad.add ip) = some (.int .i64 xi) := (by rw [HAD.out ip, ← HXI.out]; exact rowE_cell B6.out ip (by rw [HXL.out]; exact HIP.out)); have hcj : ((((((w1.alloc (.cells #[.int .i64 k, .int .u64 st1, .int .u64 ic, .slice A l.length c, .int .i64 at1] 25 (0, 0))).setCell ⟨w.heap.size, 0, none⟩ (.int .i64 k)).setCell ⟨w.heap.size, 1, none⟩ (.int .u64 st1)).setCell ⟨w.heap.size, 2, none⟩ (.int .u64 ic)).setCell ⟨w.heap.size, 3, none⟩ (.slice A l.length c)).setCell ⟨w.heap.size, 4, none⟩ (.int .i64 at1)).cell? (ad.add jn) = some (.int .i64 xj) := (by rw [HAD.out jn, ← HXJ.out]; exact rowE_cell B6.out jn (by rw [HXL.out]; exact HJN.out)); have hfi : ((((((w1.alloc (.cells #[.int .i64 k, .int .u64 st1, .int .u64 ic, .slice A l.length c, .int .i64 at1] 25 (0, 0))).setCell ⟨w.heap.size, 0, none⟩ (.int .i64 k)).setCell ⟨w.heap.size, 1, none⟩ (.int .u64 st1)).setCell ⟨w.heap.size, 2, none⟩ (.int .u64 ic)).setCell ⟨w.heap.size, 3, none⟩ (.slice A l.length c)).setCell ⟨w.heap.size, 4, none⟩ (.int .i64 at1)).frozen? (ad.add ip) = false := (by rw [HAD.out ip]; exact blk_frozen B6.out ip); have hb6 : (((((((w1.alloc (.cells #[.int .i64 k, .int .u64 st1, .int .u64 ic, .slice A l.length c, .int .i64 at1] 25 (0, 0))).setCell ⟨w.heap.size, 0, none⟩ (.int .i64 k)).setCell ⟨w.heap.size, 1, none⟩ (.int .u64 st1)).setCell ⟨w.heap.size, 2, none⟩ (.int .u64 ic)).setCell ⟨w.heap.size, 3, none⟩ (.slice A l.length c)).setCell ⟨w.heap.size, 4, none⟩ (.int .i64 at1)).setCell (ad.add ip) (.int .i64 xj)).heap[gg]? = some (.cells (mkA (xs.set ip xj) ++ ex) 3 (0, 0)) := (by rw [HAD.out ip]; exact rowE_set B6.out ip (by rw [HXL.out]; exact HIP.out) xj); have hck : (((((((w1.alloc (.cells #[.int .i64 k, .int .u64 st1, .int .u64 ic, .slice A l.length c, .int .i64 at1] 25 (0, 0))).setCell ⟨w.heap.size, 0, none⟩ (.int .i64 k)).setCell ⟨w.heap.size, 1, none⟩ (.int .u64 st1)).setCell ⟨w.heap.size, 2, none⟩ (.int .u64 ic)).setCell ⟨w.heap.size, 3, none⟩ (.slice A l.length c)).setCell ⟨w.heap.size, 4, none⟩ (.int .i64 at1)).setCell (ad.add ip) (.int .i64 xj)).cell? (ad.add jn) = some (.int .i64 (rd (xs.set ip xj) (jn : Int))) := (by rw [HAD.out jn]; exact rowE_cell hb6 jn (by rw [List.length_set, HXL.out]; exact HJN.out)); have hfk : (((((((w1.alloc (.cells #[.int .i64 k, .int .u64 st1, .int .u64 ic, .slice A l.length c, .int .i64 at1] 25 (0, 0))).setCell ⟨w.heap.size, 0, none⟩ (.int .i64 k)).setCell ⟨w.heap.size, 1, none⟩ (.int .u64 st1)).setCell ⟨w.heap.size, 2, none⟩ (.int .u64 ic)).setCell ⟨w.heap.size, 3, none⟩ (.slice A l.length c)).setCell ⟨w.heap.size, 4, none⟩ (.int .i64 at1)).setCell (ad.add ip) (.int .i64 xj)).frozen? (ad.add jn) = false := (by rw [HAD.out jn]; exact blk_frozen hb6 jn); clear hb6))
          go_roundw
          case rel =>
            refine ⟨i0, (xs.set ip xj).set jn xi, st1, at1, by have := HIP.out; have := HIPE.out; omega, ⟨by rw [List.length_set, List.length_set]; exact HXL.out⟩, by first | go_num | rfl, HPI, HSN, ⟨?_⟩, ⟨?_⟩, ⟨?_⟩, ⟨?_⟩⟩
            · rw [HAD.out jn, HAD.out ip]
              exact blk_far (blk_far B2.out (p := ⟨gg, ip, none⟩) NL2.out _) (p := ⟨gg, jn, none⟩) NL2.out _
            · rw [HAD.out jn, HAD.out ip]
              exact blk_far (blk_far B5.out (p := ⟨gg, ip, none⟩) NL5.out _) (p := ⟨gg, jn, none⟩) NL5.out _
            · rw [HAD.out jn, HAD.out ip]
              exact rowE_set (rowE_set B6.out ip (by rw [HXL.out]; exact HIP.out) xj) jn (by rw [List.length_set, HXL.out]; exact HJN.out) xi
            · rw [HAD.out jn, HAD.out ip]
              exact below_set (below_set HB.out GL.out) GL.out
          case measure => have := HIPE.out; simp [intOf]; omega
set_option maxHeartbeats 4000000 in
set_option maxRecDepth 100000 in
theorem ref_perm_out (k st ic at_ : Int) (A : Option Addr) (c : Nat) (l : List Int) (n : Int) (w : World) (h : n < 1 ∨ 64 < n) : Calls Try.prog 40 #[.agg #[.int .i64 k, .int .u64 st, .int .u64 ic, .slice A l.length c, .int .i64 at_], .int .i64 n] w fun e w' => e = .returned (.tuple #[.slice none 0 0, .agg #[.int .i64 k, .int .u64 st, .int .u64 ic, .slice A l.length c, .int .i64 at_]]) ∧ Below w.heap.size w w' := by
  have hu25 := Try.underlying25
  have B1 := Aside0.mk (blk_alloc (blk_new w (.cells #[.int .i64 k, .int .u64 st, .int .u64 ic, .slice A l.length c, .int .i64 at_] 25 (0, 0))) (.cells #[.int .i64 0, .int .u64 0, .int .u64 0, .slice none 0 0, .int .i64 0] 25 (0, 0)))
  have B3 := Aside0.mk (show (((w.alloc (.cells #[.int .i64 k, .int .u64 st, .int .u64 ic, .slice A l.length c, .int .i64 at_] 25 (0, 0))).alloc (.cells #[.int .i64 0, .int .u64 0, .int .u64 0, .slice none 0 0, .int .i64 0] 25 (0, 0))).heap[w.heap.size + 1]? = some (.cells #[.int .i64 0, .int .u64 0, .int .u64 0, .slice none 0 0, .int .i64 0] 25 (0, 0))) by have := blk_new (w.alloc (.cells #[.int .i64 k, .int .u64 st, .int .u64 ic, .slice A l.length c, .int .i64 at_] 25 (0, 0))) (.cells #[.int .i64 0, .int .u64 0, .int .u64 0, .slice none 0 0, .int .i64 0] 25 (0, 0)); rwa [Go.Proofs.YtjiogchafnpkhaaS.size_alloc] at this)
  have HB := Aside0.mk (below_alloc (below_alloc (Below.refl w.heap.size w) (.cells #[.int .i64 k, .int .u64 st, .int .u64 ic, .slice A l.length c, .int .i64 at_] 25 (0, 0))) (.cells #[.int .i64 0, .int .u64 0, .int .u64 0, .slice none 0 0, .int .i64 0] 25 (0, 0)))
  have GE3 : Aside0 (w.heap.size ≤ w.heap.size + 1) := ⟨by omega⟩
  have hq : (∃ p1 : decide (n < 1) = true, True) ∨ (decide (n < 1) = false ∧ decide (64 < n) = true) := by
    by_cases g : n < 1
    · exact .inl ⟨decide_eq_true g, trivial⟩
    · exact .inr ⟨decide_eq_false g, decide_eq_true (by omega)⟩
  clear h
  rcases hq with ⟨p1, _⟩ | ⟨p1, p2⟩
  all_goals
    go_enter Try.func40, Try.ntmps40
    go_wp2_with fail
    skip
    skip
    generalize ((w.alloc (.cells #[.int .i64 k, .int .u64 st, .int .u64 ic, .slice A l.length c, .int .i64 at_] 25 (0, 0))).alloc (.cells #[.int .i64 0, .int .u64 0, .int .u64 0, .slice none 0 0, .int .i64 0] 25 (0, 0))) = W0 at *
    refine start_ (n := 3) (S := fun w' => w'.cell? ⟨w.heap.size, 0, none⟩ = some (.int .i64 k) ∧ w'.cell? ⟨w.heap.size, 1, none⟩ = some (.int .u64 st) ∧ w'.cell? ⟨w.heap.size, 2, none⟩ = some (.int .u64 ic) ∧ w'.cell? ⟨w.heap.size, 3, none⟩ = some (.slice A l.length c) ∧ w'.cell? ⟨w.heap.size, 4, none⟩ = some (.int .i64 at_)) (ds := [2]) #[false, false, false] (by kernel_rfl) rfl rfl ⟨(blk_cell B1.out 0).trans rfl, (blk_cell B1.out 1).trans rfl, (blk_cell B1.out 2).trans rfl, (blk_cell B1.out 3).trans rfl, (blk_cell B1.out 4).trans rfl⟩ (fun hHeld => ?_)
    replace B1 := Aside0.mk (blk_drew B1.out)
    replace B3 := Aside0.mk (blk_drew B3.out)
    replace HB := Aside0.mk (below_drew1 HB.out)
    generalize W0.drew = W6 at B1 B3 HB hHeld ⊢
    refine take_ (i := 0) (N := (some 18)) (v := ?_) (a' := ?_) #[true, false, false] rfl rfl (by kernel_rfl) (fun _ _ _ h => h) (Or.inl ⟨by rfl, ?_⟩) hHeld ?_ ?_
    rotate_left
    · rintro w' ⟨s0, s1, s2, s3, s4⟩
      go_simp
      with_reducible rfl
    rotate_left
    · simp only [Act.put, List.setIfInBounds_toArray, List.set_cons_zero, List.set_cons_succ, i64_w, i32_w]
      rfl
    refine pure_ (i := 1) (N := (some 4)) (v := ?_) (a' := ?_) #[true, true, false] rfl rfl (by kernel_rfl) (fun _ _ _ h => h) (Or.inl ⟨by rfl, ?_⟩) ?_ ?_
    rotate_left
    · intro w'
      go_simp
      with_reducible rfl
    rotate_left
    · simp only [Act.put, List.setIfInBounds_toArray, List.set_cons_zero, List.set_cons_succ, i64_w, i32_w]
      rfl
    refine last_ (i := 2) (N := none) #[true, true, true] rfl rfl (by kernel_rfl) (by decide) (fun K hK => ?_)
    have hs0 : W6.cell? ⟨w.heap.size + 1, 0, none⟩ = some (.int .i64 0) := (blk_cell B3.out 0).trans rfl
    have hf0 := blk_frozen B3.out 0
    have hs1 : W6.cell? ⟨w.heap.size + 1, 1, none⟩ = some (.int .u64 0) := (blk_cell B3.out 1).trans rfl
    have hf1 := blk_frozen B3.out 1
    have hs2 : W6.cell? ⟨w.heap.size + 1, 2, none⟩ = some (.int .u64 0) := (blk_cell B3.out 2).trans rfl
    have hf2 := blk_frozen B3.out 2
    have hs3 : W6.cell? ⟨w.heap.size + 1, 3, none⟩ = some (.slice none 0 0) := (blk_cell B3.out 3).trans rfl
    have hf3 := blk_frozen B3.out 3
    have hs4 : W6.cell? ⟨w.heap.size + 1, 4, none⟩ = some (.int .i64 0) := (blk_cell B3.out 4).trans rfl
    have hf4 := blk_frozen B3.out 4
    refine skip_ (w1 := ?_) (by rfl) rfl ?_ ?_
    rotate_left
    · go_simp
      rfl
    refine hK.out _ _ ?_
    clear hK K
    refine done_ (by kernel_rfl) ?_
    try go_wp2
    have q0 := blk_set B3.out 0 (.int .i64 k)
    have q1 := blk_set q0 1 (.int .u64 st)
    have q2 := blk_set q1 2 (.int .u64 ic)
    have q3 := blk_set q2 3 (.slice A l.length c)
    have q4 := blk_set q3 4 (.int .i64 at_)
    (try simp only [Exit.inBlock, Exit.then])
    (try rw [Exit.noGoto_ret])
    refine bodyPost_ret (results_list (rs := [.tmp 4, .cell 5 25]) rfl (by simp) (.tmp (.cell (w.heap.size + 1) 25 #[.int .i64 k, .int .u64 st, .int .u64 ic, .slice A l.length c, .int .i64 at_] (0, 0) _ rfl (q4.trans (by rfl)) Try.underlying25 rfl (by kernel_rfl) .nil))) rfl ⟨rfl, ?_⟩
    exact below_set (j := 4) (v := (.int .i64 at_)) (below_set (j := 3) (v := (.slice A l.length c)) (below_set (j := 2) (v := (.int .u64 ic)) (below_set (j := 1) (v := (.int .u64 st)) (below_set (j := 0) (v := (.int .i64 k)) HB.out GE3.out) GE3.out) GE3.out) GE3.out) GE3.out
end Go.Proofs.Ytjiogchafnpkhaa.D
