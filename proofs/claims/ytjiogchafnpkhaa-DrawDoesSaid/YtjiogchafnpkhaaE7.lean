import Derived.Test.YtjiogchafnpkhaaE3
import Derived.Test.YtjiogchafnpkhaaD12
namespace Go.Proofs.Ytjiogchafnpkhaa.D
open Go.RowKit Go.Proofs.YtjiogchafnpkhaaW.PrintWords Go.Proofs.YtjiogchafnpkhaaW.PrintLast Go.Proofs.YtjiogchafnpkhaaW.PrintMore
attribute [local go_sem] max2_int min2_int max_two min_two max_three min_three max_four min_four
attribute [local go_sem] Go.Proofs.YtjiogchafnpkhaaS.cell_set_map Go.Proofs.YtjiogchafnpkhaaS.setCell_drewN
set_option linter.unusedVariables false
set_option linter.unusedSimpArgs false
theorem stI_range (k ic st : Int) (h : 0 ≤ st ∧ st < 18446744073709551616) : ∀ i, 0 ≤ stI k ic st i ∧ stI k ic st i < 18446744073709551616
  | 0 => h
  | i + 1 => by
    show 0 ≤ nextSt k (stI k ic st i) ic ∧ _
    have := stI_range k ic st h i
    show 0 ≤ nextSt k (stI k ic st i) ic ∧ nextSt k (stI k ic st i) ic < 18446744073709551616
    unfold nextSt pcgSt
    split
    · rw [u64_w (_ + ic)]
      omega
    · exact this
set_option maxHeartbeats 8000000 in
set_option maxRecDepth 100000 in
theorem ref_Many_calls (k st ic at_ : Int) (A : Option Addr) (c : Nat) (l : List Int) (n : Int) (w : World) (hr : Kd.C (Kd.int .u64) w A l.length l) (hu : ∀ y ∈ l, 0 ≤ y) (hs : 0 ≤ st ∧ st < 18446744073709551616) (m : Nat) (hm : mx 0 (mn n 1000) = (m : Int)) : Calls Try.prog 25 #[.agg #[.int .i64 k, .int .u64 st, .int .u64 ic, .slice A l.length c, .int .i64 at_], .int .i64 n] w fun e w' => ∃ v0_ : Value, e = .returned (.tuple #[v0_, .agg #[.int .i64 k, .int .u64 (stI k ic st m), .int .u64 ic, .slice A l.length c, .int .i64 (atI k l at_ m)]]) ∧ Kd.R (Kd.int .i64) 3 w' w.heap.size (fun _ => True) v0_ (outI k ic st l at_ m) ∧ Below w.heap.size w w' := by
  have hu25 := Try.underlying25
  have HR := Aside0.mk hr
  clear hr
  have B2 := Aside0.mk (blk_alloc (blk_new w (.cells #[.int .i64 k, .int .u64 st, .int .u64 ic, .slice A l.length c, .int .i64 at_] 25 (0, 0))) (.cells #[.int .i64 0, .int .u64 0, .int .u64 0, .slice none 0 0, .int .i64 0] 25 (0, 0)))
  have B5 := Aside0.mk (show (((w.alloc (.cells #[.int .i64 k, .int .u64 st, .int .u64 ic, .slice A l.length c, .int .i64 at_] 25 (0, 0))).alloc (.cells #[.int .i64 0, .int .u64 0, .int .u64 0, .slice none 0 0, .int .i64 0] 25 (0, 0))).heap[w.heap.size + 1]? = some (.cells #[.int .i64 0, .int .u64 0, .int .u64 0, .slice none 0 0, .int .i64 0] 25 (0, 0))) by have := blk_new (w.alloc (.cells #[.int .i64 k, .int .u64 st, .int .u64 ic, .slice A l.length c, .int .i64 at_] 25 (0, 0))) (.cells #[.int .i64 0, .int .u64 0, .int .u64 0, .slice none 0 0, .int .i64 0] 25 (0, 0)); rwa [Go.Proofs.YtjiogchafnpkhaaS.size_alloc] at this)
  have HB := Aside0.mk (below_alloc (below_alloc (Below.refl w.heap.size w) (.cells #[.int .i64 k, .int .u64 st, .int .u64 ic, .slice A l.length c, .int .i64 at_] 25 (0, 0))) (.cells #[.int .i64 0, .int .u64 0, .int .u64 0, .slice none 0 0, .int .i64 0] 25 (0, 0)))
  have GE5 : Aside0 (w.heap.size ≤ w.heap.size + 1) := ⟨by omega⟩
  have HU := Aside0.mk hu
  have HSI := Aside0.mk (stI_range k ic st hs)
  clear hu hs
  have NE : Aside0 (w.heap.size + 1 ≠ w.heap.size) := ⟨by omega⟩
  have hE : ∀ q, q ∈ 3 :: (Kd.int .i64).E → q ≠ 25 := by
    intro q hq
    have : q = 3 := by simpa [Kd.int, Kd.scalar] using hq
    omega
  have hm1 : m ≤ 1000 := by unfold mx mn at hm; (repeat' split at hm) <;> omega
  have hmn : ∀ i : Nat, i ≤ m → ((i : Int) < n ∧ (i : Int) < 1000 ∧ i < m) ∨ (¬ ((i : Int) < n ∧ (i : Int) < 1000) ∧ i = m) := by
    intro i hi
    unfold mx mn at hm
    (repeat' split at hm) <;> omega
  replace hmn := Aside0.mk hmn
  clear hm
  go_enter Try.func25, Try.ntmps25
  go_wp2
  go_loopw [6, 7] (fun v6 v11 wr => ∃ i : Nat, i ≤ m ∧ v11 = .int .i64 i ∧ Aside0 (wr.heap[w.heap.size]? = some (.cells #[.int .i64 k, .int .u64 (stI k ic st i), .int .u64 ic, .slice A l.length c, .int .i64 (atI k l at_ i)] 25 (0, 0))) ∧ Aside0 (wr.heap[w.heap.size + 1]? = some (.cells #[.int .i64 0, .int .u64 0, .int .u64 0, .slice none 0 0, .int .i64 0] 25 (0, 0))) ∧ Aside0 (Kd.R (Kd.int .i64) 3 wr w.heap.size (fun k_ => k_ ≠ w.heap.size ∧ k_ ≠ w.heap.size + 1) v6 (outI k ic st l at_ i)) ∧ Aside0 (Below w.heap.size w wr)) (fun _ v11 _ => m - (intOf v11).toNat)
  case atStart => exact ⟨0, Nat.zero_le _, rfl, B2, B5, ⟨Kd.R_nil _ _ _ _ _⟩, HB⟩
  case round =>
    clear B2 B5 HB
    obtain ⟨i, hi, rfl, B2, B5, HO, HB⟩ := hrel
    rcases hmn.out i hi with ⟨hq, hq2, hlt⟩ | ⟨hq, hlt⟩
    · have HS0 := Aside0.mk (HSI.out i)
      obtain ⟨x, hx⟩ : ∃ x, nextX k (stI k ic st i) l (atI k l at_ i) = x := ⟨_, rfl⟩
      have HU2 : Aside0 (outI k ic st l at_ (i + 1) = outI k ic st l at_ i ++ [x]) := ⟨by rw [outI_succ, hx]⟩
      have hs : nextSt k (stI k ic st i) ic = stI k ic st (i + 1) := rfl
      have ha : nextAt k l (atI k l at_ i) = atI k l at_ (i + 1) := rfl
      obtain ⟨st1, hst1⟩ : ∃ z, stI k ic st (i + 1) = z := ⟨_, rfl⟩
      obtain ⟨at1, hat1⟩ : ∃ z, atI k l at_ (i + 1) = z := ⟨_, rfl⟩
      rw [hst1] at hs
      rw [hat1] at ha
      generalize stI k ic st i = st0 at *
      generalize atI k l at_ i = at0 at *
      have HX := Aside0.mk hx
      have HS := Aside0.mk hs
      have HA := Aside0.mk ha
      have HST1 := Aside0.mk hst1
      have HAT1 := Aside0.mk hat1
      clear hs ha hst1 hat1
      have LEN : Aside0 ((outI k ic st l at_ i).length ≤ 1000) := ⟨by rw [outI_length]; omega⟩
      clear hx
      have ha0 : wr.cell? ⟨w.heap.size, 0, none⟩ = some (.int .i64 k) := (blk_cell B2.out 0).trans rfl
      have fa0 := blk_frozen B2.out 0
      have ha1 : wr.cell? ⟨w.heap.size, 1, none⟩ = some (.int .u64 st0) := (blk_cell B2.out 1).trans rfl
      have fa1 := blk_frozen B2.out 1
      have ha2 : wr.cell? ⟨w.heap.size, 2, none⟩ = some (.int .u64 ic) := (blk_cell B2.out 2).trans rfl
      have fa2 := blk_frozen B2.out 2
      have ha3 : wr.cell? ⟨w.heap.size, 3, none⟩ = some (.slice A l.length c) := (blk_cell B2.out 3).trans rfl
      have fa3 := blk_frozen B2.out 3
      have ha4 : wr.cell? ⟨w.heap.size, 4, none⟩ = some (.int .i64 at0) := (blk_cell B2.out 4).trans rfl
      have fa4 := blk_frozen B2.out 4
      go_wp2_with (first | ((with_reducible refine gate_callee (f := 14) rfl ?_); refine goesL_ (some 21) rfl rfl Try.func14 (by kernel_rfl) rfl #[.agg #[.int .i64 k, .int .u64 st0, .int .u64 ic, .slice A l.length c, .int .i64 at0]] rfl (by (try simp only [List.map_toArray, List.map_cons, List.map_nil]); first | done | rfl) ?_; (refine (ref_Next_calls k st0 ic at0 A c l _ (Kd.C_below HR.out HB.out) HU.out HS0.out).mono ?_); rintro e w1 ⟨rfl, hb⟩; rw [HX.out, HS.out, HA.out]; refine ⟨_, rfl, ?_⟩; have n1_ := Aside0.mk (below_step HB.out hb); have n2_ := Aside0.mk (blk_below B2.out hb); have n3_ := Aside0.mk (blk_below B5.out hb); have n4_ := Aside0.mk (Kd.R_below HO.out hb); clear HB B2 B5 HO hb; clear ha0 fa0 ha1 fa1 ha2 fa2 ha3 fa3 ha4 fa4; have HO : Aside0 (Kd.R (Kd.int .i64) 3 ((w1.alloc (.cells #[.int .i64 k, .int .u64 st1, .int .u64 ic, .slice A l.length c, .int .i64 at1] 25 (0, 0))).alloc (.cells #[.int .i64 x] 3 (0, 0))) w.heap.size (fun k_ => k_ ≠ w.heap.size ∧ k_ ≠ w.heap.size + 1) u6 (outI k ic st l at_ i)) := ⟨Kd.R_alloc (Kd.R_alloc n4_.out (.cells #[.int .i64 k, .int .u64 st1, .int .u64 ic, .slice A l.length c, .int .i64 at1] 25 (0, 0))) (.cells #[.int .i64 x] 3 (0, 0))⟩; have B5 := Aside0.mk (blk_alloc (blk_alloc n3_.out (.cells #[.int .i64 k, .int .u64 st1, .int .u64 ic, .slice A l.length c, .int .i64 at1] 25 (0, 0))) (.cells #[.int .i64 x] 3 (0, 0))); have B2 := Aside0.mk (blk_alloc (blk_alloc n2_.out (.cells #[.int .i64 k, .int .u64 st1, .int .u64 ic, .slice A l.length c, .int .i64 at1] 25 (0, 0))) (.cells #[.int .i64 x] 3 (0, 0))); have HB := Aside0.mk (below_alloc (below_alloc n1_.out (.cells #[.int .i64 k, .int .u64 st1, .int .u64 ic, .slice A l.length c, .int .i64 at1] 25 (0, 0))) (.cells #[.int .i64 x] 3 (0, 0))); have B9 := Aside0.mk (blk_alloc (blk_new w1 (.cells #[.int .i64 k, .int .u64 st1, .int .u64 ic, .slice A l.length c, .int .i64 at1] 25 (0, 0))) (.cells #[.int .i64 x] 3 (0, 0))); have BN : Aside0 (((w1.alloc (.cells #[.int .i64 k, .int .u64 st1, .int .u64 ic, .slice A l.length c, .int .i64 at1] 25 (0, 0))).alloc (.cells #[.int .i64 x] 3 (0, 0))).heap[w1.heap.size + 1]? = some (.cells #[.int .i64 x] 3 (0, 0))) := ⟨by have h_ := blk_new (w1.alloc (.cells #[.int .i64 k, .int .u64 st1, .int .u64 ic, .slice A l.length c, .int .i64 at1] 25 (0, 0))) (.cells #[.int .i64 x] 3 (0, 0)); rwa [Go.Proofs.YtjiogchafnpkhaaS.size_alloc] at h_⟩; clear n1_ n2_ n3_ n4_) | ((with_reducible refine gate_builtin (b := .append) (xs := #[.tmp 24, .tmp 26]) rfl ?_); at_builtin; refine Kd.R_append_rows (Kd.int .i64) (w0 := w) w.heap.size (by rfl) (.tmp 24) (.tmp 26) 34 3 (.int .i64 0) 8 rfl Try.underlying34 info3 rfl (by decide) (by omega) u6 (outI k ic st l at_ i) [x] _ _ _ (fun k_ => k_ ≠ w.heap.size ∧ k_ ≠ w.heap.size + 1) (fun _ => False) rfl rfl HO.out (reads_blk1 BN.out) (fun _ _ h => h) (fun _ h => h.elim) (fun k_ hk => by have h1 := blk_lt B2.out; have h2 := blk_lt B5.out; exact ⟨by omega, by omega⟩) HB.out (below_size HB.out) (by have := LEN.out; simp; omega) ?_; intro v1 w3 ho hb hgr hat; have n2_ := Aside0.mk (blk_grown B2.out hgr (Kd.R_ne HO.out B2.out (by decide))); have n3_ := Aside0.mk (blk_grown B5.out hgr (Kd.R_ne HO.out B5.out (by decide))); have n4_ := Aside0.mk (blk_grown B9.out hgr (Kd.R_ne HO.out B9.out (by decide))); clear HO HB B2 B5 BN B9 hgr hat; have HO := Aside0.mk ho; have HB := Aside0.mk hb; have B2 := n2_; have B5 := n3_; have B9 := n4_; clear ho hb n2_ n3_ n4_; have ha0 : w3.cell? ⟨w.heap.size, 0, none⟩ = some (.int .i64 k) := (blk_cell B2.out 0).trans rfl; have fa0 := blk_frozen B2.out 0; have ha1 : w3.cell? ⟨w.heap.size, 1, none⟩ = some (.int .u64 st0) := (blk_cell B2.out 1).trans rfl; have fa1 := blk_frozen B2.out 1; have ha2 : w3.cell? ⟨w.heap.size, 2, none⟩ = some (.int .u64 ic) := (blk_cell B2.out 2).trans rfl; have fa2 := blk_frozen B2.out 2; have ha3 : w3.cell? ⟨w.heap.size, 3, none⟩ = some (.slice A l.length c) := (blk_cell B2.out 3).trans rfl; have fa3 := blk_frozen B2.out 3; have ha4 : w3.cell? ⟨w.heap.size, 4, none⟩ = some (.int .i64 at0) := (blk_cell B2.out 4).trans rfl; have fa4 := blk_frozen B2.out 4; have hb0 : w3.cell? ⟨w1.heap.size, 0, none⟩ = some (.int .i64 k) := (blk_cell B9.out 0).trans rfl; have fb0 := blk_frozen B9.out 0; have hb1 : w3.cell? ⟨w1.heap.size, 1, none⟩ = some (.int .u64 st1) := (blk_cell B9.out 1).trans rfl; have fb1 := blk_frozen B9.out 1; have hb2 : w3.cell? ⟨w1.heap.size, 2, none⟩ = some (.int .u64 ic) := (blk_cell B9.out 2).trans rfl; have fb2 := blk_frozen B9.out 2; have hb3 : w3.cell? ⟨w1.heap.size, 3, none⟩ = some (.slice A l.length c) := (blk_cell B9.out 3).trans rfl; have fb3 := blk_frozen B9.out 3; have hb4 : w3.cell? ⟨w1.heap.size, 4, none⟩ = some (.int .i64 at1) := (blk_cell B9.out 4).trans rfl; have fb4 := blk_frozen B9.out 4))
      go_roundw
      case rel => exact ⟨i + 1, by omega, by go_num, by rw [HST1.out, HAT1.out]; exact ⟨((blk_set (blk_set (blk_set (blk_set (blk_set B2.out 0 (.int .i64 k)) 1 (.int .u64 st1)) 2 (.int .u64 ic)) 3 (.slice A l.length c)) 4 (.int .i64 at1))).trans (by rfl)⟩, ⟨(blk_far (blk_far (blk_far (blk_far (blk_far B5.out (p := ⟨w.heap.size, 0, none⟩) NE.out (.int .i64 k)) (p := ⟨w.heap.size, 1, none⟩) NE.out (.int .u64 st1)) (p := ⟨w.heap.size, 2, none⟩) NE.out (.int .u64 ic)) (p := ⟨w.heap.size, 3, none⟩) NE.out (.slice A l.length c)) (p := ⟨w.heap.size, 4, none⟩) NE.out (.int .i64 at1))⟩, ⟨by rw [HU2.out]; exact (Kd.R_set (Kd.R_set (Kd.R_set (Kd.R_set (Kd.R_set HO.out (g := w.heap.size) B2.out hE 0 (.int .i64 k)) (g := w.heap.size) (blk_set B2.out 0 (.int .i64 k)) hE 1 (.int .u64 st1)) (g := w.heap.size) (blk_set (blk_set B2.out 0 (.int .i64 k)) 1 (.int .u64 st1)) hE 2 (.int .u64 ic)) (g := w.heap.size) (blk_set (blk_set (blk_set B2.out 0 (.int .i64 k)) 1 (.int .u64 st1)) 2 (.int .u64 ic)) hE 3 (.slice A l.length c)) (g := w.heap.size) (blk_set (blk_set (blk_set (blk_set B2.out 0 (.int .i64 k)) 1 (.int .u64 st1)) 2 (.int .u64 ic)) 3 (.slice A l.length c)) hE 4 (.int .i64 at1))⟩, ⟨(below_set (j := 4) (v := (.int .i64 at1)) (below_set (j := 3) (v := (.slice A l.length c)) (below_set (j := 2) (v := (.int .u64 ic)) (below_set (j := 1) (v := (.int .u64 st1)) (below_set (j := 0) (v := (.int .i64 k)) HB.out (Nat.le_refl _)) (Nat.le_refl _)) (Nat.le_refl _)) (Nat.le_refl _)) (Nat.le_refl _))⟩⟩
      case measure => simp [intOf]; omega
    · subst hlt
      have hq2 : (i : Int) < n → ¬ (i : Int) < 1000 := fun h1 h2 => hq ⟨h1, h2⟩
      generalize hst0 : stI k ic st i = st0 at *
      generalize hat0 : atI k l at_ i = at0 at *
      have HST := Aside0.mk hst0
      have HAT := Aside0.mk hat0
      clear hst0 hat0
      have B3 := B5
      clear B5
      have GE3 := GE5
      have c3 : decide ((i : Int) < n) = false ∨ (decide ((i : Int) < n) = true ∧ decide ((i : Int) < 1000) = false) := by
        by_cases h : (i : Int) < n
        · exact .inr ⟨decide_eq_true h, decide_eq_false (hq2 h)⟩
        · exact .inl (decide_eq_false h)
      clear hq hq2
      rcases c3 with c3 | ⟨c3, c4⟩
      all_goals
        go_wp2_with fail
        refine start_ (n := 4) (S := fun w' => w'.cell? ⟨w.heap.size, 0, none⟩ = some (.int .i64 k) ∧ w'.cell? ⟨w.heap.size, 1, none⟩ = some (.int .u64 st0) ∧ w'.cell? ⟨w.heap.size, 2, none⟩ = some (.int .u64 ic) ∧ w'.cell? ⟨w.heap.size, 3, none⟩ = some (.slice A l.length c) ∧ w'.cell? ⟨w.heap.size, 4, none⟩ = some (.int .i64 at0)) (ds := [3]) #[false, false, false, false] (by kernel_rfl) rfl rfl ⟨(blk_cell B2.out 0).trans rfl, (blk_cell B2.out 1).trans rfl, (blk_cell B2.out 2).trans rfl, (blk_cell B2.out 3).trans rfl, (blk_cell B2.out 4).trans rfl⟩ (fun hHeld => ?_)
        replace B2 := Aside0.mk (blk_drew B2.out)
        replace B3 := Aside0.mk (blk_drew B3.out)
        replace HB := Aside0.mk (below_drew1 HB.out)
        replace HO := Aside0.mk (Kd.R_drew HO.out)
        generalize wr.drew = W6 at B2 B3 HB HO hHeld ⊢
        refine pure_ (i := 0) (N := (some 29)) (v := ?_) (a' := ?_) #[true, false, false, false] rfl rfl (by kernel_rfl) (fun _ _ _ h => h) (Or.inl ⟨by rfl, ?_⟩) ?_ ?_
        rotate_left
        · intro w'
          go_simp
          with_reducible rfl
        rotate_left
        · simp only [Act.put, List.setIfInBounds_toArray, List.set_cons_zero, List.set_cons_succ, i64_w, i32_w]
          rfl
        refine take_ (i := 1) (N := (some 30)) (v := ?_) (a' := ?_) #[true, true, false, false] rfl rfl (by kernel_rfl) (fun _ _ _ h => h) (Or.inl ⟨by rfl, ?_⟩) hHeld ?_ ?_
        rotate_left
        · rintro w' ⟨s0, s1, s2, s3, s4⟩
          go_simp
          with_reducible rfl
        rotate_left
        · simp only [Act.put, List.setIfInBounds_toArray, List.set_cons_zero, List.set_cons_succ, i64_w, i32_w]
          rfl
        refine pure_ (i := 2) (N := (some 4)) (v := ?_) (a' := ?_) #[true, true, true, false] rfl rfl (by kernel_rfl) (fun _ _ _ h => h) (Or.inl ⟨by rfl, ?_⟩) ?_ ?_
        rotate_left
        · intro w'
          go_simp
          with_reducible rfl
        rotate_left
        · simp only [Act.put, List.setIfInBounds_toArray, List.set_cons_zero, List.set_cons_succ, i64_w, i32_w]
          rfl
        refine last_ (i := 3) (N := none) #[true, true, true, true] rfl rfl (by kernel_rfl) (by decide) (fun K hK => ?_)
        have hs0 : W6.cell? ⟨w.heap.size + 1, 0, none⟩ = some (.int .i64 0) := (blk_cell B3.out 0).trans rfl
        have hf0 := blk_frozen B3.out 0
        have hs1 : W6.cell? ⟨w.heap.size + 1, 1, none⟩ = some (.int .u64 0) := (blk_cell B3.out 1).trans rfl
        have hf1 := blk_frozen B3.out 1
        have hs2 : W6.cell? ⟨w.heap.size + 1, 2, none⟩ = some (.int .u64 0) := (blk_cell B3.out 2).trans rfl
        have hf2 := blk_frozen B3.out 2
        have hs3 : W6.cell? ⟨w.heap.size + 1, 3, none⟩ = some (.slice none 0 0) := (blk_cell B3.out 3).trans rfl
        have hf3 := blk_frozen B3.out 3
        have hs4 : W6.cell? ⟨w.heap.size + 1, 4, none⟩ = some (.int .i64 0) := (blk_cell B3.out 4).trans rfl
        have hf4 := blk_frozen B3.out 4
        refine skip_ (w1 := ?_) (by rfl) rfl ?_ ?_
        rotate_left
        · go_simp
          rfl
        refine hK.out _ _ ?_
        clear hK K
        refine done_ (by kernel_rfl) ?_
        try go_wp2
        have q0 := blk_set B3.out 0 (.int .i64 k)
        have q1 := blk_set q0 1 (.int .u64 st0)
        have q2 := blk_set q1 2 (.int .u64 ic)
        have q3 := blk_set q2 3 (.slice A l.length c)
        have q4 := blk_set q3 4 (.int .i64 at0)
        (try simp only [Exit.inBlock, Exit.then])
        refine bodyPost_ret (results_list (rs := [.tmp 4, .cell 5 25]) rfl (by simp) (.tmp (.cell (w.heap.size + 1) 25 #[.int .i64 k, .int .u64 st0, .int .u64 ic, .slice A l.length c, .int .i64 at0] (0, 0) _ rfl (q4.trans (by rfl)) Try.underlying25 rfl (by kernel_rfl) .nil))) rfl ⟨_, (by rw [HST.out, HAT.out]), ?_, ?_⟩
        · exact Kd.R_mono (Kd.R_set (Kd.R_set (Kd.R_set (Kd.R_set (Kd.R_set HO.out (g := (w.heap.size + 1)) B3.out hE 0 (.int .i64 k)) (g := (w.heap.size + 1)) (blk_set B3.out 0 (.int .i64 k)) hE 1 (.int .u64 st0)) (g := (w.heap.size + 1)) (blk_set (blk_set B3.out 0 (.int .i64 k)) 1 (.int .u64 st0)) hE 2 (.int .u64 ic)) (g := (w.heap.size + 1)) (blk_set (blk_set (blk_set B3.out 0 (.int .i64 k)) 1 (.int .u64 st0)) 2 (.int .u64 ic)) hE 3 (.slice A l.length c)) (g := (w.heap.size + 1)) (blk_set (blk_set (blk_set (blk_set B3.out 0 (.int .i64 k)) 1 (.int .u64 st0)) 2 (.int .u64 ic)) 3 (.slice A l.length c)) hE 4 (.int .i64 at0)) (fun _ _ => trivial)
        · exact (below_set (j := 4) (v := (.int .i64 at0)) (below_set (j := 3) (v := (.slice A l.length c)) (below_set (j := 2) (v := (.int .u64 ic)) (below_set (j := 1) (v := (.int .u64 st0)) (below_set (j := 0) (v := (.int .i64 k)) HB.out GE3.out) GE3.out) GE3.out) GE3.out) GE3.out)
end Go.Proofs.Ytjiogchafnpkhaa.D
