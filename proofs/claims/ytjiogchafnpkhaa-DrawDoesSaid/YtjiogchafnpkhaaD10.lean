import Derived.Test.YtjiogchafnpkhaaD9
namespace Go.Proofs.Ytjiogchafnpkhaa.D
open Go.RowKit Go.Proofs.YtjiogchafnpkhaaW.PrintWords Go.Proofs.YtjiogchafnpkhaaW.PrintLast Go.Proofs.YtjiogchafnpkhaaW.PrintMore
attribute [local go_sem] max2_int min2_int max_two min_two max_three min_three max_four min_four
attribute [local go_sem] Go.Proofs.YtjiogchafnpkhaaS.cell_set_map Go.Proofs.YtjiogchafnpkhaaS.setCell_drewN
set_option linter.unusedVariables false
set_option linter.unusedSimpArgs false
/-- The state and the place behind so many draws, and the draws. -/
def stI (k ic st : Int) : Nat → Int | 0 => st | i + 1 => nextSt k (stI k ic st i) ic
def atI (k : Int) (l : List Int) (at_ : Int) : Nat → Int | 0 => at_ | i + 1 => nextAt k l (atI k l at_ i)
def outI (k ic st : Int) (l : List Int) (at_ : Int) (n : Nat) : List Int := (List.range n).map fun i => nextX k (stI k ic st i) l (atI k l at_ i)
theorem outI_length (k ic st : Int) (l : List Int) (at_ : Int) (n : Nat) : (outI k ic st l at_ n).length = n := by simp [outI]
theorem outI_succ (k ic st : Int) (l : List Int) (at_ : Int) (n : Nat) : outI k ic st l at_ (n + 1) = outI k ic st l at_ n ++ [nextX k (stI k ic st n) l (atI k l at_ n)] := by simp [outI, List.range_succ]
theorem info3 : (Try.prog.info? 3).map (fun i => (i.zero, i.size, i.bytes)) = some (some (.int .i64 0), 1, 8) := by kernel_rfl
theorem reads_blk1 {w : World} {g t : Nat} {y : Int} (h : w.heap[g]? = some (.cells #[.int .i64 y] t (0, 0))) : ReadsRow (fun (x : Int) cs => cs = [Value.int .i64 x]) 1 w (some ⟨g, 0, none⟩) 1 [y] := by
  refine ⟨rfl, by omega, fun _ => ⟨_, rfl, fun j p hp => ⟨[.int .i64 p], rfl, rfl, fun i u hu => ?_⟩⟩⟩
  match i, hu with
  | 0, hu =>
    simp at hu
    subst hu
    match j, hp with
    | 0, hp => simp at hp; subst hp; exact (blk_cell h 0).trans rfl
set_option maxHeartbeats 8000000 in
set_option maxRecDepth 100000 in
theorem draw_Many_calls (k st ic at_ : Int) (A : Option Addr) (c : Nat) (l : List Int) (n : Int) (w : World) (hr : Kd.C (Kd.int .u64) w A l.length l) (m : Nat) (hm : mx 0 (mn n 1000) = (m : Int)) : Calls Try.prog 21 #[.agg #[.int .i64 k, .int .u64 st, .int .u64 ic, .slice A l.length c, .int .i64 at_], .int .i64 n] w fun e w' => ∃ v0_ : Value, e = .returned (.tuple #[v0_, .agg #[.int .i64 k, .int .u64 (stI k ic st m), .int .u64 ic, .slice A l.length c, .int .i64 (atI k l at_ m)]]) ∧ Kd.R (Kd.int .i64) 3 w' w.heap.size (fun _ => True) v0_ (outI k ic st l at_ m) ∧ Below w.heap.size w w' := by
  have hu25 := Try.underlying25
  have HR := Aside0.mk hr
  clear hr
  have B2 := Aside0.mk (blk_alloc (blk_new w (.cells #[.int .i64 k, .int .u64 st, .int .u64 ic, .slice A l.length c, .int .i64 at_] 25 (0, 0))) (.cells #[.int .i64 0, .int .u64 0, .int .u64 0, .slice none 0 0, .int .i64 0] 25 (0, 0)))
  have B5 := Aside0.mk (show (((w.alloc (.cells #[.int .i64 k, .int .u64 st, .int .u64 ic, .slice A l.length c, .int .i64 at_] 25 (0, 0))).alloc (.cells #[.int .i64 0, .int .u64 0, .int .u64 0, .slice none 0 0, .int .i64 0] 25 (0, 0))).heap[w.heap.size + 1]? = some (.cells #[.int .i64 0, .int .u64 0, .int .u64 0, .slice none 0 0, .int .i64 0] 25 (0, 0))) by have := blk_new (w.alloc (.cells #[.int .i64 k, .int .u64 st, .int .u64 ic, .slice A l.length c, .int .i64 at_] 25 (0, 0))) (.cells #[.int .i64 0, .int .u64 0, .int .u64 0, .slice none 0 0, .int .i64 0] 25 (0, 0)); rwa [Go.Proofs.YtjiogchafnpkhaaS.size_alloc] at this)
  have HB := Aside0.mk (below_alloc (below_alloc (Below.refl w.heap.size w) (.cells #[.int .i64 k, .int .u64 st, .int .u64 ic, .slice A l.length c, .int .i64 at_] 25 (0, 0))) (.cells #[.int .i64 0, .int .u64 0, .int .u64 0, .slice none 0 0, .int .i64 0] 25 (0, 0)))
  have GE5 : Aside0 (w.heap.size ≤ w.heap.size + 1) := ⟨by omega⟩
  have NE : Aside0 (w.heap.size + 1 ≠ w.heap.size) := ⟨by omega⟩
  have hE : ∀ q, q ∈ 3 :: (Kd.int .i64).E → q ≠ 25 := by
    intro q hq
    have : q = 3 := by simpa [Kd.int, Kd.scalar] using hq
    omega
  have hm1 : m ≤ 1000 := by unfold mx mn at hm; (repeat' split at hm) <;> omega
  obtain ⟨q, hq⟩ : ∃ q, mn n 1000 = q := ⟨_, rfl⟩
  have f1 : (if (1000 : Int) < n then (1000 : Int) else n) = q := hq
  rw [hq] at hm
  have f2 : (if (0 : Int) < q then q else 0) = (m : Int) := hm
  clear hm hq
  go_enter Try.func21, Try.ntmps21
  go_wp2
  go_loopw [6, 11] (fun v6 v11 wr => ∃ i : Nat, i ≤ m ∧ v11 = .int .i64 i ∧ Aside0 (wr.heap[w.heap.size]? = some (.cells #[.int .i64 k, .int .u64 (stI k ic st i), .int .u64 ic, .slice A l.length c, .int .i64 (atI k l at_ i)] 25 (0, 0))) ∧ Aside0 (wr.heap[w.heap.size + 1]? = some (.cells #[.int .i64 0, .int .u64 0, .int .u64 0, .slice none 0 0, .int .i64 0] 25 (0, 0))) ∧ Aside0 (Kd.R (Kd.int .i64) 3 wr w.heap.size (fun k_ => k_ ≠ w.heap.size ∧ k_ ≠ w.heap.size + 1) v6 (outI k ic st l at_ i)) ∧ Aside0 (Below w.heap.size w wr)) (fun _ v11 _ => m - (intOf v11).toNat)
  case atStart => exact ⟨0, Nat.zero_le _, rfl, B2, B5, ⟨Kd.R_nil _ _ _ _ _⟩, HB⟩
  case round =>
    clear B2 B5 HB
    obtain ⟨i, hi, rfl, B2, B5, HO, HB⟩ := hrel
    by_cases hlt : i < m
    · have hq : (i : Int) < (m : Int) := by omega
      obtain ⟨x, hx⟩ : ∃ x, nextX k (stI k ic st i) l (atI k l at_ i) = x := ⟨_, rfl⟩
      have HU : Aside0 (outI k ic st l at_ (i + 1) = outI k ic st l at_ i ++ [x]) := ⟨by rw [outI_succ, hx]⟩
      have hs : nextSt k (stI k ic st i) ic = stI k ic st (i + 1) := rfl
      have ha : nextAt k l (atI k l at_ i) = atI k l at_ (i + 1) := rfl
      obtain ⟨st1, hst1⟩ : ∃ z, stI k ic st (i + 1) = z := ⟨_, rfl⟩
      obtain ⟨at1, hat1⟩ : ∃ z, atI k l at_ (i + 1) = z := ⟨_, rfl⟩
      rw [hst1] at hs
      rw [hat1] at ha
      generalize stI k ic st i = st0 at *
      generalize atI k l at_ i = at0 at *
      have HX := Aside0.mk hx
      have HS := Aside0.mk hs
      have HA := Aside0.mk ha
      have HST1 := Aside0.mk hst1
      have HAT1 := Aside0.mk hat1
      clear hs ha hst1 hat1
      have LEN : Aside0 ((outI k ic st l at_ i).length ≤ 1000) := ⟨by rw [outI_length]; omega⟩
      clear hx
      have ha0 : wr.cell? ⟨w.heap.size, 0, none⟩ = some (.int .i64 k) := (blk_cell B2.out 0).trans rfl
      have fa0 := blk_frozen B2.out 0
      have ha1 : wr.cell? ⟨w.heap.size, 1, none⟩ = some (.int .u64 st0) := (blk_cell B2.out 1).trans rfl
      have fa1 := blk_frozen B2.out 1
      have ha2 : wr.cell? ⟨w.heap.size, 2, none⟩ = some (.int .u64 ic) := (blk_cell B2.out 2).trans rfl
      have fa2 := blk_frozen B2.out 2
      have ha3 : wr.cell? ⟨w.heap.size, 3, none⟩ = some (.slice A l.length c) := (blk_cell B2.out 3).trans rfl
      have fa3 := blk_frozen B2.out 3
      have ha4 : wr.cell? ⟨w.heap.size, 4, none⟩ = some (.int .i64 at0) := (blk_cell B2.out 4).trans rfl
      have fa4 := blk_frozen B2.out 4
      go_wp2_with (first | ((with_reducible refine gate_callee (f := 13) rfl ?_); refine goesL_ (some 15) rfl rfl Try.func13 (by kernel_rfl) rfl #[.agg #[.int .i64 k, .int .u64 st0, .int .u64 ic, .slice A l.length c, .int .i64 at0]] rfl (by (try simp only [List.map_toArray, List.map_cons, List.map_nil]); first | done | rfl) ?_; (refine (draw_Next_calls k st0 ic at0 A c l _ (Kd.C_below HR.out HB.out)).mono ?_); rintro e w1 ⟨rfl, hb⟩; rw [HX.out, HS.out, HA.out]; refine ⟨_, rfl, ?_⟩; have n1_ := Aside0.mk (below_step HB.out hb); have n2_ := Aside0.mk (blk_below B2.out hb); have n3_ := Aside0.mk (blk_below B5.out hb); have n4_ := Aside0.mk (Kd.R_below HO.out hb); clear HB B2 B5 HO hb; clear ha0 fa0 ha1 fa1 ha2 fa2 ha3 fa3 ha4 fa4; have ha0 : w1.cell? ⟨w.heap.size, 0, none⟩ = some (.int .i64 k) := (blk_cell n2_.out 0).trans rfl; have fa0 := blk_frozen n2_.out 0; have ha1 : w1.cell? ⟨w.heap.size, 1, none⟩ = some (.int .u64 st0) := (blk_cell n2_.out 1).trans rfl; have fa1 := blk_frozen n2_.out 1; have ha2 : w1.cell? ⟨w.heap.size, 2, none⟩ = some (.int .u64 ic) := (blk_cell n2_.out 2).trans rfl; have fa2 := blk_frozen n2_.out 2; have ha3 : w1.cell? ⟨w.heap.size, 3, none⟩ = some (.slice A l.length c) := (blk_cell n2_.out 3).trans rfl; have fa3 := blk_frozen n2_.out 3; have ha4 : w1.cell? ⟨w.heap.size, 4, none⟩ = some (.int .i64 at0) := (blk_cell n2_.out 4).trans rfl; have fa4 := blk_frozen n2_.out 4; have HO := Aside0.mk (Kd.R_alloc (Kd.R_set (Kd.R_set (Kd.R_set (Kd.R_set (Kd.R_set n4_.out (g := w.heap.size) n2_.out hE 0 (.int .i64 k)) (g := w.heap.size) (blk_set n2_.out 0 (.int .i64 k)) hE 1 (.int .u64 st1)) (g := w.heap.size) (blk_set (blk_set n2_.out 0 (.int .i64 k)) 1 (.int .u64 st1)) hE 2 (.int .u64 ic)) (g := w.heap.size) (blk_set (blk_set (blk_set n2_.out 0 (.int .i64 k)) 1 (.int .u64 st1)) 2 (.int .u64 ic)) hE 3 (.slice A l.length c)) (g := w.heap.size) (blk_set (blk_set (blk_set (blk_set n2_.out 0 (.int .i64 k)) 1 (.int .u64 st1)) 2 (.int .u64 ic)) 3 (.slice A l.length c)) hE 4 (.int .i64 at1)) (.cells #[.int .i64 x] 3 (0, 0))); have B5 := Aside0.mk (blk_alloc (blk_far (blk_far (blk_far (blk_far (blk_far n3_.out (p := ⟨w.heap.size, 0, none⟩) NE.out (.int .i64 k)) (p := ⟨w.heap.size, 1, none⟩) NE.out (.int .u64 st1)) (p := ⟨w.heap.size, 2, none⟩) NE.out (.int .u64 ic)) (p := ⟨w.heap.size, 3, none⟩) NE.out (.slice A l.length c)) (p := ⟨w.heap.size, 4, none⟩) NE.out (.int .i64 at1)) (.cells #[.int .i64 x] 3 (0, 0))); have B2 : Aside0 (((((((w1.setCell ⟨w.heap.size, 0, none⟩ (.int .i64 k)).setCell ⟨w.heap.size, 1, none⟩ (.int .u64 st1)).setCell ⟨w.heap.size, 2, none⟩ (.int .u64 ic)).setCell ⟨w.heap.size, 3, none⟩ (.slice A l.length c)).setCell ⟨w.heap.size, 4, none⟩ (.int .i64 at1)).alloc (.cells #[.int .i64 x] 3 (0, 0))).heap[w.heap.size]? = some (.cells #[.int .i64 k, .int .u64 st1, .int .u64 ic, .slice A l.length c, .int .i64 at1] 25 (0, 0))) := ⟨blk_alloc ((blk_set (blk_set (blk_set (blk_set (blk_set n2_.out 0 (.int .i64 k)) 1 (.int .u64 st1)) 2 (.int .u64 ic)) 3 (.slice A l.length c)) 4 (.int .i64 at1)).trans (by rfl)) (.cells #[.int .i64 x] 3 (0, 0))⟩; have HB := Aside0.mk (below_alloc (below_set (j := 4) (v := (.int .i64 at1)) (below_set (j := 3) (v := (.slice A l.length c)) (below_set (j := 2) (v := (.int .u64 ic)) (below_set (j := 1) (v := (.int .u64 st1)) (below_set (j := 0) (v := (.int .i64 k)) n1_.out (Nat.le_refl _)) (Nat.le_refl _)) (Nat.le_refl _)) (Nat.le_refl _)) (Nat.le_refl _)) (.cells #[.int .i64 x] 3 (0, 0))); have BN : Aside0 (((((((w1.setCell ⟨w.heap.size, 0, none⟩ (.int .i64 k)).setCell ⟨w.heap.size, 1, none⟩ (.int .u64 st1)).setCell ⟨w.heap.size, 2, none⟩ (.int .u64 ic)).setCell ⟨w.heap.size, 3, none⟩ (.slice A l.length c)).setCell ⟨w.heap.size, 4, none⟩ (.int .i64 at1)).alloc (.cells #[.int .i64 x] 3 (0, 0))).heap[w1.heap.size]? = some (.cells #[.int .i64 x] 3 (0, 0))) := ⟨by have h_ := blk_new (((((w1.setCell ⟨w.heap.size, 0, none⟩ (.int .i64 k)).setCell ⟨w.heap.size, 1, none⟩ (.int .u64 st1)).setCell ⟨w.heap.size, 2, none⟩ (.int .u64 ic)).setCell ⟨w.heap.size, 3, none⟩ (.slice A l.length c)).setCell ⟨w.heap.size, 4, none⟩ (.int .i64 at1)) (.cells #[.int .i64 x] 3 (0, 0)); rwa [show (((((w1.setCell ⟨w.heap.size, 0, none⟩ (.int .i64 k)).setCell ⟨w.heap.size, 1, none⟩ (.int .u64 st1)).setCell ⟨w.heap.size, 2, none⟩ (.int .u64 ic)).setCell ⟨w.heap.size, 3, none⟩ (.slice A l.length c)).setCell ⟨w.heap.size, 4, none⟩ (.int .i64 at1)).heap.size = w1.heap.size by simp only [size_setCell]] at h_⟩; clear n1_ n2_ n3_ n4_) | ((with_reducible refine gate_builtin (b := .append) (xs := #[.tmp 18, .tmp 20]) rfl ?_); at_builtin; refine Kd.R_append_rows (Kd.int .i64) (w0 := w) w.heap.size (by rfl) (.tmp 18) (.tmp 20) 34 3 (.int .i64 0) 8 rfl Try.underlying34 info3 rfl (by decide) (by omega) u6 (outI k ic st l at_ i) [x] _ _ _ (fun k_ => k_ ≠ w.heap.size ∧ k_ ≠ w.heap.size + 1) (fun _ => False) rfl rfl HO.out (reads_blk1 BN.out) (fun _ _ h => h) (fun _ h => h.elim) (fun k_ hk => by have h1 := blk_lt B2.out; have h2 := blk_lt B5.out; exact ⟨by omega, by omega⟩) HB.out (below_size HB.out) (by have := LEN.out; simp; omega) ?_; intro v1 w3 ho hb hgr hat; have ngr : some w.heap.size ≠ u6.ownBlock := fun e => (HO.out.1 _ e.symm).1 rfl; have n2_ := Aside0.mk (blk_grown B2.out hgr ngr); have n3_ := Aside0.mk (blk_grown B5.out hgr (fun e => (HO.out.1 _ e.symm).2 rfl)); clear HO HB B2 B5 BN hgr hat ngr; have HO := Aside0.mk ho; have HB := Aside0.mk hb; have B2 := n2_; have B5 := n3_; clear ho hb n2_ n3_))
      go_roundw
      case rel => exact ⟨i + 1, by omega, by go_num, by rw [HST1.out, HAT1.out]; exact B2, B5, ⟨by rw [HU.out]; exact HO.out⟩, HB⟩
      case measure => simp [intOf]; omega
    · have hq : ¬ (i : Int) < (m : Int) := by omega
      obtain rfl : i = m := by omega
      generalize hst0 : stI k ic st i = st0 at *
      generalize hat0 : atI k l at_ i = at0 at *
      have HST := Aside0.mk hst0
      have HAT := Aside0.mk hat0
      clear hst0 hat0
      have B3 := B5
      clear B5
      have GE3 := GE5
      clear f1 f2
      go_wp2_with fail
      refine start_ (n := 4) (S := fun w' => w'.cell? ⟨w.heap.size, 0, none⟩ = some (.int .i64 k) ∧ w'.cell? ⟨w.heap.size, 1, none⟩ = some (.int .u64 st0) ∧ w'.cell? ⟨w.heap.size, 2, none⟩ = some (.int .u64 ic) ∧ w'.cell? ⟨w.heap.size, 3, none⟩ = some (.slice A l.length c) ∧ w'.cell? ⟨w.heap.size, 4, none⟩ = some (.int .i64 at0)) (ds := [3]) #[false, false, false, false] (by kernel_rfl) rfl rfl ⟨(blk_cell B2.out 0).trans rfl, (blk_cell B2.out 1).trans rfl, (blk_cell B2.out 2).trans rfl, (blk_cell B2.out 3).trans rfl, (blk_cell B2.out 4).trans rfl⟩ (fun hHeld => ?_)
      replace B2 := Aside0.mk (blk_drew B2.out)
      replace B3 := Aside0.mk (blk_drew B3.out)
      replace HB := Aside0.mk (below_drew1 HB.out)
      replace HO := Aside0.mk (Kd.R_drew HO.out)
      generalize wr.drew = W6 at B2 B3 HB HO hHeld ⊢
      refine pure_ (i := 0) (N := (some 23)) (v := ?_) (a' := ?_) #[true, false, false, false] rfl rfl (by kernel_rfl) (fun _ _ _ h => h) (Or.inl ⟨by rfl, ?_⟩) ?_ ?_
      rotate_left
      · intro w'
        go_simp
        with_reducible rfl
      rotate_left
      · simp only [Act.put, List.setIfInBounds_toArray, List.set_cons_zero, List.set_cons_succ, i64_w, i32_w]
        rfl
      refine take_ (i := 1) (N := (some 24)) (v := ?_) (a' := ?_) #[true, true, false, false] rfl rfl (by kernel_rfl) (fun _ _ _ h => h) (Or.inl ⟨by rfl, ?_⟩) hHeld ?_ ?_
      rotate_left
      · rintro w' ⟨s0, s1, s2, s3, s4⟩
        go_simp
        with_reducible rfl
      rotate_left
      · simp only [Act.put, List.setIfInBounds_toArray, List.set_cons_zero, List.set_cons_succ, i64_w, i32_w]
        rfl
      refine pure_ (i := 2) (N := (some 4)) (v := ?_) (a' := ?_) #[true, true, true, false] rfl rfl (by kernel_rfl) (fun _ _ _ h => h) (Or.inl ⟨by rfl, ?_⟩) ?_ ?_
      rotate_left
      · intro w'
        go_simp
        with_reducible rfl
      rotate_left
      · simp only [Act.put, List.setIfInBounds_toArray, List.set_cons_zero, List.set_cons_succ, i64_w, i32_w]
        rfl
      refine last_ (i := 3) (N := none) #[true, true, true, true] rfl rfl (by kernel_rfl) (by decide) (fun K hK => ?_)
      have hs0 : W6.cell? ⟨w.heap.size + 1, 0, none⟩ = some (.int .i64 0) := (blk_cell B3.out 0).trans rfl
      have hf0 := blk_frozen B3.out 0
      have hs1 : W6.cell? ⟨w.heap.size + 1, 1, none⟩ = some (.int .u64 0) := (blk_cell B3.out 1).trans rfl
      have hf1 := blk_frozen B3.out 1
      have hs2 : W6.cell? ⟨w.heap.size + 1, 2, none⟩ = some (.int .u64 0) := (blk_cell B3.out 2).trans rfl
      have hf2 := blk_frozen B3.out 2
      have hs3 : W6.cell? ⟨w.heap.size + 1, 3, none⟩ = some (.slice none 0 0) := (blk_cell B3.out 3).trans rfl
      have hf3 := blk_frozen B3.out 3
      have hs4 : W6.cell? ⟨w.heap.size + 1, 4, none⟩ = some (.int .i64 0) := (blk_cell B3.out 4).trans rfl
      have hf4 := blk_frozen B3.out 4
      refine skip_ (w1 := ?_) (by rfl) rfl ?_ ?_
      rotate_left
      · go_simp
        rfl
      refine hK.out _ _ ?_
      clear hK K
      refine done_ (by kernel_rfl) ?_
      try go_wp2
      have q0 := blk_set B3.out 0 (.int .i64 k)
      have q1 := blk_set q0 1 (.int .u64 st0)
      have q2 := blk_set q1 2 (.int .u64 ic)
      have q3 := blk_set q2 3 (.slice A l.length c)
      have q4 := blk_set q3 4 (.int .i64 at0)
      (try simp only [Exit.inBlock, Exit.then])
      refine bodyPost_ret (results_list (rs := [.tmp 4, .cell 5 25]) rfl (by simp) (.tmp (.cell (w.heap.size + 1) 25 #[.int .i64 k, .int .u64 st0, .int .u64 ic, .slice A l.length c, .int .i64 at0] (0, 0) _ rfl (q4.trans (by rfl)) Try.underlying25 rfl (by kernel_rfl) .nil))) rfl ⟨_, (by rw [HST.out, HAT.out]), ?_, ?_⟩
      · exact Kd.R_mono (Kd.R_set (Kd.R_set (Kd.R_set (Kd.R_set (Kd.R_set HO.out (g := (w.heap.size + 1)) B3.out hE 0 (.int .i64 k)) (g := (w.heap.size + 1)) (blk_set B3.out 0 (.int .i64 k)) hE 1 (.int .u64 st0)) (g := (w.heap.size + 1)) (blk_set (blk_set B3.out 0 (.int .i64 k)) 1 (.int .u64 st0)) hE 2 (.int .u64 ic)) (g := (w.heap.size + 1)) (blk_set (blk_set (blk_set B3.out 0 (.int .i64 k)) 1 (.int .u64 st0)) 2 (.int .u64 ic)) hE 3 (.slice A l.length c)) (g := (w.heap.size + 1)) (blk_set (blk_set (blk_set (blk_set B3.out 0 (.int .i64 k)) 1 (.int .u64 st0)) 2 (.int .u64 ic)) 3 (.slice A l.length c)) hE 4 (.int .i64 at0)) (fun _ _ => trivial)
      · exact (below_set (j := 4) (v := (.int .i64 at0)) (below_set (j := 3) (v := (.slice A l.length c)) (below_set (j := 2) (v := (.int .u64 ic)) (below_set (j := 1) (v := (.int .u64 st0)) (below_set (j := 0) (v := (.int .i64 k)) HB.out GE3.out) GE3.out) GE3.out) GE3.out) GE3.out)
end Go.Proofs.Ytjiogchafnpkhaa.D
