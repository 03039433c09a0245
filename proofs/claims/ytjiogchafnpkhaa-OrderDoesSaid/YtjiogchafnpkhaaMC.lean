/- Walks of this seat's functions, laid together: each says what a function computes. -/
import Derived.WalkMore
import Derived.Test.YtjiogchafnpkhaaMB
import Derived.Deep.WholeRow
namespace Go.Proofs.Ytjiogchafnpkhaa.D
section
open Go.RowKit Go.Proofs.YtjiogchafnpkhaaW.PrintWords Go.Proofs.YtjiogchafnpkhaaW.PrintLast Go.Proofs.YtjiogchafnpkhaaW.PrintMore
attribute [local go_sem] max2_int min2_int max_two min_two max_three min_three max_four min_four
attribute [local go_sem] Go.Proofs.YtjiogchafnpkhaaS.cell_set_map Go.Proofs.YtjiogchafnpkhaaS.setCell_drewN
set_option linter.unusedVariables false
set_option linter.unusedSimpArgs false
/-- Numbers as cells. -/
def mkA (xs : List Int) : Array Value := (xs.map (Value.int .i64)).toArray
theorem add0 (g j : Nat) : (⟨g, 0, none⟩ : Addr).add j = ⟨g, j, none⟩ := by
  cases j <;> simp [Addr.add]
theorem mkA_get (xs : List Int) (j : Nat) (h : j < xs.length) : (mkA xs)[j]? = some (Value.int .i64 (rd xs (j : Int))) := by
  unfold mkA rd
  simp [List.getElem?_map, h]
theorem row_cell {w : World} {g t : Nat} {xs : List Int} (h : w.heap[g]? = some (.cells (mkA xs) t (0, 0))) (j : Nat) (hj : j < xs.length) : w.cell? ⟨g, j, none⟩ = some (.int .i64 (rd xs (j : Int))) := (blk_cell h j).trans (mkA_get xs j hj)
theorem mkA_set (xs : List Int) (j : Nat) (v : Int) : (mkA xs).setIfInBounds j (Value.int .i64 v) = mkA (xs.set j v) := by
  unfold mkA
  simp [List.map_set]
theorem row_set {w : World} {g t : Nat} {xs : List Int} (h : w.heap[g]? = some (.cells (mkA xs) t (0, 0))) (j : Nat) (v : Int) : (w.setCell ⟨g, j, none⟩ (.int .i64 v)).heap[g]? = some (.cells (mkA (xs.set j v)) t (0, 0)) := by
  have := blk_set h j (.int .i64 v)
  rwa [mkA_set] at this
theorem row_C {w : World} {g t : Nat} {xs : List Int} (hl : xs.length ≤ 9223372036854775807) (h : w.heap[g]? = some (.cells (mkA xs) t (0, 0))) : Kd.C (Kd.int .i64) w (some ⟨g, 0, none⟩) xs.length xs := C_ints .i64 xs hl h
theorem made_zeros (n : Nat) : madeCells #[Value.int .i64 0] n = mkA (List.replicate n 0) := by
  apply Array.ext
  · simp [size_madeCells, mkA]
  · intro i h1 h2
    simp [madeCells, mkA, Nat.mod_one]
end
section
open Go.RowKit Go.Proofs.YtjiogchafnpkhaaW.PrintWords Go.Proofs.YtjiogchafnpkhaaW.PrintLast Go.Proofs.YtjiogchafnpkhaaW.PrintMore
attribute [local go_sem] max2_int min2_int max_two min_two max_three min_three max_four min_four
attribute [local go_sem] Go.Proofs.YtjiogchafnpkhaaS.cell_set_map Go.Proofs.YtjiogchafnpkhaaS.setCell_drewN
set_option linter.unusedVariables false
set_option linter.unusedSimpArgs false
theorem d_w64 {x : Int} (h1 : -9223372036854775808 ≤ x) (h2 : x ≤ 9223372036854775807) : wrap64 x = x := by unfold wrap64; omega
theorem d_u32r (x : Int) : 0 ≤ IntKind.u32.wrap x ∧ IntKind.u32.wrap x < 4294967296 := by
  simp [IntKind.wrap, IntKind.bits, IntKind.signed]
  omega
theorem d_div (x : Int) (n : Nat) (h0 : 0 ≤ x) (h1 : x < 4294967296) : 0 ≤ x / 2 ^ n ∧ x / 2 ^ n < 4294967296 := by
  have hp : (0 : Int) < 2 ^ n := Int.pow_pos (by omega)
  exact ⟨Int.ediv_nonneg h0 (Int.le_of_lt hp), Int.lt_of_le_of_lt (Int.ediv_le_self _ h0) h1⟩
theorem d_or (a b : Int) (a0 : 0 ≤ a) (a1 : a < 4294967296) (b0 : 0 ≤ b) (b1 : b < 4294967296) : 0 ≤ bits .or .u32 a b ∧ bits .or .u32 a b < 4294967296 := by
  rw [u32_or a b a0 a1 b0 b1]
  have := Nat.or_lt_two_pow (n := 32) (show a.toNat < 2 ^ 32 by omega) (show b.toNat < 2 ^ 32 by omega)
  omega
theorem d_pcg (st : Int) : 0 ≤ pcgX st ∧ pcgX st < 4294967296 := by
  unfold pcgX rotF
  have h := d_u32r (bits .xor .u64 (st / 262144) st / 134217728)
  have h2 := d_u32r (IntKind.u32.wrap (bits .xor .u64 (st / 262144) st / 134217728) * 2 ^ (rotC (wrap64 (-wrap64 (st / 576460752303423488)))).toNat)
  have h3 := d_div _ (32 - rotC (wrap64 (-wrap64 (st / 576460752303423488)))).toNat h.1 h.2
  exact d_or _ _ h2.1 h2.2 h3.1 h3.2
theorem d_tape (l : List Int) (a : Int) : 0 ≤ tapeX l a ∧ tapeX l a < 4294967296 := by
  unfold tapeX
  split <;> omega
theorem d_next (k st : Int) (l : List Int) (a : Int) : 0 ≤ nextX k st l a ∧ nextX k st l a ≤ 4294967295 := by
  have h1 := d_pcg st
  have h2 := d_tape l a
  unfold nextX
  rw [d_w64 (x := pcgX st) (by omega) (by omega), d_w64 (x := tapeX l a) (by omega) (by omega), d_w64 (x := 0) (by omega) (by omega)]
  (repeat' split) <;> omega
/-- A draw below n lies in 0 to n - 1. -/
theorem d_below (k st : Int) (l : List Int) (a n : Int) (hn : 0 < n) : 0 ≤ belowX k st l a n ∧ belowX k st l a n < n := by
  have h := d_next k st l a
  unfold belowX
  rw [if_neg (by omega), Int.tmod_eq_emod_of_nonneg h.1]
  exact ⟨Int.emod_nonneg _ (by omega), Int.emod_lt_of_pos _ hn⟩
/-- Two places of a row exchanged. -/
def swapL (xs : List Int) (i j : Int) : List Int := (xs.set i.toNat (rd xs j)).set j.toNat (rd xs i)
/-- The row, the state and the place behind the exchanges at i, i - 1 .. 1. -/
def permI (k ic : Int) (l : List Int) : Nat → List Int → Int → Int → List Int × Int × Int
  | 0, xs, st, at_ => (xs, st, at_)
  | i + 1, xs, st, at_ => permI k ic l i (swapL xs ((i : Int) + 1) (belowX k st l at_ ((i : Int) + 2))) (belowSt k st ic ((i : Int) + 2)) (belowAt k l at_ ((i : Int) + 2))
def rangeI (n : Nat) : List Int := (List.range n).map Int.ofNat
theorem swapL_length (xs : List Int) (i j : Int) : (swapL xs i j).length = xs.length := by simp [swapL]
theorem rangeI_length (n : Nat) : (rangeI n).length = n := by simp [rangeI]
theorem zeros_step (n i : Nat) (hi : i < n) : ((rangeI i) ++ List.replicate (n - i) 0).set i (i : Int) = rangeI (i + 1) ++ List.replicate (n - (i + 1)) (0 : Int) := by
  apply List.ext_getElem?
  intro j
  rw [List.getElem?_set]
  by_cases h1 : i = j
  · subst h1
    rw [if_pos rfl, if_pos (by simp [rangeI]; omega), List.getElem?_append_left (by simp [rangeI])]
    simp [rangeI]
  · rw [if_neg h1]
    by_cases h2 : j < i
    · rw [List.getElem?_append_left (by simp [rangeI]; omega), List.getElem?_append_left (by simp [rangeI]; omega)]
      simp [rangeI, h2, show j < i + 1 by omega]
    · rw [List.getElem?_append_right (by simp [rangeI]; omega), List.getElem?_append_right (by simp [rangeI]; omega)]
      simp [rangeI]
      by_cases h3 : j < n
      · rw [List.getElem?_replicate, List.getElem?_replicate, if_pos (by omega), if_pos (by omega)]
      · rw [List.getElem?_replicate, List.getElem?_replicate, if_neg (by omega), if_neg (by omega)]
set_option maxHeartbeats 16000000 in
set_option maxRecDepth 100000 in
theorem perm_walk (k st ic at_ : Int) (A : Option Addr) (c : Nat) (l : List Int) (n : Nat) (w : World) (hr : Kd.C (Kd.int .u64) w A l.length l) (h1 : 1 ≤ n) (h2 : n ≤ 64) (xs9 : List Int) (st9 at9 : Int) (hP : permI k ic l (n - 1) (rangeI n) st at_ = (xs9, st9, at9)) :
    Calls Try.prog 33 #[.agg #[.int .i64 k, .int .u64 st, .int .u64 ic, .slice A l.length c, .int .i64 at_], .int .i64 (n : Int)] w fun e w' => ∃ (A1 : Option Addr) (c1 : Nat), e = .returned (.tuple #[.slice A1 n c1, .agg #[.int .i64 k, .int .u64 st9, .int .u64 ic, .slice A l.length c, .int .i64 at9]]) ∧ n ≤ c1 ∧ Kd.C (Kd.int .i64) w' A1 n xs9 ∧ Below w.heap.size w w' := by
  have hu25 := Try.underlying25
  have HR := Aside0.mk hr
  clear hr
  have B2 := Aside0.mk (blk_alloc (blk_new w (.cells #[.int .i64 k, .int .u64 st, .int .u64 ic, .slice A l.length c, .int .i64 at_] 25 (0, 0))) (.cells #[.int .i64 0, .int .u64 0, .int .u64 0, .slice none 0 0, .int .i64 0] 25 (0, 0)))
  have B5 := Aside0.mk (show (((w.alloc (.cells #[.int .i64 k, .int .u64 st, .int .u64 ic, .slice A l.length c, .int .i64 at_] 25 (0, 0))).alloc (.cells #[.int .i64 0, .int .u64 0, .int .u64 0, .slice none 0 0, .int .i64 0] 25 (0, 0))).heap[w.heap.size + 1]? = some (.cells #[.int .i64 0, .int .u64 0, .int .u64 0, .slice none 0 0, .int .i64 0] 25 (0, 0))) by have := blk_new (w.alloc (.cells #[.int .i64 k, .int .u64 st, .int .u64 ic, .slice A l.length c, .int .i64 at_] 25 (0, 0))) (.cells #[.int .i64 0, .int .u64 0, .int .u64 0, .slice none 0 0, .int .i64 0] 25 (0, 0)); rwa [Go.Proofs.YtjiogchafnpkhaaS.size_alloc] at this)
  have HB := Aside0.mk (below_alloc (below_alloc (Below.refl w.heap.size w) (.cells #[.int .i64 k, .int .u64 st, .int .u64 ic, .slice A l.length c, .int .i64 at_] 25 (0, 0))) (.cells #[.int .i64 0, .int .u64 0, .int .u64 0, .slice none 0 0, .int .i64 0] 25 (0, 0)))
  have GE5 : Aside0 (w.heap.size ≤ w.heap.size + 1) := ⟨by omega⟩
  have hu34 := Try.underlying34
  have p1 : decide ((n : Int) < 1) = false := decide_eq_false (by omega)
  have p2 : decide (64 < (n : Int)) = false := decide_eq_false (by omega)
  have hmk := print_make 34 3 .i64 8 Try.underlying34 info3 (by decide) n (by omega)
  have HP := Aside0.mk hP
  clear hP
  go_enter Try.func33, Try.ntmps33
  go_wp2
  go_step3
  go_wp2
  have GL : Aside0 (w.heap.size ≤ w.heap.size + 1 + 1) := ⟨by omega⟩
  have NL2 : Aside0 (w.heap.size ≠ w.heap.size + 1 + 1) := ⟨by omega⟩
  have NL5 : Aside0 (w.heap.size + 1 ≠ w.heap.size + 1 + 1) := ⟨by omega⟩
  have NE : Aside0 (w.heap.size + 1 ≠ w.heap.size) := ⟨by omega⟩
  have NS2 : Aside0 (w.heap.size + 1 + 1 ≠ w.heap.size) := ⟨by omega⟩
  have n2_ := Aside0.mk (blk_alloc B2.out (.cells (madeCells #[.int .i64 0] n) 3 (0, 0)))
  have n5_ := Aside0.mk (blk_alloc B5.out (.cells (madeCells #[.int .i64 0] n) 3 (0, 0)))
  have nH_ := Aside0.mk (below_alloc HB.out (.cells (madeCells #[.int .i64 0] n) 3 (0, 0)))
  have B6 : Aside0 ((((w.alloc (.cells #[.int .i64 k, .int .u64 st, .int .u64 ic, .slice A l.length c, .int .i64 at_] 25 (0, 0))).alloc (.cells #[.int .i64 0, .int .u64 0, .int .u64 0, .slice none 0 0, .int .i64 0] 25 (0, 0))).alloc (.cells (madeCells #[.int .i64 0] n) 3 (0, 0))).heap[w.heap.size + 1 + 1]? = some (.cells (mkA (rangeI 0 ++ List.replicate (n - 0) 0)) 3 (0, 0))) := ⟨by
    have h_ := blk_new ((w.alloc (.cells #[.int .i64 k, .int .u64 st, .int .u64 ic, .slice A l.length c, .int .i64 at_] 25 (0, 0))).alloc (.cells #[.int .i64 0, .int .u64 0, .int .u64 0, .slice none 0 0, .int .i64 0] 25 (0, 0))) (.cells (madeCells #[.int .i64 0] n) 3 (0, 0))
    rw [Go.Proofs.YtjiogchafnpkhaaS.size_alloc, Go.Proofs.YtjiogchafnpkhaaS.size_alloc] at h_
    rw [h_, made_zeros]
    rfl⟩
  clear B2 B5 HB
  have B2 := n2_
  have B5 := n5_
  have HB := nH_
  clear n2_ n5_ nH_
  generalize had : (⟨w.heap.size + 1 + 1, 0, none⟩ : Addr) = ad
  have HAD : Aside0 (∀ j : Nat, ad.add j = ⟨w.heap.size + 1 + 1, j, none⟩) := ⟨fun j => by rw [← had]; exact add0 _ j⟩
  have HAD0 := Aside0.mk had
  clear had hmk
  go_loopw [21] (fun v21 wr => ∃ i : Nat, i ≤ n ∧ v21 = .int .i64 i ∧ Aside0 (wr.heap[w.heap.size]? = some (.cells #[.int .i64 k, .int .u64 st, .int .u64 ic, .slice A l.length c, .int .i64 at_] 25 (0, 0))) ∧ Aside0 (wr.heap[w.heap.size + 1]? = some (.cells #[.int .i64 0, .int .u64 0, .int .u64 0, .slice none 0 0, .int .i64 0] 25 (0, 0))) ∧ Aside0 (wr.heap[w.heap.size + 1 + 1]? = some (.cells (mkA (rangeI i ++ List.replicate (n - i) 0)) 3 (0, 0))) ∧ Aside0 (Below w.heap.size w wr)) (fun v21 _ => n - (intOf v21).toNat)
  case atStart => exact ⟨0, Nat.zero_le _, rfl, B2, B5, B6, HB⟩
  case round =>
    clear B2 B5 B6 HB
    obtain ⟨i, hi, rfl, B2, B5, B6, HB⟩ := hrel
    by_cases hlt : i < n
    · have hq : (i : Int) < (n : Int) := by omega
      have hq0 : (0 : Int) ≤ (i : Int) := by omega
      have HI := Aside0.mk hlt
      have hxl : (rangeI i ++ List.replicate (n - i) (0 : Int)).length = n := by simp [rangeI]; omega
      have hst := zeros_step n i hlt
      have hcell := row_cell B6.out i (by rw [hxl]; exact hlt)
      have hfr := blk_frozen B6.out i
      rw [← HAD.out i] at hcell hfr
      generalize rd (rangeI i ++ List.replicate (n - i) (0 : Int)) (i : Int) = z at *
      replace hst := Aside0.mk hst
      clear hxl
      have ha := Aside0.mk (HAD.out i)
      go_wp2
      go_roundw
      case rel =>
        refine ⟨i + 1, by omega, by go_num, ⟨?_⟩, ⟨?_⟩, ⟨?_⟩, ⟨?_⟩⟩
        · rw [ha.out]
          exact blk_far B2.out (p := ⟨w.heap.size + 1 + 1, i, none⟩) NL2.out _
        · rw [ha.out]
          exact blk_far B5.out (p := ⟨w.heap.size + 1 + 1, i, none⟩) NL5.out _
        · rw [ha.out]
          have h_ := row_set B6.out i (i : Int)
          rwa [hst.out] at h_
        · rw [ha.out]
          exact below_set HB.out GL.out
      case measure => simp [intOf]; omega
    · have hq : ¬ (i : Int) < (n : Int) := by omega
      obtain rfl : n = i := by omega
      have h6_ := B6.out
      rw [Nat.sub_self, List.replicate_zero, List.append_nil] at h6_
      replace B6 := Aside0.mk h6_
      clear h6_
      go_wp2
      go_step3
      go_wp2
      have hN0 : ∃ m0 : Nat, n = m0 + 1 := ⟨n - 1, by omega⟩
      obtain ⟨m0, hi0⟩ := hN0
      have hPs := HP.out
      rw [show n - 1 = m0 by omega] at hPs
      have hv8 : (n : Int) - 1 = (m0 : Int) := by omega
      rw [hv8]
      have hA0 := Aside0.mk hPs
      clear hPs hv8 HP
      have HRL := Aside0.mk (rangeI_length n)
      go_loopw [8] (fun v8 wr => ∃ (i : Nat) (xs : List Int) (st0 at0 : Int), i < n ∧ Aside0 (xs.length = n) ∧ v8 = .int .i64 (i : Int) ∧ Aside0 (permI k ic l i xs st0 at0 = (xs9, st9, at9)) ∧ Aside0 (wr.heap[w.heap.size]? = some (.cells #[.int .i64 k, .int .u64 st0, .int .u64 ic, .slice A l.length c, .int .i64 at0] 25 (0, 0))) ∧ Aside0 (wr.heap[w.heap.size + 1]? = some (.cells #[.int .i64 0, .int .u64 0, .int .u64 0, .slice none 0 0, .int .i64 0] 25 (0, 0))) ∧ Aside0 (wr.heap[w.heap.size + 1 + 1]? = some (.cells (mkA xs) 3 (0, 0))) ∧ Aside0 (Below w.heap.size w wr)) (fun v8 _ => (intOf v8).toNat)
      case atStart => exact ⟨m0, rangeI n, st, at_, by omega, HRL, rfl, hA0, B2, B5, B6, HB⟩
      case round =>
        clear B2 B5 B6 HB HRL hA0
        clear hi0
        obtain ⟨i, xs, st0, at0, hi, HXL, rfl, HPI, B2, B5, B6, HB⟩ := hrel
        cases i with
        | zero =>
          have hPe := HPI.out
          unfold permI at hPe
          injection hPe with e1 e2
          injection e2 with e2 e3
          subst e1
          subst e2
          subst e3
          have B3 := B5
          have GE3 := GE5
          clear B5 HPI
          have NG6 : Aside0 (w.heap.size + 1 + 1 ≠ w.heap.size + 1) := ⟨by omega⟩
          go_wp2_with fail
          refine start_ (n := 4) (S := fun w' => w'.cell? ⟨w.heap.size, 0, none⟩ = some (.int .i64 k) ∧ w'.cell? ⟨w.heap.size, 1, none⟩ = some (.int .u64 st0) ∧ w'.cell? ⟨w.heap.size, 2, none⟩ = some (.int .u64 ic) ∧ w'.cell? ⟨w.heap.size, 3, none⟩ = some (.slice A l.length c) ∧ w'.cell? ⟨w.heap.size, 4, none⟩ = some (.int .i64 at0)) (ds := [3]) #[false, false, false, false] (by kernel_rfl) rfl rfl ⟨(blk_cell B2.out 0).trans rfl, (blk_cell B2.out 1).trans rfl, (blk_cell B2.out 2).trans rfl, (blk_cell B2.out 3).trans rfl, (blk_cell B2.out 4).trans rfl⟩ (fun hHeld => ?_)
          replace B2 := Aside0.mk (blk_drew B2.out)
          replace B3 := Aside0.mk (blk_drew B3.out)
          replace B6 := Aside0.mk (blk_drew B6.out)
          replace HB := Aside0.mk (below_drew1 HB.out)
          generalize wr.drew = W6 at B2 B3 B6 HB hHeld ⊢
          refine pure_ (i := 0) (N := (some 56)) (v := ?_) (a' := ?_) #[true, false, false, false] rfl rfl (by kernel_rfl) (fun _ _ _ h => h) (Or.inl ⟨by rfl, ?_⟩) ?_ ?_
          rotate_left
          · intro w'
            go_simp
            with_reducible rfl
          rotate_left
          · simp only [Act.put, List.setIfInBounds_toArray, List.set_cons_zero, List.set_cons_succ, i64_w, i32_w]
            rfl
          refine take_ (i := 1) (N := (some 57)) (v := ?_) (a' := ?_) #[true, true, false, false] rfl rfl (by kernel_rfl) (fun _ _ _ h => h) (Or.inl ⟨by rfl, ?_⟩) hHeld ?_ ?_
          rotate_left
          · rintro w' ⟨s0, s1, s2, s3, s4⟩
            go_simp
            with_reducible rfl
          rotate_left
          · simp only [Act.put, List.setIfInBounds_toArray, List.set_cons_zero, List.set_cons_succ, i64_w, i32_w]
            rfl
          refine pure_ (i := 2) (N := (some 4)) (v := ?_) (a' := ?_) #[true, true, true, false] rfl rfl (by kernel_rfl) (fun _ _ _ h => h) (Or.inl ⟨by rfl, ?_⟩) ?_ ?_
          rotate_left
          · intro w'
            go_simp
            with_reducible rfl
          rotate_left
          · simp only [Act.put, List.setIfInBounds_toArray, List.set_cons_zero, List.set_cons_succ, i64_w, i32_w]
            rfl
          refine last_ (i := 3) (N := none) #[true, true, true, true] rfl rfl (by kernel_rfl) (by decide) (fun K hK => ?_)
          have hs0 : W6.cell? ⟨w.heap.size + 1, 0, none⟩ = some (.int .i64 0) := (blk_cell B3.out 0).trans rfl
          have hf0 := blk_frozen B3.out 0
          have hs1 : W6.cell? ⟨w.heap.size + 1, 1, none⟩ = some (.int .u64 0) := (blk_cell B3.out 1).trans rfl
          have hf1 := blk_frozen B3.out 1
          have hs2 : W6.cell? ⟨w.heap.size + 1, 2, none⟩ = some (.int .u64 0) := (blk_cell B3.out 2).trans rfl
          have hf2 := blk_frozen B3.out 2
          have hs3 : W6.cell? ⟨w.heap.size + 1, 3, none⟩ = some (.slice none 0 0) := (blk_cell B3.out 3).trans rfl
          have hf3 := blk_frozen B3.out 3
          have hs4 : W6.cell? ⟨w.heap.size + 1, 4, none⟩ = some (.int .i64 0) := (blk_cell B3.out 4).trans rfl
          have hf4 := blk_frozen B3.out 4
          refine skip_ (w1 := ?_) (by rfl) rfl ?_ ?_
          rotate_left
          · go_simp
            rfl
          refine hK.out _ _ ?_
          clear hK K
          refine done_ (by kernel_rfl) ?_
          try go_wp2
          have q0 := blk_set B3.out 0 (.int .i64 k)
          have q1 := blk_set q0 1 (.int .u64 st0)
          have q2 := blk_set q1 2 (.int .u64 ic)
          have q3 := blk_set q2 3 (.slice A l.length c)
          have q4 := blk_set q3 4 (.int .i64 at0)
          (try simp only [Exit.inBlock, Exit.then])
          (try rw [Exit.noGoto_ret])
          refine bodyPost_ret (results_list (rs := [.tmp 4, .cell 5 25]) rfl (by simp) (.tmp (.cell (w.heap.size + 1) 25 #[.int .i64 k, .int .u64 st0, .int .u64 ic, .slice A l.length c, .int .i64 at0] (0, 0) _ rfl (q4.trans (by rfl)) Try.underlying25 rfl (by kernel_rfl) .nil))) rfl ⟨_, _, rfl, Nat.le_refl _, ?_, ?_⟩
          · have h_ := row_C (by rw [HXL.out]; omega) (blk_far (blk_far (blk_far (blk_far (blk_far B6.out (p := ⟨w.heap.size + 1, 0, none⟩) NG6.out (.int .i64 k)) (p := ⟨w.heap.size + 1, 1, none⟩) NG6.out (.int .u64 st0)) (p := ⟨w.heap.size + 1, 2, none⟩) NG6.out (.int .u64 ic)) (p := ⟨w.heap.size + 1, 3, none⟩) NG6.out (.slice A l.length c)) (p := ⟨w.heap.size + 1, 4, none⟩) NG6.out (.int .i64 at0))
            rw [HXL.out, HAD0.out] at h_
            exact h_
          · exact (below_set (j := 4) (v := (.int .i64 at0)) (below_set (j := 3) (v := (.slice A l.length c)) (below_set (j := 2) (v := (.int .u64 ic)) (below_set (j := 1) (v := (.int .u64 st0)) (below_set (j := 0) (v := (.int .i64 k)) HB.out GE3.out) GE3.out) GE3.out) GE3.out) GE3.out)
        | succ i0 =>
          obtain ⟨ip, hip⟩ : ∃ ip : Nat, i0 + 1 = ip := ⟨_, rfl⟩
          obtain ⟨jj, hjj⟩ : ∃ jj : Int, (i0 : Int) + 2 = jj := ⟨_, rfl⟩
          rw [hip] at hi ⊢
          have hPe := HPI.out
          unfold permI at hPe
          rw [hjj, show (i0 : Int) + 1 = (ip : Int) by omega] at hPe
          have hjr := d_below k st0 l at0 jj (by omega)
          obtain ⟨jn, hjn⟩ : ∃ jn : Nat, belowX k st0 l at0 jj = (jn : Int) := ⟨(belowX k st0 l at0 jj).toNat, by omega⟩
          rw [hjn] at hPe hjr
          have hw : IntKind.i64.wrap ((ip : Int) + 1) = jj := (IntWalk.i64_in _ ⟨by omega, by omega⟩).trans (by omega)
          have hw2 : IntKind.i64.wrap ((ip : Int) - 1) = (i0 : Int) := (IntWalk.i64_in _ ⟨by omega, by omega⟩).trans (by omega)
          have p3 : decide ((ip : Int) < 1) = false := decide_eq_false (by omega)
          have p4 : decide (1 ≤ (ip : Int)) = true := decide_eq_true (by omega)
          have hip0 : (0 : Int) ≤ (ip : Int) := by omega
          have hip1 : (ip : Int) < (n : Int) := by omega
          have hj0 : (0 : Int) ≤ (jn : Int) := by omega
          have hj1 : (jn : Int) < (n : Int) := by omega
          have HIP := Aside0.mk hi
          have HJN : Aside0 (jn < n) := ⟨by omega⟩
          have HX := Aside0.mk hjn
          clear hjn hjr
          obtain ⟨st1, hs1⟩ : ∃ z, belowSt k st0 ic jj = z := ⟨_, rfl⟩
          obtain ⟨at1, ha1⟩ : ∃ z, belowAt k l at0 jj = z := ⟨_, rfl⟩
          rw [hs1, ha1] at hPe
          have HS := Aside0.mk hs1
          have HA := Aside0.mk ha1
          clear hs1 ha1
          have hxi := row_cell B6.out ip (by rw [HXL.out]; exact hi)
          have hxj := row_cell B6.out jn (by rw [HXL.out]; exact HJN.out)
          obtain ⟨xi, hxi1⟩ : ∃ z, rd xs (ip : Int) = z := ⟨_, rfl⟩
          obtain ⟨xj, hxj1⟩ : ∃ z, rd xs (jn : Int) = z := ⟨_, rfl⟩
          have hsw : swapL xs (ip : Int) (jn : Int) = (xs.set ip xj).set jn xi := by rw [← hxi1, ← hxj1]; rfl
          rw [hsw] at hPe
          replace HPI := Aside0.mk hPe
          have HXI := Aside0.mk hxi1
          have HXJ := Aside0.mk hxj1
          have HIPE := Aside0.mk hip
          clear hPe hsw hxi hxj hxi1 hxj1 hip hjj
          have ha0 : wr.cell? ⟨w.heap.size, 0, none⟩ = some (.int .i64 k) := (blk_cell B2.out 0).trans rfl; have fa0 := blk_frozen B2.out 0; have ha1 : wr.cell? ⟨w.heap.size, 1, none⟩ = some (.int .u64 st0) := (blk_cell B2.out 1).trans rfl; have fa1 := blk_frozen B2.out 1; have ha2 : wr.cell? ⟨w.heap.size, 2, none⟩ = some (.int .u64 ic) := (blk_cell B2.out 2).trans rfl; have fa2 := blk_frozen B2.out 2; have ha3 : wr.cell? ⟨w.heap.size, 3, none⟩ = some (.slice A l.length c) := (blk_cell B2.out 3).trans rfl; have fa3 := blk_frozen B2.out 3; have ha4 : wr.cell? ⟨w.heap.size, 4, none⟩ = some (.int .i64 at0) := (blk_cell B2.out 4).trans rfl; have fa4 := blk_frozen B2.out 4
          go_wp2_with (first | ((with_reducible refine gate_callee (f := 23) rfl ?_); refine goesL_ (some 39) rfl rfl Try.func23 (by kernel_rfl) rfl #[.agg #[.int .i64 k, .int .u64 st0, .int .u64 ic, .slice A l.length c, .int .i64 at0], .int .i64 jj] rfl (by (try simp only [List.map_toArray, List.map_cons, List.map_nil]); first | done | rfl) ?_; (refine (draw_Below_calls k st0 ic at0 A c l jj _ (Kd.C_below HR.out HB.out)).mono ?_); rintro e w1 ⟨rfl, hb⟩; rw [HX.out, HS.out, HA.out]; refine ⟨_, rfl, ?_⟩; have n1_ := Aside0.mk (below_step HB.out hb); have n2_ := Aside0.mk (blk_below B2.out hb); have n5_ := Aside0.mk (blk_below B5.out hb); have n6_ := Aside0.mk (blk_below B6.out hb); clear HB B2 B5 B6 hb; clear ha0 fa0 ha1 fa1 ha2 fa2 ha3 fa3 ha4 fa4; have hb0 : w1.cell? ⟨w.heap.size, 0, none⟩ = some (.int .i64 k) := (blk_cell n2_.out 0).trans rfl; have fb0 := blk_frozen n2_.out 0; have hb1 : w1.cell? ⟨w.heap.size, 1, none⟩ = some (.int .u64 st0) := (blk_cell n2_.out 1).trans rfl; have fb1 := blk_frozen n2_.out 1; have hb2 : w1.cell? ⟨w.heap.size, 2, none⟩ = some (.int .u64 ic) := (blk_cell n2_.out 2).trans rfl; have fb2 := blk_frozen n2_.out 2; have hb3 : w1.cell? ⟨w.heap.size, 3, none⟩ = some (.slice A l.length c) := (blk_cell n2_.out 3).trans rfl; have fb3 := blk_frozen n2_.out 3; have hb4 : w1.cell? ⟨w.heap.size, 4, none⟩ = some (.int .i64 at0) := (blk_cell n2_.out 4).trans rfl; have fb4 := blk_frozen n2_.out 4; have B2 : Aside0 ((((((w1.setCell ⟨w.heap.size, 0, none⟩ (.int .i64 k)).setCell ⟨w.heap.size, 1, none⟩ (.int .u64 st1)).setCell ⟨w.heap.size, 2, none⟩ (.int .u64 ic)).setCell ⟨w.heap.size, 3, none⟩ (.slice A l.length c)).setCell ⟨w.heap.size, 4, none⟩ (.int .i64 at1)).heap[w.heap.size]? = some (.cells #[.int .i64 k, .int .u64 st1, .int .u64 ic, .slice A l.length c, .int .i64 at1] 25 (0, 0))) := ⟨((blk_set (blk_set (blk_set (blk_set (blk_set n2_.out 0 (.int .i64 k)) 1 (.int .u64 st1)) 2 (.int .u64 ic)) 3 (.slice A l.length c)) 4 (.int .i64 at1))).trans (by rfl)⟩; have B5 : Aside0 ((((((w1.setCell ⟨w.heap.size, 0, none⟩ (.int .i64 k)).setCell ⟨w.heap.size, 1, none⟩ (.int .u64 st1)).setCell ⟨w.heap.size, 2, none⟩ (.int .u64 ic)).setCell ⟨w.heap.size, 3, none⟩ (.slice A l.length c)).setCell ⟨w.heap.size, 4, none⟩ (.int .i64 at1)).heap[w.heap.size + 1]? = some (.cells #[.int .i64 0, .int .u64 0, .int .u64 0, .slice none 0 0, .int .i64 0] 25 (0, 0))) := ⟨(blk_far (blk_far (blk_far (blk_far (blk_far n5_.out (p := ⟨w.heap.size, 0, none⟩) NE.out (.int .i64 k)) (p := ⟨w.heap.size, 1, none⟩) NE.out (.int .u64 st1)) (p := ⟨w.heap.size, 2, none⟩) NE.out (.int .u64 ic)) (p := ⟨w.heap.size, 3, none⟩) NE.out (.slice A l.length c)) (p := ⟨w.heap.size, 4, none⟩) NE.out (.int .i64 at1))⟩; have B6 : Aside0 ((((((w1.setCell ⟨w.heap.size, 0, none⟩ (.int .i64 k)).setCell ⟨w.heap.size, 1, none⟩ (.int .u64 st1)).setCell ⟨w.heap.size, 2, none⟩ (.int .u64 ic)).setCell ⟨w.heap.size, 3, none⟩ (.slice A l.length c)).setCell ⟨w.heap.size, 4, none⟩ (.int .i64 at1)).heap[w.heap.size + 1 + 1]? = some (.cells (mkA xs) 3 (0, 0))) := ⟨(blk_far (blk_far (blk_far (blk_far (blk_far n6_.out (p := ⟨w.heap.size, 0, none⟩) NS2.out (.int .i64 k)) (p := ⟨w.heap.size, 1, none⟩) NS2.out (.int .u64 st1)) (p := ⟨w.heap.size, 2, none⟩) NS2.out (.int .u64 ic)) (p := ⟨w.heap.size, 3, none⟩) NS2.out (.slice A l.length c)) (p := ⟨w.heap.size, 4, none⟩) NS2.out (.int .i64 at1))⟩; have HB : Aside0 (Below w.heap.size w (((((w1.setCell ⟨w.heap.size, 0, none⟩ (.int .i64 k)).setCell ⟨w.heap.size, 1, none⟩ (.int .u64 st1)).setCell ⟨w.heap.size, 2, none⟩ (.int .u64 ic)).setCell ⟨w.heap.size, 3, none⟩ (.slice A l.length c)).setCell ⟨w.heap.size, 4, none⟩ (.int .i64 at1))) := ⟨(below_set (j := 4) (v := (.int .i64 at1)) (below_set (j := 3) (v := (.slice A l.length c)) (below_set (j := 2) (v := (.int .u64 ic)) (below_set (j := 1) (v := (.int .u64 st1)) (below_set (j := 0) (v := (.int .i64 k)) n1_.out (Nat.le_refl _)) (Nat.le_refl _)) (Nat.le_refl _)) (Nat.le_refl _)) (Nat.le_refl _))⟩; clear n1_ n2_ n5_ n6_))
          clear hb0 fb0 hb1 fb1 hb2 fb2 hb3 fb3 hb4 fb4
          generalize (((((w1.setCell ⟨w.heap.size, 0, none⟩ (.int .i64 k)).setCell ⟨w.heap.size, 1, none⟩ (.int .u64 st1)).setCell ⟨w.heap.size, 2, none⟩ (.int .u64 ic)).setCell ⟨w.heap.size, 3, none⟩ (.slice A l.length c)).setCell ⟨w.heap.size, 4, none⟩ (.int .i64 at1)) = W5 at *
          have hci := row_cell B6.out ip (by rw [HXL.out]; exact HIP.out)
          have hcj := row_cell B6.out jn (by rw [HXL.out]; exact HJN.out)
          rw [← HAD.out ip, HXI.out] at hci
          rw [← HAD.out jn, HXJ.out] at hcj
          refine start_ (n := 16) (S := fun w' => w'.cell? (ad.add ip) = some (.int .i64 xi) ∧ w'.cell? (ad.add jn) = some (.int .i64 xj)) (ds := [13, 15]) #[false, false, false, false, false, false, false, false, false, false, false, false, false, false, false, false] (by kernel_rfl) rfl rfl ⟨hci, hcj⟩ (fun hHeld => ?_)
          replace B2 := Aside0.mk (blk_drew B2.out)
          replace B5 := Aside0.mk (blk_drew B5.out)
          replace B6 := Aside0.mk (blk_drew B6.out)
          replace HB := Aside0.mk (below_drew1 HB.out)
          clear hci hcj
          generalize W5.drew = W6 at B2 B5 B6 HB hHeld ⊢
          refine pure_ (i := 0) (N := (some 42)) (v := ?_) (a' := ?_) #[true, false, false, false, false, false, false, false, false, false, false, false, false, false, false, false] rfl rfl (by kernel_rfl) (fun _ _ _ h => h) (Or.inl ⟨by rfl, ?_⟩) ?_ ?_
          rotate_left
          · intro w'
            go_simp
            with_reducible rfl
          rotate_left
          · simp only [Act.put, List.setIfInBounds_toArray, List.set_cons_zero, List.set_cons_succ, i64_w, i32_w]
            rfl
          refine pure_ (i := 1) (N := (some 43)) (v := ?_) (a' := ?_) #[true, true, false, false, false, false, false, false, false, false, false, false, false, false, false, false] rfl rfl (by kernel_rfl) (fun _ _ _ h => h) (Or.inl ⟨by rfl, ?_⟩) ?_ ?_
          rotate_left
          · intro w'
            go_simp
            with_reducible rfl
          rotate_left
          · simp only [Act.put, List.setIfInBounds_toArray, List.set_cons_zero, List.set_cons_succ, i64_w, i32_w]
            rfl
          refine pure_ (i := 2) (N := (some 44)) (v := ?_) (a' := ?_) #[true, true, true, false, false, false, false, false, false, false, false, false, false, false, false, false] rfl rfl (by kernel_rfl) (fun _ _ _ h => h) (Or.inl ⟨by rfl, ?_⟩) ?_ ?_
          rotate_left
          · intro w'
            go_simp
            with_reducible rfl
          rotate_left
          · simp only [Act.put, List.setIfInBounds_toArray, List.set_cons_zero, List.set_cons_succ, i64_w, i32_w]
            rfl
          refine pure_ (i := 3) (N := (some 45)) (v := ?_) (a' := ?_) #[true, true, true, true, false, false, false, false, false, false, false, false, false, false, false, false] rfl rfl (by kernel_rfl) (fun _ _ _ h => h) (Or.inl ⟨by rfl, ?_⟩) ?_ ?_
          rotate_left
          · intro w'
            go_simp
            with_reducible rfl
          rotate_left
          · simp only [Act.put, List.setIfInBounds_toArray, List.set_cons_zero, List.set_cons_succ, i64_w, i32_w]
            rfl
          refine pure_ (i := 4) (N := (some 46)) (v := ?_) (a' := ?_) #[true, true, true, true, true, false, false, false, false, false, false, false, false, false, false, false] rfl rfl (by kernel_rfl) (fun _ _ _ h => h) (Or.inl ⟨by rfl, ?_⟩) ?_ ?_
          rotate_left
          · intro w'
            go_simp
            with_reducible rfl
          rotate_left
          · simp only [Act.put, List.setIfInBounds_toArray, List.set_cons_zero, List.set_cons_succ, i64_w, i32_w]
            rfl
          refine pure_ (i := 5) (N := (some 47)) (v := ?_) (a' := ?_) #[true, true, true, true, true, true, false, false, false, false, false, false, false, false, false, false] rfl rfl (by kernel_rfl) (fun _ _ _ h => h) (Or.inl ⟨by rfl, ?_⟩) ?_ ?_
          rotate_left
          · intro w'
            go_simp
            with_reducible rfl
          rotate_left
          · simp only [Act.put, List.setIfInBounds_toArray, List.set_cons_zero, List.set_cons_succ, i64_w, i32_w]
            rfl
          refine pure_ (i := 6) (N := (some 48)) (v := ?_) (a' := ?_) #[true, true, true, true, true, true, true, false, false, false, false, false, false, false, false, false] rfl rfl (by kernel_rfl) (fun _ _ _ h => h) (Or.inl ⟨by rfl, ?_⟩) ?_ ?_
          rotate_left
          · intro w'
            go_simp
            with_reducible rfl
          rotate_left
          · simp only [Act.put, List.setIfInBounds_toArray, List.set_cons_zero, List.set_cons_succ, i64_w, i32_w]
            rfl
          refine take_ (i := 7) (N := (some 49)) (v := ?_) (a' := ?_) #[true, true, true, true, true, true, true, true, false, false, false, false, false, false, false, false] rfl rfl (by kernel_rfl) (fun _ _ _ h => h) (Or.inl ⟨by rfl, ?_⟩) hHeld ?_ ?_
          rotate_left
          · rintro w' ⟨s0, s1⟩
            go_simp
            with_reducible rfl
          rotate_left
          · simp only [Act.put, List.setIfInBounds_toArray, List.set_cons_zero, List.set_cons_succ, i64_w, i32_w]
            rfl
          refine pure_ (i := 8) (N := (some 50)) (v := ?_) (a' := ?_) #[true, true, true, true, true, true, true, true, true, false, false, false, false, false, false, false] rfl rfl (by kernel_rfl) (fun _ _ _ h => h) (Or.inl ⟨by rfl, ?_⟩) ?_ ?_
          rotate_left
          · intro w'
            go_simp
            with_reducible rfl
          rotate_left
          · simp only [Act.put, List.setIfInBounds_toArray, List.set_cons_zero, List.set_cons_succ, i64_w, i32_w]
            rfl
          refine pure_ (i := 9) (N := (some 51)) (v := ?_) (a' := ?_) #[true, true, true, true, true, true, true, true, true, true, false, false, false, false, false, false] rfl rfl (by kernel_rfl) (fun _ _ _ h => h) (Or.inl ⟨by rfl, ?_⟩) ?_ ?_
          rotate_left
          · intro w'
            go_simp
            with_reducible rfl
          rotate_left
          · simp only [Act.put, List.setIfInBounds_toArray, List.set_cons_zero, List.set_cons_succ, i64_w, i32_w]
            rfl
          refine pure_ (i := 10) (N := (some 52)) (v := ?_) (a' := ?_) #[true, true, true, true, true, true, true, true, true, true, true, false, false, false, false, false] rfl rfl (by kernel_rfl) (fun _ _ _ h => h) (Or.inl ⟨by rfl, ?_⟩) ?_ ?_
          rotate_left
          · intro w'
            go_simp
            with_reducible rfl
          rotate_left
          · simp only [Act.put, List.setIfInBounds_toArray, List.set_cons_zero, List.set_cons_succ, i64_w, i32_w]
            rfl
          refine take_ (i := 11) (N := (some 53)) (v := ?_) (a' := ?_) #[true, true, true, true, true, true, true, true, true, true, true, true, false, false, false, false] rfl rfl (by kernel_rfl) (fun _ _ _ h => h) (Or.inl ⟨by rfl, ?_⟩) hHeld ?_ ?_
          rotate_left
          · rintro w' ⟨s0, s1⟩
            go_simp
            with_reducible rfl
          rotate_left
          · simp only [Act.put, List.setIfInBounds_toArray, List.set_cons_zero, List.set_cons_succ, i64_w, i32_w]
            rfl
          refine pure_ (i := 12) (N := (some 54)) (v := ?_) (a' := ?_) #[true, true, true, true, true, true, true, true, true, true, true, true, true, false, false, false] rfl rfl (by kernel_rfl) (fun _ _ _ h => h) (Or.inl ⟨by rfl, ?_⟩) ?_ ?_
          rotate_left
          · intro w'
            go_simp
            with_reducible rfl
          rotate_left
          · simp only [Act.put, List.setIfInBounds_toArray, List.set_cons_zero, List.set_cons_succ, i64_w, i32_w]
            rfl
          refine last_ (i := 13) (N := none) #[true, true, true, true, true, true, true, true, true, true, true, true, true, true, false, false] rfl rfl (by kernel_rfl) (by decide) (fun K hK => ?_)
          have hs0 := row_cell B6.out ip (by rw [HXL.out]; exact HIP.out)
          have hf0 := blk_frozen B6.out ip
          rw [← HAD.out ip] at hs0 hf0
          clear hHeld
          refine skip_ (w1 := ?_) (by rfl) rfl ?_ ?_
          rotate_left
          · go_simp
            rfl
          refine hK.out _ _ ?_
          clear hK K
          have n2_ : Aside0 ((W6.setCell (ad.add ip) (.int .i64 xj)).heap[w.heap.size]? = some (.cells #[.int .i64 k, .int .u64 st1, .int .u64 ic, .slice A l.length c, .int .i64 at1] 25 (0, 0))) := ⟨by rw [HAD.out ip]; exact blk_far B2.out (p := ⟨w.heap.size + 1 + 1, ip, none⟩) NL2.out _⟩
          have n5_ : Aside0 ((W6.setCell (ad.add ip) (.int .i64 xj)).heap[w.heap.size + 1]? = some (.cells #[.int .i64 0, .int .u64 0, .int .u64 0, .slice none 0 0, .int .i64 0] 25 (0, 0))) := ⟨by rw [HAD.out ip]; exact blk_far B5.out (p := ⟨w.heap.size + 1 + 1, ip, none⟩) NL5.out _⟩
          have n6_ : Aside0 ((W6.setCell (ad.add ip) (.int .i64 xj)).heap[w.heap.size + 1 + 1]? = some (.cells (mkA (xs.set ip xj)) 3 (0, 0))) := ⟨by rw [HAD.out ip]; exact row_set B6.out ip xj⟩
          have nH_ : Aside0 (Below w.heap.size w (W6.setCell (ad.add ip) (.int .i64 xj))) := ⟨by rw [HAD.out ip]; exact below_set HB.out GL.out⟩
          clear B2 B5 B6 HB hs0 hf0
          have B2 := n2_
          have B5 := n5_
          have B6 := n6_
          have HB := nH_
          clear n2_ n5_ n6_ nH_
          generalize W6.setCell (ad.add ip) (.int .i64 xj) = W7 at *
          refine pure_ (i := 14) (N := (some 55)) (v := ?_) (a' := ?_) #[true, true, true, true, true, true, true, true, true, true, true, true, true, true, true, false] rfl rfl (by kernel_rfl) (fun _ _ _ h => h) (Or.inl ⟨by rfl, ?_⟩) ?_ ?_
          rotate_left
          · intro w'
            go_simp
            with_reducible rfl
          rotate_left
          · simp only [Act.put, List.setIfInBounds_toArray, List.set_cons_zero, List.set_cons_succ, i64_w, i32_w]
            rfl
          refine last_ (i := 15) (N := none) #[true, true, true, true, true, true, true, true, true, true, true, true, true, true, true, true] rfl rfl (by kernel_rfl) (by decide) (fun K hK => ?_)
          have hs0 := row_cell B6.out jn (by rw [List.length_set, HXL.out]; exact HJN.out)
          have hf0 := blk_frozen B6.out jn
          rw [← HAD.out jn] at hs0 hf0
          refine skip_ (w1 := ?_) (by rfl) rfl ?_ ?_
          rotate_left
          · go_simp
            rfl
          refine hK.out _ _ ?_
          clear hK K
          refine done_ (by kernel_rfl) ?_
          go_wp2
          go_roundw
          case rel =>
            refine ⟨i0, (xs.set ip xj).set jn xi, st1, at1, by have := HIP.out; have := HIPE.out; omega, ⟨by rw [List.length_set, List.length_set]; exact HXL.out⟩, by first | go_num | rfl, HPI, ⟨?_⟩, ⟨?_⟩, ⟨?_⟩, ⟨?_⟩⟩
            · rw [HAD.out jn]
              exact blk_far B2.out (p := ⟨w.heap.size + 1 + 1, jn, none⟩) NL2.out _
            · rw [HAD.out jn]
              exact blk_far B5.out (p := ⟨w.heap.size + 1 + 1, jn, none⟩) NL5.out _
            · rw [HAD.out jn]
              exact row_set B6.out jn xi
            · rw [HAD.out jn]
              exact below_set HB.out GL.out
          case measure => have := HIPE.out; simp [intOf]; omega
end
section
open Go.RowKit Go.Proofs.YtjiogchafnpkhaaW.PrintWords Go.Proofs.YtjiogchafnpkhaaW.PrintLast Go.Proofs.YtjiogchafnpkhaaW.PrintMore
attribute [local go_sem] max2_int min2_int max_two min_two max_three min_three max_four min_four
attribute [local go_sem] Go.Proofs.YtjiogchafnpkhaaS.cell_set_map Go.Proofs.YtjiogchafnpkhaaS.setCell_drewN
set_option linter.unusedVariables false
set_option linter.unusedSimpArgs false
/-- The four trials of order k, and the error. -/
def fa (k : Int) : Bool := decide (k = 0 ∨ k = 1 ∨ k = 2)
def fb (k : Int) : Bool := decide (k = 0 ∨ k = 3 ∨ k = 4)
def fc (k : Int) : Bool := decide (k = 1 ∨ k = 3 ∨ k = 5)
def fd (k : Int) : Bool := decide (k = 2 ∨ k = 4 ∨ k = 5)
def ge_ (k : Int) : Int := if 0 ≤ k ∧ k ≤ 5 then 0 else 1
theorem eq_bool (d : Nat) (w : World) (x y : Bool) : (Op.equalIn (d + 1) 4 (.bool x) (.bool y)).run Try.prog w = .ok (x == y) w := by
  simp [Op.equalIn, run_underlying Try.underlying4]
/-- Are two orders the same? -/
def e4 (x0 x1 x2 x3 y0 y1 y2 y3 : Bool) : Bool := x0 == y0 && (x1 == y1 && (x2 == y2 && x3 == y3))
theorem eq45 (w : World) (x0 x1 x2 x3 y0 y1 y2 y3 : Bool) :
    (Op.equalIn 10000 45 (.agg #[.bool x0, .bool x1, .bool x2, .bool x3]) (.agg #[.bool y0, .bool y1, .bool y2, .bool y3])).run Try.prog w = .ok (e4 x0 x1 x2 x3 y0 y1 y2 y3) w := by
  obtain ⟨i, hi⟩ : ∃ i, Try.prog.info? 4 = some i := ⟨_, by rfl⟩
  have hc : Try.prog.cellsOf 4 = 1 := by kernel_rfl
  have hp : ∀ (v : Value) (vs : Array Value) (k : Nat), vs[k]? = some v → (part 4 vs k).run Try.prog w = .ok v w := fun v vs k h => run_part_plain (P := Try.prog) w (by kernel_rfl) h
  unfold e4
  rw [show (10000 : Nat) = 9999 + 1 from rfl, run_equalIn_array w 9999 _ _ Try.underlying45 hi, hc]
  simp only [show List.range 4 = [0, 1, 2, 3] from rfl]
  simp [Op.eqItems, eq_bool 9998, hp]
  (repeat' split) <;> simp_all
theorem eq55 (w : World) (x0 x1 y0 y1 : Bool) :
    (Op.equalIn 10000 55 (.agg #[.bool x0, .bool x1]) (.agg #[.bool y0, .bool y1])).run Try.prog w = .ok (x0 == y0 && x1 == y1) w := by
  obtain ⟨i, hi⟩ : ∃ i, Try.prog.info? 4 = some i := ⟨_, by rfl⟩
  have hc : Try.prog.cellsOf 4 = 1 := by kernel_rfl
  have hp : ∀ (v : Value) (vs : Array Value) (k : Nat), vs[k]? = some v → (part 4 vs k).run Try.prog w = .ok v w := fun v vs k h => run_part_plain (P := Try.prog) w (by kernel_rfl) h
  rw [show (10000 : Nat) = 9999 + 1 from rfl, run_equalIn_array w 9999 _ _ Try.underlying55 hi, hc]
  simp only [show List.range 2 = [0, 1] from rfl]
  simp [Op.eqItems, eq_bool 9998, hp]
  (repeat' split) <;> simp_all
theorem idx0 (w : World) : (Instr.index 67 (.agg #[.bool true, .bool true, .bool false, .bool false, .bool true, .bool false, .bool true, .bool false, .bool true, .bool false, .bool false, .bool true, .bool false, .bool true, .bool true, .bool false, .bool false, .bool true, .bool false, .bool true, .bool false, .bool false, .bool true, .bool true]) (.int .i64 0)).run Try.prog w = .ok (.agg #[.bool true, .bool true, .bool false, .bool false]) w := by kernel_rfl
theorem idx1 (w : World) : (Instr.index 67 (.agg #[.bool true, .bool true, .bool false, .bool false, .bool true, .bool false, .bool true, .bool false, .bool true, .bool false, .bool false, .bool true, .bool false, .bool true, .bool true, .bool false, .bool false, .bool true, .bool false, .bool true, .bool false, .bool false, .bool true, .bool true]) (.int .i64 1)).run Try.prog w = .ok (.agg #[.bool true, .bool false, .bool true, .bool false]) w := by kernel_rfl
theorem idx2 (w : World) : (Instr.index 67 (.agg #[.bool true, .bool true, .bool false, .bool false, .bool true, .bool false, .bool true, .bool false, .bool true, .bool false, .bool false, .bool true, .bool false, .bool true, .bool true, .bool false, .bool false, .bool true, .bool false, .bool true, .bool false, .bool false, .bool true, .bool true]) (.int .i64 2)).run Try.prog w = .ok (.agg #[.bool true, .bool false, .bool false, .bool true]) w := by kernel_rfl
theorem idx3 (w : World) : (Instr.index 67 (.agg #[.bool true, .bool true, .bool false, .bool false, .bool true, .bool false, .bool true, .bool false, .bool true, .bool false, .bool false, .bool true, .bool false, .bool true, .bool true, .bool false, .bool false, .bool true, .bool false, .bool true, .bool false, .bool false, .bool true, .bool true]) (.int .i64 3)).run Try.prog w = .ok (.agg #[.bool false, .bool true, .bool true, .bool false]) w := by kernel_rfl
theorem idx4 (w : World) : (Instr.index 67 (.agg #[.bool true, .bool true, .bool false, .bool false, .bool true, .bool false, .bool true, .bool false, .bool true, .bool false, .bool false, .bool true, .bool false, .bool true, .bool true, .bool false, .bool false, .bool true, .bool false, .bool true, .bool false, .bool false, .bool true, .bool true]) (.int .i64 4)).run Try.prog w = .ok (.agg #[.bool false, .bool true, .bool false, .bool true]) w := by kernel_rfl
theorem idx5 (w : World) : (Instr.index 67 (.agg #[.bool true, .bool true, .bool false, .bool false, .bool true, .bool false, .bool true, .bool false, .bool true, .bool false, .bool false, .bool true, .bool false, .bool true, .bool true, .bool false, .bool false, .bool true, .bool false, .bool true, .bool false, .bool false, .bool true, .bool true]) (.int .i64 5)).run Try.prog w = .ok (.agg #[.bool false, .bool false, .bool true, .bool true]) w := by kernel_rfl
attribute [local go_sem] eq45 eq55 idx0 idx1 idx2 idx3 idx4 idx5
theorem run_store24 (a : Act) (o : Oper) (w : World) (ho : o.op = .store 67 (.tmp 0) (.tmp 7)) (hx : a.eval (.tmp 0) = .pointer (some ⟨w.heap.size, 0, none⟩)) (hy : a.eval (.tmp 7) = .agg #[.bool true, .bool true, .bool false, .bool false, .bool true, .bool false, .bool true, .bool false, .bool true, .bool false, .bool false, .bool true, .bool false, .bool true, .bool true, .bool false, .bool false, .bool true, .bool false, .bool true, .bool false, .bool false, .bool true, .bool true]) : (execOp a.eval o).run Try.prog (w.alloc (.cells #[.bool false, .bool false, .bool false, .bool false, .bool false, .bool false, .bool false, .bool false, .bool false, .bool false, .bool false, .bool false, .bool false, .bool false, .bool false, .bool false, .bool false, .bool false, .bool false, .bool false, .bool false, .bool false, .bool false, .bool false] 67)) = .ok .skip (w.alloc (.cells #[.bool true, .bool true, .bool false, .bool false, .bool true, .bool false, .bool true, .bool false, .bool true, .bool false, .bool false, .bool true, .bool false, .bool true, .bool true, .bool false, .bool false, .bool true, .bool false, .bool true, .bool false, .bool false, .bool true, .bool true] 67)) := by
  have h := run_storeVar_new (P := Try.prog) w 67 #[.bool false, .bool false, .bool false, .bool false, .bool false, .bool false, .bool false, .bool false, .bool false, .bool false, .bool false, .bool false, .bool false, .bool false, .bool false, .bool false, .bool false, .bool false, .bool false, .bool false, .bool false, .bool false, .bool false, .bool false] #[.bool true, .bool true, .bool false, .bool false, .bool true, .bool false, .bool true, .bool false, .bool true, .bool false, .bool false, .bool true, .bool false, .bool true, .bool true, .bool false, .bool false, .bool true, .bool false, .bool true, .bool false, .bool false, .bool true, .bool true] (by kernel_rfl) rfl (by kernel_rfl)
  unfold execOp
  simp only [ho, hx, hy, Instr.storeAt, Instr.sureAddr, Sem.run_bind, Sem.run_pure, Result.andThen_ok, h]
set_option maxHeartbeats 4000000 in
set_option maxRecDepth 100000 in
theorem four_calls (w : World) : Calls Try.prog 43 #[] w fun e w' => e = .returned (.agg #[.bool true, .bool true, .bool false, .bool false, .bool true, .bool false, .bool true, .bool false, .bool true, .bool false, .bool false, .bool true, .bool false, .bool true, .bool true, .bool false, .bool false, .bool true, .bool false, .bool true, .bool false, .bool false, .bool true, .bool true]) ∧ Below w.heap.size w w' := by
  have hu67 := Try.underlying67
  have hu45 := Try.underlying45
  go_enter Try.func43, Try.ntmps43
  go_wp2_with (first | ((with_reducible refine gate_store (t := 67) (p := 0) rfl ?_); refine store_event (t := 67) (p := 0) (v := .tmp 7) (w1 := w.alloc (.cells #[.bool true, .bool true, .bool false, .bool false, .bool true, .bool false, .bool true, .bool false, .bool true, .bool false, .bool false, .bool true, .bool false, .bool true, .bool true, .bool false, .bool false, .bool true, .bool false, .bool true, .bool false, .bool false, .bool true, .bool true] 67 (0, 0))) ?hg ?ho ?hn ?hr ?_; (case ho => rfl); (case hg => rfl); (case hn => rfl); (case hr => exact run_store24 _ _ w rfl rfl rfl); intro w35 hw; subst hw))
  (try simp only [Exit.inBlock, Exit.then])
  refine bodyPost_ret (results_cell_row rfl _ _ w.heap.size 67 #[.bool true, .bool true, .bool false, .bool false, .bool true, .bool false, .bool true, .bool false, .bool true, .bool false, .bool false, .bool true, .bool false, .bool true, .bool true, .bool false, .bool false, .bool true, .bool false, .bool true, .bool false, .bool false, .bool true, .bool true] (0, 0) _ rfl (blk_new w _) Try.underlying67 rfl (by kernel_rfl)) rfl ⟨rfl, below_alloc (Below.refl _ _) _⟩
set_option maxHeartbeats 4000000 in
set_option maxRecDepth 100000 in
theorem order_Four_calls (k : Int) (w : World) : Calls Try.prog 31 #[.int .i64 k] w fun e w' => e = .returned (.tuple #[.agg #[.bool (fa k), .bool (fb k), .bool (fc k), .bool (fd k)], .int .i64 (ge_ k)]) ∧ Below w.heap.size w w' := by
  have hu67 := Try.underlying67
  have hu45 := Try.underlying45
  by_cases h : 0 ≤ k ∧ k ≤ 5
  · have h6 : k = 0 ∨ k = 1 ∨ k = 2 ∨ k = 3 ∨ k = 4 ∨ k = 5 := by omega
    clear h
    rcases h6 with rfl | rfl | rfl | rfl | rfl | rfl
    · show Calls Try.prog 31 #[.int .i64 0] w fun e w' => e = .returned (.tuple #[.agg #[.bool true, .bool true, .bool false, .bool false], .int .i64 0]) ∧ Below w.heap.size w w'
      have BZ := Aside0.mk (blk_new w (.cells #[.bool false, .bool false, .bool false, .bool false] 45 (0, 0)))
      have HB := Aside0.mk (below_alloc (Below.refl w.heap.size w) (.cells #[.bool false, .bool false, .bool false, .bool false] 45 (0, 0)))
      go_enter Try.func31, Try.ntmps31
      go_wp2_with (first | ((with_reducible refine gate_callee (f := 43) rfl ?_); refine goesL_ (some 11) rfl rfl Try.func43 (by kernel_rfl) rfl #[] rfl (by (try simp only [List.map_toArray, List.map_cons, List.map_nil]); first | done | rfl) ?_; (refine (four_calls _).mono ?_); rintro e w1 ⟨rfl, hb⟩; refine ⟨_, rfl, ?_⟩; have n1_ := Aside0.mk (below_step HB.out hb); have n2_ := Aside0.mk (blk_below BZ.out hb); clear HB BZ hb; have HB := n1_; have BZ := n2_; clear n1_ n2_; have hz0 : w1.cell? ⟨w.heap.size, 0, none⟩ = some (.bool false) := (blk_cell BZ.out 0).trans rfl; have fz0 := blk_frozen BZ.out 0; have hz1 : w1.cell? ⟨w.heap.size, 1, none⟩ = some (.bool false) := (blk_cell BZ.out 1).trans rfl; have fz1 := blk_frozen BZ.out 1; have hz2 : w1.cell? ⟨w.heap.size, 2, none⟩ = some (.bool false) := (blk_cell BZ.out 2).trans rfl; have fz2 := blk_frozen BZ.out 2; have hz3 : w1.cell? ⟨w.heap.size, 3, none⟩ = some (.bool false) := (blk_cell BZ.out 3).trans rfl; have fz3 := blk_frozen BZ.out 3))
      have q0 := blk_set BZ.out 0 (.bool true)
      have q1 := blk_set q0 1 (.bool true)
      have q2 := blk_set q1 2 (.bool false)
      have q3 := blk_set q2 3 (.bool false)
      (try simp only [Exit.inBlock, Exit.then])
      refine bodyPost_ret (results_list (rs := [.cell 2 45, .tmp 3]) rfl (by simp) (.cell (w.heap.size) 45 #[.bool true, .bool true, .bool false, .bool false] (0, 0) _ rfl (q3.trans (by rfl)) Try.underlying45 rfl (by kernel_rfl) (.tmp .nil))) rfl ⟨rfl, ?_⟩
      exact (below_set (j := 3) (v := (.bool false)) (below_set (j := 2) (v := (.bool false)) (below_set (j := 1) (v := (.bool true)) (below_set (j := 0) (v := (.bool true)) HB.out (Nat.le_refl _)) (Nat.le_refl _)) (Nat.le_refl _)) (Nat.le_refl _))
    · show Calls Try.prog 31 #[.int .i64 1] w fun e w' => e = .returned (.tuple #[.agg #[.bool true, .bool false, .bool true, .bool false], .int .i64 0]) ∧ Below w.heap.size w w'
      have BZ := Aside0.mk (blk_new w (.cells #[.bool false, .bool false, .bool false, .bool false] 45 (0, 0)))
      have HB := Aside0.mk (below_alloc (Below.refl w.heap.size w) (.cells #[.bool false, .bool false, .bool false, .bool false] 45 (0, 0)))
      go_enter Try.func31, Try.ntmps31
      go_wp2_with (first | ((with_reducible refine gate_callee (f := 43) rfl ?_); refine goesL_ (some 11) rfl rfl Try.func43 (by kernel_rfl) rfl #[] rfl (by (try simp only [List.map_toArray, List.map_cons, List.map_nil]); first | done | rfl) ?_; (refine (four_calls _).mono ?_); rintro e w1 ⟨rfl, hb⟩; refine ⟨_, rfl, ?_⟩; have n1_ := Aside0.mk (below_step HB.out hb); have n2_ := Aside0.mk (blk_below BZ.out hb); clear HB BZ hb; have HB := n1_; have BZ := n2_; clear n1_ n2_; have hz0 : w1.cell? ⟨w.heap.size, 0, none⟩ = some (.bool false) := (blk_cell BZ.out 0).trans rfl; have fz0 := blk_frozen BZ.out 0; have hz1 : w1.cell? ⟨w.heap.size, 1, none⟩ = some (.bool false) := (blk_cell BZ.out 1).trans rfl; have fz1 := blk_frozen BZ.out 1; have hz2 : w1.cell? ⟨w.heap.size, 2, none⟩ = some (.bool false) := (blk_cell BZ.out 2).trans rfl; have fz2 := blk_frozen BZ.out 2; have hz3 : w1.cell? ⟨w.heap.size, 3, none⟩ = some (.bool false) := (blk_cell BZ.out 3).trans rfl; have fz3 := blk_frozen BZ.out 3))
      have q0 := blk_set BZ.out 0 (.bool true)
      have q1 := blk_set q0 1 (.bool false)
      have q2 := blk_set q1 2 (.bool true)
      have q3 := blk_set q2 3 (.bool false)
      (try simp only [Exit.inBlock, Exit.then])
      refine bodyPost_ret (results_list (rs := [.cell 2 45, .tmp 3]) rfl (by simp) (.cell (w.heap.size) 45 #[.bool true, .bool false, .bool true, .bool false] (0, 0) _ rfl (q3.trans (by rfl)) Try.underlying45 rfl (by kernel_rfl) (.tmp .nil))) rfl ⟨rfl, ?_⟩
      exact (below_set (j := 3) (v := (.bool false)) (below_set (j := 2) (v := (.bool true)) (below_set (j := 1) (v := (.bool false)) (below_set (j := 0) (v := (.bool true)) HB.out (Nat.le_refl _)) (Nat.le_refl _)) (Nat.le_refl _)) (Nat.le_refl _))
    · show Calls Try.prog 31 #[.int .i64 2] w fun e w' => e = .returned (.tuple #[.agg #[.bool true, .bool false, .bool false, .bool true], .int .i64 0]) ∧ Below w.heap.size w w'
      have BZ := Aside0.mk (blk_new w (.cells #[.bool false, .bool false, .bool false, .bool false] 45 (0, 0)))
      have HB := Aside0.mk (below_alloc (Below.refl w.heap.size w) (.cells #[.bool false, .bool false, .bool false, .bool false] 45 (0, 0)))
      go_enter Try.func31, Try.ntmps31
      go_wp2_with (first | ((with_reducible refine gate_callee (f := 43) rfl ?_); refine goesL_ (some 11) rfl rfl Try.func43 (by kernel_rfl) rfl #[] rfl (by (try simp only [List.map_toArray, List.map_cons, List.map_nil]); first | done | rfl) ?_; (refine (four_calls _).mono ?_); rintro e w1 ⟨rfl, hb⟩; refine ⟨_, rfl, ?_⟩; have n1_ := Aside0.mk (below_step HB.out hb); have n2_ := Aside0.mk (blk_below BZ.out hb); clear HB BZ hb; have HB := n1_; have BZ := n2_; clear n1_ n2_; have hz0 : w1.cell? ⟨w.heap.size, 0, none⟩ = some (.bool false) := (blk_cell BZ.out 0).trans rfl; have fz0 := blk_frozen BZ.out 0; have hz1 : w1.cell? ⟨w.heap.size, 1, none⟩ = some (.bool false) := (blk_cell BZ.out 1).trans rfl; have fz1 := blk_frozen BZ.out 1; have hz2 : w1.cell? ⟨w.heap.size, 2, none⟩ = some (.bool false) := (blk_cell BZ.out 2).trans rfl; have fz2 := blk_frozen BZ.out 2; have hz3 : w1.cell? ⟨w.heap.size, 3, none⟩ = some (.bool false) := (blk_cell BZ.out 3).trans rfl; have fz3 := blk_frozen BZ.out 3))
      have q0 := blk_set BZ.out 0 (.bool true)
      have q1 := blk_set q0 1 (.bool false)
      have q2 := blk_set q1 2 (.bool false)
      have q3 := blk_set q2 3 (.bool true)
      (try simp only [Exit.inBlock, Exit.then])
      refine bodyPost_ret (results_list (rs := [.cell 2 45, .tmp 3]) rfl (by simp) (.cell (w.heap.size) 45 #[.bool true, .bool false, .bool false, .bool true] (0, 0) _ rfl (q3.trans (by rfl)) Try.underlying45 rfl (by kernel_rfl) (.tmp .nil))) rfl ⟨rfl, ?_⟩
      exact (below_set (j := 3) (v := (.bool true)) (below_set (j := 2) (v := (.bool false)) (below_set (j := 1) (v := (.bool false)) (below_set (j := 0) (v := (.bool true)) HB.out (Nat.le_refl _)) (Nat.le_refl _)) (Nat.le_refl _)) (Nat.le_refl _))
    · show Calls Try.prog 31 #[.int .i64 3] w fun e w' => e = .returned (.tuple #[.agg #[.bool false, .bool true, .bool true, .bool false], .int .i64 0]) ∧ Below w.heap.size w w'
      have BZ := Aside0.mk (blk_new w (.cells #[.bool false, .bool false, .bool false, .bool false] 45 (0, 0)))
      have HB := Aside0.mk (below_alloc (Below.refl w.heap.size w) (.cells #[.bool false, .bool false, .bool false, .bool false] 45 (0, 0)))
      go_enter Try.func31, Try.ntmps31
      go_wp2_with (first | ((with_reducible refine gate_callee (f := 43) rfl ?_); refine goesL_ (some 11) rfl rfl Try.func43 (by kernel_rfl) rfl #[] rfl (by (try simp only [List.map_toArray, List.map_cons, List.map_nil]); first | done | rfl) ?_; (refine (four_calls _).mono ?_); rintro e w1 ⟨rfl, hb⟩; refine ⟨_, rfl, ?_⟩; have n1_ := Aside0.mk (below_step HB.out hb); have n2_ := Aside0.mk (blk_below BZ.out hb); clear HB BZ hb; have HB := n1_; have BZ := n2_; clear n1_ n2_; have hz0 : w1.cell? ⟨w.heap.size, 0, none⟩ = some (.bool false) := (blk_cell BZ.out 0).trans rfl; have fz0 := blk_frozen BZ.out 0; have hz1 : w1.cell? ⟨w.heap.size, 1, none⟩ = some (.bool false) := (blk_cell BZ.out 1).trans rfl; have fz1 := blk_frozen BZ.out 1; have hz2 : w1.cell? ⟨w.heap.size, 2, none⟩ = some (.bool false) := (blk_cell BZ.out 2).trans rfl; have fz2 := blk_frozen BZ.out 2; have hz3 : w1.cell? ⟨w.heap.size, 3, none⟩ = some (.bool false) := (blk_cell BZ.out 3).trans rfl; have fz3 := blk_frozen BZ.out 3))
      have q0 := blk_set BZ.out 0 (.bool false)
      have q1 := blk_set q0 1 (.bool true)
      have q2 := blk_set q1 2 (.bool true)
      have q3 := blk_set q2 3 (.bool false)
      (try simp only [Exit.inBlock, Exit.then])
      refine bodyPost_ret (results_list (rs := [.cell 2 45, .tmp 3]) rfl (by simp) (.cell (w.heap.size) 45 #[.bool false, .bool true, .bool true, .bool false] (0, 0) _ rfl (q3.trans (by rfl)) Try.underlying45 rfl (by kernel_rfl) (.tmp .nil))) rfl ⟨rfl, ?_⟩
      exact (below_set (j := 3) (v := (.bool false)) (below_set (j := 2) (v := (.bool true)) (below_set (j := 1) (v := (.bool true)) (below_set (j := 0) (v := (.bool false)) HB.out (Nat.le_refl _)) (Nat.le_refl _)) (Nat.le_refl _)) (Nat.le_refl _))
    · show Calls Try.prog 31 #[.int .i64 4] w fun e w' => e = .returned (.tuple #[.agg #[.bool false, .bool true, .bool false, .bool true], .int .i64 0]) ∧ Below w.heap.size w w'
      have BZ := Aside0.mk (blk_new w (.cells #[.bool false, .bool false, .bool false, .bool false] 45 (0, 0)))
      have HB := Aside0.mk (below_alloc (Below.refl w.heap.size w) (.cells #[.bool false, .bool false, .bool false, .bool false] 45 (0, 0)))
      go_enter Try.func31, Try.ntmps31
      go_wp2_with (first | ((with_reducible refine gate_callee (f := 43) rfl ?_); refine goesL_ (some 11) rfl rfl Try.func43 (by kernel_rfl) rfl #[] rfl (by (try simp only [List.map_toArray, List.map_cons, List.map_nil]); first | done | rfl) ?_; (refine (four_calls _).mono ?_); rintro e w1 ⟨rfl, hb⟩; refine ⟨_, rfl, ?_⟩; have n1_ := Aside0.mk (below_step HB.out hb); have n2_ := Aside0.mk (blk_below BZ.out hb); clear HB BZ hb; have HB := n1_; have BZ := n2_; clear n1_ n2_; have hz0 : w1.cell? ⟨w.heap.size, 0, none⟩ = some (.bool false) := (blk_cell BZ.out 0).trans rfl; have fz0 := blk_frozen BZ.out 0; have hz1 : w1.cell? ⟨w.heap.size, 1, none⟩ = some (.bool false) := (blk_cell BZ.out 1).trans rfl; have fz1 := blk_frozen BZ.out 1; have hz2 : w1.cell? ⟨w.heap.size, 2, none⟩ = some (.bool false) := (blk_cell BZ.out 2).trans rfl; have fz2 := blk_frozen BZ.out 2; have hz3 : w1.cell? ⟨w.heap.size, 3, none⟩ = some (.bool false) := (blk_cell BZ.out 3).trans rfl; have fz3 := blk_frozen BZ.out 3))
      have q0 := blk_set BZ.out 0 (.bool false)
      have q1 := blk_set q0 1 (.bool true)
      have q2 := blk_set q1 2 (.bool false)
      have q3 := blk_set q2 3 (.bool true)
      (try simp only [Exit.inBlock, Exit.then])
      refine bodyPost_ret (results_list (rs := [.cell 2 45, .tmp 3]) rfl (by simp) (.cell (w.heap.size) 45 #[.bool false, .bool true, .bool false, .bool true] (0, 0) _ rfl (q3.trans (by rfl)) Try.underlying45 rfl (by kernel_rfl) (.tmp .nil))) rfl ⟨rfl, ?_⟩
      exact (below_set (j := 3) (v := (.bool true)) (below_set (j := 2) (v := (.bool false)) (below_set (j := 1) (v := (.bool true)) (below_set (j := 0) (v := (.bool false)) HB.out (Nat.le_refl _)) (Nat.le_refl _)) (Nat.le_refl _)) (Nat.le_refl _))
    · show Calls Try.prog 31 #[.int .i64 5] w fun e w' => e = .returned (.tuple #[.agg #[.bool false, .bool false, .bool true, .bool true], .int .i64 0]) ∧ Below w.heap.size w w'
      have BZ := Aside0.mk (blk_new w (.cells #[.bool false, .bool false, .bool false, .bool false] 45 (0, 0)))
      have HB := Aside0.mk (below_alloc (Below.refl w.heap.size w) (.cells #[.bool false, .bool false, .bool false, .bool false] 45 (0, 0)))
      go_enter Try.func31, Try.ntmps31
      go_wp2_with (first | ((with_reducible refine gate_callee (f := 43) rfl ?_); refine goesL_ (some 11) rfl rfl Try.func43 (by kernel_rfl) rfl #[] rfl (by (try simp only [List.map_toArray, List.map_cons, List.map_nil]); first | done | rfl) ?_; (refine (four_calls _).mono ?_); rintro e w1 ⟨rfl, hb⟩; refine ⟨_, rfl, ?_⟩; have n1_ := Aside0.mk (below_step HB.out hb); have n2_ := Aside0.mk (blk_below BZ.out hb); clear HB BZ hb; have HB := n1_; have BZ := n2_; clear n1_ n2_; have hz0 : w1.cell? ⟨w.heap.size, 0, none⟩ = some (.bool false) := (blk_cell BZ.out 0).trans rfl; have fz0 := blk_frozen BZ.out 0; have hz1 : w1.cell? ⟨w.heap.size, 1, none⟩ = some (.bool false) := (blk_cell BZ.out 1).trans rfl; have fz1 := blk_frozen BZ.out 1; have hz2 : w1.cell? ⟨w.heap.size, 2, none⟩ = some (.bool false) := (blk_cell BZ.out 2).trans rfl; have fz2 := blk_frozen BZ.out 2; have hz3 : w1.cell? ⟨w.heap.size, 3, none⟩ = some (.bool false) := (blk_cell BZ.out 3).trans rfl; have fz3 := blk_frozen BZ.out 3))
      have q0 := blk_set BZ.out 0 (.bool false)
      have q1 := blk_set q0 1 (.bool false)
      have q2 := blk_set q1 2 (.bool true)
      have q3 := blk_set q2 3 (.bool true)
      (try simp only [Exit.inBlock, Exit.then])
      refine bodyPost_ret (results_list (rs := [.cell 2 45, .tmp 3]) rfl (by simp) (.cell (w.heap.size) 45 #[.bool false, .bool false, .bool true, .bool true] (0, 0) _ rfl (q3.trans (by rfl)) Try.underlying45 rfl (by kernel_rfl) (.tmp .nil))) rfl ⟨rfl, ?_⟩
      exact (below_set (j := 3) (v := (.bool true)) (below_set (j := 2) (v := (.bool true)) (below_set (j := 1) (v := (.bool false)) (below_set (j := 0) (v := (.bool false)) HB.out (Nat.le_refl _)) (Nat.le_refl _)) (Nat.le_refl _)) (Nat.le_refl _))
  · have e1 : fa k = false := decide_eq_false (by omega)
    have e2 : fb k = false := decide_eq_false (by omega)
    have e3 : fc k = false := decide_eq_false (by omega)
    have e4 : fd k = false := decide_eq_false (by omega)
    have e5 : ge_ k = 1 := if_neg h
    rw [e1, e2, e3, e4, e5]
    clear e1 e2 e3 e4 e5
    have hq : (∃ p1 : decide (k < 0) = true, True) ∨ (decide (k < 0) = false ∧ decide (6 ≤ k) = true) := by
      by_cases g : k < 0
      · exact .inl ⟨decide_eq_true g, trivial⟩
      · exact .inr ⟨decide_eq_false g, decide_eq_true (by omega)⟩
    clear h
    rcases hq with ⟨p1, _⟩ | ⟨p1, p2⟩
    all_goals
      go_enter Try.func31, Try.ntmps31
      go_wp2
      (try simp only [Exit.inBlock, Exit.then])
      exact bodyPost_ret (results_list (rs := [.cell 2 45, .tmp 3]) rfl (by simp) (.cell (w.heap.size) 45 #[.bool false, .bool false, .bool false, .bool false] (0, 0) _ rfl (blk_new w _) Try.underlying45 rfl (by kernel_rfl) (.tmp .nil))) rfl ⟨rfl, below_alloc (Below.refl _ _) _⟩
end
section
open Go.RowKit Go.Proofs.YtjiogchafnpkhaaW.PrintWords Go.Proofs.YtjiogchafnpkhaaW.PrintLast Go.Proofs.YtjiogchafnpkhaaW.PrintMore
attribute [local go_sem] max2_int min2_int max_two min_two max_three min_three max_four min_four
attribute [local go_sem] Go.Proofs.YtjiogchafnpkhaaS.cell_set_map Go.Proofs.YtjiogchafnpkhaaS.setCell_drewN
set_option linter.unusedVariables false
set_option linter.unusedSimpArgs false
attribute [local go_sem] eq45 eq55 idx0 idx1 idx2 idx3 idx4 idx5
/-- The rank of an order, searched from k on, and the error. -/
def rk6 (_a _b _c _d : Bool) : Int × Int := (0, 14)
def rk5 (a b c d : Bool) : Int × Int := if e4 false false true true a b c d = true then (5, 0) else rk6 a b c d
def rk4 (a b c d : Bool) : Int × Int := if e4 false true false true a b c d = true then (4, 0) else rk5 a b c d
def rk3 (a b c d : Bool) : Int × Int := if e4 false true true false a b c d = true then (3, 0) else rk4 a b c d
def rk2 (a b c d : Bool) : Int × Int := if e4 true false false true a b c d = true then (2, 0) else rk3 a b c d
def rk1 (a b c d : Bool) : Int × Int := if e4 true false true false a b c d = true then (1, 0) else rk2 a b c d
def rk0 (a b c d : Bool) : Int × Int := if e4 true true false false a b c d = true then (0, 0) else rk1 a b c d
def rkFrom (z : Int) (a b c d : Bool) : Int × Int := if z = 0 then rk0 a b c d else if z = 1 then rk1 a b c d else if z = 2 then rk2 a b c d else if z = 3 then rk3 a b c d else if z = 4 then rk4 a b c d else if z = 5 then rk5 a b c d else rk6 a b c d
set_option maxHeartbeats 8000000 in
set_option maxRecDepth 100000 in
theorem order_Rank_calls (a b c d : Bool) (n er : Int) (w : World) (h : rk0 a b c d = (n, er)) : Calls Try.prog 30 #[.agg #[.bool a, .bool b, .bool c, .bool d]] w fun e w' => e = .returned (.tuple #[.int .i64 n, .int .i64 er]) ∧ Below w.heap.size w w' := by
  have hu67 := Try.underlying67
  have hu45 := Try.underlying45
  have H0 := Aside0.mk h
  clear h
  have BX := Aside0.mk (blk_new w (.cells #[.bool a, .bool b, .bool c, .bool d] 45 (0, 0)))
  have HB := Aside0.mk (below_alloc (Below.refl w.heap.size w) (.cells #[.bool a, .bool b, .bool c, .bool d] 45 (0, 0)))
  go_enter Try.func30, Try.ntmps30
  go_wp2_with (first | ((with_reducible refine gate_callee (f := 43) rfl ?_); refine goesL_ (some 6) rfl rfl Try.func43 (by kernel_rfl) rfl #[] rfl (by (try simp only [List.map_toArray, List.map_cons, List.map_nil]); first | done | rfl) ?_; (refine (four_calls _).mono ?_); rintro e w1 ⟨rfl, hb⟩; refine ⟨_, rfl, ?_⟩; have n1_ := Aside0.mk (below_step HB.out hb); have n2_ := Aside0.mk (blk_below BX.out hb); clear HB BX hb; have HB := n1_; have BX := n2_; clear n1_ n2_))
  go_loopw [7] (fun v7 wr => ∃ z : Int, (z = 0 ∨ z = 1 ∨ z = 2 ∨ z = 3 ∨ z = 4 ∨ z = 5 ∨ z = 6) ∧ v7 = .int .i64 z ∧ Aside0 (rkFrom z a b c d = (n, er)) ∧ Aside0 (wr.heap[w.heap.size]? = some (.cells #[.bool a, .bool b, .bool c, .bool d] 45 (0, 0))) ∧ Aside0 (Below w.heap.size w wr)) (fun v7 _ => 6 - (intOf v7).toNat)
  case atStart => exact ⟨0, by omega, rfl, H0, BX, HB⟩
  case round =>
    clear BX HB H0
    obtain ⟨z, hz, rfl, hm, BX, HB⟩ := hrel
    replace hm := hm.out
    rcases hz with rfl | rfl | rfl | rfl | rfl | rfl | rfl
    · rw [show rkFrom 0 a b c d = rk0 a b c d from rfl, rk0] at hm
      replace BX := Aside0.mk (blk_alloc BX.out (.cells #[.bool true, .bool true, .bool false, .bool false] 45 (0, 0)))
      replace HB := Aside0.mk (below_alloc HB.out (.cells #[.bool true, .bool true, .bool false, .bool false] 45 (0, 0)))
      have hx0 : (wr.alloc (.cells #[.bool true, .bool true, .bool false, .bool false] 45 (0, 0))).cell? ⟨w.heap.size, 0, none⟩ = some (.bool a) := (blk_cell BX.out 0).trans rfl; have hx1 : (wr.alloc (.cells #[.bool true, .bool true, .bool false, .bool false] 45 (0, 0))).cell? ⟨w.heap.size, 1, none⟩ = some (.bool b) := (blk_cell BX.out 1).trans rfl; have hx2 : (wr.alloc (.cells #[.bool true, .bool true, .bool false, .bool false] 45 (0, 0))).cell? ⟨w.heap.size, 2, none⟩ = some (.bool c) := (blk_cell BX.out 2).trans rfl; have hx3 : (wr.alloc (.cells #[.bool true, .bool true, .bool false, .bool false] 45 (0, 0))).cell? ⟨w.heap.size, 3, none⟩ = some (.bool d) := (blk_cell BX.out 3).trans rfl
      by_cases hc : e4 true true false false a b c d = true
      · rw [if_pos hc] at hm
        injection hm with e1 e2
        subst e1
        subst e2
        go_wp2
        (try simp only [Exit.inBlock, Exit.then])
        exact bodyPost_ret (results_list (rs := [.tmp 2, .tmp 3]) rfl (by simp) (.tmp (.tmp .nil))) rfl ⟨rfl, HB.out⟩
      · rw [if_neg hc] at hm
        replace hc := Bool.eq_false_iff.mpr hc
        replace hm := Aside0.mk hm
        go_wp2
        go_roundw
        case rel => exact ⟨1, by omega, rfl, hm, BX, HB⟩
        case measure => simp [intOf]
    · rw [show rkFrom 1 a b c d = rk1 a b c d from rfl, rk1] at hm
      replace BX := Aside0.mk (blk_alloc BX.out (.cells #[.bool true, .bool false, .bool true, .bool false] 45 (0, 0)))
      replace HB := Aside0.mk (below_alloc HB.out (.cells #[.bool true, .bool false, .bool true, .bool false] 45 (0, 0)))
      have hx0 : (wr.alloc (.cells #[.bool true, .bool false, .bool true, .bool false] 45 (0, 0))).cell? ⟨w.heap.size, 0, none⟩ = some (.bool a) := (blk_cell BX.out 0).trans rfl; have hx1 : (wr.alloc (.cells #[.bool true, .bool false, .bool true, .bool false] 45 (0, 0))).cell? ⟨w.heap.size, 1, none⟩ = some (.bool b) := (blk_cell BX.out 1).trans rfl; have hx2 : (wr.alloc (.cells #[.bool true, .bool false, .bool true, .bool false] 45 (0, 0))).cell? ⟨w.heap.size, 2, none⟩ = some (.bool c) := (blk_cell BX.out 2).trans rfl; have hx3 : (wr.alloc (.cells #[.bool true, .bool false, .bool true, .bool false] 45 (0, 0))).cell? ⟨w.heap.size, 3, none⟩ = some (.bool d) := (blk_cell BX.out 3).trans rfl
      by_cases hc : e4 true false true false a b c d = true
      · rw [if_pos hc] at hm
        injection hm with e1 e2
        subst e1
        subst e2
        go_wp2
        (try simp only [Exit.inBlock, Exit.then])
        exact bodyPost_ret (results_list (rs := [.tmp 2, .tmp 3]) rfl (by simp) (.tmp (.tmp .nil))) rfl ⟨rfl, HB.out⟩
      · rw [if_neg hc] at hm
        replace hc := Bool.eq_false_iff.mpr hc
        replace hm := Aside0.mk hm
        go_wp2
        go_roundw
        case rel => exact ⟨2, by omega, rfl, hm, BX, HB⟩
        case measure => simp [intOf]
    · rw [show rkFrom 2 a b c d = rk2 a b c d from rfl, rk2] at hm
      replace BX := Aside0.mk (blk_alloc BX.out (.cells #[.bool true, .bool false, .bool false, .bool true] 45 (0, 0)))
      replace HB := Aside0.mk (below_alloc HB.out (.cells #[.bool true, .bool false, .bool false, .bool true] 45 (0, 0)))
      have hx0 : (wr.alloc (.cells #[.bool true, .bool false, .bool false, .bool true] 45 (0, 0))).cell? ⟨w.heap.size, 0, none⟩ = some (.bool a) := (blk_cell BX.out 0).trans rfl; have hx1 : (wr.alloc (.cells #[.bool true, .bool false, .bool false, .bool true] 45 (0, 0))).cell? ⟨w.heap.size, 1, none⟩ = some (.bool b) := (blk_cell BX.out 1).trans rfl; have hx2 : (wr.alloc (.cells #[.bool true, .bool false, .bool false, .bool true] 45 (0, 0))).cell? ⟨w.heap.size, 2, none⟩ = some (.bool c) := (blk_cell BX.out 2).trans rfl; have hx3 : (wr.alloc (.cells #[.bool true, .bool false, .bool false, .bool true] 45 (0, 0))).cell? ⟨w.heap.size, 3, none⟩ = some (.bool d) := (blk_cell BX.out 3).trans rfl
      by_cases hc : e4 true false false true a b c d = true
      · rw [if_pos hc] at hm
        injection hm with e1 e2
        subst e1
        subst e2
        go_wp2
        (try simp only [Exit.inBlock, Exit.then])
        exact bodyPost_ret (results_list (rs := [.tmp 2, .tmp 3]) rfl (by simp) (.tmp (.tmp .nil))) rfl ⟨rfl, HB.out⟩
      · rw [if_neg hc] at hm
        replace hc := Bool.eq_false_iff.mpr hc
        replace hm := Aside0.mk hm
        go_wp2
        go_roundw
        case rel => exact ⟨3, by omega, rfl, hm, BX, HB⟩
        case measure => simp [intOf]
    · rw [show rkFrom 3 a b c d = rk3 a b c d from rfl, rk3] at hm
      replace BX := Aside0.mk (blk_alloc BX.out (.cells #[.bool false, .bool true, .bool true, .bool false] 45 (0, 0)))
      replace HB := Aside0.mk (below_alloc HB.out (.cells #[.bool false, .bool true, .bool true, .bool false] 45 (0, 0)))
      have hx0 : (wr.alloc (.cells #[.bool false, .bool true, .bool true, .bool false] 45 (0, 0))).cell? ⟨w.heap.size, 0, none⟩ = some (.bool a) := (blk_cell BX.out 0).trans rfl; have hx1 : (wr.alloc (.cells #[.bool false, .bool true, .bool true, .bool false] 45 (0, 0))).cell? ⟨w.heap.size, 1, none⟩ = some (.bool b) := (blk_cell BX.out 1).trans rfl; have hx2 : (wr.alloc (.cells #[.bool false, .bool true, .bool true, .bool false] 45 (0, 0))).cell? ⟨w.heap.size, 2, none⟩ = some (.bool c) := (blk_cell BX.out 2).trans rfl; have hx3 : (wr.alloc (.cells #[.bool false, .bool true, .bool true, .bool false] 45 (0, 0))).cell? ⟨w.heap.size, 3, none⟩ = some (.bool d) := (blk_cell BX.out 3).trans rfl
      by_cases hc : e4 false true true false a b c d = true
      · rw [if_pos hc] at hm
        injection hm with e1 e2
        subst e1
        subst e2
        go_wp2
        (try simp only [Exit.inBlock, Exit.then])
        exact bodyPost_ret (results_list (rs := [.tmp 2, .tmp 3]) rfl (by simp) (.tmp (.tmp .nil))) rfl ⟨rfl, HB.out⟩
      · rw [if_neg hc] at hm
        replace hc := Bool.eq_false_iff.mpr hc
        replace hm := Aside0.mk hm
        go_wp2
        go_roundw
        case rel => exact ⟨4, by omega, rfl, hm, BX, HB⟩
        case measure => simp [intOf]
    · rw [show rkFrom 4 a b c d = rk4 a b c d from rfl, rk4] at hm
      replace BX := Aside0.mk (blk_alloc BX.out (.cells #[.bool false, .bool true, .bool false, .bool true] 45 (0, 0)))
      replace HB := Aside0.mk (below_alloc HB.out (.cells #[.bool false, .bool true, .bool false, .bool true] 45 (0, 0)))
      have hx0 : (wr.alloc (.cells #[.bool false, .bool true, .bool false, .bool true] 45 (0, 0))).cell? ⟨w.heap.size, 0, none⟩ = some (.bool a) := (blk_cell BX.out 0).trans rfl; have hx1 : (wr.alloc (.cells #[.bool false, .bool true, .bool false, .bool true] 45 (0, 0))).cell? ⟨w.heap.size, 1, none⟩ = some (.bool b) := (blk_cell BX.out 1).trans rfl; have hx2 : (wr.alloc (.cells #[.bool false, .bool true, .bool false, .bool true] 45 (0, 0))).cell? ⟨w.heap.size, 2, none⟩ = some (.bool c) := (blk_cell BX.out 2).trans rfl; have hx3 : (wr.alloc (.cells #[.bool false, .bool true, .bool false, .bool true] 45 (0, 0))).cell? ⟨w.heap.size, 3, none⟩ = some (.bool d) := (blk_cell BX.out 3).trans rfl
      by_cases hc : e4 false true false true a b c d = true
      · rw [if_pos hc] at hm
        injection hm with e1 e2
        subst e1
        subst e2
        go_wp2
        (try simp only [Exit.inBlock, Exit.then])
        exact bodyPost_ret (results_list (rs := [.tmp 2, .tmp 3]) rfl (by simp) (.tmp (.tmp .nil))) rfl ⟨rfl, HB.out⟩
      · rw [if_neg hc] at hm
        replace hc := Bool.eq_false_iff.mpr hc
        replace hm := Aside0.mk hm
        go_wp2
        go_roundw
        case rel => exact ⟨5, by omega, rfl, hm, BX, HB⟩
        case measure => simp [intOf]
    · rw [show rkFrom 5 a b c d = rk5 a b c d from rfl, rk5] at hm
      replace BX := Aside0.mk (blk_alloc BX.out (.cells #[.bool false, .bool false, .bool true, .bool true] 45 (0, 0)))
      replace HB := Aside0.mk (below_alloc HB.out (.cells #[.bool false, .bool false, .bool true, .bool true] 45 (0, 0)))
      have hx0 : (wr.alloc (.cells #[.bool false, .bool false, .bool true, .bool true] 45 (0, 0))).cell? ⟨w.heap.size, 0, none⟩ = some (.bool a) := (blk_cell BX.out 0).trans rfl; have hx1 : (wr.alloc (.cells #[.bool false, .bool false, .bool true, .bool true] 45 (0, 0))).cell? ⟨w.heap.size, 1, none⟩ = some (.bool b) := (blk_cell BX.out 1).trans rfl; have hx2 : (wr.alloc (.cells #[.bool false, .bool false, .bool true, .bool true] 45 (0, 0))).cell? ⟨w.heap.size, 2, none⟩ = some (.bool c) := (blk_cell BX.out 2).trans rfl; have hx3 : (wr.alloc (.cells #[.bool false, .bool false, .bool true, .bool true] 45 (0, 0))).cell? ⟨w.heap.size, 3, none⟩ = some (.bool d) := (blk_cell BX.out 3).trans rfl
      by_cases hc : e4 false false true true a b c d = true
      · rw [if_pos hc] at hm
        injection hm with e1 e2
        subst e1
        subst e2
        go_wp2
        (try simp only [Exit.inBlock, Exit.then])
        exact bodyPost_ret (results_list (rs := [.tmp 2, .tmp 3]) rfl (by simp) (.tmp (.tmp .nil))) rfl ⟨rfl, HB.out⟩
      · rw [if_neg hc] at hm
        replace hc := Bool.eq_false_iff.mpr hc
        replace hm := Aside0.mk hm
        go_wp2
        go_roundw
        case rel => exact ⟨6, by omega, rfl, hm, BX, HB⟩
        case measure => simp [intOf]
    · rw [show rkFrom 6 a b c d = (0, 14) from rfl] at hm
      injection hm with e1 e2
      subst e1
      subst e2
      go_wp2
      (try simp only [Exit.inBlock, Exit.then])
      exact bodyPost_ret (results_list (rs := [.tmp 2, .tmp 3]) rfl (by simp) (.tmp (.tmp .nil))) rfl ⟨rfl, HB.out⟩
end
section
open Go.RowKit Go.Proofs.YtjiogchafnpkhaaW.PrintWords Go.Proofs.YtjiogchafnpkhaaW.PrintLast Go.Proofs.YtjiogchafnpkhaaW.PrintMore
attribute [local go_sem] max2_int min2_int max_two min_two max_three min_three max_four min_four
attribute [local go_sem] Go.Proofs.YtjiogchafnpkhaaS.cell_set_map Go.Proofs.YtjiogchafnpkhaaS.setCell_drewN
set_option linter.unusedVariables false
set_option linter.unusedSimpArgs false
attribute [local go_sem] eq45 eq55 idx0 idx1 idx2 idx3 idx4 idx5
theorem idx_var (x : Int) (h0 : 0 ≤ x) (h1 : x < 6) : ∀ w : World, (Instr.index 67 (.agg #[.bool true, .bool true, .bool false, .bool false, .bool true, .bool false, .bool true, .bool false, .bool true, .bool false, .bool false, .bool true, .bool false, .bool true, .bool true, .bool false, .bool false, .bool true, .bool false, .bool true, .bool false, .bool false, .bool true, .bool true]) (.int .i64 x)).run Try.prog w = .ok (.agg #[.bool (fa x), .bool (fb x), .bool (fc x), .bool (fd x)]) w := by
  intro w
  have h6 : x = 0 ∨ x = 1 ∨ x = 2 ∨ x = 3 ∨ x = 4 ∨ x = 5 := by omega
  rcases h6 with rfl | rfl | rfl | rfl | rfl | rfl
  · exact idx0 w
  · exact idx1 w
  · exact idx2 w
  · exact idx3 w
  · exact idx4 w
  · exact idx5 w
set_option maxHeartbeats 4000000 in
set_option maxRecDepth 100000 in
theorem perm_out (k st ic at_ : Int) (A : Option Addr) (c : Nat) (l : List Int) (n : Int) (w : World) (h : n < 1 ∨ 64 < n) : Calls Try.prog 33 #[.agg #[.int .i64 k, .int .u64 st, .int .u64 ic, .slice A l.length c, .int .i64 at_], .int .i64 n] w fun e w' => e = .returned (.tuple #[.slice none 0 0, .agg #[.int .i64 k, .int .u64 st, .int .u64 ic, .slice A l.length c, .int .i64 at_]]) ∧ Below w.heap.size w w' := by
  have hu25 := Try.underlying25
  have B1 := Aside0.mk (blk_alloc (blk_new w (.cells #[.int .i64 k, .int .u64 st, .int .u64 ic, .slice A l.length c, .int .i64 at_] 25 (0, 0))) (.cells #[.int .i64 0, .int .u64 0, .int .u64 0, .slice none 0 0, .int .i64 0] 25 (0, 0)))
  have B3 := Aside0.mk (show (((w.alloc (.cells #[.int .i64 k, .int .u64 st, .int .u64 ic, .slice A l.length c, .int .i64 at_] 25 (0, 0))).alloc (.cells #[.int .i64 0, .int .u64 0, .int .u64 0, .slice none 0 0, .int .i64 0] 25 (0, 0))).heap[w.heap.size + 1]? = some (.cells #[.int .i64 0, .int .u64 0, .int .u64 0, .slice none 0 0, .int .i64 0] 25 (0, 0))) by have := blk_new (w.alloc (.cells #[.int .i64 k, .int .u64 st, .int .u64 ic, .slice A l.length c, .int .i64 at_] 25 (0, 0))) (.cells #[.int .i64 0, .int .u64 0, .int .u64 0, .slice none 0 0, .int .i64 0] 25 (0, 0)); rwa [Go.Proofs.YtjiogchafnpkhaaS.size_alloc] at this)
  have HB := Aside0.mk (below_alloc (below_alloc (Below.refl w.heap.size w) (.cells #[.int .i64 k, .int .u64 st, .int .u64 ic, .slice A l.length c, .int .i64 at_] 25 (0, 0))) (.cells #[.int .i64 0, .int .u64 0, .int .u64 0, .slice none 0 0, .int .i64 0] 25 (0, 0)))
  have GE3 : Aside0 (w.heap.size ≤ w.heap.size + 1) := ⟨by omega⟩
  have hq : (∃ p1 : decide (n < 1) = true, True) ∨ (decide (n < 1) = false ∧ decide (64 < n) = true) := by
    by_cases g : n < 1
    · exact .inl ⟨decide_eq_true g, trivial⟩
    · exact .inr ⟨decide_eq_false g, decide_eq_true (by omega)⟩
  clear h
  rcases hq with ⟨p1, _⟩ | ⟨p1, p2⟩
  all_goals
    go_enter Try.func33, Try.ntmps33
    go_wp2_with fail
    go_step3
    go_wp2_with fail
    generalize ((w.alloc (.cells #[.int .i64 k, .int .u64 st, .int .u64 ic, .slice A l.length c, .int .i64 at_] 25 (0, 0))).alloc (.cells #[.int .i64 0, .int .u64 0, .int .u64 0, .slice none 0 0, .int .i64 0] 25 (0, 0))) = W0 at *
    refine start_ (n := 3) (S := fun w' => w'.cell? ⟨w.heap.size, 0, none⟩ = some (.int .i64 k) ∧ w'.cell? ⟨w.heap.size, 1, none⟩ = some (.int .u64 st) ∧ w'.cell? ⟨w.heap.size, 2, none⟩ = some (.int .u64 ic) ∧ w'.cell? ⟨w.heap.size, 3, none⟩ = some (.slice A l.length c) ∧ w'.cell? ⟨w.heap.size, 4, none⟩ = some (.int .i64 at_)) (ds := [2]) #[false, false, false] (by kernel_rfl) rfl rfl ⟨(blk_cell B1.out 0).trans rfl, (blk_cell B1.out 1).trans rfl, (blk_cell B1.out 2).trans rfl, (blk_cell B1.out 3).trans rfl, (blk_cell B1.out 4).trans rfl⟩ (fun hHeld => ?_)
    replace B1 := Aside0.mk (blk_drew B1.out)
    replace B3 := Aside0.mk (blk_drew B3.out)
    replace HB := Aside0.mk (below_drew1 HB.out)
    generalize W0.drew = W6 at B1 B3 HB hHeld ⊢
    refine take_ (i := 0) (N := (some 16)) (v := ?_) (a' := ?_) #[true, false, false] rfl rfl (by kernel_rfl) (fun _ _ _ h => h) (Or.inl ⟨by rfl, ?_⟩) hHeld ?_ ?_
    rotate_left
    · rintro w' ⟨s0, s1, s2, s3, s4⟩
      go_simp
      with_reducible rfl
    rotate_left
    · simp only [Act.put, List.setIfInBounds_toArray, List.set_cons_zero, List.set_cons_succ, i64_w, i32_w]
      rfl
    refine pure_ (i := 1) (N := (some 4)) (v := ?_) (a' := ?_) #[true, true, false] rfl rfl (by kernel_rfl) (fun _ _ _ h => h) (Or.inl ⟨by rfl, ?_⟩) ?_ ?_
    rotate_left
    · intro w'
      go_simp
      with_reducible rfl
    rotate_left
    · simp only [Act.put, List.setIfInBounds_toArray, List.set_cons_zero, List.set_cons_succ, i64_w, i32_w]
      rfl
    refine last_ (i := 2) (N := none) #[true, true, true] rfl rfl (by kernel_rfl) (by decide) (fun K hK => ?_)
    have hs0 : W6.cell? ⟨w.heap.size + 1, 0, none⟩ = some (.int .i64 0) := (blk_cell B3.out 0).trans rfl
    have hf0 := blk_frozen B3.out 0
    have hs1 : W6.cell? ⟨w.heap.size + 1, 1, none⟩ = some (.int .u64 0) := (blk_cell B3.out 1).trans rfl
    have hf1 := blk_frozen B3.out 1
    have hs2 : W6.cell? ⟨w.heap.size + 1, 2, none⟩ = some (.int .u64 0) := (blk_cell B3.out 2).trans rfl
    have hf2 := blk_frozen B3.out 2
    have hs3 : W6.cell? ⟨w.heap.size + 1, 3, none⟩ = some (.slice none 0 0) := (blk_cell B3.out 3).trans rfl
    have hf3 := blk_frozen B3.out 3
    have hs4 : W6.cell? ⟨w.heap.size + 1, 4, none⟩ = some (.int .i64 0) := (blk_cell B3.out 4).trans rfl
    have hf4 := blk_frozen B3.out 4
    refine skip_ (w1 := ?_) (by rfl) rfl ?_ ?_
    rotate_left
    · go_simp
      rfl
    refine hK.out _ _ ?_
    clear hK K
    refine done_ (by kernel_rfl) ?_
    try go_wp2
    have q0 := blk_set B3.out 0 (.int .i64 k)
    have q1 := blk_set q0 1 (.int .u64 st)
    have q2 := blk_set q1 2 (.int .u64 ic)
    have q3 := blk_set q2 3 (.slice A l.length c)
    have q4 := blk_set q3 4 (.int .i64 at_)
    (try simp only [Exit.inBlock, Exit.then])
    (try rw [Exit.noGoto_ret])
    refine bodyPost_ret (results_list (rs := [.tmp 4, .cell 5 25]) rfl (by simp) (.tmp (.cell (w.heap.size + 1) 25 #[.int .i64 k, .int .u64 st, .int .u64 ic, .slice A l.length c, .int .i64 at_] (0, 0) _ rfl (q4.trans (by rfl)) Try.underlying25 rfl (by kernel_rfl) .nil))) rfl ⟨rfl, ?_⟩
    exact below_set (j := 4) (v := (.int .i64 at_)) (below_set (j := 3) (v := (.slice A l.length c)) (below_set (j := 2) (v := (.int .u64 ic)) (below_set (j := 1) (v := (.int .u64 st)) (below_set (j := 0) (v := (.int .i64 k)) HB.out GE3.out) GE3.out) GE3.out) GE3.out) GE3.out
set_option maxHeartbeats 8000000 in
set_option maxRecDepth 100000 in
theorem order_Trials_calls (k st ic at_ : Int) (A : Option Addr) (c : Nat) (l : List Int) (w : World) (hr : Kd.C (Kd.int .u64) w A l.length l) (x6 st6 at6 : Int) (h1 : belowX k st l at_ 6 = x6) (h2 : belowSt k st ic 6 = st6) (h3 : belowAt k l at_ 6 = at6) : Calls Try.prog 36 #[.agg #[.int .i64 k, .int .u64 st, .int .u64 ic, .slice A l.length c, .int .i64 at_]] w fun e w' => e = .returned (.tuple #[.agg #[.bool (fa x6), .bool (fb x6), .bool (fc x6), .bool (fd x6)], .agg #[.int .i64 k, .int .u64 st6, .int .u64 ic, .slice A l.length c, .int .i64 at6]]) ∧ Below w.heap.size w w' := by
  have hu25 := Try.underlying25
  have hu45 := Try.underlying45
  have hu67 := Try.underlying67
  have HR := Aside0.mk hr
  clear hr
  have hrg := d_below k st l at_ 6 (by omega)
  rw [h1] at hrg
  have hix := idx_var x6 hrg.1 hrg.2
  clear hrg
  have HX := Aside0.mk h1
  have HS := Aside0.mk h2
  have HA := Aside0.mk h3
  clear h1 h2 h3
  have BA : Aside0 ((((w.alloc (.cells #[.int .i64 k, .int .u64 st, .int .u64 ic, .slice A l.length c, .int .i64 at_] 25 (0, 0))).alloc (.cells #[.bool false, .bool false, .bool false, .bool false] 45 (0, 0))).alloc (.cells #[.int .i64 0, .int .u64 0, .int .u64 0, .slice none 0 0, .int .i64 0] 25 (0, 0))).heap[w.heap.size + 1]? = some (.cells #[.bool false, .bool false, .bool false, .bool false] 45 (0, 0))) := ⟨blk_alloc (by have h_ := blk_new (w.alloc (.cells #[.int .i64 k, .int .u64 st, .int .u64 ic, .slice A l.length c, .int .i64 at_] 25 (0, 0))) (.cells #[.bool false, .bool false, .bool false, .bool false] 45 (0, 0)); rwa [Go.Proofs.YtjiogchafnpkhaaS.size_alloc] at h_) (.cells #[.int .i64 0, .int .u64 0, .int .u64 0, .slice none 0 0, .int .i64 0] 25 (0, 0))⟩
  have BS : Aside0 ((((w.alloc (.cells #[.int .i64 k, .int .u64 st, .int .u64 ic, .slice A l.length c, .int .i64 at_] 25 (0, 0))).alloc (.cells #[.bool false, .bool false, .bool false, .bool false] 45 (0, 0))).alloc (.cells #[.int .i64 0, .int .u64 0, .int .u64 0, .slice none 0 0, .int .i64 0] 25 (0, 0))).heap[w.heap.size + 1 + 1]? = some (.cells #[.int .i64 0, .int .u64 0, .int .u64 0, .slice none 0 0, .int .i64 0] 25 (0, 0))) := ⟨by have h_ := blk_new ((w.alloc (.cells #[.int .i64 k, .int .u64 st, .int .u64 ic, .slice A l.length c, .int .i64 at_] 25 (0, 0))).alloc (.cells #[.bool false, .bool false, .bool false, .bool false] 45 (0, 0))) (.cells #[.int .i64 0, .int .u64 0, .int .u64 0, .slice none 0 0, .int .i64 0] 25 (0, 0)); rwa [Go.Proofs.YtjiogchafnpkhaaS.size_alloc, Go.Proofs.YtjiogchafnpkhaaS.size_alloc] at h_⟩
  have HB := Aside0.mk (below_alloc (below_alloc (below_alloc (Below.refl w.heap.size w) (.cells #[.int .i64 k, .int .u64 st, .int .u64 ic, .slice A l.length c, .int .i64 at_] 25 (0, 0))) (.cells #[.bool false, .bool false, .bool false, .bool false] 45 (0, 0))) (.cells #[.int .i64 0, .int .u64 0, .int .u64 0, .slice none 0 0, .int .i64 0] 25 (0, 0)))
  have GA : Aside0 (w.heap.size ≤ w.heap.size + 1) := ⟨by omega⟩
  have GB : Aside0 (w.heap.size ≤ w.heap.size + 1 + 1) := ⟨by omega⟩
  have NAB : Aside0 (w.heap.size + 1 + 1 ≠ w.heap.size + 1) := ⟨by omega⟩
  have NBA : Aside0 (w.heap.size + 1 ≠ w.heap.size + 1 + 1) := ⟨by omega⟩
  go_enter Try.func36, Try.ntmps36
  go_wp2_with (first | ((with_reducible refine gate_callee (f := 23) rfl ?_); refine goesL_ (some 8) rfl rfl Try.func23 (by kernel_rfl) rfl #[.agg #[.int .i64 k, .int .u64 st, .int .u64 ic, .slice A l.length c, .int .i64 at_], .int .i64 6] rfl (by (try simp only [List.map_toArray, List.map_cons, List.map_nil]); first | done | rfl) ?_; (refine (draw_Below_calls k st ic at_ A c l 6 _ (Kd.C_below HR.out HB.out)).mono ?_); rintro e w1 ⟨rfl, hb⟩; rw [HX.out, HS.out, HA.out]; refine ⟨_, rfl, ?_⟩; have n1_ := Aside0.mk (below_alloc (below_step HB.out hb) (.cells #[.int .i64 k, .int .u64 st6, .int .u64 ic, .slice A l.length c, .int .i64 at6] 25 (0, 0))); have n2_ := Aside0.mk (blk_alloc (blk_below BA.out hb) (.cells #[.int .i64 k, .int .u64 st6, .int .u64 ic, .slice A l.length c, .int .i64 at6] 25 (0, 0))); have n3_ := Aside0.mk (blk_alloc (blk_below BS.out hb) (.cells #[.int .i64 k, .int .u64 st6, .int .u64 ic, .slice A l.length c, .int .i64 at6] 25 (0, 0))); have B5 := Aside0.mk (blk_new w1 (.cells #[.int .i64 k, .int .u64 st6, .int .u64 ic, .slice A l.length c, .int .i64 at6] 25 (0, 0))); have NG5 : Aside0 (w1.heap.size ≠ w.heap.size + 1) := ⟨fun e_ => by have h_ := blk_lt (blk_below BA.out hb); omega⟩; clear HB BA BS hb; have HB := n1_; have BA := n2_; have BS := n3_; clear n1_ n2_ n3_))
  generalize w1.heap.size = g5 at *
  generalize w1.alloc (.cells #[.int .i64 k, .int .u64 st6, .int .u64 ic, .slice A l.length c, .int .i64 at6] 25 (0, 0)) = W5 at *
  refine start_ (n := 6) (S := fun w' => w'.cell? ⟨g5, 0, none⟩ = some (.int .i64 k) ∧ w'.cell? ⟨g5, 1, none⟩ = some (.int .u64 st6) ∧ w'.cell? ⟨g5, 2, none⟩ = some (.int .u64 ic) ∧ w'.cell? ⟨g5, 3, none⟩ = some (.slice A l.length c) ∧ w'.cell? ⟨g5, 4, none⟩ = some (.int .i64 at6)) (ds := [5]) #[false, false, false, false, false, false] (by kernel_rfl) rfl rfl ⟨(blk_cell B5.out 0).trans rfl, (blk_cell B5.out 1).trans rfl, (blk_cell B5.out 2).trans rfl, (blk_cell B5.out 3).trans rfl, (blk_cell B5.out 4).trans rfl⟩ (fun hHeld => ?_)
  replace B5 := Aside0.mk (blk_drew B5.out)
  replace BA := Aside0.mk (blk_drew BA.out)
  replace BS := Aside0.mk (blk_drew BS.out)
  replace HB := Aside0.mk (below_drew1 HB.out)
  generalize W5.drew = W6 at B5 BA BS HB hHeld ⊢
  refine pure_ (i := 1) (N := (some 12)) (v := ?_) (a' := ?_) #[false, true, false, false, false, false] rfl rfl (by kernel_rfl) (fun _ _ _ h => h) (Or.inl ⟨by rfl, ?_⟩) ?_ ?_
  rotate_left
  · intro w'
    go_simp
    with_reducible rfl
  rotate_left
  · simp only [Act.put, List.setIfInBounds_toArray, List.set_cons_zero, List.set_cons_succ, i64_w, i32_w]
    rfl
  refine take_ (i := 3) (N := (some 14)) (v := ?_) (a' := ?_) #[false, true, false, true, false, false] rfl rfl (by kernel_rfl) (fun _ _ _ h => h) (Or.inl ⟨by rfl, ?_⟩) hHeld ?_ ?_
  rotate_left
  · rintro w' ⟨s0, s1, s2, s3, s4⟩
    go_simp
    with_reducible rfl
  rotate_left
  · simp only [Act.put, List.setIfInBounds_toArray, List.set_cons_zero, List.set_cons_succ, i64_w, i32_w]
    rfl
  refine one_ (i := 0) (N := (some 11)) #[true, true, false, true, false, false] rfl rfl (by kernel_rfl) (by decide) (fun K hK => ?_)
  refine goes_ Try.func43 (by kernel_rfl) rfl #[] (by rfl) rfl rfl (by (try simp only [List.map_toArray, List.map_cons, List.map_nil]); first | done | rfl) ?_
  refine (four_calls _).mono ?_
  rintro e w7 ⟨rfl, hb⟩
  refine ⟨_, rfl, ?_⟩
  have n1_ := Aside0.mk (below_step HB.out hb)
  have n2_ := Aside0.mk (blk_below BA.out hb)
  have n3_ := Aside0.mk (blk_below BS.out hb)
  have n5_ := Aside0.mk (blk_below B5.out hb)
  clear HB BA BS B5 hb
  have HB := n1_
  have BA := n2_
  have BS := n3_
  have B5 := n5_
  clear n1_ n2_ n3_ n5_
  refine hK.out _ _ ⟨(blk_cell B5.out 0).trans rfl, (blk_cell B5.out 1).trans rfl, (blk_cell B5.out 2).trans rfl, (blk_cell B5.out 3).trans rfl, (blk_cell B5.out 4).trans rfl⟩ (fun hHeld => ?_)
  clear hK K
  refine norm_ (a' := ?_) ?_ ?_
  rotate_left
  · show Act.put _ (some 11) _ = _
    simp only [Act.put, List.setIfInBounds_toArray, List.set_cons_zero, List.set_cons_succ, i64_w, i32_w]
    rfl
  refine pure_ (i := 2) (N := (some 13)) (v := ?_) (a' := ?_) #[true, true, true, true, false, false] rfl rfl (by kernel_rfl) (fun _ _ _ h => h) (Or.inl ⟨by rfl, ?_⟩) ?_ ?_
  rotate_left
  · intro w'
    go_simp
    with_reducible rfl
  rotate_left
  · simp only [Act.put, List.setIfInBounds_toArray, List.set_cons_zero, List.set_cons_succ, i64_w, i32_w]
    rfl
  refine one_ (i := 4) (N := none) #[true, true, true, true, true, false] rfl rfl (by kernel_rfl) (by decide) (fun K hK => ?_)
  have hs0 : w7.cell? ⟨w.heap.size + 1, 0, none⟩ = some (.bool false) := (blk_cell BA.out 0).trans rfl
  have hf0 := blk_frozen BA.out 0
  have hs1 : w7.cell? ⟨w.heap.size + 1, 1, none⟩ = some (.bool false) := (blk_cell BA.out 1).trans rfl
  have hf1 := blk_frozen BA.out 1
  have hs2 : w7.cell? ⟨w.heap.size + 1, 2, none⟩ = some (.bool false) := (blk_cell BA.out 2).trans rfl
  have hf2 := blk_frozen BA.out 2
  have hs3 : w7.cell? ⟨w.heap.size + 1, 3, none⟩ = some (.bool false) := (blk_cell BA.out 3).trans rfl
  have hf3 := blk_frozen BA.out 3
  have n2_ : Aside0 (((((w7.setCell ⟨w.heap.size + 1, 0, none⟩ (.bool (fa x6))).setCell ⟨w.heap.size + 1, 1, none⟩ (.bool (fb x6))).setCell ⟨w.heap.size + 1, 2, none⟩ (.bool (fc x6))).setCell ⟨w.heap.size + 1, 3, none⟩ (.bool (fd x6))).heap[w.heap.size + 1]? = some (.cells #[.bool (fa x6), .bool (fb x6), .bool (fc x6), .bool (fd x6)] 45 (0, 0))) := ⟨((blk_set (blk_set (blk_set (blk_set BA.out 0 (.bool (fa x6))) 1 (.bool (fb x6))) 2 (.bool (fc x6))) 3 (.bool (fd x6)))).trans (by rfl)⟩
  have n3_ : Aside0 (((((w7.setCell ⟨w.heap.size + 1, 0, none⟩ (.bool (fa x6))).setCell ⟨w.heap.size + 1, 1, none⟩ (.bool (fb x6))).setCell ⟨w.heap.size + 1, 2, none⟩ (.bool (fc x6))).setCell ⟨w.heap.size + 1, 3, none⟩ (.bool (fd x6))).heap[w.heap.size + 1 + 1]? = some (.cells #[.int .i64 0, .int .u64 0, .int .u64 0, .slice none 0 0, .int .i64 0] 25 (0, 0))) := ⟨(blk_far (blk_far (blk_far (blk_far BS.out (p := ⟨w.heap.size + 1, 0, none⟩) NAB.out (.bool (fa x6))) (p := ⟨w.heap.size + 1, 1, none⟩) NAB.out (.bool (fb x6))) (p := ⟨w.heap.size + 1, 2, none⟩) NAB.out (.bool (fc x6))) (p := ⟨w.heap.size + 1, 3, none⟩) NAB.out (.bool (fd x6)))⟩
  have n1_ : Aside0 (Below w.heap.size w ((((w7.setCell ⟨w.heap.size + 1, 0, none⟩ (.bool (fa x6))).setCell ⟨w.heap.size + 1, 1, none⟩ (.bool (fb x6))).setCell ⟨w.heap.size + 1, 2, none⟩ (.bool (fc x6))).setCell ⟨w.heap.size + 1, 3, none⟩ (.bool (fd x6)))) := ⟨(below_set (j := 3) (v := (.bool (fd x6))) (below_set (j := 2) (v := (.bool (fc x6))) (below_set (j := 1) (v := (.bool (fb x6))) (below_set (j := 0) (v := (.bool (fa x6))) HB.out GA.out) GA.out) GA.out) GA.out)⟩
  have n5_ : Aside0 (((((w7.setCell ⟨w.heap.size + 1, 0, none⟩ (.bool (fa x6))).setCell ⟨w.heap.size + 1, 1, none⟩ (.bool (fb x6))).setCell ⟨w.heap.size + 1, 2, none⟩ (.bool (fc x6))).setCell ⟨w.heap.size + 1, 3, none⟩ (.bool (fd x6))).heap[g5]? = some (.cells #[.int .i64 k, .int .u64 st6, .int .u64 ic, .slice A l.length c, .int .i64 at6] 25 (0, 0))) := ⟨(blk_far (blk_far (blk_far (blk_far B5.out (p := ⟨w.heap.size + 1, 0, none⟩) NG5.out (.bool (fa x6))) (p := ⟨w.heap.size + 1, 1, none⟩) NG5.out (.bool (fb x6))) (p := ⟨w.heap.size + 1, 2, none⟩) NG5.out (.bool (fc x6))) (p := ⟨w.heap.size + 1, 3, none⟩) NG5.out (.bool (fd x6)))⟩
  refine skip_ (w1 := ?_) (by rfl) rfl ?_ ?_
  rotate_left
  · go_simp
    rfl
  refine hK.out _ _ ⟨(blk_cell n5_.out 0).trans rfl, (blk_cell n5_.out 1).trans rfl, (blk_cell n5_.out 2).trans rfl, (blk_cell n5_.out 3).trans rfl, (blk_cell n5_.out 4).trans rfl⟩ (fun hHeld => ?_)
  clear hK K
  clear hs0 hf0 hs1 hf1 hs2 hf2 hs3 hf3
  clear HB BA BS B5
  have HB := n1_
  have BA := n2_
  have BS := n3_
  clear n1_ n2_ n3_ n5_
  generalize ((((w7.setCell ⟨w.heap.size + 1, 0, none⟩ (.bool (fa x6))).setCell ⟨w.heap.size + 1, 1, none⟩ (.bool (fb x6))).setCell ⟨w.heap.size + 1, 2, none⟩ (.bool (fc x6))).setCell ⟨w.heap.size + 1, 3, none⟩ (.bool (fd x6))) = W8 at *
  refine last_ (i := 5) (N := none) #[true, true, true, true, true, true] rfl rfl (by kernel_rfl) (by decide) (fun K hK => ?_)
  have hs0 : W8.cell? ⟨w.heap.size + 1 + 1, 0, none⟩ = some (.int .i64 0) := (blk_cell BS.out 0).trans rfl
  have hf0 := blk_frozen BS.out 0
  have hs1 : W8.cell? ⟨w.heap.size + 1 + 1, 1, none⟩ = some (.int .u64 0) := (blk_cell BS.out 1).trans rfl
  have hf1 := blk_frozen BS.out 1
  have hs2 : W8.cell? ⟨w.heap.size + 1 + 1, 2, none⟩ = some (.int .u64 0) := (blk_cell BS.out 2).trans rfl
  have hf2 := blk_frozen BS.out 2
  have hs3 : W8.cell? ⟨w.heap.size + 1 + 1, 3, none⟩ = some (.slice none 0 0) := (blk_cell BS.out 3).trans rfl
  have hf3 := blk_frozen BS.out 3
  have hs4 : W8.cell? ⟨w.heap.size + 1 + 1, 4, none⟩ = some (.int .i64 0) := (blk_cell BS.out 4).trans rfl
  have hf4 := blk_frozen BS.out 4
  refine skip_ (w1 := ?_) (by rfl) rfl ?_ ?_
  rotate_left
  · go_simp
    rfl
  refine hK.out _ _ ?_
  clear hK K
  refine done_ (by kernel_rfl) ?_
  try go_wp2
  have q0 := blk_set BS.out 0 (.int .i64 k)
  have q1 := blk_set q0 1 (.int .u64 st6)
  have q2 := blk_set q1 2 (.int .u64 ic)
  have q3 := blk_set q2 3 (.slice A l.length c)
  have q4 := blk_set q3 4 (.int .i64 at6)
  have qa := (blk_far (blk_far (blk_far (blk_far (blk_far BA.out (p := ⟨w.heap.size + 1 + 1, 0, none⟩) NBA.out (.int .i64 k)) (p := ⟨w.heap.size + 1 + 1, 1, none⟩) NBA.out (.int .u64 st6)) (p := ⟨w.heap.size + 1 + 1, 2, none⟩) NBA.out (.int .u64 ic)) (p := ⟨w.heap.size + 1 + 1, 3, none⟩) NBA.out (.slice A l.length c)) (p := ⟨w.heap.size + 1 + 1, 4, none⟩) NBA.out (.int .i64 at6))
  (try simp only [Exit.inBlock, Exit.then])
  refine bodyPost_ret (results_list (rs := [.cell 2 45, .cell 3 25]) rfl (by simp) (.cell (w.heap.size + 1) 45 #[.bool (fa x6), .bool (fb x6), .bool (fc x6), .bool (fd x6)] (0, 0) _ rfl qa Try.underlying45 rfl (by kernel_rfl) (.cell (w.heap.size + 1 + 1) 25 #[.int .i64 k, .int .u64 st6, .int .u64 ic, .slice A l.length c, .int .i64 at6] (0, 0) _ rfl (q4.trans (by rfl)) Try.underlying25 rfl (by kernel_rfl) .nil))) rfl ⟨rfl, ?_⟩
  exact (below_set (j := 4) (v := (.int .i64 at6)) (below_set (j := 3) (v := (.slice A l.length c)) (below_set (j := 2) (v := (.int .u64 ic)) (below_set (j := 1) (v := (.int .u64 st6)) (below_set (j := 0) (v := (.int .i64 k)) HB.out GB.out) GB.out) GB.out) GB.out) GB.out)
set_option maxHeartbeats 8000000 in
set_option maxRecDepth 100000 in
theorem order_Pair_calls (k st ic at_ : Int) (A : Option Addr) (c : Nat) (l : List Int) (w : World) (hr : Kd.C (Kd.int .u64) w A l.length l) (up : Bool) (st7 at7 : Int) (h1 : decide (2147483648 ≤ nextX k st l at_) = up) (h2 : nextSt k st ic = st7) (h3 : nextAt k l at_ = at7) : Calls Try.prog 38 #[.agg #[.int .i64 k, .int .u64 st, .int .u64 ic, .slice A l.length c, .int .i64 at_]] w fun e w' => e = .returned (.tuple #[.agg #[.bool up, .bool (!up)], .agg #[.int .i64 k, .int .u64 st7, .int .u64 ic, .slice A l.length c, .int .i64 at7]]) ∧ Below w.heap.size w w' := by
  have hu25 := Try.underlying25
  have hu55 := Try.underlying55
  have hu67 := Try.underlying67
  have HR := Aside0.mk hr
  clear hr
  have HX := Aside0.mk h1
  have HS := Aside0.mk h2
  have HA := Aside0.mk h3
  clear h1 h2 h3
  have BA : Aside0 ((((w.alloc (.cells #[.int .i64 k, .int .u64 st, .int .u64 ic, .slice A l.length c, .int .i64 at_] 25 (0, 0))).alloc (.cells #[.bool false, .bool false] 55 (0, 0))).alloc (.cells #[.int .i64 0, .int .u64 0, .int .u64 0, .slice none 0 0, .int .i64 0] 25 (0, 0))).heap[w.heap.size + 1]? = some (.cells #[.bool false, .bool false] 55 (0, 0))) := ⟨blk_alloc (by have h_ := blk_new (w.alloc (.cells #[.int .i64 k, .int .u64 st, .int .u64 ic, .slice A l.length c, .int .i64 at_] 25 (0, 0))) (.cells #[.bool false, .bool false] 55 (0, 0)); rwa [Go.Proofs.YtjiogchafnpkhaaS.size_alloc] at h_) (.cells #[.int .i64 0, .int .u64 0, .int .u64 0, .slice none 0 0, .int .i64 0] 25 (0, 0))⟩
  have BS : Aside0 ((((w.alloc (.cells #[.int .i64 k, .int .u64 st, .int .u64 ic, .slice A l.length c, .int .i64 at_] 25 (0, 0))).alloc (.cells #[.bool false, .bool false] 55 (0, 0))).alloc (.cells #[.int .i64 0, .int .u64 0, .int .u64 0, .slice none 0 0, .int .i64 0] 25 (0, 0))).heap[w.heap.size + 1 + 1]? = some (.cells #[.int .i64 0, .int .u64 0, .int .u64 0, .slice none 0 0, .int .i64 0] 25 (0, 0))) := ⟨by have h_ := blk_new ((w.alloc (.cells #[.int .i64 k, .int .u64 st, .int .u64 ic, .slice A l.length c, .int .i64 at_] 25 (0, 0))).alloc (.cells #[.bool false, .bool false] 55 (0, 0))) (.cells #[.int .i64 0, .int .u64 0, .int .u64 0, .slice none 0 0, .int .i64 0] 25 (0, 0)); rwa [Go.Proofs.YtjiogchafnpkhaaS.size_alloc, Go.Proofs.YtjiogchafnpkhaaS.size_alloc] at h_⟩
  have HB := Aside0.mk (below_alloc (below_alloc (below_alloc (Below.refl w.heap.size w) (.cells #[.int .i64 k, .int .u64 st, .int .u64 ic, .slice A l.length c, .int .i64 at_] 25 (0, 0))) (.cells #[.bool false, .bool false] 55 (0, 0))) (.cells #[.int .i64 0, .int .u64 0, .int .u64 0, .slice none 0 0, .int .i64 0] 25 (0, 0)))
  have GA : Aside0 (w.heap.size ≤ w.heap.size + 1) := ⟨by omega⟩
  have GB : Aside0 (w.heap.size ≤ w.heap.size + 1 + 1) := ⟨by omega⟩
  have NAB : Aside0 (w.heap.size + 1 + 1 ≠ w.heap.size + 1) := ⟨by omega⟩
  have NBA : Aside0 (w.heap.size + 1 ≠ w.heap.size + 1 + 1) := ⟨by omega⟩
  go_enter Try.func38, Try.ntmps38
  go_wp2_with (first | ((with_reducible refine gate_callee (f := 28) rfl ?_); refine goesL_ (some 8) rfl rfl Try.func28 (by kernel_rfl) rfl #[.agg #[.int .i64 k, .int .u64 st, .int .u64 ic, .slice A l.length c, .int .i64 at_]] rfl (by (try simp only [List.map_toArray, List.map_cons, List.map_nil]); first | done | rfl) ?_; (refine (draw_Flip_calls k st ic at_ A c l _ (Kd.C_below HR.out HB.out)).mono ?_); rintro e w1 ⟨rfl, hb⟩; rw [HX.out, HS.out, HA.out]; refine ⟨_, rfl, ?_⟩; have n1_ := Aside0.mk (below_alloc (below_step HB.out hb) (.cells #[.int .i64 k, .int .u64 st7, .int .u64 ic, .slice A l.length c, .int .i64 at7] 25 (0, 0))); have n2_ := Aside0.mk (blk_alloc (blk_below BA.out hb) (.cells #[.int .i64 k, .int .u64 st7, .int .u64 ic, .slice A l.length c, .int .i64 at7] 25 (0, 0))); have n3_ := Aside0.mk (blk_alloc (blk_below BS.out hb) (.cells #[.int .i64 k, .int .u64 st7, .int .u64 ic, .slice A l.length c, .int .i64 at7] 25 (0, 0))); have B5 := Aside0.mk (blk_new w1 (.cells #[.int .i64 k, .int .u64 st7, .int .u64 ic, .slice A l.length c, .int .i64 at7] 25 (0, 0))); have NG5 : Aside0 (w1.heap.size ≠ w.heap.size + 1) := ⟨fun e_ => by have h_ := blk_lt (blk_below BA.out hb); omega⟩; clear HB BA BS hb; have HB := n1_; have BA := n2_; have BS := n3_; clear n1_ n2_ n3_))
  generalize w1.heap.size = g5 at *
  generalize w1.alloc (.cells #[.int .i64 k, .int .u64 st7, .int .u64 ic, .slice A l.length c, .int .i64 at7] 25 (0, 0)) = W5 at *
  refine start_ (n := 7) (S := fun w' => w'.cell? ⟨g5, 0, none⟩ = some (.int .i64 k) ∧ w'.cell? ⟨g5, 1, none⟩ = some (.int .u64 st7) ∧ w'.cell? ⟨g5, 2, none⟩ = some (.int .u64 ic) ∧ w'.cell? ⟨g5, 3, none⟩ = some (.slice A l.length c) ∧ w'.cell? ⟨g5, 4, none⟩ = some (.int .i64 at7)) (ds := [6]) #[false, false, false, false, false, false, false] (by kernel_rfl) rfl rfl ⟨(blk_cell B5.out 0).trans rfl, (blk_cell B5.out 1).trans rfl, (blk_cell B5.out 2).trans rfl, (blk_cell B5.out 3).trans rfl, (blk_cell B5.out 4).trans rfl⟩ (fun hHeld => ?_)
  replace B5 := Aside0.mk (blk_drew B5.out)
  replace BA := Aside0.mk (blk_drew BA.out)
  replace BS := Aside0.mk (blk_drew BS.out)
  replace HB := Aside0.mk (below_drew1 HB.out)
  generalize W5.drew = W6 at B5 BA BS HB hHeld ⊢
  refine pure_ (i := 0) (N := (some 11)) (v := ?_) (a' := ?_) #[true, false, false, false, false, false, false] rfl rfl (by kernel_rfl) (fun _ _ _ h => h) (Or.inl ⟨by rfl, ?_⟩) ?_ ?_
  rotate_left
  · intro w'
    go_simp
    with_reducible rfl
  rotate_left
  · simp only [Act.put, List.setIfInBounds_toArray, List.set_cons_zero, List.set_cons_succ, i64_w, i32_w]
    rfl
  refine pure_ (i := 1) (N := (some 12)) (v := ?_) (a' := ?_) #[true, true, false, false, false, false, false] rfl rfl (by kernel_rfl) (fun _ _ _ h => h) (Or.inl ⟨by rfl, ?_⟩) ?_ ?_
  rotate_left
  · intro w'
    go_simp
    with_reducible rfl
  rotate_left
  · simp only [Act.put, List.setIfInBounds_toArray, List.set_cons_zero, List.set_cons_succ, i64_w, i32_w]
    rfl
  refine pure_ (i := 2) (N := (some 13)) (v := ?_) (a' := ?_) #[true, true, true, false, false, false, false] rfl rfl (by kernel_rfl) (fun _ _ _ h => h) (Or.inl ⟨by rfl, ?_⟩) ?_ ?_
  rotate_left
  · intro w'
    go_simp
    with_reducible rfl
  rotate_left
  · simp only [Act.put, List.setIfInBounds_toArray, List.set_cons_zero, List.set_cons_succ, i64_w, i32_w]
    rfl
  refine pure_ (i := 3) (N := (some 14)) (v := ?_) (a' := ?_) #[true, true, true, true, false, false, false] rfl rfl (by kernel_rfl) (fun _ _ _ h => h) (Or.inl ⟨by rfl, ?_⟩) ?_ ?_
  rotate_left
  · intro w'
    go_simp
    with_reducible rfl
  rotate_left
  · simp only [Act.put, List.setIfInBounds_toArray, List.set_cons_zero, List.set_cons_succ, i64_w, i32_w]
    rfl
  refine take_ (i := 4) (N := (some 15)) (v := ?_) (a' := ?_) #[true, true, true, true, true, false, false] rfl rfl (by kernel_rfl) (fun _ _ _ h => h) (Or.inl ⟨by rfl, ?_⟩) hHeld ?_ ?_
  rotate_left
  · rintro w' ⟨s0, s1, s2, s3, s4⟩
    go_simp
    with_reducible rfl
  rotate_left
  · simp only [Act.put, List.setIfInBounds_toArray, List.set_cons_zero, List.set_cons_succ, i64_w, i32_w]
    rfl
  refine one_ (i := 5) (N := none) #[true, true, true, true, true, true, false] rfl rfl (by kernel_rfl) (by decide) (fun K hK => ?_)
  have hs0 : W6.cell? ⟨w.heap.size + 1, 0, none⟩ = some (.bool false) := (blk_cell BA.out 0).trans rfl
  have hf0 := blk_frozen BA.out 0
  have hs1 : W6.cell? ⟨w.heap.size + 1, 1, none⟩ = some (.bool false) := (blk_cell BA.out 1).trans rfl
  have hf1 := blk_frozen BA.out 1
  have n2_ : Aside0 (((W6.setCell ⟨w.heap.size + 1, 0, none⟩ (.bool up)).setCell ⟨w.heap.size + 1, 1, none⟩ (.bool (!up))).heap[w.heap.size + 1]? = some (.cells #[.bool up, .bool (!up)] 55 (0, 0))) := ⟨((blk_set (blk_set BA.out 0 (.bool up)) 1 (.bool (!up)))).trans (by rfl)⟩
  have n3_ : Aside0 (((W6.setCell ⟨w.heap.size + 1, 0, none⟩ (.bool up)).setCell ⟨w.heap.size + 1, 1, none⟩ (.bool (!up))).heap[w.heap.size + 1 + 1]? = some (.cells #[.int .i64 0, .int .u64 0, .int .u64 0, .slice none 0 0, .int .i64 0] 25 (0, 0))) := ⟨(blk_far (blk_far BS.out (p := ⟨w.heap.size + 1, 0, none⟩) NAB.out (.bool up)) (p := ⟨w.heap.size + 1, 1, none⟩) NAB.out (.bool (!up)))⟩
  have n1_ : Aside0 (Below w.heap.size w ((W6.setCell ⟨w.heap.size + 1, 0, none⟩ (.bool up)).setCell ⟨w.heap.size + 1, 1, none⟩ (.bool (!up)))) := ⟨(below_set (j := 1) (v := (.bool (!up))) (below_set (j := 0) (v := (.bool up)) HB.out GA.out) GA.out)⟩
  have n5_ : Aside0 (((W6.setCell ⟨w.heap.size + 1, 0, none⟩ (.bool up)).setCell ⟨w.heap.size + 1, 1, none⟩ (.bool (!up))).heap[g5]? = some (.cells #[.int .i64 k, .int .u64 st7, .int .u64 ic, .slice A l.length c, .int .i64 at7] 25 (0, 0))) := ⟨(blk_far (blk_far B5.out (p := ⟨w.heap.size + 1, 0, none⟩) NG5.out (.bool up)) (p := ⟨w.heap.size + 1, 1, none⟩) NG5.out (.bool (!up)))⟩
  refine skip_ (w1 := ?_) (by rfl) rfl ?_ ?_
  rotate_left
  · go_simp
    rfl
  refine hK.out _ _ ⟨(blk_cell n5_.out 0).trans rfl, (blk_cell n5_.out 1).trans rfl, (blk_cell n5_.out 2).trans rfl, (blk_cell n5_.out 3).trans rfl, (blk_cell n5_.out 4).trans rfl⟩ (fun hHeld => ?_)
  clear hK K
  clear hs0 hf0 hs1 hf1
  clear HB BA BS B5
  have HB := n1_
  have BA := n2_
  have BS := n3_
  clear n1_ n2_ n3_ n5_
  generalize ((W6.setCell ⟨w.heap.size + 1, 0, none⟩ (.bool up)).setCell ⟨w.heap.size + 1, 1, none⟩ (.bool (!up))) = W8 at *
  refine last_ (i := 6) (N := none) #[true, true, true, true, true, true, true] rfl rfl (by kernel_rfl) (by decide) (fun K hK => ?_)
  have hs0 : W8.cell? ⟨w.heap.size + 1 + 1, 0, none⟩ = some (.int .i64 0) := (blk_cell BS.out 0).trans rfl
  have hf0 := blk_frozen BS.out 0
  have hs1 : W8.cell? ⟨w.heap.size + 1 + 1, 1, none⟩ = some (.int .u64 0) := (blk_cell BS.out 1).trans rfl
  have hf1 := blk_frozen BS.out 1
  have hs2 : W8.cell? ⟨w.heap.size + 1 + 1, 2, none⟩ = some (.int .u64 0) := (blk_cell BS.out 2).trans rfl
  have hf2 := blk_frozen BS.out 2
  have hs3 : W8.cell? ⟨w.heap.size + 1 + 1, 3, none⟩ = some (.slice none 0 0) := (blk_cell BS.out 3).trans rfl
  have hf3 := blk_frozen BS.out 3
  have hs4 : W8.cell? ⟨w.heap.size + 1 + 1, 4, none⟩ = some (.int .i64 0) := (blk_cell BS.out 4).trans rfl
  have hf4 := blk_frozen BS.out 4
  refine skip_ (w1 := ?_) (by rfl) rfl ?_ ?_
  rotate_left
  · go_simp
    rfl
  refine hK.out _ _ ?_
  clear hK K
  refine done_ (by kernel_rfl) ?_
  try go_wp2
  have q0 := blk_set BS.out 0 (.int .i64 k)
  have q1 := blk_set q0 1 (.int .u64 st7)
  have q2 := blk_set q1 2 (.int .u64 ic)
  have q3 := blk_set q2 3 (.slice A l.length c)
  have q4 := blk_set q3 4 (.int .i64 at7)
  have qa := (blk_far (blk_far (blk_far (blk_far (blk_far BA.out (p := ⟨w.heap.size + 1 + 1, 0, none⟩) NBA.out (.int .i64 k)) (p := ⟨w.heap.size + 1 + 1, 1, none⟩) NBA.out (.int .u64 st7)) (p := ⟨w.heap.size + 1 + 1, 2, none⟩) NBA.out (.int .u64 ic)) (p := ⟨w.heap.size + 1 + 1, 3, none⟩) NBA.out (.slice A l.length c)) (p := ⟨w.heap.size + 1 + 1, 4, none⟩) NBA.out (.int .i64 at7))
  (try simp only [Exit.inBlock, Exit.then])
  refine bodyPost_ret (results_list (rs := [.cell 2 55, .cell 3 25]) rfl (by simp) (.cell (w.heap.size + 1) 55 #[.bool up, .bool (!up)] (0, 0) _ rfl qa Try.underlying55 rfl (by kernel_rfl) (.cell (w.heap.size + 1 + 1) 25 #[.int .i64 k, .int .u64 st7, .int .u64 ic, .slice A l.length c, .int .i64 at7] (0, 0) _ rfl (q4.trans (by rfl)) Try.underlying25 rfl (by kernel_rfl) .nil))) rfl ⟨rfl, ?_⟩
  exact (below_set (j := 4) (v := (.int .i64 at7)) (below_set (j := 3) (v := (.slice A l.length c)) (below_set (j := 2) (v := (.int .u64 ic)) (below_set (j := 1) (v := (.int .u64 st7)) (below_set (j := 0) (v := (.int .i64 k)) HB.out GB.out) GB.out) GB.out) GB.out) GB.out)
end
section
open Go.RowKit Go.Proofs.YtjiogchafnpkhaaW.PrintWords Go.Proofs.YtjiogchafnpkhaaW.PrintLast Go.Proofs.YtjiogchafnpkhaaW.PrintMore
attribute [local go_sem] max2_int min2_int max_two min_two max_three min_three max_four min_four
attribute [local go_sem] Go.Proofs.YtjiogchafnpkhaaS.cell_set_map Go.Proofs.YtjiogchafnpkhaaS.setCell_drewN
set_option linter.unusedVariables false
set_option linter.unusedSimpArgs false
attribute [local go_sem] eq45 eq55 idx0 idx1 idx2 idx3 idx4 idx5
theorem docP : permI 2 0 [0, 0, 0] (4 - 1) (rangeI 4) 0 0 = ([1, 2, 3, 0], 0, 3) := by kernel_rfl
theorem four2 (w : World) : Calls Try.prog 31 #[.int .i64 2] w fun e w' => e = .returned (.tuple #[.agg #[.bool true, .bool false, .bool false, .bool true], .int .i64 0]) ∧ Below w.heap.size w w' := order_Four_calls 2 w
theorem e4_two : e4 true false false true true false false true = true := rfl
set_option maxHeartbeats 4000000 in
set_option maxRecDepth 100000 in
theorem ordered_calls (w : World) : Calls Try.prog 32 #[] w fun e w' => e = .returned (.bool true) ∧ Below w.heap.size w w' := by
  have hu25 := Try.underlying25
  have hu23 := Try.underlying23
  have hu34 := Try.underlying34
  have hu45 := Try.underlying45
  have hq := e4_two
  have HB := Aside0.mk (Below.refl w.heap.size w)
  go_enter Try.func32, Try.ntmps32
  go_wp2_with (first | ((with_reducible refine gate_callee (f := 31) rfl ?_); refine goesL_ (some 8) rfl rfl Try.func31 (by kernel_rfl) rfl #[.int .i64 2] rfl (by (try simp only [List.map_toArray, List.map_cons, List.map_nil]); first | done | rfl) ?_; (refine (four2 _).mono ?_); rintro e w1 ⟨rfl, hb⟩; refine ⟨_, rfl, ?_⟩; have mH_ := Aside0.mk (below_alloc (below_alloc (below_step HB.out hb) (.cells #[.bool true, .bool false, .bool false, .bool true] 45 (0, 0))) (.cells #[.int .u64 0, .int .u64 0, .int .u64 0] 22 (0, 0))); clear HB hb; have HB := mH_; clear mH_; have B1 := Aside0.mk (blk_alloc (blk_new w1 (.cells #[.bool true, .bool false, .bool false, .bool true] 45 (0, 0))) (.cells #[.int .u64 0, .int .u64 0, .int .u64 0] 22 (0, 0))); have BT : Aside0 (((w1.alloc (.cells #[.bool true, .bool false, .bool false, .bool true] 45 (0, 0))).alloc (.cells #[.int .u64 0, .int .u64 0, .int .u64 0] 22 (0, 0))).heap[w1.heap.size + 1]? = some (.cells #[.int .u64 0, .int .u64 0, .int .u64 0] 22 (0, 0))) := ⟨by have h_ := blk_new (w1.alloc (.cells #[.bool true, .bool false, .bool false, .bool true] 45 (0, 0))) (.cells #[.int .u64 0, .int .u64 0, .int .u64 0] 22 (0, 0)); rwa [Go.Proofs.YtjiogchafnpkhaaS.size_alloc] at h_⟩) | ((with_reducible refine gate_callee (f := 19) rfl ?_); refine goesL_ (some 13) rfl rfl Try.func19 (by kernel_rfl) rfl #[.slice (some ⟨w1.heap.size + 1, 0, none⟩) 3 3] rfl (by (try simp only [List.map_toArray, List.map_cons, List.map_nil]); first | done | rfl) ?_; (refine (draw_Tape_calls (some ⟨w1.heap.size + 1, 0, none⟩) 3 [0, 0, 0] _ (by decide) (by decide) (by simp)).mono ?_); rintro e w2 ⟨rfl, hb⟩; refine ⟨_, rfl, ?_⟩; have mB1_ := Aside0.mk (blk_below B1.out hb); clear B1; have B1 := mB1_; clear mB1_; have mBT_ := Aside0.mk (blk_below BT.out hb); clear BT; have BT := mBT_; clear mBT_; have mH_ := Aside0.mk (below_step HB.out hb); clear HB hb; have HB := mH_; clear mH_; ) | ((with_reducible refine gate_callee (f := 33) rfl ?_); refine goesL_ (some 14) rfl rfl Try.func33 (by kernel_rfl) rfl #[.agg #[.int .i64 2, .int .u64 0, .int .u64 0, .slice (some ⟨w1.heap.size + 1, 0, none⟩) 3 3, .int .i64 0], .int .i64 4] rfl (by (try simp only [List.map_toArray, List.map_cons, List.map_nil]); first | done | rfl) ?_; (refine (perm_walk 2 0 0 0 (some ⟨w1.heap.size + 1, 0, none⟩) 3 [0, 0, 0] 4 _ (C_ints .u64 [0, 0, 0] (by decide) BT.out) (by decide) (by decide) [1, 2, 3, 0] 0 3 docP).mono ?_); rintro e w3 ⟨A1, c1, rfl, hl1, hr1, hb⟩; refine ⟨_, rfl, ?_⟩; have L1 := Aside0.mk hl1; have R1 := Aside0.mk (Kd.C_alloc hr1 (.cells #[.int .i64 2, .int .u64 0, .int .u64 0, .slice (some ⟨w1.heap.size + 1, 0, none⟩) 3 3, .int .i64 3] 25 (0, 0))); have B4 := Aside0.mk (blk_new w3 (.cells #[.int .i64 2, .int .u64 0, .int .u64 0, .slice (some ⟨w1.heap.size + 1, 0, none⟩) 3 3, .int .i64 3] 25 (0, 0))); clear hl1 hr1 BT; have mB1_ := Aside0.mk (blk_alloc (blk_below B1.out hb) (.cells #[.int .i64 2, .int .u64 0, .int .u64 0, .slice (some ⟨w1.heap.size + 1, 0, none⟩) 3 3, .int .i64 3] 25 (0, 0))); clear B1; have B1 := mB1_; clear mB1_; have mH_ := Aside0.mk (below_alloc (below_step HB.out hb) (.cells #[.int .i64 2, .int .u64 0, .int .u64 0, .slice (some ⟨w1.heap.size + 1, 0, none⟩) 3 3, .int .i64 3] 25 (0, 0))); clear HB hb; have HB := mH_; clear mH_; ) | ((with_reducible refine gate_callee (f := 30) rfl ?_); refine goesL_ (some 19) rfl rfl Try.func30 (by kernel_rfl) rfl #[.agg #[.bool false, .bool false, .bool false, .bool false]] rfl (by (try simp only [List.map_toArray, List.map_cons, List.map_nil]); first | done | rfl) ?_; (refine (order_Rank_calls false false false false 0 14 _ rfl).mono ?_); rintro e w4 ⟨rfl, hb⟩; refine ⟨_, rfl, ?_⟩; have m1_ := blk_below B1.out hb; have hx0 : w4.cell? ⟨w1.heap.size, 0, none⟩ = some (.bool true) := (blk_cell m1_ 0).trans rfl; have hx1 : w4.cell? ⟨w1.heap.size, 1, none⟩ = some (.bool false) := (blk_cell m1_ 1).trans rfl; have hx2 : w4.cell? ⟨w1.heap.size, 2, none⟩ = some (.bool false) := (blk_cell m1_ 2).trans rfl; have hx3 : w4.cell? ⟨w1.heap.size, 3, none⟩ = some (.bool true) := (blk_cell m1_ 3).trans rfl; clear B1 m1_; have mR1_ := Aside0.mk (Kd.C_alloc (Kd.C_below R1.out hb) (.cells #[.int .i64 1, .int .i64 2, .int .i64 3, .int .i64 0] 3 (0, 0))); clear R1; have R1 := mR1_; clear mR1_; have mB4_ := Aside0.mk (blk_alloc (blk_below B4.out hb) (.cells #[.int .i64 1, .int .i64 2, .int .i64 3, .int .i64 0] 3 (0, 0))); clear B4; have B4 := mB4_; clear mB4_; have BN := Aside0.mk (blk_new w4 (.cells #[.int .i64 1, .int .i64 2, .int .i64 3, .int .i64 0] 3 (0, 0))); have mH_ := Aside0.mk (below_alloc (below_step HB.out hb) (.cells #[.int .i64 1, .int .i64 2, .int .i64 3, .int .i64 0] 3 (0, 0))); clear HB hb; have HB := mH_; clear mH_; ) | ((with_reducible refine gate_callee (f := 22) rfl ?_); refine gate_guard (by rfl) ?_; refine goesL_ (some 32) rfl rfl Try.func22 (by kernel_rfl) rfl #[.slice A1 4 c1, .slice (some ⟨w4.heap.size, 0, none⟩) 4 4] rfl (by (try simp only [List.map_toArray, List.map_cons, List.map_nil]); first | done | rfl) ?_; (refine (ints_calls [1, 2, 3, 0] A1 (some ⟨w4.heap.size, 0, none⟩) 4 4 c1 4 _ rfl rfl R1.out L1.out (C_ints .i64 [1, 2, 3, 0] (by decide) BN.out) (by decide) (by decide)).mono ?_); rintro e w5 ⟨rfl, hb⟩; refine ⟨_, rfl, ?_⟩; clear R1 BN; have mB4_ := Aside0.mk (blk_below B4.out hb); clear B4; have B4 := mB4_; clear mB4_; have mH_ := Aside0.mk (below_step HB.out hb); clear HB hb; have HB := mH_; clear mH_; (try clear hx0 hx1 hx2 hx3); have hy0 : w5.cell? ⟨w3.heap.size, 0, none⟩ = some (.int .i64 2) := (blk_cell B4.out 0).trans rfl; have hy1 : w5.cell? ⟨w3.heap.size, 1, none⟩ = some (.int .u64 0) := (blk_cell B4.out 1).trans rfl; have hy2 : w5.cell? ⟨w3.heap.size, 2, none⟩ = some (.int .u64 0) := (blk_cell B4.out 2).trans rfl; have hy3 : w5.cell? ⟨w3.heap.size, 3, none⟩ = some (.slice (some ⟨w1.heap.size + 1, 0, none⟩) 3 3) := (blk_cell B4.out 3).trans rfl; have hy4 : w5.cell? ⟨w3.heap.size, 4, none⟩ = some (.int .i64 3) := (blk_cell B4.out 4).trans rfl))
  go_ret
  exact ⟨rfl, HB.out⟩
end
end Go.Proofs.Ytjiogchafnpkhaa.D
