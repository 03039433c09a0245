import Derived.Test.YtjiogchafnpkhaaMC
namespace Go.Proofs.Ytjiogchafnpkhaa.D
open Go.RowKit Go.Proofs.YtjiogchafnpkhaaW.PrintWords Go.Proofs.YtjiogchafnpkhaaW.PrintLast Go.Proofs.YtjiogchafnpkhaaW.PrintMore
attribute [local go_sem] max2_int min2_int max_two min_two max_three min_three max_four min_four
attribute [local go_sem] Go.Proofs.YtjiogchafnpkhaaS.cell_set_map Go.Proofs.YtjiogchafnpkhaaS.setCell_drewN
set_option linter.unusedVariables false
set_option linter.unusedSimpArgs false
attribute [local go_sem] eq45 eq55 idx0 idx1 idx2 idx3 idx4 idx5
/-- Bools as cells. -/
def mkB (bs : List Bool) : Array Value := (bs.map Value.bool).toArray
theorem mkB_get (bs : List Bool) (j : Nat) (h : j < bs.length) : (mkB bs)[j]? = some (Value.bool (bs.getD j false)) := by
  unfold mkB
  simp [List.getElem?_map, h]
theorem rowB_cell {w : World} {g t : Nat} {bs : List Bool} (h : w.heap[g]? = some (.cells (mkB bs) t (0, 0))) (j : Nat) (hj : j < bs.length) : w.cell? ⟨g, j, none⟩ = some (.bool (bs.getD j false)) := (blk_cell h j).trans (mkB_get bs j hj)
theorem rowB_set {w : World} {g t : Nat} {bs : List Bool} (h : w.heap[g]? = some (.cells (mkB bs) t (0, 0))) (j : Nat) (v : Bool) : (w.setCell ⟨g, j, none⟩ (.bool v)).heap[g]? = some (.cells (mkB (bs.set j v)) t (0, 0)) := by
  have := blk_set h j (.bool v)
  rwa [show (mkB bs).setIfInBounds j (Value.bool v) = mkB (bs.set j v) by unfold mkB; simp [List.map_set]] at this
theorem made_false (n : Nat) : madeCells #[Value.bool false] n = mkB (List.replicate n false) := by
  apply Array.ext
  · simp [size_madeCells, mkB]
  · intro i h1 h2
    simp [madeCells, mkB, Nat.mod_one]
theorem info4 : (Try.prog.info? 4).map (fun i => (i.zero, i.size, i.bytes)) = some (some (.bool false), 1, 1) := by kernel_rfl
/-- All numbers of a row are 0 to n - 1, and no two are the same. -/
def Places (n : Nat) (xs : List Int) : Prop := xs.length = n ∧ (∀ t : Nat, t < n → 0 ≤ rd xs (t : Int) ∧ rd xs (t : Int) < n) ∧ ∀ s t : Nat, s < n → t < n → rd xs (s : Int) = rd xs (t : Int) → s = t
theorem rd_swap (xs : List Int) (i j t : Nat) (hi : i < xs.length) (hj : j < xs.length) (ht : t < xs.length) : rd (swapL xs (i : Int) (j : Int)) (t : Int) = if t = j then rd xs (i : Int) else if t = i then rd xs (j : Int) else rd xs (t : Int) := by
  unfold swapL rd
  simp only [Int.toNat_natCast, List.getD_eq_getElem?_getD, List.getElem?_set, List.length_set]
  by_cases h1 : t = j
  · subst h1
    simp [hj]
  · rw [if_neg (fun h => h1 h.symm), if_neg h1]
    by_cases h2 : t = i
    · subst h2
      simp [hi]
    · rw [if_neg (fun h => h2 h.symm), if_neg h2]
theorem places_swap {n : Nat} {xs : List Int} (h : Places n xs) (i j : Nat) (hi : i < n) (hj : j < n) : Places n (swapL xs (i : Int) (j : Int)) := by
  obtain ⟨h0, h1, h2⟩ := h
  have e : ∀ t : Nat, t < n → rd (swapL xs (i : Int) (j : Int)) (t : Int) = if t = j then rd xs (i : Int) else if t = i then rd xs (j : Int) else rd xs (t : Int) := fun t ht => rd_swap xs i j t (by omega) (by omega) (by omega)
  refine ⟨by rw [swapL_length, h0], fun t ht => ?_, fun s t hs ht hst => ?_⟩
  · rw [e t ht]
    split
    · exact h1 i hi
    · split
      · exact h1 j hj
      · exact h1 t ht
  · rw [e s hs, e t ht] at hst
    have q1 := h2 i t hi ht
    have q2 := h2 j t hj ht
    have q3 := h2 s i hs hi
    have q4 := h2 s j hs hj
    have q5 := h2 s t hs ht
    have q6 := h2 i j hi hj
    have q7 := h2 j i hj hi
    by_cases a1 : s = j <;> by_cases a2 : s = i <;> by_cases a3 : t = j <;> by_cases a4 : t = i <;> simp only [a1, a2, a3, a4, if_true, if_false] at hst <;> (try omega) <;> (try (have := q1 hst; omega)) <;> (try (have := q2 hst; omega)) <;> (try (have := q3 hst; omega)) <;> (try (have := q4 hst; omega)) <;> (try (have := q5 hst; omega)) <;> (try (have := q6 hst; omega)) <;> (try (have := q7 hst; omega)) <;> simp_all
theorem permI_places (k ic : Int) (l : List Int) (n : Nat) : ∀ (i : Nat) (xs : List Int) (st at_ : Int), i < n → Places n xs → Places n (permI k ic l i xs st at_).1
  | 0, xs, st, at_, _, h => h
  | i + 1, xs, st, at_, hi, h => by
    unfold permI
    have hr := d_below k st l at_ ((i : Int) + 2) (by omega)
    obtain ⟨j, hj⟩ : ∃ j : Nat, belowX k st l at_ ((i : Int) + 2) = (j : Int) := ⟨(belowX k st l at_ ((i : Int) + 2)).toNat, by omega⟩
    rw [hj]
    have h2 := places_swap h (i + 1) j hi (by omega)
    rw [show ((i + 1 : Nat) : Int) = (i : Int) + 1 by omega] at h2
    exact permI_places k ic l n i _ _ _ (by omega) h2
theorem permI_at (k ic : Int) (l : List Int) : ∀ (i : Nat) (xs : List Int) (st at_ : Int), (permI k ic l i xs st at_).2.2 = atI k l at_ i
  | 0, _, _, _ => rfl
  | i + 1, xs, st, at_ => by
    unfold permI
    rw [permI_at k ic l i, show belowAt k l at_ ((i : Int) + 2) = nextAt k l at_ by unfold belowAt; rw [if_neg (by omega)]]
    clear xs st
    induction i with
    | zero => rfl
    | succ i ih =>
      show nextAt k l (atI k l (nextAt k l at_) i) = nextAt k l (atI k l at_ (i + 1))
      rw [ih]
theorem tape_at' (l : List Int) : ∀ i : Nat, atI 2 l 0 i = ((min i l.length : Nat) : Int)
  | 0 => by simp [atI]
  | i + 1 => by
    show nextAt 2 l (atI 2 l 0 i) = _
    rw [tape_at' l i]
    unfold nextAt tapeAt
    rw [if_pos rfl]
    split <;> omega
theorem range_places (n : Nat) : Places n (rangeI n) := by
  have e : ∀ t : Nat, t < n → rd (rangeI n) (t : Int) = (t : Int) := by
    intro t ht
    unfold rd rangeI
    simp [List.getD_eq_getElem?_getD, ht]
  refine ⟨rangeI_length n, fun t ht => ?_, fun s t hs ht h => ?_⟩
  · rw [e t ht]; omega
  · rw [e s hs, e t ht] at h; omega
set_option maxHeartbeats 16000000 in
set_option maxRecDepth 100000 in
theorem places_walk (A : Option Addr) (c : Nat) (l : List Int) (n : Nat) (w : World) (hr : Kd.C (Kd.int .u64) w A l.length l) (hc : l.length ≤ c) (hbig : ¬ (l.length : Int) > 100) (h1 : 1 ≤ n) (h2 : n ≤ 64) :
    Calls Try.prog 9 #[.slice A l.length c, .int .i64 (n : Int)] w fun e w' => e = .returned (.bool true) ∧ Below w.heap.size w w' := by
  have hu25 := Try.underlying25
  have hu23 := Try.underlying23
  have hu34 := Try.underlying34
  have hu52 := Try.underlying52
  have HR := Aside0.mk hr
  have HC := Aside0.mk hc
  have HAN : Aside0 (A = none → l.length = 0) := ⟨fun e => by
    subst e
    rcases Nat.eq_zero_or_pos l.length with h0 | h0
    · exact h0
    · obtain ⟨ad, e2, _⟩ := hr.2.2 h0
      exact absurd e2 (by simp)⟩
  have HMX : Aside0 (l.length ≤ 9223372036854775807) := ⟨by omega⟩
  have p0 : decide ((l.length : Int) > 100) = false := decide_eq_false hbig
  have p1 : decide ((n : Int) < 1) = false := decide_eq_false (by omega)
  have p2 : decide (64 < (n : Int)) = false := decide_eq_false (by omega)
  have HN1 := Aside0.mk h1
  have HN2 := Aside0.mk h2
  obtain ⟨xs9, st9, at9, hP⟩ : ∃ a b d, permI 2 0 l (n - 1) (rangeI n) 0 0 = (a, b, d) := ⟨_, _, _, rfl⟩
  have HPI := Aside0.mk hP
  have HPL := permI_places 2 0 l n (n - 1) (rangeI n) 0 0 (by omega) (range_places n)
  have hat := permI_at 2 0 l (n - 1) (rangeI n) 0 0
  rw [hP] at HPL hat
  rw [tape_at'] at hat
  replace HPL := Aside0.mk HPL
  have hmin : (if (n : Int) - 1 < (l.length : Int) then (n : Int) - 1 else (l.length : Int)) = at9 := by
    have hat2 : at9 = ((min (n - 1) l.length : Nat) : Int) := hat
    rw [hat2]
    split <;> omega
  have hmk := print_make_of 52 4 (.bool false) 1 Try.underlying52 info4 rfl (by decide) n (by omega)
  clear hr hc hbig hP hat
  have HB := Aside0.mk (Below.refl w.heap.size w)
  go_enter Try.func9, Try.ntmps9
  go_wp2_with (first | ((with_reducible refine gate_callee (f := 19) rfl ?_); refine goesL_ (some 14) rfl rfl Try.func19 (by kernel_rfl) rfl #[.slice A l.length c] rfl (by (try simp only [List.map_toArray, List.map_cons, List.map_nil]); first | done | rfl) ?_; (refine (draw_Tape_calls A c l _ HC.out HMX.out HAN.out).mono ?_); rintro e w2 ⟨rfl, hb⟩; refine ⟨_, rfl, ?_⟩; have mH_ := Aside0.mk (below_step HB.out hb); clear HB hb; have HB := mH_; clear mH_; ) | ((with_reducible refine gate_callee (f := 33) rfl ?_); refine goesL_ (some 16) rfl rfl Try.func33 (by kernel_rfl) rfl #[.agg #[.int .i64 2, .int .u64 0, .int .u64 0, .slice A l.length l.length, .int .i64 0], .int .i64 (n : Int)] rfl (by (try simp only [List.map_toArray, List.map_cons, List.map_nil]); first | done | rfl) ?_; (refine (perm_walk 2 0 0 0 A l.length l n _ (Kd.C_below HR.out HB.out) HN1.out HN2.out xs9 st9 at9 HPI.out).mono ?_); rintro e w3 ⟨A1, c1, rfl, hl1, hr1, hb⟩; refine ⟨_, rfl, ?_⟩; have R1 := Aside0.mk (Kd.C_alloc hr1 (.cells #[.int .i64 2, .int .u64 st9, .int .u64 0, .slice A l.length l.length, .int .i64 at9] 25 (0, 0))); have B6 := Aside0.mk (blk_new w3 (.cells #[.int .i64 2, .int .u64 st9, .int .u64 0, .slice A l.length l.length, .int .i64 at9] 25 (0, 0))); clear hl1 hr1; have mH_ := Aside0.mk (below_alloc (below_step HB.out hb) (.cells #[.int .i64 2, .int .u64 st9, .int .u64 0, .slice A l.length l.length, .int .i64 at9] 25 (0, 0))); clear HB hb; have HB := mH_; clear mH_; ))
  have hsz := Go.Proofs.YtjiogchafnpkhaaS.size_alloc w3 (.cells #[.int .i64 2, .int .u64 st9, .int .u64 0, .slice A l.length l.length, .int .i64 at9] 25 (0, 0))
  generalize hg6 : w3.heap.size = g6 at *
  generalize hWz : w3.alloc (.cells #[.int .i64 2, .int .u64 st9, .int .u64 0, .slice A l.length l.length, .int .i64 at9] 25 (0, 0)) = Wz at *
  generalize had : (⟨g6 + 1, 0, none⟩ : Addr) = ad
  have HAD : Aside0 (∀ j : Nat, ad.add j = ⟨g6 + 1, j, none⟩) := ⟨fun j => by rw [← had]; exact add0 _ j⟩
  clear had hWz hg6 hmk
  have BS : Aside0 ((Wz.alloc (.cells (madeCells #[.bool false] n) 4 (0, 0))).heap[g6 + 1]? = some (.cells (mkB (List.replicate n false)) 4 (0, 0))) := ⟨by
    have h_ := blk_new Wz (.cells (madeCells #[.bool false] n) 4 (0, 0))
    rw [hsz] at h_
    rw [h_, made_false]⟩
  have HZ : Aside0 (Below (g6 + 1) Wz (Wz.alloc (.cells (madeCells #[.bool false] n) 4 (0, 0)))) := ⟨by
    have h_ := below_alloc (Below.refl Wz.heap.size Wz) (.cells (madeCells #[.bool false] n) 4 (0, 0))
    rwa [hsz] at h_⟩
  have HSZ := Aside0.mk hsz
  clear hsz
  go_loopw [8] (fun v8 wr => ∃ (i : Nat) (bs : List Bool), i ≤ n ∧ v8 = .int .i64 (i : Int) ∧ Aside0 (bs.length = n ∧ ∀ v : Nat, v < n → bs.getD v false = true → ∃ j : Nat, j < i ∧ rd xs9 (j : Int) = (v : Int)) ∧ Aside0 (wr.heap[g6 + 1]? = some (.cells (mkB bs) 4 (0, 0))) ∧ Aside0 (Below (g6 + 1) Wz wr)) (fun v8 _ => n - (intOf v8).toNat)
  case atStart => exact ⟨0, List.replicate n false, Nat.zero_le _, rfl, ⟨by simp, fun v hv h => absurd h (by simp [List.getD_eq_getElem?_getD, hv])⟩, BS, HZ⟩
  case round =>
    clear BS HZ
    obtain ⟨i, bs, hi, rfl, HV, BS, HZ⟩ := hrel
    by_cases hlt : i < n
    · have hq : (i : Int) < (n : Int) := by omega
      have hq0 : (0 : Int) ≤ (i : Int) := by omega
      have hzz := HZ.out
      rw [← HSZ.out] at hzz
      obtain ⟨ea, e, hx⟩ := (Kd.reads_of_C (d := (0 : Int)) (Kd.C_below R1.out hzz)).at_ (i : Int) hq0 hq
      clear hzz
      rw [Int.toNat_natCast] at hx
      have hpl := HPL.out.2.1 i hlt
      obtain ⟨v, hv⟩ : ∃ v : Nat, rd xs9 (i : Int) = (v : Int) := ⟨(rd xs9 (i : Int)).toNat, by omega⟩
      rw [hv] at hpl
      have hx2 : rdOf 0 xs9 (i : Int) = (v : Int) := hv
      rw [hx2] at hx
      subst e
      have hv0 : (0 : Int) ≤ (v : Int) := by omega
      have hv1 : (v : Int) < (n : Int) := by omega
      have hvn : v < n := by omega
      have hfalse : bs.getD v false = false := by
        cases hb : bs.getD v false with
        | false => rfl
        | true =>
          obtain ⟨j, hj1, hj2⟩ := HV.out.2 v hvn hb
          have := HPL.out.2.2 j i (by omega) hlt (hj2.trans hv.symm)
          omega
      have hcell := rowB_cell BS.out v (by rw [HV.out.1]; exact hvn)
      have hfr := blk_frozen BS.out v
      rw [hfalse] at hcell
      rw [← HAD.out v] at hcell hfr
      have HVN := Aside0.mk hvn
      have HVE := Aside0.mk hv
      have q1 : decide ((v : Int) < 0) = false := decide_eq_false (by omega)
      have q2 : decide ((n : Int) ≤ (v : Int)) = false := decide_eq_false (by omega)
      clear hx2 hpl hfalse hv
      go_wp2
      go_roundw
      case rel =>
        refine ⟨i + 1, bs.set v true, by omega, by go_num, ⟨?_⟩, ⟨?_⟩, ⟨?_⟩⟩
        · refine ⟨by rw [List.length_set]; exact HV.out.1, fun u hu hb => ?_⟩
          by_cases huv : v = u
          · subst huv
            exact ⟨i, by omega, HVE.out⟩
          · obtain ⟨j, hj1, hj2⟩ := HV.out.2 u hu (by
              rw [List.getD_eq_getElem?_getD, List.getElem?_set, if_neg huv, ← List.getD_eq_getElem?_getD] at hb
              exact hb)
            exact ⟨j, by omega, hj2⟩
        · rw [HAD.out v]
          exact rowB_set BS.out v true
        · rw [HAD.out v]
          have h_ := HZ.out
          rw [← HSZ.out] at h_ ⊢
          exact below_set h_ (Nat.le_refl _)
      case measure => simp [intOf]; omega
    · have hq : ¬ (i : Int) < (n : Int) := by omega
      have hzz := HZ.out
      rw [← HSZ.out] at hzz
      replace HB := Aside0.mk (below_step HB.out hzz)
      replace B6 := Aside0.mk (blk_below B6.out hzz)
      clear hzz R1 BS HZ HV HPL
      go_wp2_with (first | ((with_reducible refine gate_callee (f := 32) rfl ?_); refine goesL_ (some 72) rfl rfl Try.func32 (by kernel_rfl) rfl #[] rfl (by (try simp only [List.map_toArray, List.map_cons, List.map_nil]); first | done | rfl) ?_; (refine (ordered_calls _).mono ?_); rintro e w5 ⟨rfl, hb⟩; refine ⟨_, rfl, ?_⟩; have mB6_ := Aside0.mk (blk_below B6.out hb); clear B6; have B6 := mB6_; clear mB6_; have mH_ := Aside0.mk (below_step HB.out hb); clear HB hb; have HB := mH_; clear mH_; have hz0 : w5.cell? ⟨g6, 0, none⟩ = some (.int .i64 2) := (blk_cell B6.out 0).trans rfl; have hz1 : w5.cell? ⟨g6, 1, none⟩ = some (.int .u64 st9) := (blk_cell B6.out 1).trans rfl; have hz2 : w5.cell? ⟨g6, 2, none⟩ = some (.int .u64 0) := (blk_cell B6.out 2).trans rfl; have hz3 : w5.cell? ⟨g6, 3, none⟩ = some (.slice A l.length l.length) := (blk_cell B6.out 3).trans rfl; have hz4 : w5.cell? ⟨g6, 4, none⟩ = some (.int .i64 at9) := (blk_cell B6.out 4).trans rfl))
      go_ret
      exact ⟨rfl, HB.out⟩
set_option maxHeartbeats 4000000 in
theorem places_none (A : Option Addr) (c : Nat) (l : List Int) (n : Int) (w : World) (hr : Kd.C (Kd.int .u64) w A l.length l) (hc : l.length ≤ c) (hbig : ¬ (l.length : Int) > 100) (h : n < 1 ∨ 64 < n) :
    Calls Try.prog 9 #[.slice A l.length c, .int .i64 n] w fun e w' => e = .returned (.bool true) ∧ Below w.heap.size w w' := by
  have hu25 := Try.underlying25
  have hu23 := Try.underlying23
  have hu34 := Try.underlying34
  have HC := Aside0.mk hc
  have HAN : Aside0 (A = none → l.length = 0) := ⟨fun e => by
    subst e
    rcases Nat.eq_zero_or_pos l.length with h0 | h0
    · exact h0
    · obtain ⟨ad, e2, _⟩ := hr.2.2 h0
      exact absurd e2 (by simp)⟩
  have HMX : Aside0 (l.length ≤ 9223372036854775807) := ⟨by omega⟩
  have p0 : decide ((l.length : Int) > 100) = false := decide_eq_false hbig
  have hq : (∃ p1 : decide (n < 1) = true, True) ∨ (decide (n < 1) = false ∧ decide (64 < n) = true) := by
    by_cases g : n < 1
    · exact .inl ⟨decide_eq_true g, trivial⟩
    · exact .inr ⟨decide_eq_false g, decide_eq_true (by omega)⟩
  have HNO := Aside0.mk h
  clear hr hc hbig h
  have HB := Aside0.mk (Below.refl w.heap.size w)
  rcases hq with ⟨p1, _⟩ | ⟨p1, p2⟩
  all_goals
    go_enter Try.func9, Try.ntmps9
    go_wp2_with (first | ((with_reducible refine gate_callee (f := 19) rfl ?_); refine goesL_ (some 14) rfl rfl Try.func19 (by kernel_rfl) rfl #[.slice A l.length c] rfl (by (try simp only [List.map_toArray, List.map_cons, List.map_nil]); first | done | rfl) ?_; (refine (draw_Tape_calls A c l _ HC.out HMX.out HAN.out).mono ?_); rintro e w2 ⟨rfl, hb⟩; refine ⟨_, rfl, ?_⟩; have mH_ := Aside0.mk (below_step HB.out hb); clear HB hb; have HB := mH_; clear mH_; ) | ((with_reducible refine gate_callee (f := 33) rfl ?_); refine goesL_ (some 16) rfl rfl Try.func33 (by kernel_rfl) rfl #[.agg #[.int .i64 2, .int .u64 0, .int .u64 0, .slice A l.length l.length, .int .i64 0], .int .i64 n] rfl (by (try simp only [List.map_toArray, List.map_cons, List.map_nil]); first | done | rfl) ?_; (refine (perm_out 2 0 0 0 A l.length l n _ HNO.out).mono ?_); rintro e w3 ⟨rfl, hb⟩; refine ⟨_, rfl, ?_⟩; have B6 := Aside0.mk (blk_new w3 (.cells #[.int .i64 2, .int .u64 0, .int .u64 0, .slice A l.length l.length, .int .i64 0] 25 (0, 0))); have mH_ := Aside0.mk (below_alloc (below_step HB.out hb) (.cells #[.int .i64 2, .int .u64 0, .int .u64 0, .slice A l.length l.length, .int .i64 0] 25 (0, 0))); clear HB hb; have HB := mH_; clear mH_; ) | ((with_reducible refine gate_callee (f := 32) rfl ?_); refine goesL_ (some 25) rfl rfl Try.func32 (by kernel_rfl) rfl #[] rfl (by (try simp only [List.map_toArray, List.map_cons, List.map_nil]); first | done | rfl) ?_; (refine (ordered_calls _).mono ?_); rintro e w5 ⟨rfl, hb⟩; refine ⟨_, rfl, ?_⟩; have mB6_ := Aside0.mk (blk_below B6.out hb); clear B6; have B6 := mB6_; clear mB6_; have mH_ := Aside0.mk (below_step HB.out hb); clear HB hb; have HB := mH_; clear mH_; have hz0 : w5.cell? ⟨w3.heap.size, 0, none⟩ = some (.int .i64 2) := (blk_cell B6.out 0).trans rfl; have hz1 : w5.cell? ⟨w3.heap.size, 1, none⟩ = some (.int .u64 0) := (blk_cell B6.out 1).trans rfl; have hz2 : w5.cell? ⟨w3.heap.size, 2, none⟩ = some (.int .u64 0) := (blk_cell B6.out 2).trans rfl; have hz3 : w5.cell? ⟨w3.heap.size, 3, none⟩ = some (.slice A l.length l.length) := (blk_cell B6.out 3).trans rfl; have hz4 : w5.cell? ⟨w3.heap.size, 4, none⟩ = some (.int .i64 0) := (blk_cell B6.out 4).trans rfl))
    go_ret
    exact ⟨rfl, HB.out⟩
set_option maxHeartbeats 4000000 in
theorem places_big (A : Option Addr) (c : Nat) (l : List Int) (n : Int) (w : World) (hbig : (l.length : Int) > 100) :
    Calls Try.prog 9 #[.slice A l.length c, .int .i64 n] w fun e w' => e = .returned (.bool true) ∧ Below w.heap.size w w' := by
  have p0 : decide ((l.length : Int) > 100) = true := decide_eq_true hbig
  have HB := Aside0.mk (Below.refl w.heap.size w)
  go_enter Try.func9, Try.ntmps9
  go_wp2
  go_ret
  exact ⟨rfl, HB.out⟩
open Classical in
/-- The law OrderPlaces, as the walk needs it. -/
noncomputable def pacemakerlaw07_OrderPlaces.f (_q : Nat) (_l : List Int) (_n : Int) : Option Bool := some true
theorem pacemakerlaw07_OrderPlaces.calls (q : Nat) (A : Option Addr) (c : Nat) (l : List Int) (n : Int) (r : Bool) (w : World) (hr : Kd.C (Kd.int .u64) w A l.length l) (hc : l.length ≤ c) (HT : Aside0 (r = true)) (_h : pacemakerlaw07_OrderPlaces.f q l n = some r) :
    Calls Try.prog 9 #[.slice A l.length c, .int .i64 n] w fun e w' => e = .returned (.bool r) ∧ Below w.heap.size w w' := by
  obtain rfl := HT.out
  by_cases h : (l.length : Int) > 100
  · exact places_big A c l n w h
  · by_cases g : n < 1 ∨ 64 < n
    · exact places_none A c l n w hr hc h g
    · obtain ⟨m, rfl⟩ : ∃ m : Nat, n = (m : Int) := ⟨n.toNat, by omega⟩
      exact places_walk A c l m w hr hc h (by omega) (by omega)
end Go.Proofs.Ytjiogchafnpkhaa.D
