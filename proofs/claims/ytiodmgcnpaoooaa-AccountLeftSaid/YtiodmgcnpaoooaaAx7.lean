-- Printed by wip/tools/myprint.py (this session's driver over the kit's printer, with functions proved by hand). Not trusted: Lean checks it.
import Derived.Test.YtiodmgcnpaoooaaAx0
namespace Go.Proofs.Ytiodmgcnpaoooaa.A
open Go.RowKit Go.Proofs.YtiodmgcnpaoooaaW.PrintWords Go.Proofs.YtiodmgcnpaoooaaW.PrintLast Go.Proofs.YtiodmgcnpaoooaaW.PrintMore
attribute [local go_sem] max2_int min2_int max_two min_two max_three min_three max_four min_four   -- for this text's walks alone
attribute [local go_sem] Go.Proofs.YtiodmgcnpaoooaaS.cell_set_map Go.Proofs.YtiodmgcnpaoooaaS.setCell_drewN
set_option linter.unusedVariables false
set_option linter.unusedSimpArgs false

/-! ### account_book_samples: function 35 -/
/-- All of a row lie in 0 to n times most. -/
def sampleOk (n most : Int) (l : List Int) : Bool := l.all fun x => decide (0 ≤ x) && decide (x ≤ wrap64 (n * most))
theorem sampleOk_take (n most : Int) (l : List Int) (i : Nat) (h : i < l.length) : sampleOk n most (l.take (i + 1)) = (sampleOk n most (l.take i) && (decide (0 ≤ l[i]) && decide (l[i] ≤ wrap64 (n * most)))) := by
  unfold sampleOk
  rw [List.take_succ_eq_append_getElem h, List.all_append]
  simp
theorem sampleOk_bad (n most : Int) (l : List Int) (i : Nat) (h : i < l.length) (hb : (decide (0 ≤ l[i]) && decide (l[i] ≤ wrap64 (n * most))) = false) : sampleOk n most l = false := by
  unfold sampleOk
  rw [List.all_eq_false]
  exact ⟨l[i], List.getElem_mem h, by rw [hb]; decide⟩
set_option maxHeartbeats 1000000 in
set_option maxRecDepth 100000 in
theorem samples_1.calls (most : Int) (A : Option Addr) (c : Nat) (l : List Int) (g : Nat) (a0_0 a0_1 a0_2 a0_3 a0_4 a0_5 a0_6 a0_7 a0_8 a0_9 a0_10 a0_11 a0_12 a0_13 a0_14 : Int) (w : World)
    (hr : Kd.C (Kd.int .i64) w A l.length l) (hg : w.heap[g]? = some (.cells #[.int .i64 a0_0, .int .i64 a0_1, .int .i64 a0_2, .int .i64 a0_3, .int .i64 a0_4, .int .i64 a0_5, .int .i64 a0_6, .int .i64 a0_7, .int .i64 a0_8, .int .i64 a0_9, .int .i64 a0_10, .int .i64 a0_11, .int .i64 a0_12, .int .i64 a0_13, .int .i64 a0_14] 42 (0, 0))) :
    Calls Try.prog 37 #[.int .i64 most, .slice A l.length c, .pointer (some ⟨g, 0, none⟩)] w fun e w' => e = .returned (.bool (sampleOk a0_9 most l)) ∧ w = w' := by
  have hmx : l.length ≤ 9223372036854775807 := hr.2.1
  have hri : ReadsInt w .i64 A l.length l := Kd.reads_of_C (d := (0 : Int)) hr
  have HRI := Aside0.mk hri
  have hc9 : w.cell? ⟨g, 9, none⟩ = some (.int .i64 a0_9) := (blk_cell hg 9).trans rfl
  clear hr hri hg
  go_enter Try.func37, Try.ntmps37
  go_wp2
  go_loop [10] (fun v10 => ∃ i : Nat, i ≤ l.length ∧ v10 = .int .i64 i ∧ Aside0 (sampleOk a0_9 most (l.take i) = true)) (fun v10 => l.length - (intOf v10).toNat)
  case atStart => exact ⟨0, Nat.zero_le _, rfl, ⟨rfl⟩⟩
  case round =>
    obtain ⟨i, hi, rfl, HA⟩ := hrel
    by_cases hlt : i < l.length
    · obtain ⟨ad, e, hx⟩ := HRI.out.at_ (i : Int) (by omega) (by omega)
      have hrd : rd l (i : Int) = l[i] := by simp [rd, hlt]
      rw [hrd, Int.toNat_natCast] at hx
      obtain ⟨x, hxe⟩ : ∃ x : Int, l[i] = x := ⟨_, rfl⟩
      rw [hxe] at hx
      have HX := Aside0.mk hxe
      clear hrd hxe
      have E2 := Aside0.mk e
      clear e
      obtain rfl := E2.out
      clear E2
      have hi0 : (0 : Int) ≤ (i : Int) := Int.natCast_nonneg _
      have hi1 : (i : Int) < (l.length : Int) := by omega
      have hbad : ∀ b : Bool, (decide (0 ≤ x) && decide (x ≤ wrap64 (a0_9 * most))) = b → Aside0 ((decide (0 ≤ l[i]) && decide (l[i] ≤ wrap64 (a0_9 * most))) = b) := fun b h => ⟨by rw [HX.out]; exact h⟩
      by_cases h1 : x < 0
      · have HB := hbad false (by simp; omega)
        clear hbad
        have c1 : decide (x < 0) = true := decide_eq_true h1
        go_wp2
        go_ret
        exact ⟨by rw [sampleOk_bad _ _ _ _ hlt HB.out]; rfl, rfl⟩
      · have c1 : decide (x < 0) = false := decide_eq_false h1
        by_cases h2 : wrap64 (a0_9 * most) < x
        · have HB := hbad false (by simp; omega)
          clear hbad
          have c2 : decide (wrap64 (a0_9 * most) < x) = true := decide_eq_true h2
          clear h2
          go_wp2
          go_ret
          exact ⟨by rw [sampleOk_bad _ _ _ _ hlt HB.out]; rfl, rfl⟩
        · have HB := hbad true (by simp; omega)
          clear hbad
          have c2 : decide (wrap64 (a0_9 * most) < x) = false := decide_eq_false h2
          clear h2
          go_wp2
          go_round
          case rel => exact ⟨i + 1, by omega, by go_num, ⟨by rw [sampleOk_take _ _ _ _ hlt, HA.out, HB.out]; rfl⟩⟩
          case measure => simp [intOf]; omega
    · have hie : i = l.length := by omega
      have HA2 : Aside0 (sampleOk a0_9 most l = true) := ⟨by have := HA.out; rwa [List.take_of_length_le (by omega)] at this⟩
      clear hie
      go_wp2
      go_ret
      exact ⟨by rw [HA2.out]; rfl, rfl⟩
def account_book_samples.f (a0_0 a0_1 a0_2 a0_3 a0_4 a0_5 a0_6 a0_7 a0_8 a0_9 a0_10 a0_11 a0_12 a0_13 a0_14 : Int) : Option Bool :=
  if a0_9 < 0 then some false else if 1024 < a0_9 then some false else if a0_7 < a0_9 then some false
  else some (sampleOk a0_9 60000000 [a0_10, a0_11] && sampleOk a0_9 3600000000000000 [a0_12, a0_13, a0_14])
theorem C_block (W : World) (g t : Nat) (xs : List Int) (h : W.heap[g]? = some (.cells (xs.map (Value.int .i64)).toArray t (0, 0))) (hl : xs.length ≤ 9223372036854775807) : Kd.C (Kd.int .i64) W (some ⟨g, 0, none⟩) xs.length xs := by
  refine ⟨rfl, hl, fun _ => ⟨_, rfl, fun j p hj => ⟨[.int .i64 p], rfl, rfl, fun i u hu => ?_⟩⟩⟩
  have hi : i = 0 := by
    have := (List.getElem?_eq_some_iff.1 hu).1
    simpa using this
  subst hi
  have hu' : Value.int .i64 p = u := by simpa using hu
  subst hu'
  have h1 : (1 : Nat) = (Kd.int .i64).sz := rfl
  rw [← h1, Nat.mul_one, Nat.add_zero, add_plain, blk_cell h]
  simp [hj]
set_option maxHeartbeats 4000000 in
set_option maxRecDepth 100000 in
theorem account_book_samples.calls (a0_0 a0_1 a0_2 a0_3 a0_4 a0_5 a0_6 a0_7 a0_8 a0_9 a0_10 a0_11 a0_12 a0_13 a0_14 : Int) (r : Bool) (w : World) (h : account_book_samples.f a0_0 a0_1 a0_2 a0_3 a0_4 a0_5 a0_6 a0_7 a0_8 a0_9 a0_10 a0_11 a0_12 a0_13 a0_14 = some r) :
    Calls Try.prog 35 #[.agg #[.int .i64 a0_0, .int .i64 a0_1, .int .i64 a0_2, .int .i64 a0_3, .int .i64 a0_4, .int .i64 a0_5, .int .i64 a0_6, .int .i64 a0_7, .int .i64 a0_8, .int .i64 a0_9, .int .i64 a0_10, .int .i64 a0_11, .int .i64 a0_12, .int .i64 a0_13, .int .i64 a0_14]] w fun e w' => e = .returned (.bool r) ∧ Below w.heap.size w w' := by
  have hu42 := Try.underlying42
  have B1 := Aside0.mk (heap_alloc_new w (.cells #[.int .i64 a0_0, .int .i64 a0_1, .int .i64 a0_2, .int .i64 a0_3, .int .i64 a0_4, .int .i64 a0_5, .int .i64 a0_6, .int .i64 a0_7, .int .i64 a0_8, .int .i64 a0_9, .int .i64 a0_10, .int .i64 a0_11, .int .i64 a0_12, .int .i64 a0_13, .int .i64 a0_14] 42 (0, 0)))
  have HB := Aside0.mk (below_alloc (Below.refl w.heap.size w) (.cells #[.int .i64 a0_0, .int .i64 a0_1, .int .i64 a0_2, .int .i64 a0_3, .int .i64 a0_4, .int .i64 a0_5, .int .i64 a0_6, .int .i64 a0_7, .int .i64 a0_8, .int .i64 a0_9, .int .i64 a0_10, .int .i64 a0_11, .int .i64 a0_12, .int .i64 a0_13, .int .i64 a0_14] 42 (0, 0)))
  unfold account_book_samples.f at h
  by_cases h1 : a0_9 < 0
  · rw [if_pos h1] at h
    obtain rfl := Option.some.inj h
    have c1 : decide (a0_9 < 0) = true := decide_eq_true h1
    go_enter Try.func35, Try.ntmps35
    go_wp2_with fail
    go_ret
    exact ⟨rfl, HB.out⟩
  rw [if_neg h1] at h
  have c1 : decide (a0_9 < 0) = false := decide_eq_false h1
  by_cases h2 : 1024 < a0_9
  · rw [if_pos h2] at h
    obtain rfl := Option.some.inj h
    have c2 : decide (1024 < a0_9) = true := decide_eq_true h2
    go_enter Try.func35, Try.ntmps35
    go_wp2_with fail
    go_ret
    exact ⟨rfl, HB.out⟩
  rw [if_neg h2] at h
  have c2 : decide (1024 < a0_9) = false := decide_eq_false h2
  by_cases h3 : a0_7 < a0_9
  · rw [if_pos h3] at h
    obtain rfl := Option.some.inj h
    have c3 : decide (a0_7 < a0_9) = true := decide_eq_true h3
    go_enter Try.func35, Try.ntmps35
    go_wp2_with fail
    go_ret
    exact ⟨rfl, HB.out⟩
  rw [if_neg h3] at h
  have c3 : decide (a0_7 < a0_9) = false := decide_eq_false h3
  have HR := Aside0.mk (Option.some.inj h)
  clear h
  have BA := Aside0.mk (heap_alloc_new (w.alloc (.cells #[.int .i64 a0_0, .int .i64 a0_1, .int .i64 a0_2, .int .i64 a0_3, .int .i64 a0_4, .int .i64 a0_5, .int .i64 a0_6, .int .i64 a0_7, .int .i64 a0_8, .int .i64 a0_9, .int .i64 a0_10, .int .i64 a0_11, .int .i64 a0_12, .int .i64 a0_13, .int .i64 a0_14] 42 (0, 0))) (.cells #[.int .i64 a0_10, .int .i64 a0_11] 3 (0, 0)))
  have B2 := Aside0.mk (blk_alloc B1.out (.cells #[.int .i64 a0_10, .int .i64 a0_11] 3 (0, 0)))
  have HB2 := Aside0.mk (below_alloc HB.out (.cells #[.int .i64 a0_10, .int .i64 a0_11] 3 (0, 0)))
  rw [Go.Proofs.YtiodmgcnpaoooaaS.size_alloc] at BA
  go_enter Try.func35, Try.ntmps35
  go_wp2_with fail
  refine (samples_1.calls 60000000 _ 2 [a0_10, a0_11] _ a0_0 a0_1 a0_2 a0_3 a0_4 a0_5 a0_6 a0_7 a0_8 a0_9 a0_10 a0_11 a0_12 a0_13 a0_14 _ ?h1 B2.out).mono ?_
  case h1 => exact C_block _ _ 3 _ BA.out (by simp)
  rintro e w' ⟨rfl, rfl⟩
  cases hs : sampleOk a0_9 60000000 [a0_10, a0_11] with
  | false =>
    go_wp2_with fail
    go_ret
    exact ⟨by rw [← HR.out, hs]; rfl, HB2.out⟩
  | true =>
    go_wp2_with fail
    refine (samples_1.calls 3600000000000000 _ 3 [a0_12, a0_13, a0_14] _ a0_0 a0_1 a0_2 a0_3 a0_4 a0_5 a0_6 a0_7 a0_8 a0_9 a0_10 a0_11 a0_12 a0_13 a0_14 _ ?h2 (blk_alloc B2.out _)).mono ?_
    case h2 => exact C_block _ _ 3 _ (by have := heap_alloc_new ((w.alloc (.cells #[.int .i64 a0_0, .int .i64 a0_1, .int .i64 a0_2, .int .i64 a0_3, .int .i64 a0_4, .int .i64 a0_5, .int .i64 a0_6, .int .i64 a0_7, .int .i64 a0_8, .int .i64 a0_9, .int .i64 a0_10, .int .i64 a0_11, .int .i64 a0_12, .int .i64 a0_13, .int .i64 a0_14] 42 (0, 0))).alloc (.cells #[.int .i64 a0_10, .int .i64 a0_11] 3 (0, 0))) (.cells #[.int .i64 a0_12, .int .i64 a0_13, .int .i64 a0_14] 3 (0, 0)); rw [Go.Proofs.YtiodmgcnpaoooaaS.size_alloc, Go.Proofs.YtiodmgcnpaoooaaS.size_alloc] at this; exact this) (by simp)
    rintro e w' ⟨rfl, rfl⟩
    go_wp2_with fail
    go_ret
    exact ⟨by rw [← HR.out, hs]; rfl, below_alloc HB2.out _⟩

end Go.Proofs.Ytiodmgcnpaoooaa.A
