-- Printed by wip/tools/myprint.py (this session's driver over the kit's printer, with functions proved by hand). Not trusted: Lean checks it.
import Derived.Test.YtiodmgcnpaoooaaAx0
import Derived.Test.YtiodmgcnpaoooaaAx2
import Derived.Test.YtiodmgcnpaoooaaAx3
import Derived.Test.YtiodmgcnpaoooaaAx6
import Derived.Test.YtiodmgcnpaoooaaAx7
namespace Go.Proofs.Ytiodmgcnpaoooaa.A
open Go.RowKit Go.Proofs.YtiodmgcnpaoooaaW.PrintWords Go.Proofs.YtiodmgcnpaoooaaW.PrintLast Go.Proofs.YtiodmgcnpaoooaaW.PrintMore
attribute [local go_sem] max2_int min2_int max_two min_two max_three min_three max_four min_four   -- for this text's walks alone
attribute [local go_sem] Go.Proofs.YtiodmgcnpaoooaaS.cell_set_map Go.Proofs.YtiodmgcnpaoooaaS.setCell_drewN
set_option linter.unusedVariables false
set_option linter.unusedSimpArgs false

/-! ### account_shut_right: function 29 -/
def account_shut_right.j0 : Nat → Bool → Int → Int → Int → Int → Int → Int → Int → Int → Int → Int → Int → Int → Int → Int → Int → Option (Bool)
  | 0, _, _, _, _, _, _, _, _, _, _, _, _, _, _, _, _ => none
  | k + 1, x41, x109000, x109001, x109002, x109003, x109004, x109005, x109006, x109007, x109008, x109009, x109010, x109011, x109012, x109013, x109014 => if x41 = true then (some false) else ((account_book_counts.f x109000 x109001 x109002 x109003 x109004 x109005 x109006 x109007 x109008 x109009 x109010 x109011 x109012 x109013 x109014).bind fun t111 => (if t111 = true then ((account_book_bytes.f x109000 x109001 x109002 x109003 x109004 x109005 x109006 x109007 x109008 x109009 x109010 x109011 x109012 x109013 x109014).bind fun t112 => (if t112 = true then ((account_book_samples.f x109000 x109001 x109002 x109003 x109004 x109005 x109006 x109007 x109008 x109009 x109010 x109011 x109012 x109013 x109014).bind fun t113 => (some t113)) else (some false))) else (some false)))
def account_shut_right.f (k : Nat) (a0_0 : Int) (a0_1 : Int) (a0_2 : Int) (a0_3 : Int) (a0_4 : Int) (a0_5 : Int) (a0_6 : Int) (a0_7 : Int) (a0_8 : Int) (a0_9 : Int) (a0_10 : Int) (a0_11 : Int) (a0_12 : Int) (a0_13 : Int) (a0_14 : Int) : Option (Bool) := if a0_0 < 0 then (account_shut_right.j0 k true a0_0 a0_1 a0_2 a0_3 a0_4 a0_5 a0_6 a0_7 a0_8 a0_9 a0_10 a0_11 a0_12 a0_13 a0_14) else ((account_time.f a0_1).bind fun t109 => (if t109 = true then (if a0_2 = (-1) then (account_shut_right.j0 k false a0_0 a0_1 a0_2 a0_3 a0_4 a0_5 a0_6 a0_7 a0_8 a0_9 a0_10 a0_11 a0_12 a0_13 a0_14) else ((account_time.f a0_2).bind fun t110 => (if t110 = true then (account_shut_right.j0 k (decide (a0_2 < a0_1)) a0_0 a0_1 a0_2 a0_3 a0_4 a0_5 a0_6 a0_7 a0_8 a0_9 a0_10 a0_11 a0_12 a0_13 a0_14) else (account_shut_right.j0 k true a0_0 a0_1 a0_2 a0_3 a0_4 a0_5 a0_6 a0_7 a0_8 a0_9 a0_10 a0_11 a0_12 a0_13 a0_14)))) else (account_shut_right.j0 k true a0_0 a0_1 a0_2 a0_3 a0_4 a0_5 a0_6 a0_7 a0_8 a0_9 a0_10 a0_11 a0_12 a0_13 a0_14)))
theorem account_shut_right.mono_l : ∀ k, (∀ y0 y1 y2 y3 y4 y5 y6 y7 y8 y9 y10 y11 y12 y13 y14 y15, LeO (account_shut_right.j0 k y0 y1 y2 y3 y4 y5 y6 y7 y8 y9 y10 y11 y12 y13 y14 y15) (account_shut_right.j0 (k + 1) y0 y1 y2 y3 y4 y5 y6 y7 y8 y9 y10 y11 y12 y13 y14 y15))
  | 0 => fun _ _ _ _ _ _ _ _ _ _ _ _ _ _ _ _ r h => by simp [account_shut_right.j0] at h
  | k + 1 => by
    have ih0 := account_shut_right.mono_l k
    · intro y0 y1 y2 y3 y4 y5 y6 y7 y8 y9 y10 y11 y12 y13 y14 y15
      unfold account_shut_right.j0
      repeat' first
      | (with_reducible exact ih0 _ _ _ _ _ _ _ _ _ _ _ _ _ _ _ _)
      | (with_reducible exact LeO.refl _)
      | (with_reducible exact LeO.none _)
      | (with_reducible refine LeO.ite ?_ ?_)
      | (with_reducible refine LeO.bind ?_ (fun _ => ?_))
      | exact ih0 _ _ _ _ _ _ _ _ _ _ _ _ _ _ _ _
      | exact LeO.none _
      | refine LeO.ite ?_ ?_
      | refine LeO.bind ?_ (fun _ => ?_)
theorem account_shut_right.mono : ∀ a0 a1 a2 a3 a4 a5 a6 a7 a8 a9 a10 a11 a12 a13 a14 k, LeO (account_shut_right.f k a0 a1 a2 a3 a4 a5 a6 a7 a8 a9 a10 a11 a12 a13 a14) (account_shut_right.f (k + 1) a0 a1 a2 a3 a4 a5 a6 a7 a8 a9 a10 a11 a12 a13 a14) := by
  intro a0 a1 a2 a3 a4 a5 a6 a7 a8 a9 a10 a11 a12 a13 a14 k
  have ih0 := account_shut_right.mono_l k
  unfold account_shut_right.f
  repeat' first
      | (with_reducible exact ih0 _ _ _ _ _ _ _ _ _ _ _ _ _ _ _ _)
      | (with_reducible exact LeO.refl _)
      | (with_reducible exact LeO.none _)
      | (with_reducible refine LeO.ite ?_ ?_)
      | (with_reducible refine LeO.bind ?_ (fun _ => ?_))
      | exact ih0 _ _ _ _ _ _ _ _ _ _ _ _ _ _ _ _
      | exact LeO.none _
      | refine LeO.ite ?_ ?_
      | refine LeO.bind ?_ (fun _ => ?_)
set_option maxHeartbeats 8000000 in
set_option maxRecDepth 100000 in
theorem account_shut_right.calls (k : Nat) (a0_0 : Int) (a0_1 : Int) (a0_2 : Int) (a0_3 : Int) (a0_4 : Int) (a0_5 : Int) (a0_6 : Int) (a0_7 : Int) (a0_8 : Int) (a0_9 : Int) (a0_10 : Int) (a0_11 : Int) (a0_12 : Int) (a0_13 : Int) (a0_14 : Int) (r : Bool) (w : World) (h : account_shut_right.f k a0_0 a0_1 a0_2 a0_3 a0_4 a0_5 a0_6 a0_7 a0_8 a0_9 a0_10 a0_11 a0_12 a0_13 a0_14 = some r) :
    Calls Try.prog 29 #[.agg #[.int .i64 a0_0, .int .i64 a0_1, .int .i64 a0_2, .int .i64 a0_3, .int .i64 a0_4, .int .i64 a0_5, .int .i64 a0_6, .int .i64 a0_7, .int .i64 a0_8, .int .i64 a0_9, .int .i64 a0_10, .int .i64 a0_11, .int .i64 a0_12, .int .i64 a0_13, .int .i64 a0_14]] w fun e w' => e = .returned (.bool r) ∧ Below w.heap.size w w' := by
  have hu44 := Try.underlying44
  have hu42 := Try.underlying42
  have HB := Aside0.mk (Below.refl w.heap.size w)
  have H : (if a0_0 < 0 then (account_shut_right.j0 k true a0_0 a0_1 a0_2 a0_3 a0_4 a0_5 a0_6 a0_7 a0_8 a0_9 a0_10 a0_11 a0_12 a0_13 a0_14) else ((account_time.f a0_1).bind fun t109 => (if t109 = true then (if a0_2 = (-1) then (account_shut_right.j0 k false a0_0 a0_1 a0_2 a0_3 a0_4 a0_5 a0_6 a0_7 a0_8 a0_9 a0_10 a0_11 a0_12 a0_13 a0_14) else ((account_time.f a0_2).bind fun t110 => (if t110 = true then (account_shut_right.j0 k (decide (a0_2 < a0_1)) a0_0 a0_1 a0_2 a0_3 a0_4 a0_5 a0_6 a0_7 a0_8 a0_9 a0_10 a0_11 a0_12 a0_13 a0_14) else (account_shut_right.j0 k true a0_0 a0_1 a0_2 a0_3 a0_4 a0_5 a0_6 a0_7 a0_8 a0_9 a0_10 a0_11 a0_12 a0_13 a0_14)))) else (account_shut_right.j0 k true a0_0 a0_1 a0_2 a0_3 a0_4 a0_5 a0_6 a0_7 a0_8 a0_9 a0_10 a0_11 a0_12 a0_13 a0_14)))) = some r := h
  clear h
  have HC2 := Aside0.mk H
  clear H
  go_enter Try.func29, Try.ntmps29
  go_upto_region 1 with (first | ((with_reducible refine gate_dst (N := 1) rfl ?_); refine box_event ?hg (N := 1) ?hd (cs := #[.int .i64 a0_0, .int .i64 a0_1, .int .i64 a0_2, .int .i64 a0_3, .int .i64 a0_4, .int .i64 a0_5, .int .i64 a0_6, .int .i64 a0_7, .int .i64 a0_8, .int .i64 a0_9, .int .i64 a0_10, .int .i64 a0_11, .int .i64 a0_12, .int .i64 a0_13, .int .i64 a0_14]) (t := 44) ?hr ?_; (case hd => rfl); (case hg => rfl); (case hr => first | (go_simp; done) | (go_simp; rfl)); intro gb108 hg w3 hbox hb; have n0_ := Aside0.mk (below_step (by repeat (first | (with_reducible first | exact HB.out | apply below_alloc | apply pw_below_drewN | apply below_drew1) | exact HB.out)) hb); have n1_ := Aside0.mk (hbox); have n2_ := Aside0.mk ((by rw [hg]; exact (below_size (by repeat (first | (with_reducible first | exact HB.out | apply below_alloc | apply pw_below_drewN | apply below_drew1) | exact HB.out))) : w.heap.size ≤ gb108)); have n3_ := Aside0.mk ((by rw [hg]; exact (below_size (by repeat (first | (with_reducible first | exact HB.out | apply below_alloc | apply pw_below_drewN | apply below_drew1) | exact HB.out))) : w.heap.size ≤ gb108)); clear HB; have HB := n0_; have BK108 := n1_; have GW108 := n2_; have GE108 := n3_; clear n0_ n1_ n2_ n3_; clear hb hbox hg))
  (try simp only [Act.put, List.setIfInBounds_toArray, List.set_cons_zero, List.set_cons_succ])
  go_cut [41] (fun v41 wc => ∃ (kq : Nat) (x41_1 : Bool), v41 = .bool x41_1 ∧ Aside0 (account_shut_right.j0 kq x41_1 a0_0 a0_1 a0_2 a0_3 a0_4 a0_5 a0_6 a0_7 a0_8 a0_9 a0_10 a0_11 a0_12 a0_13 a0_14 = some r) ∧ Aside0 (kq ≤ k) ∧ Aside0 (wc.heap[gb108]? = some (.cells #[.int .i64 a0_0, .int .i64 a0_1, .int .i64 a0_2, .int .i64 a0_3, .int .i64 a0_4, .int .i64 a0_5, .int .i64 a0_6, .int .i64 a0_7, .int .i64 a0_8, .int .i64 a0_9, .int .i64 a0_10, .int .i64 a0_11, .int .i64 a0_12, .int .i64 a0_13, .int .i64 a0_14] 44 (0, 0))) ∧ Aside0 (Below w.heap.size w wc))
  case first =>
    have H := HC2.out
    clear HC2
    by_cases c4 : a0_0 < 0
    · rw [if_pos c4] at H
      have c4b0 : decide (a0_0 < 0) = true := decide_eq_true c4
      clear c4
      (first | rw [c4b0] | (simp only [i64_w, i32_w]; rw [c4b0]) | skip)
      have H' := Aside0.mk H
      clear H
      have hcz5_0 : w3.cell? ⟨gb108, 0, none⟩ = some (.int .i64 a0_0) := (blk_cell BK108.out 0).trans rfl
      have hcz5_1 : w3.cell? ⟨gb108, 1, none⟩ = some (.int .i64 a0_1) := (blk_cell BK108.out 1).trans rfl
      have hcz5_2 : w3.cell? ⟨gb108, 2, none⟩ = some (.int .i64 a0_2) := (blk_cell BK108.out 2).trans rfl
      have hcz5_3 : w3.cell? ⟨gb108, 3, none⟩ = some (.int .i64 a0_3) := (blk_cell BK108.out 3).trans rfl
      have hcz5_4 : w3.cell? ⟨gb108, 4, none⟩ = some (.int .i64 a0_4) := (blk_cell BK108.out 4).trans rfl
      have hcz5_5 : w3.cell? ⟨gb108, 5, none⟩ = some (.int .i64 a0_5) := (blk_cell BK108.out 5).trans rfl
      have hcz5_6 : w3.cell? ⟨gb108, 6, none⟩ = some (.int .i64 a0_6) := (blk_cell BK108.out 6).trans rfl
      have hcz5_7 : w3.cell? ⟨gb108, 7, none⟩ = some (.int .i64 a0_7) := (blk_cell BK108.out 7).trans rfl
      have hcz5_8 : w3.cell? ⟨gb108, 8, none⟩ = some (.int .i64 a0_8) := (blk_cell BK108.out 8).trans rfl
      have hcz5_9 : w3.cell? ⟨gb108, 9, none⟩ = some (.int .i64 a0_9) := (blk_cell BK108.out 9).trans rfl
      have hcz5_10 : w3.cell? ⟨gb108, 10, none⟩ = some (.int .i64 a0_10) := (blk_cell BK108.out 10).trans rfl
      have hcz5_11 : w3.cell? ⟨gb108, 11, none⟩ = some (.int .i64 a0_11) := (blk_cell BK108.out 11).trans rfl
      have hcz5_12 : w3.cell? ⟨gb108, 12, none⟩ = some (.int .i64 a0_12) := (blk_cell BK108.out 12).trans rfl
      have hcz5_13 : w3.cell? ⟨gb108, 13, none⟩ = some (.int .i64 a0_13) := (blk_cell BK108.out 13).trans rfl
      have hcz5_14 : w3.cell? ⟨gb108, 14, none⟩ = some (.int .i64 a0_14) := (blk_cell BK108.out 14).trans rfl
      have hfz5_0 := blk_frozen BK108.out 0
      have hfz5_1 := blk_frozen BK108.out 1
      have hfz5_2 := blk_frozen BK108.out 2
      have hfz5_3 := blk_frozen BK108.out 3
      have hfz5_4 := blk_frozen BK108.out 4
      have hfz5_5 := blk_frozen BK108.out 5
      have hfz5_6 := blk_frozen BK108.out 6
      have hfz5_7 := blk_frozen BK108.out 7
      have hfz5_8 := blk_frozen BK108.out 8
      have hfz5_9 := blk_frozen BK108.out 9
      have hfz5_10 := blk_frozen BK108.out 10
      have hfz5_11 := blk_frozen BK108.out 11
      have hfz5_12 := blk_frozen BK108.out 12
      have hfz5_13 := blk_frozen BK108.out 13
      have hfz5_14 := blk_frozen BK108.out 14
      go_wp2
      go_meet
      case rel => exact ⟨_, (true), (by first | rfl | (simp; done) | (simp [*]; done)), H', ⟨by first | omega | exact Nat.le_refl _⟩, ⟨by (with_reducible repeat (first | refine blk_drewN ?_ _ | refine blk_drew ?_ | refine blk_alloc ?_ _)); exact BK108.out⟩, ⟨by repeat (first | (with_reducible first | exact HB.out | apply below_alloc | apply pw_below_drewN | apply below_drew1 | refine below_set ?_ GE108.out) | exact HB.out)⟩⟩
    · rw [if_neg c4] at H
      have c4b0 : decide (a0_0 < 0) = false := decide_eq_false c4
      clear c4
      (first | rw [c4b0] | (simp only [i64_w, i32_w]; rw [c4b0]) | skip)
      replace H := Option.bind_eq_some_iff.mp H
      obtain ⟨t109, A60, H⟩ := H
      replace H : (if t109 = true then (if a0_2 = (-1) then (account_shut_right.j0 k false a0_0 a0_1 a0_2 a0_3 a0_4 a0_5 a0_6 a0_7 a0_8 a0_9 a0_10 a0_11 a0_12 a0_13 a0_14) else ((account_time.f a0_2).bind fun t110 => (if t110 = true then (account_shut_right.j0 k (decide (a0_2 < a0_1)) a0_0 a0_1 a0_2 a0_3 a0_4 a0_5 a0_6 a0_7 a0_8 a0_9 a0_10 a0_11 a0_12 a0_13 a0_14) else (account_shut_right.j0 k true a0_0 a0_1 a0_2 a0_3 a0_4 a0_5 a0_6 a0_7 a0_8 a0_9 a0_10 a0_11 a0_12 a0_13 a0_14)))) else (account_shut_right.j0 k true a0_0 a0_1 a0_2 a0_3 a0_4 a0_5 a0_6 a0_7 a0_8 a0_9 a0_10 a0_11 a0_12 a0_13 a0_14)) = some r := H
      have A6 := Aside0.mk A60
      clear A60
      by_cases c7 : t109 = true
      · subst c7
        have H1 : (if a0_2 = (-1) then (account_shut_right.j0 k false a0_0 a0_1 a0_2 a0_3 a0_4 a0_5 a0_6 a0_7 a0_8 a0_9 a0_10 a0_11 a0_12 a0_13 a0_14) else ((account_time.f a0_2).bind fun t110 => (if t110 = true then (account_shut_right.j0 k (decide (a0_2 < a0_1)) a0_0 a0_1 a0_2 a0_3 a0_4 a0_5 a0_6 a0_7 a0_8 a0_9 a0_10 a0_11 a0_12 a0_13 a0_14) else (account_shut_right.j0 k true a0_0 a0_1 a0_2 a0_3 a0_4 a0_5 a0_6 a0_7 a0_8 a0_9 a0_10 a0_11 a0_12 a0_13 a0_14)))) = some r := by rw [if_pos rfl] at H; exact H
        clear H
        have H := H1
        clear H1
        by_cases c8 : a0_2 = (-1)
        · rw [if_pos c8] at H
          have c8b0 : (a0_2 == (-1)) = true := beq_iff_eq.mpr c8
          have c8b1 : (a0_2 != (-1)) = false := bne_eq_false_iff_eq.mpr c8
          clear c8
          have H' := Aside0.mk H
          clear H
          have hcz9_0 : w3.cell? ⟨gb108, 0, none⟩ = some (.int .i64 a0_0) := (blk_cell BK108.out 0).trans rfl
          have hcz9_1 : w3.cell? ⟨gb108, 1, none⟩ = some (.int .i64 a0_1) := (blk_cell BK108.out 1).trans rfl
          have hcz9_2 : w3.cell? ⟨gb108, 2, none⟩ = some (.int .i64 a0_2) := (blk_cell BK108.out 2).trans rfl
          have hcz9_3 : w3.cell? ⟨gb108, 3, none⟩ = some (.int .i64 a0_3) := (blk_cell BK108.out 3).trans rfl
          have hcz9_4 : w3.cell? ⟨gb108, 4, none⟩ = some (.int .i64 a0_4) := (blk_cell BK108.out 4).trans rfl
          have hcz9_5 : w3.cell? ⟨gb108, 5, none⟩ = some (.int .i64 a0_5) := (blk_cell BK108.out 5).trans rfl
          have hcz9_6 : w3.cell? ⟨gb108, 6, none⟩ = some (.int .i64 a0_6) := (blk_cell BK108.out 6).trans rfl
          have hcz9_7 : w3.cell? ⟨gb108, 7, none⟩ = some (.int .i64 a0_7) := (blk_cell BK108.out 7).trans rfl
          have hcz9_8 : w3.cell? ⟨gb108, 8, none⟩ = some (.int .i64 a0_8) := (blk_cell BK108.out 8).trans rfl
          have hcz9_9 : w3.cell? ⟨gb108, 9, none⟩ = some (.int .i64 a0_9) := (blk_cell BK108.out 9).trans rfl
          have hcz9_10 : w3.cell? ⟨gb108, 10, none⟩ = some (.int .i64 a0_10) := (blk_cell BK108.out 10).trans rfl
          have hcz9_11 : w3.cell? ⟨gb108, 11, none⟩ = some (.int .i64 a0_11) := (blk_cell BK108.out 11).trans rfl
          have hcz9_12 : w3.cell? ⟨gb108, 12, none⟩ = some (.int .i64 a0_12) := (blk_cell BK108.out 12).trans rfl
          have hcz9_13 : w3.cell? ⟨gb108, 13, none⟩ = some (.int .i64 a0_13) := (blk_cell BK108.out 13).trans rfl
          have hcz9_14 : w3.cell? ⟨gb108, 14, none⟩ = some (.int .i64 a0_14) := (blk_cell BK108.out 14).trans rfl
          have hfz9_0 := blk_frozen BK108.out 0
          have hfz9_1 := blk_frozen BK108.out 1
          have hfz9_2 := blk_frozen BK108.out 2
          have hfz9_3 := blk_frozen BK108.out 3
          have hfz9_4 := blk_frozen BK108.out 4
          have hfz9_5 := blk_frozen BK108.out 5
          have hfz9_6 := blk_frozen BK108.out 6
          have hfz9_7 := blk_frozen BK108.out 7
          have hfz9_8 := blk_frozen BK108.out 8
          have hfz9_9 := blk_frozen BK108.out 9
          have hfz9_10 := blk_frozen BK108.out 10
          have hfz9_11 := blk_frozen BK108.out 11
          have hfz9_12 := blk_frozen BK108.out 12
          have hfz9_13 := blk_frozen BK108.out 13
          have hfz9_14 := blk_frozen BK108.out 14
          go_wp2_with (first | (go_at_call 25; (with_reducible refine (account_time.calls a0_1 true _ A6.out).mono ?_); rintro e w' ⟨rfl, ⟨nd, rfl⟩⟩))
          go_meet
          case rel => exact ⟨_, (false), (by first | rfl | (simp; done) | (simp [*]; done)), H', ⟨by first | omega | exact Nat.le_refl _⟩, ⟨by (with_reducible repeat (first | refine blk_drewN ?_ _ | refine blk_drew ?_ | refine blk_alloc ?_ _)); exact BK108.out⟩, ⟨by repeat (first | (with_reducible first | exact HB.out | apply below_alloc | apply pw_below_drewN | apply below_drew1 | refine below_set ?_ GE108.out) | exact HB.out)⟩⟩
        · rw [if_neg c8] at H
          have c8b0 : (a0_2 == (-1)) = false := beq_eq_false_iff_ne.mpr c8
          have c8b1 : (a0_2 != (-1)) = true := bne_iff_ne.mpr c8
          replace H := Option.bind_eq_some_iff.mp H
          obtain ⟨t110, A100, H⟩ := H
          replace H : (if t110 = true then (account_shut_right.j0 k (decide (a0_2 < a0_1)) a0_0 a0_1 a0_2 a0_3 a0_4 a0_5 a0_6 a0_7 a0_8 a0_9 a0_10 a0_11 a0_12 a0_13 a0_14) else (account_shut_right.j0 k true a0_0 a0_1 a0_2 a0_3 a0_4 a0_5 a0_6 a0_7 a0_8 a0_9 a0_10 a0_11 a0_12 a0_13 a0_14)) = some r := H
          have A10 := Aside0.mk A100
          clear A100
          by_cases c11 : t110 = true
          · subst c11
            have H1 : (account_shut_right.j0 k (decide (a0_2 < a0_1)) a0_0 a0_1 a0_2 a0_3 a0_4 a0_5 a0_6 a0_7 a0_8 a0_9 a0_10 a0_11 a0_12 a0_13 a0_14) = some r := by rw [if_pos rfl] at H; exact H
            clear H
            have H := H1
            clear H1
            have H' := Aside0.mk H
            clear H
            have hcz12_0 : w3.cell? ⟨gb108, 0, none⟩ = some (.int .i64 a0_0) := (blk_cell BK108.out 0).trans rfl
            have hcz12_1 : w3.cell? ⟨gb108, 1, none⟩ = some (.int .i64 a0_1) := (blk_cell BK108.out 1).trans rfl
            have hcz12_2 : w3.cell? ⟨gb108, 2, none⟩ = some (.int .i64 a0_2) := (blk_cell BK108.out 2).trans rfl
            have hcz12_3 : w3.cell? ⟨gb108, 3, none⟩ = some (.int .i64 a0_3) := (blk_cell BK108.out 3).trans rfl
            have hcz12_4 : w3.cell? ⟨gb108, 4, none⟩ = some (.int .i64 a0_4) := (blk_cell BK108.out 4).trans rfl
            have hcz12_5 : w3.cell? ⟨gb108, 5, none⟩ = some (.int .i64 a0_5) := (blk_cell BK108.out 5).trans rfl
            have hcz12_6 : w3.cell? ⟨gb108, 6, none⟩ = some (.int .i64 a0_6) := (blk_cell BK108.out 6).trans rfl
            have hcz12_7 : w3.cell? ⟨gb108, 7, none⟩ = some (.int .i64 a0_7) := (blk_cell BK108.out 7).trans rfl
            have hcz12_8 : w3.cell? ⟨gb108, 8, none⟩ = some (.int .i64 a0_8) := (blk_cell BK108.out 8).trans rfl
            have hcz12_9 : w3.cell? ⟨gb108, 9, none⟩ = some (.int .i64 a0_9) := (blk_cell BK108.out 9).trans rfl
            have hcz12_10 : w3.cell? ⟨gb108, 10, none⟩ = some (.int .i64 a0_10) := (blk_cell BK108.out 10).trans rfl
            have hcz12_11 : w3.cell? ⟨gb108, 11, none⟩ = some (.int .i64 a0_11) := (blk_cell BK108.out 11).trans rfl
            have hcz12_12 : w3.cell? ⟨gb108, 12, none⟩ = some (.int .i64 a0_12) := (blk_cell BK108.out 12).trans rfl
            have hcz12_13 : w3.cell? ⟨gb108, 13, none⟩ = some (.int .i64 a0_13) := (blk_cell BK108.out 13).trans rfl
            have hcz12_14 : w3.cell? ⟨gb108, 14, none⟩ = some (.int .i64 a0_14) := (blk_cell BK108.out 14).trans rfl
            have hfz12_0 := blk_frozen BK108.out 0
            have hfz12_1 := blk_frozen BK108.out 1
            have hfz12_2 := blk_frozen BK108.out 2
            have hfz12_3 := blk_frozen BK108.out 3
            have hfz12_4 := blk_frozen BK108.out 4
            have hfz12_5 := blk_frozen BK108.out 5
            have hfz12_6 := blk_frozen BK108.out 6
            have hfz12_7 := blk_frozen BK108.out 7
            have hfz12_8 := blk_frozen BK108.out 8
            have hfz12_9 := blk_frozen BK108.out 9
            have hfz12_10 := blk_frozen BK108.out 10
            have hfz12_11 := blk_frozen BK108.out 11
            have hfz12_12 := blk_frozen BK108.out 12
            have hfz12_13 := blk_frozen BK108.out 13
            have hfz12_14 := blk_frozen BK108.out 14
            go_wp2_with (first | (go_at_call 25; (with_reducible refine (account_time.calls a0_1 true _ A6.out).mono ?_); rintro e w' ⟨rfl, ⟨nd, rfl⟩⟩) | (go_at_call 25; (with_reducible refine (account_time.calls a0_2 true _ A10.out).mono ?_); rintro e w' ⟨rfl, ⟨nd, rfl⟩⟩))
            go_meet
            case rel => exact ⟨_, (decide (a0_2 < a0_1)), (by first | rfl | (simp; done) | (simp [*]; done)), H', ⟨by first | omega | exact Nat.le_refl _⟩, ⟨by (with_reducible repeat (first | refine blk_drewN ?_ _ | refine blk_drew ?_ | refine blk_alloc ?_ _)); exact BK108.out⟩, ⟨by repeat (first | (with_reducible first | exact HB.out | apply below_alloc | apply pw_below_drewN | apply below_drew1 | refine below_set ?_ GE108.out) | exact HB.out)⟩⟩
          · replace c11 := Bool.eq_false_iff.mpr c11
            subst c11
            have H1 : (account_shut_right.j0 k true a0_0 a0_1 a0_2 a0_3 a0_4 a0_5 a0_6 a0_7 a0_8 a0_9 a0_10 a0_11 a0_12 a0_13 a0_14) = some r := by rw [if_neg (show ¬ (false = true) by decide)] at H; exact H
            clear H
            have H := H1
            clear H1
            have H' := Aside0.mk H
            clear H
            have hcz13_0 : w3.cell? ⟨gb108, 0, none⟩ = some (.int .i64 a0_0) := (blk_cell BK108.out 0).trans rfl
            have hcz13_1 : w3.cell? ⟨gb108, 1, none⟩ = some (.int .i64 a0_1) := (blk_cell BK108.out 1).trans rfl
            have hcz13_2 : w3.cell? ⟨gb108, 2, none⟩ = some (.int .i64 a0_2) := (blk_cell BK108.out 2).trans rfl
            have hcz13_3 : w3.cell? ⟨gb108, 3, none⟩ = some (.int .i64 a0_3) := (blk_cell BK108.out 3).trans rfl
            have hcz13_4 : w3.cell? ⟨gb108, 4, none⟩ = some (.int .i64 a0_4) := (blk_cell BK108.out 4).trans rfl
            have hcz13_5 : w3.cell? ⟨gb108, 5, none⟩ = some (.int .i64 a0_5) := (blk_cell BK108.out 5).trans rfl
            have hcz13_6 : w3.cell? ⟨gb108, 6, none⟩ = some (.int .i64 a0_6) := (blk_cell BK108.out 6).trans rfl
            have hcz13_7 : w3.cell? ⟨gb108, 7, none⟩ = some (.int .i64 a0_7) := (blk_cell BK108.out 7).trans rfl
            have hcz13_8 : w3.cell? ⟨gb108, 8, none⟩ = some (.int .i64 a0_8) := (blk_cell BK108.out 8).trans rfl
            have hcz13_9 : w3.cell? ⟨gb108, 9, none⟩ = some (.int .i64 a0_9) := (blk_cell BK108.out 9).trans rfl
            have hcz13_10 : w3.cell? ⟨gb108, 10, none⟩ = some (.int .i64 a0_10) := (blk_cell BK108.out 10).trans rfl
            have hcz13_11 : w3.cell? ⟨gb108, 11, none⟩ = some (.int .i64 a0_11) := (blk_cell BK108.out 11).trans rfl
            have hcz13_12 : w3.cell? ⟨gb108, 12, none⟩ = some (.int .i64 a0_12) := (blk_cell BK108.out 12).trans rfl
            have hcz13_13 : w3.cell? ⟨gb108, 13, none⟩ = some (.int .i64 a0_13) := (blk_cell BK108.out 13).trans rfl
            have hcz13_14 : w3.cell? ⟨gb108, 14, none⟩ = some (.int .i64 a0_14) := (blk_cell BK108.out 14).trans rfl
            have hfz13_0 := blk_frozen BK108.out 0
            have hfz13_1 := blk_frozen BK108.out 1
            have hfz13_2 := blk_frozen BK108.out 2
            have hfz13_3 := blk_frozen BK108.out 3
            have hfz13_4 := blk_frozen BK108.out 4
            have hfz13_5 := blk_frozen BK108.out 5
            have hfz13_6 := blk_frozen BK108.out 6
            have hfz13_7 := blk_frozen BK108.out 7
            have hfz13_8 := blk_frozen BK108.out 8
            have hfz13_9 := blk_frozen BK108.out 9
            have hfz13_10 := blk_frozen BK108.out 10
            have hfz13_11 := blk_frozen BK108.out 11
            have hfz13_12 := blk_frozen BK108.out 12
            have hfz13_13 := blk_frozen BK108.out 13
            have hfz13_14 := blk_frozen BK108.out 14
            go_wp2_with (first | (go_at_call 25; (with_reducible refine (account_time.calls a0_1 true _ A6.out).mono ?_); rintro e w' ⟨rfl, ⟨nd, rfl⟩⟩) | (go_at_call 25; (with_reducible refine (account_time.calls a0_2 false _ A10.out).mono ?_); rintro e w' ⟨rfl, ⟨nd, rfl⟩⟩))
            go_meet
            case rel => exact ⟨_, (true), (by first | rfl | (simp; done) | (simp [*]; done)), H', ⟨by first | omega | exact Nat.le_refl _⟩, ⟨by (with_reducible repeat (first | refine blk_drewN ?_ _ | refine blk_drew ?_ | refine blk_alloc ?_ _)); exact BK108.out⟩, ⟨by repeat (first | (with_reducible first | exact HB.out | apply below_alloc | apply pw_below_drewN | apply below_drew1 | refine below_set ?_ GE108.out) | exact HB.out)⟩⟩
      · replace c7 := Bool.eq_false_iff.mpr c7
        subst c7
        have H1 : (account_shut_right.j0 k true a0_0 a0_1 a0_2 a0_3 a0_4 a0_5 a0_6 a0_7 a0_8 a0_9 a0_10 a0_11 a0_12 a0_13 a0_14) = some r := by rw [if_neg (show ¬ (false = true) by decide)] at H; exact H
        clear H
        have H := H1
        clear H1
        have H' := Aside0.mk H
        clear H
        have hcz14_0 : w3.cell? ⟨gb108, 0, none⟩ = some (.int .i64 a0_0) := (blk_cell BK108.out 0).trans rfl
        have hcz14_1 : w3.cell? ⟨gb108, 1, none⟩ = some (.int .i64 a0_1) := (blk_cell BK108.out 1).trans rfl
        have hcz14_2 : w3.cell? ⟨gb108, 2, none⟩ = some (.int .i64 a0_2) := (blk_cell BK108.out 2).trans rfl
        have hcz14_3 : w3.cell? ⟨gb108, 3, none⟩ = some (.int .i64 a0_3) := (blk_cell BK108.out 3).trans rfl
        have hcz14_4 : w3.cell? ⟨gb108, 4, none⟩ = some (.int .i64 a0_4) := (blk_cell BK108.out 4).trans rfl
        have hcz14_5 : w3.cell? ⟨gb108, 5, none⟩ = some (.int .i64 a0_5) := (blk_cell BK108.out 5).trans rfl
        have hcz14_6 : w3.cell? ⟨gb108, 6, none⟩ = some (.int .i64 a0_6) := (blk_cell BK108.out 6).trans rfl
        have hcz14_7 : w3.cell? ⟨gb108, 7, none⟩ = some (.int .i64 a0_7) := (blk_cell BK108.out 7).trans rfl
        have hcz14_8 : w3.cell? ⟨gb108, 8, none⟩ = some (.int .i64 a0_8) := (blk_cell BK108.out 8).trans rfl
        have hcz14_9 : w3.cell? ⟨gb108, 9, none⟩ = some (.int .i64 a0_9) := (blk_cell BK108.out 9).trans rfl
        have hcz14_10 : w3.cell? ⟨gb108, 10, none⟩ = some (.int .i64 a0_10) := (blk_cell BK108.out 10).trans rfl
        have hcz14_11 : w3.cell? ⟨gb108, 11, none⟩ = some (.int .i64 a0_11) := (blk_cell BK108.out 11).trans rfl
        have hcz14_12 : w3.cell? ⟨gb108, 12, none⟩ = some (.int .i64 a0_12) := (blk_cell BK108.out 12).trans rfl
        have hcz14_13 : w3.cell? ⟨gb108, 13, none⟩ = some (.int .i64 a0_13) := (blk_cell BK108.out 13).trans rfl
        have hcz14_14 : w3.cell? ⟨gb108, 14, none⟩ = some (.int .i64 a0_14) := (blk_cell BK108.out 14).trans rfl
        have hfz14_0 := blk_frozen BK108.out 0
        have hfz14_1 := blk_frozen BK108.out 1
        have hfz14_2 := blk_frozen BK108.out 2
        have hfz14_3 := blk_frozen BK108.out 3
        have hfz14_4 := blk_frozen BK108.out 4
        have hfz14_5 := blk_frozen BK108.out 5
        have hfz14_6 := blk_frozen BK108.out 6
        have hfz14_7 := blk_frozen BK108.out 7
        have hfz14_8 := blk_frozen BK108.out 8
        have hfz14_9 := blk_frozen BK108.out 9
        have hfz14_10 := blk_frozen BK108.out 10
        have hfz14_11 := blk_frozen BK108.out 11
        have hfz14_12 := blk_frozen BK108.out 12
        have hfz14_13 := blk_frozen BK108.out 13
        have hfz14_14 := blk_frozen BK108.out 14
        go_wp2_with (first | (go_at_call 25; (with_reducible refine (account_time.calls a0_1 false _ A6.out).mono ?_); rintro e w' ⟨rfl, ⟨nd, rfl⟩⟩))
        go_meet
        case rel => exact ⟨_, (true), (by first | rfl | (simp; done) | (simp [*]; done)), H', ⟨by first | omega | exact Nat.le_refl _⟩, ⟨by (with_reducible repeat (first | refine blk_drewN ?_ _ | refine blk_drew ?_ | refine blk_alloc ?_ _)); exact BK108.out⟩, ⟨by repeat (first | (with_reducible first | exact HB.out | apply below_alloc | apply pw_below_drewN | apply below_drew1 | refine below_set ?_ GE108.out) | exact HB.out)⟩⟩
  case rest =>
    clear HC2
    try clear c1
    try clear c2
    try clear p2
    try clear c4
    try clear c4b0
    try clear c7
    try clear c8
    try clear c8b0
    try clear c8b1
    try clear c11
    try clear hcz12_0
    try clear hcz12_1
    try clear hcz12_10
    try clear hcz12_11
    try clear hcz12_12
    try clear hcz12_13
    try clear hcz12_14
    try clear hcz12_2
    try clear hcz12_3
    try clear hcz12_4
    try clear hcz12_5
    try clear hcz12_6
    try clear hcz12_7
    try clear hcz12_8
    try clear hcz12_9
    try clear hcz13_0
    try clear hcz13_1
    try clear hcz13_10
    try clear hcz13_11
    try clear hcz13_12
    try clear hcz13_13
    try clear hcz13_14
    try clear hcz13_2
    try clear hcz13_3
    try clear hcz13_4
    try clear hcz13_5
    try clear hcz13_6
    try clear hcz13_7
    try clear hcz13_8
    try clear hcz13_9
    try clear hcz14_0
    try clear hcz14_1
    try clear hcz14_10
    try clear hcz14_11
    try clear hcz14_12
    try clear hcz14_13
    try clear hcz14_14
    try clear hcz14_2
    try clear hcz14_3
    try clear hcz14_4
    try clear hcz14_5
    try clear hcz14_6
    try clear hcz14_7
    try clear hcz14_8
    try clear hcz14_9
    try clear hcz5_0
    try clear hcz5_1
    try clear hcz5_10
    try clear hcz5_11
    try clear hcz5_12
    try clear hcz5_13
    try clear hcz5_14
    try clear hcz5_2
    try clear hcz5_3
    try clear hcz5_4
    try clear hcz5_5
    try clear hcz5_6
    try clear hcz5_7
    try clear hcz5_8
    try clear hcz5_9
    try clear hcz9_0
    try clear hcz9_1
    try clear hcz9_10
    try clear hcz9_11
    try clear hcz9_12
    try clear hcz9_13
    try clear hcz9_14
    try clear hcz9_2
    try clear hcz9_3
    try clear hcz9_4
    try clear hcz9_5
    try clear hcz9_6
    try clear hcz9_7
    try clear hcz9_8
    try clear hcz9_9
    try clear hfz12_0
    try clear hfz12_1
    try clear hfz12_10
    try clear hfz12_11
    try clear hfz12_12
    try clear hfz12_13
    try clear hfz12_14
    try clear hfz12_2
    try clear hfz12_3
    try clear hfz12_4
    try clear hfz12_5
    try clear hfz12_6
    try clear hfz12_7
    try clear hfz12_8
    try clear hfz12_9
    try clear hfz13_0
    try clear hfz13_1
    try clear hfz13_10
    try clear hfz13_11
    try clear hfz13_12
    try clear hfz13_13
    try clear hfz13_14
    try clear hfz13_2
    try clear hfz13_3
    try clear hfz13_4
    try clear hfz13_5
    try clear hfz13_6
    try clear hfz13_7
    try clear hfz13_8
    try clear hfz13_9
    try clear hfz14_0
    try clear hfz14_1
    try clear hfz14_10
    try clear hfz14_11
    try clear hfz14_12
    try clear hfz14_13
    try clear hfz14_14
    try clear hfz14_2
    try clear hfz14_3
    try clear hfz14_4
    try clear hfz14_5
    try clear hfz14_6
    try clear hfz14_7
    try clear hfz14_8
    try clear hfz14_9
    try clear hfz5_0
    try clear hfz5_1
    try clear hfz5_10
    try clear hfz5_11
    try clear hfz5_12
    try clear hfz5_13
    try clear hfz5_14
    try clear hfz5_2
    try clear hfz5_3
    try clear hfz5_4
    try clear hfz5_5
    try clear hfz5_6
    try clear hfz5_7
    try clear hfz5_8
    try clear hfz5_9
    try clear hfz9_0
    try clear hfz9_1
    try clear hfz9_10
    try clear hfz9_11
    try clear hfz9_12
    try clear hfz9_13
    try clear hfz9_14
    try clear hfz9_2
    try clear hfz9_3
    try clear hfz9_4
    try clear hfz9_5
    try clear hfz9_6
    try clear hfz9_7
    try clear hfz9_8
    try clear hfz9_9
    obtain ⟨kq, x41_1, rfl, HA, HJ1, BK108, HB⟩ := hcut
    cases kq with
    | zero => exact absurd HA.out (by simp [account_shut_right.j0])
    | succ kj1 =>
      have H := HA.out
      clear HA
      simp only [account_shut_right.j0] at H
      by_cases c15 : x41_1 = true
      · subst c15
        have H1 : (some false) = some r := by rw [if_pos rfl] at H; exact H
        clear H
        have H := H1
        clear H1
        obtain rfl := Option.some.inj H
        go_wp2
        go_ret
        exact ⟨by first | rfl | (simp [errW_none, errW_some] <;> rfl) | (simp [*, errW_none, errW_some] <;> rfl), by repeat (first | (with_reducible first | exact HB.out | apply below_alloc | apply pw_below_drewN | apply below_drew1 | refine below_set ?_ GE108.out) | exact HB.out)⟩
      · replace c15 := Bool.eq_false_iff.mpr c15
        subst c15
        have H1 : ((account_book_counts.f a0_0 a0_1 a0_2 a0_3 a0_4 a0_5 a0_6 a0_7 a0_8 a0_9 a0_10 a0_11 a0_12 a0_13 a0_14).bind fun t111 => (if t111 = true then ((account_book_bytes.f a0_0 a0_1 a0_2 a0_3 a0_4 a0_5 a0_6 a0_7 a0_8 a0_9 a0_10 a0_11 a0_12 a0_13 a0_14).bind fun t112 => (if t112 = true then ((account_book_samples.f a0_0 a0_1 a0_2 a0_3 a0_4 a0_5 a0_6 a0_7 a0_8 a0_9 a0_10 a0_11 a0_12 a0_13 a0_14).bind fun t113 => (some t113)) else (some false))) else (some false))) = some r := by rw [if_neg (show ¬ (false = true) by decide)] at H; exact H
        clear H
        have H := H1
        clear H1
        replace H := Option.bind_eq_some_iff.mp H
        obtain ⟨t111, A160, H⟩ := H
        replace H : (if t111 = true then ((account_book_bytes.f a0_0 a0_1 a0_2 a0_3 a0_4 a0_5 a0_6 a0_7 a0_8 a0_9 a0_10 a0_11 a0_12 a0_13 a0_14).bind fun t112 => (if t112 = true then ((account_book_samples.f a0_0 a0_1 a0_2 a0_3 a0_4 a0_5 a0_6 a0_7 a0_8 a0_9 a0_10 a0_11 a0_12 a0_13 a0_14).bind fun t113 => (some t113)) else (some false))) else (some false)) = some r := H
        have A16 := Aside0.mk A160
        clear A160
        by_cases c17 : t111 = true
        · subst c17
          have H1 : ((account_book_bytes.f a0_0 a0_1 a0_2 a0_3 a0_4 a0_5 a0_6 a0_7 a0_8 a0_9 a0_10 a0_11 a0_12 a0_13 a0_14).bind fun t112 => (if t112 = true then ((account_book_samples.f a0_0 a0_1 a0_2 a0_3 a0_4 a0_5 a0_6 a0_7 a0_8 a0_9 a0_10 a0_11 a0_12 a0_13 a0_14).bind fun t113 => (some t113)) else (some false))) = some r := by rw [if_pos rfl] at H; exact H
          clear H
          have H := H1
          clear H1
          replace H := Option.bind_eq_some_iff.mp H
          obtain ⟨t112, A180, H⟩ := H
          replace H : (if t112 = true then ((account_book_samples.f a0_0 a0_1 a0_2 a0_3 a0_4 a0_5 a0_6 a0_7 a0_8 a0_9 a0_10 a0_11 a0_12 a0_13 a0_14).bind fun t113 => (some t113)) else (some false)) = some r := H
          have A18 := Aside0.mk A180
          clear A180
          by_cases c19 : t112 = true
          · subst c19
            have H1 : ((account_book_samples.f a0_0 a0_1 a0_2 a0_3 a0_4 a0_5 a0_6 a0_7 a0_8 a0_9 a0_10 a0_11 a0_12 a0_13 a0_14).bind fun t113 => (some t113)) = some r := by rw [if_pos rfl] at H; exact H
            clear H
            have H := H1
            clear H1
            replace H := Option.bind_eq_some_iff.mp H
            obtain ⟨t113, A200, H⟩ := H
            replace H : (some t113) = some r := H
            have A20 := Aside0.mk A200
            clear A200
            obtain rfl := Option.some.inj H
            have hcz21_0 : wc.cell? ⟨gb108, 0, none⟩ = some (.int .i64 a0_0) := (blk_cell BK108.out 0).trans rfl
            have hcz21_1 : wc.cell? ⟨gb108, 1, none⟩ = some (.int .i64 a0_1) := (blk_cell BK108.out 1).trans rfl
            have hcz21_2 : wc.cell? ⟨gb108, 2, none⟩ = some (.int .i64 a0_2) := (blk_cell BK108.out 2).trans rfl
            have hcz21_3 : wc.cell? ⟨gb108, 3, none⟩ = some (.int .i64 a0_3) := (blk_cell BK108.out 3).trans rfl
            have hcz21_4 : wc.cell? ⟨gb108, 4, none⟩ = some (.int .i64 a0_4) := (blk_cell BK108.out 4).trans rfl
            have hcz21_5 : wc.cell? ⟨gb108, 5, none⟩ = some (.int .i64 a0_5) := (blk_cell BK108.out 5).trans rfl
            have hcz21_6 : wc.cell? ⟨gb108, 6, none⟩ = some (.int .i64 a0_6) := (blk_cell BK108.out 6).trans rfl
            have hcz21_7 : wc.cell? ⟨gb108, 7, none⟩ = some (.int .i64 a0_7) := (blk_cell BK108.out 7).trans rfl
            have hcz21_8 : wc.cell? ⟨gb108, 8, none⟩ = some (.int .i64 a0_8) := (blk_cell BK108.out 8).trans rfl
            have hcz21_9 : wc.cell? ⟨gb108, 9, none⟩ = some (.int .i64 a0_9) := (blk_cell BK108.out 9).trans rfl
            have hcz21_10 : wc.cell? ⟨gb108, 10, none⟩ = some (.int .i64 a0_10) := (blk_cell BK108.out 10).trans rfl
            have hcz21_11 : wc.cell? ⟨gb108, 11, none⟩ = some (.int .i64 a0_11) := (blk_cell BK108.out 11).trans rfl
            have hcz21_12 : wc.cell? ⟨gb108, 12, none⟩ = some (.int .i64 a0_12) := (blk_cell BK108.out 12).trans rfl
            have hcz21_13 : wc.cell? ⟨gb108, 13, none⟩ = some (.int .i64 a0_13) := (blk_cell BK108.out 13).trans rfl
            have hcz21_14 : wc.cell? ⟨gb108, 14, none⟩ = some (.int .i64 a0_14) := (blk_cell BK108.out 14).trans rfl
            have hfz21_0 := blk_frozen BK108.out 0
            have hfz21_1 := blk_frozen BK108.out 1
            have hfz21_2 := blk_frozen BK108.out 2
            have hfz21_3 := blk_frozen BK108.out 3
            have hfz21_4 := blk_frozen BK108.out 4
            have hfz21_5 := blk_frozen BK108.out 5
            have hfz21_6 := blk_frozen BK108.out 6
            have hfz21_7 := blk_frozen BK108.out 7
            have hfz21_8 := blk_frozen BK108.out 8
            have hfz21_9 := blk_frozen BK108.out 9
            have hfz21_10 := blk_frozen BK108.out 10
            have hfz21_11 := blk_frozen BK108.out 11
            have hfz21_12 := blk_frozen BK108.out 12
            have hfz21_13 := blk_frozen BK108.out 13
            have hfz21_14 := blk_frozen BK108.out 14
            go_wp2_with (first | ((with_reducible refine gate_callee (f := 33) rfl ?_); refine goesL_ (some 44) rfl rfl Try.func33 (by kernel_rfl) rfl #[.agg #[.int .i64 a0_0, .int .i64 a0_1, .int .i64 a0_2, .int .i64 a0_3, .int .i64 a0_4, .int .i64 a0_5, .int .i64 a0_6, .int .i64 a0_7, .int .i64 a0_8, .int .i64 a0_9, .int .i64 a0_10, .int .i64 a0_11, .int .i64 a0_12, .int .i64 a0_13, .int .i64 a0_14]] rfl (by (try simp only [List.map_toArray, List.map_cons, List.map_nil]); first | done | rfl | (simp only [List.length_drop, List.length_take]; rfl)) ?_; (with_reducible refine (account_book_counts.calls a0_0 a0_1 a0_2 a0_3 a0_4 a0_5 a0_6 a0_7 a0_8 a0_9 a0_10 a0_11 a0_12 a0_13 a0_14 true _ A16.out).mono ?_); rintro e w22 ⟨rfl, hb⟩; refine ⟨_, rfl, ?_⟩; have n0_ := Aside0.mk (blk_below (g := gb108) (o := .cells #[.int .i64 a0_0, .int .i64 a0_1, .int .i64 a0_2, .int .i64 a0_3, .int .i64 a0_4, .int .i64 a0_5, .int .i64 a0_6, .int .i64 a0_7, .int .i64 a0_8, .int .i64 a0_9, .int .i64 a0_10, .int .i64 a0_11, .int .i64 a0_12, .int .i64 a0_13, .int .i64 a0_14] 44 (0, 0)) (by (with_reducible repeat (first | refine blk_drewN ?_ _ | refine blk_drew ?_ | refine blk_alloc ?_ _)); exact BK108.out) hb); have n1_ := Aside0.mk (below_step (by repeat (first | (with_reducible first | exact HB.out | apply below_alloc | apply pw_below_drewN | apply below_drew1 | refine below_set ?_ GE108.out) | exact HB.out)) hb); clear BK108; clear HB; have BK108 := n0_; have HB := n1_; clear n0_ n1_; (try clear hb); (try clear hb2); (try clear hk); (try clear hi); have hcz23_0 : w22.cell? ⟨gb108, 0, none⟩ = some (.int .i64 a0_0) := (blk_cell BK108.out 0).trans rfl; have hcz23_1 : w22.cell? ⟨gb108, 1, none⟩ = some (.int .i64 a0_1) := (blk_cell BK108.out 1).trans rfl; have hcz23_2 : w22.cell? ⟨gb108, 2, none⟩ = some (.int .i64 a0_2) := (blk_cell BK108.out 2).trans rfl; have hcz23_3 : w22.cell? ⟨gb108, 3, none⟩ = some (.int .i64 a0_3) := (blk_cell BK108.out 3).trans rfl; have hcz23_4 : w22.cell? ⟨gb108, 4, none⟩ = some (.int .i64 a0_4) := (blk_cell BK108.out 4).trans rfl; have hcz23_5 : w22.cell? ⟨gb108, 5, none⟩ = some (.int .i64 a0_5) := (blk_cell BK108.out 5).trans rfl; have hcz23_6 : w22.cell? ⟨gb108, 6, none⟩ = some (.int .i64 a0_6) := (blk_cell BK108.out 6).trans rfl; have hcz23_7 : w22.cell? ⟨gb108, 7, none⟩ = some (.int .i64 a0_7) := (blk_cell BK108.out 7).trans rfl; have hcz23_8 : w22.cell? ⟨gb108, 8, none⟩ = some (.int .i64 a0_8) := (blk_cell BK108.out 8).trans rfl; have hcz23_9 : w22.cell? ⟨gb108, 9, none⟩ = some (.int .i64 a0_9) := (blk_cell BK108.out 9).trans rfl; have hcz23_10 : w22.cell? ⟨gb108, 10, none⟩ = some (.int .i64 a0_10) := (blk_cell BK108.out 10).trans rfl; have hcz23_11 : w22.cell? ⟨gb108, 11, none⟩ = some (.int .i64 a0_11) := (blk_cell BK108.out 11).trans rfl; have hcz23_12 : w22.cell? ⟨gb108, 12, none⟩ = some (.int .i64 a0_12) := (blk_cell BK108.out 12).trans rfl; have hcz23_13 : w22.cell? ⟨gb108, 13, none⟩ = some (.int .i64 a0_13) := (blk_cell BK108.out 13).trans rfl; have hcz23_14 : w22.cell? ⟨gb108, 14, none⟩ = some (.int .i64 a0_14) := (blk_cell BK108.out 14).trans rfl; have hfz23_0 := blk_frozen BK108.out 0; have hfz23_1 := blk_frozen BK108.out 1; have hfz23_2 := blk_frozen BK108.out 2; have hfz23_3 := blk_frozen BK108.out 3; have hfz23_4 := blk_frozen BK108.out 4; have hfz23_5 := blk_frozen BK108.out 5; have hfz23_6 := blk_frozen BK108.out 6; have hfz23_7 := blk_frozen BK108.out 7; have hfz23_8 := blk_frozen BK108.out 8; have hfz23_9 := blk_frozen BK108.out 9; have hfz23_10 := blk_frozen BK108.out 10; have hfz23_11 := blk_frozen BK108.out 11; have hfz23_12 := blk_frozen BK108.out 12; have hfz23_13 := blk_frozen BK108.out 13; have hfz23_14 := blk_frozen BK108.out 14) | (go_at_call 34; (with_reducible refine (account_book_bytes.calls a0_0 a0_1 a0_2 a0_3 a0_4 a0_5 a0_6 a0_7 a0_8 a0_9 a0_10 a0_11 a0_12 a0_13 a0_14 true _ A18.out).mono ?_); rintro e w24 ⟨rfl, hb⟩; have n0_ := Aside0.mk (blk_below (g := gb108) (o := .cells #[.int .i64 a0_0, .int .i64 a0_1, .int .i64 a0_2, .int .i64 a0_3, .int .i64 a0_4, .int .i64 a0_5, .int .i64 a0_6, .int .i64 a0_7, .int .i64 a0_8, .int .i64 a0_9, .int .i64 a0_10, .int .i64 a0_11, .int .i64 a0_12, .int .i64 a0_13, .int .i64 a0_14] 44 (0, 0)) (by (with_reducible repeat (first | refine blk_drewN ?_ _ | refine blk_drew ?_ | refine blk_alloc ?_ _)); exact BK108.out) hb); have n1_ := Aside0.mk (below_step (by repeat (first | (with_reducible first | exact HB.out | apply below_alloc | apply pw_below_drewN | apply below_drew1 | refine below_set ?_ GE108.out) | exact HB.out)) hb); clear BK108; clear HB; have BK108 := n0_; have HB := n1_; clear n0_ n1_; (try clear hb); (try clear hb2); (try clear hk); (try clear hi); have hcz25_0 : w24.cell? ⟨gb108, 0, none⟩ = some (.int .i64 a0_0) := (blk_cell BK108.out 0).trans rfl; have hcz25_1 : w24.cell? ⟨gb108, 1, none⟩ = some (.int .i64 a0_1) := (blk_cell BK108.out 1).trans rfl; have hcz25_2 : w24.cell? ⟨gb108, 2, none⟩ = some (.int .i64 a0_2) := (blk_cell BK108.out 2).trans rfl; have hcz25_3 : w24.cell? ⟨gb108, 3, none⟩ = some (.int .i64 a0_3) := (blk_cell BK108.out 3).trans rfl; have hcz25_4 : w24.cell? ⟨gb108, 4, none⟩ = some (.int .i64 a0_4) := (blk_cell BK108.out 4).trans rfl; have hcz25_5 : w24.cell? ⟨gb108, 5, none⟩ = some (.int .i64 a0_5) := (blk_cell BK108.out 5).trans rfl; have hcz25_6 : w24.cell? ⟨gb108, 6, none⟩ = some (.int .i64 a0_6) := (blk_cell BK108.out 6).trans rfl; have hcz25_7 : w24.cell? ⟨gb108, 7, none⟩ = some (.int .i64 a0_7) := (blk_cell BK108.out 7).trans rfl; have hcz25_8 : w24.cell? ⟨gb108, 8, none⟩ = some (.int .i64 a0_8) := (blk_cell BK108.out 8).trans rfl; have hcz25_9 : w24.cell? ⟨gb108, 9, none⟩ = some (.int .i64 a0_9) := (blk_cell BK108.out 9).trans rfl; have hcz25_10 : w24.cell? ⟨gb108, 10, none⟩ = some (.int .i64 a0_10) := (blk_cell BK108.out 10).trans rfl; have hcz25_11 : w24.cell? ⟨gb108, 11, none⟩ = some (.int .i64 a0_11) := (blk_cell BK108.out 11).trans rfl; have hcz25_12 : w24.cell? ⟨gb108, 12, none⟩ = some (.int .i64 a0_12) := (blk_cell BK108.out 12).trans rfl; have hcz25_13 : w24.cell? ⟨gb108, 13, none⟩ = some (.int .i64 a0_13) := (blk_cell BK108.out 13).trans rfl; have hcz25_14 : w24.cell? ⟨gb108, 14, none⟩ = some (.int .i64 a0_14) := (blk_cell BK108.out 14).trans rfl; have hfz25_0 := blk_frozen BK108.out 0; have hfz25_1 := blk_frozen BK108.out 1; have hfz25_2 := blk_frozen BK108.out 2; have hfz25_3 := blk_frozen BK108.out 3; have hfz25_4 := blk_frozen BK108.out 4; have hfz25_5 := blk_frozen BK108.out 5; have hfz25_6 := blk_frozen BK108.out 6; have hfz25_7 := blk_frozen BK108.out 7; have hfz25_8 := blk_frozen BK108.out 8; have hfz25_9 := blk_frozen BK108.out 9; have hfz25_10 := blk_frozen BK108.out 10; have hfz25_11 := blk_frozen BK108.out 11; have hfz25_12 := blk_frozen BK108.out 12; have hfz25_13 := blk_frozen BK108.out 13; have hfz25_14 := blk_frozen BK108.out 14) | (go_at_call 35; (with_reducible refine (account_book_samples.calls a0_0 a0_1 a0_2 a0_3 a0_4 a0_5 a0_6 a0_7 a0_8 a0_9 a0_10 a0_11 a0_12 a0_13 a0_14 t113 _ A20.out).mono ?_); rintro e w26 ⟨rfl, hb⟩; have n0_ := Aside0.mk (blk_below (g := gb108) (o := .cells #[.int .i64 a0_0, .int .i64 a0_1, .int .i64 a0_2, .int .i64 a0_3, .int .i64 a0_4, .int .i64 a0_5, .int .i64 a0_6, .int .i64 a0_7, .int .i64 a0_8, .int .i64 a0_9, .int .i64 a0_10, .int .i64 a0_11, .int .i64 a0_12, .int .i64 a0_13, .int .i64 a0_14] 44 (0, 0)) (by (with_reducible repeat (first | refine blk_drewN ?_ _ | refine blk_drew ?_ | refine blk_alloc ?_ _)); exact BK108.out) hb); have n1_ := Aside0.mk (below_step (by repeat (first | (with_reducible first | exact HB.out | apply below_alloc | apply pw_below_drewN | apply below_drew1 | refine below_set ?_ GE108.out) | exact HB.out)) hb); clear BK108; clear HB; have BK108 := n0_; have HB := n1_; clear n0_ n1_; (try clear hb); (try clear hb2); (try clear hk); (try clear hi)))
            go_ret
            exact ⟨by first | rfl | (simp [errW_none, errW_some] <;> rfl) | (simp [*, errW_none, errW_some] <;> rfl), by repeat (first | (with_reducible first | exact HB.out | apply below_alloc | apply pw_below_drewN | apply below_drew1 | refine below_set ?_ GE108.out) | exact HB.out)⟩
          · replace c19 := Bool.eq_false_iff.mpr c19
            subst c19
            have H1 : (some false) = some r := by rw [if_neg (show ¬ (false = true) by decide)] at H; exact H
            clear H
            have H := H1
            clear H1
            obtain rfl := Option.some.inj H
            have hcz27_0 : wc.cell? ⟨gb108, 0, none⟩ = some (.int .i64 a0_0) := (blk_cell BK108.out 0).trans rfl
            have hcz27_1 : wc.cell? ⟨gb108, 1, none⟩ = some (.int .i64 a0_1) := (blk_cell BK108.out 1).trans rfl
            have hcz27_2 : wc.cell? ⟨gb108, 2, none⟩ = some (.int .i64 a0_2) := (blk_cell BK108.out 2).trans rfl
            have hcz27_3 : wc.cell? ⟨gb108, 3, none⟩ = some (.int .i64 a0_3) := (blk_cell BK108.out 3).trans rfl
            have hcz27_4 : wc.cell? ⟨gb108, 4, none⟩ = some (.int .i64 a0_4) := (blk_cell BK108.out 4).trans rfl
            have hcz27_5 : wc.cell? ⟨gb108, 5, none⟩ = some (.int .i64 a0_5) := (blk_cell BK108.out 5).trans rfl
            have hcz27_6 : wc.cell? ⟨gb108, 6, none⟩ = some (.int .i64 a0_6) := (blk_cell BK108.out 6).trans rfl
            have hcz27_7 : wc.cell? ⟨gb108, 7, none⟩ = some (.int .i64 a0_7) := (blk_cell BK108.out 7).trans rfl
            have hcz27_8 : wc.cell? ⟨gb108, 8, none⟩ = some (.int .i64 a0_8) := (blk_cell BK108.out 8).trans rfl
            have hcz27_9 : wc.cell? ⟨gb108, 9, none⟩ = some (.int .i64 a0_9) := (blk_cell BK108.out 9).trans rfl
            have hcz27_10 : wc.cell? ⟨gb108, 10, none⟩ = some (.int .i64 a0_10) := (blk_cell BK108.out 10).trans rfl
            have hcz27_11 : wc.cell? ⟨gb108, 11, none⟩ = some (.int .i64 a0_11) := (blk_cell BK108.out 11).trans rfl
            have hcz27_12 : wc.cell? ⟨gb108, 12, none⟩ = some (.int .i64 a0_12) := (blk_cell BK108.out 12).trans rfl
            have hcz27_13 : wc.cell? ⟨gb108, 13, none⟩ = some (.int .i64 a0_13) := (blk_cell BK108.out 13).trans rfl
            have hcz27_14 : wc.cell? ⟨gb108, 14, none⟩ = some (.int .i64 a0_14) := (blk_cell BK108.out 14).trans rfl
            have hfz27_0 := blk_frozen BK108.out 0
            have hfz27_1 := blk_frozen BK108.out 1
            have hfz27_2 := blk_frozen BK108.out 2
            have hfz27_3 := blk_frozen BK108.out 3
            have hfz27_4 := blk_frozen BK108.out 4
            have hfz27_5 := blk_frozen BK108.out 5
            have hfz27_6 := blk_frozen BK108.out 6
            have hfz27_7 := blk_frozen BK108.out 7
            have hfz27_8 := blk_frozen BK108.out 8
            have hfz27_9 := blk_frozen BK108.out 9
            have hfz27_10 := blk_frozen BK108.out 10
            have hfz27_11 := blk_frozen BK108.out 11
            have hfz27_12 := blk_frozen BK108.out 12
            have hfz27_13 := blk_frozen BK108.out 13
            have hfz27_14 := blk_frozen BK108.out 14
            go_wp2_with (first | ((with_reducible refine gate_callee (f := 33) rfl ?_); refine goesL_ (some 44) rfl rfl Try.func33 (by kernel_rfl) rfl #[.agg #[.int .i64 a0_0, .int .i64 a0_1, .int .i64 a0_2, .int .i64 a0_3, .int .i64 a0_4, .int .i64 a0_5, .int .i64 a0_6, .int .i64 a0_7, .int .i64 a0_8, .int .i64 a0_9, .int .i64 a0_10, .int .i64 a0_11, .int .i64 a0_12, .int .i64 a0_13, .int .i64 a0_14]] rfl (by (try simp only [List.map_toArray, List.map_cons, List.map_nil]); first | done | rfl | (simp only [List.length_drop, List.length_take]; rfl)) ?_; (with_reducible refine (account_book_counts.calls a0_0 a0_1 a0_2 a0_3 a0_4 a0_5 a0_6 a0_7 a0_8 a0_9 a0_10 a0_11 a0_12 a0_13 a0_14 true _ A16.out).mono ?_); rintro e w28 ⟨rfl, hb⟩; refine ⟨_, rfl, ?_⟩; have n0_ := Aside0.mk (blk_below (g := gb108) (o := .cells #[.int .i64 a0_0, .int .i64 a0_1, .int .i64 a0_2, .int .i64 a0_3, .int .i64 a0_4, .int .i64 a0_5, .int .i64 a0_6, .int .i64 a0_7, .int .i64 a0_8, .int .i64 a0_9, .int .i64 a0_10, .int .i64 a0_11, .int .i64 a0_12, .int .i64 a0_13, .int .i64 a0_14] 44 (0, 0)) (by (with_reducible repeat (first | refine blk_drewN ?_ _ | refine blk_drew ?_ | refine blk_alloc ?_ _)); exact BK108.out) hb); have n1_ := Aside0.mk (below_step (by repeat (first | (with_reducible first | exact HB.out | apply below_alloc | apply pw_below_drewN | apply below_drew1 | refine below_set ?_ GE108.out) | exact HB.out)) hb); clear BK108; clear HB; have BK108 := n0_; have HB := n1_; clear n0_ n1_; (try clear hb); (try clear hb2); (try clear hk); (try clear hi); have hcz29_0 : w28.cell? ⟨gb108, 0, none⟩ = some (.int .i64 a0_0) := (blk_cell BK108.out 0).trans rfl; have hcz29_1 : w28.cell? ⟨gb108, 1, none⟩ = some (.int .i64 a0_1) := (blk_cell BK108.out 1).trans rfl; have hcz29_2 : w28.cell? ⟨gb108, 2, none⟩ = some (.int .i64 a0_2) := (blk_cell BK108.out 2).trans rfl; have hcz29_3 : w28.cell? ⟨gb108, 3, none⟩ = some (.int .i64 a0_3) := (blk_cell BK108.out 3).trans rfl; have hcz29_4 : w28.cell? ⟨gb108, 4, none⟩ = some (.int .i64 a0_4) := (blk_cell BK108.out 4).trans rfl; have hcz29_5 : w28.cell? ⟨gb108, 5, none⟩ = some (.int .i64 a0_5) := (blk_cell BK108.out 5).trans rfl; have hcz29_6 : w28.cell? ⟨gb108, 6, none⟩ = some (.int .i64 a0_6) := (blk_cell BK108.out 6).trans rfl; have hcz29_7 : w28.cell? ⟨gb108, 7, none⟩ = some (.int .i64 a0_7) := (blk_cell BK108.out 7).trans rfl; have hcz29_8 : w28.cell? ⟨gb108, 8, none⟩ = some (.int .i64 a0_8) := (blk_cell BK108.out 8).trans rfl; have hcz29_9 : w28.cell? ⟨gb108, 9, none⟩ = some (.int .i64 a0_9) := (blk_cell BK108.out 9).trans rfl; have hcz29_10 : w28.cell? ⟨gb108, 10, none⟩ = some (.int .i64 a0_10) := (blk_cell BK108.out 10).trans rfl; have hcz29_11 : w28.cell? ⟨gb108, 11, none⟩ = some (.int .i64 a0_11) := (blk_cell BK108.out 11).trans rfl; have hcz29_12 : w28.cell? ⟨gb108, 12, none⟩ = some (.int .i64 a0_12) := (blk_cell BK108.out 12).trans rfl; have hcz29_13 : w28.cell? ⟨gb108, 13, none⟩ = some (.int .i64 a0_13) := (blk_cell BK108.out 13).trans rfl; have hcz29_14 : w28.cell? ⟨gb108, 14, none⟩ = some (.int .i64 a0_14) := (blk_cell BK108.out 14).trans rfl; have hfz29_0 := blk_frozen BK108.out 0; have hfz29_1 := blk_frozen BK108.out 1; have hfz29_2 := blk_frozen BK108.out 2; have hfz29_3 := blk_frozen BK108.out 3; have hfz29_4 := blk_frozen BK108.out 4; have hfz29_5 := blk_frozen BK108.out 5; have hfz29_6 := blk_frozen BK108.out 6; have hfz29_7 := blk_frozen BK108.out 7; have hfz29_8 := blk_frozen BK108.out 8; have hfz29_9 := blk_frozen BK108.out 9; have hfz29_10 := blk_frozen BK108.out 10; have hfz29_11 := blk_frozen BK108.out 11; have hfz29_12 := blk_frozen BK108.out 12; have hfz29_13 := blk_frozen BK108.out 13; have hfz29_14 := blk_frozen BK108.out 14) | (go_at_call 34; (with_reducible refine (account_book_bytes.calls a0_0 a0_1 a0_2 a0_3 a0_4 a0_5 a0_6 a0_7 a0_8 a0_9 a0_10 a0_11 a0_12 a0_13 a0_14 false _ A18.out).mono ?_); rintro e w30 ⟨rfl, hb⟩; have n0_ := Aside0.mk (blk_below (g := gb108) (o := .cells #[.int .i64 a0_0, .int .i64 a0_1, .int .i64 a0_2, .int .i64 a0_3, .int .i64 a0_4, .int .i64 a0_5, .int .i64 a0_6, .int .i64 a0_7, .int .i64 a0_8, .int .i64 a0_9, .int .i64 a0_10, .int .i64 a0_11, .int .i64 a0_12, .int .i64 a0_13, .int .i64 a0_14] 44 (0, 0)) (by (with_reducible repeat (first | refine blk_drewN ?_ _ | refine blk_drew ?_ | refine blk_alloc ?_ _)); exact BK108.out) hb); have n1_ := Aside0.mk (below_step (by repeat (first | (with_reducible first | exact HB.out | apply below_alloc | apply pw_below_drewN | apply below_drew1 | refine below_set ?_ GE108.out) | exact HB.out)) hb); clear BK108; clear HB; have BK108 := n0_; have HB := n1_; clear n0_ n1_; (try clear hb); (try clear hb2); (try clear hk); (try clear hi)))
            go_ret
            exact ⟨by first | rfl | (simp [errW_none, errW_some] <;> rfl) | (simp [*, errW_none, errW_some] <;> rfl), by repeat (first | (with_reducible first | exact HB.out | apply below_alloc | apply pw_below_drewN | apply below_drew1 | refine below_set ?_ GE108.out) | exact HB.out)⟩
        · replace c17 := Bool.eq_false_iff.mpr c17
          subst c17
          have H1 : (some false) = some r := by rw [if_neg (show ¬ (false = true) by decide)] at H; exact H
          clear H
          have H := H1
          clear H1
          obtain rfl := Option.some.inj H
          have hcz31_0 : wc.cell? ⟨gb108, 0, none⟩ = some (.int .i64 a0_0) := (blk_cell BK108.out 0).trans rfl
          have hcz31_1 : wc.cell? ⟨gb108, 1, none⟩ = some (.int .i64 a0_1) := (blk_cell BK108.out 1).trans rfl
          have hcz31_2 : wc.cell? ⟨gb108, 2, none⟩ = some (.int .i64 a0_2) := (blk_cell BK108.out 2).trans rfl
          have hcz31_3 : wc.cell? ⟨gb108, 3, none⟩ = some (.int .i64 a0_3) := (blk_cell BK108.out 3).trans rfl
          have hcz31_4 : wc.cell? ⟨gb108, 4, none⟩ = some (.int .i64 a0_4) := (blk_cell BK108.out 4).trans rfl
          have hcz31_5 : wc.cell? ⟨gb108, 5, none⟩ = some (.int .i64 a0_5) := (blk_cell BK108.out 5).trans rfl
          have hcz31_6 : wc.cell? ⟨gb108, 6, none⟩ = some (.int .i64 a0_6) := (blk_cell BK108.out 6).trans rfl
          have hcz31_7 : wc.cell? ⟨gb108, 7, none⟩ = some (.int .i64 a0_7) := (blk_cell BK108.out 7).trans rfl
          have hcz31_8 : wc.cell? ⟨gb108, 8, none⟩ = some (.int .i64 a0_8) := (blk_cell BK108.out 8).trans rfl
          have hcz31_9 : wc.cell? ⟨gb108, 9, none⟩ = some (.int .i64 a0_9) := (blk_cell BK108.out 9).trans rfl
          have hcz31_10 : wc.cell? ⟨gb108, 10, none⟩ = some (.int .i64 a0_10) := (blk_cell BK108.out 10).trans rfl
          have hcz31_11 : wc.cell? ⟨gb108, 11, none⟩ = some (.int .i64 a0_11) := (blk_cell BK108.out 11).trans rfl
          have hcz31_12 : wc.cell? ⟨gb108, 12, none⟩ = some (.int .i64 a0_12) := (blk_cell BK108.out 12).trans rfl
          have hcz31_13 : wc.cell? ⟨gb108, 13, none⟩ = some (.int .i64 a0_13) := (blk_cell BK108.out 13).trans rfl
          have hcz31_14 : wc.cell? ⟨gb108, 14, none⟩ = some (.int .i64 a0_14) := (blk_cell BK108.out 14).trans rfl
          have hfz31_0 := blk_frozen BK108.out 0
          have hfz31_1 := blk_frozen BK108.out 1
          have hfz31_2 := blk_frozen BK108.out 2
          have hfz31_3 := blk_frozen BK108.out 3
          have hfz31_4 := blk_frozen BK108.out 4
          have hfz31_5 := blk_frozen BK108.out 5
          have hfz31_6 := blk_frozen BK108.out 6
          have hfz31_7 := blk_frozen BK108.out 7
          have hfz31_8 := blk_frozen BK108.out 8
          have hfz31_9 := blk_frozen BK108.out 9
          have hfz31_10 := blk_frozen BK108.out 10
          have hfz31_11 := blk_frozen BK108.out 11
          have hfz31_12 := blk_frozen BK108.out 12
          have hfz31_13 := blk_frozen BK108.out 13
          have hfz31_14 := blk_frozen BK108.out 14
          go_wp2_with (first | ((with_reducible refine gate_callee (f := 33) rfl ?_); refine goesL_ (some 44) rfl rfl Try.func33 (by kernel_rfl) rfl #[.agg #[.int .i64 a0_0, .int .i64 a0_1, .int .i64 a0_2, .int .i64 a0_3, .int .i64 a0_4, .int .i64 a0_5, .int .i64 a0_6, .int .i64 a0_7, .int .i64 a0_8, .int .i64 a0_9, .int .i64 a0_10, .int .i64 a0_11, .int .i64 a0_12, .int .i64 a0_13, .int .i64 a0_14]] rfl (by (try simp only [List.map_toArray, List.map_cons, List.map_nil]); first | done | rfl | (simp only [List.length_drop, List.length_take]; rfl)) ?_; (with_reducible refine (account_book_counts.calls a0_0 a0_1 a0_2 a0_3 a0_4 a0_5 a0_6 a0_7 a0_8 a0_9 a0_10 a0_11 a0_12 a0_13 a0_14 false _ A16.out).mono ?_); rintro e w32 ⟨rfl, hb⟩; refine ⟨_, rfl, ?_⟩; have n0_ := Aside0.mk (blk_below (g := gb108) (o := .cells #[.int .i64 a0_0, .int .i64 a0_1, .int .i64 a0_2, .int .i64 a0_3, .int .i64 a0_4, .int .i64 a0_5, .int .i64 a0_6, .int .i64 a0_7, .int .i64 a0_8, .int .i64 a0_9, .int .i64 a0_10, .int .i64 a0_11, .int .i64 a0_12, .int .i64 a0_13, .int .i64 a0_14] 44 (0, 0)) (by (with_reducible repeat (first | refine blk_drewN ?_ _ | refine blk_drew ?_ | refine blk_alloc ?_ _)); exact BK108.out) hb); have n1_ := Aside0.mk (below_step (by repeat (first | (with_reducible first | exact HB.out | apply below_alloc | apply pw_below_drewN | apply below_drew1 | refine below_set ?_ GE108.out) | exact HB.out)) hb); clear BK108; clear HB; have BK108 := n0_; have HB := n1_; clear n0_ n1_; (try clear hb); (try clear hb2); (try clear hk); (try clear hi)))
          go_ret
          exact ⟨by first | rfl | (simp [errW_none, errW_some] <;> rfl) | (simp [*, errW_none, errW_some] <;> rfl), by repeat (first | (with_reducible first | exact HB.out | apply below_alloc | apply pw_below_drewN | apply below_drew1 | refine below_set ?_ GE108.out) | exact HB.out)⟩

end Go.Proofs.Ytiodmgcnpaoooaa.A
