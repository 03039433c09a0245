-- Printed by wip/tools/myprint.py (this session's driver over the kit's printer, with functions proved by hand). Not trusted: Lean checks it.
import Derived.Test.YtefigckobfaodaaQx0
import Derived.Test.YtefigckobfaodaaQx8
import Derived.Test.YtefigckobfaodaaQx9
import Derived.Test.YtefigckobfaodaaQx10
namespace Go.Proofs.Ytefigckobfaodaa.Q
open Go.RowKit Go.Proofs.YtefigckobfaodaaW.PrintWords Go.Proofs.YtefigckobfaodaaW.PrintLast Go.Proofs.YtefigckobfaodaaW.PrintMore
attribute [local go_sem] max2_int min2_int max_two min_two max_three min_three max_four min_four   -- for this text's walks alone
attribute [local go_sem] Go.Proofs.YtefigckobfaodaaS.cell_set_map Go.Proofs.YtefigckobfaodaaS.setCell_drewN
set_option linter.unusedVariables false
set_option linter.unusedSimpArgs false

/-! ### pacemakerlaw28_QueueOrder: function 4 -/
def pacemakerlaw28_QueueOrder.l0 : Nat → Int → Int → List (S25) → List (S41) → Int → Int → Option (Bool)
  | 0, _, _, _, _, _, _ => none
  | k + 1, x0, x1, x2, x7, x9, x10 => if x10 < (x2.length : Int) then (if 0 ≤ x10 then (if x10 < (x7.length : Int) then (if (rd_T41 x7 x10).f1 = true then (if ((rd_T41 x7 x10).f0) = 0 then (pacemakerlaw28_QueueOrder.l0 k x0 x1 x2 x7 x9 (wrap64 (x10 + 1))) else (some false)) else (if x1 = 0 then (none) else (if ((rd_T41 x7 x10).f0) < (wrap64 (x9 + (wrap64 (Int.tdiv (wrap64 (((rd_T25 x2 x10).f1) * 1000000)) x1)))) then (some false) else (if (wrap64 (((rd_T41 x7 x10).f0) - ((rd_T25 x2 x10).f0))) < (wrap64 (Int.tdiv (wrap64 (((rd_T25 x2 x10).f1) * 1000000)) x1)) then (some false) else (if (wrap64 (((rd_T41 x7 x10).f0) - ((rd_T25 x2 x10).f0))) > (wrap64 ((wrap64 (Int.tdiv (wrap64 (x0 * 1000000)) x1)) + 1)) then (some false) else (if x9 ≤ ((rd_T25 x2 x10).f0) then (if (wrap64 (((rd_T41 x7 x10).f0) - ((rd_T25 x2 x10).f0))) > (wrap64 ((wrap64 (Int.tdiv (wrap64 (((rd_T25 x2 x10).f1) * 1000000)) x1)) + 1)) then (some false) else (pacemakerlaw28_QueueOrder.l0 k x0 x1 x2 x7 ((rd_T41 x7 x10).f0) (wrap64 (x10 + 1)))) else (pacemakerlaw28_QueueOrder.l0 k x0 x1 x2 x7 ((rd_T41 x7 x10).f0) (wrap64 (x10 + 1))))))))) else (none)) else (none)) else ((pacemakerlaw28_queued.f k).bind fun t230 => (some t230))
def pacemakerlaw28_QueueOrder.f (k : Nat) (a0 : Int) (a1 : Int) (l2 : List (S25)) : Option (Bool) := (pacemakerlaw28_small.f l2).bind fun t206 => (if t206 = true then (if a0 < 1 then ((pacemakerlaw28_queued.f k).bind fun t207 => (some t207)) else (if a0 > 1073741824 then ((pacemakerlaw28_queued.f k).bind fun t208 => (some t208)) else (if a1 < 1 then ((pacemakerlaw28_queued.f k).bind fun t209 => (some t209)) else (if a1 > 1000000000 then ((pacemakerlaw28_queued.f k).bind fun t210 => (some t210)) else ((queue_Row.f k a0 a1 l2).bind fun bt211 => (if (bt211.1.length : Int) = (l2.length : Int) then (pacemakerlaw28_QueueOrder.l0 k a0 a1 l2 bt211.1 0 0) else (some false))))))) else ((pacemakerlaw28_queued.f k).bind fun t231 => (some t231)))
theorem pacemakerlaw28_QueueOrder.mono_l : ∀ k, (∀ y0 y1 y2 y3 y4 y5, LeO (pacemakerlaw28_QueueOrder.l0 k y0 y1 y2 y3 y4 y5) (pacemakerlaw28_QueueOrder.l0 (k + 1) y0 y1 y2 y3 y4 y5))
  | 0 => fun _ _ _ _ _ _ r h => by simp [pacemakerlaw28_QueueOrder.l0] at h
  | k + 1 => by
    have ih0 := pacemakerlaw28_QueueOrder.mono_l k
    · intro y0 y1 y2 y3 y4 y5
      unfold pacemakerlaw28_QueueOrder.l0
      repeat' first
      | (with_reducible exact ih0 _ _ _ _ _ _)
      | (with_reducible exact pacemakerlaw28_queued.mono _)
      | (with_reducible exact queue_Row.mono _ _ _ _)
      | (with_reducible exact LeO.refl _)
      | (with_reducible exact LeO.none _)
      | (with_reducible refine LeO.ite ?_ ?_)
      | (with_reducible refine LeO.bind ?_ (fun _ => ?_))
      | exact ih0 _ _ _ _ _ _
      | exact pacemakerlaw28_queued.mono _
      | exact queue_Row.mono _ _ _ _
      | exact LeO.none _
      | refine LeO.ite ?_ ?_
      | refine LeO.bind ?_ (fun _ => ?_)
theorem pacemakerlaw28_QueueOrder.mono : ∀ a0 a1 a2 k, LeO (pacemakerlaw28_QueueOrder.f k a0 a1 a2) (pacemakerlaw28_QueueOrder.f (k + 1) a0 a1 a2) := by
  intro a0 a1 a2 k
  have ih0 := pacemakerlaw28_QueueOrder.mono_l k
  unfold pacemakerlaw28_QueueOrder.f
  repeat' first
      | (with_reducible exact ih0 _ _ _ _ _ _)
      | (with_reducible exact pacemakerlaw28_queued.mono _)
      | (with_reducible exact queue_Row.mono _ _ _ _)
      | (with_reducible exact LeO.refl _)
      | (with_reducible exact LeO.none _)
      | (with_reducible refine LeO.ite ?_ ?_)
      | (with_reducible refine LeO.bind ?_ (fun _ => ?_))
      | exact ih0 _ _ _ _ _ _
      | exact pacemakerlaw28_queued.mono _
      | exact queue_Row.mono _ _ _ _
      | exact LeO.none _
      | refine LeO.ite ?_ ?_
      | refine LeO.bind ?_ (fun _ => ?_)
set_option maxHeartbeats 8000000 in
set_option maxRecDepth 100000 in
theorem pacemakerlaw28_QueueOrder.calls (k : Nat) (a0 : Int) (a1 : Int) (A2 : Option Addr) (c2 : Nat) (l2 : List (S25)) (r : Bool) (w : World) (hr2 : Kd.C k25 w A2 l2.length l2) (hc2 : l2.length ≤ c2) (HT : Aside0 (r = true)) (h : pacemakerlaw28_QueueOrder.f k a0 a1 l2 = some r) :
    Calls Try.prog 4 #[.int .i64 a0, .int .i64 a1, .slice A2 l2.length c2] w fun e w' => e = .returned (.bool r) ∧ Below w.heap.size w w' := by
  have hu23 := Try.underlying23
  have HR2 := Aside0.mk hr2
  have HC2 := Aside0.mk hc2
  clear hr2 hc2
  have HB := Aside0.mk (Below.refl w.heap.size w)
  have H : ((pacemakerlaw28_small.f l2).bind fun t206 => (if t206 = true then (if a0 < 1 then ((pacemakerlaw28_queued.f k).bind fun t207 => (some t207)) else (if a0 > 1073741824 then ((pacemakerlaw28_queued.f k).bind fun t208 => (some t208)) else (if a1 < 1 then ((pacemakerlaw28_queued.f k).bind fun t209 => (some t209)) else (if a1 > 1000000000 then ((pacemakerlaw28_queued.f k).bind fun t210 => (some t210)) else ((queue_Row.f k a0 a1 l2).bind fun bt211 => (if (bt211.1.length : Int) = (l2.length : Int) then (pacemakerlaw28_QueueOrder.l0 k a0 a1 l2 bt211.1 0 0) else (some false))))))) else ((pacemakerlaw28_queued.f k).bind fun t231 => (some t231)))) = some r := h
  clear h
  replace H := Option.bind_eq_some_iff.mp H
  obtain ⟨t206, A40, H⟩ := H
  replace H : (if t206 = true then (if a0 < 1 then ((pacemakerlaw28_queued.f k).bind fun t207 => (some t207)) else (if a0 > 1073741824 then ((pacemakerlaw28_queued.f k).bind fun t208 => (some t208)) else (if a1 < 1 then ((pacemakerlaw28_queued.f k).bind fun t209 => (some t209)) else (if a1 > 1000000000 then ((pacemakerlaw28_queued.f k).bind fun t210 => (some t210)) else ((queue_Row.f k a0 a1 l2).bind fun bt211 => (if (bt211.1.length : Int) = (l2.length : Int) then (pacemakerlaw28_QueueOrder.l0 k a0 a1 l2 bt211.1 0 0) else (some false))))))) else ((pacemakerlaw28_queued.f k).bind fun t231 => (some t231))) = some r := H
  have A4 := Aside0.mk A40
  clear A40
  by_cases c5 : t206 = true
  · subst c5
    have H1 : (if a0 < 1 then ((pacemakerlaw28_queued.f k).bind fun t207 => (some t207)) else (if a0 > 1073741824 then ((pacemakerlaw28_queued.f k).bind fun t208 => (some t208)) else (if a1 < 1 then ((pacemakerlaw28_queued.f k).bind fun t209 => (some t209)) else (if a1 > 1000000000 then ((pacemakerlaw28_queued.f k).bind fun t210 => (some t210)) else ((queue_Row.f k a0 a1 l2).bind fun bt211 => (if (bt211.1.length : Int) = (l2.length : Int) then (pacemakerlaw28_QueueOrder.l0 k a0 a1 l2 bt211.1 0 0) else (some false))))))) = some r := by rw [if_pos rfl] at H; exact H
    clear H
    have H := H1
    clear H1
    by_cases c6 : a0 < 1
    · rw [if_pos c6] at H
      have c6b0 : decide (a0 < 1) = true := decide_eq_true c6
      clear c6
      replace H := Option.bind_eq_some_iff.mp H
      obtain ⟨t207, A70, H⟩ := H
      replace H : (some t207) = some r := H
      have A7 := Aside0.mk A70
      clear A70
      obtain rfl := Option.some.inj H
      go_enter Try.func4, Try.ntmps4
      go_wp2_with (first | (go_at_call 14; (with_reducible refine (pacemakerlaw28_small.calls _ _ l2 true _ ?side1 ?side2 A4.out).mono ?_); (case side1 => repeat (first | exact HR2.out | (with_reducible refine Kd.C_alloc ?_ _) | (with_reducible refine Kd.C_drewN ?_ _) | (with_reducible refine Kd.C_drew ?_))); (case side2 => exact HC2.out); rintro e w' ⟨rfl, ⟨nd, rfl⟩⟩; (try first | exact ⟨rfl, _, World.drewN_drewN _ _ _⟩ | exact ⟨rfl, _, Eq.trans (World.drewN_drewN _ _ _) (congrArg (World.drewN _) (Nat.add_assoc _ _ _))⟩)) | (go_at_call 15; (with_reducible refine (pacemakerlaw28_queued.calls k  t207 _ A7.out).mono ?_); rintro e w8 ⟨rfl, hb⟩; have n0_ := Aside0.mk (below_step (by repeat (first | (with_reducible first | exact HB.out | apply below_alloc | apply pw_below_drewN | apply below_drew1) | exact HB.out)) hb); clear HB; have HB := n0_; clear n0_; (try clear hb); (try clear hb2); (try clear hk); (try clear hi)))
      repeat (go_quiet (first | (go_at_call 14; (with_reducible refine (pacemakerlaw28_small.calls _ _ l2 true _ ?side1 ?side2 A4.out).mono ?_); (case side1 => repeat (first | exact HR2.out | (with_reducible refine Kd.C_alloc ?_ _) | (with_reducible refine Kd.C_drewN ?_ _) | (with_reducible refine Kd.C_drew ?_))); (case side2 => exact HC2.out); rintro e w' ⟨rfl, ⟨nd, rfl⟩⟩; (try first | exact ⟨rfl, _, World.drewN_drewN _ _ _⟩ | exact ⟨rfl, _, Eq.trans (World.drewN_drewN _ _ _) (congrArg (World.drewN _) (Nat.add_assoc _ _ _))⟩)) | (go_at_call 15; (with_reducible refine (pacemakerlaw28_queued.calls k  t207 _ A7.out).mono ?_); rintro e w8 ⟨rfl, hb⟩; have n0_ := Aside0.mk (below_step (by repeat (first | (with_reducible first | exact HB.out | apply below_alloc | apply pw_below_drewN | apply below_drew1) | exact HB.out)) hb); clear HB; have HB := n0_; clear n0_; (try clear hb); (try clear hb2); (try clear hk); (try clear hi))); try go_wp2_with (first | (go_at_call 14; (with_reducible refine (pacemakerlaw28_small.calls _ _ l2 true _ ?side1 ?side2 A4.out).mono ?_); (case side1 => repeat (first | exact HR2.out | (with_reducible refine Kd.C_alloc ?_ _) | (with_reducible refine Kd.C_drewN ?_ _) | (with_reducible refine Kd.C_drew ?_))); (case side2 => exact HC2.out); rintro e w' ⟨rfl, ⟨nd, rfl⟩⟩; (try first | exact ⟨rfl, _, World.drewN_drewN _ _ _⟩ | exact ⟨rfl, _, Eq.trans (World.drewN_drewN _ _ _) (congrArg (World.drewN _) (Nat.add_assoc _ _ _))⟩)) | (go_at_call 15; (with_reducible refine (pacemakerlaw28_queued.calls k  t207 _ A7.out).mono ?_); rintro e w8 ⟨rfl, hb⟩; have n0_ := Aside0.mk (below_step (by repeat (first | (with_reducible first | exact HB.out | apply below_alloc | apply pw_below_drewN | apply below_drew1) | exact HB.out)) hb); clear HB; have HB := n0_; clear n0_; (try clear hb); (try clear hb2); (try clear hk); (try clear hi))))
      go_ret
      exact ⟨by first | rfl | (simp [errW_none, errW_some] <;> rfl) | (simp [*, errW_none, errW_some] <;> rfl), by repeat (first | (with_reducible first | exact HB.out | apply below_alloc | apply pw_below_drewN | apply below_drew1) | exact HB.out)⟩
    · rw [if_neg c6] at H
      have c6b0 : decide (a0 < 1) = false := decide_eq_false c6
      clear c6
      by_cases c9 : a0 > 1073741824
      · rw [if_pos c9] at H
        have c9b0 : decide (1073741824 < a0) = true := decide_eq_true c9
        clear c9
        replace H := Option.bind_eq_some_iff.mp H
        obtain ⟨t208, A100, H⟩ := H
        replace H : (some t208) = some r := H
        have A10 := Aside0.mk A100
        clear A100
        obtain rfl := Option.some.inj H
        go_enter Try.func4, Try.ntmps4
        go_wp2_with (first | (go_at_call 14; (with_reducible refine (pacemakerlaw28_small.calls _ _ l2 true _ ?side1 ?side2 A4.out).mono ?_); (case side1 => repeat (first | exact HR2.out | (with_reducible refine Kd.C_alloc ?_ _) | (with_reducible refine Kd.C_drewN ?_ _) | (with_reducible refine Kd.C_drew ?_))); (case side2 => exact HC2.out); rintro e w' ⟨rfl, ⟨nd, rfl⟩⟩; (try first | exact ⟨rfl, _, World.drewN_drewN _ _ _⟩ | exact ⟨rfl, _, Eq.trans (World.drewN_drewN _ _ _) (congrArg (World.drewN _) (Nat.add_assoc _ _ _))⟩)) | (go_at_call 15; (with_reducible refine (pacemakerlaw28_queued.calls k  t208 _ A10.out).mono ?_); rintro e w11 ⟨rfl, hb⟩; have n0_ := Aside0.mk (below_step (by repeat (first | (with_reducible first | exact HB.out | apply below_alloc | apply pw_below_drewN | apply below_drew1) | exact HB.out)) hb); clear HB; have HB := n0_; clear n0_; (try clear hb); (try clear hb2); (try clear hk); (try clear hi)))
        repeat (go_quiet (first | (go_at_call 14; (with_reducible refine (pacemakerlaw28_small.calls _ _ l2 true _ ?side1 ?side2 A4.out).mono ?_); (case side1 => repeat (first | exact HR2.out | (with_reducible refine Kd.C_alloc ?_ _) | (with_reducible refine Kd.C_drewN ?_ _) | (with_reducible refine Kd.C_drew ?_))); (case side2 => exact HC2.out); rintro e w' ⟨rfl, ⟨nd, rfl⟩⟩; (try first | exact ⟨rfl, _, World.drewN_drewN _ _ _⟩ | exact ⟨rfl, _, Eq.trans (World.drewN_drewN _ _ _) (congrArg (World.drewN _) (Nat.add_assoc _ _ _))⟩)) | (go_at_call 15; (with_reducible refine (pacemakerlaw28_queued.calls k  t208 _ A10.out).mono ?_); rintro e w11 ⟨rfl, hb⟩; have n0_ := Aside0.mk (below_step (by repeat (first | (with_reducible first | exact HB.out | apply below_alloc | apply pw_below_drewN | apply below_drew1) | exact HB.out)) hb); clear HB; have HB := n0_; clear n0_; (try clear hb); (try clear hb2); (try clear hk); (try clear hi))); try go_wp2_with (first | (go_at_call 14; (with_reducible refine (pacemakerlaw28_small.calls _ _ l2 true _ ?side1 ?side2 A4.out).mono ?_); (case side1 => repeat (first | exact HR2.out | (with_reducible refine Kd.C_alloc ?_ _) | (with_reducible refine Kd.C_drewN ?_ _) | (with_reducible refine Kd.C_drew ?_))); (case side2 => exact HC2.out); rintro e w' ⟨rfl, ⟨nd, rfl⟩⟩; (try first | exact ⟨rfl, _, World.drewN_drewN _ _ _⟩ | exact ⟨rfl, _, Eq.trans (World.drewN_drewN _ _ _) (congrArg (World.drewN _) (Nat.add_assoc _ _ _))⟩)) | (go_at_call 15; (with_reducible refine (pacemakerlaw28_queued.calls k  t208 _ A10.out).mono ?_); rintro e w11 ⟨rfl, hb⟩; have n0_ := Aside0.mk (below_step (by repeat (first | (with_reducible first | exact HB.out | apply below_alloc | apply pw_below_drewN | apply below_drew1) | exact HB.out)) hb); clear HB; have HB := n0_; clear n0_; (try clear hb); (try clear hb2); (try clear hk); (try clear hi))))
        go_ret
        exact ⟨by first | rfl | (simp [errW_none, errW_some] <;> rfl) | (simp [*, errW_none, errW_some] <;> rfl), by repeat (first | (with_reducible first | exact HB.out | apply below_alloc | apply pw_below_drewN | apply below_drew1) | exact HB.out)⟩
      · rw [if_neg c9] at H
        have c9b0 : decide (1073741824 < a0) = false := decide_eq_false c9
        clear c9
        by_cases c12 : a1 < 1
        · rw [if_pos c12] at H
          have c12b0 : decide (a1 < 1) = true := decide_eq_true c12
          clear c12
          replace H := Option.bind_eq_some_iff.mp H
          obtain ⟨t209, A130, H⟩ := H
          replace H : (some t209) = some r := H
          have A13 := Aside0.mk A130
          clear A130
          obtain rfl := Option.some.inj H
          go_enter Try.func4, Try.ntmps4
          go_wp2_with (first | (go_at_call 14; (with_reducible refine (pacemakerlaw28_small.calls _ _ l2 true _ ?side1 ?side2 A4.out).mono ?_); (case side1 => repeat (first | exact HR2.out | (with_reducible refine Kd.C_alloc ?_ _) | (with_reducible refine Kd.C_drewN ?_ _) | (with_reducible refine Kd.C_drew ?_))); (case side2 => exact HC2.out); rintro e w' ⟨rfl, ⟨nd, rfl⟩⟩; (try first | exact ⟨rfl, _, World.drewN_drewN _ _ _⟩ | exact ⟨rfl, _, Eq.trans (World.drewN_drewN _ _ _) (congrArg (World.drewN _) (Nat.add_assoc _ _ _))⟩)) | (go_at_call 15; (with_reducible refine (pacemakerlaw28_queued.calls k  t209 _ A13.out).mono ?_); rintro e w14 ⟨rfl, hb⟩; have n0_ := Aside0.mk (below_step (by repeat (first | (with_reducible first | exact HB.out | apply below_alloc | apply pw_below_drewN | apply below_drew1) | exact HB.out)) hb); clear HB; have HB := n0_; clear n0_; (try clear hb); (try clear hb2); (try clear hk); (try clear hi)))
          repeat (go_quiet (first | (go_at_call 14; (with_reducible refine (pacemakerlaw28_small.calls _ _ l2 true _ ?side1 ?side2 A4.out).mono ?_); (case side1 => repeat (first | exact HR2.out | (with_reducible refine Kd.C_alloc ?_ _) | (with_reducible refine Kd.C_drewN ?_ _) | (with_reducible refine Kd.C_drew ?_))); (case side2 => exact HC2.out); rintro e w' ⟨rfl, ⟨nd, rfl⟩⟩; (try first | exact ⟨rfl, _, World.drewN_drewN _ _ _⟩ | exact ⟨rfl, _, Eq.trans (World.drewN_drewN _ _ _) (congrArg (World.drewN _) (Nat.add_assoc _ _ _))⟩)) | (go_at_call 15; (with_reducible refine (pacemakerlaw28_queued.calls k  t209 _ A13.out).mono ?_); rintro e w14 ⟨rfl, hb⟩; have n0_ := Aside0.mk (below_step (by repeat (first | (with_reducible first | exact HB.out | apply below_alloc | apply pw_below_drewN | apply below_drew1) | exact HB.out)) hb); clear HB; have HB := n0_; clear n0_; (try clear hb); (try clear hb2); (try clear hk); (try clear hi))); try go_wp2_with (first | (go_at_call 14; (with_reducible refine (pacemakerlaw28_small.calls _ _ l2 true _ ?side1 ?side2 A4.out).mono ?_); (case side1 => repeat (first | exact HR2.out | (with_reducible refine Kd.C_alloc ?_ _) | (with_reducible refine Kd.C_drewN ?_ _) | (with_reducible refine Kd.C_drew ?_))); (case side2 => exact HC2.out); rintro e w' ⟨rfl, ⟨nd, rfl⟩⟩; (try first | exact ⟨rfl, _, World.drewN_drewN _ _ _⟩ | exact ⟨rfl, _, Eq.trans (World.drewN_drewN _ _ _) (congrArg (World.drewN _) (Nat.add_assoc _ _ _))⟩)) | (go_at_call 15; (with_reducible refine (pacemakerlaw28_queued.calls k  t209 _ A13.out).mono ?_); rintro e w14 ⟨rfl, hb⟩; have n0_ := Aside0.mk (below_step (by repeat (first | (with_reducible first | exact HB.out | apply below_alloc | apply pw_below_drewN | apply below_drew1) | exact HB.out)) hb); clear HB; have HB := n0_; clear n0_; (try clear hb); (try clear hb2); (try clear hk); (try clear hi))))
          go_ret
          exact ⟨by first | rfl | (simp [errW_none, errW_some] <;> rfl) | (simp [*, errW_none, errW_some] <;> rfl), by repeat (first | (with_reducible first | exact HB.out | apply below_alloc | apply pw_below_drewN | apply below_drew1) | exact HB.out)⟩
        · rw [if_neg c12] at H
          have c12b0 : decide (a1 < 1) = false := decide_eq_false c12
          clear c12
          by_cases c15 : a1 > 1000000000
          · rw [if_pos c15] at H
            have c15b0 : decide (1000000000 < a1) = true := decide_eq_true c15
            clear c15
            replace H := Option.bind_eq_some_iff.mp H
            obtain ⟨t210, A160, H⟩ := H
            replace H : (some t210) = some r := H
            have A16 := Aside0.mk A160
            clear A160
            obtain rfl := Option.some.inj H
            go_enter Try.func4, Try.ntmps4
            go_wp2_with (first | (go_at_call 14; (with_reducible refine (pacemakerlaw28_small.calls _ _ l2 true _ ?side1 ?side2 A4.out).mono ?_); (case side1 => repeat (first | exact HR2.out | (with_reducible refine Kd.C_alloc ?_ _) | (with_reducible refine Kd.C_drewN ?_ _) | (with_reducible refine Kd.C_drew ?_))); (case side2 => exact HC2.out); rintro e w' ⟨rfl, ⟨nd, rfl⟩⟩; (try first | exact ⟨rfl, _, World.drewN_drewN _ _ _⟩ | exact ⟨rfl, _, Eq.trans (World.drewN_drewN _ _ _) (congrArg (World.drewN _) (Nat.add_assoc _ _ _))⟩)) | (go_at_call 15; (with_reducible refine (pacemakerlaw28_queued.calls k  t210 _ A16.out).mono ?_); rintro e w17 ⟨rfl, hb⟩; have n0_ := Aside0.mk (below_step (by repeat (first | (with_reducible first | exact HB.out | apply below_alloc | apply pw_below_drewN | apply below_drew1) | exact HB.out)) hb); clear HB; have HB := n0_; clear n0_; (try clear hb); (try clear hb2); (try clear hk); (try clear hi)))
            repeat (go_quiet (first | (go_at_call 14; (with_reducible refine (pacemakerlaw28_small.calls _ _ l2 true _ ?side1 ?side2 A4.out).mono ?_); (case side1 => repeat (first | exact HR2.out | (with_reducible refine Kd.C_alloc ?_ _) | (with_reducible refine Kd.C_drewN ?_ _) | (with_reducible refine Kd.C_drew ?_))); (case side2 => exact HC2.out); rintro e w' ⟨rfl, ⟨nd, rfl⟩⟩; (try first | exact ⟨rfl, _, World.drewN_drewN _ _ _⟩ | exact ⟨rfl, _, Eq.trans (World.drewN_drewN _ _ _) (congrArg (World.drewN _) (Nat.add_assoc _ _ _))⟩)) | (go_at_call 15; (with_reducible refine (pacemakerlaw28_queued.calls k  t210 _ A16.out).mono ?_); rintro e w17 ⟨rfl, hb⟩; have n0_ := Aside0.mk (below_step (by repeat (first | (with_reducible first | exact HB.out | apply below_alloc | apply pw_below_drewN | apply below_drew1) | exact HB.out)) hb); clear HB; have HB := n0_; clear n0_; (try clear hb); (try clear hb2); (try clear hk); (try clear hi))); try go_wp2_with (first | (go_at_call 14; (with_reducible refine (pacemakerlaw28_small.calls _ _ l2 true _ ?side1 ?side2 A4.out).mono ?_); (case side1 => repeat (first | exact HR2.out | (with_reducible refine Kd.C_alloc ?_ _) | (with_reducible refine Kd.C_drewN ?_ _) | (with_reducible refine Kd.C_drew ?_))); (case side2 => exact HC2.out); rintro e w' ⟨rfl, ⟨nd, rfl⟩⟩; (try first | exact ⟨rfl, _, World.drewN_drewN _ _ _⟩ | exact ⟨rfl, _, Eq.trans (World.drewN_drewN _ _ _) (congrArg (World.drewN _) (Nat.add_assoc _ _ _))⟩)) | (go_at_call 15; (with_reducible refine (pacemakerlaw28_queued.calls k  t210 _ A16.out).mono ?_); rintro e w17 ⟨rfl, hb⟩; have n0_ := Aside0.mk (below_step (by repeat (first | (with_reducible first | exact HB.out | apply below_alloc | apply pw_below_drewN | apply below_drew1) | exact HB.out)) hb); clear HB; have HB := n0_; clear n0_; (try clear hb); (try clear hb2); (try clear hk); (try clear hi))))
            go_ret
            exact ⟨by first | rfl | (simp [errW_none, errW_some] <;> rfl) | (simp [*, errW_none, errW_some] <;> rfl), by repeat (first | (with_reducible first | exact HB.out | apply below_alloc | apply pw_below_drewN | apply below_drew1) | exact HB.out)⟩
          · rw [if_neg c15] at H
            have c15b0 : decide (1000000000 < a1) = false := decide_eq_false c15
            clear c15
            replace H := Option.bind_eq_some_iff.mp H
            obtain ⟨⟨t211, t214, t215⟩, A180, H⟩ := H
            replace H : (if (t211.length : Int) = (l2.length : Int) then (pacemakerlaw28_QueueOrder.l0 k a0 a1 l2 t211 0 0) else (some false)) = some r := H
            have A18 := Aside0.mk A180
            clear A180
            by_cases c19 : (t211.length : Int) = (l2.length : Int)
            · rw [if_pos c19] at H
              have c19b0 : ((t211.length : Int) == (l2.length : Int)) = true := beq_iff_eq.mpr c19
              have c19b1 : ((t211.length : Int) != (l2.length : Int)) = false := bne_eq_false_iff_eq.mpr c19
              have c19b2 : (t211.length == l2.length) = true := by first | simpa using c19 | (simp at c19 ⊢; omega)
              clear c19
              have H' := Aside0.mk H
              clear H
              go_enter Try.func4, Try.ntmps4
              go_wp2_with (first | (go_at_call 14; (with_reducible refine (pacemakerlaw28_small.calls _ _ l2 true _ ?side1 ?side2 A4.out).mono ?_); (case side1 => repeat (first | exact HR2.out | (with_reducible refine Kd.C_alloc ?_ _) | (with_reducible refine Kd.C_drewN ?_ _) | (with_reducible refine Kd.C_drew ?_))); (case side2 => exact HC2.out); rintro e w' ⟨rfl, ⟨nd, rfl⟩⟩; (try first | exact ⟨rfl, _, World.drewN_drewN _ _ _⟩ | exact ⟨rfl, _, Eq.trans (World.drewN_drewN _ _ _) (congrArg (World.drewN _) (Nat.add_assoc _ _ _))⟩)) | (go_at_call 16; (with_reducible refine (queue_Row.calls k a0 a1 _ _ l2 t211 t214 t215 _ ?side1 ?side2 A18.out).mono ?_); (case side1 => repeat (first | exact HR2.out | (with_reducible refine Kd.C_alloc ?_ _) | (with_reducible refine Kd.C_drewN ?_ _) | (with_reducible refine Kd.C_drew ?_))); (case side2 => exact HC2.out); rintro e w20 ⟨v212, rfl, ho0, hb⟩; have n0_ := Aside0.mk (Kd.R_lower ho0 (below_size (by repeat (first | (with_reducible first | exact HB.out | apply below_alloc | apply pw_below_drewN | apply below_drew1) | exact HB.out)))); have n1_ := Aside0.mk (below_step (by repeat (first | (with_reducible first | exact HB.out | apply below_alloc | apply pw_below_drewN | apply below_drew1) | exact HB.out)) hb); clear HB; have HO213 := n0_; have HB := n1_; clear n0_ n1_; (try clear hb); (try clear hb2); (try clear hk); (try clear hi); (try clear ho0)) | ((with_reducible refine gate_dst (N := 8) rfl ?_); refine box_event ?hg (N := 8) ?hd (cs := #[.int .i64 0, .int .i64 0]) (t := 23) ?hr ?_; (case hd => rfl); (case hg => rfl); (case hr => first | (go_simp; done) | (go_simp; rfl)); intro gb216 hg w21 hbox hb; have n0_ := Aside0.mk (Kd.R_below (by (with_reducible repeat (first | apply Kd.R_alloc | apply Kd.R_drewN | apply Kd.R_drew)); exact HO213.out) hb); have n1_ := Aside0.mk (below_step (by repeat (first | (with_reducible first | exact HB.out | apply below_alloc | apply pw_below_drewN | apply below_drew1) | exact HB.out)) hb); have n2_ := Aside0.mk (hbox); have n3_ := Aside0.mk ((by rw [hg]; exact (below_size (by repeat (first | (with_reducible first | exact HB.out | apply below_alloc | apply pw_below_drewN | apply below_drew1) | exact HB.out))) : w.heap.size ≤ gb216)); have n4_ := Aside0.mk ((by rw [hg]; exact (below_size (by repeat (first | (with_reducible first | exact HB.out | apply below_alloc | apply pw_below_drewN | apply below_drew1) | exact HB.out))) : w.heap.size ≤ gb216)); clear HO213; clear HB; have HO213 := n0_; have HB := n1_; have BK216 := n2_; have GW216 := n3_; have GE216 := n4_; clear n0_ n1_ n2_ n3_ n4_; clear hb hbox hg; have hcz22_0 : w21.cell? ⟨gb216, 0, none⟩ = some (.int .i64 0) := (blk_cell BK216.out 0).trans rfl; have hcz22_1 : w21.cell? ⟨gb216, 1, none⟩ = some (.int .i64 0) := (blk_cell BK216.out 1).trans rfl; have hfz22_0 := blk_frozen BK216.out 0; have hfz22_1 := blk_frozen BK216.out 1; obtain ⟨Ao23, co23, eo23⟩ := Kd.R_slice HO213.out; subst eo23))
              repeat (go_quiet (first | (go_at_call 14; (with_reducible refine (pacemakerlaw28_small.calls _ _ l2 true _ ?side1 ?side2 A4.out).mono ?_); (case side1 => repeat (first | exact HR2.out | (with_reducible refine Kd.C_alloc ?_ _) | (with_reducible refine Kd.C_drewN ?_ _) | (with_reducible refine Kd.C_drew ?_))); (case side2 => exact HC2.out); rintro e w' ⟨rfl, ⟨nd, rfl⟩⟩; (try first | exact ⟨rfl, _, World.drewN_drewN _ _ _⟩ | exact ⟨rfl, _, Eq.trans (World.drewN_drewN _ _ _) (congrArg (World.drewN _) (Nat.add_assoc _ _ _))⟩)) | (go_at_call 16; (with_reducible refine (queue_Row.calls k a0 a1 _ _ l2 t211 t214 t215 _ ?side1 ?side2 A18.out).mono ?_); (case side1 => repeat (first | exact HR2.out | (with_reducible refine Kd.C_alloc ?_ _) | (with_reducible refine Kd.C_drewN ?_ _) | (with_reducible refine Kd.C_drew ?_))); (case side2 => exact HC2.out); rintro e w20 ⟨v212, rfl, ho0, hb⟩; have n0_ := Aside0.mk (Kd.R_lower ho0 (below_size (by repeat (first | (with_reducible first | exact HB.out | apply below_alloc | apply pw_below_drewN | apply below_drew1) | exact HB.out)))); have n1_ := Aside0.mk (below_step (by repeat (first | (with_reducible first | exact HB.out | apply below_alloc | apply pw_below_drewN | apply below_drew1) | exact HB.out)) hb); clear HB; have HO213 := n0_; have HB := n1_; clear n0_ n1_; (try clear hb); (try clear hb2); (try clear hk); (try clear hi); (try clear ho0)) | ((with_reducible refine gate_dst (N := 8) rfl ?_); refine box_event ?hg (N := 8) ?hd (cs := #[.int .i64 0, .int .i64 0]) (t := 23) ?hr ?_; (case hd => rfl); (case hg => rfl); (case hr => first | (go_simp; done) | (go_simp; rfl)); intro gb216 hg w21 hbox hb; have n0_ := Aside0.mk (Kd.R_below (by (with_reducible repeat (first | apply Kd.R_alloc | apply Kd.R_drewN | apply Kd.R_drew)); exact HO213.out) hb); have n1_ := Aside0.mk (below_step (by repeat (first | (with_reducible first | exact HB.out | apply below_alloc | apply pw_below_drewN | apply below_drew1) | exact HB.out)) hb); have n2_ := Aside0.mk (hbox); have n3_ := Aside0.mk ((by rw [hg]; exact (below_size (by repeat (first | (with_reducible first | exact HB.out | apply below_alloc | apply pw_below_drewN | apply below_drew1) | exact HB.out))) : w.heap.size ≤ gb216)); have n4_ := Aside0.mk ((by rw [hg]; exact (below_size (by repeat (first | (with_reducible first | exact HB.out | apply below_alloc | apply pw_below_drewN | apply below_drew1) | exact HB.out))) : w.heap.size ≤ gb216)); clear HO213; clear HB; have HO213 := n0_; have HB := n1_; have BK216 := n2_; have GW216 := n3_; have GE216 := n4_; clear n0_ n1_ n2_ n3_ n4_; clear hb hbox hg; have hcz22_0 : w21.cell? ⟨gb216, 0, none⟩ = some (.int .i64 0) := (blk_cell BK216.out 0).trans rfl; have hcz22_1 : w21.cell? ⟨gb216, 1, none⟩ = some (.int .i64 0) := (blk_cell BK216.out 1).trans rfl; have hfz22_0 := blk_frozen BK216.out 0; have hfz22_1 := blk_frozen BK216.out 1; obtain ⟨Ao23, co23, eo23⟩ := Kd.R_slice HO213.out; subst eo23)); try go_wp2_with (first | (go_at_call 14; (with_reducible refine (pacemakerlaw28_small.calls _ _ l2 true _ ?side1 ?side2 A4.out).mono ?_); (case side1 => repeat (first | exact HR2.out | (with_reducible refine Kd.C_alloc ?_ _) | (with_reducible refine Kd.C_drewN ?_ _) | (with_reducible refine Kd.C_drew ?_))); (case side2 => exact HC2.out); rintro e w' ⟨rfl, ⟨nd, rfl⟩⟩; (try first | exact ⟨rfl, _, World.drewN_drewN _ _ _⟩ | exact ⟨rfl, _, Eq.trans (World.drewN_drewN _ _ _) (congrArg (World.drewN _) (Nat.add_assoc _ _ _))⟩)) | (go_at_call 16; (with_reducible refine (queue_Row.calls k a0 a1 _ _ l2 t211 t214 t215 _ ?side1 ?side2 A18.out).mono ?_); (case side1 => repeat (first | exact HR2.out | (with_reducible refine Kd.C_alloc ?_ _) | (with_reducible refine Kd.C_drewN ?_ _) | (with_reducible refine Kd.C_drew ?_))); (case side2 => exact HC2.out); rintro e w20 ⟨v212, rfl, ho0, hb⟩; have n0_ := Aside0.mk (Kd.R_lower ho0 (below_size (by repeat (first | (with_reducible first | exact HB.out | apply below_alloc | apply pw_below_drewN | apply below_drew1) | exact HB.out)))); have n1_ := Aside0.mk (below_step (by repeat (first | (with_reducible first | exact HB.out | apply below_alloc | apply pw_below_drewN | apply below_drew1) | exact HB.out)) hb); clear HB; have HO213 := n0_; have HB := n1_; clear n0_ n1_; (try clear hb); (try clear hb2); (try clear hk); (try clear hi); (try clear ho0)) | ((with_reducible refine gate_dst (N := 8) rfl ?_); refine box_event ?hg (N := 8) ?hd (cs := #[.int .i64 0, .int .i64 0]) (t := 23) ?hr ?_; (case hd => rfl); (case hg => rfl); (case hr => first | (go_simp; done) | (go_simp; rfl)); intro gb216 hg w21 hbox hb; have n0_ := Aside0.mk (Kd.R_below (by (with_reducible repeat (first | apply Kd.R_alloc | apply Kd.R_drewN | apply Kd.R_drew)); exact HO213.out) hb); have n1_ := Aside0.mk (below_step (by repeat (first | (with_reducible first | exact HB.out | apply below_alloc | apply pw_below_drewN | apply below_drew1) | exact HB.out)) hb); have n2_ := Aside0.mk (hbox); have n3_ := Aside0.mk ((by rw [hg]; exact (below_size (by repeat (first | (with_reducible first | exact HB.out | apply below_alloc | apply pw_below_drewN | apply below_drew1) | exact HB.out))) : w.heap.size ≤ gb216)); have n4_ := Aside0.mk ((by rw [hg]; exact (below_size (by repeat (first | (with_reducible first | exact HB.out | apply below_alloc | apply pw_below_drewN | apply below_drew1) | exact HB.out))) : w.heap.size ≤ gb216)); clear HO213; clear HB; have HO213 := n0_; have HB := n1_; have BK216 := n2_; have GW216 := n3_; have GE216 := n4_; clear n0_ n1_ n2_ n3_ n4_; clear hb hbox hg; have hcz22_0 : w21.cell? ⟨gb216, 0, none⟩ = some (.int .i64 0) := (blk_cell BK216.out 0).trans rfl; have hcz22_1 : w21.cell? ⟨gb216, 1, none⟩ = some (.int .i64 0) := (blk_cell BK216.out 1).trans rfl; have hfz22_0 := blk_frozen BK216.out 0; have hfz22_1 := blk_frozen BK216.out 1; obtain ⟨Ao23, co23, eo23⟩ := Kd.R_slice HO213.out; subst eo23)))
              go_loopg [9, 10] k (fun kq v9 v10 w' => ∃ (x9_1 : Int) (x10_1 : Int), v9 = .int .i64 x9_1 ∧ v10 = .int .i64 x10_1 ∧ Aside0 (pacemakerlaw28_QueueOrder.l0 kq a0 a1 l2 t211 x9_1 x10_1 = some r) ∧ Aside0 (kq ≤ k) ∧ Aside0 (Kd.R k41 41 w' w.heap.size (fun _ => True) (.slice Ao23 t211.length co23) t211) ∧ Aside0 (w'.heap[gb216]? = some (.cells #[.int .i64 t214, .int .i64 t215] 23 (0, 0))) ∧ Aside0 (Below w.heap.size w w'))
              case atStart => exact ⟨(0), (0), (by first | rfl | (simp; done) | (simp [*]; done)), (by first | rfl | (simp; done) | (simp [*]; done)), H', ⟨Nat.le_refl _⟩, ⟨by (with_reducible repeat (first | apply Kd.R_alloc | apply Kd.R_drewN | apply Kd.R_drew)); exact Kd.R_mono (Kd.R_far (p := ⟨gb216, 1, none⟩) (Kd.R_far (p := ⟨gb216, 0, none⟩) (Kd.R_types HO213.out BK216.out (by decide)) (fun _ hk => hk.2) (.int .i64 t214)) (fun _ hk => hk.2) (.int .i64 t215)) (fun _ hk => trivial)⟩, ⟨by (with_reducible repeat (first | refine blk_drewN ?_ _ | refine blk_drew ?_ | refine blk_alloc ?_ _)); refine blk_put (cs := #[.int .i64 t214, .int .i64 0]) ?_ 1 _ rfl; (with_reducible repeat (first | refine blk_drewN ?_ _ | refine blk_drew ?_ | refine blk_alloc ?_ _)); refine blk_put (cs := #[.int .i64 0, .int .i64 0]) ?_ 0 _ rfl; (with_reducible repeat (first | refine blk_drewN ?_ _ | refine blk_drew ?_ | refine blk_alloc ?_ _)); exact BK216.out⟩, ⟨by repeat (first | (with_reducible first | exact HB.out | apply below_alloc | apply pw_below_drewN | apply below_drew1 | refine below_set ?_ GE216.out) | exact HB.out)⟩⟩
              case round =>
                clear H'
                try clear c1
                try clear c2
                try clear p2
                try clear c4
                try clear c5
                try clear c6
                try clear c6b0
                try clear c9
                try clear c9b0
                try clear c12
                try clear c12b0
                try clear c15
                try clear c15b0
                try clear c19
                try clear c19b0
                try clear c19b1
                try clear c19b2
                try clear hcz22_0
                try clear hcz22_1
                try clear hfz22_0
                try clear hfz22_1
                obtain ⟨x9_1, x10_1, rfl, rfl, HA, HK1, HO_7, BK216, HB⟩ := hrel
                cases gk with
                | zero => exact absurd HA.out (by simp [pacemakerlaw28_QueueOrder.l0])
                | succ k1 =>
                  have H := HA.out
                  clear HA
                  simp only [pacemakerlaw28_QueueOrder.l0] at H
                  by_cases c24 : x10_1 < (l2.length : Int)
                  · rw [if_pos c24] at H
                    have c24b0 : decide (x10_1 < (l2.length : Int)) = true := decide_eq_true c24
                    clear c24
                    by_cases c25 : 0 ≤ x10_1
                    · rw [if_pos c25] at H
                      have c25b0 : decide (0 ≤ x10_1) = true := decide_eq_true c25
                      clear c25
                      by_cases c26 : x10_1 < (t211.length : Int)
                      · rw [if_pos c26] at H
                        have c26b0 : decide (x10_1 < (t211.length : Int)) = true := decide_eq_true c26
                        clear c26
                        obtain ⟨bq27, hbq27⟩ : ∃ b_ : Bool, b_ = ((rd_T41 t211 x10_1).f1) := ⟨_, rfl⟩
                        replace H : (if bq27 = true then (if ((rd_T41 t211 x10_1).f0) = 0 then (pacemakerlaw28_QueueOrder.l0 k1 a0 a1 l2 t211 x9_1 (wrap64 (x10_1 + 1))) else (some false)) else (if a1 = 0 then (none) else (if ((rd_T41 t211 x10_1).f0) < (wrap64 (x9_1 + (wrap64 (Int.tdiv (wrap64 (((rd_T25 l2 x10_1).f1) * 1000000)) a1)))) then (some false) else (if (wrap64 (((rd_T41 t211 x10_1).f0) - ((rd_T25 l2 x10_1).f0))) < (wrap64 (Int.tdiv (wrap64 (((rd_T25 l2 x10_1).f1) * 1000000)) a1)) then (some false) else (if (wrap64 (((rd_T41 t211 x10_1).f0) - ((rd_T25 l2 x10_1).f0))) > (wrap64 ((wrap64 (Int.tdiv (wrap64 (a0 * 1000000)) a1)) + 1)) then (some false) else (if x9_1 ≤ ((rd_T25 l2 x10_1).f0) then (if (wrap64 (((rd_T41 t211 x10_1).f0) - ((rd_T25 l2 x10_1).f0))) > (wrap64 ((wrap64 (Int.tdiv (wrap64 (((rd_T25 l2 x10_1).f1) * 1000000)) a1)) + 1)) then (some false) else (pacemakerlaw28_QueueOrder.l0 k1 a0 a1 l2 t211 ((rd_T41 t211 x10_1).f0) (wrap64 (x10_1 + 1)))) else (pacemakerlaw28_QueueOrder.l0 k1 a0 a1 l2 t211 ((rd_T41 t211 x10_1).f0) (wrap64 (x10_1 + 1))))))))) = some r := by rw [← hbq27] at H; exact H
                        have Nbq27 := Aside0.mk hbq27
                        clear hbq27
                        by_cases c28 : bq27 = true
                        · subst c28
                          have H1 : (if ((rd_T41 t211 x10_1).f0) = 0 then (pacemakerlaw28_QueueOrder.l0 k1 a0 a1 l2 t211 x9_1 (wrap64 (x10_1 + 1))) else (some false)) = some r := by rw [if_pos rfl] at H; exact H
                          clear H
                          have H := H1
                          clear H1
                          by_cases c29 : ((rd_T41 t211 x10_1).f0) = 0
                          · rw [if_pos c29] at H
                            have c29b0 : (((rd_T41 t211 x10_1).f0) == 0) = true := beq_iff_eq.mpr c29
                            have c29b1 : (((rd_T41 t211 x10_1).f0) != 0) = false := bne_eq_false_iff_eq.mpr c29
                            clear c29
                            have H' := Aside0.mk H
                            clear H
                            have p217 : 0 ≤ (x10_1 : Int) := of_decide_eq_true (by first | (with_reducible assumption) | assumption)
                            have q217 : x10_1 < (t211.length : Int) := of_decide_eq_true (by first | (with_reducible assumption) | assumption)
                            obtain ⟨ad217, e217, hx217_0, hx217_1⟩ := at_T41 (Kd.R_reads' HO_7.out).2.2 x10_1 p217 q217
                            (try rw [← Nbq27.out] at hx217_1)
                            cases e217
                            replace p217 := eq_true p217
                            replace q217 := eq_true q217
                            have p218 : 0 ≤ (x10_1 : Int) := of_decide_eq_true (by first | (with_reducible assumption) | assumption)
                            have q218 : x10_1 < (t211.length : Int) := of_decide_eq_true (by first | (with_reducible assumption) | assumption)
                            obtain ⟨ad218, e218, hx218_0, hx218_1⟩ := at_T41 (Kd.R_reads' HO_7.out).2.2 x10_1 p218 q218
                            (try rw [← Nbq27.out] at hx218_1)
                            obtain rfl : ad217 = ad218 := (by injection e218)
                            replace p218 := eq_true p218
                            replace q218 := eq_true q218
                            go_wp2
                            repeat (go_quiet (fail); try go_wp2)
                            go_roundg k1
                            case measure => have := HK1.out; omega
                            case rel => exact ⟨(x9_1), (wrap64 (x10_1 + 1)), (by first | rfl | (simp; done) | (simp [*]; done)), (by first | rfl | (simp; done) | (simp [*]; done)), H', ⟨by have := HK1.out; omega⟩, ⟨by (with_reducible repeat (first | apply Kd.R_alloc | apply Kd.R_drewN | apply Kd.R_drew)); exact HO_7.out⟩, ⟨by (with_reducible repeat (first | refine blk_drewN ?_ _ | refine blk_drew ?_ | refine blk_alloc ?_ _)); exact BK216.out⟩, ⟨by repeat (first | (with_reducible first | exact HB.out | apply below_alloc | apply pw_below_drewN | apply below_drew1 | refine below_set ?_ GE216.out) | exact HB.out)⟩⟩
                          · rw [if_neg c29] at H
                            have c29b0 : (((rd_T41 t211 x10_1).f0) == 0) = false := beq_eq_false_iff_ne.mpr c29
                            have c29b1 : (((rd_T41 t211 x10_1).f0) != 0) = true := bne_iff_ne.mpr c29
                            exact absurd ((Option.some.inj H).trans HT.out) (by decide)
                        · replace c28 := Bool.eq_false_iff.mpr c28
                          subst c28
                          have H1 : (if a1 = 0 then (none) else (if ((rd_T41 t211 x10_1).f0) < (wrap64 (x9_1 + (wrap64 (Int.tdiv (wrap64 (((rd_T25 l2 x10_1).f1) * 1000000)) a1)))) then (some false) else (if (wrap64 (((rd_T41 t211 x10_1).f0) - ((rd_T25 l2 x10_1).f0))) < (wrap64 (Int.tdiv (wrap64 (((rd_T25 l2 x10_1).f1) * 1000000)) a1)) then (some false) else (if (wrap64 (((rd_T41 t211 x10_1).f0) - ((rd_T25 l2 x10_1).f0))) > (wrap64 ((wrap64 (Int.tdiv (wrap64 (a0 * 1000000)) a1)) + 1)) then (some false) else (if x9_1 ≤ ((rd_T25 l2 x10_1).f0) then (if (wrap64 (((rd_T41 t211 x10_1).f0) - ((rd_T25 l2 x10_1).f0))) > (wrap64 ((wrap64 (Int.tdiv (wrap64 (((rd_T25 l2 x10_1).f1) * 1000000)) a1)) + 1)) then (some false) else (pacemakerlaw28_QueueOrder.l0 k1 a0 a1 l2 t211 ((rd_T41 t211 x10_1).f0) (wrap64 (x10_1 + 1)))) else (pacemakerlaw28_QueueOrder.l0 k1 a0 a1 l2 t211 ((rd_T41 t211 x10_1).f0) (wrap64 (x10_1 + 1)))))))) = some r := by rw [if_neg (show ¬ (false = true) by decide)] at H; exact H
                          clear H
                          have H := H1
                          clear H1
                          by_cases c30 : a1 = 0
                          · rw [if_pos c30] at H
                            exact absurd H (by simp)
                          · rw [if_neg c30] at H
                            have c30b0 : (a1 == 0) = false := beq_eq_false_iff_ne.mpr c30
                            have c30b1 : (a1 != 0) = true := bne_iff_ne.mpr c30
                            by_cases c31 : ((rd_T41 t211 x10_1).f0) < (wrap64 (x9_1 + (wrap64 (Int.tdiv (wrap64 (((rd_T25 l2 x10_1).f1) * 1000000)) a1))))
                            · rw [if_pos c31] at H
                              have c31b0 : decide (((rd_T41 t211 x10_1).f0) < (wrap64 (x9_1 + (wrap64 (Int.tdiv (wrap64 (((rd_T25 l2 x10_1).f1) * 1000000)) a1))))) = true := decide_eq_true c31
                              clear c31
                              exact absurd ((Option.some.inj H).trans HT.out) (by decide)
                            · rw [if_neg c31] at H
                              have c31b0 : decide (((rd_T41 t211 x10_1).f0) < (wrap64 (x9_1 + (wrap64 (Int.tdiv (wrap64 (((rd_T25 l2 x10_1).f1) * 1000000)) a1))))) = false := decide_eq_false c31
                              clear c31
                              by_cases c32 : (wrap64 (((rd_T41 t211 x10_1).f0) - ((rd_T25 l2 x10_1).f0))) < (wrap64 (Int.tdiv (wrap64 (((rd_T25 l2 x10_1).f1) * 1000000)) a1))
                              · rw [if_pos c32] at H
                                have c32b0 : decide ((wrap64 (((rd_T41 t211 x10_1).f0) - ((rd_T25 l2 x10_1).f0))) < (wrap64 (Int.tdiv (wrap64 (((rd_T25 l2 x10_1).f1) * 1000000)) a1))) = true := decide_eq_true c32
                                clear c32
                                exact absurd ((Option.some.inj H).trans HT.out) (by decide)
                              · rw [if_neg c32] at H
                                have c32b0 : decide ((wrap64 (((rd_T41 t211 x10_1).f0) - ((rd_T25 l2 x10_1).f0))) < (wrap64 (Int.tdiv (wrap64 (((rd_T25 l2 x10_1).f1) * 1000000)) a1))) = false := decide_eq_false c32
                                clear c32
                                by_cases c33 : (wrap64 (((rd_T41 t211 x10_1).f0) - ((rd_T25 l2 x10_1).f0))) > (wrap64 ((wrap64 (Int.tdiv (wrap64 (a0 * 1000000)) a1)) + 1))
                                · rw [if_pos c33] at H
                                  have c33b0 : decide ((wrap64 ((wrap64 (Int.tdiv (wrap64 (a0 * 1000000)) a1)) + 1)) < (wrap64 (((rd_T41 t211 x10_1).f0) - ((rd_T25 l2 x10_1).f0)))) = true := decide_eq_true c33
                                  clear c33
                                  exact absurd ((Option.some.inj H).trans HT.out) (by decide)
                                · rw [if_neg c33] at H
                                  have c33b0 : decide ((wrap64 ((wrap64 (Int.tdiv (wrap64 (a0 * 1000000)) a1)) + 1)) < (wrap64 (((rd_T41 t211 x10_1).f0) - ((rd_T25 l2 x10_1).f0)))) = false := decide_eq_false c33
                                  clear c33
                                  by_cases c34 : x9_1 ≤ ((rd_T25 l2 x10_1).f0)
                                  · rw [if_pos c34] at H
                                    have c34b0 : decide (x9_1 ≤ ((rd_T25 l2 x10_1).f0)) = true := decide_eq_true c34
                                    clear c34
                                    by_cases c35 : (wrap64 (((rd_T41 t211 x10_1).f0) - ((rd_T25 l2 x10_1).f0))) > (wrap64 ((wrap64 (Int.tdiv (wrap64 (((rd_T25 l2 x10_1).f1) * 1000000)) a1)) + 1))
                                    · rw [if_pos c35] at H
                                      have c35b0 : decide ((wrap64 ((wrap64 (Int.tdiv (wrap64 (((rd_T25 l2 x10_1).f1) * 1000000)) a1)) + 1)) < (wrap64 (((rd_T41 t211 x10_1).f0) - ((rd_T25 l2 x10_1).f0)))) = true := decide_eq_true c35
                                      clear c35
                                      exact absurd ((Option.some.inj H).trans HT.out) (by decide)
                                    · rw [if_neg c35] at H
                                      have c35b0 : decide ((wrap64 ((wrap64 (Int.tdiv (wrap64 (((rd_T25 l2 x10_1).f1) * 1000000)) a1)) + 1)) < (wrap64 (((rd_T41 t211 x10_1).f0) - ((rd_T25 l2 x10_1).f0)))) = false := decide_eq_false c35
                                      clear c35
                                      have H' := Aside0.mk H
                                      clear H
                                      have p217 : 0 ≤ (x10_1 : Int) := of_decide_eq_true (by first | (with_reducible assumption) | assumption)
                                      have q217 : x10_1 < (t211.length : Int) := of_decide_eq_true (by first | (with_reducible assumption) | assumption)
                                      obtain ⟨ad217, e217, hx217_0, hx217_1⟩ := at_T41 (Kd.R_reads' HO_7.out).2.2 x10_1 p217 q217
                                      (try rw [← Nbq27.out] at hx217_1)
                                      cases e217
                                      replace p217 := eq_true p217
                                      replace q217 := eq_true q217
                                      have p219 : 0 ≤ (x10_1 : Int) := of_decide_eq_true (by first | (with_reducible assumption) | assumption)
                                      have q219 : x10_1 < (l2.length : Int) := of_decide_eq_true (by first | (with_reducible assumption) | assumption)
                                      obtain ⟨ad219, e219, hx219_0, hx219_1⟩ := at_T25 HR2.out x10_1 p219 q219
                                      cases e219
                                      replace hx219_0 := (HB.out.cell (World.block_lt_of_cell? w _ hx219_0)).trans hx219_0
                                      replace hx219_1 := (HB.out.cell (World.block_lt_of_cell? w _ hx219_1)).trans hx219_1
                                      replace p219 := eq_true p219
                                      replace q219 := eq_true q219
                                      have p220 : 0 ≤ (x10_1 : Int) := of_decide_eq_true (by first | (with_reducible assumption) | assumption)
                                      have q220 : x10_1 < (t211.length : Int) := of_decide_eq_true (by first | (with_reducible assumption) | assumption)
                                      obtain ⟨ad220, e220, hx220_0, hx220_1⟩ := at_T41 (Kd.R_reads' HO_7.out).2.2 x10_1 p220 q220
                                      (try rw [← Nbq27.out] at hx220_1)
                                      obtain rfl : ad217 = ad220 := (by injection e220)
                                      replace p220 := eq_true p220
                                      replace q220 := eq_true q220
                                      have p221 : 0 ≤ (x10_1 : Int) := of_decide_eq_true (by first | (with_reducible assumption) | assumption)
                                      have q221 : x10_1 < (t211.length : Int) := of_decide_eq_true (by first | (with_reducible assumption) | assumption)
                                      obtain ⟨ad221, e221, hx221_0, hx221_1⟩ := at_T41 (Kd.R_reads' HO_7.out).2.2 x10_1 p221 q221
                                      (try rw [← Nbq27.out] at hx221_1)
                                      obtain rfl : ad217 = ad221 := (by injection e221)
                                      replace p221 := eq_true p221
                                      replace q221 := eq_true q221
                                      have p222 : 0 ≤ (x10_1 : Int) := of_decide_eq_true (by first | (with_reducible assumption) | assumption)
                                      have q222 : x10_1 < (l2.length : Int) := of_decide_eq_true (by first | (with_reducible assumption) | assumption)
                                      obtain ⟨ad222, e222, hx222_0, hx222_1⟩ := at_T25 HR2.out x10_1 p222 q222
                                      obtain rfl : ad219 = ad222 := (by injection e222)
                                      replace hx222_0 := (HB.out.cell (World.block_lt_of_cell? w _ hx222_0)).trans hx222_0
                                      replace hx222_1 := (HB.out.cell (World.block_lt_of_cell? w _ hx222_1)).trans hx222_1
                                      replace p222 := eq_true p222
                                      replace q222 := eq_true q222
                                      have p223 : 0 ≤ (x10_1 : Int) := of_decide_eq_true (by first | (with_reducible assumption) | assumption)
                                      have q223 : x10_1 < (t211.length : Int) := of_decide_eq_true (by first | (with_reducible assumption) | assumption)
                                      obtain ⟨ad223, e223, hx223_0, hx223_1⟩ := at_T41 (Kd.R_reads' HO_7.out).2.2 x10_1 p223 q223
                                      (try rw [← Nbq27.out] at hx223_1)
                                      obtain rfl : ad217 = ad223 := (by injection e223)
                                      replace p223 := eq_true p223
                                      replace q223 := eq_true q223
                                      have p224 : 0 ≤ (x10_1 : Int) := of_decide_eq_true (by first | (with_reducible assumption) | assumption)
                                      have q224 : x10_1 < (l2.length : Int) := of_decide_eq_true (by first | (with_reducible assumption) | assumption)
                                      obtain ⟨ad224, e224, hx224_0, hx224_1⟩ := at_T25 HR2.out x10_1 p224 q224
                                      obtain rfl : ad219 = ad224 := (by injection e224)
                                      replace hx224_0 := (HB.out.cell (World.block_lt_of_cell? w _ hx224_0)).trans hx224_0
                                      replace hx224_1 := (HB.out.cell (World.block_lt_of_cell? w _ hx224_1)).trans hx224_1
                                      replace p224 := eq_true p224
                                      replace q224 := eq_true q224
                                      have p225 : 0 ≤ (x10_1 : Int) := of_decide_eq_true (by first | (with_reducible assumption) | assumption)
                                      have q225 : x10_1 < (l2.length : Int) := of_decide_eq_true (by first | (with_reducible assumption) | assumption)
                                      obtain ⟨ad225, e225, hx225_0, hx225_1⟩ := at_T25 HR2.out x10_1 p225 q225
                                      obtain rfl : ad219 = ad225 := (by injection e225)
                                      replace hx225_0 := (HB.out.cell (World.block_lt_of_cell? w _ hx225_0)).trans hx225_0
                                      replace hx225_1 := (HB.out.cell (World.block_lt_of_cell? w _ hx225_1)).trans hx225_1
                                      replace p225 := eq_true p225
                                      replace q225 := eq_true q225
                                      have p226 : 0 ≤ (x10_1 : Int) := of_decide_eq_true (by first | (with_reducible assumption) | assumption)
                                      have q226 : x10_1 < (t211.length : Int) := of_decide_eq_true (by first | (with_reducible assumption) | assumption)
                                      obtain ⟨ad226, e226, hx226_0, hx226_1⟩ := at_T41 (Kd.R_reads' HO_7.out).2.2 x10_1 p226 q226
                                      (try rw [← Nbq27.out] at hx226_1)
                                      obtain rfl : ad217 = ad226 := (by injection e226)
                                      replace p226 := eq_true p226
                                      replace q226 := eq_true q226
                                      have p227 : 0 ≤ (x10_1 : Int) := of_decide_eq_true (by first | (with_reducible assumption) | assumption)
                                      have q227 : x10_1 < (l2.length : Int) := of_decide_eq_true (by first | (with_reducible assumption) | assumption)
                                      obtain ⟨ad227, e227, hx227_0, hx227_1⟩ := at_T25 HR2.out x10_1 p227 q227
                                      obtain rfl : ad219 = ad227 := (by injection e227)
                                      replace hx227_0 := (HB.out.cell (World.block_lt_of_cell? w _ hx227_0)).trans hx227_0
                                      replace hx227_1 := (HB.out.cell (World.block_lt_of_cell? w _ hx227_1)).trans hx227_1
                                      replace p227 := eq_true p227
                                      replace q227 := eq_true q227
                                      have p228 : 0 ≤ (x10_1 : Int) := of_decide_eq_true (by first | (with_reducible assumption) | assumption)
                                      have q228 : x10_1 < (t211.length : Int) := of_decide_eq_true (by first | (with_reducible assumption) | assumption)
                                      obtain ⟨ad228, e228, hx228_0, hx228_1⟩ := at_T41 (Kd.R_reads' HO_7.out).2.2 x10_1 p228 q228
                                      (try rw [← Nbq27.out] at hx228_1)
                                      obtain rfl : ad217 = ad228 := (by injection e228)
                                      replace p228 := eq_true p228
                                      replace q228 := eq_true q228
                                      go_wp2
                                      repeat (go_quiet (fail); try go_wp2)
                                      go_roundg k1
                                      case measure => have := HK1.out; omega
                                      case rel => exact ⟨((rd_T41 t211 x10_1).f0), (wrap64 (x10_1 + 1)), (by first | rfl | (simp; done) | (simp [*]; done)), (by first | rfl | (simp; done) | (simp [*]; done)), H', ⟨by have := HK1.out; omega⟩, ⟨by (with_reducible repeat (first | apply Kd.R_alloc | apply Kd.R_drewN | apply Kd.R_drew)); exact HO_7.out⟩, ⟨by (with_reducible repeat (first | refine blk_drewN ?_ _ | refine blk_drew ?_ | refine blk_alloc ?_ _)); exact BK216.out⟩, ⟨by repeat (first | (with_reducible first | exact HB.out | apply below_alloc | apply pw_below_drewN | apply below_drew1 | refine below_set ?_ GE216.out) | exact HB.out)⟩⟩
                                  · rw [if_neg c34] at H
                                    have c34b0 : decide (x9_1 ≤ ((rd_T25 l2 x10_1).f0)) = false := decide_eq_false c34
                                    clear c34
                                    have H' := Aside0.mk H
                                    clear H
                                    have p217 : 0 ≤ (x10_1 : Int) := of_decide_eq_true (by first | (with_reducible assumption) | assumption)
                                    have q217 : x10_1 < (t211.length : Int) := of_decide_eq_true (by first | (with_reducible assumption) | assumption)
                                    obtain ⟨ad217, e217, hx217_0, hx217_1⟩ := at_T41 (Kd.R_reads' HO_7.out).2.2 x10_1 p217 q217
                                    (try rw [← Nbq27.out] at hx217_1)
                                    cases e217
                                    replace p217 := eq_true p217
                                    replace q217 := eq_true q217
                                    have p219 : 0 ≤ (x10_1 : Int) := of_decide_eq_true (by first | (with_reducible assumption) | assumption)
                                    have q219 : x10_1 < (l2.length : Int) := of_decide_eq_true (by first | (with_reducible assumption) | assumption)
                                    obtain ⟨ad219, e219, hx219_0, hx219_1⟩ := at_T25 HR2.out x10_1 p219 q219
                                    cases e219
                                    replace hx219_0 := (HB.out.cell (World.block_lt_of_cell? w _ hx219_0)).trans hx219_0
                                    replace hx219_1 := (HB.out.cell (World.block_lt_of_cell? w _ hx219_1)).trans hx219_1
                                    replace p219 := eq_true p219
                                    replace q219 := eq_true q219
                                    have p220 : 0 ≤ (x10_1 : Int) := of_decide_eq_true (by first | (with_reducible assumption) | assumption)
                                    have q220 : x10_1 < (t211.length : Int) := of_decide_eq_true (by first | (with_reducible assumption) | assumption)
                                    obtain ⟨ad220, e220, hx220_0, hx220_1⟩ := at_T41 (Kd.R_reads' HO_7.out).2.2 x10_1 p220 q220
                                    (try rw [← Nbq27.out] at hx220_1)
                                    obtain rfl : ad217 = ad220 := (by injection e220)
                                    replace p220 := eq_true p220
                                    replace q220 := eq_true q220
                                    have p221 : 0 ≤ (x10_1 : Int) := of_decide_eq_true (by first | (with_reducible assumption) | assumption)
                                    have q221 : x10_1 < (t211.length : Int) := of_decide_eq_true (by first | (with_reducible assumption) | assumption)
                                    obtain ⟨ad221, e221, hx221_0, hx221_1⟩ := at_T41 (Kd.R_reads' HO_7.out).2.2 x10_1 p221 q221
                                    (try rw [← Nbq27.out] at hx221_1)
                                    obtain rfl : ad217 = ad221 := (by injection e221)
                                    replace p221 := eq_true p221
                                    replace q221 := eq_true q221
                                    have p222 : 0 ≤ (x10_1 : Int) := of_decide_eq_true (by first | (with_reducible assumption) | assumption)
                                    have q222 : x10_1 < (l2.length : Int) := of_decide_eq_true (by first | (with_reducible assumption) | assumption)
                                    obtain ⟨ad222, e222, hx222_0, hx222_1⟩ := at_T25 HR2.out x10_1 p222 q222
                                    obtain rfl : ad219 = ad222 := (by injection e222)
                                    replace hx222_0 := (HB.out.cell (World.block_lt_of_cell? w _ hx222_0)).trans hx222_0
                                    replace hx222_1 := (HB.out.cell (World.block_lt_of_cell? w _ hx222_1)).trans hx222_1
                                    replace p222 := eq_true p222
                                    replace q222 := eq_true q222
                                    have p223 : 0 ≤ (x10_1 : Int) := of_decide_eq_true (by first | (with_reducible assumption) | assumption)
                                    have q223 : x10_1 < (t211.length : Int) := of_decide_eq_true (by first | (with_reducible assumption) | assumption)
                                    obtain ⟨ad223, e223, hx223_0, hx223_1⟩ := at_T41 (Kd.R_reads' HO_7.out).2.2 x10_1 p223 q223
                                    (try rw [← Nbq27.out] at hx223_1)
                                    obtain rfl : ad217 = ad223 := (by injection e223)
                                    replace p223 := eq_true p223
                                    replace q223 := eq_true q223
                                    have p224 : 0 ≤ (x10_1 : Int) := of_decide_eq_true (by first | (with_reducible assumption) | assumption)
                                    have q224 : x10_1 < (l2.length : Int) := of_decide_eq_true (by first | (with_reducible assumption) | assumption)
                                    obtain ⟨ad224, e224, hx224_0, hx224_1⟩ := at_T25 HR2.out x10_1 p224 q224
                                    obtain rfl : ad219 = ad224 := (by injection e224)
                                    replace hx224_0 := (HB.out.cell (World.block_lt_of_cell? w _ hx224_0)).trans hx224_0
                                    replace hx224_1 := (HB.out.cell (World.block_lt_of_cell? w _ hx224_1)).trans hx224_1
                                    replace p224 := eq_true p224
                                    replace q224 := eq_true q224
                                    have p225 : 0 ≤ (x10_1 : Int) := of_decide_eq_true (by first | (with_reducible assumption) | assumption)
                                    have q225 : x10_1 < (l2.length : Int) := of_decide_eq_true (by first | (with_reducible assumption) | assumption)
                                    obtain ⟨ad225, e225, hx225_0, hx225_1⟩ := at_T25 HR2.out x10_1 p225 q225
                                    obtain rfl : ad219 = ad225 := (by injection e225)
                                    replace hx225_0 := (HB.out.cell (World.block_lt_of_cell? w _ hx225_0)).trans hx225_0
                                    replace hx225_1 := (HB.out.cell (World.block_lt_of_cell? w _ hx225_1)).trans hx225_1
                                    replace p225 := eq_true p225
                                    replace q225 := eq_true q225
                                    have p229 : 0 ≤ (x10_1 : Int) := of_decide_eq_true (by first | (with_reducible assumption) | assumption)
                                    have q229 : x10_1 < (t211.length : Int) := of_decide_eq_true (by first | (with_reducible assumption) | assumption)
                                    obtain ⟨ad229, e229, hx229_0, hx229_1⟩ := at_T41 (Kd.R_reads' HO_7.out).2.2 x10_1 p229 q229
                                    (try rw [← Nbq27.out] at hx229_1)
                                    obtain rfl : ad217 = ad229 := (by injection e229)
                                    replace p229 := eq_true p229
                                    replace q229 := eq_true q229
                                    go_wp2
                                    repeat (go_quiet (fail); try go_wp2)
                                    go_roundg k1
                                    case measure => have := HK1.out; omega
                                    case rel => exact ⟨((rd_T41 t211 x10_1).f0), (wrap64 (x10_1 + 1)), (by first | rfl | (simp; done) | (simp [*]; done)), (by first | rfl | (simp; done) | (simp [*]; done)), H', ⟨by have := HK1.out; omega⟩, ⟨by (with_reducible repeat (first | apply Kd.R_alloc | apply Kd.R_drewN | apply Kd.R_drew)); exact HO_7.out⟩, ⟨by (with_reducible repeat (first | refine blk_drewN ?_ _ | refine blk_drew ?_ | refine blk_alloc ?_ _)); exact BK216.out⟩, ⟨by repeat (first | (with_reducible first | exact HB.out | apply below_alloc | apply pw_below_drewN | apply below_drew1 | refine below_set ?_ GE216.out) | exact HB.out)⟩⟩
                      · rw [if_neg c26] at H
                        exact absurd H (by simp)
                    · rw [if_neg c25] at H
                      exact absurd H (by simp)
                  · rw [if_neg c24] at H
                    have c24b0 : decide (x10_1 < (l2.length : Int)) = false := decide_eq_false c24
                    clear c24
                    replace H := Option.bind_eq_some_iff.mp H
                    obtain ⟨t230, A360, H⟩ := H
                    replace H : (some t230) = some r := H
                    have A36 := Aside0.mk A360
                    clear A360
                    obtain rfl := Option.some.inj H
                    go_wp2_with (first | (go_at_call 15; (with_reducible refine (pacemakerlaw28_queued.calls k1  t230 _ A36.out).mono ?_); rintro e w37 ⟨rfl, hb⟩; have n0_ := Aside0.mk (Kd.R_below (by (with_reducible repeat (first | apply Kd.R_alloc | apply Kd.R_drewN | apply Kd.R_drew)); exact HO_7.out) hb); have n1_ := Aside0.mk (blk_below (g := gb216) (o := .cells #[.int .i64 t214, .int .i64 t215] 23 (0, 0)) (by (with_reducible repeat (first | refine blk_drewN ?_ _ | refine blk_drew ?_ | refine blk_alloc ?_ _)); exact BK216.out) hb); have n2_ := Aside0.mk (below_step (by repeat (first | (with_reducible first | exact HB.out | apply below_alloc | apply pw_below_drewN | apply below_drew1 | refine below_set ?_ GE216.out) | exact HB.out)) hb); clear HO_7; clear BK216; clear HB; have HO_7 := n0_; have BK216 := n1_; have HB := n2_; clear n0_ n1_ n2_; (try clear hb); (try clear hb2); (try clear hk); (try clear hi)))
                    repeat (go_quiet (first | (go_at_call 15; (with_reducible refine (pacemakerlaw28_queued.calls k1  t230 _ A36.out).mono ?_); rintro e w37 ⟨rfl, hb⟩; have n0_ := Aside0.mk (Kd.R_below (by (with_reducible repeat (first | apply Kd.R_alloc | apply Kd.R_drewN | apply Kd.R_drew)); exact HO_7.out) hb); have n1_ := Aside0.mk (blk_below (g := gb216) (o := .cells #[.int .i64 t214, .int .i64 t215] 23 (0, 0)) (by (with_reducible repeat (first | refine blk_drewN ?_ _ | refine blk_drew ?_ | refine blk_alloc ?_ _)); exact BK216.out) hb); have n2_ := Aside0.mk (below_step (by repeat (first | (with_reducible first | exact HB.out | apply below_alloc | apply pw_below_drewN | apply below_drew1 | refine below_set ?_ GE216.out) | exact HB.out)) hb); clear HO_7; clear BK216; clear HB; have HO_7 := n0_; have BK216 := n1_; have HB := n2_; clear n0_ n1_ n2_; (try clear hb); (try clear hb2); (try clear hk); (try clear hi))); try go_wp2_with (first | (go_at_call 15; (with_reducible refine (pacemakerlaw28_queued.calls k1  t230 _ A36.out).mono ?_); rintro e w37 ⟨rfl, hb⟩; have n0_ := Aside0.mk (Kd.R_below (by (with_reducible repeat (first | apply Kd.R_alloc | apply Kd.R_drewN | apply Kd.R_drew)); exact HO_7.out) hb); have n1_ := Aside0.mk (blk_below (g := gb216) (o := .cells #[.int .i64 t214, .int .i64 t215] 23 (0, 0)) (by (with_reducible repeat (first | refine blk_drewN ?_ _ | refine blk_drew ?_ | refine blk_alloc ?_ _)); exact BK216.out) hb); have n2_ := Aside0.mk (below_step (by repeat (first | (with_reducible first | exact HB.out | apply below_alloc | apply pw_below_drewN | apply below_drew1 | refine below_set ?_ GE216.out) | exact HB.out)) hb); clear HO_7; clear BK216; clear HB; have HO_7 := n0_; have BK216 := n1_; have HB := n2_; clear n0_ n1_ n2_; (try clear hb); (try clear hb2); (try clear hk); (try clear hi))))
                    go_ret
                    exact ⟨by first | rfl | (simp [errW_none, errW_some] <;> rfl) | (simp [*, errW_none, errW_some] <;> rfl), by repeat (first | (with_reducible first | exact HB.out | apply below_alloc | apply pw_below_drewN | apply below_drew1 | refine below_set ?_ GE216.out) | exact HB.out)⟩
            · rw [if_neg c19] at H
              have c19b0 : ((t211.length : Int) == (l2.length : Int)) = false := beq_eq_false_iff_ne.mpr c19
              have c19b1 : ((t211.length : Int) != (l2.length : Int)) = true := bne_iff_ne.mpr c19
              have c19b2 : (t211.length == l2.length) = false := by first | simpa using c19 | (simp at c19 ⊢; omega)
              exact absurd ((Option.some.inj H).trans HT.out) (by decide)
  · replace c5 := Bool.eq_false_iff.mpr c5
    subst c5
    have H1 : ((pacemakerlaw28_queued.f k).bind fun t231 => (some t231)) = some r := by rw [if_neg (show ¬ (false = true) by decide)] at H; exact H
    clear H
    have H := H1
    clear H1
    replace H := Option.bind_eq_some_iff.mp H
    obtain ⟨t231, A380, H⟩ := H
    replace H : (some t231) = some r := H
    have A38 := Aside0.mk A380
    clear A380
    obtain rfl := Option.some.inj H
    go_enter Try.func4, Try.ntmps4
    go_wp2_with (first | (go_at_call 14; (with_reducible refine (pacemakerlaw28_small.calls _ _ l2 false _ ?side1 ?side2 A4.out).mono ?_); (case side1 => repeat (first | exact HR2.out | (with_reducible refine Kd.C_alloc ?_ _) | (with_reducible refine Kd.C_drewN ?_ _) | (with_reducible refine Kd.C_drew ?_))); (case side2 => exact HC2.out); rintro e w' ⟨rfl, ⟨nd, rfl⟩⟩; (try first | exact ⟨rfl, _, World.drewN_drewN _ _ _⟩ | exact ⟨rfl, _, Eq.trans (World.drewN_drewN _ _ _) (congrArg (World.drewN _) (Nat.add_assoc _ _ _))⟩)) | (go_at_call 15; (with_reducible refine (pacemakerlaw28_queued.calls k  t231 _ A38.out).mono ?_); rintro e w39 ⟨rfl, hb⟩; have n0_ := Aside0.mk (below_step (by repeat (first | (with_reducible first | exact HB.out | apply below_alloc | apply pw_below_drewN | apply below_drew1) | exact HB.out)) hb); clear HB; have HB := n0_; clear n0_; (try clear hb); (try clear hb2); (try clear hk); (try clear hi)))
    repeat (go_quiet (first | (go_at_call 14; (with_reducible refine (pacemakerlaw28_small.calls _ _ l2 false _ ?side1 ?side2 A4.out).mono ?_); (case side1 => repeat (first | exact HR2.out | (with_reducible refine Kd.C_alloc ?_ _) | (with_reducible refine Kd.C_drewN ?_ _) | (with_reducible refine Kd.C_drew ?_))); (case side2 => exact HC2.out); rintro e w' ⟨rfl, ⟨nd, rfl⟩⟩; (try first | exact ⟨rfl, _, World.drewN_drewN _ _ _⟩ | exact ⟨rfl, _, Eq.trans (World.drewN_drewN _ _ _) (congrArg (World.drewN _) (Nat.add_assoc _ _ _))⟩)) | (go_at_call 15; (with_reducible refine (pacemakerlaw28_queued.calls k  t231 _ A38.out).mono ?_); rintro e w39 ⟨rfl, hb⟩; have n0_ := Aside0.mk (below_step (by repeat (first | (with_reducible first | exact HB.out | apply below_alloc | apply pw_below_drewN | apply below_drew1) | exact HB.out)) hb); clear HB; have HB := n0_; clear n0_; (try clear hb); (try clear hb2); (try clear hk); (try clear hi))); try go_wp2_with (first | (go_at_call 14; (with_reducible refine (pacemakerlaw28_small.calls _ _ l2 false _ ?side1 ?side2 A4.out).mono ?_); (case side1 => repeat (first | exact HR2.out | (with_reducible refine Kd.C_alloc ?_ _) | (with_reducible refine Kd.C_drewN ?_ _) | (with_reducible refine Kd.C_drew ?_))); (case side2 => exact HC2.out); rintro e w' ⟨rfl, ⟨nd, rfl⟩⟩; (try first | exact ⟨rfl, _, World.drewN_drewN _ _ _⟩ | exact ⟨rfl, _, Eq.trans (World.drewN_drewN _ _ _) (congrArg (World.drewN _) (Nat.add_assoc _ _ _))⟩)) | (go_at_call 15; (with_reducible refine (pacemakerlaw28_queued.calls k  t231 _ A38.out).mono ?_); rintro e w39 ⟨rfl, hb⟩; have n0_ := Aside0.mk (below_step (by repeat (first | (with_reducible first | exact HB.out | apply below_alloc | apply pw_below_drewN | apply below_drew1) | exact HB.out)) hb); clear HB; have HB := n0_; clear n0_; (try clear hb); (try clear hb2); (try clear hk); (try clear hi))))
    go_ret
    exact ⟨by first | rfl | (simp [errW_none, errW_some] <;> rfl) | (simp [*, errW_none, errW_some] <;> rfl), by repeat (first | (with_reducible first | exact HB.out | apply below_alloc | apply pw_below_drewN | apply below_drew1) | exact HB.out)⟩

end Go.Proofs.Ytefigckobfaodaa.Q
