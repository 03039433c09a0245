-- Printed by wip/tools/myprint.py (this session's driver over the kit's printer, with functions proved by hand). Not trusted: Lean checks it.
import Derived.Test.YtefigckobfaodaaQx0
import Derived.Test.YtefigckobfaodaaQx3
import Derived.Test.YtefigckobfaodaaQx8
import Derived.Test.YtefigckobfaodaaQx9
import Derived.Test.YtefigckobfaodaaQx10
namespace Go.Proofs.Ytefigckobfaodaa.Q
open Go.RowKit Go.Proofs.YtefigckobfaodaaW.PrintWords Go.Proofs.YtefigckobfaodaaW.PrintLast Go.Proofs.YtefigckobfaodaaW.PrintMore
attribute [local go_sem] max2_int min2_int max_two min_two max_three min_three max_four min_four   -- for this text's walks alone
attribute [local go_sem] Go.Proofs.YtefigckobfaodaaS.cell_set_map Go.Proofs.YtefigckobfaodaaS.setCell_drewN
set_option linter.unusedVariables false
set_option linter.unusedSimpArgs false

/-! ### pacemakerlaw28_QueueReich: function 5 -/
def pacemakerlaw28_QueueReich.l0 : Nat → Int → Int → List (S25) → Int → List (S41) → Int → Int → Int → Int → Int → Option (Bool)
  | 0, _, _, _, _, _, _, _, _, _, _ => none
  | k + 1, x0, x1, x2, x3, x9, x11, x12, x13, x245000, x245001 => if x13 ≥ 0 then (if 0 ≤ x13 then (if x13 < (x9.length : Int) then (if (rd_T41 x9 x13).f1 = true then (pacemakerlaw28_QueueReich.l0 k x0 x1 x2 x3 x9 x11 x12 (wrap64 (x13 - 1)) x245000 x245001) else (if x13 < (x2.length : Int) then (if ((rd_T25 x2 x13).f0) > 1000000000 then ((pacemakerlaw28_queued.f k).bind fun t248 => (some t248)) else (if ((rd_T25 x2 x13).f0) ≤ x3 then (pacemakerlaw28_QueueReich.l0 k x0 x1 x2 x3 x9 (mx x11 (wrap64 ((wrap64 (x12 + (wrap64 (((rd_T25 x2 x13).f1) * 1000000)))) - (wrap64 (x1 * (wrap64 (x3 - ((rd_T25 x2 x13).f0)))))))) (wrap64 (x12 + (wrap64 (((rd_T25 x2 x13).f1) * 1000000)))) (wrap64 (x13 - 1)) x245000 x245001) else (pacemakerlaw28_QueueReich.l0 k x0 x1 x2 x3 x9 x11 (wrap64 (x12 + (wrap64 (((rd_T25 x2 x13).f1) * 1000000)))) (wrap64 (x13 - 1)) x245000 x245001))) else (none))) else (none)) else (none)) else ((queue_Drain.f k x0 x245000 x245001 x1 x3).bind fun bt251 => (if bt251.2.2 = 0 then ((pacemakerlaw28_queued.f k).bind fun t255 => (if t255 = true then (if bt251.2.1 = x11 then (some (bt251.1 == x3)) else (some false)) else (some false))) else ((pacemakerlaw28_queued.f k).bind fun t256 => (if t256 = true then (some (decide (x3 < x245000))) else (some false)))))
def pacemakerlaw28_QueueReich.f (k : Nat) (a0 : Int) (a1 : Int) (l2 : List (S25)) (a3 : Int) : Option (Bool) := (pacemakerlaw28_small.f l2).bind fun t232 => (if t232 = true then (if a0 < 1 then ((pacemakerlaw28_queued.f k).bind fun t233 => (some t233)) else (if a0 > 1073741824 then ((pacemakerlaw28_queued.f k).bind fun t234 => (some t234)) else (if a1 < 1 then ((pacemakerlaw28_queued.f k).bind fun t235 => (some t235)) else (if a1 > 1000000000 then ((pacemakerlaw28_queued.f k).bind fun t236 => (some t236)) else (if a3 < 0 then ((pacemakerlaw28_queued.f k).bind fun t237 => (some t237)) else (if a3 > 1000000000 then ((pacemakerlaw28_queued.f k).bind fun t238 => (some t238)) else ((queue_Row.f k a0 a1 l2).bind fun bt239 => (if (bt239.1.length : Int) = (l2.length : Int) then (pacemakerlaw28_QueueReich.l0 k a0 a1 l2 a3 bt239.1 0 0 (wrap64 ((l2.length : Int) - 1)) bt239.2.1 bt239.2.2) else (some false))))))))) else ((pacemakerlaw28_queued.f k).bind fun t257 => (some t257)))
theorem pacemakerlaw28_QueueReich.mono_l : ∀ k, (∀ y0 y1 y2 y3 y4 y5 y6 y7 y8 y9, LeO (pacemakerlaw28_QueueReich.l0 k y0 y1 y2 y3 y4 y5 y6 y7 y8 y9) (pacemakerlaw28_QueueReich.l0 (k + 1) y0 y1 y2 y3 y4 y5 y6 y7 y8 y9))
  | 0 => fun _ _ _ _ _ _ _ _ _ _ r h => by simp [pacemakerlaw28_QueueReich.l0] at h
  | k + 1 => by
    have ih0 := pacemakerlaw28_QueueReich.mono_l k
    · intro y0 y1 y2 y3 y4 y5 y6 y7 y8 y9
      unfold pacemakerlaw28_QueueReich.l0
      repeat' first
      | (with_reducible exact ih0 _ _ _ _ _ _ _ _ _ _)
      | (with_reducible exact pacemakerlaw28_queued.mono _)
      | (with_reducible exact queue_Drain.mono _ _ _ _ _ _)
      | (with_reducible exact queue_Row.mono _ _ _ _)
      | (with_reducible exact LeO.refl _)
      | (with_reducible exact LeO.none _)
      | (with_reducible refine LeO.ite ?_ ?_)
      | (with_reducible refine LeO.bind ?_ (fun _ => ?_))
      | exact ih0 _ _ _ _ _ _ _ _ _ _
      | exact pacemakerlaw28_queued.mono _
      | exact queue_Drain.mono _ _ _ _ _ _
      | exact queue_Row.mono _ _ _ _
      | exact LeO.none _
      | refine LeO.ite ?_ ?_
      | refine LeO.bind ?_ (fun _ => ?_)
theorem pacemakerlaw28_QueueReich.mono : ∀ a0 a1 a2 a3 k, LeO (pacemakerlaw28_QueueReich.f k a0 a1 a2 a3) (pacemakerlaw28_QueueReich.f (k + 1) a0 a1 a2 a3) := by
  intro a0 a1 a2 a3 k
  have ih0 := pacemakerlaw28_QueueReich.mono_l k
  unfold pacemakerlaw28_QueueReich.f
  repeat' first
      | (with_reducible exact ih0 _ _ _ _ _ _ _ _ _ _)
      | (with_reducible exact pacemakerlaw28_queued.mono _)
      | (with_reducible exact queue_Drain.mono _ _ _ _ _ _)
      | (with_reducible exact queue_Row.mono _ _ _ _)
      | (with_reducible exact LeO.refl _)
      | (with_reducible exact LeO.none _)
      | (with_reducible refine LeO.ite ?_ ?_)
      | (with_reducible refine LeO.bind ?_ (fun _ => ?_))
      | exact ih0 _ _ _ _ _ _ _ _ _ _
      | exact pacemakerlaw28_queued.mono _
      | exact queue_Drain.mono _ _ _ _ _ _
      | exact queue_Row.mono _ _ _ _
      | exact LeO.none _
      | refine LeO.ite ?_ ?_
      | refine LeO.bind ?_ (fun _ => ?_)
set_option maxHeartbeats 8000000 in
set_option maxRecDepth 100000 in
theorem pacemakerlaw28_QueueReich.calls (k : Nat) (a0 : Int) (a1 : Int) (A2 : Option Addr) (c2 : Nat) (l2 : List (S25)) (a3 : Int) (r : Bool) (w : World) (hr2 : Kd.C k25 w A2 l2.length l2) (hc2 : l2.length ≤ c2) (HT : Aside0 (r = true)) (h : pacemakerlaw28_QueueReich.f k a0 a1 l2 a3 = some r) :
    Calls Try.prog 5 #[.int .i64 a0, .int .i64 a1, .slice A2 l2.length c2, .int .i64 a3] w fun e w' => e = .returned (.bool r) ∧ Below w.heap.size w w' := by
  have hu23 := Try.underlying23
  have HR2 := Aside0.mk hr2
  have HC2 := Aside0.mk hc2
  clear hr2 hc2
  have HB := Aside0.mk (Below.refl w.heap.size w)
  have H : ((pacemakerlaw28_small.f l2).bind fun t232 => (if t232 = true then (if a0 < 1 then ((pacemakerlaw28_queued.f k).bind fun t233 => (some t233)) else (if a0 > 1073741824 then ((pacemakerlaw28_queued.f k).bind fun t234 => (some t234)) else (if a1 < 1 then ((pacemakerlaw28_queued.f k).bind fun t235 => (some t235)) else (if a1 > 1000000000 then ((pacemakerlaw28_queued.f k).bind fun t236 => (some t236)) else (if a3 < 0 then ((pacemakerlaw28_queued.f k).bind fun t237 => (some t237)) else (if a3 > 1000000000 then ((pacemakerlaw28_queued.f k).bind fun t238 => (some t238)) else ((queue_Row.f k a0 a1 l2).bind fun bt239 => (if (bt239.1.length : Int) = (l2.length : Int) then (pacemakerlaw28_QueueReich.l0 k a0 a1 l2 a3 bt239.1 0 0 (wrap64 ((l2.length : Int) - 1)) bt239.2.1 bt239.2.2) else (some false))))))))) else ((pacemakerlaw28_queued.f k).bind fun t257 => (some t257)))) = some r := h
  clear h
  replace H := Option.bind_eq_some_iff.mp H
  obtain ⟨t232, A50, H⟩ := H
  replace H : (if t232 = true then (if a0 < 1 then ((pacemakerlaw28_queued.f k).bind fun t233 => (some t233)) else (if a0 > 1073741824 then ((pacemakerlaw28_queued.f k).bind fun t234 => (some t234)) else (if a1 < 1 then ((pacemakerlaw28_queued.f k).bind fun t235 => (some t235)) else (if a1 > 1000000000 then ((pacemakerlaw28_queued.f k).bind fun t236 => (some t236)) else (if a3 < 0 then ((pacemakerlaw28_queued.f k).bind fun t237 => (some t237)) else (if a3 > 1000000000 then ((pacemakerlaw28_queued.f k).bind fun t238 => (some t238)) else ((queue_Row.f k a0 a1 l2).bind fun bt239 => (if (bt239.1.length : Int) = (l2.length : Int) then (pacemakerlaw28_QueueReich.l0 k a0 a1 l2 a3 bt239.1 0 0 (wrap64 ((l2.length : Int) - 1)) bt239.2.1 bt239.2.2) else (some false))))))))) else ((pacemakerlaw28_queued.f k).bind fun t257 => (some t257))) = some r := H
  have A5 := Aside0.mk A50
  clear A50
  by_cases c6 : t232 = true
  · subst c6
    have H1 : (if a0 < 1 then ((pacemakerlaw28_queued.f k).bind fun t233 => (some t233)) else (if a0 > 1073741824 then ((pacemakerlaw28_queued.f k).bind fun t234 => (some t234)) else (if a1 < 1 then ((pacemakerlaw28_queued.f k).bind fun t235 => (some t235)) else (if a1 > 1000000000 then ((pacemakerlaw28_queued.f k).bind fun t236 => (some t236)) else (if a3 < 0 then ((pacemakerlaw28_queued.f k).bind fun t237 => (some t237)) else (if a3 > 1000000000 then ((pacemakerlaw28_queued.f k).bind fun t238 => (some t238)) else ((queue_Row.f k a0 a1 l2).bind fun bt239 => (if (bt239.1.length : Int) = (l2.length : Int) then (pacemakerlaw28_QueueReich.l0 k a0 a1 l2 a3 bt239.1 0 0 (wrap64 ((l2.length : Int) - 1)) bt239.2.1 bt239.2.2) else (some false))))))))) = some r := by rw [if_pos rfl] at H; exact H
    clear H
    have H := H1
    clear H1
    by_cases c7 : a0 < 1
    · rw [if_pos c7] at H
      have c7b0 : decide (a0 < 1) = true := decide_eq_true c7
      clear c7
      replace H := Option.bind_eq_some_iff.mp H
      obtain ⟨t233, A80, H⟩ := H
      replace H : (some t233) = some r := H
      have A8 := Aside0.mk A80
      clear A80
      obtain rfl := Option.some.inj H
      go_enter Try.func5, Try.ntmps5
      go_wp2_with (first | ((with_reducible refine gate_callee (f := 14) rfl ?_); refine goesL_ (some 17) rfl rfl Try.func14 (by kernel_rfl) rfl #[.slice A2 l2.length c2] rfl (by (try simp only [List.map_toArray, List.map_cons, List.map_nil]); first | done | rfl | (simp only [List.length_drop, List.length_take]; rfl)) ?_; (with_reducible refine (pacemakerlaw28_small.calls _ _ l2 true _ ?side1 ?side2 A5.out).mono ?_); (case side1 => repeat (first | exact HR2.out | (with_reducible refine Kd.C_alloc ?_ _) | (with_reducible refine Kd.C_drewN ?_ _) | (with_reducible refine Kd.C_drew ?_))); (case side2 => exact HC2.out); rintro e w' ⟨rfl, ⟨nd, rfl⟩⟩; refine ⟨_, rfl, ?_⟩) | ((with_reducible refine gate_callee (f := 15) rfl ?_); refine goesL_ (some 43) rfl rfl Try.func15 (by kernel_rfl) rfl #[] rfl (by (try simp only [List.map_toArray, List.map_cons, List.map_nil]); first | done | rfl | (simp only [List.length_drop, List.length_take]; rfl)) ?_; (with_reducible refine (pacemakerlaw28_queued.calls k  t233 _ A8.out).mono ?_); rintro e w9 ⟨rfl, hb⟩; refine ⟨_, rfl, ?_⟩; have n0_ := Aside0.mk (below_step (by repeat (first | (with_reducible first | exact HB.out | apply below_alloc | apply pw_below_drewN | apply below_drew1) | exact HB.out)) hb); clear HB; have HB := n0_; clear n0_; (try clear hb); (try clear hb2); (try clear hk); (try clear hi)))
      go_ret
      exact ⟨by first | rfl | (simp [errW_none, errW_some] <;> rfl) | (simp [*, errW_none, errW_some] <;> rfl), by repeat (first | (with_reducible first | exact HB.out | apply below_alloc | apply pw_below_drewN | apply below_drew1) | exact HB.out)⟩
    · rw [if_neg c7] at H
      have c7b0 : decide (a0 < 1) = false := decide_eq_false c7
      clear c7
      by_cases c10 : a0 > 1073741824
      · rw [if_pos c10] at H
        have c10b0 : decide (1073741824 < a0) = true := decide_eq_true c10
        clear c10
        replace H := Option.bind_eq_some_iff.mp H
        obtain ⟨t234, A110, H⟩ := H
        replace H : (some t234) = some r := H
        have A11 := Aside0.mk A110
        clear A110
        obtain rfl := Option.some.inj H
        go_enter Try.func5, Try.ntmps5
        go_wp2_with (first | ((with_reducible refine gate_callee (f := 14) rfl ?_); refine goesL_ (some 17) rfl rfl Try.func14 (by kernel_rfl) rfl #[.slice A2 l2.length c2] rfl (by (try simp only [List.map_toArray, List.map_cons, List.map_nil]); first | done | rfl | (simp only [List.length_drop, List.length_take]; rfl)) ?_; (with_reducible refine (pacemakerlaw28_small.calls _ _ l2 true _ ?side1 ?side2 A5.out).mono ?_); (case side1 => repeat (first | exact HR2.out | (with_reducible refine Kd.C_alloc ?_ _) | (with_reducible refine Kd.C_drewN ?_ _) | (with_reducible refine Kd.C_drew ?_))); (case side2 => exact HC2.out); rintro e w' ⟨rfl, ⟨nd, rfl⟩⟩; refine ⟨_, rfl, ?_⟩) | ((with_reducible refine gate_callee (f := 15) rfl ?_); refine goesL_ (some 43) rfl rfl Try.func15 (by kernel_rfl) rfl #[] rfl (by (try simp only [List.map_toArray, List.map_cons, List.map_nil]); first | done | rfl | (simp only [List.length_drop, List.length_take]; rfl)) ?_; (with_reducible refine (pacemakerlaw28_queued.calls k  t234 _ A11.out).mono ?_); rintro e w12 ⟨rfl, hb⟩; refine ⟨_, rfl, ?_⟩; have n0_ := Aside0.mk (below_step (by repeat (first | (with_reducible first | exact HB.out | apply below_alloc | apply pw_below_drewN | apply below_drew1) | exact HB.out)) hb); clear HB; have HB := n0_; clear n0_; (try clear hb); (try clear hb2); (try clear hk); (try clear hi)))
        go_ret
        exact ⟨by first | rfl | (simp [errW_none, errW_some] <;> rfl) | (simp [*, errW_none, errW_some] <;> rfl), by repeat (first | (with_reducible first | exact HB.out | apply below_alloc | apply pw_below_drewN | apply below_drew1) | exact HB.out)⟩
      · rw [if_neg c10] at H
        have c10b0 : decide (1073741824 < a0) = false := decide_eq_false c10
        clear c10
        by_cases c13 : a1 < 1
        · rw [if_pos c13] at H
          have c13b0 : decide (a1 < 1) = true := decide_eq_true c13
          clear c13
          replace H := Option.bind_eq_some_iff.mp H
          obtain ⟨t235, A140, H⟩ := H
          replace H : (some t235) = some r := H
          have A14 := Aside0.mk A140
          clear A140
          obtain rfl := Option.some.inj H
          go_enter Try.func5, Try.ntmps5
          go_wp2_with (first | ((with_reducible refine gate_callee (f := 14) rfl ?_); refine goesL_ (some 17) rfl rfl Try.func14 (by kernel_rfl) rfl #[.slice A2 l2.length c2] rfl (by (try simp only [List.map_toArray, List.map_cons, List.map_nil]); first | done | rfl | (simp only [List.length_drop, List.length_take]; rfl)) ?_; (with_reducible refine (pacemakerlaw28_small.calls _ _ l2 true _ ?side1 ?side2 A5.out).mono ?_); (case side1 => repeat (first | exact HR2.out | (with_reducible refine Kd.C_alloc ?_ _) | (with_reducible refine Kd.C_drewN ?_ _) | (with_reducible refine Kd.C_drew ?_))); (case side2 => exact HC2.out); rintro e w' ⟨rfl, ⟨nd, rfl⟩⟩; refine ⟨_, rfl, ?_⟩) | ((with_reducible refine gate_callee (f := 15) rfl ?_); refine goesL_ (some 43) rfl rfl Try.func15 (by kernel_rfl) rfl #[] rfl (by (try simp only [List.map_toArray, List.map_cons, List.map_nil]); first | done | rfl | (simp only [List.length_drop, List.length_take]; rfl)) ?_; (with_reducible refine (pacemakerlaw28_queued.calls k  t235 _ A14.out).mono ?_); rintro e w15 ⟨rfl, hb⟩; refine ⟨_, rfl, ?_⟩; have n0_ := Aside0.mk (below_step (by repeat (first | (with_reducible first | exact HB.out | apply below_alloc | apply pw_below_drewN | apply below_drew1) | exact HB.out)) hb); clear HB; have HB := n0_; clear n0_; (try clear hb); (try clear hb2); (try clear hk); (try clear hi)))
          go_ret
          exact ⟨by first | rfl | (simp [errW_none, errW_some] <;> rfl) | (simp [*, errW_none, errW_some] <;> rfl), by repeat (first | (with_reducible first | exact HB.out | apply below_alloc | apply pw_below_drewN | apply below_drew1) | exact HB.out)⟩
        · rw [if_neg c13] at H
          have c13b0 : decide (a1 < 1) = false := decide_eq_false c13
          clear c13
          by_cases c16 : a1 > 1000000000
          · rw [if_pos c16] at H
            have c16b0 : decide (1000000000 < a1) = true := decide_eq_true c16
            clear c16
            replace H := Option.bind_eq_some_iff.mp H
            obtain ⟨t236, A170, H⟩ := H
            replace H : (some t236) = some r := H
            have A17 := Aside0.mk A170
            clear A170
            obtain rfl := Option.some.inj H
            go_enter Try.func5, Try.ntmps5
            go_wp2_with (first | ((with_reducible refine gate_callee (f := 14) rfl ?_); refine goesL_ (some 17) rfl rfl Try.func14 (by kernel_rfl) rfl #[.slice A2 l2.length c2] rfl (by (try simp only [List.map_toArray, List.map_cons, List.map_nil]); first | done | rfl | (simp only [List.length_drop, List.length_take]; rfl)) ?_; (with_reducible refine (pacemakerlaw28_small.calls _ _ l2 true _ ?side1 ?side2 A5.out).mono ?_); (case side1 => repeat (first | exact HR2.out | (with_reducible refine Kd.C_alloc ?_ _) | (with_reducible refine Kd.C_drewN ?_ _) | (with_reducible refine Kd.C_drew ?_))); (case side2 => exact HC2.out); rintro e w' ⟨rfl, ⟨nd, rfl⟩⟩; refine ⟨_, rfl, ?_⟩) | ((with_reducible refine gate_callee (f := 15) rfl ?_); refine goesL_ (some 43) rfl rfl Try.func15 (by kernel_rfl) rfl #[] rfl (by (try simp only [List.map_toArray, List.map_cons, List.map_nil]); first | done | rfl | (simp only [List.length_drop, List.length_take]; rfl)) ?_; (with_reducible refine (pacemakerlaw28_queued.calls k  t236 _ A17.out).mono ?_); rintro e w18 ⟨rfl, hb⟩; refine ⟨_, rfl, ?_⟩; have n0_ := Aside0.mk (below_step (by repeat (first | (with_reducible first | exact HB.out | apply below_alloc | apply pw_below_drewN | apply below_drew1) | exact HB.out)) hb); clear HB; have HB := n0_; clear n0_; (try clear hb); (try clear hb2); (try clear hk); (try clear hi)))
            go_ret
            exact ⟨by first | rfl | (simp [errW_none, errW_some] <;> rfl) | (simp [*, errW_none, errW_some] <;> rfl), by repeat (first | (with_reducible first | exact HB.out | apply below_alloc | apply pw_below_drewN | apply below_drew1) | exact HB.out)⟩
          · rw [if_neg c16] at H
            have c16b0 : decide (1000000000 < a1) = false := decide_eq_false c16
            clear c16
            by_cases c19 : a3 < 0
            · rw [if_pos c19] at H
              have c19b0 : decide (a3 < 0) = true := decide_eq_true c19
              clear c19
              replace H := Option.bind_eq_some_iff.mp H
              obtain ⟨t237, A200, H⟩ := H
              replace H : (some t237) = some r := H
              have A20 := Aside0.mk A200
              clear A200
              obtain rfl := Option.some.inj H
              go_enter Try.func5, Try.ntmps5
              go_wp2_with (first | ((with_reducible refine gate_callee (f := 14) rfl ?_); refine goesL_ (some 17) rfl rfl Try.func14 (by kernel_rfl) rfl #[.slice A2 l2.length c2] rfl (by (try simp only [List.map_toArray, List.map_cons, List.map_nil]); first | done | rfl | (simp only [List.length_drop, List.length_take]; rfl)) ?_; (with_reducible refine (pacemakerlaw28_small.calls _ _ l2 true _ ?side1 ?side2 A5.out).mono ?_); (case side1 => repeat (first | exact HR2.out | (with_reducible refine Kd.C_alloc ?_ _) | (with_reducible refine Kd.C_drewN ?_ _) | (with_reducible refine Kd.C_drew ?_))); (case side2 => exact HC2.out); rintro e w' ⟨rfl, ⟨nd, rfl⟩⟩; refine ⟨_, rfl, ?_⟩) | ((with_reducible refine gate_callee (f := 15) rfl ?_); refine goesL_ (some 43) rfl rfl Try.func15 (by kernel_rfl) rfl #[] rfl (by (try simp only [List.map_toArray, List.map_cons, List.map_nil]); first | done | rfl | (simp only [List.length_drop, List.length_take]; rfl)) ?_; (with_reducible refine (pacemakerlaw28_queued.calls k  t237 _ A20.out).mono ?_); rintro e w21 ⟨rfl, hb⟩; refine ⟨_, rfl, ?_⟩; have n0_ := Aside0.mk (below_step (by repeat (first | (with_reducible first | exact HB.out | apply below_alloc | apply pw_below_drewN | apply below_drew1) | exact HB.out)) hb); clear HB; have HB := n0_; clear n0_; (try clear hb); (try clear hb2); (try clear hk); (try clear hi)))
              go_ret
              exact ⟨by first | rfl | (simp [errW_none, errW_some] <;> rfl) | (simp [*, errW_none, errW_some] <;> rfl), by repeat (first | (with_reducible first | exact HB.out | apply below_alloc | apply pw_below_drewN | apply below_drew1) | exact HB.out)⟩
            · rw [if_neg c19] at H
              have c19b0 : decide (a3 < 0) = false := decide_eq_false c19
              clear c19
              by_cases c22 : a3 > 1000000000
              · rw [if_pos c22] at H
                have c22b0 : decide (1000000000 < a3) = true := decide_eq_true c22
                clear c22
                replace H := Option.bind_eq_some_iff.mp H
                obtain ⟨t238, A230, H⟩ := H
                replace H : (some t238) = some r := H
                have A23 := Aside0.mk A230
                clear A230
                obtain rfl := Option.some.inj H
                go_enter Try.func5, Try.ntmps5
                go_wp2_with (first | ((with_reducible refine gate_callee (f := 14) rfl ?_); refine goesL_ (some 17) rfl rfl Try.func14 (by kernel_rfl) rfl #[.slice A2 l2.length c2] rfl (by (try simp only [List.map_toArray, List.map_cons, List.map_nil]); first | done | rfl | (simp only [List.length_drop, List.length_take]; rfl)) ?_; (with_reducible refine (pacemakerlaw28_small.calls _ _ l2 true _ ?side1 ?side2 A5.out).mono ?_); (case side1 => repeat (first | exact HR2.out | (with_reducible refine Kd.C_alloc ?_ _) | (with_reducible refine Kd.C_drewN ?_ _) | (with_reducible refine Kd.C_drew ?_))); (case side2 => exact HC2.out); rintro e w' ⟨rfl, ⟨nd, rfl⟩⟩; refine ⟨_, rfl, ?_⟩) | ((with_reducible refine gate_callee (f := 15) rfl ?_); refine goesL_ (some 43) rfl rfl Try.func15 (by kernel_rfl) rfl #[] rfl (by (try simp only [List.map_toArray, List.map_cons, List.map_nil]); first | done | rfl | (simp only [List.length_drop, List.length_take]; rfl)) ?_; (with_reducible refine (pacemakerlaw28_queued.calls k  t238 _ A23.out).mono ?_); rintro e w24 ⟨rfl, hb⟩; refine ⟨_, rfl, ?_⟩; have n0_ := Aside0.mk (below_step (by repeat (first | (with_reducible first | exact HB.out | apply below_alloc | apply pw_below_drewN | apply below_drew1) | exact HB.out)) hb); clear HB; have HB := n0_; clear n0_; (try clear hb); (try clear hb2); (try clear hk); (try clear hi)))
                go_ret
                exact ⟨by first | rfl | (simp [errW_none, errW_some] <;> rfl) | (simp [*, errW_none, errW_some] <;> rfl), by repeat (first | (with_reducible first | exact HB.out | apply below_alloc | apply pw_below_drewN | apply below_drew1) | exact HB.out)⟩
              · rw [if_neg c22] at H
                have c22b0 : decide (1000000000 < a3) = false := decide_eq_false c22
                clear c22
                replace H := Option.bind_eq_some_iff.mp H
                obtain ⟨⟨t239, t242, t243⟩, A250, H⟩ := H
                replace H : (if (t239.length : Int) = (l2.length : Int) then (pacemakerlaw28_QueueReich.l0 k a0 a1 l2 a3 t239 0 0 (wrap64 ((l2.length : Int) - 1)) t242 t243) else (some false)) = some r := H
                have A25 := Aside0.mk A250
                clear A250
                by_cases c26 : (t239.length : Int) = (l2.length : Int)
                · rw [if_pos c26] at H
                  have c26b0 : ((t239.length : Int) == (l2.length : Int)) = true := beq_iff_eq.mpr c26
                  have c26b1 : ((t239.length : Int) != (l2.length : Int)) = false := bne_eq_false_iff_eq.mpr c26
                  have c26b2 : (t239.length == l2.length) = true := by first | simpa using c26 | (simp at c26 ⊢; omega)
                  clear c26
                  have H' := Aside0.mk H
                  clear H
                  go_enter Try.func5, Try.ntmps5
                  go_wp2_with (first | ((with_reducible refine gate_callee (f := 14) rfl ?_); refine goesL_ (some 17) rfl rfl Try.func14 (by kernel_rfl) rfl #[.slice A2 l2.length c2] rfl (by (try simp only [List.map_toArray, List.map_cons, List.map_nil]); first | done | rfl | (simp only [List.length_drop, List.length_take]; rfl)) ?_; (with_reducible refine (pacemakerlaw28_small.calls _ _ l2 true _ ?side1 ?side2 A5.out).mono ?_); (case side1 => repeat (first | exact HR2.out | (with_reducible refine Kd.C_alloc ?_ _) | (with_reducible refine Kd.C_drewN ?_ _) | (with_reducible refine Kd.C_drew ?_))); (case side2 => exact HC2.out); rintro e w' ⟨rfl, ⟨nd, rfl⟩⟩; refine ⟨_, rfl, ?_⟩) | ((with_reducible refine gate_callee (f := 16) rfl ?_); refine goesL_ (some 48) rfl rfl Try.func16 (by kernel_rfl) rfl #[.int .i64 a0, .int .i64 a1, .slice A2 l2.length c2] rfl (by (try simp only [List.map_toArray, List.map_cons, List.map_nil]); first | done | rfl | (simp only [List.length_drop, List.length_take]; rfl)) ?_; (with_reducible refine (queue_Row.calls k a0 a1 _ _ l2 t239 t242 t243 _ ?side1 ?side2 A25.out).mono ?_); (case side1 => repeat (first | exact HR2.out | (with_reducible refine Kd.C_alloc ?_ _) | (with_reducible refine Kd.C_drewN ?_ _) | (with_reducible refine Kd.C_drew ?_))); (case side2 => exact HC2.out); rintro e w27 ⟨v240, rfl, ho0, hb⟩; refine ⟨_, rfl, ?_⟩; have n0_ := Aside0.mk (Kd.R_lower ho0 (below_size (by repeat (first | (with_reducible first | exact HB.out | apply below_alloc | apply pw_below_drewN | apply below_drew1) | exact HB.out)))); have n1_ := Aside0.mk (below_step (by repeat (first | (with_reducible first | exact HB.out | apply below_alloc | apply pw_below_drewN | apply below_drew1) | exact HB.out)) hb); clear HB; have HO241 := n0_; have HB := n1_; clear n0_ n1_; (try clear hb); (try clear hb2); (try clear hk); (try clear hi); (try clear ho0)) | ((with_reducible refine gate_dst (N := 10) rfl ?_); refine box_event ?hg (N := 10) ?hd (cs := #[.int .i64 0, .int .i64 0]) (t := 23) ?hr ?_; (case hd => rfl); (case hg => rfl); (case hr => first | (go_simp; done) | (go_simp; rfl)); intro gb244 hg w28 hbox hb; have n0_ := Aside0.mk (Kd.R_below (by (with_reducible repeat (first | apply Kd.R_alloc | apply Kd.R_drewN | apply Kd.R_drew)); exact HO241.out) hb); have n1_ := Aside0.mk (below_step (by repeat (first | (with_reducible first | exact HB.out | apply below_alloc | apply pw_below_drewN | apply below_drew1) | exact HB.out)) hb); have n2_ := Aside0.mk (hbox); have n3_ := Aside0.mk ((by rw [hg]; exact (below_size (by repeat (first | (with_reducible first | exact HB.out | apply below_alloc | apply pw_below_drewN | apply below_drew1) | exact HB.out))) : w.heap.size ≤ gb244)); have n4_ := Aside0.mk ((by rw [hg]; exact (below_size (by repeat (first | (with_reducible first | exact HB.out | apply below_alloc | apply pw_below_drewN | apply below_drew1) | exact HB.out))) : w.heap.size ≤ gb244)); clear HO241; clear HB; have HO241 := n0_; have HB := n1_; have BK244 := n2_; have GW244 := n3_; have GE244 := n4_; clear n0_ n1_ n2_ n3_ n4_; clear hb hbox hg; have hcz29_0 : w28.cell? ⟨gb244, 0, none⟩ = some (.int .i64 0) := (blk_cell BK244.out 0).trans rfl; have hcz29_1 : w28.cell? ⟨gb244, 1, none⟩ = some (.int .i64 0) := (blk_cell BK244.out 1).trans rfl; have hfz29_0 := blk_frozen BK244.out 0; have hfz29_1 := blk_frozen BK244.out 1; obtain ⟨Ao30, co30, eo30⟩ := Kd.R_slice HO241.out; subst eo30))
                  go_loopg [11, 12, 13] k (fun kq v11 v12 v13 w' => ∃ (x11_1 : Int) (x12_1 : Int) (x13_1 : Int), v11 = .int .i64 x11_1 ∧ v12 = .int .i64 x12_1 ∧ v13 = .int .i64 x13_1 ∧ Aside0 (pacemakerlaw28_QueueReich.l0 kq a0 a1 l2 a3 t239 x11_1 x12_1 x13_1 t242 t243 = some r) ∧ Aside0 (kq ≤ k) ∧ Aside0 (Kd.R k41 41 w' w.heap.size (fun _ => True) (.slice Ao30 t239.length co30) t239) ∧ Aside0 (w'.heap[gb244]? = some (.cells #[.int .i64 t242, .int .i64 t243] 23 (0, 0))) ∧ Aside0 (Below w.heap.size w w'))
                  case atStart => exact ⟨(0), (0), (wrap64 ((l2.length : Int) - 1)), (by first | rfl | (simp; done) | (simp [*]; done)), (by first | rfl | (simp; done) | (simp [*]; done)), (by first | rfl | (simp; done) | (simp [*]; done)), H', ⟨Nat.le_refl _⟩, ⟨by (with_reducible repeat (first | apply Kd.R_alloc | apply Kd.R_drewN | apply Kd.R_drew)); exact Kd.R_mono (Kd.R_far (p := ⟨gb244, 1, none⟩) (Kd.R_far (p := ⟨gb244, 0, none⟩) (Kd.R_types HO241.out BK244.out (by decide)) (fun _ hk => hk.2) (.int .i64 t242)) (fun _ hk => hk.2) (.int .i64 t243)) (fun _ hk => trivial)⟩, ⟨by (with_reducible repeat (first | refine blk_drewN ?_ _ | refine blk_drew ?_ | refine blk_alloc ?_ _)); refine blk_put (cs := #[.int .i64 t242, .int .i64 0]) ?_ 1 _ rfl; (with_reducible repeat (first | refine blk_drewN ?_ _ | refine blk_drew ?_ | refine blk_alloc ?_ _)); refine blk_put (cs := #[.int .i64 0, .int .i64 0]) ?_ 0 _ rfl; (with_reducible repeat (first | refine blk_drewN ?_ _ | refine blk_drew ?_ | refine blk_alloc ?_ _)); exact BK244.out⟩, ⟨by repeat (first | (with_reducible first | exact HB.out | apply below_alloc | apply pw_below_drewN | apply below_drew1 | refine below_set ?_ GE244.out) | exact HB.out)⟩⟩
                  case round =>
                    clear H'
                    try clear c1
                    try clear c2
                    try clear p2
                    try clear c5
                    try clear c6
                    try clear p6
                    try clear c7
                    try clear c7b0
                    try clear c10
                    try clear c10b0
                    try clear c13
                    try clear c13b0
                    try clear c14
                    try clear c15
                    try clear c16
                    try clear c16b0
                    try clear c19
                    try clear c19b0
                    try clear c22
                    try clear c22b0
                    try clear c26
                    try clear c26b0
                    try clear c26b1
                    try clear c26b2
                    try clear hcz29_0
                    try clear hcz29_1
                    try clear hfz29_0
                    try clear hfz29_1
                    obtain ⟨x11_1, x12_1, x13_1, rfl, rfl, rfl, HA, HK1, HO_9, BK244, HB⟩ := hrel
                    cases gk with
                    | zero => exact absurd HA.out (by simp [pacemakerlaw28_QueueReich.l0])
                    | succ k1 =>
                      have H := HA.out
                      clear HA
                      simp only [pacemakerlaw28_QueueReich.l0] at H
                      by_cases c31 : x13_1 ≥ 0
                      · rw [if_pos c31] at H
                        have c31b0 : decide (0 ≤ x13_1) = true := decide_eq_true c31
                        clear c31
                        by_cases c32 : 0 ≤ x13_1
                        · rw [if_pos c32] at H
                          have c32b0 : decide (0 ≤ x13_1) = true := decide_eq_true c32
                          clear c32
                          by_cases c33 : x13_1 < (t239.length : Int)
                          · rw [if_pos c33] at H
                            have c33b0 : decide (x13_1 < (t239.length : Int)) = true := decide_eq_true c33
                            clear c33
                            obtain ⟨bq34, hbq34⟩ : ∃ b_ : Bool, b_ = ((rd_T41 t239 x13_1).f1) := ⟨_, rfl⟩
                            replace H : (if bq34 = true then (pacemakerlaw28_QueueReich.l0 k1 a0 a1 l2 a3 t239 x11_1 x12_1 (wrap64 (x13_1 - 1)) t242 t243) else (if x13_1 < (l2.length : Int) then (if ((rd_T25 l2 x13_1).f0) > 1000000000 then ((pacemakerlaw28_queued.f k1).bind fun t248 => (some t248)) else (if ((rd_T25 l2 x13_1).f0) ≤ a3 then (pacemakerlaw28_QueueReich.l0 k1 a0 a1 l2 a3 t239 (mx x11_1 (wrap64 ((wrap64 (x12_1 + (wrap64 (((rd_T25 l2 x13_1).f1) * 1000000)))) - (wrap64 (a1 * (wrap64 (a3 - ((rd_T25 l2 x13_1).f0)))))))) (wrap64 (x12_1 + (wrap64 (((rd_T25 l2 x13_1).f1) * 1000000)))) (wrap64 (x13_1 - 1)) t242 t243) else (pacemakerlaw28_QueueReich.l0 k1 a0 a1 l2 a3 t239 x11_1 (wrap64 (x12_1 + (wrap64 (((rd_T25 l2 x13_1).f1) * 1000000)))) (wrap64 (x13_1 - 1)) t242 t243))) else (none))) = some r := by rw [← hbq34] at H; exact H
                            have Nbq34 := Aside0.mk hbq34
                            clear hbq34
                            by_cases c35 : bq34 = true
                            · subst c35
                              have H1 : (pacemakerlaw28_QueueReich.l0 k1 a0 a1 l2 a3 t239 x11_1 x12_1 (wrap64 (x13_1 - 1)) t242 t243) = some r := by rw [if_pos rfl] at H; exact H
                              clear H
                              have H := H1
                              clear H1
                              have H' := Aside0.mk H
                              clear H
                              have p245 : 0 ≤ (x13_1 : Int) := of_decide_eq_true (by first | (with_reducible assumption) | assumption)
                              have q245 : x13_1 < (t239.length : Int) := of_decide_eq_true (by first | (with_reducible assumption) | assumption)
                              obtain ⟨ad245, e245, hx245_0, hx245_1⟩ := at_T41 (Kd.R_reads' HO_9.out).2.2 x13_1 p245 q245
                              (try rw [← Nbq34.out] at hx245_1)
                              cases e245
                              replace p245 := eq_true p245
                              replace q245 := eq_true q245
                              go_wp2
                              go_roundg k1
                              case measure => have := HK1.out; omega
                              case rel => exact ⟨(x11_1), (x12_1), (wrap64 (x13_1 - 1)), (by first | rfl | (simp; done) | (simp [*]; done)), (by first | rfl | (simp; done) | (simp [*]; done)), (by first | rfl | (simp; done) | (simp [*]; done)), H', ⟨by have := HK1.out; omega⟩, ⟨by (with_reducible repeat (first | apply Kd.R_alloc | apply Kd.R_drewN | apply Kd.R_drew)); exact HO_9.out⟩, ⟨by (with_reducible repeat (first | refine blk_drewN ?_ _ | refine blk_drew ?_ | refine blk_alloc ?_ _)); exact BK244.out⟩, ⟨by repeat (first | (with_reducible first | exact HB.out | apply below_alloc | apply pw_below_drewN | apply below_drew1 | refine below_set ?_ GE244.out) | exact HB.out)⟩⟩
                            · replace c35 := Bool.eq_false_iff.mpr c35
                              subst c35
                              have H1 : (if x13_1 < (l2.length : Int) then (if ((rd_T25 l2 x13_1).f0) > 1000000000 then ((pacemakerlaw28_queued.f k1).bind fun t248 => (some t248)) else (if ((rd_T25 l2 x13_1).f0) ≤ a3 then (pacemakerlaw28_QueueReich.l0 k1 a0 a1 l2 a3 t239 (mx x11_1 (wrap64 ((wrap64 (x12_1 + (wrap64 (((rd_T25 l2 x13_1).f1) * 1000000)))) - (wrap64 (a1 * (wrap64 (a3 - ((rd_T25 l2 x13_1).f0)))))))) (wrap64 (x12_1 + (wrap64 (((rd_T25 l2 x13_1).f1) * 1000000)))) (wrap64 (x13_1 - 1)) t242 t243) else (pacemakerlaw28_QueueReich.l0 k1 a0 a1 l2 a3 t239 x11_1 (wrap64 (x12_1 + (wrap64 (((rd_T25 l2 x13_1).f1) * 1000000)))) (wrap64 (x13_1 - 1)) t242 t243))) else (none)) = some r := by rw [if_neg (show ¬ (false = true) by decide)] at H; exact H
                              clear H
                              have H := H1
                              clear H1
                              by_cases c36 : x13_1 < (l2.length : Int)
                              · rw [if_pos c36] at H
                                have c36b0 : decide (x13_1 < (l2.length : Int)) = true := decide_eq_true c36
                                clear c36
                                by_cases c37 : ((rd_T25 l2 x13_1).f0) > 1000000000
                                · rw [if_pos c37] at H
                                  have c37b0 : decide (1000000000 < ((rd_T25 l2 x13_1).f0)) = true := decide_eq_true c37
                                  clear c37
                                  replace H := Option.bind_eq_some_iff.mp H
                                  obtain ⟨t248, A380, H⟩ := H
                                  replace H : (some t248) = some r := H
                                  have A38 := Aside0.mk A380
                                  clear A380
                                  obtain rfl := Option.some.inj H
                                  have p245 : 0 ≤ (x13_1 : Int) := of_decide_eq_true (by first | (with_reducible assumption) | assumption)
                                  have q245 : x13_1 < (t239.length : Int) := of_decide_eq_true (by first | (with_reducible assumption) | assumption)
                                  obtain ⟨ad245, e245, hx245_0, hx245_1⟩ := at_T41 (Kd.R_reads' HO_9.out).2.2 x13_1 p245 q245
                                  (try rw [← Nbq34.out] at hx245_1)
                                  cases e245
                                  replace p245 := eq_true p245
                                  replace q245 := eq_true q245
                                  have p246 : 0 ≤ (x13_1 : Int) := of_decide_eq_true (by first | (with_reducible assumption) | assumption)
                                  have q246 : x13_1 < (l2.length : Int) := of_decide_eq_true (by first | (with_reducible assumption) | assumption)
                                  obtain ⟨ad246, e246, hx246_0, hx246_1⟩ := at_T25 HR2.out x13_1 p246 q246
                                  cases e246
                                  replace hx246_0 := (HB.out.cell (World.block_lt_of_cell? w _ hx246_0)).trans hx246_0
                                  replace hx246_1 := (HB.out.cell (World.block_lt_of_cell? w _ hx246_1)).trans hx246_1
                                  replace p246 := eq_true p246
                                  replace q246 := eq_true q246
                                  have p247 : 0 ≤ (x13_1 : Int) := of_decide_eq_true (by first | (with_reducible assumption) | assumption)
                                  have q247 : x13_1 < (l2.length : Int) := of_decide_eq_true (by first | (with_reducible assumption) | assumption)
                                  obtain ⟨ad247, e247, hx247_0, hx247_1⟩ := at_T25 HR2.out x13_1 p247 q247
                                  obtain rfl : ad246 = ad247 := (by injection e247)
                                  replace hx247_0 := (HB.out.cell (World.block_lt_of_cell? w _ hx247_0)).trans hx247_0
                                  replace hx247_1 := (HB.out.cell (World.block_lt_of_cell? w _ hx247_1)).trans hx247_1
                                  replace p247 := eq_true p247
                                  replace q247 := eq_true q247
                                  go_wp2_with (first | ((with_reducible refine gate_callee (f := 15) rfl ?_); refine goesL_ (some 82) rfl rfl Try.func15 (by kernel_rfl) rfl #[] rfl (by (try simp only [List.map_toArray, List.map_cons, List.map_nil]); first | done | rfl | (simp only [List.length_drop, List.length_take]; rfl)) ?_; (with_reducible refine (pacemakerlaw28_queued.calls k1  t248 _ A38.out).mono ?_); rintro e w39 ⟨rfl, hb⟩; refine ⟨_, rfl, ?_⟩; have n0_ := Aside0.mk (Kd.R_below (by (with_reducible repeat (first | apply Kd.R_alloc | apply Kd.R_drewN | apply Kd.R_drew)); exact HO_9.out) hb); have n1_ := Aside0.mk (blk_below (g := gb244) (o := .cells #[.int .i64 t242, .int .i64 t243] 23 (0, 0)) (by (with_reducible repeat (first | refine blk_drewN ?_ _ | refine blk_drew ?_ | refine blk_alloc ?_ _)); exact BK244.out) hb); have n2_ := Aside0.mk (below_step (by repeat (first | (with_reducible first | exact HB.out | apply below_alloc | apply pw_below_drewN | apply below_drew1 | refine below_set ?_ GE244.out) | exact HB.out)) hb); clear HO_9; clear BK244; clear HB; have HO_9 := n0_; have BK244 := n1_; have HB := n2_; clear n0_ n1_ n2_; (try clear hb); (try clear hb2); (try clear hk); (try clear hi)))
                                  go_ret
                                  exact ⟨by first | rfl | (simp [errW_none, errW_some] <;> rfl) | (simp [*, errW_none, errW_some] <;> rfl), by repeat (first | (with_reducible first | exact HB.out | apply below_alloc | apply pw_below_drewN | apply below_drew1 | refine below_set ?_ GE244.out) | exact HB.out)⟩
                                · rw [if_neg c37] at H
                                  have c37b0 : decide (1000000000 < ((rd_T25 l2 x13_1).f0)) = false := decide_eq_false c37
                                  clear c37
                                  by_cases c40 : ((rd_T25 l2 x13_1).f0) ≤ a3
                                  · rw [if_pos c40] at H
                                    have c40b0 : decide (((rd_T25 l2 x13_1).f0) ≤ a3) = true := decide_eq_true c40
                                    clear c40
                                    obtain ⟨ji41, hji41⟩ : ∃ j_ : Int, (mx x11_1 (wrap64 ((wrap64 (x12_1 + (wrap64 (((rd_T25 l2 x13_1).f1) * 1000000)))) - (wrap64 (a1 * (wrap64 (a3 - ((rd_T25 l2 x13_1).f0)))))))) = j_ := ⟨_, rfl⟩
                                    replace H : (pacemakerlaw28_QueueReich.l0 k1 a0 a1 l2 a3 t239 ji41 (wrap64 (x12_1 + (wrap64 (((rd_T25 l2 x13_1).f1) * 1000000)))) (wrap64 (x13_1 - 1)) t242 t243) = some r := by first | (rw [hji41] at H; exact H) | (simp only [hji41] at H ⊢; exact H)
                                    have hji41_ : (if x11_1 < (wrap64 ((wrap64 (x12_1 + (wrap64 (((rd_T25 l2 x13_1).f1) * 1000000)))) - (wrap64 (a1 * (wrap64 (a3 - ((rd_T25 l2 x13_1).f0))))))) then (wrap64 ((wrap64 (x12_1 + (wrap64 (((rd_T25 l2 x13_1).f1) * 1000000)))) - (wrap64 (a1 * (wrap64 (a3 - ((rd_T25 l2 x13_1).f0))))))) else x11_1) = ji41 := hji41
                                    have H' := Aside0.mk H
                                    clear H
                                    have p245 : 0 ≤ (x13_1 : Int) := of_decide_eq_true (by first | (with_reducible assumption) | assumption)
                                    have q245 : x13_1 < (t239.length : Int) := of_decide_eq_true (by first | (with_reducible assumption) | assumption)
                                    obtain ⟨ad245, e245, hx245_0, hx245_1⟩ := at_T41 (Kd.R_reads' HO_9.out).2.2 x13_1 p245 q245
                                    (try rw [← Nbq34.out] at hx245_1)
                                    cases e245
                                    replace p245 := eq_true p245
                                    replace q245 := eq_true q245
                                    have p246 : 0 ≤ (x13_1 : Int) := of_decide_eq_true (by first | (with_reducible assumption) | assumption)
                                    have q246 : x13_1 < (l2.length : Int) := of_decide_eq_true (by first | (with_reducible assumption) | assumption)
                                    obtain ⟨ad246, e246, hx246_0, hx246_1⟩ := at_T25 HR2.out x13_1 p246 q246
                                    cases e246
                                    replace hx246_0 := (HB.out.cell (World.block_lt_of_cell? w _ hx246_0)).trans hx246_0
                                    replace hx246_1 := (HB.out.cell (World.block_lt_of_cell? w _ hx246_1)).trans hx246_1
                                    replace p246 := eq_true p246
                                    replace q246 := eq_true q246
                                    have p247 : 0 ≤ (x13_1 : Int) := of_decide_eq_true (by first | (with_reducible assumption) | assumption)
                                    have q247 : x13_1 < (l2.length : Int) := of_decide_eq_true (by first | (with_reducible assumption) | assumption)
                                    obtain ⟨ad247, e247, hx247_0, hx247_1⟩ := at_T25 HR2.out x13_1 p247 q247
                                    obtain rfl : ad246 = ad247 := (by injection e247)
                                    replace hx247_0 := (HB.out.cell (World.block_lt_of_cell? w _ hx247_0)).trans hx247_0
                                    replace hx247_1 := (HB.out.cell (World.block_lt_of_cell? w _ hx247_1)).trans hx247_1
                                    replace p247 := eq_true p247
                                    replace q247 := eq_true q247
                                    have p249 : 0 ≤ (x13_1 : Int) := of_decide_eq_true (by first | (with_reducible assumption) | assumption)
                                    have q249 : x13_1 < (l2.length : Int) := of_decide_eq_true (by first | (with_reducible assumption) | assumption)
                                    obtain ⟨ad249, e249, hx249_0, hx249_1⟩ := at_T25 HR2.out x13_1 p249 q249
                                    obtain rfl : ad246 = ad249 := (by injection e249)
                                    replace hx249_0 := (HB.out.cell (World.block_lt_of_cell? w _ hx249_0)).trans hx249_0
                                    replace hx249_1 := (HB.out.cell (World.block_lt_of_cell? w _ hx249_1)).trans hx249_1
                                    replace p249 := eq_true p249
                                    replace q249 := eq_true q249
                                    have p250 : 0 ≤ (x13_1 : Int) := of_decide_eq_true (by first | (with_reducible assumption) | assumption)
                                    have q250 : x13_1 < (l2.length : Int) := of_decide_eq_true (by first | (with_reducible assumption) | assumption)
                                    obtain ⟨ad250, e250, hx250_0, hx250_1⟩ := at_T25 HR2.out x13_1 p250 q250
                                    obtain rfl : ad246 = ad250 := (by injection e250)
                                    replace hx250_0 := (HB.out.cell (World.block_lt_of_cell? w _ hx250_0)).trans hx250_0
                                    replace hx250_1 := (HB.out.cell (World.block_lt_of_cell? w _ hx250_1)).trans hx250_1
                                    replace p250 := eq_true p250
                                    replace q250 := eq_true q250
                                    go_wp2
                                    go_roundg k1
                                    case measure => have := HK1.out; omega
                                    case rel => exact ⟨(ji41), (wrap64 (x12_1 + (wrap64 (((rd_T25 l2 x13_1).f1) * 1000000)))), (wrap64 (x13_1 - 1)), (by first | rfl | (simp; done) | (simp only [← hji41] <;> (first | rfl | simp)) | (simp [*]; done)), (by first | rfl | (simp; done) | (simp [*]; done)), (by first | rfl | (simp; done) | (simp [*]; done)), H', ⟨by have := HK1.out; omega⟩, ⟨by (with_reducible repeat (first | apply Kd.R_alloc | apply Kd.R_drewN | apply Kd.R_drew)); exact HO_9.out⟩, ⟨by (with_reducible repeat (first | refine blk_drewN ?_ _ | refine blk_drew ?_ | refine blk_alloc ?_ _)); exact BK244.out⟩, ⟨by repeat (first | (with_reducible first | exact HB.out | apply below_alloc | apply pw_below_drewN | apply below_drew1 | refine below_set ?_ GE244.out) | exact HB.out)⟩⟩
                                  · rw [if_neg c40] at H
                                    have c40b0 : decide (((rd_T25 l2 x13_1).f0) ≤ a3) = false := decide_eq_false c40
                                    clear c40
                                    have H' := Aside0.mk H
                                    clear H
                                    have p245 : 0 ≤ (x13_1 : Int) := of_decide_eq_true (by first | (with_reducible assumption) | assumption)
                                    have q245 : x13_1 < (t239.length : Int) := of_decide_eq_true (by first | (with_reducible assumption) | assumption)
                                    obtain ⟨ad245, e245, hx245_0, hx245_1⟩ := at_T41 (Kd.R_reads' HO_9.out).2.2 x13_1 p245 q245
                                    (try rw [← Nbq34.out] at hx245_1)
                                    cases e245
                                    replace p245 := eq_true p245
                                    replace q245 := eq_true q245
                                    have p246 : 0 ≤ (x13_1 : Int) := of_decide_eq_true (by first | (with_reducible assumption) | assumption)
                                    have q246 : x13_1 < (l2.length : Int) := of_decide_eq_true (by first | (with_reducible assumption) | assumption)
                                    obtain ⟨ad246, e246, hx246_0, hx246_1⟩ := at_T25 HR2.out x13_1 p246 q246
                                    cases e246
                                    replace hx246_0 := (HB.out.cell (World.block_lt_of_cell? w _ hx246_0)).trans hx246_0
                                    replace hx246_1 := (HB.out.cell (World.block_lt_of_cell? w _ hx246_1)).trans hx246_1
                                    replace p246 := eq_true p246
                                    replace q246 := eq_true q246
                                    have p247 : 0 ≤ (x13_1 : Int) := of_decide_eq_true (by first | (with_reducible assumption) | assumption)
                                    have q247 : x13_1 < (l2.length : Int) := of_decide_eq_true (by first | (with_reducible assumption) | assumption)
                                    obtain ⟨ad247, e247, hx247_0, hx247_1⟩ := at_T25 HR2.out x13_1 p247 q247
                                    obtain rfl : ad246 = ad247 := (by injection e247)
                                    replace hx247_0 := (HB.out.cell (World.block_lt_of_cell? w _ hx247_0)).trans hx247_0
                                    replace hx247_1 := (HB.out.cell (World.block_lt_of_cell? w _ hx247_1)).trans hx247_1
                                    replace p247 := eq_true p247
                                    replace q247 := eq_true q247
                                    have p249 : 0 ≤ (x13_1 : Int) := of_decide_eq_true (by first | (with_reducible assumption) | assumption)
                                    have q249 : x13_1 < (l2.length : Int) := of_decide_eq_true (by first | (with_reducible assumption) | assumption)
                                    obtain ⟨ad249, e249, hx249_0, hx249_1⟩ := at_T25 HR2.out x13_1 p249 q249
                                    obtain rfl : ad246 = ad249 := (by injection e249)
                                    replace hx249_0 := (HB.out.cell (World.block_lt_of_cell? w _ hx249_0)).trans hx249_0
                                    replace hx249_1 := (HB.out.cell (World.block_lt_of_cell? w _ hx249_1)).trans hx249_1
                                    replace p249 := eq_true p249
                                    replace q249 := eq_true q249
                                    go_wp2
                                    go_roundg k1
                                    case measure => have := HK1.out; omega
                                    case rel => exact ⟨(x11_1), (wrap64 (x12_1 + (wrap64 (((rd_T25 l2 x13_1).f1) * 1000000)))), (wrap64 (x13_1 - 1)), (by first | rfl | (simp; done) | (simp [*]; done)), (by first | rfl | (simp; done) | (simp [*]; done)), (by first | rfl | (simp; done) | (simp [*]; done)), H', ⟨by have := HK1.out; omega⟩, ⟨by (with_reducible repeat (first | apply Kd.R_alloc | apply Kd.R_drewN | apply Kd.R_drew)); exact HO_9.out⟩, ⟨by (with_reducible repeat (first | refine blk_drewN ?_ _ | refine blk_drew ?_ | refine blk_alloc ?_ _)); exact BK244.out⟩, ⟨by repeat (first | (with_reducible first | exact HB.out | apply below_alloc | apply pw_below_drewN | apply below_drew1 | refine below_set ?_ GE244.out) | exact HB.out)⟩⟩
                              · rw [if_neg c36] at H
                                exact absurd H (by simp)
                          · rw [if_neg c33] at H
                            exact absurd H (by simp)
                        · rw [if_neg c32] at H
                          exact absurd H (by simp)
                      · rw [if_neg c31] at H
                        have c31b0 : decide (0 ≤ x13_1) = false := decide_eq_false c31
                        clear c31
                        replace H := Option.bind_eq_some_iff.mp H
                        obtain ⟨⟨t251, t252, t253⟩, A420, H⟩ := H
                        replace H : (if t253 = 0 then ((pacemakerlaw28_queued.f k1).bind fun t255 => (if t255 = true then (if t252 = x11_1 then (some (t251 == a3)) else (some false)) else (some false))) else ((pacemakerlaw28_queued.f k1).bind fun t256 => (if t256 = true then (some (decide (a3 < t242))) else (some false)))) = some r := H
                        have A42 := Aside0.mk A420
                        clear A420
                        by_cases c43 : t253 = 0
                        · rw [if_pos c43] at H
                          have c43b0 : (t253 == 0) = true := beq_iff_eq.mpr c43
                          have c43b1 : (t253 != 0) = false := bne_eq_false_iff_eq.mpr c43
                          clear c43
                          replace H := Option.bind_eq_some_iff.mp H
                          obtain ⟨t255, A440, H⟩ := H
                          replace H : (if t255 = true then (if t252 = x11_1 then (some (t251 == a3)) else (some false)) else (some false)) = some r := H
                          have A44 := Aside0.mk A440
                          clear A440
                          by_cases c45 : t255 = true
                          · subst c45
                            have H1 : (if t252 = x11_1 then (some (t251 == a3)) else (some false)) = some r := by rw [if_pos rfl] at H; exact H
                            clear H
                            have H := H1
                            clear H1
                            by_cases c46 : t252 = x11_1
                            · rw [if_pos c46] at H
                              have c46b0 : (t252 == x11_1) = true := beq_iff_eq.mpr c46
                              have c46b1 : (t252 != x11_1) = false := bne_eq_false_iff_eq.mpr c46
                              clear c46
                              obtain rfl := Option.some.inj H
                              have hcz47_0 : wr.cell? ⟨gb244, 0, none⟩ = some (.int .i64 t242) := (blk_cell BK244.out 0).trans rfl
                              have hcz47_1 : wr.cell? ⟨gb244, 1, none⟩ = some (.int .i64 t243) := (blk_cell BK244.out 1).trans rfl
                              have hfz47_0 := blk_frozen BK244.out 0
                              have hfz47_1 := blk_frozen BK244.out 1
                              go_wp2_with (first | ((with_reducible refine gate_callee (f := 8) rfl ?_); refine goesL_ (some 108) rfl rfl Try.func8 (by kernel_rfl) rfl #[.int .i64 a0, .agg #[.int .i64 t242, .int .i64 t243], .int .i64 a1, .int .i64 a3] rfl (by (try simp only [List.map_toArray, List.map_cons, List.map_nil]); first | done | rfl | (simp only [List.length_drop, List.length_take]; rfl)) ?_; (with_reducible refine (queue_Drain.calls k1 a0 t242 t243 a1 a3 t251 t252 t253 _ A42.out).mono ?_); rintro e w48 ⟨rfl, hb⟩; refine ⟨_, rfl, ?_⟩; have n0_ := Aside0.mk (Kd.R_below (by (with_reducible repeat (first | apply Kd.R_alloc | apply Kd.R_drewN | apply Kd.R_drew)); exact HO_9.out) hb); have n1_ := Aside0.mk (blk_below (g := gb244) (o := .cells #[.int .i64 t242, .int .i64 t243] 23 (0, 0)) (by (with_reducible repeat (first | refine blk_drewN ?_ _ | refine blk_drew ?_ | refine blk_alloc ?_ _)); exact BK244.out) hb); have n2_ := Aside0.mk (below_step (by repeat (first | (with_reducible first | exact HB.out | apply below_alloc | apply pw_below_drewN | apply below_drew1 | refine below_set ?_ GE244.out) | exact HB.out)) hb); clear HO_9; clear BK244; clear HB; have HO_9 := n0_; have BK244 := n1_; have HB := n2_; clear n0_ n1_ n2_; (try clear hb); (try clear hb2); (try clear hk); (try clear hi)) | ((with_reducible refine gate_dst (N := 14) rfl ?_); refine box_event ?hg (N := 14) ?hd (cs := #[.int .i64 0, .int .i64 0]) (t := 23) ?hr ?_; (case hd => rfl); (case hg => rfl); (case hr => first | (go_simp; done) | (go_simp; rfl)); intro gb254 hg w49 hbox hb; have n0_ := Aside0.mk (Kd.R_below (by (with_reducible repeat (first | apply Kd.R_alloc | apply Kd.R_drewN | apply Kd.R_drew)); exact HO_9.out) hb); have n1_ := Aside0.mk (blk_below (g := gb244) (o := .cells #[.int .i64 t242, .int .i64 t243] 23 (0, 0)) (by (with_reducible repeat (first | refine blk_drewN ?_ _ | refine blk_drew ?_ | refine blk_alloc ?_ _)); exact BK244.out) hb); have n2_ := Aside0.mk (below_step (by repeat (first | (with_reducible first | exact HB.out | apply below_alloc | apply pw_below_drewN | apply below_drew1 | refine below_set ?_ GE244.out) | exact HB.out)) hb); have n3_ := Aside0.mk (hbox); have n4_ := Aside0.mk ((by rw [hg]; exact (below_size (by repeat (first | (with_reducible first | exact HB.out | apply below_alloc | apply pw_below_drewN | apply below_drew1 | refine below_set ?_ GE244.out) | exact HB.out))) : w.heap.size ≤ gb254)); have n5_ := Aside0.mk ((by rw [hg]; exact (below_size (by repeat (first | (with_reducible first | exact HB.out | apply below_alloc | apply pw_below_drewN | apply below_drew1 | refine below_set ?_ GE244.out) | exact HB.out))) : w.heap.size ≤ gb254)); have n6_ := Aside0.mk ((by rw [hg]; exact Nat.ne_of_lt (blk_lt (g := gb244) (o := .cells #[.int .i64 t242, .int .i64 t243] 23 (0, 0)) (by (with_reducible repeat (first | refine blk_drewN ?_ _ | refine blk_drew ?_ | refine blk_alloc ?_ _)); exact BK244.out)) : gb244 ≠ gb254)); have n7_ := Aside0.mk ((by rw [hg]; exact Nat.ne_of_gt (blk_lt (g := gb244) (o := .cells #[.int .i64 t242, .int .i64 t243] 23 (0, 0)) (by (with_reducible repeat (first | refine blk_drewN ?_ _ | refine blk_drew ?_ | refine blk_alloc ?_ _)); exact BK244.out)) : gb254 ≠ gb244)); clear HO_9; clear BK244; clear HB; have HO_9 := n0_; have BK244 := n1_; have HB := n2_; have BK254 := n3_; have GW254 := n4_; have GE254 := n5_; have NB244_254 := n6_; have NB254_244 := n7_; clear n0_ n1_ n2_ n3_ n4_ n5_ n6_ n7_; clear hb hbox hg; have hnb50 := NB254_244.out; have hnc50 := NB244_254.out; have hcz51_0 : w49.cell? ⟨gb254, 0, none⟩ = some (.int .i64 0) := (blk_cell BK254.out 0).trans rfl; have hcz51_1 : w49.cell? ⟨gb254, 1, none⟩ = some (.int .i64 0) := (blk_cell BK254.out 1).trans rfl; have hfz51_0 := blk_frozen BK254.out 0; have hfz51_1 := blk_frozen BK254.out 1) | ((with_reducible refine gate_callee (f := 15) rfl ?_); refine goesL_ (some 120) rfl rfl Try.func15 (by kernel_rfl) rfl #[] rfl (by (try simp only [List.map_toArray, List.map_cons, List.map_nil]); first | done | rfl | (simp only [List.length_drop, List.length_take]; rfl)) ?_; (with_reducible refine (pacemakerlaw28_queued.calls k1  true _ A44.out).mono ?_); rintro e w52 ⟨rfl, hb⟩; refine ⟨_, rfl, ?_⟩; have n0_ := Aside0.mk (Kd.R_below (by (with_reducible repeat (first | apply Kd.R_alloc | apply Kd.R_drewN | apply Kd.R_drew)); exact (Kd.R_mono (Kd.R_far (p := ⟨gb254, 1, none⟩) (Kd.R_far (p := ⟨gb254, 0, none⟩) (Kd.R_types HO_9.out BK254.out (by decide)) (fun _ hk => hk.2) (.int .i64 t251)) (fun _ hk => hk.2) (.int .i64 t252)) (fun _ h_ => h_.1))) hb); have n1_ := Aside0.mk (blk_below (g := gb244) (o := .cells #[.int .i64 t242, .int .i64 t243] 23 (0, 0)) (by (with_reducible repeat (first | refine blk_drewN ?_ _ | refine blk_drew ?_ | refine blk_alloc ?_ _)); refine blk_far ?_ NB244_254.out _; (with_reducible repeat (first | refine blk_drewN ?_ _ | refine blk_drew ?_ | refine blk_alloc ?_ _)); refine blk_far ?_ NB244_254.out _; (with_reducible repeat (first | refine blk_drewN ?_ _ | refine blk_drew ?_ | refine blk_alloc ?_ _)); exact BK244.out) hb); have n2_ := Aside0.mk (blk_below (g := gb254) (o := .cells #[.int .i64 t251, .int .i64 t252] 23 (0, 0)) (by (with_reducible repeat (first | refine blk_drewN ?_ _ | refine blk_drew ?_ | refine blk_alloc ?_ _)); refine blk_put (cs := #[.int .i64 t251, .int .i64 0]) ?_ 1 _ rfl; (with_reducible repeat (first | refine blk_drewN ?_ _ | refine blk_drew ?_ | refine blk_alloc ?_ _)); refine blk_put (cs := #[.int .i64 0, .int .i64 0]) ?_ 0 _ rfl; (with_reducible repeat (first | refine blk_drewN ?_ _ | refine blk_drew ?_ | refine blk_alloc ?_ _)); exact BK254.out) hb); have n3_ := Aside0.mk (below_step (by repeat (first | (with_reducible first | exact HB.out | apply below_alloc | apply pw_below_drewN | apply below_drew1 | refine below_set ?_ GE244.out | refine below_set ?_ GE254.out) | exact HB.out)) hb); clear HO_9; clear BK244; clear BK254; clear HB; have HO_9 := n0_; have BK244 := n1_; have BK254 := n2_; have HB := n3_; clear n0_ n1_ n2_ n3_; (try clear hb); (try clear hb2); (try clear hk); (try clear hi); have hcz53_0 : w52.cell? ⟨gb254, 0, none⟩ = some (.int .i64 t251) := (blk_cell BK254.out 0).trans rfl; have hcz53_1 : w52.cell? ⟨gb254, 1, none⟩ = some (.int .i64 t252) := (blk_cell BK254.out 1).trans rfl; have hfz53_0 := blk_frozen BK254.out 0; have hfz53_1 := blk_frozen BK254.out 1))
                              go_ret
                              exact ⟨by first | rfl | (simp [errW_none, errW_some] <;> rfl) | (simp [*, errW_none, errW_some] <;> rfl), by repeat (first | (with_reducible first | exact HB.out | apply below_alloc | apply pw_below_drewN | apply below_drew1 | refine below_set ?_ GE244.out | refine below_set ?_ GE254.out) | exact HB.out)⟩
                            · rw [if_neg c46] at H
                              have c46b0 : (t252 == x11_1) = false := beq_eq_false_iff_ne.mpr c46
                              have c46b1 : (t252 != x11_1) = true := bne_iff_ne.mpr c46
                              exact absurd ((Option.some.inj H).trans HT.out) (by decide)
                          · replace c45 := Bool.eq_false_iff.mpr c45
                            subst c45
                            have H1 : (some false) = some r := by rw [if_neg (show ¬ (false = true) by decide)] at H; exact H
                            clear H
                            have H := H1
                            clear H1
                            exact absurd ((Option.some.inj H).trans HT.out) (by decide)
                        · rw [if_neg c43] at H
                          have c43b0 : (t253 == 0) = false := beq_eq_false_iff_ne.mpr c43
                          have c43b1 : (t253 != 0) = true := bne_iff_ne.mpr c43
                          replace H := Option.bind_eq_some_iff.mp H
                          obtain ⟨t256, A540, H⟩ := H
                          replace H : (if t256 = true then (some (decide (a3 < t242))) else (some false)) = some r := H
                          have A54 := Aside0.mk A540
                          clear A540
                          by_cases c55 : t256 = true
                          · subst c55
                            have H1 : (some (decide (a3 < t242))) = some r := by rw [if_pos rfl] at H; exact H
                            clear H
                            have H := H1
                            clear H1
                            obtain rfl := Option.some.inj H
                            have hcz56_0 : wr.cell? ⟨gb244, 0, none⟩ = some (.int .i64 t242) := (blk_cell BK244.out 0).trans rfl
                            have hcz56_1 : wr.cell? ⟨gb244, 1, none⟩ = some (.int .i64 t243) := (blk_cell BK244.out 1).trans rfl
                            have hfz56_0 := blk_frozen BK244.out 0
                            have hfz56_1 := blk_frozen BK244.out 1
                            go_wp2_with (first | ((with_reducible refine gate_callee (f := 8) rfl ?_); refine goesL_ (some 108) rfl rfl Try.func8 (by kernel_rfl) rfl #[.int .i64 a0, .agg #[.int .i64 t242, .int .i64 t243], .int .i64 a1, .int .i64 a3] rfl (by (try simp only [List.map_toArray, List.map_cons, List.map_nil]); first | done | rfl | (simp only [List.length_drop, List.length_take]; rfl)) ?_; (with_reducible refine (queue_Drain.calls k1 a0 t242 t243 a1 a3 t251 t252 t253 _ A42.out).mono ?_); rintro e w57 ⟨rfl, hb⟩; refine ⟨_, rfl, ?_⟩; have n0_ := Aside0.mk (Kd.R_below (by (with_reducible repeat (first | apply Kd.R_alloc | apply Kd.R_drewN | apply Kd.R_drew)); exact HO_9.out) hb); have n1_ := Aside0.mk (blk_below (g := gb244) (o := .cells #[.int .i64 t242, .int .i64 t243] 23 (0, 0)) (by (with_reducible repeat (first | refine blk_drewN ?_ _ | refine blk_drew ?_ | refine blk_alloc ?_ _)); exact BK244.out) hb); have n2_ := Aside0.mk (below_step (by repeat (first | (with_reducible first | exact HB.out | apply below_alloc | apply pw_below_drewN | apply below_drew1 | refine below_set ?_ GE244.out) | exact HB.out)) hb); clear HO_9; clear BK244; clear HB; have HO_9 := n0_; have BK244 := n1_; have HB := n2_; clear n0_ n1_ n2_; (try clear hb); (try clear hb2); (try clear hk); (try clear hi)) | ((with_reducible refine gate_dst (N := 14) rfl ?_); refine box_event ?hg (N := 14) ?hd (cs := #[.int .i64 0, .int .i64 0]) (t := 23) ?hr ?_; (case hd => rfl); (case hg => rfl); (case hr => first | (go_simp; done) | (go_simp; rfl)); intro gb254 hg w58 hbox hb; have n0_ := Aside0.mk (Kd.R_below (by (with_reducible repeat (first | apply Kd.R_alloc | apply Kd.R_drewN | apply Kd.R_drew)); exact HO_9.out) hb); have n1_ := Aside0.mk (blk_below (g := gb244) (o := .cells #[.int .i64 t242, .int .i64 t243] 23 (0, 0)) (by (with_reducible repeat (first | refine blk_drewN ?_ _ | refine blk_drew ?_ | refine blk_alloc ?_ _)); exact BK244.out) hb); have n2_ := Aside0.mk (below_step (by repeat (first | (with_reducible first | exact HB.out | apply below_alloc | apply pw_below_drewN | apply below_drew1 | refine below_set ?_ GE244.out) | exact HB.out)) hb); have n3_ := Aside0.mk (hbox); have n4_ := Aside0.mk ((by rw [hg]; exact (below_size (by repeat (first | (with_reducible first | exact HB.out | apply below_alloc | apply pw_below_drewN | apply below_drew1 | refine below_set ?_ GE244.out) | exact HB.out))) : w.heap.size ≤ gb254)); have n5_ := Aside0.mk ((by rw [hg]; exact (below_size (by repeat (first | (with_reducible first | exact HB.out | apply below_alloc | apply pw_below_drewN | apply below_drew1 | refine below_set ?_ GE244.out) | exact HB.out))) : w.heap.size ≤ gb254)); have n6_ := Aside0.mk ((by rw [hg]; exact Nat.ne_of_lt (blk_lt (g := gb244) (o := .cells #[.int .i64 t242, .int .i64 t243] 23 (0, 0)) (by (with_reducible repeat (first | refine blk_drewN ?_ _ | refine blk_drew ?_ | refine blk_alloc ?_ _)); exact BK244.out)) : gb244 ≠ gb254)); have n7_ := Aside0.mk ((by rw [hg]; exact Nat.ne_of_gt (blk_lt (g := gb244) (o := .cells #[.int .i64 t242, .int .i64 t243] 23 (0, 0)) (by (with_reducible repeat (first | refine blk_drewN ?_ _ | refine blk_drew ?_ | refine blk_alloc ?_ _)); exact BK244.out)) : gb254 ≠ gb244)); clear HO_9; clear BK244; clear HB; have HO_9 := n0_; have BK244 := n1_; have HB := n2_; have BK254 := n3_; have GW254 := n4_; have GE254 := n5_; have NB244_254 := n6_; have NB254_244 := n7_; clear n0_ n1_ n2_ n3_ n4_ n5_ n6_ n7_; clear hb hbox hg; have hnb59 := NB254_244.out; have hnc59 := NB244_254.out; have hcz60_0 : w58.cell? ⟨gb254, 0, none⟩ = some (.int .i64 0) := (blk_cell BK254.out 0).trans rfl; have hcz60_1 : w58.cell? ⟨gb254, 1, none⟩ = some (.int .i64 0) := (blk_cell BK254.out 1).trans rfl; have hfz60_0 := blk_frozen BK254.out 0; have hfz60_1 := blk_frozen BK254.out 1) | ((with_reducible refine gate_callee (f := 15) rfl ?_); refine goesL_ (some 113) rfl rfl Try.func15 (by kernel_rfl) rfl #[] rfl (by (try simp only [List.map_toArray, List.map_cons, List.map_nil]); first | done | rfl | (simp only [List.length_drop, List.length_take]; rfl)) ?_; (with_reducible refine (pacemakerlaw28_queued.calls k1  true _ A54.out).mono ?_); rintro e w61 ⟨rfl, hb⟩; refine ⟨_, rfl, ?_⟩; have n0_ := Aside0.mk (Kd.R_below (by (with_reducible repeat (first | apply Kd.R_alloc | apply Kd.R_drewN | apply Kd.R_drew)); exact (Kd.R_mono (Kd.R_far (p := ⟨gb254, 1, none⟩) (Kd.R_far (p := ⟨gb254, 0, none⟩) (Kd.R_types HO_9.out BK254.out (by decide)) (fun _ hk => hk.2) (.int .i64 t251)) (fun _ hk => hk.2) (.int .i64 t252)) (fun _ h_ => h_.1))) hb); have n1_ := Aside0.mk (blk_below (g := gb244) (o := .cells #[.int .i64 t242, .int .i64 t243] 23 (0, 0)) (by (with_reducible repeat (first | refine blk_drewN ?_ _ | refine blk_drew ?_ | refine blk_alloc ?_ _)); refine blk_far ?_ NB244_254.out _; (with_reducible repeat (first | refine blk_drewN ?_ _ | refine blk_drew ?_ | refine blk_alloc ?_ _)); refine blk_far ?_ NB244_254.out _; (with_reducible repeat (first | refine blk_drewN ?_ _ | refine blk_drew ?_ | refine blk_alloc ?_ _)); exact BK244.out) hb); have n2_ := Aside0.mk (blk_below (g := gb254) (o := .cells #[.int .i64 t251, .int .i64 t252] 23 (0, 0)) (by (with_reducible repeat (first | refine blk_drewN ?_ _ | refine blk_drew ?_ | refine blk_alloc ?_ _)); refine blk_put (cs := #[.int .i64 t251, .int .i64 0]) ?_ 1 _ rfl; (with_reducible repeat (first | refine blk_drewN ?_ _ | refine blk_drew ?_ | refine blk_alloc ?_ _)); refine blk_put (cs := #[.int .i64 0, .int .i64 0]) ?_ 0 _ rfl; (with_reducible repeat (first | refine blk_drewN ?_ _ | refine blk_drew ?_ | refine blk_alloc ?_ _)); exact BK254.out) hb); have n3_ := Aside0.mk (below_step (by repeat (first | (with_reducible first | exact HB.out | apply below_alloc | apply pw_below_drewN | apply below_drew1 | refine below_set ?_ GE244.out | refine below_set ?_ GE254.out) | exact HB.out)) hb); clear HO_9; clear BK244; clear BK254; clear HB; have HO_9 := n0_; have BK244 := n1_; have BK254 := n2_; have HB := n3_; clear n0_ n1_ n2_ n3_; (try clear hb); (try clear hb2); (try clear hk); (try clear hi); have hcz62_0 : w61.cell? ⟨gb244, 0, none⟩ = some (.int .i64 t242) := (blk_cell BK244.out 0).trans rfl; have hcz62_1 : w61.cell? ⟨gb244, 1, none⟩ = some (.int .i64 t243) := (blk_cell BK244.out 1).trans rfl; have hfz62_0 := blk_frozen BK244.out 0; have hfz62_1 := blk_frozen BK244.out 1))
                            go_ret
                            exact ⟨by first | rfl | (simp [errW_none, errW_some] <;> rfl) | (simp [*, errW_none, errW_some] <;> rfl), by repeat (first | (with_reducible first | exact HB.out | apply below_alloc | apply pw_below_drewN | apply below_drew1 | refine below_set ?_ GE244.out | refine below_set ?_ GE254.out) | exact HB.out)⟩
                          · replace c55 := Bool.eq_false_iff.mpr c55
                            subst c55
                            have H1 : (some false) = some r := by rw [if_neg (show ¬ (false = true) by decide)] at H; exact H
                            clear H
                            have H := H1
                            clear H1
                            exact absurd ((Option.some.inj H).trans HT.out) (by decide)
                · rw [if_neg c26] at H
                  have c26b0 : ((t239.length : Int) == (l2.length : Int)) = false := beq_eq_false_iff_ne.mpr c26
                  have c26b1 : ((t239.length : Int) != (l2.length : Int)) = true := bne_iff_ne.mpr c26
                  have c26b2 : (t239.length == l2.length) = false := by first | simpa using c26 | (simp at c26 ⊢; omega)
                  exact absurd ((Option.some.inj H).trans HT.out) (by decide)
  · replace c6 := Bool.eq_false_iff.mpr c6
    subst c6
    have H1 : ((pacemakerlaw28_queued.f k).bind fun t257 => (some t257)) = some r := by rw [if_neg (show ¬ (false = true) by decide)] at H; exact H
    clear H
    have H := H1
    clear H1
    replace H := Option.bind_eq_some_iff.mp H
    obtain ⟨t257, A630, H⟩ := H
    replace H : (some t257) = some r := H
    have A63 := Aside0.mk A630
    clear A630
    obtain rfl := Option.some.inj H
    go_enter Try.func5, Try.ntmps5
    go_wp2_with (first | ((with_reducible refine gate_callee (f := 14) rfl ?_); refine goesL_ (some 17) rfl rfl Try.func14 (by kernel_rfl) rfl #[.slice A2 l2.length c2] rfl (by (try simp only [List.map_toArray, List.map_cons, List.map_nil]); first | done | rfl | (simp only [List.length_drop, List.length_take]; rfl)) ?_; (with_reducible refine (pacemakerlaw28_small.calls _ _ l2 false _ ?side1 ?side2 A5.out).mono ?_); (case side1 => repeat (first | exact HR2.out | (with_reducible refine Kd.C_alloc ?_ _) | (with_reducible refine Kd.C_drewN ?_ _) | (with_reducible refine Kd.C_drew ?_))); (case side2 => exact HC2.out); rintro e w' ⟨rfl, ⟨nd, rfl⟩⟩; refine ⟨_, rfl, ?_⟩) | ((with_reducible refine gate_callee (f := 15) rfl ?_); refine goesL_ (some 43) rfl rfl Try.func15 (by kernel_rfl) rfl #[] rfl (by (try simp only [List.map_toArray, List.map_cons, List.map_nil]); first | done | rfl | (simp only [List.length_drop, List.length_take]; rfl)) ?_; (with_reducible refine (pacemakerlaw28_queued.calls k  t257 _ A63.out).mono ?_); rintro e w64 ⟨rfl, hb⟩; refine ⟨_, rfl, ?_⟩; have n0_ := Aside0.mk (below_step (by repeat (first | (with_reducible first | exact HB.out | apply below_alloc | apply pw_below_drewN | apply below_drew1) | exact HB.out)) hb); clear HB; have HB := n0_; clear n0_; (try clear hb); (try clear hb2); (try clear hk); (try clear hi)))
    go_ret
    exact ⟨by first | rfl | (simp [errW_none, errW_some] <;> rfl) | (simp [*, errW_none, errW_some] <;> rfl), by repeat (first | (with_reducible first | exact HB.out | apply below_alloc | apply pw_below_drewN | apply below_drew1) | exact HB.out)⟩

end Go.Proofs.Ytefigckobfaodaa.Q
