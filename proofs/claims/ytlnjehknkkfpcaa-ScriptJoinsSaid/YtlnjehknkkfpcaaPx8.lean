-- Printed by wip/tools/myprint.py (this session's driver over the kit's printer, with functions proved by hand). Not trusted: Lean checks it.
import Derived.Test.YtlnjehknkkfpcaaPx0
import Derived.Test.YtlnjehknkkfpcaaPx3
import Derived.Test.YtlnjehknkkfpcaaPx4
import Derived.Test.YtlnjehknkkfpcaaPx6
import Derived.Test.YtlnjehknkkfpcaaPx7
namespace Go.Proofs.Ytlnjehknkkfpcaa.P
open Go.RowKit Go.Proofs.YtlnjehknkkfpcaaW.PrintWords Go.Proofs.YtlnjehknkkfpcaaW.PrintLast Go.Proofs.YtlnjehknkkfpcaaW.PrintMore
attribute [local go_sem] max2_int min2_int max_two min_two max_three min_three max_four min_four   -- for this text's walks alone
attribute [local go_sem] Go.Proofs.YtlnjehknkkfpcaaS.cell_set_map Go.Proofs.YtlnjehknkkfpcaaS.setCell_drewN
set_option linter.unusedVariables false
set_option linter.unusedSimpArgs false

/-! ### pacemakerlaw30_ScriptTotal: function 4 -/
def pacemakerlaw30_ScriptTotal.l0 : Nat → Int → ByteArray → List (S24) → Int → Option (Bool)
  | 0, _, _, _, _ => none
  | k + 1, x0, x1, x5, x6 => if x6 < (x5.length : Int) then (if 0 ≤ x6 then ((script_Span.f ((rd_T24 x5 x6).f0) ((rd_T24 x5 x6).f1) ((rd_T24 x5 x6).f2)).bind fun t115 => ((script_Size.f ((rd_T24 x5 x6).f0) ((rd_T24 x5 x6).f1) ((rd_T24 x5 x6).f2)).bind fun t117 => ((script_Is.f x0 ((rd_T24 x5 x6).f0) ((rd_T24 x5 x6).f1) ((rd_T24 x5 x6).f2)).bind fun t119 => (if t119 = true then (if ((decide (t115 > 0)) != (((rd_T24 x5 x6).f0) == 0)) = true then (some false) else (if t115 < 0 then (some false) else (if t115 > 65536 then (some false) else (if ((decide (t117 > 0)) != (((rd_T24 x5 x6).f0) == 1)) = true then (some false) else (if t117 = 0 then (if t117 > 8989 then (some false) else (pacemakerlaw30_ScriptTotal.l0 k x0 x1 x5 (wrap64 (x6 + 1)))) else (if t117 < 64 then (some false) else (if t117 > 8989 then (some false) else (pacemakerlaw30_ScriptTotal.l0 k x0 x1 x5 (wrap64 (x6 + 1)))))))))) else (some false))))) else (none)) else ((pacemakerlaw30_scripted.f).bind fun t122 => (if t122 = true then (some ((x5.length : Int) == (wrap64 (Int.tdiv (wrap64 ((x1.size : Int) + 2)) 3)))) else (some false)))
def pacemakerlaw30_ScriptTotal.f (k : Nat) (a0 : Int) (a1 : ByteArray) : Option (Bool) := if (a1.size : Int) > 2000 then (some true) else ((script_Decode.f a0 a1).bind fun t111 => (pacemakerlaw30_ScriptTotal.l0 k a0 a1 t111 0))
theorem pacemakerlaw30_ScriptTotal.mono_l : ∀ k, (∀ y0 y1 y2 y3, LeO (pacemakerlaw30_ScriptTotal.l0 k y0 y1 y2 y3) (pacemakerlaw30_ScriptTotal.l0 (k + 1) y0 y1 y2 y3))
  | 0 => fun _ _ _ _ r h => by simp [pacemakerlaw30_ScriptTotal.l0] at h
  | k + 1 => by
    have ih0 := pacemakerlaw30_ScriptTotal.mono_l k
    · intro y0 y1 y2 y3
      unfold pacemakerlaw30_ScriptTotal.l0
      repeat' first
      | (with_reducible exact ih0 _ _ _ _)
      | (with_reducible exact LeO.refl _)
      | (with_reducible exact LeO.none _)
      | (with_reducible refine LeO.ite ?_ ?_)
      | (with_reducible refine LeO.bind ?_ (fun _ => ?_))
      | exact ih0 _ _ _ _
      | exact LeO.none _
      | refine LeO.ite ?_ ?_
      | refine LeO.bind ?_ (fun _ => ?_)
theorem pacemakerlaw30_ScriptTotal.mono : ∀ a0 a1 k, LeO (pacemakerlaw30_ScriptTotal.f k a0 a1) (pacemakerlaw30_ScriptTotal.f (k + 1) a0 a1) := by
  intro a0 a1 k
  have ih0 := pacemakerlaw30_ScriptTotal.mono_l k
  unfold pacemakerlaw30_ScriptTotal.f
  repeat' first
      | (with_reducible exact ih0 _ _ _ _)
      | (with_reducible exact LeO.refl _)
      | (with_reducible exact LeO.none _)
      | (with_reducible refine LeO.ite ?_ ?_)
      | (with_reducible refine LeO.bind ?_ (fun _ => ?_))
      | exact ih0 _ _ _ _
      | exact LeO.none _
      | refine LeO.ite ?_ ?_
      | refine LeO.bind ?_ (fun _ => ?_)
set_option maxHeartbeats 8000000 in
set_option maxRecDepth 100000 in
theorem pacemakerlaw30_ScriptTotal.calls (k : Nat) (a0 : Int) (a1 : ByteArray) (r : Bool) (w : World) (HT : Aside0 (r = true)) (h : pacemakerlaw30_ScriptTotal.f k a0 a1 = some r) :
    Calls Try.prog 4 #[.int .i64 a0, .string a1] w fun e w' => e = .returned (.bool r) ∧ Below w.heap.size w w' := by
  have hu24 := Try.underlying24
  have HB := Aside0.mk (Below.refl w.heap.size w)
  have H : (if (a1.size : Int) > 2000 then (some true) else ((script_Decode.f a0 a1).bind fun t111 => (pacemakerlaw30_ScriptTotal.l0 k a0 a1 t111 0))) = some r := h
  clear h
  by_cases c3 : (a1.size : Int) > 2000
  · rw [if_pos c3] at H
    have c3b0 : decide (2000 < (a1.size : Int)) = true := decide_eq_true c3
    have c3b1 : decide (2000 < a1.size) = true := decide_eq_true (by omega)
    clear c3
    obtain rfl := Option.some.inj H
    go_enter Try.func4, Try.ntmps4
    go_wp2
    go_ret
    exact ⟨by first | rfl | (simp [errW_none, errW_some] <;> rfl) | (simp [*, errW_none, errW_some] <;> rfl), by repeat (first | (with_reducible first | exact HB.out | apply below_alloc | apply pw_below_drewN | apply below_drew1) | exact HB.out)⟩
  · rw [if_neg c3] at H
    have c3b0 : decide (2000 < (a1.size : Int)) = false := decide_eq_false c3
    have c3b1 : decide (2000 < a1.size) = false := decide_eq_false (by omega)
    clear c3
    replace H := Option.bind_eq_some_iff.mp H
    obtain ⟨t111, A40, H⟩ := H
    replace H : (pacemakerlaw30_ScriptTotal.l0 k a0 a1 t111 0) = some r := H
    have A4 := Aside0.mk A40
    clear A40
    have H' := Aside0.mk H
    clear H
    go_enter Try.func4, Try.ntmps4
    go_wp2_with (first | ((with_reducible refine gate_callee (f := 10) rfl ?_); refine goesL_ (some 14) rfl rfl Try.func10 (by kernel_rfl) rfl #[.int .i64 a0, .string a1] rfl (by (try simp only [List.map_toArray, List.map_cons, List.map_nil]); first | done | rfl | (simp only [List.length_drop, List.length_take]; rfl)) ?_; (with_reducible refine (script_Decode.calls a0 a1 t111 _ A4.out).mono ?_); rintro e w5 ⟨v112, rfl, ho0, hb⟩; refine ⟨_, rfl, ?_⟩; have n0_ := Aside0.mk (Kd.R_lower ho0 (below_size (by repeat (first | (with_reducible first | exact HB.out | apply below_alloc | apply pw_below_drewN | apply below_drew1) | exact HB.out)))); have n1_ := Aside0.mk (below_step (by repeat (first | (with_reducible first | exact HB.out | apply below_alloc | apply pw_below_drewN | apply below_drew1) | exact HB.out)) hb); clear HB; have HO113 := n0_; have HB := n1_; clear n0_ n1_; (try clear hb); (try clear hb2); (try clear hk); (try clear hi); (try clear ho0)))
    go_loopg [6] k (fun kq v6 w' => ∃ (x6_1 : Int), v6 = .int .i64 x6_1 ∧ Aside0 (pacemakerlaw30_ScriptTotal.l0 kq a0 a1 t111 x6_1 = some r) ∧ Aside0 (kq ≤ k) ∧ Aside0 (Kd.R k24 24 w' w.heap.size (fun _ => True) v112 t111) ∧ Aside0 (Below w.heap.size w w'))
    case atStart => exact ⟨(0), (by first | rfl | (simp; done) | (simp [*]; done)), H', ⟨Nat.le_refl _⟩, ⟨by (with_reducible repeat (first | apply Kd.R_alloc | apply Kd.R_drewN | apply Kd.R_drew)); exact HO113.out⟩, ⟨by repeat (first | (with_reducible first | exact HB.out | apply below_alloc | apply pw_below_drewN | apply below_drew1) | exact HB.out)⟩⟩
    case round =>
      clear H'
      try clear c1
      try clear p2
      try clear c3
      try clear c3b0
      try clear c3b1
      try clear c4
      obtain ⟨x6_1, rfl, HA, HK1, HO_5, HB⟩ := hrel
      cases gk with
      | zero => exact absurd HA.out (by simp [pacemakerlaw30_ScriptTotal.l0])
      | succ k1 =>
        have H := HA.out
        clear HA
        simp only [pacemakerlaw30_ScriptTotal.l0] at H
        by_cases c6 : x6_1 < (t111.length : Int)
        · rw [if_pos c6] at H
          have c6b0 : decide (x6_1 < (t111.length : Int)) = true := decide_eq_true c6
          clear c6
          by_cases c7 : 0 ≤ x6_1
          · rw [if_pos c7] at H
            have c7b0 : decide (0 ≤ x6_1) = true := decide_eq_true c7
            clear c7
            replace H := Option.bind_eq_some_iff.mp H
            obtain ⟨t115, A80, H⟩ := H
            replace H : ((script_Size.f ((rd_T24 t111 x6_1).f0) ((rd_T24 t111 x6_1).f1) ((rd_T24 t111 x6_1).f2)).bind fun t117 => ((script_Is.f a0 ((rd_T24 t111 x6_1).f0) ((rd_T24 t111 x6_1).f1) ((rd_T24 t111 x6_1).f2)).bind fun t119 => (if t119 = true then (if ((decide (t115 > 0)) != (((rd_T24 t111 x6_1).f0) == 0)) = true then (some false) else (if t115 < 0 then (some false) else (if t115 > 65536 then (some false) else (if ((decide (t117 > 0)) != (((rd_T24 t111 x6_1).f0) == 1)) = true then (some false) else (if t117 = 0 then (if t117 > 8989 then (some false) else (pacemakerlaw30_ScriptTotal.l0 k1 a0 a1 t111 (wrap64 (x6_1 + 1)))) else (if t117 < 64 then (some false) else (if t117 > 8989 then (some false) else (pacemakerlaw30_ScriptTotal.l0 k1 a0 a1 t111 (wrap64 (x6_1 + 1)))))))))) else (some false)))) = some r := H
            have A8 := Aside0.mk A80
            clear A80
            replace H := Option.bind_eq_some_iff.mp H
            obtain ⟨t117, A90, H⟩ := H
            replace H : ((script_Is.f a0 ((rd_T24 t111 x6_1).f0) ((rd_T24 t111 x6_1).f1) ((rd_T24 t111 x6_1).f2)).bind fun t119 => (if t119 = true then (if ((decide (t115 > 0)) != (((rd_T24 t111 x6_1).f0) == 0)) = true then (some false) else (if t115 < 0 then (some false) else (if t115 > 65536 then (some false) else (if ((decide (t117 > 0)) != (((rd_T24 t111 x6_1).f0) == 1)) = true then (some false) else (if t117 = 0 then (if t117 > 8989 then (some false) else (pacemakerlaw30_ScriptTotal.l0 k1 a0 a1 t111 (wrap64 (x6_1 + 1)))) else (if t117 < 64 then (some false) else (if t117 > 8989 then (some false) else (pacemakerlaw30_ScriptTotal.l0 k1 a0 a1 t111 (wrap64 (x6_1 + 1)))))))))) else (some false))) = some r := H
            have A9 := Aside0.mk A90
            clear A90
            replace H := Option.bind_eq_some_iff.mp H
            obtain ⟨t119, A100, H⟩ := H
            replace H : (if t119 = true then (if ((decide (t115 > 0)) != (((rd_T24 t111 x6_1).f0) == 0)) = true then (some false) else (if t115 < 0 then (some false) else (if t115 > 65536 then (some false) else (if ((decide (t117 > 0)) != (((rd_T24 t111 x6_1).f0) == 1)) = true then (some false) else (if t117 = 0 then (if t117 > 8989 then (some false) else (pacemakerlaw30_ScriptTotal.l0 k1 a0 a1 t111 (wrap64 (x6_1 + 1)))) else (if t117 < 64 then (some false) else (if t117 > 8989 then (some false) else (pacemakerlaw30_ScriptTotal.l0 k1 a0 a1 t111 (wrap64 (x6_1 + 1)))))))))) else (some false)) = some r := H
            have A10 := Aside0.mk A100
            clear A100
            by_cases c11 : t119 = true
            · subst c11
              have H1 : (if ((decide (t115 > 0)) != (((rd_T24 t111 x6_1).f0) == 0)) = true then (some false) else (if t115 < 0 then (some false) else (if t115 > 65536 then (some false) else (if ((decide (t117 > 0)) != (((rd_T24 t111 x6_1).f0) == 1)) = true then (some false) else (if t117 = 0 then (if t117 > 8989 then (some false) else (pacemakerlaw30_ScriptTotal.l0 k1 a0 a1 t111 (wrap64 (x6_1 + 1)))) else (if t117 < 64 then (some false) else (if t117 > 8989 then (some false) else (pacemakerlaw30_ScriptTotal.l0 k1 a0 a1 t111 (wrap64 (x6_1 + 1)))))))))) = some r := by rw [if_pos rfl] at H; exact H
              clear H
              have H := H1
              clear H1
              by_cases c12 : ((decide (t115 > 0)) != (((rd_T24 t111 x6_1).f0) == 0)) = true
              · rw [if_pos c12] at H
                have c12b0 : ((decide (t115 > 0)) != (((rd_T24 t111 x6_1).f0) == 0)) = true := c12
                (try (have c12b1 : decide ((decide (t115 > 0)) = (((rd_T24 t111 x6_1).f0) == 0)) = false := by simpa using c12))
                (try (have c12b2 : ((decide (t115 > 0)) == (((rd_T24 t111 x6_1).f0) == 0)) = false := by simpa using c12))
                (try (have c12b3 : ¬ ((decide (t115 > 0)) = (((rd_T24 t111 x6_1).f0) == 0)) := by simpa using c12))
                clear c12
                exact absurd ((Option.some.inj H).trans HT.out) (by decide)
              · rw [if_neg c12] at H
                have c12b0 : ((decide (t115 > 0)) != (((rd_T24 t111 x6_1).f0) == 0)) = false := by simpa using c12
                (try (have c12b1 : decide ((decide (t115 > 0)) = (((rd_T24 t111 x6_1).f0) == 0)) = true := by simpa using c12))
                (try (have c12b2 : ((decide (t115 > 0)) == (((rd_T24 t111 x6_1).f0) == 0)) = true := by simpa using c12))
                clear c12
                by_cases c13 : t115 < 0
                · rw [if_pos c13] at H
                  have c13b0 : decide (t115 < 0) = true := decide_eq_true c13
                  clear c13
                  exact absurd ((Option.some.inj H).trans HT.out) (by decide)
                · rw [if_neg c13] at H
                  have c13b0 : decide (t115 < 0) = false := decide_eq_false c13
                  clear c13
                  by_cases c14 : t115 > 65536
                  · rw [if_pos c14] at H
                    have c14b0 : decide (65536 < t115) = true := decide_eq_true c14
                    clear c14
                    exact absurd ((Option.some.inj H).trans HT.out) (by decide)
                  · rw [if_neg c14] at H
                    have c14b0 : decide (65536 < t115) = false := decide_eq_false c14
                    clear c14
                    by_cases c15 : ((decide (t117 > 0)) != (((rd_T24 t111 x6_1).f0) == 1)) = true
                    · rw [if_pos c15] at H
                      have c15b0 : ((decide (t117 > 0)) != (((rd_T24 t111 x6_1).f0) == 1)) = true := c15
                      (try (have c15b1 : decide ((decide (t117 > 0)) = (((rd_T24 t111 x6_1).f0) == 1)) = false := by simpa using c15))
                      (try (have c15b2 : ((decide (t117 > 0)) == (((rd_T24 t111 x6_1).f0) == 1)) = false := by simpa using c15))
                      (try (have c15b3 : ¬ ((decide (t117 > 0)) = (((rd_T24 t111 x6_1).f0) == 1)) := by simpa using c15))
                      clear c15
                      exact absurd ((Option.some.inj H).trans HT.out) (by decide)
                    · rw [if_neg c15] at H
                      have c15b0 : ((decide (t117 > 0)) != (((rd_T24 t111 x6_1).f0) == 1)) = false := by simpa using c15
                      (try (have c15b1 : decide ((decide (t117 > 0)) = (((rd_T24 t111 x6_1).f0) == 1)) = true := by simpa using c15))
                      (try (have c15b2 : ((decide (t117 > 0)) == (((rd_T24 t111 x6_1).f0) == 1)) = true := by simpa using c15))
                      clear c15
                      by_cases c16 : t117 = 0
                      · rw [if_pos c16] at H
                        have c16b0 : (t117 == 0) = true := beq_iff_eq.mpr c16
                        have c16b1 : (t117 != 0) = false := bne_eq_false_iff_eq.mpr c16
                        clear c16
                        by_cases c17 : t117 > 8989
                        · rw [if_pos c17] at H
                          have c17b0 : decide (8989 < t117) = true := decide_eq_true c17
                          clear c17
                          exact absurd ((Option.some.inj H).trans HT.out) (by decide)
                        · rw [if_neg c17] at H
                          have c17b0 : decide (8989 < t117) = false := decide_eq_false c17
                          clear c17
                          have H' := Aside0.mk H
                          clear H
                          obtain ⟨Ao18, co18, eo18⟩ := Kd.R_slice HO_5.out
                          subst eo18
                          have p114 : 0 ≤ (x6_1 : Int) := of_decide_eq_true (by first | (with_reducible assumption) | assumption)
                          have q114 : x6_1 < (t111.length : Int) := of_decide_eq_true (by first | (with_reducible assumption) | assumption)
                          obtain ⟨ad114, e114, hx114_0, hx114_1, hx114_2⟩ := at_T24 (Kd.R_reads' HO_5.out).2.2 x6_1 p114 q114
                          cases e114
                          replace p114 := eq_true p114
                          replace q114 := eq_true q114
                          go_wp2_with (first | ((with_reducible refine gate_callee (f := 15) rfl ?_); refine goesL_ (some 25) rfl rfl Try.func15 (by kernel_rfl) rfl #[.agg #[.int .i64 ((rd_T24 t111 x6_1).f0), .int .i64 ((rd_T24 t111 x6_1).f1), .int .i64 ((rd_T24 t111 x6_1).f2)]] rfl (by (try simp only [List.map_toArray, List.map_cons, List.map_nil]); first | done | rfl | (simp only [List.length_drop, List.length_take]; rfl)) ?_; (with_reducible refine (script_Span.calls ((rd_T24 t111 x6_1).f0) ((rd_T24 t111 x6_1).f1) ((rd_T24 t111 x6_1).f2) t115 _ A8.out).mono ?_); rintro e w19 ⟨rfl, hb⟩; refine ⟨_, rfl, ?_⟩; have n0_ := Aside0.mk (Kd.R_below (by (with_reducible repeat (first | apply Kd.R_alloc | apply Kd.R_drewN | apply Kd.R_drew)); exact HO_5.out) hb); have n1_ := Aside0.mk (below_step (by repeat (first | (with_reducible first | exact HB.out | apply below_alloc | apply pw_below_drewN | apply below_drew1) | exact HB.out)) hb); clear HO_5; clear HB; have HO_5 := n0_; have HB := n1_; clear n0_ n1_; (try clear hb); (try clear hb2); (try clear hk); (try clear hi); have p116 : 0 ≤ (x6_1 : Int) := of_decide_eq_true (by first | (with_reducible assumption) | assumption); have q116 : x6_1 < (t111.length : Int) := of_decide_eq_true (by first | (with_reducible assumption) | assumption); obtain ⟨ad116, e116, hx116_0, hx116_1, hx116_2⟩ := at_T24 (Kd.R_reads' HO_5.out).2.2 x6_1 p116 q116; obtain rfl : ad114 = ad116 := (by injection e116); replace p116 := eq_true p116; replace q116 := eq_true q116) | ((with_reducible refine gate_callee (f := 17) rfl ?_); refine goesL_ (some 30) rfl rfl Try.func17 (by kernel_rfl) rfl #[.agg #[.int .i64 ((rd_T24 t111 x6_1).f0), .int .i64 ((rd_T24 t111 x6_1).f1), .int .i64 ((rd_T24 t111 x6_1).f2)]] rfl (by (try simp only [List.map_toArray, List.map_cons, List.map_nil]); first | done | rfl | (simp only [List.length_drop, List.length_take]; rfl)) ?_; (with_reducible refine (script_Size.calls ((rd_T24 t111 x6_1).f0) ((rd_T24 t111 x6_1).f1) ((rd_T24 t111 x6_1).f2) t117 _ A9.out).mono ?_); rintro e w20 ⟨rfl, hb⟩; refine ⟨_, rfl, ?_⟩; have n0_ := Aside0.mk (Kd.R_below (by (with_reducible repeat (first | apply Kd.R_alloc | apply Kd.R_drewN | apply Kd.R_drew)); exact HO_5.out) hb); have n1_ := Aside0.mk (below_step (by repeat (first | (with_reducible first | exact HB.out | apply below_alloc | apply pw_below_drewN | apply below_drew1) | exact HB.out)) hb); clear HO_5; clear HB; have HO_5 := n0_; have HB := n1_; clear n0_ n1_; (try clear hb); (try clear hb2); (try clear hk); (try clear hi); have p118 : 0 ≤ (x6_1 : Int) := of_decide_eq_true (by first | (with_reducible assumption) | assumption); have q118 : x6_1 < (t111.length : Int) := of_decide_eq_true (by first | (with_reducible assumption) | assumption); obtain ⟨ad118, e118, hx118_0, hx118_1, hx118_2⟩ := at_T24 (Kd.R_reads' HO_5.out).2.2 x6_1 p118 q118; obtain rfl : ad114 = ad118 := (by injection e118); replace p118 := eq_true p118; replace q118 := eq_true q118) | ((with_reducible refine gate_callee (f := 12) rfl ?_); refine goesL_ (some 36) rfl rfl Try.func12 (by kernel_rfl) rfl #[.int .i64 a0, .agg #[.int .i64 ((rd_T24 t111 x6_1).f0), .int .i64 ((rd_T24 t111 x6_1).f1), .int .i64 ((rd_T24 t111 x6_1).f2)]] rfl (by (try simp only [List.map_toArray, List.map_cons, List.map_nil]); first | done | rfl | (simp only [List.length_drop, List.length_take]; rfl)) ?_; (with_reducible refine (script_Is.calls a0 ((rd_T24 t111 x6_1).f0) ((rd_T24 t111 x6_1).f1) ((rd_T24 t111 x6_1).f2) true _ A10.out).mono ?_); rintro e w21 ⟨rfl, hb⟩; refine ⟨_, rfl, ?_⟩; have n0_ := Aside0.mk (Kd.R_below (by (with_reducible repeat (first | apply Kd.R_alloc | apply Kd.R_drewN | apply Kd.R_drew)); exact HO_5.out) hb); have n1_ := Aside0.mk (below_step (by repeat (first | (with_reducible first | exact HB.out | apply below_alloc | apply pw_below_drewN | apply below_drew1) | exact HB.out)) hb); clear HO_5; clear HB; have HO_5 := n0_; have HB := n1_; clear n0_ n1_; (try clear hb); (try clear hb2); (try clear hk); (try clear hi); have p120 : 0 ≤ (x6_1 : Int) := of_decide_eq_true (by first | (with_reducible assumption) | assumption); have q120 : x6_1 < (t111.length : Int) := of_decide_eq_true (by first | (with_reducible assumption) | assumption); obtain ⟨ad120, e120, hx120_0, hx120_1, hx120_2⟩ := at_T24 (Kd.R_reads' HO_5.out).2.2 x6_1 p120 q120; obtain rfl : ad114 = ad120 := (by injection e120); replace p120 := eq_true p120; replace q120 := eq_true q120; have p121 : 0 ≤ (x6_1 : Int) := of_decide_eq_true (by first | (with_reducible assumption) | assumption); have q121 : x6_1 < (t111.length : Int) := of_decide_eq_true (by first | (with_reducible assumption) | assumption); obtain ⟨ad121, e121, hx121_0, hx121_1, hx121_2⟩ := at_T24 (Kd.R_reads' HO_5.out).2.2 x6_1 p121 q121; obtain rfl : ad114 = ad121 := (by injection e121); replace p121 := eq_true p121; replace q121 := eq_true q121))
                          go_roundg k1
                          case measure => have := HK1.out; omega
                          case rel => exact ⟨(wrap64 (x6_1 + 1)), (by first | rfl | (simp; done) | (simp [*]; done)), H', ⟨by have := HK1.out; omega⟩, ⟨by (with_reducible repeat (first | apply Kd.R_alloc | apply Kd.R_drewN | apply Kd.R_drew)); exact HO_5.out⟩, ⟨by repeat (first | (with_reducible first | exact HB.out | apply below_alloc | apply pw_below_drewN | apply below_drew1) | exact HB.out)⟩⟩
                      · rw [if_neg c16] at H
                        have c16b0 : (t117 == 0) = false := beq_eq_false_iff_ne.mpr c16
                        have c16b1 : (t117 != 0) = true := bne_iff_ne.mpr c16
                        by_cases c22 : t117 < 64
                        · rw [if_pos c22] at H
                          have c22b0 : decide (t117 < 64) = true := decide_eq_true c22
                          clear c22
                          exact absurd ((Option.some.inj H).trans HT.out) (by decide)
                        · rw [if_neg c22] at H
                          have c22b0 : decide (t117 < 64) = false := decide_eq_false c22
                          clear c22
                          by_cases c23 : t117 > 8989
                          · rw [if_pos c23] at H
                            have c23b0 : decide (8989 < t117) = true := decide_eq_true c23
                            clear c23
                            exact absurd ((Option.some.inj H).trans HT.out) (by decide)
                          · rw [if_neg c23] at H
                            have c23b0 : decide (8989 < t117) = false := decide_eq_false c23
                            clear c23
                            have H' := Aside0.mk H
                            clear H
                            obtain ⟨Ao24, co24, eo24⟩ := Kd.R_slice HO_5.out
                            subst eo24
                            have p114 : 0 ≤ (x6_1 : Int) := of_decide_eq_true (by first | (with_reducible assumption) | assumption)
                            have q114 : x6_1 < (t111.length : Int) := of_decide_eq_true (by first | (with_reducible assumption) | assumption)
                            obtain ⟨ad114, e114, hx114_0, hx114_1, hx114_2⟩ := at_T24 (Kd.R_reads' HO_5.out).2.2 x6_1 p114 q114
                            cases e114
                            replace p114 := eq_true p114
                            replace q114 := eq_true q114
                            go_wp2_with (first | ((with_reducible refine gate_callee (f := 15) rfl ?_); refine goesL_ (some 25) rfl rfl Try.func15 (by kernel_rfl) rfl #[.agg #[.int .i64 ((rd_T24 t111 x6_1).f0), .int .i64 ((rd_T24 t111 x6_1).f1), .int .i64 ((rd_T24 t111 x6_1).f2)]] rfl (by (try simp only [List.map_toArray, List.map_cons, List.map_nil]); first | done | rfl | (simp only [List.length_drop, List.length_take]; rfl)) ?_; (with_reducible refine (script_Span.calls ((rd_T24 t111 x6_1).f0) ((rd_T24 t111 x6_1).f1) ((rd_T24 t111 x6_1).f2) t115 _ A8.out).mono ?_); rintro e w25 ⟨rfl, hb⟩; refine ⟨_, rfl, ?_⟩; have n0_ := Aside0.mk (Kd.R_below (by (with_reducible repeat (first | apply Kd.R_alloc | apply Kd.R_drewN | apply Kd.R_drew)); exact HO_5.out) hb); have n1_ := Aside0.mk (below_step (by repeat (first | (with_reducible first | exact HB.out | apply below_alloc | apply pw_below_drewN | apply below_drew1) | exact HB.out)) hb); clear HO_5; clear HB; have HO_5 := n0_; have HB := n1_; clear n0_ n1_; (try clear hb); (try clear hb2); (try clear hk); (try clear hi); have p116 : 0 ≤ (x6_1 : Int) := of_decide_eq_true (by first | (with_reducible assumption) | assumption); have q116 : x6_1 < (t111.length : Int) := of_decide_eq_true (by first | (with_reducible assumption) | assumption); obtain ⟨ad116, e116, hx116_0, hx116_1, hx116_2⟩ := at_T24 (Kd.R_reads' HO_5.out).2.2 x6_1 p116 q116; obtain rfl : ad114 = ad116 := (by injection e116); replace p116 := eq_true p116; replace q116 := eq_true q116) | ((with_reducible refine gate_callee (f := 17) rfl ?_); refine goesL_ (some 30) rfl rfl Try.func17 (by kernel_rfl) rfl #[.agg #[.int .i64 ((rd_T24 t111 x6_1).f0), .int .i64 ((rd_T24 t111 x6_1).f1), .int .i64 ((rd_T24 t111 x6_1).f2)]] rfl (by (try simp only [List.map_toArray, List.map_cons, List.map_nil]); first | done | rfl | (simp only [List.length_drop, List.length_take]; rfl)) ?_; (with_reducible refine (script_Size.calls ((rd_T24 t111 x6_1).f0) ((rd_T24 t111 x6_1).f1) ((rd_T24 t111 x6_1).f2) t117 _ A9.out).mono ?_); rintro e w26 ⟨rfl, hb⟩; refine ⟨_, rfl, ?_⟩; have n0_ := Aside0.mk (Kd.R_below (by (with_reducible repeat (first | apply Kd.R_alloc | apply Kd.R_drewN | apply Kd.R_drew)); exact HO_5.out) hb); have n1_ := Aside0.mk (below_step (by repeat (first | (with_reducible first | exact HB.out | apply below_alloc | apply pw_below_drewN | apply below_drew1) | exact HB.out)) hb); clear HO_5; clear HB; have HO_5 := n0_; have HB := n1_; clear n0_ n1_; (try clear hb); (try clear hb2); (try clear hk); (try clear hi); have p118 : 0 ≤ (x6_1 : Int) := of_decide_eq_true (by first | (with_reducible assumption) | assumption); have q118 : x6_1 < (t111.length : Int) := of_decide_eq_true (by first | (with_reducible assumption) | assumption); obtain ⟨ad118, e118, hx118_0, hx118_1, hx118_2⟩ := at_T24 (Kd.R_reads' HO_5.out).2.2 x6_1 p118 q118; obtain rfl : ad114 = ad118 := (by injection e118); replace p118 := eq_true p118; replace q118 := eq_true q118) | ((with_reducible refine gate_callee (f := 12) rfl ?_); refine goesL_ (some 36) rfl rfl Try.func12 (by kernel_rfl) rfl #[.int .i64 a0, .agg #[.int .i64 ((rd_T24 t111 x6_1).f0), .int .i64 ((rd_T24 t111 x6_1).f1), .int .i64 ((rd_T24 t111 x6_1).f2)]] rfl (by (try simp only [List.map_toArray, List.map_cons, List.map_nil]); first | done | rfl | (simp only [List.length_drop, List.length_take]; rfl)) ?_; (with_reducible refine (script_Is.calls a0 ((rd_T24 t111 x6_1).f0) ((rd_T24 t111 x6_1).f1) ((rd_T24 t111 x6_1).f2) true _ A10.out).mono ?_); rintro e w27 ⟨rfl, hb⟩; refine ⟨_, rfl, ?_⟩; have n0_ := Aside0.mk (Kd.R_below (by (with_reducible repeat (first | apply Kd.R_alloc | apply Kd.R_drewN | apply Kd.R_drew)); exact HO_5.out) hb); have n1_ := Aside0.mk (below_step (by repeat (first | (with_reducible first | exact HB.out | apply below_alloc | apply pw_below_drewN | apply below_drew1) | exact HB.out)) hb); clear HO_5; clear HB; have HO_5 := n0_; have HB := n1_; clear n0_ n1_; (try clear hb); (try clear hb2); (try clear hk); (try clear hi); have p120 : 0 ≤ (x6_1 : Int) := of_decide_eq_true (by first | (with_reducible assumption) | assumption); have q120 : x6_1 < (t111.length : Int) := of_decide_eq_true (by first | (with_reducible assumption) | assumption); obtain ⟨ad120, e120, hx120_0, hx120_1, hx120_2⟩ := at_T24 (Kd.R_reads' HO_5.out).2.2 x6_1 p120 q120; obtain rfl : ad114 = ad120 := (by injection e120); replace p120 := eq_true p120; replace q120 := eq_true q120; have p121 : 0 ≤ (x6_1 : Int) := of_decide_eq_true (by first | (with_reducible assumption) | assumption); have q121 : x6_1 < (t111.length : Int) := of_decide_eq_true (by first | (with_reducible assumption) | assumption); obtain ⟨ad121, e121, hx121_0, hx121_1, hx121_2⟩ := at_T24 (Kd.R_reads' HO_5.out).2.2 x6_1 p121 q121; obtain rfl : ad114 = ad121 := (by injection e121); replace p121 := eq_true p121; replace q121 := eq_true q121))
                            go_roundg k1
                            case measure => have := HK1.out; omega
                            case rel => exact ⟨(wrap64 (x6_1 + 1)), (by first | rfl | (simp; done) | (simp [*]; done)), H', ⟨by have := HK1.out; omega⟩, ⟨by (with_reducible repeat (first | apply Kd.R_alloc | apply Kd.R_drewN | apply Kd.R_drew)); exact HO_5.out⟩, ⟨by repeat (first | (with_reducible first | exact HB.out | apply below_alloc | apply pw_below_drewN | apply below_drew1) | exact HB.out)⟩⟩
            · replace c11 := Bool.eq_false_iff.mpr c11
              subst c11
              have H1 : (some false) = some r := by rw [if_neg (show ¬ (false = true) by decide)] at H; exact H
              clear H
              have H := H1
              clear H1
              exact absurd ((Option.some.inj H).trans HT.out) (by decide)
          · rw [if_neg c7] at H
            exact absurd H (by simp)
        · rw [if_neg c6] at H
          have c6b0 : decide (x6_1 < (t111.length : Int)) = false := decide_eq_false c6
          clear c6
          replace H := Option.bind_eq_some_iff.mp H
          obtain ⟨t122, A280, H⟩ := H
          replace H : (if t122 = true then (some ((t111.length : Int) == (wrap64 (Int.tdiv (wrap64 ((a1.size : Int) + 2)) 3)))) else (some false)) = some r := H
          have A28 := Aside0.mk A280
          clear A280
          by_cases c29 : t122 = true
          · subst c29
            have H1 : (some ((t111.length : Int) == (wrap64 (Int.tdiv (wrap64 ((a1.size : Int) + 2)) 3)))) = some r := by rw [if_pos rfl] at H; exact H
            clear H
            have H := H1
            clear H1
            obtain rfl := Option.some.inj H
            obtain ⟨Ao30, co30, eo30⟩ := Kd.R_slice HO_5.out
            subst eo30
            go_wp2_with (first | ((with_reducible refine gate_callee (f := 14) rfl ?_); refine goesL_ (some 80) rfl rfl Try.func14 (by kernel_rfl) rfl #[] rfl (by (try simp only [List.map_toArray, List.map_cons, List.map_nil]); first | done | rfl | (simp only [List.length_drop, List.length_take]; rfl)) ?_; (with_reducible refine (pacemakerlaw30_scripted.calls  true _ A28.out).mono ?_); rintro e w31 ⟨rfl, hb⟩; refine ⟨_, rfl, ?_⟩; have n0_ := Aside0.mk (Kd.R_below (by (with_reducible repeat (first | apply Kd.R_alloc | apply Kd.R_drewN | apply Kd.R_drew)); exact HO_5.out) hb); have n1_ := Aside0.mk (below_step (by repeat (first | (with_reducible first | exact HB.out | apply below_alloc | apply pw_below_drewN | apply below_drew1) | exact HB.out)) hb); clear HO_5; clear HB; have HO_5 := n0_; have HB := n1_; clear n0_ n1_; (try clear hb); (try clear hb2); (try clear hk); (try clear hi)))
            go_ret
            exact ⟨by first | rfl | (simp [errW_none, errW_some] <;> rfl) | (simp [*, errW_none, errW_some] <;> rfl), by repeat (first | (with_reducible first | exact HB.out | apply below_alloc | apply pw_below_drewN | apply below_drew1) | exact HB.out)⟩
          · replace c29 := Bool.eq_false_iff.mpr c29
            subst c29
            have H1 : (some false) = some r := by rw [if_neg (show ¬ (false = true) by decide)] at H; exact H
            clear H
            have H := H1
            clear H1
            exact absurd ((Option.some.inj H).trans HT.out) (by decide)

end Go.Proofs.Ytlnjehknkkfpcaa.P
