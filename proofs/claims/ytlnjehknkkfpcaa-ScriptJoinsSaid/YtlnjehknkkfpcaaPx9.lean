-- Printed by wip/tools/myprint.py (this session's driver over the kit's printer, with functions proved by hand). Not trusted: Lean checks it.
import Derived.Test.YtlnjehknkkfpcaaPx0
import Derived.Test.YtlnjehknkkfpcaaPx3
import Derived.Test.YtlnjehknkkfpcaaPx4
import Derived.Test.YtlnjehknkkfpcaaPx5
import Derived.Test.YtlnjehknkkfpcaaPx7
namespace Go.Proofs.Ytlnjehknkkfpcaa.P
open Go.RowKit Go.Proofs.YtlnjehknkkfpcaaW.PrintWords Go.Proofs.YtlnjehknkkfpcaaW.PrintLast Go.Proofs.YtlnjehknkkfpcaaW.PrintMore
attribute [local go_sem] max2_int min2_int max_two min_two max_three min_three max_four min_four   -- for this text's walks alone
attribute [local go_sem] Go.Proofs.YtlnjehknkkfpcaaS.cell_set_map Go.Proofs.YtlnjehknkkfpcaaS.setCell_drewN
set_option linter.unusedVariables false
set_option linter.unusedSimpArgs false

/-! ### pacemakerlaw30_ScriptBack: function 5 -/
def pacemakerlaw30_ScriptBack.l0 : Nat → Int → List (S24) → ByteArray → Bool → Int → Option (Bool)
  | 0, _, _, _, _, _ => none
  | k + 1, x0, x1, x2, x7, x8 => if x8 < (x1.length : Int) then (if x7 = true then (if 0 ≤ x8 then ((script_Is.f x0 ((rd_T24 x1 x8).f0) ((rd_T24 x1 x8).f1) ((rd_T24 x1 x8).f2)).bind fun t124 => (pacemakerlaw30_ScriptBack.l0 k x0 x1 x2 t124 (wrap64 (x8 + 1)))) else (none)) else (pacemakerlaw30_ScriptBack.l0 k x0 x1 x2 false (wrap64 (x8 + 1)))) else ((script_Encode.f x1).bind fun bt125 => (if x7 = true then (if bt125.2 = 0 then ((script_Decode.f x0 bt125.1).bind fun t127 => ((pacemakerref30_Same.f k t127 x1).bind fun t130 => (if t130 = true then (if (bt125.1.size : Int) = (wrap64 (3 * (x1.length : Int))) then ((script_Decode.f x0 x2).bind fun t131 => ((script_Encode.f t131).bind fun bt134 => ((pacemakerlaw30_scripted.f).bind fun t136 => (if t136 = true then (if bt134.2 = 0 then ((script_Decode.f x0 bt134.1).bind fun t137 => ((pacemakerref30_Same.f k t137 t131).bind fun t140 => (if t140 = true then (some true) else (some false)))) else (some false)) else (some false))))) else (some false)) else (some false)))) else (some false)) else ((script_Decode.f x0 x2).bind fun t141 => ((script_Encode.f t141).bind fun bt144 => ((pacemakerlaw30_scripted.f).bind fun t146 => (if t146 = true then (if bt144.2 = 0 then ((script_Decode.f x0 bt144.1).bind fun t147 => ((pacemakerref30_Same.f k t147 t141).bind fun t150 => (if t150 = true then (if bt125.2 = 0 then (some true) else (some (bt125.1.toList == ([] : List UInt8)))) else (some false)))) else (some false)) else (some false)))))))
def pacemakerlaw30_ScriptBack.f (k : Nat) (a0 : Int) (l1 : List (S24)) (a2 : ByteArray) : Option (Bool) := if (a2.size : Int) > 2000 then (some true) else (if (l1.length : Int) > 1000 then (some true) else (pacemakerlaw30_ScriptBack.l0 k a0 l1 a2 true 0))
theorem pacemakerlaw30_ScriptBack.mono_l : ∀ k, (∀ y0 y1 y2 y3 y4, LeO (pacemakerlaw30_ScriptBack.l0 k y0 y1 y2 y3 y4) (pacemakerlaw30_ScriptBack.l0 (k + 1) y0 y1 y2 y3 y4))
  | 0 => fun _ _ _ _ _ r h => by simp [pacemakerlaw30_ScriptBack.l0] at h
  | k + 1 => by
    have ih0 := pacemakerlaw30_ScriptBack.mono_l k
    · intro y0 y1 y2 y3 y4
      unfold pacemakerlaw30_ScriptBack.l0
      repeat' first
      | (with_reducible exact ih0 _ _ _ _ _)
      | (with_reducible exact pacemakerref30_Same.mono _ _ _)
      | (with_reducible exact LeO.refl _)
      | (with_reducible exact LeO.none _)
      | (with_reducible refine LeO.ite ?_ ?_)
      | (with_reducible refine LeO.bind ?_ (fun _ => ?_))
      | exact ih0 _ _ _ _ _
      | exact pacemakerref30_Same.mono _ _ _
      | exact LeO.none _
      | refine LeO.ite ?_ ?_
      | refine LeO.bind ?_ (fun _ => ?_)
theorem pacemakerlaw30_ScriptBack.mono : ∀ a0 a1 a2 k, LeO (pacemakerlaw30_ScriptBack.f k a0 a1 a2) (pacemakerlaw30_ScriptBack.f (k + 1) a0 a1 a2) := by
  intro a0 a1 a2 k
  have ih0 := pacemakerlaw30_ScriptBack.mono_l k
  unfold pacemakerlaw30_ScriptBack.f
  repeat' first
      | (with_reducible exact ih0 _ _ _ _ _)
      | (with_reducible exact pacemakerref30_Same.mono _ _ _)
      | (with_reducible exact LeO.refl _)
      | (with_reducible exact LeO.none _)
      | (with_reducible refine LeO.ite ?_ ?_)
      | (with_reducible refine LeO.bind ?_ (fun _ => ?_))
      | exact ih0 _ _ _ _ _
      | exact pacemakerref30_Same.mono _ _ _
      | exact LeO.none _
      | refine LeO.ite ?_ ?_
      | refine LeO.bind ?_ (fun _ => ?_)
set_option maxHeartbeats 8000000 in
set_option maxRecDepth 100000 in
theorem pacemakerlaw30_ScriptBack.calls (k : Nat) (a0 : Int) (A1 : Option Addr) (c1 : Nat) (l1 : List (S24)) (a2 : ByteArray) (r : Bool) (w : World) (hr1 : Kd.C k24 w A1 l1.length l1) (hc1 : l1.length ≤ c1) (HT : Aside0 (r = true)) (h : pacemakerlaw30_ScriptBack.f k a0 l1 a2 = some r) :
    Calls Try.prog 5 #[.int .i64 a0, .slice A1 l1.length c1, .string a2] w fun e w' => e = .returned (.bool r) ∧ Below w.heap.size w w' := by
  have hu24 := Try.underlying24
  have HR1 := Aside0.mk hr1
  have HC1 := Aside0.mk hc1
  clear hr1 hc1
  have HB := Aside0.mk (Below.refl w.heap.size w)
  have H : (if (a2.size : Int) > 2000 then (some true) else (if (l1.length : Int) > 1000 then (some true) else (pacemakerlaw30_ScriptBack.l0 k a0 l1 a2 true 0))) = some r := h
  clear h
  by_cases c4 : (a2.size : Int) > 2000
  · rw [if_pos c4] at H
    have c4b0 : decide (2000 < (a2.size : Int)) = true := decide_eq_true c4
    have c4b1 : decide (2000 < a2.size) = true := decide_eq_true (by omega)
    clear c4
    obtain rfl := Option.some.inj H
    go_enter Try.func5, Try.ntmps5
    go_wp2
    go_ret
    exact ⟨by first | rfl | (simp [errW_none, errW_some] <;> rfl) | (simp [*, errW_none, errW_some] <;> rfl), by repeat (first | (with_reducible first | exact HB.out | apply below_alloc | apply pw_below_drewN | apply below_drew1) | exact HB.out)⟩
  · rw [if_neg c4] at H
    have c4b0 : decide (2000 < (a2.size : Int)) = false := decide_eq_false c4
    have c4b1 : decide (2000 < a2.size) = false := decide_eq_false (by omega)
    clear c4
    by_cases c5 : (l1.length : Int) > 1000
    · rw [if_pos c5] at H
      have c5b0 : decide (1000 < (l1.length : Int)) = true := decide_eq_true c5
      have c5b1 : decide (1000 < l1.length) = true := decide_eq_true (by omega)
      clear c5
      obtain rfl := Option.some.inj H
      go_enter Try.func5, Try.ntmps5
      go_wp2
      go_ret
      exact ⟨by first | rfl | (simp [errW_none, errW_some] <;> rfl) | (simp [*, errW_none, errW_some] <;> rfl), by repeat (first | (with_reducible first | exact HB.out | apply below_alloc | apply pw_below_drewN | apply below_drew1) | exact HB.out)⟩
    · rw [if_neg c5] at H
      have c5b0 : decide (1000 < (l1.length : Int)) = false := decide_eq_false c5
      have c5b1 : decide (1000 < l1.length) = false := decide_eq_false (by omega)
      clear c5
      have H' := Aside0.mk H
      clear H
      go_enter Try.func5, Try.ntmps5
      go_wp2
      go_loopg [7, 8] k (fun kq v7 v8 w' => ∃ (x7_1 : Bool) (x8_1 : Int), v7 = .bool x7_1 ∧ v8 = .int .i64 x8_1 ∧ Aside0 (pacemakerlaw30_ScriptBack.l0 kq a0 l1 a2 x7_1 x8_1 = some r) ∧ Aside0 (kq ≤ k) ∧ Aside0 (Below w.heap.size w w'))
      case atStart => exact ⟨(true), (0), (by first | rfl | (simp; done) | (simp [*]; done)), (by first | rfl | (simp; done) | (simp [*]; done)), H', ⟨Nat.le_refl _⟩, ⟨by repeat (first | (with_reducible first | exact HB.out | apply below_alloc | apply pw_below_drewN | apply below_drew1) | exact HB.out)⟩⟩
      case round =>
        clear H'
        try clear c1
        try clear p2
        try clear c4
        try clear c4b0
        try clear c4b1
        try clear c5
        try clear c5b0
        try clear c5b1
        obtain ⟨x7_1, x8_1, rfl, rfl, HA, HK1, HB⟩ := hrel
        cases gk with
        | zero => exact absurd HA.out (by simp [pacemakerlaw30_ScriptBack.l0])
        | succ k1 =>
          have H := HA.out
          clear HA
          simp only [pacemakerlaw30_ScriptBack.l0] at H
          by_cases c6 : x8_1 < (l1.length : Int)
          · rw [if_pos c6] at H
            have c6b0 : decide (x8_1 < (l1.length : Int)) = true := decide_eq_true c6
            clear c6
            by_cases c7 : x7_1 = true
            · subst c7
              have H1 : (if 0 ≤ x8_1 then ((script_Is.f a0 ((rd_T24 l1 x8_1).f0) ((rd_T24 l1 x8_1).f1) ((rd_T24 l1 x8_1).f2)).bind fun t124 => (pacemakerlaw30_ScriptBack.l0 k1 a0 l1 a2 t124 (wrap64 (x8_1 + 1)))) else (none)) = some r := by rw [if_pos rfl] at H; exact H
              clear H
              have H := H1
              clear H1
              by_cases c8 : 0 ≤ x8_1
              · rw [if_pos c8] at H
                have c8b0 : decide (0 ≤ x8_1) = true := decide_eq_true c8
                clear c8
                replace H := Option.bind_eq_some_iff.mp H
                obtain ⟨t124, A90, H⟩ := H
                replace H : (pacemakerlaw30_ScriptBack.l0 k1 a0 l1 a2 t124 (wrap64 (x8_1 + 1))) = some r := H
                have A9 := Aside0.mk A90
                clear A90
                have H' := Aside0.mk H
                clear H
                have p123 : 0 ≤ (x8_1 : Int) := of_decide_eq_true (by first | (with_reducible assumption) | assumption)
                have q123 : x8_1 < (l1.length : Int) := of_decide_eq_true (by first | (with_reducible assumption) | assumption)
                obtain ⟨ad123, e123, hx123_0, hx123_1, hx123_2⟩ := at_T24 HR1.out x8_1 p123 q123
                cases e123
                replace hx123_0 := (HB.out.cell (World.block_lt_of_cell? w _ hx123_0)).trans hx123_0
                replace hx123_1 := (HB.out.cell (World.block_lt_of_cell? w _ hx123_1)).trans hx123_1
                replace hx123_2 := (HB.out.cell (World.block_lt_of_cell? w _ hx123_2)).trans hx123_2
                replace p123 := eq_true p123
                replace q123 := eq_true q123
                go_wp2_with (first | (go_at_call 12; (with_reducible refine (script_Is.calls a0 ((rd_T24 l1 x8_1).f0) ((rd_T24 l1 x8_1).f1) ((rd_T24 l1 x8_1).f2) t124 _ A9.out).mono ?_); rintro e w10 ⟨rfl, hb⟩; have n0_ := Aside0.mk (below_step (by repeat (first | (with_reducible first | exact HB.out | apply below_alloc | apply pw_below_drewN | apply below_drew1) | exact HB.out)) hb); clear HB; have HB := n0_; clear n0_; (try clear hb); (try clear hb2); (try clear hk); (try clear hi)))
                go_roundg k1
                case measure => have := HK1.out; omega
                case rel => exact ⟨(t124), (wrap64 (x8_1 + 1)), (by first | rfl | (simp; done) | (simp [*]; done)), (by first | rfl | (simp; done) | (simp [*]; done)), H', ⟨by have := HK1.out; omega⟩, ⟨by repeat (first | (with_reducible first | exact HB.out | apply below_alloc | apply pw_below_drewN | apply below_drew1) | exact HB.out)⟩⟩
              · rw [if_neg c8] at H
                exact absurd H (by simp)
            · replace c7 := Bool.eq_false_iff.mpr c7
              subst c7
              have H1 : (pacemakerlaw30_ScriptBack.l0 k1 a0 l1 a2 false (wrap64 (x8_1 + 1))) = some r := by rw [if_neg (show ¬ (false = true) by decide)] at H; exact H
              clear H
              have H := H1
              clear H1
              have H' := Aside0.mk H
              clear H
              go_wp2
              go_roundg k1
              case measure => have := HK1.out; omega
              case rel => exact ⟨(false), (wrap64 (x8_1 + 1)), (by first | rfl | (simp; done) | (simp [*]; done)), (by first | rfl | (simp; done) | (simp [*]; done)), H', ⟨by have := HK1.out; omega⟩, ⟨by repeat (first | (with_reducible first | exact HB.out | apply below_alloc | apply pw_below_drewN | apply below_drew1) | exact HB.out)⟩⟩
          · rw [if_neg c6] at H
            have c6b0 : decide (x8_1 < (l1.length : Int)) = false := decide_eq_false c6
            clear c6
            replace H := Option.bind_eq_some_iff.mp H
            obtain ⟨⟨t125, t126⟩, A110, H⟩ := H
            replace H : (if x7_1 = true then (if t126 = 0 then ((script_Decode.f a0 t125).bind fun t127 => ((pacemakerref30_Same.f k1 t127 l1).bind fun t130 => (if t130 = true then (if (t125.size : Int) = (wrap64 (3 * (l1.length : Int))) then ((script_Decode.f a0 a2).bind fun t131 => ((script_Encode.f t131).bind fun bt134 => ((pacemakerlaw30_scripted.f).bind fun t136 => (if t136 = true then (if bt134.2 = 0 then ((script_Decode.f a0 bt134.1).bind fun t137 => ((pacemakerref30_Same.f k1 t137 t131).bind fun t140 => (if t140 = true then (some true) else (some false)))) else (some false)) else (some false))))) else (some false)) else (some false)))) else (some false)) else ((script_Decode.f a0 a2).bind fun t141 => ((script_Encode.f t141).bind fun bt144 => ((pacemakerlaw30_scripted.f).bind fun t146 => (if t146 = true then (if bt144.2 = 0 then ((script_Decode.f a0 bt144.1).bind fun t147 => ((pacemakerref30_Same.f k1 t147 t141).bind fun t150 => (if t150 = true then (if t126 = 0 then (some true) else (some (t125.toList == ([] : List UInt8)))) else (some false)))) else (some false)) else (some false)))))) = some r := H
            have A11 := Aside0.mk A110
            clear A110
            by_cases c12 : x7_1 = true
            · subst c12
              have H1 : (if t126 = 0 then ((script_Decode.f a0 t125).bind fun t127 => ((pacemakerref30_Same.f k1 t127 l1).bind fun t130 => (if t130 = true then (if (t125.size : Int) = (wrap64 (3 * (l1.length : Int))) then ((script_Decode.f a0 a2).bind fun t131 => ((script_Encode.f t131).bind fun bt134 => ((pacemakerlaw30_scripted.f).bind fun t136 => (if t136 = true then (if bt134.2 = 0 then ((script_Decode.f a0 bt134.1).bind fun t137 => ((pacemakerref30_Same.f k1 t137 t131).bind fun t140 => (if t140 = true then (some true) else (some false)))) else (some false)) else (some false))))) else (some false)) else (some false)))) else (some false)) = some r := by rw [if_pos rfl] at H; exact H
              clear H
              have H := H1
              clear H1
              by_cases c13 : t126 = 0
              · rw [if_pos c13] at H
                have c13b0 : (t126 == 0) = true := beq_iff_eq.mpr c13
                have c13b1 : (t126 != 0) = false := bne_eq_false_iff_eq.mpr c13
                clear c13
                replace H := Option.bind_eq_some_iff.mp H
                obtain ⟨t127, A140, H⟩ := H
                replace H : ((pacemakerref30_Same.f k1 t127 l1).bind fun t130 => (if t130 = true then (if (t125.size : Int) = (wrap64 (3 * (l1.length : Int))) then ((script_Decode.f a0 a2).bind fun t131 => ((script_Encode.f t131).bind fun bt134 => ((pacemakerlaw30_scripted.f).bind fun t136 => (if t136 = true then (if bt134.2 = 0 then ((script_Decode.f a0 bt134.1).bind fun t137 => ((pacemakerref30_Same.f k1 t137 t131).bind fun t140 => (if t140 = true then (some true) else (some false)))) else (some false)) else (some false))))) else (some false)) else (some false))) = some r := H
                have A14 := Aside0.mk A140
                clear A140
                replace H := Option.bind_eq_some_iff.mp H
                obtain ⟨t130, A150, H⟩ := H
                replace H : (if t130 = true then (if (t125.size : Int) = (wrap64 (3 * (l1.length : Int))) then ((script_Decode.f a0 a2).bind fun t131 => ((script_Encode.f t131).bind fun bt134 => ((pacemakerlaw30_scripted.f).bind fun t136 => (if t136 = true then (if bt134.2 = 0 then ((script_Decode.f a0 bt134.1).bind fun t137 => ((pacemakerref30_Same.f k1 t137 t131).bind fun t140 => (if t140 = true then (some true) else (some false)))) else (some false)) else (some false))))) else (some false)) else (some false)) = some r := H
                have A15 := Aside0.mk A150
                clear A150
                by_cases c16 : t130 = true
                · subst c16
                  have H1 : (if (t125.size : Int) = (wrap64 (3 * (l1.length : Int))) then ((script_Decode.f a0 a2).bind fun t131 => ((script_Encode.f t131).bind fun bt134 => ((pacemakerlaw30_scripted.f).bind fun t136 => (if t136 = true then (if bt134.2 = 0 then ((script_Decode.f a0 bt134.1).bind fun t137 => ((pacemakerref30_Same.f k1 t137 t131).bind fun t140 => (if t140 = true then (some true) else (some false)))) else (some false)) else (some false))))) else (some false)) = some r := by rw [if_pos rfl] at H; exact H
                  clear H
                  have H := H1
                  clear H1
                  by_cases c17 : (t125.size : Int) = (wrap64 (3 * (l1.length : Int)))
                  · rw [if_pos c17] at H
                    have c17b0 : ((t125.size : Int) == (wrap64 (3 * (l1.length : Int)))) = true := beq_iff_eq.mpr c17
                    have c17b1 : ((t125.size : Int) != (wrap64 (3 * (l1.length : Int)))) = false := bne_eq_false_iff_eq.mpr c17
                    clear c17
                    replace H := Option.bind_eq_some_iff.mp H
                    obtain ⟨t131, A180, H⟩ := H
                    replace H : ((script_Encode.f t131).bind fun bt134 => ((pacemakerlaw30_scripted.f).bind fun t136 => (if t136 = true then (if bt134.2 = 0 then ((script_Decode.f a0 bt134.1).bind fun t137 => ((pacemakerref30_Same.f k1 t137 t131).bind fun t140 => (if t140 = true then (some true) else (some false)))) else (some false)) else (some false)))) = some r := H
                    have A18 := Aside0.mk A180
                    clear A180
                    replace H := Option.bind_eq_some_iff.mp H
                    obtain ⟨⟨t134, t135⟩, A190, H⟩ := H
                    replace H : ((pacemakerlaw30_scripted.f).bind fun t136 => (if t136 = true then (if t135 = 0 then ((script_Decode.f a0 t134).bind fun t137 => ((pacemakerref30_Same.f k1 t137 t131).bind fun t140 => (if t140 = true then (some true) else (some false)))) else (some false)) else (some false))) = some r := H
                    have A19 := Aside0.mk A190
                    clear A190
                    replace H := Option.bind_eq_some_iff.mp H
                    obtain ⟨t136, A200, H⟩ := H
                    replace H : (if t136 = true then (if t135 = 0 then ((script_Decode.f a0 t134).bind fun t137 => ((pacemakerref30_Same.f k1 t137 t131).bind fun t140 => (if t140 = true then (some true) else (some false)))) else (some false)) else (some false)) = some r := H
                    have A20 := Aside0.mk A200
                    clear A200
                    by_cases c21 : t136 = true
                    · subst c21
                      have H1 : (if t135 = 0 then ((script_Decode.f a0 t134).bind fun t137 => ((pacemakerref30_Same.f k1 t137 t131).bind fun t140 => (if t140 = true then (some true) else (some false)))) else (some false)) = some r := by rw [if_pos rfl] at H; exact H
                      clear H
                      have H := H1
                      clear H1
                      by_cases c22 : t135 = 0
                      · rw [if_pos c22] at H
                        have c22b0 : (t135 == 0) = true := beq_iff_eq.mpr c22
                        have c22b1 : (t135 != 0) = false := bne_eq_false_iff_eq.mpr c22
                        clear c22
                        replace H := Option.bind_eq_some_iff.mp H
                        obtain ⟨t137, A230, H⟩ := H
                        replace H : ((pacemakerref30_Same.f k1 t137 t131).bind fun t140 => (if t140 = true then (some true) else (some false))) = some r := H
                        have A23 := Aside0.mk A230
                        clear A230
                        replace H := Option.bind_eq_some_iff.mp H
                        obtain ⟨t140, A240, H⟩ := H
                        replace H : (if t140 = true then (some true) else (some false)) = some r := H
                        have A24 := Aside0.mk A240
                        clear A240
                        by_cases c25 : t140 = true
                        · subst c25
                          have H1 : (some true) = some r := by rw [if_pos rfl] at H; exact H
                          clear H
                          have H := H1
                          clear H1
                          obtain rfl := Option.some.inj H
                          go_wp2_with (first | ((with_reducible refine gate_callee (f := 7) rfl ?_); refine goesL_ (some 39) rfl rfl Try.func7 (by kernel_rfl) rfl #[.slice A1 l1.length c1] rfl (by (try simp only [List.map_toArray, List.map_cons, List.map_nil]); first | done | rfl | (simp only [List.length_drop, List.length_take]; rfl)) ?_; (with_reducible refine (script_Encode.calls _ _ l1 t125 t126 _ ?side1 ?side2 A11.out).mono ?_); (case side1 => repeat (first | exact (Kd.C_below HR1.out HB.out) | (with_reducible refine Kd.C_alloc ?_ _) | (with_reducible refine Kd.C_drewN ?_ _) | (with_reducible refine Kd.C_drew ?_))); (case side2 => exact HC1.out); rintro e w26 ⟨rfl, hb⟩; refine ⟨_, rfl, ?_⟩; have n0_ := Aside0.mk (below_step (by repeat (first | (with_reducible first | exact HB.out | apply below_alloc | apply pw_below_drewN | apply below_drew1) | exact HB.out)) hb); clear HB; have HB := n0_; clear n0_; (try clear hb); (try clear hb2); (try clear hk); (try clear hi)) | (go_at_call 10; (with_reducible refine (script_Decode.calls a0 t125 t127 _ A14.out).mono ?_); rintro e w27 ⟨v128, rfl, ho0, hb⟩; have n0_ := Aside0.mk (Kd.R_lower ho0 (below_size (by repeat (first | (with_reducible first | exact HB.out | apply below_alloc | apply pw_below_drewN | apply below_drew1) | exact HB.out)))); have n1_ := Aside0.mk (below_step (by repeat (first | (with_reducible first | exact HB.out | apply below_alloc | apply pw_below_drewN | apply below_drew1) | exact HB.out)) hb); clear HB; have HO129 := n0_; have HB := n1_; clear n0_ n1_; (try clear hb); (try clear hb2); (try clear hk); (try clear hi); (try clear ho0); obtain ⟨Ao28, co28, eo28⟩ := Kd.R_slice HO129.out; subst eo28) | (go_at_call 9; (with_reducible refine (pacemakerref30_Same.calls k1 _ _ t127 _ _ l1 true _ ?side1 ?side2 ?side3 ?side4 A15.out).mono ?_); (case side1 => repeat (first | exact (Kd.R_reads' HO129.out).2.2 | (with_reducible refine Kd.C_alloc ?_ _) | (with_reducible refine Kd.C_drewN ?_ _) | (with_reducible refine Kd.C_drew ?_))); (case side2 => exact (Kd.R_reads' HO129.out).2.1); (case side3 => repeat (first | exact (Kd.C_below HR1.out HB.out) | (with_reducible refine Kd.C_alloc ?_ _) | (with_reducible refine Kd.C_drewN ?_ _) | (with_reducible refine Kd.C_drew ?_))); (case side4 => exact HC1.out); rintro e w' ⟨rfl, ⟨nd, rfl⟩⟩) | ((with_reducible refine gate_callee (f := 10) rfl ?_); refine goesL_ (some 65) rfl rfl Try.func10 (by kernel_rfl) rfl #[.int .i64 a0, .string a2] rfl (by (try simp only [List.map_toArray, List.map_cons, List.map_nil]); first | done | rfl | (simp only [List.length_drop, List.length_take]; rfl)) ?_; (with_reducible refine (script_Decode.calls a0 a2 t131 _ A18.out).mono ?_); rintro e w29 ⟨v132, rfl, ho0, hb⟩; refine ⟨_, rfl, ?_⟩; have n0_ := Aside0.mk (Kd.R_elder' (by (with_reducible repeat (first | apply Kd.R_alloc | apply Kd.R_drewN | apply Kd.R_drew)); exact HO129.out) (Kd.R_base ho0) hb); have n1_ := Aside0.mk (Kd.R_lower (Kd.R_new' ho0 (Kd.R_lt (by (with_reducible repeat (first | apply Kd.R_alloc | apply Kd.R_drewN | apply Kd.R_drew)); exact HO129.out))) (below_size (by repeat (first | (with_reducible first | exact HB.out | apply below_alloc | apply pw_below_drewN | apply below_drew1) | exact HB.out)))); have n2_ := Aside0.mk (below_step (by repeat (first | (with_reducible first | exact HB.out | apply below_alloc | apply pw_below_drewN | apply below_drew1) | exact HB.out)) hb); clear HO129; clear HB; have HO129 := n0_; have HO133 := n1_; have HB := n2_; clear n0_ n1_ n2_; (try clear hb); (try clear hb2); (try clear hk); (try clear hi); (try clear ho0); obtain ⟨Ao30, co30, eo30⟩ := Kd.R_slice HO133.out; subst eo30) | ((with_reducible refine gate_callee (f := 7) rfl ?_); refine goesL_ (some 68) rfl rfl Try.func7 (by kernel_rfl) rfl #[.slice Ao30 t131.length co30] rfl (by (try simp only [List.map_toArray, List.map_cons, List.map_nil]); first | done | rfl | (simp only [List.length_drop, List.length_take]; rfl)) ?_; (with_reducible refine (script_Encode.calls _ _ t131 t134 t135 _ ?side1 ?side2 A19.out).mono ?_); (case side1 => repeat (first | exact (Kd.R_reads' HO133.out).2.2 | (with_reducible refine Kd.C_alloc ?_ _) | (with_reducible refine Kd.C_drewN ?_ _) | (with_reducible refine Kd.C_drew ?_))); (case side2 => exact (Kd.R_reads' HO133.out).2.1); rintro e w31 ⟨rfl, hb⟩; refine ⟨_, rfl, ?_⟩; have n0_ := Aside0.mk (Kd.R_below (by (with_reducible repeat (first | apply Kd.R_alloc | apply Kd.R_drewN | apply Kd.R_drew)); exact HO129.out) hb); have n1_ := Aside0.mk (Kd.R_below (by (with_reducible repeat (first | apply Kd.R_alloc | apply Kd.R_drewN | apply Kd.R_drew)); exact HO133.out) hb); have n2_ := Aside0.mk (below_step (by repeat (first | (with_reducible first | exact HB.out | apply below_alloc | apply pw_below_drewN | apply below_drew1) | exact HB.out)) hb); clear HO129; clear HO133; clear HB; have HO129 := n0_; have HO133 := n1_; have HB := n2_; clear n0_ n1_ n2_; (try clear hb); (try clear hb2); (try clear hk); (try clear hi)) | ((with_reducible refine gate_callee (f := 14) rfl ?_); refine goesL_ (some 71) rfl rfl Try.func14 (by kernel_rfl) rfl #[] rfl (by (try simp only [List.map_toArray, List.map_cons, List.map_nil]); first | done | rfl | (simp only [List.length_drop, List.length_take]; rfl)) ?_; (with_reducible refine (pacemakerlaw30_scripted.calls  true _ A20.out).mono ?_); rintro e w32 ⟨rfl, hb⟩; refine ⟨_, rfl, ?_⟩; have n0_ := Aside0.mk (Kd.R_below (by (with_reducible repeat (first | apply Kd.R_alloc | apply Kd.R_drewN | apply Kd.R_drew)); exact HO129.out) hb); have n1_ := Aside0.mk (Kd.R_below (by (with_reducible repeat (first | apply Kd.R_alloc | apply Kd.R_drewN | apply Kd.R_drew)); exact HO133.out) hb); have n2_ := Aside0.mk (below_step (by repeat (first | (with_reducible first | exact HB.out | apply below_alloc | apply pw_below_drewN | apply below_drew1) | exact HB.out)) hb); clear HO129; clear HO133; clear HB; have HO129 := n0_; have HO133 := n1_; have HB := n2_; clear n0_ n1_ n2_; (try clear hb); (try clear hb2); (try clear hk); (try clear hi)) | (go_at_call 10; (with_reducible refine (script_Decode.calls a0 t134 t137 _ A23.out).mono ?_); rintro e w33 ⟨v138, rfl, ho0, hb⟩; have n0_ := Aside0.mk (Kd.R_elder' (by (with_reducible repeat (first | apply Kd.R_alloc | apply Kd.R_drewN | apply Kd.R_drew)); exact HO129.out) (Kd.R_base ho0) hb); have n1_ := Aside0.mk (Kd.R_elder' (by (with_reducible repeat (first | apply Kd.R_alloc | apply Kd.R_drewN | apply Kd.R_drew)); exact HO133.out) (Kd.R_base ho0) hb); have n2_ := Aside0.mk (Kd.R_lower (Kd.R_new' (Kd.R_new' ho0 (Kd.R_lt (by (with_reducible repeat (first | apply Kd.R_alloc | apply Kd.R_drewN | apply Kd.R_drew)); exact HO129.out))) (Kd.R_lt (by (with_reducible repeat (first | apply Kd.R_alloc | apply Kd.R_drewN | apply Kd.R_drew)); exact HO133.out))) (below_size (by repeat (first | (with_reducible first | exact HB.out | apply below_alloc | apply pw_below_drewN | apply below_drew1) | exact HB.out)))); have n3_ := Aside0.mk (below_step (by repeat (first | (with_reducible first | exact HB.out | apply below_alloc | apply pw_below_drewN | apply below_drew1) | exact HB.out)) hb); clear HO129; clear HO133; clear HB; have HO129 := n0_; have HO133 := n1_; have HO139 := n2_; have HB := n3_; clear n0_ n1_ n2_ n3_; (try clear hb); (try clear hb2); (try clear hk); (try clear hi); (try clear ho0); obtain ⟨Ao34, co34, eo34⟩ := Kd.R_slice HO139.out; subst eo34) | (go_at_call 9; (with_reducible refine (pacemakerref30_Same.calls k1 _ _ t137 _ _ t131 true _ ?side1 ?side2 ?side3 ?side4 A24.out).mono ?_); (case side1 => repeat (first | exact (Kd.R_reads' HO139.out).2.2 | (with_reducible refine Kd.C_alloc ?_ _) | (with_reducible refine Kd.C_drewN ?_ _) | (with_reducible refine Kd.C_drew ?_))); (case side2 => exact (Kd.R_reads' HO139.out).2.1); (case side3 => repeat (first | exact (Kd.R_reads' HO133.out).2.2 | (with_reducible refine Kd.C_alloc ?_ _) | (with_reducible refine Kd.C_drewN ?_ _) | (with_reducible refine Kd.C_drew ?_))); (case side4 => exact (Kd.R_reads' HO133.out).2.1); rintro e w' ⟨rfl, ⟨nd, rfl⟩⟩))
                          go_ret
                          exact ⟨by first | rfl | (simp [errW_none, errW_some] <;> rfl) | (simp [*, errW_none, errW_some] <;> rfl), by repeat (first | (with_reducible first | exact HB.out | apply below_alloc | apply pw_below_drewN | apply below_drew1) | exact HB.out)⟩
                        · replace c25 := Bool.eq_false_iff.mpr c25
                          subst c25
                          have H1 : (some false) = some r := by rw [if_neg (show ¬ (false = true) by decide)] at H; exact H
                          clear H
                          have H := H1
                          clear H1
                          exact absurd ((Option.some.inj H).trans HT.out) (by decide)
                      · rw [if_neg c22] at H
                        have c22b0 : (t135 == 0) = false := beq_eq_false_iff_ne.mpr c22
                        have c22b1 : (t135 != 0) = true := bne_iff_ne.mpr c22
                        exact absurd ((Option.some.inj H).trans HT.out) (by decide)
                    · replace c21 := Bool.eq_false_iff.mpr c21
                      subst c21
                      have H1 : (some false) = some r := by rw [if_neg (show ¬ (false = true) by decide)] at H; exact H
                      clear H
                      have H := H1
                      clear H1
                      exact absurd ((Option.some.inj H).trans HT.out) (by decide)
                  · rw [if_neg c17] at H
                    have c17b0 : ((t125.size : Int) == (wrap64 (3 * (l1.length : Int)))) = false := beq_eq_false_iff_ne.mpr c17
                    have c17b1 : ((t125.size : Int) != (wrap64 (3 * (l1.length : Int)))) = true := bne_iff_ne.mpr c17
                    exact absurd ((Option.some.inj H).trans HT.out) (by decide)
                · replace c16 := Bool.eq_false_iff.mpr c16
                  subst c16
                  have H1 : (some false) = some r := by rw [if_neg (show ¬ (false = true) by decide)] at H; exact H
                  clear H
                  have H := H1
                  clear H1
                  exact absurd ((Option.some.inj H).trans HT.out) (by decide)
              · rw [if_neg c13] at H
                have c13b0 : (t126 == 0) = false := beq_eq_false_iff_ne.mpr c13
                have c13b1 : (t126 != 0) = true := bne_iff_ne.mpr c13
                exact absurd ((Option.some.inj H).trans HT.out) (by decide)
            · replace c12 := Bool.eq_false_iff.mpr c12
              subst c12
              have H1 : ((script_Decode.f a0 a2).bind fun t141 => ((script_Encode.f t141).bind fun bt144 => ((pacemakerlaw30_scripted.f).bind fun t146 => (if t146 = true then (if bt144.2 = 0 then ((script_Decode.f a0 bt144.1).bind fun t147 => ((pacemakerref30_Same.f k1 t147 t141).bind fun t150 => (if t150 = true then (if t126 = 0 then (some true) else (some (t125.toList == ([] : List UInt8)))) else (some false)))) else (some false)) else (some false))))) = some r := by rw [if_neg (show ¬ (false = true) by decide)] at H; exact H
              clear H
              have H := H1
              clear H1
              replace H := Option.bind_eq_some_iff.mp H
              obtain ⟨t141, A350, H⟩ := H
              replace H : ((script_Encode.f t141).bind fun bt144 => ((pacemakerlaw30_scripted.f).bind fun t146 => (if t146 = true then (if bt144.2 = 0 then ((script_Decode.f a0 bt144.1).bind fun t147 => ((pacemakerref30_Same.f k1 t147 t141).bind fun t150 => (if t150 = true then (if t126 = 0 then (some true) else (some (t125.toList == ([] : List UInt8)))) else (some false)))) else (some false)) else (some false)))) = some r := H
              have A35 := Aside0.mk A350
              clear A350
              replace H := Option.bind_eq_some_iff.mp H
              obtain ⟨⟨t144, t145⟩, A360, H⟩ := H
              replace H : ((pacemakerlaw30_scripted.f).bind fun t146 => (if t146 = true then (if t145 = 0 then ((script_Decode.f a0 t144).bind fun t147 => ((pacemakerref30_Same.f k1 t147 t141).bind fun t150 => (if t150 = true then (if t126 = 0 then (some true) else (some (t125.toList == ([] : List UInt8)))) else (some false)))) else (some false)) else (some false))) = some r := H
              have A36 := Aside0.mk A360
              clear A360
              replace H := Option.bind_eq_some_iff.mp H
              obtain ⟨t146, A370, H⟩ := H
              replace H : (if t146 = true then (if t145 = 0 then ((script_Decode.f a0 t144).bind fun t147 => ((pacemakerref30_Same.f k1 t147 t141).bind fun t150 => (if t150 = true then (if t126 = 0 then (some true) else (some (t125.toList == ([] : List UInt8)))) else (some false)))) else (some false)) else (some false)) = some r := H
              have A37 := Aside0.mk A370
              clear A370
              by_cases c38 : t146 = true
              · subst c38
                have H1 : (if t145 = 0 then ((script_Decode.f a0 t144).bind fun t147 => ((pacemakerref30_Same.f k1 t147 t141).bind fun t150 => (if t150 = true then (if t126 = 0 then (some true) else (some (t125.toList == ([] : List UInt8)))) else (some false)))) else (some false)) = some r := by rw [if_pos rfl] at H; exact H
                clear H
                have H := H1
                clear H1
                by_cases c39 : t145 = 0
                · rw [if_pos c39] at H
                  have c39b0 : (t145 == 0) = true := beq_iff_eq.mpr c39
                  have c39b1 : (t145 != 0) = false := bne_eq_false_iff_eq.mpr c39
                  clear c39
                  replace H := Option.bind_eq_some_iff.mp H
                  obtain ⟨t147, A400, H⟩ := H
                  replace H : ((pacemakerref30_Same.f k1 t147 t141).bind fun t150 => (if t150 = true then (if t126 = 0 then (some true) else (some (t125.toList == ([] : List UInt8)))) else (some false))) = some r := H
                  have A40 := Aside0.mk A400
                  clear A400
                  replace H := Option.bind_eq_some_iff.mp H
                  obtain ⟨t150, A410, H⟩ := H
                  replace H : (if t150 = true then (if t126 = 0 then (some true) else (some (t125.toList == ([] : List UInt8)))) else (some false)) = some r := H
                  have A41 := Aside0.mk A410
                  clear A410
                  by_cases c42 : t150 = true
                  · subst c42
                    have H1 : (if t126 = 0 then (some true) else (some (t125.toList == ([] : List UInt8)))) = some r := by rw [if_pos rfl] at H; exact H
                    clear H
                    have H := H1
                    clear H1
                    by_cases c43 : t126 = 0
                    · rw [if_pos c43] at H
                      have c43b0 : (t126 == 0) = true := beq_iff_eq.mpr c43
                      have c43b1 : (t126 != 0) = false := bne_eq_false_iff_eq.mpr c43
                      clear c43
                      obtain rfl := Option.some.inj H
                      go_wp2_with (first | ((with_reducible refine gate_callee (f := 7) rfl ?_); refine goesL_ (some 39) rfl rfl Try.func7 (by kernel_rfl) rfl #[.slice A1 l1.length c1] rfl (by (try simp only [List.map_toArray, List.map_cons, List.map_nil]); first | done | rfl | (simp only [List.length_drop, List.length_take]; rfl)) ?_; (with_reducible refine (script_Encode.calls _ _ l1 t125 t126 _ ?side1 ?side2 A11.out).mono ?_); (case side1 => repeat (first | exact (Kd.C_below HR1.out HB.out) | (with_reducible refine Kd.C_alloc ?_ _) | (with_reducible refine Kd.C_drewN ?_ _) | (with_reducible refine Kd.C_drew ?_))); (case side2 => exact HC1.out); rintro e w44 ⟨rfl, hb⟩; refine ⟨_, rfl, ?_⟩; have n0_ := Aside0.mk (below_step (by repeat (first | (with_reducible first | exact HB.out | apply below_alloc | apply pw_below_drewN | apply below_drew1) | exact HB.out)) hb); clear HB; have HB := n0_; clear n0_; (try clear hb); (try clear hb2); (try clear hk); (try clear hi)) | ((with_reducible refine gate_callee (f := 10) rfl ?_); refine goesL_ (some 65) rfl rfl Try.func10 (by kernel_rfl) rfl #[.int .i64 a0, .string a2] rfl (by (try simp only [List.map_toArray, List.map_cons, List.map_nil]); first | done | rfl | (simp only [List.length_drop, List.length_take]; rfl)) ?_; (with_reducible refine (script_Decode.calls a0 a2 t141 _ A35.out).mono ?_); rintro e w45 ⟨v142, rfl, ho0, hb⟩; refine ⟨_, rfl, ?_⟩; have n0_ := Aside0.mk (Kd.R_lower ho0 (below_size (by repeat (first | (with_reducible first | exact HB.out | apply below_alloc | apply pw_below_drewN | apply below_drew1) | exact HB.out)))); have n1_ := Aside0.mk (below_step (by repeat (first | (with_reducible first | exact HB.out | apply below_alloc | apply pw_below_drewN | apply below_drew1) | exact HB.out)) hb); clear HB; have HO143 := n0_; have HB := n1_; clear n0_ n1_; (try clear hb); (try clear hb2); (try clear hk); (try clear hi); (try clear ho0); obtain ⟨Ao46, co46, eo46⟩ := Kd.R_slice HO143.out; subst eo46) | ((with_reducible refine gate_callee (f := 7) rfl ?_); refine goesL_ (some 68) rfl rfl Try.func7 (by kernel_rfl) rfl #[.slice Ao46 t141.length co46] rfl (by (try simp only [List.map_toArray, List.map_cons, List.map_nil]); first | done | rfl | (simp only [List.length_drop, List.length_take]; rfl)) ?_; (with_reducible refine (script_Encode.calls _ _ t141 t144 t145 _ ?side1 ?side2 A36.out).mono ?_); (case side1 => repeat (first | exact (Kd.R_reads' HO143.out).2.2 | (with_reducible refine Kd.C_alloc ?_ _) | (with_reducible refine Kd.C_drewN ?_ _) | (with_reducible refine Kd.C_drew ?_))); (case side2 => exact (Kd.R_reads' HO143.out).2.1); rintro e w47 ⟨rfl, hb⟩; refine ⟨_, rfl, ?_⟩; have n0_ := Aside0.mk (Kd.R_below (by (with_reducible repeat (first | apply Kd.R_alloc | apply Kd.R_drewN | apply Kd.R_drew)); exact HO143.out) hb); have n1_ := Aside0.mk (below_step (by repeat (first | (with_reducible first | exact HB.out | apply below_alloc | apply pw_below_drewN | apply below_drew1) | exact HB.out)) hb); clear HO143; clear HB; have HO143 := n0_; have HB := n1_; clear n0_ n1_; (try clear hb); (try clear hb2); (try clear hk); (try clear hi)) | ((with_reducible refine gate_callee (f := 14) rfl ?_); refine goesL_ (some 71) rfl rfl Try.func14 (by kernel_rfl) rfl #[] rfl (by (try simp only [List.map_toArray, List.map_cons, List.map_nil]); first | done | rfl | (simp only [List.length_drop, List.length_take]; rfl)) ?_; (with_reducible refine (pacemakerlaw30_scripted.calls  true _ A37.out).mono ?_); rintro e w48 ⟨rfl, hb⟩; refine ⟨_, rfl, ?_⟩; have n0_ := Aside0.mk (Kd.R_below (by (with_reducible repeat (first | apply Kd.R_alloc | apply Kd.R_drewN | apply Kd.R_drew)); exact HO143.out) hb); have n1_ := Aside0.mk (below_step (by repeat (first | (with_reducible first | exact HB.out | apply below_alloc | apply pw_below_drewN | apply below_drew1) | exact HB.out)) hb); clear HO143; clear HB; have HO143 := n0_; have HB := n1_; clear n0_ n1_; (try clear hb); (try clear hb2); (try clear hk); (try clear hi)) | (go_at_call 10; (with_reducible refine (script_Decode.calls a0 t144 t147 _ A40.out).mono ?_); rintro e w49 ⟨v148, rfl, ho0, hb⟩; have n0_ := Aside0.mk (Kd.R_elder' (by (with_reducible repeat (first | apply Kd.R_alloc | apply Kd.R_drewN | apply Kd.R_drew)); exact HO143.out) (Kd.R_base ho0) hb); have n1_ := Aside0.mk (Kd.R_lower (Kd.R_new' ho0 (Kd.R_lt (by (with_reducible repeat (first | apply Kd.R_alloc | apply Kd.R_drewN | apply Kd.R_drew)); exact HO143.out))) (below_size (by repeat (first | (with_reducible first | exact HB.out | apply below_alloc | apply pw_below_drewN | apply below_drew1) | exact HB.out)))); have n2_ := Aside0.mk (below_step (by repeat (first | (with_reducible first | exact HB.out | apply below_alloc | apply pw_below_drewN | apply below_drew1) | exact HB.out)) hb); clear HO143; clear HB; have HO143 := n0_; have HO149 := n1_; have HB := n2_; clear n0_ n1_ n2_; (try clear hb); (try clear hb2); (try clear hk); (try clear hi); (try clear ho0); obtain ⟨Ao50, co50, eo50⟩ := Kd.R_slice HO149.out; subst eo50) | (go_at_call 9; (with_reducible refine (pacemakerref30_Same.calls k1 _ _ t147 _ _ t141 true _ ?side1 ?side2 ?side3 ?side4 A41.out).mono ?_); (case side1 => repeat (first | exact (Kd.R_reads' HO149.out).2.2 | (with_reducible refine Kd.C_alloc ?_ _) | (with_reducible refine Kd.C_drewN ?_ _) | (with_reducible refine Kd.C_drew ?_))); (case side2 => exact (Kd.R_reads' HO149.out).2.1); (case side3 => repeat (first | exact (Kd.R_reads' HO143.out).2.2 | (with_reducible refine Kd.C_alloc ?_ _) | (with_reducible refine Kd.C_drewN ?_ _) | (with_reducible refine Kd.C_drew ?_))); (case side4 => exact (Kd.R_reads' HO143.out).2.1); rintro e w' ⟨rfl, ⟨nd, rfl⟩⟩))
                      go_ret
                      exact ⟨by first | rfl | (simp [errW_none, errW_some] <;> rfl) | (simp [*, errW_none, errW_some] <;> rfl), by repeat (first | (with_reducible first | exact HB.out | apply below_alloc | apply pw_below_drewN | apply below_drew1) | exact HB.out)⟩
                    · rw [if_neg c43] at H
                      have c43b0 : (t126 == 0) = false := beq_eq_false_iff_ne.mpr c43
                      have c43b1 : (t126 != 0) = true := bne_iff_ne.mpr c43
                      obtain rfl := Option.some.inj H
                      go_wp2_with (first | ((with_reducible refine gate_callee (f := 7) rfl ?_); refine goesL_ (some 39) rfl rfl Try.func7 (by kernel_rfl) rfl #[.slice A1 l1.length c1] rfl (by (try simp only [List.map_toArray, List.map_cons, List.map_nil]); first | done | rfl | (simp only [List.length_drop, List.length_take]; rfl)) ?_; (with_reducible refine (script_Encode.calls _ _ l1 t125 t126 _ ?side1 ?side2 A11.out).mono ?_); (case side1 => repeat (first | exact (Kd.C_below HR1.out HB.out) | (with_reducible refine Kd.C_alloc ?_ _) | (with_reducible refine Kd.C_drewN ?_ _) | (with_reducible refine Kd.C_drew ?_))); (case side2 => exact HC1.out); rintro e w51 ⟨rfl, hb⟩; refine ⟨_, rfl, ?_⟩; have n0_ := Aside0.mk (below_step (by repeat (first | (with_reducible first | exact HB.out | apply below_alloc | apply pw_below_drewN | apply below_drew1) | exact HB.out)) hb); clear HB; have HB := n0_; clear n0_; (try clear hb); (try clear hb2); (try clear hk); (try clear hi)) | ((with_reducible refine gate_callee (f := 10) rfl ?_); refine goesL_ (some 65) rfl rfl Try.func10 (by kernel_rfl) rfl #[.int .i64 a0, .string a2] rfl (by (try simp only [List.map_toArray, List.map_cons, List.map_nil]); first | done | rfl | (simp only [List.length_drop, List.length_take]; rfl)) ?_; (with_reducible refine (script_Decode.calls a0 a2 t141 _ A35.out).mono ?_); rintro e w52 ⟨v142, rfl, ho0, hb⟩; refine ⟨_, rfl, ?_⟩; have n0_ := Aside0.mk (Kd.R_lower ho0 (below_size (by repeat (first | (with_reducible first | exact HB.out | apply below_alloc | apply pw_below_drewN | apply below_drew1) | exact HB.out)))); have n1_ := Aside0.mk (below_step (by repeat (first | (with_reducible first | exact HB.out | apply below_alloc | apply pw_below_drewN | apply below_drew1) | exact HB.out)) hb); clear HB; have HO143 := n0_; have HB := n1_; clear n0_ n1_; (try clear hb); (try clear hb2); (try clear hk); (try clear hi); (try clear ho0); obtain ⟨Ao53, co53, eo53⟩ := Kd.R_slice HO143.out; subst eo53) | ((with_reducible refine gate_callee (f := 7) rfl ?_); refine goesL_ (some 68) rfl rfl Try.func7 (by kernel_rfl) rfl #[.slice Ao53 t141.length co53] rfl (by (try simp only [List.map_toArray, List.map_cons, List.map_nil]); first | done | rfl | (simp only [List.length_drop, List.length_take]; rfl)) ?_; (with_reducible refine (script_Encode.calls _ _ t141 t144 t145 _ ?side1 ?side2 A36.out).mono ?_); (case side1 => repeat (first | exact (Kd.R_reads' HO143.out).2.2 | (with_reducible refine Kd.C_alloc ?_ _) | (with_reducible refine Kd.C_drewN ?_ _) | (with_reducible refine Kd.C_drew ?_))); (case side2 => exact (Kd.R_reads' HO143.out).2.1); rintro e w54 ⟨rfl, hb⟩; refine ⟨_, rfl, ?_⟩; have n0_ := Aside0.mk (Kd.R_below (by (with_reducible repeat (first | apply Kd.R_alloc | apply Kd.R_drewN | apply Kd.R_drew)); exact HO143.out) hb); have n1_ := Aside0.mk (below_step (by repeat (first | (with_reducible first | exact HB.out | apply below_alloc | apply pw_below_drewN | apply below_drew1) | exact HB.out)) hb); clear HO143; clear HB; have HO143 := n0_; have HB := n1_; clear n0_ n1_; (try clear hb); (try clear hb2); (try clear hk); (try clear hi)) | ((with_reducible refine gate_callee (f := 14) rfl ?_); refine goesL_ (some 71) rfl rfl Try.func14 (by kernel_rfl) rfl #[] rfl (by (try simp only [List.map_toArray, List.map_cons, List.map_nil]); first | done | rfl | (simp only [List.length_drop, List.length_take]; rfl)) ?_; (with_reducible refine (pacemakerlaw30_scripted.calls  true _ A37.out).mono ?_); rintro e w55 ⟨rfl, hb⟩; refine ⟨_, rfl, ?_⟩; have n0_ := Aside0.mk (Kd.R_below (by (with_reducible repeat (first | apply Kd.R_alloc | apply Kd.R_drewN | apply Kd.R_drew)); exact HO143.out) hb); have n1_ := Aside0.mk (below_step (by repeat (first | (with_reducible first | exact HB.out | apply below_alloc | apply pw_below_drewN | apply below_drew1) | exact HB.out)) hb); clear HO143; clear HB; have HO143 := n0_; have HB := n1_; clear n0_ n1_; (try clear hb); (try clear hb2); (try clear hk); (try clear hi)) | (go_at_call 10; (with_reducible refine (script_Decode.calls a0 t144 t147 _ A40.out).mono ?_); rintro e w56 ⟨v148, rfl, ho0, hb⟩; have n0_ := Aside0.mk (Kd.R_elder' (by (with_reducible repeat (first | apply Kd.R_alloc | apply Kd.R_drewN | apply Kd.R_drew)); exact HO143.out) (Kd.R_base ho0) hb); have n1_ := Aside0.mk (Kd.R_lower (Kd.R_new' ho0 (Kd.R_lt (by (with_reducible repeat (first | apply Kd.R_alloc | apply Kd.R_drewN | apply Kd.R_drew)); exact HO143.out))) (below_size (by repeat (first | (with_reducible first | exact HB.out | apply below_alloc | apply pw_below_drewN | apply below_drew1) | exact HB.out)))); have n2_ := Aside0.mk (below_step (by repeat (first | (with_reducible first | exact HB.out | apply below_alloc | apply pw_below_drewN | apply below_drew1) | exact HB.out)) hb); clear HO143; clear HB; have HO143 := n0_; have HO149 := n1_; have HB := n2_; clear n0_ n1_ n2_; (try clear hb); (try clear hb2); (try clear hk); (try clear hi); (try clear ho0); obtain ⟨Ao57, co57, eo57⟩ := Kd.R_slice HO149.out; subst eo57) | (go_at_call 9; (with_reducible refine (pacemakerref30_Same.calls k1 _ _ t147 _ _ t141 true _ ?side1 ?side2 ?side3 ?side4 A41.out).mono ?_); (case side1 => repeat (first | exact (Kd.R_reads' HO149.out).2.2 | (with_reducible refine Kd.C_alloc ?_ _) | (with_reducible refine Kd.C_drewN ?_ _) | (with_reducible refine Kd.C_drew ?_))); (case side2 => exact (Kd.R_reads' HO149.out).2.1); (case side3 => repeat (first | exact (Kd.R_reads' HO143.out).2.2 | (with_reducible refine Kd.C_alloc ?_ _) | (with_reducible refine Kd.C_drewN ?_ _) | (with_reducible refine Kd.C_drew ?_))); (case side4 => exact (Kd.R_reads' HO143.out).2.1); rintro e w' ⟨rfl, ⟨nd, rfl⟩⟩))
                      go_ret
                      exact ⟨by first | rfl | (simp [errW_none, errW_some] <;> rfl) | (simp [*, errW_none, errW_some] <;> rfl), by repeat (first | (with_reducible first | exact HB.out | apply below_alloc | apply pw_below_drewN | apply below_drew1) | exact HB.out)⟩
                  · replace c42 := Bool.eq_false_iff.mpr c42
                    subst c42
                    have H1 : (some false) = some r := by rw [if_neg (show ¬ (false = true) by decide)] at H; exact H
                    clear H
                    have H := H1
                    clear H1
                    exact absurd ((Option.some.inj H).trans HT.out) (by decide)
                · rw [if_neg c39] at H
                  have c39b0 : (t145 == 0) = false := beq_eq_false_iff_ne.mpr c39
                  have c39b1 : (t145 != 0) = true := bne_iff_ne.mpr c39
                  exact absurd ((Option.some.inj H).trans HT.out) (by decide)
              · replace c38 := Bool.eq_false_iff.mpr c38
                subst c38
                have H1 : (some false) = some r := by rw [if_neg (show ¬ (false = true) by decide)] at H; exact H
                clear H
                have H := H1
                clear H1
                exact absurd ((Option.some.inj H).trans HT.out) (by decide)

end Go.Proofs.Ytlnjehknkkfpcaa.P
