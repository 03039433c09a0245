import Derived.Test.YtocdpfdnnijdkaaKF
import Derived.Test.YtocdpfdnnijdkaaGR
import Derived.Test.YtocdpfdnnijdkaaDt
namespace Go.Proofs.Ytocdpfdnnijdkaa.G
open Go.RowKit Go.Proofs.YtocdpfdnnijdkaaW.PrintWords Go.Proofs.YtocdpfdnnijdkaaW.PrintLast Go.Proofs.YtocdpfdnnijdkaaW.PrintMore
attribute [local go_sem] max2_int min2_int max_two min_two max_three min_three max_four min_four
attribute [local go_sem] Go.Proofs.YtocdpfdnnijdkaaS.cell_set_map Go.Proofs.YtocdpfdnnijdkaaS.setCell_drewN
set_option linter.unusedVariables false
set_option linter.unusedSimpArgs false
attribute [local go_sem] eq24 add0
set_option maxHeartbeats 16000000 in
set_option maxRecDepth 100000 in
theorem does_many (most : Int) (scr : List S40) (A : Option Addr) (c : Nat) (w : World) (L : Nat) (h1 : 100 < L) : Calls Try.prog 4 #[.int .i64 most, .slice A L c] w fun e w' => e = .returned (.bool true) ∧ Below w.heap.size w w' := by
  have hu24 := Try.underlying24
  have hu40 := Try.underlying40
  have hu44 := Try.underlying44
  have p1 : decide (100 < (L : Int)) = true := decide_eq_true (by omega)
  go_enter Try.func4, Try.ntmps4
  go_wp2
  go_ret
  exact ⟨rfl, Below.refl _ _⟩
set_option maxHeartbeats 16000000 in
set_option maxRecDepth 100000 in
theorem does_bad (most : Int) (scr : List S40) (A : Option Addr) (c : Nat) (w : World) (L : Nat) (h1 : ¬ 100 < L) (hbad : most < 1 ∨ 65536 < most) : Calls Try.prog 4 #[.int .i64 most, .slice A L c] w fun e w' => e = .returned (.bool true) ∧ Below w.heap.size w w' := by
  have hu24 := Try.underlying24
  have hu40 := Try.underlying40
  have hu44 := Try.underlying44
  have p1 : decide (100 < (L : Int)) = false := decide_eq_false (by omega)
  have HB := Aside0.mk (Below.refl w.heap.size w)
  go_enter Try.func4, Try.ntmps4
  go_wp2_with (first | ((with_reducible refine gate_callee (f := 7) rfl ?_); refine goesL_ (some 24) rfl rfl Try.func7 (by kernel_rfl) rfl #[.int .i64 most] rfl (by (try simp only [List.map_toArray, List.map_cons, List.map_nil]); first | done | rfl) ?_; (refine (New_bad most _ hbad).mono ?_); rintro e z1_ ⟨rfl, hb⟩; refine ⟨_, rfl, ?_⟩; have n_HB := Aside0.mk (below_step HB.out hb); clear HB; have HB := n_HB; clear n_HB; clear hb) | ((with_reducible refine gate_callee (f := 12) rfl ?_); refine goesL_ (some 29) rfl rfl Try.func12 (by kernel_rfl) rfl #[.int .i64 most] rfl (by (try simp only [List.map_toArray, List.map_cons, List.map_nil]); first | done | rfl) ?_; (refine (refNew_bad most _ hbad).mono ?_); rintro e z2_ ⟨rfl, hb⟩; refine ⟨_, rfl, ?_⟩; have n_HB := Aside0.mk (below_step HB.out hb); clear HB; have HB := n_HB; clear n_HB; clear hb))
  go_loopw [9] (fun v9 wr => v9 = .int .i64 0 ∧ Aside0 (Below w.heap.size w wr)) (fun _ _ => 0)
  case atStart => exact ⟨rfl, HB⟩
  case round =>
    clear HB
    obtain ⟨rfl, HB⟩ := hrel
    by_cases hl : (0 : Int) < (L : Int)
    · have p3 : decide ((0 : Int) < (L : Int)) = true := decide_eq_true hl
      go_wp2_with (first | ((with_reducible refine gate_callee (f := 8) rfl ?_); refine goesL_ (some 118) rfl rfl Try.func8 (by kernel_rfl) rfl #[] rfl (by (try simp only [List.map_toArray, List.map_cons, List.map_nil]); first | done | rfl) ?_; (refine (noted_v _).mono ?_); rintro e z3_ ⟨rfl, hb⟩; refine ⟨_, rfl, ?_⟩; have n_HB := Aside0.mk (below_step HB.out hb); clear HB; have HB := n_HB; clear n_HB; clear hb))
      go_ret
      exact ⟨rfl, HB.out⟩
    · have p3 : decide ((0 : Int) < (L : Int)) = false := decide_eq_false hl
      go_wp2_with (first | ((with_reducible refine gate_callee (f := 8) rfl ?_); refine goesL_ (some 118) rfl rfl Try.func8 (by kernel_rfl) rfl #[] rfl (by (try simp only [List.map_toArray, List.map_cons, List.map_nil]); first | done | rfl) ?_; (refine (noted_v _).mono ?_); rintro e z3_ ⟨rfl, hb⟩; refine ⟨_, rfl, ?_⟩; have n_HB := Aside0.mk (below_step HB.out hb); clear HB; have HB := n_HB; clear n_HB; clear hb))
      go_ret
      exact ⟨rfl, HB.out⟩
end Go.Proofs.Ytocdpfdnnijdkaa.G
