-- Printed by wip/tools/myprint.py (this session's driver over the kit's printer, with functions proved by hand). Not trusted: Lean checks it.
import Derived.Test.YtefigckobfaodaaQx0
namespace Go.Proofs.Ytefigckobfaodaa.Q
open Go.RowKit Go.Proofs.YtefigckobfaodaaW.PrintWords Go.Proofs.YtefigckobfaodaaW.PrintLast Go.Proofs.YtefigckobfaodaaW.PrintMore
attribute [local go_sem] max2_int min2_int max_two min_two max_three min_three max_four min_four   -- for this text's walks alone
attribute [local go_sem] Go.Proofs.YtefigckobfaodaaS.cell_set_map Go.Proofs.YtefigckobfaodaaS.setCell_drewN
set_option linter.unusedVariables false
set_option linter.unusedSimpArgs false

/-! ### pacemakerlaw28_small: function 14 -/
def pacemakerlaw28_small.f (l0 : List (S25)) : Option (Bool) := some (decide ((l0.length : Int) ≤ 80))
set_option maxHeartbeats 8000000 in
set_option maxRecDepth 100000 in
theorem pacemakerlaw28_small.calls (A0 : Option Addr) (c0 : Nat) (l0 : List (S25)) (r : Bool) (w : World) (hr0 : Kd.C k25 w A0 l0.length l0) (hc0 : l0.length ≤ c0) (h : pacemakerlaw28_small.f l0 = some r) :
    Calls Try.prog 14 #[.slice A0 l0.length c0] w fun e w' => e = .returned (.bool r) ∧ Drawn0 w w' := by
  have HR0 := Aside0.mk hr0
  have HC0 := Aside0.mk hc0
  clear hr0 hc0
  have H : (some (decide ((l0.length : Int) ≤ 80))) = some r := h
  clear h
  obtain rfl := Option.some.inj H
  go_enter Try.func14, Try.ntmps14
  go_wp2
  go_ret
  exact ⟨by first | rfl | (simp; done) | (simp [*]; done), by repeat (first | exact Drawn0.refl _ | apply Drawn0.step)⟩

-- NOT PRINTED: function 22 (api_Fate_put)

end Go.Proofs.Ytefigckobfaodaa.Q
