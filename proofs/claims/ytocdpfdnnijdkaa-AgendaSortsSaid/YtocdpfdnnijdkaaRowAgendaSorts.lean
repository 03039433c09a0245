/- The law AgendaSorts, for every input: its row, out of its walk and of the plain statement (Pure). No condition. -/
import Derived.Test.YtocdpfdnnijdkaaRows
import Derived.Test.YtocdpfdnnijdkaaPureAgendaSorts
import Derived.WalkKit
import Derived.ProofKit
import Derived.OpenShut
import Derived.ShutString
import Derived.ChangeOld
import Derived.Below
import Derived.SizedLaws
import Derived.KernelRfl
namespace Go.Proofs.Ytocdpfdnnijdkaa.agendaSorts
open Go.ChangeShapes Go.WideShapes Go.ChangeAt Go.RowKit Go.Deep Go.Proofs.YtocdpfdnnijdkaaW.PrintWords Go.Proofs.YtocdpfdnnijdkaaW.PrintLast Go.Proofs.Ytocdpfdnnijdkaa.G
open Go.ChangeMaps (open_string shut_string)
set_option linter.unusedVariables false
theorem own : ownKnob Try.prog.godebug = none := by kernel_rfl
theorem laidOut : laidOutB Try.prog = true := by kernel_rfl
set_option maxRecDepth 100000 in
set_option maxHeartbeats 2000000 in
theorem lifted (os : Os) (started : os.Started) (H : Type) (enc : TypeId × Value → H) :
    ReturnsInHanded {} Try.checked os 5 .any (Rows.agendaSortsSpec.pre6 enc Try.prog Try.f5 Rows.agendaSortsRow.domain false) (Rows.agendaSortsSpec.post enc Try.prog Try.f5 false true false false) := by
  refine returnsInHanded_of_change_sized (C := Try.checked) own started (by kernel_rfl) Try.func5
    (ChangeSpec.witness6 (enc := enc) (C := Try.checked) false ⟨#[], #[.slice none 0 0], []⟩ 8 (by kernel_rfl) (by kernel_rfl) (by kernel_rfl) (by kernel_rfl)) ?_
  intro W base args ds gs before hval0 hW hcnd hsz0 _
  have hval : ∀ (j : Nat) t v, Try.f5.params[j]? = some t → args[j]? = some v → Value.okWide Try.prog W .any base t v := hval0
  have hW' := hW
  obtain ⟨p, q, hA0, hV, rfl, hfz, hnd⟩ := hW
  have hA : DataW.TrodAll enc Try.prog W 0 (fun _ => true) true Try.f5.params.toList args.toList ds p := hA0
  rw [Try.params5] at hA hval
  obtain ⟨v0, vs0, d0, ds0, p0, q0, hargs, rfl, rfl, h0, r0⟩ := trodAll_cons hA
  obtain ⟨rfl, rfl, rfl⟩ := trodAll_nil r0
  obtain rfl : args = #[v0] := by cases args; simp_all
  obtain ⟨rfl, rfl⟩ := trodVars_none hV
  have k0 := h0
  have lt0 : ∀ x ∈ p0, x.block < W.heap.size := by obtain ⟨m, hm⟩ := k0; exact DataW.trod_lt m _ _ _ hm
  obtain ⟨a0, len0, cap0, rfl⟩ := okWide_slice Try.underlying48 (hval 0 48 v0 rfl rfl)
  obtain ⟨x0, K0, w0⟩ : ∃ a : (List Int), (Kd.slice 3 (Kd.int .i64)).K W a [.slice a0 len0 cap0] ∧ (a.length ≤ maxLen ∧ ∀ y ∈ a, (Lit.int .i64 y).wf = true) := by
    obtain ⟨fuel, hf⟩ := h0
    exact open_T48 (by simpa [Value.cells] using hf)
  obtain ⟨A0, c0, e0, hc0, hr0⟩ := K0
  injection e0 with e0 _
  injection e0 with ea0 el0 ec0
  subst ea0; subst el0; subst ec0
  clear hA0 hval0 hsz0
  obtain ⟨k, hP⟩ := Pure.AgendaSorts x0 w0
  refine (pacemakerlaw29_AgendaSorts.calls k a0 cap0 x0 true W hr0 hc0 ⟨rfl⟩ hP).mono fun e W' he => ?_
  obtain ⟨he, bel0⟩ := he
  have bel : Below W.heap.size W W' := bel0
  subst he
  exact ⟨_, rfl, _, _, _, [], _, [], hW', trodAll_mk1 (shut_bool Try.underlying4 _), (trodAll_cons_mk (Below.trod laidOut (by kernel_rfl) (of_decide_eq_true (by kernel_rfl)) k0 bel lt0) trodAll_mk0), rfl, bel.frame _, fun h => by cases h⟩
theorem over : Rows.agendaSortsRow.holds Try.pinned (OpenSpec.ofChange Rows.agendaSortsSpec) :=
  OpenClaim.holds_of_wide 5 Try.f5 rfl rfl rfl rfl rfl rfl rfl ⟨rfl, rfl, rfl, rfl, rfl⟩ rfl rfl rfl rfl rfl (by kernel_rfl) Try.func5 (by kernel_rfl)
    (of_decide_eq_true (by kernel_rfl)) (by unfold Func.isWrapper; first | (rw [if_pos (by decide +kernel)]; kernel_rfl) | (rw [if_neg (by decide +kernel)]; exact ⟨rfl, rfl⟩))
    (fun os started H enc _ => lifted os started H enc)
theorem proved : Rows.AgendaSortsSaid := over
#print axioms proved
end Go.Proofs.Ytocdpfdnnijdkaa.agendaSorts
namespace Go.Proofs.Ytocdpfdnnijdkaa
/-- The row, under a short name, for the claim. -/
theorem agendaSorts_holds : Rows.AgendaSortsSaid := agendaSorts.proved
end Go.Proofs.Ytocdpfdnnijdkaa
