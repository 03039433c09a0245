/- What a reading of each parameter of the law OrderBack gives: the value, as the printed walks take it. -/
import Derived.Test.YtjiogchafnpkhaaDu
import Derived.WalkKit
import Derived.ProofKit
import Derived.OpenShut
import Derived.ShutString
import Derived.ChangeOld
import Derived.Below
import Derived.SizedLaws
import Derived.Deep.Slices
import Derived.Deep.Fields
namespace Go.Proofs.Ytjiogchafnpkhaa.D
open Go.ChangeShapes Go.WideShapes Go.ChangeAt Go.RowKit Go.Deep Go.Proofs.YtjiogchafnpkhaaW.PrintWords Go.Proofs.YtjiogchafnpkhaaW.PrintLast
open Go.ChangeMaps (open_string shut_string)
theorem okWide_arr {P : Program} {w : World} {r : Reach} {base : Nat} {t : TypeId} {v : Value} {n : Nat} {e : TypeId} (ht : P.underlying t = some (.array n e)) (h : Value.okWide P w r base t v) : ∃ cs, v = .agg cs ∧ cs.size = P.cellsOf t := by
  simp only [Value.okWide, ht] at h
  obtain ⟨cs, h1, h2, _⟩ := h
  exact ⟨cs, h1, h2⟩
theorem open_T4 {H : Type} {enc : TypeId × Value → H} {w : World} {base : Nat} {spare : Nat → Bool} {held : Bool} {fuel : Nat} {cs : List Value} {x : DataW H × List MemPlace} (h : DataW.trod enc Try.prog w base spare held fuel 4 cs = some x) : ∃ a : Bool, Kd.bool.K w a cs ∧ True := by
  obtain ⟨n, rfl, _⟩ := DataW.trod_bool Try.underlying4 h
  exact ⟨n, rfl, trivial⟩
def Q45 (a : S45) : Prop := True ∧ True ∧ True ∧ True
theorem pair_cells45 {w : World} {cs : List Value} {a0 : Bool} {a1 : Bool} {a2 : Bool} {a3 : Bool} (hcl : cs.length = 4) (h0 : Kd.bool.K w a0 ((cs.drop 0).take 1)) (h1 : Kd.bool.K w a1 ((cs.drop 1).take 1)) (h2 : Kd.bool.K w a2 ((cs.drop 2).take 1)) (h3 : Kd.bool.K w a3 ((cs.drop 3).take 1)) : k45.K w ⟨a0, a1, a2, a3⟩ cs := by
  match cs, hcl with
  | [c0, c1, c2, c3], _ =>
    simp only [List.drop_succ_cons, List.drop_zero, List.take_succ_cons, List.take_zero] at h0 h1 h2 h3
    injection h0 with h0 _; subst h0; injection h1 with h1 _; subst h1; injection h2 with h2 _; subst h2; injection h3 with h3 _; subst h3
    exact k45_mk _ _
theorem open_T45 {H : Type} {enc : TypeId × Value → H} {w : World} {base : Nat} {spare : Nat → Bool} {held : Bool} {fuel : Nat} {cs : List Value} {x : DataW H × List MemPlace} (h : DataW.trod enc Try.prog w base spare held fuel 45 cs = some x) : ∃ a : S45, k45.K w a cs ∧ Q45 a := by
  obtain ⟨xs, n, rfl, hx, hcl, hlen, hg⟩ := DataW.trod_array Try.underlying45 h
  rw [show Try.prog.cellsOf 45 = 4 from by kernel_rfl] at hcl
  have h0 := hg 0 (by decide)
  rw [List.getElem?_eq_getElem (show 0 < xs.length by rw [hlen]; decide)] at h0
  rw [show Try.prog.cellsOf 4 = 1 from by kernel_rfl] at h0
  obtain ⟨a0, K0, q0⟩ := open_T4 h0
  have h1 := hg 1 (by decide)
  rw [List.getElem?_eq_getElem (show 1 < xs.length by rw [hlen]; decide)] at h1
  rw [show Try.prog.cellsOf 4 = 1 from by kernel_rfl] at h1
  obtain ⟨a1, K1, q1⟩ := open_T4 h1
  have h2 := hg 2 (by decide)
  rw [List.getElem?_eq_getElem (show 2 < xs.length by rw [hlen]; decide)] at h2
  rw [show Try.prog.cellsOf 4 = 1 from by kernel_rfl] at h2
  obtain ⟨a2, K2, q2⟩ := open_T4 h2
  have h3 := hg 3 (by decide)
  rw [List.getElem?_eq_getElem (show 3 < xs.length by rw [hlen]; decide)] at h3
  rw [show Try.prog.cellsOf 4 = 1 from by kernel_rfl] at h3
  obtain ⟨a3, K3, q3⟩ := open_T4 h3
  exact ⟨⟨a0, a1, a2, a3⟩, pair_cells45 hcl K0 K1 K2 K3, q0, q1, q2, q3⟩
theorem open_T3 {H : Type} {enc : TypeId × Value → H} {w : World} {base : Nat} {spare : Nat → Bool} {held : Bool} {fuel : Nat} {cs : List Value} {x : DataW H × List MemPlace} (h : DataW.trod enc Try.prog w base spare held fuel 3 cs = some x) : ∃ a : Int, (Kd.int .i64).K w a cs ∧ (Lit.int .i64 a).wf = true := by
  obtain ⟨n, rfl, _, hw⟩ := DataW.trod_int Try.underlying3 h
  exact ⟨n, rfl, hw⟩
end Go.Proofs.Ytjiogchafnpkhaa.D
