/- What a reading of each parameter of the law AgendaSorts gives: the value, as the printed walks take it. -/
import Derived.Test.YtocdpfdnnijdkaaGx0
import Derived.WalkKit
import Derived.ProofKit
import Derived.OpenShut
import Derived.ShutString
import Derived.ChangeOld
import Derived.Below
import Derived.SizedLaws
import Derived.Deep.Slices
import Derived.Deep.Fields
namespace Go.Proofs.Ytocdpfdnnijdkaa.G
open Go.ChangeShapes Go.WideShapes Go.ChangeAt Go.RowKit Go.Deep Go.Proofs.YtocdpfdnnijdkaaW.PrintWords Go.Proofs.YtocdpfdnnijdkaaW.PrintLast
open Go.ChangeMaps (open_string shut_string)
theorem open_T3 {H : Type} {enc : TypeId × Value → H} {w : World} {base : Nat} {spare : Nat → Bool} {held : Bool} {fuel : Nat} {cs : List Value} {x : DataW H × List MemPlace} (h : DataW.trod enc Try.prog w base spare held fuel 3 cs = some x) : ∃ a : Int, (Kd.int .i64).K w a cs ∧ (Lit.int .i64 a).wf = true := by
  obtain ⟨n, rfl, _, hw⟩ := DataW.trod_int Try.underlying3 h
  exact ⟨n, rfl, hw⟩
theorem open_T48 {H : Type} {enc : TypeId × Value → H} {w : World} {base : Nat} {spare : Nat → Bool} {held : Bool} {fuel : Nat} {cs : List Value} {x : DataW H × List MemPlace} (h : DataW.trod enc Try.prog w base spare held fuel 48 cs = some x) : ∃ a : (List Int), (Kd.slice 3 (Kd.int .i64)).K w a cs ∧ (a.length ≤ maxLen ∧ ∀ y ∈ a, (Lit.int .i64 y).wf = true) := by
  rcases open_slice Try.underlying48 h with ⟨rfl, _⟩ | ⟨ad, len, cap, m, n, D, Pl, rfl, _, hl, hm, _, _, hi⟩
  · exact ⟨[], ⟨none, 0, rfl, Nat.le_refl _, rfl, by simp, fun hn => absurd hn (by simp)⟩, by simp, fun y hy => by cases hy⟩
  · have hle : len ≤ m := by
      rename_i hmm _
      rw [hmm]; split <;> omega
    have hC : Try.prog.cellsOf 3 = 1 := by kernel_rfl
    have hj : ∀ j, j < len → ∃ a : Int, (∃ c, c.length = 1 ∧ (Kd.int .i64).K w a c ∧ ∀ i u, c[i]? = some u → w.cell? (ad.add (j * 1 + i)) = some u) ∧ (Lit.int .i64 a).wf = true := by
      intro j hjl
      obtain ⟨cs', hc, ht⟩ := hi j (by omega)
      rw [hC] at hc
      obtain ⟨a, hK, hq⟩ := open_T3 ht
      obtain ⟨_, hcl, hat⟩ := World.cells?_some hc
      refine ⟨a, ⟨cs', hcl, hK, fun i u hu => ?_⟩, hq⟩
      have hil : i < 1 := by have := (List.getElem?_eq_some_iff.1 hu).1; omega
      rw [← Go.Deep.add_add, hat i hil, hu]
    obtain ⟨xs, hxl, hxs⟩ : ∃ xs : List Int, xs.length = len ∧ ∀ j p, xs[j]? = some p → (∃ c, c.length = 1 ∧ (Kd.int .i64).K w p c ∧ ∀ i u, c[i]? = some u → w.cell? (ad.add (j * 1 + i)) = some u) ∧ (Lit.int .i64 p).wf = true := by
      refine ⟨List.ofFn (fun j : Fin len => Classical.choose (hj j.1 j.2)), by simp, fun j p hp => ?_⟩
      have hjl : j < len := by have := (List.getElem?_eq_some_iff.1 hp).1; simpa using this
      have hpe : p = Classical.choose (hj j hjl) := by
        rw [List.getElem?_ofFn, dif_pos hjl] at hp
        exact (Option.some.inj hp).symm
      rw [hpe]
      exact Classical.choose_spec (hj j hjl)
    subst hxl
    refine ⟨xs, ⟨some ad, cap, rfl, hl, rfl, by have := hm; simp only [maxLen] at this; omega, fun _ => ⟨ad, rfl, fun j p hp => (hxs j p hp).1⟩⟩, by omega, fun y hy => ?_⟩
    obtain ⟨j, hj', rfl⟩ := List.getElem_of_mem hy
    exact (hxs j _ (List.getElem?_eq_getElem hj')).2
end Go.Proofs.Ytocdpfdnnijdkaa.G
