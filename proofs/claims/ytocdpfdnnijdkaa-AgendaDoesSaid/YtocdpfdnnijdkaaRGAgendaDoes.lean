/- What a reading of each parameter of the law AgendaDoes gives: the value, as the printed walks take it. -/
import Derived.Test.YtocdpfdnnijdkaaDt
import Derived.WalkKit
import Derived.ProofKit
import Derived.OpenShut
import Derived.ShutString
import Derived.ChangeOld
import Derived.Below
import Derived.SizedLaws
import Derived.Deep.Slices
import Derived.Deep.Fields
namespace Go.Proofs.Ytocdpfdnnijdkaa.G
open Go.ChangeShapes Go.WideShapes Go.ChangeAt Go.RowKit Go.Deep Go.Proofs.YtocdpfdnnijdkaaW.PrintWords Go.Proofs.YtocdpfdnnijdkaaW.PrintLast
open Go.ChangeMaps (open_string shut_string)
theorem open_T3 {H : Type} {enc : TypeId × Value → H} {w : World} {base : Nat} {spare : Nat → Bool} {held : Bool} {fuel : Nat} {cs : List Value} {x : DataW H × List MemPlace} (h : DataW.trod enc Try.prog w base spare held fuel 3 cs = some x) : ∃ a : Int, (Kd.int .i64).K w a cs ∧ (Lit.int .i64 a).wf = true := by
  obtain ⟨n, rfl, _, hw⟩ := DataW.trod_int Try.underlying3 h
  exact ⟨n, rfl, hw⟩
theorem open_T22 {H : Type} {enc : TypeId × Value → H} {w : World} {base : Nat} {spare : Nat → Bool} {held : Bool} {fuel : Nat} {cs : List Value} {x : DataW H × List MemPlace} (h : DataW.trod enc Try.prog w base spare held fuel 22 cs = some x) : ∃ a : Int, (Kd.int .u64).K w a cs ∧ (Lit.int .u64 a).wf = true := by
  obtain ⟨n, rfl, _, hw⟩ := DataW.trod_int Try.underlying22 h
  exact ⟨n, rfl, hw⟩
def Q24 (a : S24) : Prop := (Lit.int .i64 a.f0).wf = true ∧ (Lit.int .i64 a.f1).wf = true ∧ (Lit.int .i64 a.f2).wf = true ∧ (Lit.int .u64 a.f3).wf = true
theorem pair_cells24 {w : World} {cs : List Value} {a0 : Int} {a1 : Int} {a2 : Int} {a3 : Int} (hcl : cs.length = 4) (h0 : (Kd.int .i64).K w a0 ((cs.drop 0).take 1)) (h1 : (Kd.int .i64).K w a1 ((cs.drop 1).take 1)) (h2 : (Kd.int .i64).K w a2 ((cs.drop 2).take 1)) (h3 : (Kd.int .u64).K w a3 ((cs.drop 3).take 1)) : k24.K w ⟨a0, a1, a2, a3⟩ cs := by
  match cs, hcl with
  | [c0, c1, c2, c3], _ =>
    simp only [List.drop_succ_cons, List.drop_zero, List.take_succ_cons, List.take_zero] at h0 h1 h2 h3
    (try (injection h0 with h0 _; subst h0)); (try (injection h1 with h1 _; subst h1)); (try (injection h2 with h2 _; subst h2)); (try (injection h3 with h3 _; subst h3))
    exact k24_mk _ _
theorem open_T24 {H : Type} {enc : TypeId × Value → H} {w : World} {base : Nat} {spare : Nat → Bool} {held : Bool} {fuel : Nat} {cs : List Value} {x : DataW H × List MemPlace} (h : DataW.trod enc Try.prog w base spare held fuel 24 cs = some x) : ∃ a : S24, k24.K w a cs ∧ Q24 a := by
  obtain ⟨xs, n, rfl, hx, hcl, hlen, hg⟩ := DataW.trod_struct Try.underlying24 h
  rw [show Try.prog.cellsOf 24 = 4 from by kernel_rfl] at hcl
  have h0 : DataW.trod enc Try.prog w base spare held n 3 ((cs.drop 0).take (Try.prog.cellsOf 3)) = xs[0]? := hg 0 _ rfl
  rw [List.getElem?_eq_getElem (show 0 < xs.length by rw [hlen]; decide)] at h0
  rw [show Try.prog.cellsOf 3 = 1 from by kernel_rfl] at h0
  obtain ⟨a0, K0, q0⟩ := open_T3 h0
  have h1 : DataW.trod enc Try.prog w base spare held n 3 ((cs.drop 1).take (Try.prog.cellsOf 3)) = xs[1]? := hg 1 _ rfl
  rw [List.getElem?_eq_getElem (show 1 < xs.length by rw [hlen]; decide)] at h1
  rw [show Try.prog.cellsOf 3 = 1 from by kernel_rfl] at h1
  obtain ⟨a1, K1, q1⟩ := open_T3 h1
  have h2 : DataW.trod enc Try.prog w base spare held n 3 ((cs.drop 2).take (Try.prog.cellsOf 3)) = xs[2]? := hg 2 _ rfl
  rw [List.getElem?_eq_getElem (show 2 < xs.length by rw [hlen]; decide)] at h2
  rw [show Try.prog.cellsOf 3 = 1 from by kernel_rfl] at h2
  obtain ⟨a2, K2, q2⟩ := open_T3 h2
  have h3 : DataW.trod enc Try.prog w base spare held n 22 ((cs.drop 3).take (Try.prog.cellsOf 22)) = xs[3]? := hg 3 _ rfl
  rw [List.getElem?_eq_getElem (show 3 < xs.length by rw [hlen]; decide)] at h3
  rw [show Try.prog.cellsOf 22 = 1 from by kernel_rfl] at h3
  obtain ⟨a3, K3, q3⟩ := open_T22 h3
  exact ⟨⟨a0, a1, a2, a3⟩, pair_cells24 hcl K0 K1 K2 K3, q0, q1, q2, q3⟩
def Q40 (a : S40) : Prop := (Lit.int .i64 a.f0).wf = true ∧ Q24 a.f1 ∧ (Lit.int .i64 a.f2).wf = true
theorem pair_cells40 {w : World} {cs : List Value} {a0 : Int} {a1 : S24} {a2 : Int} (hcl : cs.length = 6) (h0 : (Kd.int .i64).K w a0 ((cs.drop 0).take 1)) (h1 : k24.K w a1 ((cs.drop 1).take 4)) (h2 : (Kd.int .i64).K w a2 ((cs.drop 5).take 1)) : k40.K w ⟨a0, a1, a2⟩ cs := by
  match cs, hcl with
  | [c0, c1, c2, c3, c4, c5], _ =>
    simp only [List.drop_succ_cons, List.drop_zero, List.take_succ_cons, List.take_zero] at h0 h1 h2
    (try (injection h0 with h0 _; subst h0)); have e1 := k24_open h1; simp only [List.cons.injEq, and_true] at e1; obtain ⟨rfl, rfl, rfl, rfl⟩ := e1; (try (injection h2 with h2 _; subst h2))
    exact k40_mk _ _
theorem open_T40 {H : Type} {enc : TypeId × Value → H} {w : World} {base : Nat} {spare : Nat → Bool} {held : Bool} {fuel : Nat} {cs : List Value} {x : DataW H × List MemPlace} (h : DataW.trod enc Try.prog w base spare held fuel 40 cs = some x) : ∃ a : S40, k40.K w a cs ∧ Q40 a := by
  obtain ⟨xs, n, rfl, hx, hcl, hlen, hg⟩ := DataW.trod_struct Try.underlying40 h
  rw [show Try.prog.cellsOf 40 = 6 from by kernel_rfl] at hcl
  have h0 : DataW.trod enc Try.prog w base spare held n 3 ((cs.drop 0).take (Try.prog.cellsOf 3)) = xs[0]? := hg 0 _ rfl
  rw [List.getElem?_eq_getElem (show 0 < xs.length by rw [hlen]; decide)] at h0
  rw [show Try.prog.cellsOf 3 = 1 from by kernel_rfl] at h0
  obtain ⟨a0, K0, q0⟩ := open_T3 h0
  have h1 : DataW.trod enc Try.prog w base spare held n 24 ((cs.drop 1).take (Try.prog.cellsOf 24)) = xs[1]? := hg 1 _ rfl
  rw [List.getElem?_eq_getElem (show 1 < xs.length by rw [hlen]; decide)] at h1
  rw [show Try.prog.cellsOf 24 = 4 from by kernel_rfl] at h1
  obtain ⟨a1, K1, q1⟩ := open_T24 h1
  have h2 : DataW.trod enc Try.prog w base spare held n 3 ((cs.drop 5).take (Try.prog.cellsOf 3)) = xs[2]? := hg 2 _ rfl
  rw [List.getElem?_eq_getElem (show 2 < xs.length by rw [hlen]; decide)] at h2
  rw [show Try.prog.cellsOf 3 = 1 from by kernel_rfl] at h2
  obtain ⟨a2, K2, q2⟩ := open_T3 h2
  exact ⟨⟨a0, a1, a2⟩, pair_cells40 hcl K0 K1 K2, q0, q1, q2⟩
theorem open_T35 {H : Type} {enc : TypeId × Value → H} {w : World} {base : Nat} {spare : Nat → Bool} {held : Bool} {fuel : Nat} {cs : List Value} {x : DataW H × List MemPlace} (h : DataW.trod enc Try.prog w base spare held fuel 35 cs = some x) : ∃ a : (List S40), (Kd.slice 40 k40).K w a cs ∧ (a.length ≤ maxLen ∧ ∀ y ∈ a, Q40 y) := by
  rcases open_slice Try.underlying35 h with ⟨rfl, _⟩ | ⟨ad, len, cap, m, n, D, Pl, rfl, _, hl, hm, _, _, hi⟩
  · exact ⟨[], ⟨none, 0, rfl, Nat.le_refl _, rfl, by simp, fun hn => absurd hn (by simp)⟩, by simp, fun y hy => by cases hy⟩
  · have hle : len ≤ m := by
      rename_i hmm _
      rw [hmm]; split <;> omega
    have hC : Try.prog.cellsOf 40 = 6 := by kernel_rfl
    have hj : ∀ j, j < len → ∃ a : S40, (∃ c, c.length = 6 ∧ k40.K w a c ∧ ∀ i u, c[i]? = some u → w.cell? (ad.add (j * 6 + i)) = some u) ∧ Q40 a := by
      intro j hjl
      obtain ⟨cs', hc, ht⟩ := hi j (by omega)
      rw [hC] at hc
      obtain ⟨a, hK, hq⟩ := open_T40 ht
      obtain ⟨_, hcl, hat⟩ := World.cells?_some hc
      refine ⟨a, ⟨cs', hcl, hK, fun i u hu => ?_⟩, hq⟩
      have hil : i < 6 := by have := (List.getElem?_eq_some_iff.1 hu).1; omega
      rw [← Go.Deep.add_add, hat i hil, hu]
    obtain ⟨xs, hxl, hxs⟩ : ∃ xs : List S40, xs.length = len ∧ ∀ j p, xs[j]? = some p → (∃ c, c.length = 6 ∧ k40.K w p c ∧ ∀ i u, c[i]? = some u → w.cell? (ad.add (j * 6 + i)) = some u) ∧ Q40 p := by
      refine ⟨List.ofFn (fun j : Fin len => Classical.choose (hj j.1 j.2)), by simp, fun j p hp => ?_⟩
      have hjl : j < len := by have := (List.getElem?_eq_some_iff.1 hp).1; simpa using this
      have hpe : p = Classical.choose (hj j hjl) := by
        rw [List.getElem?_ofFn, dif_pos hjl] at hp
        exact (Option.some.inj hp).symm
      rw [hpe]
      exact Classical.choose_spec (hj j hjl)
    subst hxl
    refine ⟨xs, ⟨some ad, cap, rfl, hl, rfl, by have := hm; simp only [maxLen] at this; omega, fun _ => ⟨ad, rfl, fun j p hp => (hxs j p hp).1⟩⟩, by omega, fun y hy => ?_⟩
    obtain ⟨j, hj', rfl⟩ := List.getElem_of_mem hy
    exact (hxs j _ (List.getElem?_eq_getElem hj')).2
end Go.Proofs.Ytocdpfdnnijdkaa.G
