/- What a reading of each parameter of the law OrderDoes gives: the value, as the printed walks take it. -/
import Derived.Test.YtjiogchafnpkhaaDu
import Derived.WalkKit
import Derived.ProofKit
import Derived.OpenShut
import Derived.ShutString
import Derived.ChangeOld
import Derived.Below
import Derived.SizedLaws
import Derived.Deep.Slices
import Derived.Deep.Fields
namespace Go.Proofs.Ytjiogchafnpkhaa.D
open Go.ChangeShapes Go.WideShapes Go.ChangeAt Go.RowKit Go.Deep Go.Proofs.YtjiogchafnpkhaaW.PrintWords Go.Proofs.YtjiogchafnpkhaaW.PrintLast
open Go.ChangeMaps (open_string shut_string)
theorem okWide_arr {P : Program} {w : World} {r : Reach} {base : Nat} {t : TypeId} {v : Value} {n : Nat} {e : TypeId} (ht : P.underlying t = some (.array n e)) (h : Value.okWide P w r base t v) : ∃ cs, v = .agg cs ∧ cs.size = P.cellsOf t := by
  simp only [Value.okWide, ht] at h
  obtain ⟨cs, h1, h2, _⟩ := h
  exact ⟨cs, h1, h2⟩
theorem open_T3 {H : Type} {enc : TypeId × Value → H} {w : World} {base : Nat} {spare : Nat → Bool} {held : Bool} {fuel : Nat} {cs : List Value} {x : DataW H × List MemPlace} (h : DataW.trod enc Try.prog w base spare held fuel 3 cs = some x) : ∃ a : Int, (Kd.int .i64).K w a cs ∧ (Lit.int .i64 a).wf = true := by
  obtain ⟨n, rfl, _, hw⟩ := DataW.trod_int Try.underlying3 h
  exact ⟨n, rfl, hw⟩
theorem open_T4 {H : Type} {enc : TypeId × Value → H} {w : World} {base : Nat} {spare : Nat → Bool} {held : Bool} {fuel : Nat} {cs : List Value} {x : DataW H × List MemPlace} (h : DataW.trod enc Try.prog w base spare held fuel 4 cs = some x) : ∃ a : Bool, Kd.bool.K w a cs ∧ True := by
  obtain ⟨n, rfl, _⟩ := DataW.trod_bool Try.underlying4 h
  exact ⟨n, rfl, trivial⟩
def Q45 (a : S45) : Prop := True ∧ True ∧ True ∧ True
theorem pair_cells45 {w : World} {cs : List Value} {a0 : Bool} {a1 : Bool} {a2 : Bool} {a3 : Bool} (hcl : cs.length = 4) (h0 : Kd.bool.K w a0 ((cs.drop 0).take 1)) (h1 : Kd.bool.K w a1 ((cs.drop 1).take 1)) (h2 : Kd.bool.K w a2 ((cs.drop 2).take 1)) (h3 : Kd.bool.K w a3 ((cs.drop 3).take 1)) : k45.K w ⟨a0, a1, a2, a3⟩ cs := by
  match cs, hcl with
  | [c0, c1, c2, c3], _ =>
    simp only [List.drop_succ_cons, List.drop_zero, List.take_succ_cons, List.take_zero] at h0 h1 h2 h3
    injection h0 with h0 _; subst h0; injection h1 with h1 _; subst h1; injection h2 with h2 _; subst h2; injection h3 with h3 _; subst h3
    exact k45_mk _ _
theorem open_T45 {H : Type} {enc : TypeId × Value → H} {w : World} {base : Nat} {spare : Nat → Bool} {held : Bool} {fuel : Nat} {cs : List Value} {x : DataW H × List MemPlace} (h : DataW.trod enc Try.prog w base spare held fuel 45 cs = some x) : ∃ a : S45, k45.K w a cs ∧ Q45 a := by
  obtain ⟨xs, n, rfl, hx, hcl, hlen, hg⟩ := DataW.trod_array Try.underlying45 h
  rw [show Try.prog.cellsOf 45 = 4 from by kernel_rfl] at hcl
  have h0 := hg 0 (by decide)
  rw [List.getElem?_eq_getElem (show 0 < xs.length by rw [hlen]; decide)] at h0
  rw [show Try.prog.cellsOf 4 = 1 from by kernel_rfl] at h0
  obtain ⟨a0, K0, q0⟩ := open_T4 h0
  have h1 := hg 1 (by decide)
  rw [List.getElem?_eq_getElem (show 1 < xs.length by rw [hlen]; decide)] at h1
  rw [show Try.prog.cellsOf 4 = 1 from by kernel_rfl] at h1
  obtain ⟨a1, K1, q1⟩ := open_T4 h1
  have h2 := hg 2 (by decide)
  rw [List.getElem?_eq_getElem (show 2 < xs.length by rw [hlen]; decide)] at h2
  rw [show Try.prog.cellsOf 4 = 1 from by kernel_rfl] at h2
  obtain ⟨a2, K2, q2⟩ := open_T4 h2
  have h3 := hg 3 (by decide)
  rw [List.getElem?_eq_getElem (show 3 < xs.length by rw [hlen]; decide)] at h3
  rw [show Try.prog.cellsOf 4 = 1 from by kernel_rfl] at h3
  obtain ⟨a3, K3, q3⟩ := open_T4 h3
  exact ⟨⟨a0, a1, a2, a3⟩, pair_cells45 hcl K0 K1 K2 K3, q0, q1, q2, q3⟩
theorem open_T22 {H : Type} {enc : TypeId × Value → H} {w : World} {base : Nat} {spare : Nat → Bool} {held : Bool} {fuel : Nat} {cs : List Value} {x : DataW H × List MemPlace} (h : DataW.trod enc Try.prog w base spare held fuel 22 cs = some x) : ∃ a : Int, (Kd.int .u64).K w a cs ∧ (Lit.int .u64 a).wf = true := by
  obtain ⟨n, rfl, _, hw⟩ := DataW.trod_int Try.underlying22 h
  exact ⟨n, rfl, hw⟩
theorem open_T23 {H : Type} {enc : TypeId × Value → H} {w : World} {base : Nat} {spare : Nat → Bool} {held : Bool} {fuel : Nat} {cs : List Value} {x : DataW H × List MemPlace} (h : DataW.trod enc Try.prog w base spare held fuel 23 cs = some x) : ∃ a : (List Int), (Kd.slice 22 (Kd.int .u64)).K w a cs ∧ (a.length ≤ maxLen ∧ ∀ y ∈ a, (Lit.int .u64 y).wf = true) := by
  rcases open_slice Try.underlying23 h with ⟨rfl, _⟩ | ⟨ad, len, cap, m, n, D, Pl, rfl, _, hl, hm, _, _, hi⟩
  · exact ⟨[], ⟨none, 0, rfl, Nat.le_refl _, rfl, by simp, fun hn => absurd hn (by simp)⟩, by simp, fun y hy => by cases hy⟩
  · have hle : len ≤ m := by
      rename_i hmm _
      rw [hmm]; split <;> omega
    have hC : Try.prog.cellsOf 22 = 1 := by kernel_rfl
    have hj : ∀ j, j < len → ∃ a : Int, (∃ c, c.length = 1 ∧ (Kd.int .u64).K w a c ∧ ∀ i u, c[i]? = some u → w.cell? (ad.add (j * 1 + i)) = some u) ∧ (Lit.int .u64 a).wf = true := by
      intro j hjl
      obtain ⟨cs', hc, ht⟩ := hi j (by omega)
      rw [hC] at hc
      obtain ⟨a, hK, hq⟩ := open_T22 ht
      obtain ⟨_, hcl, hat⟩ := World.cells?_some hc
      refine ⟨a, ⟨cs', hcl, hK, fun i u hu => ?_⟩, hq⟩
      have hil : i < 1 := by have := (List.getElem?_eq_some_iff.1 hu).1; omega
      rw [← Go.Deep.add_add, hat i hil, hu]
    obtain ⟨xs, hxl, hxs⟩ : ∃ xs : List Int, xs.length = len ∧ ∀ j p, xs[j]? = some p → (∃ c, c.length = 1 ∧ (Kd.int .u64).K w p c ∧ ∀ i u, c[i]? = some u → w.cell? (ad.add (j * 1 + i)) = some u) ∧ (Lit.int .u64 p).wf = true := by
      refine ⟨List.ofFn (fun j : Fin len => Classical.choose (hj j.1 j.2)), by simp, fun j p hp => ?_⟩
      have hjl : j < len := by have := (List.getElem?_eq_some_iff.1 hp).1; simpa using this
      have hpe : p = Classical.choose (hj j hjl) := by
        rw [List.getElem?_ofFn, dif_pos hjl] at hp
        exact (Option.some.inj hp).symm
      rw [hpe]
      exact Classical.choose_spec (hj j hjl)
    subst hxl
    refine ⟨xs, ⟨some ad, cap, rfl, hl, rfl, by have := hm; simp only [maxLen] at this; omega, fun _ => ⟨ad, rfl, fun j p hp => (hxs j p hp).1⟩⟩, by omega, fun y hy => ?_⟩
    obtain ⟨j, hj', rfl⟩ := List.getElem_of_mem hy
    exact (hxs j _ (List.getElem?_eq_getElem hj')).2
def Q25 (a : S25) : Prop := (Lit.int .i64 a.f0).wf = true ∧ (Lit.int .u64 a.f1).wf = true ∧ (Lit.int .u64 a.f2).wf = true ∧ (a.f3.length ≤ maxLen ∧ ∀ y ∈ a.f3, (Lit.int .u64 y).wf = true) ∧ (Lit.int .i64 a.f4).wf = true
theorem pair_cells25 {w : World} {cs : List Value} {a0 : Int} {a1 : Int} {a2 : Int} {a3 : (List Int)} {a4 : Int} (hcl : cs.length = 5) (h0 : (Kd.int .i64).K w a0 ((cs.drop 0).take 1)) (h1 : (Kd.int .u64).K w a1 ((cs.drop 1).take 1)) (h2 : (Kd.int .u64).K w a2 ((cs.drop 2).take 1)) (h3 : (Kd.slice 22 (Kd.int .u64)).K w a3 ((cs.drop 3).take 1)) (h4 : (Kd.int .i64).K w a4 ((cs.drop 4).take 1)) : k25.K w ⟨a0, a1, a2, a3, a4⟩ cs := by
  match cs, hcl with
  | [c0, c1, c2, c3, c4], _ =>
    simp only [List.drop_succ_cons, List.drop_zero, List.take_succ_cons, List.take_zero] at h0 h1 h2 h3 h4
    injection h0 with h0 _; subst h0; injection h1 with h1 _; subst h1; injection h2 with h2 _; subst h2; obtain ⟨A3, n3, e3, l3, r3⟩ := h3; injection e3 with e3 _; subst e3; injection h4 with h4 _; subst h4
    exact k25_mk _ _ l3 r3
theorem open_T25 {H : Type} {enc : TypeId × Value → H} {w : World} {base : Nat} {spare : Nat → Bool} {held : Bool} {fuel : Nat} {cs : List Value} {x : DataW H × List MemPlace} (h : DataW.trod enc Try.prog w base spare held fuel 25 cs = some x) : ∃ a : S25, k25.K w a cs ∧ Q25 a := by
  obtain ⟨xs, n, rfl, hx, hcl, hlen, hg⟩ := DataW.trod_struct Try.underlying25 h
  rw [show Try.prog.cellsOf 25 = 5 from by kernel_rfl] at hcl
  have h0 : DataW.trod enc Try.prog w base spare held n 3 ((cs.drop 0).take (Try.prog.cellsOf 3)) = xs[0]? := hg 0 _ rfl
  rw [List.getElem?_eq_getElem (show 0 < xs.length by rw [hlen]; decide)] at h0
  rw [show Try.prog.cellsOf 3 = 1 from by kernel_rfl] at h0
  obtain ⟨a0, K0, q0⟩ := open_T3 h0
  have h1 : DataW.trod enc Try.prog w base spare held n 22 ((cs.drop 1).take (Try.prog.cellsOf 22)) = xs[1]? := hg 1 _ rfl
  rw [List.getElem?_eq_getElem (show 1 < xs.length by rw [hlen]; decide)] at h1
  rw [show Try.prog.cellsOf 22 = 1 from by kernel_rfl] at h1
  obtain ⟨a1, K1, q1⟩ := open_T22 h1
  have h2 : DataW.trod enc Try.prog w base spare held n 22 ((cs.drop 2).take (Try.prog.cellsOf 22)) = xs[2]? := hg 2 _ rfl
  rw [List.getElem?_eq_getElem (show 2 < xs.length by rw [hlen]; decide)] at h2
  rw [show Try.prog.cellsOf 22 = 1 from by kernel_rfl] at h2
  obtain ⟨a2, K2, q2⟩ := open_T22 h2
  have h3 : DataW.trod enc Try.prog w base spare held n 23 ((cs.drop 3).take (Try.prog.cellsOf 23)) = xs[3]? := hg 3 _ rfl
  rw [List.getElem?_eq_getElem (show 3 < xs.length by rw [hlen]; decide)] at h3
  rw [show Try.prog.cellsOf 23 = 1 from by kernel_rfl] at h3
  obtain ⟨a3, K3, q3⟩ := open_T23 h3
  have h4 : DataW.trod enc Try.prog w base spare held n 3 ((cs.drop 4).take (Try.prog.cellsOf 3)) = xs[4]? := hg 4 _ rfl
  rw [List.getElem?_eq_getElem (show 4 < xs.length by rw [hlen]; decide)] at h4
  rw [show Try.prog.cellsOf 3 = 1 from by kernel_rfl] at h4
  obtain ⟨a4, K4, q4⟩ := open_T3 h4
  exact ⟨⟨a0, a1, a2, a3, a4⟩, pair_cells25 hcl K0 K1 K2 K3 K4, q0, q1, q2, q3, q4⟩
end Go.Proofs.Ytjiogchafnpkhaa.D
