/- What a reading of each parameter of the law AccountLeft gives: the value, as the printed walks take it. -/
import Derived.Test.YtiodmgcnpaoooaaAx0
import Derived.WalkKit
import Derived.ProofKit
import Derived.OpenShut
import Derived.ShutString
import Derived.ChangeOld
import Derived.Below
import Derived.SizedLaws
import Derived.Deep.Slices
import Derived.Deep.Fields
namespace Go.Proofs.Ytiodmgcnpaoooaa.A
open Go.ChangeShapes Go.WideShapes Go.ChangeAt Go.RowKit Go.Deep Go.Proofs.YtiodmgcnpaoooaaW.PrintWords Go.Proofs.YtiodmgcnpaoooaaW.PrintLast
open Go.ChangeMaps (open_string shut_string)
theorem open_T3 {H : Type} {enc : TypeId × Value → H} {w : World} {base : Nat} {spare : Nat → Bool} {held : Bool} {fuel : Nat} {cs : List Value} {x : DataW H × List MemPlace} (h : DataW.trod enc Try.prog w base spare held fuel 3 cs = some x) : ∃ a : Int, (Kd.int .i64).K w a cs ∧ (Lit.int .i64 a).wf = true := by
  obtain ⟨n, rfl, _, hw⟩ := DataW.trod_int Try.underlying3 h
  exact ⟨n, rfl, hw⟩
def Q23 (a : S23) : Prop := (Lit.int .i64 a.f0).wf = true ∧ (Lit.int .i64 a.f1).wf = true ∧ (Lit.int .i64 a.f2).wf = true ∧ (Lit.int .i64 a.f3).wf = true ∧ (Lit.int .i64 a.f4).wf = true ∧ (Lit.int .i64 a.f5).wf = true ∧ (Lit.int .i64 a.f6).wf = true ∧ (Lit.int .i64 a.f7).wf = true ∧ (Lit.int .i64 a.f8).wf = true ∧ (Lit.int .i64 a.f9).wf = true ∧ (Lit.int .i64 a.f10).wf = true ∧ (Lit.int .i64 a.f11).wf = true ∧ (Lit.int .i64 a.f12).wf = true ∧ (Lit.int .i64 a.f13).wf = true ∧ (Lit.int .i64 a.f14).wf = true
theorem pair_cells23 {w : World} {cs : List Value} {a0 : Int} {a1 : Int} {a2 : Int} {a3 : Int} {a4 : Int} {a5 : Int} {a6 : Int} {a7 : Int} {a8 : Int} {a9 : Int} {a10 : Int} {a11 : Int} {a12 : Int} {a13 : Int} {a14 : Int} (hcl : cs.length = 15) (h0 : (Kd.int .i64).K w a0 ((cs.drop 0).take 1)) (h1 : (Kd.int .i64).K w a1 ((cs.drop 1).take 1)) (h2 : (Kd.int .i64).K w a2 ((cs.drop 2).take 1)) (h3 : (Kd.int .i64).K w a3 ((cs.drop 3).take 1)) (h4 : (Kd.int .i64).K w a4 ((cs.drop 4).take 1)) (h5 : (Kd.int .i64).K w a5 ((cs.drop 5).take 1)) (h6 : (Kd.int .i64).K w a6 ((cs.drop 6).take 1)) (h7 : (Kd.int .i64).K w a7 ((cs.drop 7).take 1)) (h8 : (Kd.int .i64).K w a8 ((cs.drop 8).take 1)) (h9 : (Kd.int .i64).K w a9 ((cs.drop 9).take 1)) (h10 : (Kd.int .i64).K w a10 ((cs.drop 10).take 1)) (h11 : (Kd.int .i64).K w a11 ((cs.drop 11).take 1)) (h12 : (Kd.int .i64).K w a12 ((cs.drop 12).take 1)) (h13 : (Kd.int .i64).K w a13 ((cs.drop 13).take 1)) (h14 : (Kd.int .i64).K w a14 ((cs.drop 14).take 1)) : k23.K w ⟨a0, a1, a2, a3, a4, a5, a6, a7, a8, a9, a10, a11, a12, a13, a14⟩ cs := by
  match cs, hcl with
  | [c0, c1, c2, c3, c4, c5, c6, c7, c8, c9, c10, c11, c12, c13, c14], _ =>
    simp only [List.drop_succ_cons, List.drop_zero, List.take_succ_cons, List.take_zero] at h0 h1 h2 h3 h4 h5 h6 h7 h8 h9 h10 h11 h12 h13 h14
    injection h0 with h0 _; subst h0; injection h1 with h1 _; subst h1; injection h2 with h2 _; subst h2; injection h3 with h3 _; subst h3; injection h4 with h4 _; subst h4; injection h5 with h5 _; subst h5; injection h6 with h6 _; subst h6; injection h7 with h7 _; subst h7; injection h8 with h8 _; subst h8; injection h9 with h9 _; subst h9; injection h10 with h10 _; subst h10; injection h11 with h11 _; subst h11; injection h12 with h12 _; subst h12; injection h13 with h13 _; subst h13; injection h14 with h14 _; subst h14
    exact k23_mk _ _
theorem open_T23 {H : Type} {enc : TypeId × Value → H} {w : World} {base : Nat} {spare : Nat → Bool} {held : Bool} {fuel : Nat} {cs : List Value} {x : DataW H × List MemPlace} (h : DataW.trod enc Try.prog w base spare held fuel 23 cs = some x) : ∃ a : S23, k23.K w a cs ∧ Q23 a := by
  obtain ⟨xs, n, rfl, hx, hcl, hlen, hg⟩ := DataW.trod_struct Try.underlying23 h
  rw [show Try.prog.cellsOf 23 = 15 from by kernel_rfl] at hcl
  have h0 : DataW.trod enc Try.prog w base spare held n 3 ((cs.drop 0).take (Try.prog.cellsOf 3)) = xs[0]? := hg 0 _ rfl
  rw [List.getElem?_eq_getElem (show 0 < xs.length by rw [hlen]; decide)] at h0
  rw [show Try.prog.cellsOf 3 = 1 from by kernel_rfl] at h0
  obtain ⟨a0, K0, q0⟩ := open_T3 h0
  have h1 : DataW.trod enc Try.prog w base spare held n 3 ((cs.drop 1).take (Try.prog.cellsOf 3)) = xs[1]? := hg 1 _ rfl
  rw [List.getElem?_eq_getElem (show 1 < xs.length by rw [hlen]; decide)] at h1
  rw [show Try.prog.cellsOf 3 = 1 from by kernel_rfl] at h1
  obtain ⟨a1, K1, q1⟩ := open_T3 h1
  have h2 : DataW.trod enc Try.prog w base spare held n 3 ((cs.drop 2).take (Try.prog.cellsOf 3)) = xs[2]? := hg 2 _ rfl
  rw [List.getElem?_eq_getElem (show 2 < xs.length by rw [hlen]; decide)] at h2
  rw [show Try.prog.cellsOf 3 = 1 from by kernel_rfl] at h2
  obtain ⟨a2, K2, q2⟩ := open_T3 h2
  have h3 : DataW.trod enc Try.prog w base spare held n 3 ((cs.drop 3).take (Try.prog.cellsOf 3)) = xs[3]? := hg 3 _ rfl
  rw [List.getElem?_eq_getElem (show 3 < xs.length by rw [hlen]; decide)] at h3
  rw [show Try.prog.cellsOf 3 = 1 from by kernel_rfl] at h3
  obtain ⟨a3, K3, q3⟩ := open_T3 h3
  have h4 : DataW.trod enc Try.prog w base spare held n 3 ((cs.drop 4).take (Try.prog.cellsOf 3)) = xs[4]? := hg 4 _ rfl
  rw [List.getElem?_eq_getElem (show 4 < xs.length by rw [hlen]; decide)] at h4
  rw [show Try.prog.cellsOf 3 = 1 from by kernel_rfl] at h4
  obtain ⟨a4, K4, q4⟩ := open_T3 h4
  have h5 : DataW.trod enc Try.prog w base spare held n 3 ((cs.drop 5).take (Try.prog.cellsOf 3)) = xs[5]? := hg 5 _ rfl
  rw [List.getElem?_eq_getElem (show 5 < xs.length by rw [hlen]; decide)] at h5
  rw [show Try.prog.cellsOf 3 = 1 from by kernel_rfl] at h5
  obtain ⟨a5, K5, q5⟩ := open_T3 h5
  have h6 : DataW.trod enc Try.prog w base spare held n 3 ((cs.drop 6).take (Try.prog.cellsOf 3)) = xs[6]? := hg 6 _ rfl
  rw [List.getElem?_eq_getElem (show 6 < xs.length by rw [hlen]; decide)] at h6
  rw [show Try.prog.cellsOf 3 = 1 from by kernel_rfl] at h6
  obtain ⟨a6, K6, q6⟩ := open_T3 h6
  have h7 : DataW.trod enc Try.prog w base spare held n 3 ((cs.drop 7).take (Try.prog.cellsOf 3)) = xs[7]? := hg 7 _ rfl
  rw [List.getElem?_eq_getElem (show 7 < xs.length by rw [hlen]; decide)] at h7
  rw [show Try.prog.cellsOf 3 = 1 from by kernel_rfl] at h7
  obtain ⟨a7, K7, q7⟩ := open_T3 h7
  have h8 : DataW.trod enc Try.prog w base spare held n 3 ((cs.drop 8).take (Try.prog.cellsOf 3)) = xs[8]? := hg 8 _ rfl
  rw [List.getElem?_eq_getElem (show 8 < xs.length by rw [hlen]; decide)] at h8
  rw [show Try.prog.cellsOf 3 = 1 from by kernel_rfl] at h8
  obtain ⟨a8, K8, q8⟩ := open_T3 h8
  have h9 : DataW.trod enc Try.prog w base spare held n 3 ((cs.drop 9).take (Try.prog.cellsOf 3)) = xs[9]? := hg 9 _ rfl
  rw [List.getElem?_eq_getElem (show 9 < xs.length by rw [hlen]; decide)] at h9
  rw [show Try.prog.cellsOf 3 = 1 from by kernel_rfl] at h9
  obtain ⟨a9, K9, q9⟩ := open_T3 h9
  have h10 : DataW.trod enc Try.prog w base spare held n 3 ((cs.drop 10).take (Try.prog.cellsOf 3)) = xs[10]? := hg 10 _ rfl
  rw [List.getElem?_eq_getElem (show 10 < xs.length by rw [hlen]; decide)] at h10
  rw [show Try.prog.cellsOf 3 = 1 from by kernel_rfl] at h10
  obtain ⟨a10, K10, q10⟩ := open_T3 h10
  have h11 : DataW.trod enc Try.prog w base spare held n 3 ((cs.drop 11).take (Try.prog.cellsOf 3)) = xs[11]? := hg 11 _ rfl
  rw [List.getElem?_eq_getElem (show 11 < xs.length by rw [hlen]; decide)] at h11
  rw [show Try.prog.cellsOf 3 = 1 from by kernel_rfl] at h11
  obtain ⟨a11, K11, q11⟩ := open_T3 h11
  have h12 : DataW.trod enc Try.prog w base spare held n 3 ((cs.drop 12).take (Try.prog.cellsOf 3)) = xs[12]? := hg 12 _ rfl
  rw [List.getElem?_eq_getElem (show 12 < xs.length by rw [hlen]; decide)] at h12
  rw [show Try.prog.cellsOf 3 = 1 from by kernel_rfl] at h12
  obtain ⟨a12, K12, q12⟩ := open_T3 h12
  have h13 : DataW.trod enc Try.prog w base spare held n 3 ((cs.drop 13).take (Try.prog.cellsOf 3)) = xs[13]? := hg 13 _ rfl
  rw [List.getElem?_eq_getElem (show 13 < xs.length by rw [hlen]; decide)] at h13
  rw [show Try.prog.cellsOf 3 = 1 from by kernel_rfl] at h13
  obtain ⟨a13, K13, q13⟩ := open_T3 h13
  have h14 : DataW.trod enc Try.prog w base spare held n 3 ((cs.drop 14).take (Try.prog.cellsOf 3)) = xs[14]? := hg 14 _ rfl
  rw [List.getElem?_eq_getElem (show 14 < xs.length by rw [hlen]; decide)] at h14
  rw [show Try.prog.cellsOf 3 = 1 from by kernel_rfl] at h14
  obtain ⟨a14, K14, q14⟩ := open_T3 h14
  exact ⟨⟨a0, a1, a2, a3, a4, a5, a6, a7, a8, a9, a10, a11, a12, a13, a14⟩, pair_cells23 hcl K0 K1 K2 K3 K4 K5 K6 K7 K8 K9 K10 K11 K12 K13 K14, q0, q1, q2, q3, q4, q5, q6, q7, q8, q9, q10, q11, q12, q13, q14⟩
def Q34 (a : S34) : Prop := (Lit.int .i64 a.f0).wf = true ∧ (Lit.int .i64 a.f1).wf = true ∧ (Lit.int .i64 a.f2).wf = true ∧ (Lit.int .i64 a.f3).wf = true
theorem pair_cells34 {w : World} {cs : List Value} {a0 : Int} {a1 : Int} {a2 : Int} {a3 : Int} (hcl : cs.length = 4) (h0 : (Kd.int .i64).K w a0 ((cs.drop 0).take 1)) (h1 : (Kd.int .i64).K w a1 ((cs.drop 1).take 1)) (h2 : (Kd.int .i64).K w a2 ((cs.drop 2).take 1)) (h3 : (Kd.int .i64).K w a3 ((cs.drop 3).take 1)) : k34.K w ⟨a0, a1, a2, a3⟩ cs := by
  match cs, hcl with
  | [c0, c1, c2, c3], _ =>
    simp only [List.drop_succ_cons, List.drop_zero, List.take_succ_cons, List.take_zero] at h0 h1 h2 h3
    injection h0 with h0 _; subst h0; injection h1 with h1 _; subst h1; injection h2 with h2 _; subst h2; injection h3 with h3 _; subst h3
    exact k34_mk _ _
theorem open_T34 {H : Type} {enc : TypeId × Value → H} {w : World} {base : Nat} {spare : Nat → Bool} {held : Bool} {fuel : Nat} {cs : List Value} {x : DataW H × List MemPlace} (h : DataW.trod enc Try.prog w base spare held fuel 34 cs = some x) : ∃ a : S34, k34.K w a cs ∧ Q34 a := by
  obtain ⟨xs, n, rfl, hx, hcl, hlen, hg⟩ := DataW.trod_struct Try.underlying34 h
  rw [show Try.prog.cellsOf 34 = 4 from by kernel_rfl] at hcl
  have h0 : DataW.trod enc Try.prog w base spare held n 3 ((cs.drop 0).take (Try.prog.cellsOf 3)) = xs[0]? := hg 0 _ rfl
  rw [List.getElem?_eq_getElem (show 0 < xs.length by rw [hlen]; decide)] at h0
  rw [show Try.prog.cellsOf 3 = 1 from by kernel_rfl] at h0
  obtain ⟨a0, K0, q0⟩ := open_T3 h0
  have h1 : DataW.trod enc Try.prog w base spare held n 3 ((cs.drop 1).take (Try.prog.cellsOf 3)) = xs[1]? := hg 1 _ rfl
  rw [List.getElem?_eq_getElem (show 1 < xs.length by rw [hlen]; decide)] at h1
  rw [show Try.prog.cellsOf 3 = 1 from by kernel_rfl] at h1
  obtain ⟨a1, K1, q1⟩ := open_T3 h1
  have h2 : DataW.trod enc Try.prog w base spare held n 3 ((cs.drop 2).take (Try.prog.cellsOf 3)) = xs[2]? := hg 2 _ rfl
  rw [List.getElem?_eq_getElem (show 2 < xs.length by rw [hlen]; decide)] at h2
  rw [show Try.prog.cellsOf 3 = 1 from by kernel_rfl] at h2
  obtain ⟨a2, K2, q2⟩ := open_T3 h2
  have h3 : DataW.trod enc Try.prog w base spare held n 3 ((cs.drop 3).take (Try.prog.cellsOf 3)) = xs[3]? := hg 3 _ rfl
  rw [List.getElem?_eq_getElem (show 3 < xs.length by rw [hlen]; decide)] at h3
  rw [show Try.prog.cellsOf 3 = 1 from by kernel_rfl] at h3
  obtain ⟨a3, K3, q3⟩ := open_T3 h3
  exact ⟨⟨a0, a1, a2, a3⟩, pair_cells34 hcl K0 K1 K2 K3, q0, q1, q2, q3⟩
end Go.Proofs.Ytiodmgcnpaoooaa.A
