import Derived.Test.YtjiogchafnpkhaaP1
namespace Go.Proofs.Ytjiogchafnpkhaa.D
open Go.RowKit Go.Proofs.YtjiogchafnpkhaaW.PrintWords Go.Proofs.YtjiogchafnpkhaaW.PrintLast Go.Proofs.YtjiogchafnpkhaaW.PrintMore
attribute [local go_sem] max2_int min2_int max_two min_two max_three min_three max_four min_four
attribute [local go_sem] Go.Proofs.YtjiogchafnpkhaaS.cell_set_map Go.Proofs.YtjiogchafnpkhaaS.setCell_drewN
set_option linter.unusedVariables false
set_option linter.unusedSimpArgs false
theorem rowE_get (xs : List Int) (ex : Array Value) (j : Nat) (h : j < xs.length) : (mkA xs ++ ex)[j]? = some (Value.int .i64 (rd xs (j : Int))) := by
  rw [Array.getElem?_append_left (by simp [mkA]; exact h)]
  exact mkA_get xs j h
theorem rowE_cell {w : World} {g t : Nat} {xs : List Int} {ex : Array Value} (h : w.heap[g]? = some (.cells (mkA xs ++ ex) t (0, 0))) (j : Nat) (hj : j < xs.length) : w.cell? ⟨g, j, none⟩ = some (.int .i64 (rd xs (j : Int))) := (blk_cell h j).trans (rowE_get xs ex j hj)
theorem rowE_set {w : World} {g t : Nat} {xs : List Int} {ex : Array Value} (h : w.heap[g]? = some (.cells (mkA xs ++ ex) t (0, 0))) (j : Nat) (hj : j < xs.length) (v : Int) : (w.setCell ⟨g, j, none⟩ (.int .i64 v)).heap[g]? = some (.cells (mkA (xs.set j v) ++ ex) t (0, 0)) := by
  have := blk_set h j (.int .i64 v)
  rwa [show (mkA xs ++ ex).setIfInBounds j (Value.int .i64 v) = mkA (xs.set j v) ++ ex by
    rw [← mkA_set]
    apply Array.ext_getElem?
    intro i
    rw [Array.getElem?_setIfInBounds]
    by_cases h1 : j = i
    · subst h1
      rw [if_pos rfl, if_pos (by simp [mkA]; omega), Array.getElem?_append_left (by simp [mkA]; exact hj), Array.getElem?_setIfInBounds, if_pos rfl, if_pos (by simp [mkA]; exact hj)]
    · rw [if_neg h1]
      by_cases h2 : i < xs.length
      · rw [Array.getElem?_append_left (by simp [mkA]; exact h2), Array.getElem?_append_left (by simp [mkA]; exact h2), Array.getElem?_setIfInBounds, if_neg h1]
      · rw [Array.getElem?_append_right (by simp [mkA]; omega), Array.getElem?_append_right (by simp [mkA]; omega)]
        simp [mkA]] at this
theorem rowE_C {w : World} {g t : Nat} {xs : List Int} {ex : Array Value} (hl : xs.length ≤ 9223372036854775807) (h : w.heap[g]? = some (.cells (mkA xs ++ ex) t (0, 0))) : Kd.C (Kd.int .i64) w (some ⟨g, 0, none⟩) xs.length xs := by
  refine ⟨rfl, hl, fun _ => ⟨_, rfl, fun j p hp => ⟨[.int .i64 p], rfl, rfl, fun i u hu => ?_⟩⟩⟩
  match i, hu with
  | 0, hu =>
    simp at hu
    subst hu
    have hj : j < xs.length := (List.getElem?_eq_some_iff.1 hp).1
    have h_ := rowE_cell h j hj
    show w.cell? ((⟨g, 0, none⟩ : Addr).add (j * 1 + 0)) = _
    rw [Nat.mul_one, Nat.add_zero, add0, h_]
    unfold rd
    simp [List.getD_eq_getElem?_getD, hp]
theorem row_of_R {w : World} {base : Nat} {ok : Nat → Prop} {v : Value} {xs : List Int} (h : Kd.R (Kd.int .i64) 3 w base ok v xs) (hp : 0 < xs.length) : ∃ (g cap : Nat) (ex : Array Value), v = .slice (some ⟨g, 0, none⟩) xs.length cap ∧ xs.length ≤ cap ∧ base ≤ g ∧ w.heap[g]? = some (.cells (mkA xs ++ ex) 3 (0, 0)) := by
  obtain ⟨g, cap, rfl, hb, hl, cells, hc⟩ := Kd.R_form h hp
  obtain ⟨_, hcap, hC⟩ := Kd.R_reads' h
  refine ⟨g, cap, cells.extract xs.length cells.size, rfl, hcap, hb, ?_⟩
  rw [hc]
  congr 2
  apply Array.ext_getElem?
  intro j
  by_cases hj : j < xs.length
  · rw [rowE_get xs _ j hj]
    obtain ⟨ad, e, hx⟩ := (Kd.reads_of_C (d := (0 : Int)) hC).at_ (j : Int) (by omega) (by omega)
    injection e with e
    subst e
    rw [Int.toNat_natCast, add0] at hx
    rw [← blk_cell hc j, hx]
    rfl
  · rw [Array.getElem?_append_right (by simp [mkA]; omega)]
    simp [mkA, Array.getElem?_extract]
    by_cases h2 : j < cells.size
    · rw [if_pos (by omega)]
      congr 1
      omega
    · rw [if_neg (by omega)]
      exact Array.getElem?_eq_none (by omega)
end Go.Proofs.Ytjiogchafnpkhaa.D
