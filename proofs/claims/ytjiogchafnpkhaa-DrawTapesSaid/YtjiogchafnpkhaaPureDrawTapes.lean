/- The plain statement of the law DrawTapes. -/
import Derived.Test.YtjiogchafnpkhaaStDrawTapes
namespace Go.Proofs.Ytjiogchafnpkhaa.Pure
open Go.RowKit Go.Proofs.YtjiogchafnpkhaaW.PrintWords Go.Proofs.Ytjiogchafnpkhaa.D
theorem tape_at (l : List Int) : ∀ i : Nat, atI 2 l 0 i = ((min i l.length : Nat) : Int)
  | 0 => by simp [atI]
  | i + 1 => by
    show nextAt 2 l (atI 2 l 0 i) = _
    rw [tape_at l i]
    unfold nextAt tapeAt
    rw [if_pos rfl]
    split <;> omega
theorem tape_out (l : List Int) (m i : Nat) (h : i < m) : rd (outI 2 0 0 l 0 m) (i : Int) = wrap64 (tapeX l ((min i l.length : Nat) : Int)) := by
  have : (outI 2 0 0 l 0 m)[i]? = some (nextX 2 (stI 2 0 0 i) l (atI 2 l 0 i)) := by simp [outI, h]
  have e : rd (outI 2 0 0 l 0 m) (i : Int) = nextX 2 (stI 2 0 0 i) l (atI 2 l 0 i) := by simp [rd, List.getD_eq_getElem?_getD, this]
  rw [e, tape_at]
  unfold nextX
  rw [if_neg (by decide), if_pos rfl]
theorem DrawTapes : DrawTapes_Stmt := by
  intro l more hl hm
  refine ⟨0, ?_⟩
  unfold pacemakerlaw06_DrawTapes.f
  by_cases h : (l.length : Int) > 900 ∨ more < 0 ∨ more > 50
  · rw [if_pos h]
  · rw [if_neg h, if_pos]
    have hu : ∀ i : Nat, 0 ≤ rdOf 0 l (i : Int) := by
      intro i
      unfold rdOf
      simp only [Int.toNat_natCast]
      by_cases hi : i < l.length
      · have := hl.2 l[i] (List.getElem_mem hi)
        have hz : (0 : Int) ≤ l[i] := by
          simp [Lit.wf, IntKind.min, IntKind.signed] at this
          omega
        simpa [List.getD_eq_getElem?_getD, hi] using hz
      · simp [List.getD_eq_getElem?_getD, hi]
    refine ⟨l.length + more.toNat, by omega, by rw [tape_at]; omega, fun i hi => ?_, fun i h1 h2 => ?_, hu⟩
    · rw [tape_out _ _ _ (by omega), show min i l.length = i by omega]
      have := hu i
      unfold tapeX
      rw [if_pos (by omega)]
      unfold wrap64
      omega
    · rw [tape_out _ _ _ h2, show min i l.length = l.length by omega]
      unfold tapeX
      rw [if_neg (by omega)]
      unfold wrap64
      omega
end Go.Proofs.Ytjiogchafnpkhaa.Pure
