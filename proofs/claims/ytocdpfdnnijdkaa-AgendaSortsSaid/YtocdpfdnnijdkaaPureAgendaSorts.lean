/- The plain statement of the law AgendaSorts: times are numbers of 64 bits. -/
import Derived.Test.YtocdpfdnnijdkaaStAgendaSorts
namespace Go.Proofs.Ytocdpfdnnijdkaa.Pure
open Go.RowKit Go.Proofs.YtocdpfdnnijdkaaW.PrintWords Go.Proofs.Ytocdpfdnnijdkaa.G
theorem top_i64 {n : Int} (h : (Lit.int .i64 n).wf = true) : n ≤ 9223372036854775807 := by
  simp [Lit.wf, IntKind.min, IntKind.max, IntKind.signed, IntKind.bits] at h
  omega
theorem AgendaSorts : AgendaSorts_Stmt := by
  intro ts h
  refine ⟨0, ?_⟩
  unfold pacemakerlaw29_AgendaSorts.f
  refine if_pos (fun k hk => ?_)
  refine top_i64 (h.2 _ ?_)
  unfold rd
  rw [Int.toNat_natCast, List.getD_eq_getElem?_getD, List.getElem?_eq_getElem hk]
  exact List.getElem_mem hk
end Go.Proofs.Ytocdpfdnnijdkaa.Pure
