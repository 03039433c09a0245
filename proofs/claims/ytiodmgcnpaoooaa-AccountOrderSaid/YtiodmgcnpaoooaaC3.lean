import Derived.Test.YtiodmgcnpaoooaaC0
import Derived.Test.YtiodmgcnpaoooaaC1a
import Derived.Test.YtiodmgcnpaoooaaC1b
import Derived.Test.YtiodmgcnpaoooaaC2
namespace Go.Proofs.Ytiodmgcnpaoooaa.A
open Go.RowKit Go.Proofs.YtiodmgcnpaoooaaW.PrintWords Go.Proofs.YtiodmgcnpaoooaaW.PrintLast Go.Proofs.YtiodmgcnpaoooaaW.PrintMore
attribute [local go_sem] max2_int min2_int max_two min_two max_three min_three max_four min_four
attribute [local go_sem] Go.Proofs.YtiodmgcnpaoooaaS.cell_set_map Go.Proofs.YtiodmgcnpaoooaaS.setCell_drewN
set_option linter.unusedVariables false
set_option linter.unusedSimpArgs false
theorem order_all (m : S23) (s0 s1 s2 s3 t0 t1 t2 t3 : Int) (w : World) (h0 : -9223372036854775808 ≤ m.f9) : Calls Try.prog 5 #[.agg #[.int .i64 m.f0, .int .i64 m.f1, .int .i64 m.f2, .int .i64 m.f3, .int .i64 m.f4, .int .i64 m.f5, .int .i64 m.f6, .int .i64 m.f7, .int .i64 m.f8, .int .i64 m.f9, .int .i64 m.f10, .int .i64 m.f11, .int .i64 m.f12, .int .i64 m.f13, .int .i64 m.f14], .agg #[.int .i64 s0, .int .i64 s1, .int .i64 s2, .int .i64 s3], .agg #[.int .i64 t0, .int .i64 t1, .int .i64 t2, .int .i64 t3]] w fun e w' => e = .returned (.bool true) ∧ Below w.heap.size w w' := by
  by_cases c1 : s0 = 1
  · subst c1
    by_cases d1 : t0 = 1
    · subst d1
      by_cases h9 : m.f9 < 1023
      · exact order_11 m s1 s2 s3 t1 t2 t3 (doneF m 1 s1 s2 s3).1 (doneF (doneF m 1 s1 s2 s3).1 1 t1 t2 t3).1 (doneF m 1 t1 t2 t3).1 (doneF (doneF m 1 t1 t2 t3).1 1 s1 s2 s3).1 (doneF m 1 s1 s2 s3).2 (doneF (doneF m 1 s1 s2 s3).1 1 t1 t2 t3).2 (doneF m 1 t1 t2 t3).2 (doneF (doneF m 1 t1 t2 t3).1 1 s1 s2 s3).2 w h9 rfl rfl rfl rfl (fun c1 c2 c3 c4 => order_pure (.inl rfl) (.inl rfl) h9 h0 (Prod.ext rfl c1) (Prod.ext rfl c2) (Prod.ext rfl c3) (Prod.ext rfl c4))
      · exact order_n11 m s1 s2 s3 t1 t2 t3 w (by omega)
    · by_cases d2 : t0 = 2
      · subst d2
        by_cases h9 : m.f9 < 1023
        · exact order_12 m s1 s2 s3 t1 t2 t3 (doneF m 1 s1 s2 s3).1 (doneF (doneF m 1 s1 s2 s3).1 2 t1 t2 t3).1 (doneF m 2 t1 t2 t3).1 (doneF (doneF m 2 t1 t2 t3).1 1 s1 s2 s3).1 (doneF m 1 s1 s2 s3).2 (doneF (doneF m 1 s1 s2 s3).1 2 t1 t2 t3).2 (doneF m 2 t1 t2 t3).2 (doneF (doneF m 2 t1 t2 t3).1 1 s1 s2 s3).2 w h9 rfl rfl rfl rfl (fun c1 c2 c3 c4 => order_pure (.inl rfl) (.inr rfl) h9 h0 (Prod.ext rfl c1) (Prod.ext rfl c2) (Prod.ext rfl c3) (Prod.ext rfl c4))
        · exact order_n12 m s1 s2 s3 t1 t2 t3 w (by omega)
      · exact order_t1 m t0 s1 s2 s3 t1 t2 t3 w ⟨d1, d2⟩
  · by_cases c2 : s0 = 2
    · subst c2
      by_cases d1 : t0 = 1
      · subst d1
        by_cases h9 : m.f9 < 1023
        · exact order_21 m s1 s2 s3 t1 t2 t3 (doneF m 2 s1 s2 s3).1 (doneF (doneF m 2 s1 s2 s3).1 1 t1 t2 t3).1 (doneF m 1 t1 t2 t3).1 (doneF (doneF m 1 t1 t2 t3).1 2 s1 s2 s3).1 (doneF m 2 s1 s2 s3).2 (doneF (doneF m 2 s1 s2 s3).1 1 t1 t2 t3).2 (doneF m 1 t1 t2 t3).2 (doneF (doneF m 1 t1 t2 t3).1 2 s1 s2 s3).2 w h9 rfl rfl rfl rfl (fun c1 c2 c3 c4 => order_pure (.inr rfl) (.inl rfl) h9 h0 (Prod.ext rfl c1) (Prod.ext rfl c2) (Prod.ext rfl c3) (Prod.ext rfl c4))
        · exact order_n21 m s1 s2 s3 t1 t2 t3 w (by omega)
      · by_cases d2 : t0 = 2
        · subst d2
          by_cases h9 : m.f9 < 1023
          · exact order_22 m s1 s2 s3 t1 t2 t3 (doneF m 2 s1 s2 s3).1 (doneF (doneF m 2 s1 s2 s3).1 2 t1 t2 t3).1 (doneF m 2 t1 t2 t3).1 (doneF (doneF m 2 t1 t2 t3).1 2 s1 s2 s3).1 (doneF m 2 s1 s2 s3).2 (doneF (doneF m 2 s1 s2 s3).1 2 t1 t2 t3).2 (doneF m 2 t1 t2 t3).2 (doneF (doneF m 2 t1 t2 t3).1 2 s1 s2 s3).2 w h9 rfl rfl rfl rfl (fun c1 c2 c3 c4 => order_pure (.inr rfl) (.inr rfl) h9 h0 (Prod.ext rfl c1) (Prod.ext rfl c2) (Prod.ext rfl c3) (Prod.ext rfl c4))
          · exact order_n22 m s1 s2 s3 t1 t2 t3 w (by omega)
        · exact order_t2 m t0 s1 s2 s3 t1 t2 t3 w ⟨d1, d2⟩
    · exact order_s m s0 t0 s1 s2 s3 t1 t2 t3 w ⟨c1, c2⟩
open Classical in
/-- The law AccountOrder, as the walk needs it. -/
noncomputable def pacemakerlaw09_AccountOrder.f (_q : Nat) (_a0 _a1 _a2 _a3 _a4 _a5 _a6 _a7 _a8 a9 _a10 _a11 _a12 _a13 _a14 _s0 _s1 _s2 _s3 _t0 _t1 _t2 _t3 : Int) : Option Bool := if -9223372036854775808 ≤ a9 then some true else none
theorem pacemakerlaw09_AccountOrder.calls (q : Nat) (a0 a1 a2 a3 a4 a5 a6 a7 a8 a9 a10 a11 a12 a13 a14 s0 s1 s2 s3 t0 t1 t2 t3 : Int) (r : Bool) (w : World) (HT : Aside0 (r = true)) (h : pacemakerlaw09_AccountOrder.f q a0 a1 a2 a3 a4 a5 a6 a7 a8 a9 a10 a11 a12 a13 a14 s0 s1 s2 s3 t0 t1 t2 t3 = some r) :
    Calls Try.prog 5 #[.agg #[.int .i64 a0, .int .i64 a1, .int .i64 a2, .int .i64 a3, .int .i64 a4, .int .i64 a5, .int .i64 a6, .int .i64 a7, .int .i64 a8, .int .i64 a9, .int .i64 a10, .int .i64 a11, .int .i64 a12, .int .i64 a13, .int .i64 a14], .agg #[.int .i64 s0, .int .i64 s1, .int .i64 s2, .int .i64 s3], .agg #[.int .i64 t0, .int .i64 t1, .int .i64 t2, .int .i64 t3]] w fun e w' => e = .returned (.bool r) ∧ Below w.heap.size w w' := by
  obtain rfl := HT.out
  unfold pacemakerlaw09_AccountOrder.f at h
  split at h
  · rename_i H
    exact order_all ⟨a0, a1, a2, a3, a4, a5, a6, a7, a8, a9, a10, a11, a12, a13, a14⟩ s0 s1 s2 s3 t0 t1 t2 t3 w H
  · exact absurd h (by simp)
end Go.Proofs.Ytiodmgcnpaoooaa.A
