import Derived.Test.YtiodmgcnpaoooaaD0
import Derived.Test.YtiodmgcnpaoooaaD1
import Derived.Test.YtiodmgcnpaoooaaD21
import Derived.Test.YtiodmgcnpaoooaaD22
import Derived.Test.YtiodmgcnpaoooaaD2x
namespace Go.Proofs.Ytiodmgcnpaoooaa.A
open Go.RowKit Go.Proofs.YtiodmgcnpaoooaaW.PrintWords Go.Proofs.YtiodmgcnpaoooaaW.PrintLast Go.Proofs.YtiodmgcnpaoooaaW.PrintMore
attribute [local go_sem] max2_int min2_int max_two min_two max_three min_three max_four min_four
attribute [local go_sem] Go.Proofs.YtiodmgcnpaoooaaS.cell_set_map Go.Proofs.YtiodmgcnpaoooaaS.setCell_drewN
set_option linter.unusedVariables false
set_option linter.unusedSimpArgs false
theorem left_all (m : S23) (s0 s1 s2 s3 : Int) (w : World) : Calls Try.prog 6 #[.agg #[.int .i64 m.f0, .int .i64 m.f1, .int .i64 m.f2, .int .i64 m.f3, .int .i64 m.f4, .int .i64 m.f5, .int .i64 m.f6, .int .i64 m.f7, .int .i64 m.f8, .int .i64 m.f9, .int .i64 m.f10, .int .i64 m.f11, .int .i64 m.f12, .int .i64 m.f13, .int .i64 m.f14], .agg #[.int .i64 s0, .int .i64 s1, .int .i64 s2, .int .i64 s3]] w fun e w' => e = .returned (.bool true) ∧ Below w.heap.size w w' := by
  obtain ⟨r, q0, hd⟩ : ∃ r q0, doneF m s0 s1 s2 s3 = (r, q0) := ⟨_, _, rfl⟩
  by_cases he : q0 = 0
  · subst he
    obtain ⟨hi, hr, h0, h1, hb⟩ := done_isB hd
    have hn := left_n hr
    have hq : (wrap64 (wrap64 (r.f6 - r.f7) - r.f8) == 0) = (wrap64 (r.f4 + r.f5) == r.f3) := by
      rw [Bool.eq_iff_iff, beq_iff_eq, beq_iff_eq]
      exact hn.2.2
    by_cases c0 : s0 = 0
    · subst c0
      exact left_0 m s1 s2 s3 r w hd hi hr _ _ _ _ _ _ rfl rfl rfl rfl (by simp only [i64_w]; rw [hb]; rfl) (by rw [i64_w, i64_w]; exact decide_eq_true hn.1) rfl (by rw [i64_w]; exact decide_eq_true hn.2.1) rfl (by rw [i64_w, i64_w, i64_w]; exact hq.symm) (beq_iff_eq.mpr h0) (beq_iff_eq.mpr h1) (by rw [i64_w, i64_w]; exact left_done hr rfl)
    · by_cases c1 : s0 = 1
      · subst c1
        exact left_1 m s1 s2 s3 r w hd hi hr _ _ _ _ _ _ rfl rfl rfl rfl (by simp only [i64_w]; rw [hb]; rfl) (by rw [i64_w, i64_w]; exact decide_eq_true hn.1) rfl (by rw [i64_w]; exact decide_eq_true hn.2.1) rfl (by rw [i64_w, i64_w, i64_w]; exact hq.symm) (beq_iff_eq.mpr h0) (beq_iff_eq.mpr h1) (by rw [i64_w, i64_w]; exact left_done hr rfl)
      · by_cases c2 : s0 = 2
        · subst c2
          exact left_2 m s1 s2 s3 r w hd hi hr _ _ _ _ _ _ rfl rfl rfl rfl (by simp only [i64_w]; rw [hb]; rfl) (by rw [i64_w, i64_w]; exact decide_eq_true hn.1) rfl (by rw [i64_w]; exact decide_eq_true hn.2.1) rfl (by rw [i64_w, i64_w, i64_w]; exact hq.symm) (beq_iff_eq.mpr h0) (beq_iff_eq.mpr h1) (by rw [i64_w, i64_w]; exact left_done hr rfl)
        · rw [if_neg c0, if_neg (fun hh => hh.elim c1 c2)] at hb
          exact left_x m s0 s1 s2 s3 r w ⟨c0, c1, c2⟩ hd hi hr _ _ _ _ _ _ rfl rfl rfl rfl (by simp only [i64_w]; rw [hb, Int.add_zero]) (by rw [i64_w, i64_w]; exact decide_eq_true hn.1) rfl (by rw [i64_w]; exact decide_eq_true hn.2.1) rfl (by rw [i64_w, i64_w, i64_w]; exact hq.symm) (beq_iff_eq.mpr h0) (beq_iff_eq.mpr h1) (by rw [i64_w, i64_w]; exact left_done hr rfl)
  · exact left_err m s0 s1 s2 s3 r q0 w hd he
open Classical in
/-- The law AccountLeft, as the walk needs it. -/
noncomputable def pacemakerlaw09_AccountLeft.f (_q : Nat) (_a0 _a1 _a2 _a3 _a4 _a5 _a6 _a7 _a8 _a9 _a10 _a11 _a12 _a13 _a14 _s0 _s1 _s2 _s3 : Int) : Option Bool := some true
theorem pacemakerlaw09_AccountLeft.calls (q : Nat) (a0 a1 a2 a3 a4 a5 a6 a7 a8 a9 a10 a11 a12 a13 a14 s0 s1 s2 s3 : Int) (r : Bool) (w : World) (HT : Aside0 (r = true)) (_h : pacemakerlaw09_AccountLeft.f q a0 a1 a2 a3 a4 a5 a6 a7 a8 a9 a10 a11 a12 a13 a14 s0 s1 s2 s3 = some r) :
    Calls Try.prog 6 #[.agg #[.int .i64 a0, .int .i64 a1, .int .i64 a2, .int .i64 a3, .int .i64 a4, .int .i64 a5, .int .i64 a6, .int .i64 a7, .int .i64 a8, .int .i64 a9, .int .i64 a10, .int .i64 a11, .int .i64 a12, .int .i64 a13, .int .i64 a14], .agg #[.int .i64 s0, .int .i64 s1, .int .i64 s2, .int .i64 s3]] w fun e w' => e = .returned (.bool r) ∧ Below w.heap.size w w' := by
  obtain rfl := HT.out
  exact left_all ⟨a0, a1, a2, a3, a4, a5, a6, a7, a8, a9, a10, a11, a12, a13, a14⟩ s0 s1 s2 s3 w
end Go.Proofs.Ytiodmgcnpaoooaa.A
