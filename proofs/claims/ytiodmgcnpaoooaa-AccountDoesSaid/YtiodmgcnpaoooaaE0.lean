import Derived.Test.YtiodmgcnpaoooaaB1
import Derived.Test.YtiodmgcnpaoooaaAx15
import Derived.Test.YtiodmgcnpaoooaaAx16
import Derived.Test.YtiodmgcnpaoooaaAx12
namespace Go.Proofs.Ytiodmgcnpaoooaa.A
open Go.RowKit Go.Proofs.YtiodmgcnpaoooaaW.PrintWords Go.Proofs.YtiodmgcnpaoooaaW.PrintLast Go.Proofs.YtiodmgcnpaoooaaW.PrintMore
attribute [local go_sem] max2_int min2_int max_two min_two max_three min_three max_four min_four
attribute [local go_sem] Go.Proofs.YtiodmgcnpaoooaaS.cell_set_map Go.Proofs.YtiodmgcnpaoooaaS.setCell_drewN
set_option linter.unusedVariables false
set_option linter.unusedSimpArgs false
theorem rtime_eq (x : Int) : pacemakerref09_Time.f x = some (timeB x) := by
  unfold pacemakerref09_Time.f timeB
  split <;> simp_all <;> (try (intros; exfalso; omega))
theorem rsize_eq (x : Int) : pacemakerref09_Size.f x = some (sizeB x) := by
  unfold pacemakerref09_Size.f sizeB
  split <;> simp_all <;> (try (intros; exfalso; omega))
theorem rfit_eq (a b : Int) : pacemakerref09_sized.f a b = some (fitB a b) := by
  unfold pacemakerref09_sized.f fitB
  rw [Int.mul_comm 9000 b]
  split <;> simp_all <;> (try (intros; exfalso; omega))
theorem wmul (n : Int) : wrap64 (wrap64 (n * 60000000) * 60000000) = wrap64 (n * 3600000000000000) := by unfold wrap64; omega
theorem rsums_eq (m : S23) : pacemakerref09_sums.f m.f0 m.f1 m.f2 m.f3 m.f4 m.f5 m.f6 m.f7 m.f8 m.f9 m.f10 m.f11 m.f12 m.f13 m.f14 = some (sampleOk m.f9 60000000 [m.f10, m.f11] && sampleOk m.f9 3600000000000000 [m.f12, m.f13, m.f14]) := by
  unfold pacemakerref09_sums.f sampleOk
  rw [wmul]
  generalize wrap64 (m.f9 * 60000000) = one
  generalize wrap64 (m.f9 * 3600000000000000) = two
  simp only [List.all_cons, List.all_nil, Bool.and_true]
  (repeat' split) <;> simp_all <;> (try (intros; exfalso; omega))
theorem j2_eq (m : S23) (b : Bool) : pacemakerref09_Is.j2 1 b m.f0 m.f1 m.f2 m.f3 m.f4 m.f5 m.f6 m.f7 m.f8 m.f9 m.f10 m.f11 m.f12 m.f13 m.f14 = some (!b && (((wrap64 (m.f4 + m.f5) == m.f3) == resB m) && samplesB m)) := by
  simp only [pacemakerref09_Is.j2]
  rw [rsums_eq]
  unfold resB samplesB
  generalize (wrap64 (m.f4 + m.f5) == m.f3) = p
  generalize (wrap64 (m.f7 + m.f8) == m.f6) = q
  generalize (sampleOk m.f9 60000000 [m.f10, m.f11] && sampleOk m.f9 3600000000000000 [m.f12, m.f13, m.f14]) = u
  simp only [Option.bind_some]
  cases b <;> cases p <;> cases q <;> simp <;> (repeat' split) <;> simp_all <;> (try (intros; exfalso; omega)) <;> (try (simp [show ¬ m.f9 < 0 by omega, show ¬ 1024 < m.f9 by omega, show ¬ m.f7 < m.f9 by omega]))
theorem j1_eq (m : S23) (b : Bool) : pacemakerref09_Is.j1 2 b m.f0 m.f1 m.f2 m.f3 m.f4 m.f5 m.f6 m.f7 m.f8 m.f9 m.f10 m.f11 m.f12 m.f13 m.f14 = some (!b && (bytesB m && samplesB m)) := by
  simp only [pacemakerref09_Is.j1]
  rw [rfit_eq, rfit_eq, rfit_eq]
  simp only [Option.bind_some, j2_eq]
  unfold bytesB
  generalize fitB m.f3 m.f6 = p
  generalize fitB m.f4 m.f7 = q
  generalize fitB m.f5 m.f8 = u
  generalize samplesB m = v
  have e : decide (wrap64 (m.f4 + m.f5) > m.f3) = !decide (wrap64 (m.f4 + m.f5) ≤ m.f3) := by
    by_cases h : wrap64 (m.f4 + m.f5) ≤ m.f3
    · rw [decide_eq_true h, decide_eq_false (by omega)]; rfl
    · rw [decide_eq_false h, decide_eq_true (by omega)]; rfl
  rw [e]
  generalize decide (wrap64 (m.f4 + m.f5) ≤ m.f3) = x
  generalize ((wrap64 (m.f4 + m.f5) == m.f3) == resB m) = y
  cases b <;> cases p <;> cases q <;> cases u <;> cases x <;> cases y <;> cases v <;> rfl
theorem j0_eq (m : S23) (b : Bool) : pacemakerref09_Is.j0 3 b m.f0 m.f1 m.f2 m.f3 m.f4 m.f5 m.f6 m.f7 m.f8 m.f9 m.f10 m.f11 m.f12 m.f13 m.f14 = some (!b && (countsB m && (bytesB m && samplesB m))) := by
  simp only [pacemakerref09_Is.j0, j1_eq]
  unfold countsB
  generalize (bytesB m && samplesB m) = v
  have e : decide (m.f8 > wrap64 (m.f6 - m.f7)) = !decide (m.f8 ≤ wrap64 (m.f6 - m.f7)) := by
    by_cases h : m.f8 ≤ wrap64 (m.f6 - m.f7)
    · rw [decide_eq_true h, decide_eq_false (by omega)]; rfl
    · rw [decide_eq_false h, decide_eq_true (by omega)]; rfl
  rw [e]
  generalize decide (m.f8 ≤ wrap64 (m.f6 - m.f7)) = x
  cases b
  · simp only [Bool.false_eq_true, if_false, Bool.not_false, Bool.true_and]
    (repeat' split) <;> simp_all <;> (try (intros; exfalso; omega))
  · rfl
theorem ris_eq (m : S23) : pacemakerref09_Is.f 3 m.f0 m.f1 m.f2 m.f3 m.f4 m.f5 m.f6 m.f7 m.f8 m.f9 m.f10 m.f11 m.f12 m.f13 m.f14 = some (isB m) := by
  unfold pacemakerref09_Is.f isB headB
  simp only [j0_eq, rtime_eq, Option.bind_some]
  generalize (countsB m && (bytesB m && samplesB m)) = v
  (repeat' split) <;> simp_all <;> (try (intros; exfalso; omega)) <;> (try (simp [show ¬ m.f0 < 0 by omega]))
theorem rIs_v (m : S23) (b : Bool) (w : World) (h : isB m = b) : Calls Try.prog 19 #[.agg #[.int .i64 m.f0, .int .i64 m.f1, .int .i64 m.f2, .int .i64 m.f3, .int .i64 m.f4, .int .i64 m.f5, .int .i64 m.f6, .int .i64 m.f7, .int .i64 m.f8, .int .i64 m.f9, .int .i64 m.f10, .int .i64 m.f11, .int .i64 m.f12, .int .i64 m.f13, .int .i64 m.f14]] w fun e w' => e = .returned (.bool b) ∧ Below w.heap.size w w' :=
  pacemakerref09_Is.calls 3 m.f0 m.f1 m.f2 m.f3 m.f4 m.f5 m.f6 m.f7 m.f8 m.f9 m.f10 m.f11 m.f12 m.f13 m.f14 b w (by rw [ris_eq, h])
theorem rsize_v (n : Int) (b : Bool) (w : World) (h : sizeB n = b) : Calls Try.prog 24 #[.int .i64 n] w fun e w' => e = .returned (.bool b) ∧ Below w.heap.size w w' :=
  (pacemakerref09_Size.calls n b w (by rw [rsize_eq, h])).mono fun e w' h => ⟨h.1, h.2.below⟩
theorem rtime_v (n : Int) (b : Bool) (w : World) (h : timeB n = b) : Calls Try.prog 27 #[.int .i64 n] w fun e w' => e = .returned (.bool b) ∧ Below w.heap.size w w' :=
  (pacemakerref09_Time.calls n b w (by rw [rtime_eq, h])).mono fun e w' h => ⟨h.1, h.2.below⟩
end Go.Proofs.Ytiodmgcnpaoooaa.A
