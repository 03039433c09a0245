/- The plain statement of the law QueueSplits: to qdrain in two steps is to qdrain in one. -/
import Derived.Test.YtefigckobfaodaaStQueueSplits
import Derived.Test.YtefigckobfaodaaQL
namespace Go.Proofs.Ytefigckobfaodaa.Pure
open Go.RowKit Go.Proofs.YtefigckobfaodaaW.PrintWords Go.Proofs.Ytefigckobfaodaa.Q
theorem QueueSplits : QueueSplits_Stmt := by
  intro room q rate mid at_ _ _ _ _ _
  refine ⟨9 + 1, ?_⟩
  unfold pacemakerlaw28_QueueSplits.f
  rw [Drain_eq, Drain_eq]
  simp only [Option.bind_some, Drain_eq]
  by_cases ha : (qdrain room q.f0 q.f1 rate mid).2.2 = 0
  · obtain ⟨w0, w1, w2, w3, w4⟩ := qdrain_work ha
    obtain ⟨hq, r1, r2, t1, t2, t3, ea⟩ := qdrain_ok ha
    rw [if_pos ha]
    by_cases hb : (qdrain room (qdrain room q.f0 q.f1 rate mid).1 (qdrain room q.f0 q.f1 rate mid).2.1 rate at_).2.2 = 0
    · obtain ⟨_, _, _, s1, s2, s3, eb⟩ := qdrain_ok hb
      obtain ⟨v0, v1, v2, v3, v4⟩ := qdrain_work hb
      have ec : qdrain room q.f0 q.f1 rate at_ = qdrain room (qdrain room q.f0 q.f1 rate mid).1 (qdrain room q.f0 q.f1 rate mid).2.1 rate at_ := by
        rw [eb, ea]
        unfold qdrain
        rw [if_pos hq, if_neg (by omega), if_neg (by rw [w0] at s3; omega)]
        simp only [Prod.mk.injEq, true_and, and_true]
        rw [w0] at s3
        have e1 : (at_ - q.f0) * rate = (at_ - mid) * rate + (mid - q.f0) * rate := by rw [← Int.add_mul]; congr 1; omega
        have p1 : 0 ≤ (at_ - mid) * rate := Int.mul_nonneg (by omega) (by omega)
        rw [e1]
        omega
      rw [← ec] at v0 v1 v2 v3 v4 hb ⊢
      simp only [hb, pacemakerlaw28_QueueSplits.j0]
      rw [if_neg (by simp), queued_ok 9 (by omega)]
      simp only [Option.bind_some, if_true, beq_self_eq_true, Bool.and_self]
      rw [if_pos (by omega), v0, Is_eq, decide_eq_true v4]
      rfl
    · simp only [pacemakerlaw28_QueueSplits.j0]
      rw [if_pos (by simpa using hb), queued_ok 9 (by omega)]
      simp [ha]
  · obtain ⟨w0, w1⟩ := qdrain_bad ha
    rw [if_neg ha]
    simp only [pacemakerlaw28_QueueSplits.j0, if_true]
    rw [queued_ok 9 (by omega)]
    simp [ha, w0, w1]
end Go.Proofs.Ytefigckobfaodaa.Pure
