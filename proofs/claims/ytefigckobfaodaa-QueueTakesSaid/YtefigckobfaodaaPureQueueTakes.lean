/- The plain statement of the law QueueTakes: a packet is taken just if there is room for it. -/
import Derived.Test.YtefigckobfaodaaStQueueTakes
import Derived.Test.YtefigckobfaodaaQL
namespace Go.Proofs.Ytefigckobfaodaa.Pure
open Go.RowKit Go.Proofs.YtefigckobfaodaaW.PrintWords Go.Proofs.Ytefigckobfaodaa.Q
theorem QueueTakes : QueueTakes_Stmt := by
  intro room q rate at_ _ _ _ _
  refine ⟨9 + 1, ?_⟩
  unfold pacemakerlaw28_QueueTakes.f
  rw [Drain_eq]
  simp only [Option.bind_some]
  by_cases ha : (qdrain room q.f0 q.f1 rate at_).2.2 = 0
  · rw [if_pos ha]
    obtain ⟨w0, w1, w2, w3, w4⟩ := qdrain_work ha
    obtain ⟨hq, r1, r2, t1, t2, t3, ea⟩ := qdrain_ok ha
    obtain ⟨q1, q2, q3, q4, q5, q6⟩ := hq
    have hs : ∀ s, queue_Arrive.f 9 room q.f0 q.f1 rate at_ s = some (qarrive room q.f0 q.f1 rate at_ s) := fun s => Arrive_eq 8 room q.f0 q.f1 rate at_ s
    have har : ∀ s, qarrive room q.f0 q.f1 rate at_ s = if s < 1 ∨ 9000 < s then (0, 0, 0, 9) else if (qdrain room q.f0 q.f1 rate at_).2.1 + s * 1000000 > room * 1000000 then (0, 0, 0, 2) else (at_ + cdiv ((qdrain room q.f0 q.f1 rate at_).2.1 + s * 1000000) rate, at_, (qdrain room q.f0 q.f1 rate at_).2.1 + s * 1000000, 0) := fun s => by unfold qarrive; rw [if_pos ha]
    generalize (qdrain room q.f0 q.f1 rate at_).2.1 = W at *
    have hF : wrap64 (Int.tdiv (wrap64 (wrap64 (room * 1000000) - W)) 1000000) = (room * 1000000 - W) / 1000000 := by
      rw [w64 (x := room * 1000000) (by omega) (by omega), w64 (x := room * 1000000 - W) (by omega) (by omega), Int.tdiv_eq_ediv_of_nonneg (by omega), w64 (by omega) (by omega)]
    rw [hF]
    generalize hFd : (room * 1000000 - W) / 1000000 = F
    have hF1 : F * 1000000 ≤ room * 1000000 - W ∧ room * 1000000 - W < F * 1000000 + 1000000 := by omega
    by_cases h1 : F < 1
    · rw [if_pos h1]
      simp only [pacemakerlaw28_QueueTakes.j0, if_true]
      rw [queued_ok 9 (by omega)]
      rfl
    · rw [if_neg h1]
      by_cases h2 : F ≥ 9000
      · simp only [pacemakerlaw28_QueueTakes.j0]
        rw [if_pos (by simpa using h2), queued_ok 9 (by omega)]
        rfl
      · simp only [pacemakerlaw28_QueueTakes.j0]
        rw [if_neg (by simpa using h2), hs F, w64 (x := F + 1) (by omega) (by omega), hs (F + 1), queued_ok 9 (by omega), har F, har (F + 1)]
        rw [if_neg (by omega), if_neg (by omega), if_neg (by omega), if_pos (by omega)]
        have hc := cdiv_le (n := W + F * 1000000) (r := rate) (by omega) r1
        simp only [Option.bind_some, if_true]
        rw [w64 (x := F * 1000000) (by omega) (by omega), w64 (x := W + F * 1000000) (by omega) (by omega), if_pos (by omega), if_pos rfl]
        rfl
  · rw [if_neg ha, queued_ok 10 (by omega)]
    rfl
end Go.Proofs.Ytefigckobfaodaa.Pure
