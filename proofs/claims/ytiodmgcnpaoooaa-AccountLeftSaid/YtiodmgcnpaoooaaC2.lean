import Derived.Test.YtiodmgcnpaoooaaB0
namespace Go.Proofs.Ytiodmgcnpaoooaa.A
open Go.RowKit Go.Proofs.YtiodmgcnpaoooaaW.PrintWords Go.Proofs.YtiodmgcnpaoooaaW.PrintLast Go.Proofs.YtiodmgcnpaoooaaW.PrintMore
attribute [local go_sem] max2_int min2_int max_two min_two max_three min_three max_four min_four
attribute [local go_sem] Go.Proofs.YtiodmgcnpaoooaaS.cell_set_map Go.Proofs.YtiodmgcnpaoooaaS.setCell_drewN
set_option linter.unusedVariables false
set_option linter.unusedSimpArgs false
theorem wswap (x a b : Int) : wrap64 (wrap64 (x + a) + b) = wrap64 (wrap64 (x + b) + a) := by unfold wrap64; omega
theorem told_ok {m r : S23} (h : toldF m = (r, 0)) : r = m ∧ isB m = true := by
  unfold toldF at h
  split at h
  · injection h with h1 h2
    exact ⟨h1.symm, by assumption⟩
  · injection h with h1 h2
    exact absurd h2 (by decide)
def loseM (m : S23) (n : Int) : S23 := ⟨m.f0, m.f1, m.f2, m.f3, m.f4, wrap64 (m.f5 + n), m.f6, m.f7, wrap64 (m.f8 + 1), m.f9, m.f10, m.f11, m.f12, m.f13, m.f14⟩
theorem lose_ok {m r : S23} {n : Int} (h : loseF m n = (r, 0)) : r = loseM m n ∧ isB m = true ∧ isB r = true := by
  unfold loseF at h
  split at h
  · split at h
    · obtain ⟨h1, h2⟩ := told_ok h
      subst h1
      exact ⟨rfl, by assumption, h2⟩
    · injection h with h1 h2
      exact absurd h2 (by decide)
  · injection h with h1 h2
    exact absurd h2 (by decide)
theorem ack_ok {m r : S23} {n s a : Int} (h : ackF m n s a = (r, 0)) : r = ackM m n (wrap64 (s - m.f1)) (wrap64 (a - s)) ∧ isB m = true ∧ isB r = true ∧ timeB s = true ∧ timeB a = true ∧ s ≤ a := by
  unfold ackF at h
  split at h
  · split at h
    · split at h
      · split at h
        · split at h
          · injection h with h1 h2
            exact absurd h2 (by decide)
          · obtain ⟨h1, h2⟩ := told_ok h
            subst h1
            exact ⟨rfl, by assumption, h2, by assumption, by assumption, by omega⟩
        · injection h with h1 h2
          exact absurd h2 (by decide)
      · injection h with h1 h2
        exact absurd h2 (by decide)
    · injection h with h1 h2
      exact absurd h2 (by decide)
  · injection h with h1 h2
    exact absurd h2 (by decide)
theorem ackM_f1 (m : S23) (n t r : Int) : (ackM m n t r).f1 = m.f1 := by unfold ackM; split <;> rfl
theorem loseM_f1 (m : S23) (n : Int) : (loseM m n).f1 = m.f1 := rfl
theorem lose_lose (m : S23) (a b : Int) : loseM (loseM m a) b = loseM (loseM m b) a := by
  unfold loseM
  simp only [wswap m.f5 a b]
theorem ack_lose (m : S23) (n t r a : Int) : loseM (ackM m n t r) a = ackM (loseM m a) n t r := by
  unfold ackM loseM
  split <;> rfl
theorem n_le (x : Int) (h : x < 1023) (h0 : -9223372036854775808 ≤ x) : wrap64 (x + 1) < 1024 := by unfold wrap64; omega
theorem ack_ack (m : S23) (n t r n' t' r' : Int) (h : m.f9 < 1023) (h0 : -9223372036854775808 ≤ m.f9) : ackM (ackM m n t r) n' t' r' = ackM (ackM m n' t' r') n t r := by
  have h1 := n_le m.f9 h h0
  have h2 : m.f9 < 1024 := by omega
  by_cases c1 : 0 ≤ t ∧ t ≤ 60000000 ∧ r ≤ 60000000 <;> by_cases c2 : 0 ≤ t' ∧ t' ≤ 60000000 ∧ r' ≤ 60000000
  all_goals
    simp only [ackM, c1, c2, h1, h2, and_self, and_true, true_and, if_true, if_false, and_false, false_and]
    simp only [wswap]
theorem ack_sums (m : S23) (n t r : Int) : (ackM m n t r).f7 = wrap64 (m.f7 + 1) ∧ (ackM m n t r).f8 = m.f8 := by unfold ackM; split <;> exact ⟨rfl, rfl⟩
theorem lose_sums (m : S23) (n : Int) : (loseM m n).f7 = m.f7 ∧ (loseM m n).f8 = wrap64 (m.f8 + 1) := ⟨rfl, rfl⟩
/-- An ack or a loss. -/
def stepM (m : S23) (k n s a : Int) : S23 := if k = 1 then ackM m n (wrap64 (s - m.f1)) (wrap64 (a - s)) else loseM m n
theorem done_step {m r : S23} {k s1 s2 s3 : Int} (hk : k = 1 ∨ k = 2) (h : doneF m k s1 s2 s3 = (r, 0)) : r = stepM m k s1 s2 s3 := by
  unfold doneF at h
  unfold stepM
  rcases hk with rfl | rfl
  · rw [if_neg (by decide), if_pos rfl] at h
    rw [if_pos rfl]
    exact (ack_ok h).1
  · rw [if_neg (by decide), if_neg (by decide), if_pos rfl] at h
    rw [if_neg (by decide)]
    exact (lose_ok h).1
theorem step_f1 (m : S23) (k n s a : Int) : (stepM m k n s a).f1 = m.f1 := by
  unfold stepM
  split
  · exact ackM_f1 _ _ _ _
  · rfl
theorem step_swap (m : S23) (k n s a k' n' s' a' : Int) (h : m.f9 < 1023) (h0 : -9223372036854775808 ≤ m.f9) : stepM (stepM m k n s a) k' n' s' a' = stepM (stepM m k' n' s' a') k n s a := by
  unfold stepM
  by_cases c1 : k = 1 <;> by_cases c2 : k' = 1 <;> simp only [c1, c2, if_true, if_false, ackM_f1, loseM_f1]
  · exact ack_ack m _ _ _ _ _ _ h h0
  · exact ack_lose m _ _ _ _
  · exact (ack_lose m _ _ _ _).symm
  · exact lose_lose m _ _
theorem step_sum (m : S23) (k n s a : Int) : wrap64 ((stepM m k n s a).f7 + (stepM m k n s a).f8) = wrap64 (wrap64 (m.f7 + m.f8) + 1) := by
  unfold stepM
  split
  · rw [(ack_sums _ _ _ _).1, (ack_sums _ _ _ _).2]
    unfold wrap64; omega
  · rw [(lose_sums _ _).1, (lose_sums _ _).2]
    unfold wrap64; omega
theorem order_pure {m r1 r2 r3 r4 : S23} {k n s a k' n' s' a' : Int} (hk : k = 1 ∨ k = 2) (hk' : k' = 1 ∨ k' = 2) (h : m.f9 < 1023) (h0 : -9223372036854775808 ≤ m.f9) (h1 : doneF m k n s a = (r1, 0)) (h2 : doneF r1 k' n' s' a' = (r2, 0)) (h3 : doneF m k' n' s' a' = (r3, 0)) (h4 : doneF r3 k n s a = (r4, 0)) : r2 = r4 ∧ wrap64 (r2.f7 + r2.f8) = wrap64 (wrap64 (m.f7 + m.f8) + 2) := by
  rw [done_step hk' h2, done_step hk h4, done_step hk h1, done_step hk' h3]
  refine ⟨step_swap m k n s a k' n' s' a' h h0, ?_⟩
  rw [step_sum, step_sum]
  unfold wrap64
  omega
theorem sum_two (x y : Int) : wrap64 (wrap64 (wrap64 (x + 1) + 1) + y) = wrap64 (wrap64 (x + y) + 2) := by unfold wrap64; omega
end Go.Proofs.Ytiodmgcnpaoooaa.A
