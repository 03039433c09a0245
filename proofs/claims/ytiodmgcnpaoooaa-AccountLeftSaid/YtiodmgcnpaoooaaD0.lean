import Derived.Test.YtiodmgcnpaoooaaC4
namespace Go.Proofs.Ytiodmgcnpaoooaa.A
open Go.RowKit Go.Proofs.YtiodmgcnpaoooaaW.PrintWords Go.Proofs.YtiodmgcnpaoooaaW.PrintLast Go.Proofs.YtiodmgcnpaoooaaW.PrintMore
attribute [local go_sem] max2_int min2_int max_two min_two max_three min_three max_four min_four
attribute [local go_sem] Go.Proofs.YtiodmgcnpaoooaaS.cell_set_map Go.Proofs.YtiodmgcnpaoooaaS.setCell_drewN
set_option linter.unusedVariables false
set_option linter.unusedSimpArgs false
theorem done_isB {m r : S23} {k n s a : Int} (h : doneF m k n s a = (r, 0)) : isB m = true ∧ isB r = true ∧ r.f0 = m.f0 ∧ r.f1 = m.f1 ∧ wrap64 (wrap64 (r.f6 - r.f7) - r.f8) = wrap64 (wrap64 (wrap64 (m.f6 - m.f7) - m.f8) + (if k = 0 then 1 else if k = 1 ∨ k = 2 then -1 else 0)) := by
  unfold doneF at h
  split at h
  · rename_i c0
    obtain ⟨h1, h2, h3⟩ := send_ok h
    rw [if_pos c0]
    refine ⟨h2, h3, by rw [h1]; rfl, by rw [h1]; rfl, ?_⟩
    rw [h1]
    unfold sendM
    dsimp only
    unfold wrap64
    omega
  · rename_i c0
    rw [if_neg c0]
    split at h
    · rename_i c1
      obtain ⟨h1, h2, h3, _⟩ := ack_ok h
      rw [if_pos (.inl c1)]
      have e7 := (ack_sums m n (wrap64 (s - m.f1)) (wrap64 (a - s))).1
      have e8 := (ack_sums m n (wrap64 (s - m.f1)) (wrap64 (a - s))).2
      have e6 : (ackM m n (wrap64 (s - m.f1)) (wrap64 (a - s))).f6 = m.f6 := by unfold ackM; split <;> rfl
      have e0 : (ackM m n (wrap64 (s - m.f1)) (wrap64 (a - s))).f0 = m.f0 := by unfold ackM; split <;> rfl
      refine ⟨h2, h3, by rw [h1, e0], by rw [h1, ackM_f1], ?_⟩
      rw [h1, e6, e7, e8]
      unfold wrap64
      omega
    · rename_i c1
      split at h
      · rename_i c2
        obtain ⟨h1, h2, h3⟩ := lose_ok h
        rw [if_pos (.inr c2)]
        refine ⟨h2, h3, by rw [h1]; rfl, by rw [h1]; rfl, ?_⟩
        rw [h1]
        unfold loseM
        dsimp only
        unfold wrap64
        omega
      · rename_i c2
        obtain ⟨h1, h2, h3, _⟩ := close_ok h
        rw [if_neg (fun hh => hh.elim c1 c2)]
        refine ⟨h2, h3, by rw [h1]; rfl, by rw [h1]; rfl, ?_⟩
        rw [h1]
        unfold closeM
        dsimp only
        unfold wrap64
        omega
theorem left_n {r : S23} (h : isB r = true) : 0 ≤ wrap64 (wrap64 (r.f6 - r.f7) - r.f8) ∧ wrap64 (r.f4 + r.f5) ≤ r.f3 ∧ (wrap64 (wrap64 (r.f6 - r.f7) - r.f8) = 0 ↔ wrap64 (r.f4 + r.f5) = r.f3) := by
  obtain ⟨⟨a0, a1, a2, a3⟩, ⟨b0, b1, b2, b3, b4, b5⟩, ⟨c0, c1, c2, c3, c4, c5, c6, c7⟩, d⟩ := (isB_iff r).1 h
  rw [wi (x := r.f6 - r.f7) (by omega) (by omega), wi (x := r.f6 - r.f7 - r.f8) (by omega) (by omega), wi (x := r.f4 + r.f5) (by omega) (by omega)]
  exact ⟨by omega, by omega, by omega⟩
theorem left_done {r : S23} {p : Bool} (h : isB r = true) (hp : (wrap64 (wrap64 (r.f6 - r.f7) - r.f8) == 0) = p) : (decide (0 ≤ r.f2) = true ∧ isDone r = p) ∨ (decide (0 ≤ r.f2) = false ∧ isDone r = false) := by
  obtain ⟨⟨a0, a1, a2, a3⟩, ⟨b0, b1, b2, b3, b4, b5⟩, hc, d⟩ := (isB_iff r).1 h
  rw [wi (x := r.f6 - r.f7) (by omega) (by omega), wi (x := r.f6 - r.f7 - r.f8) (by omega) (by omega)] at hp
  unfold isDone resB
  rw [h, Bool.true_and]
  by_cases g : 0 ≤ r.f2
  · refine .inl ⟨decide_eq_true g, ?_⟩
    rw [decide_eq_false (show ¬ r.f2 = -1 by omega), ← hp, wi (x := r.f7 + r.f8) (by omega) (by omega)]
    show (r.f7 + r.f8 == r.f6) = _
    rw [Bool.eq_iff_iff, beq_iff_eq, beq_iff_eq]
    omega
  · refine .inr ⟨decide_eq_false g, ?_⟩
    rw [decide_eq_true (show r.f2 = -1 by omega)]
    rfl
end Go.Proofs.Ytiodmgcnpaoooaa.A
