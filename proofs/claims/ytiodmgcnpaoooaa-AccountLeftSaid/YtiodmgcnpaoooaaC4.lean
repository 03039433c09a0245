import Derived.Test.YtiodmgcnpaoooaaC2
namespace Go.Proofs.Ytiodmgcnpaoooaa.A
open Go.RowKit Go.Proofs.YtiodmgcnpaoooaaW.PrintWords Go.Proofs.YtiodmgcnpaoooaaW.PrintLast Go.Proofs.YtiodmgcnpaoooaaW.PrintMore
attribute [local go_sem] max2_int min2_int max_two min_two max_three min_three max_four min_four
attribute [local go_sem] Go.Proofs.YtiodmgcnpaoooaaS.cell_set_map Go.Proofs.YtiodmgcnpaoooaaS.setCell_drewN
set_option linter.unusedVariables false
set_option linter.unusedSimpArgs false
/-- An account that may be, in numbers. -/
def okM (m : S23) : Prop := (0 ≤ m.f0 ∧ 0 ≤ m.f1 ∧ m.f1 ≤ 1099511627776 ∧ (m.f2 = -1 ∨ (0 ≤ m.f2 ∧ m.f2 ≤ 1099511627776 ∧ m.f1 ≤ m.f2))) ∧ (0 ≤ m.f6 ∧ m.f6 ≤ 1048576 ∧ 0 ≤ m.f7 ∧ m.f7 ≤ m.f6 ∧ 0 ≤ m.f8 ∧ m.f8 ≤ m.f6 - m.f7) ∧ (m.f6 ≤ m.f3 ∧ m.f3 ≤ m.f6 * 9000 ∧ m.f7 ≤ m.f4 ∧ m.f4 ≤ m.f7 * 9000 ∧ m.f8 ≤ m.f5 ∧ m.f5 ≤ m.f8 * 9000 ∧ m.f4 + m.f5 ≤ m.f3 ∧ (m.f4 + m.f5 = m.f3 ↔ m.f7 + m.f8 = m.f6)) ∧ samplesB m = true
theorem wi {x : Int} (h1 : -9223372036854775808 ≤ x) (h2 : x ≤ 9223372036854775807) : wrap64 x = x := by unfold wrap64; omega
theorem fit_iff (a b : Int) (h1 : -1048576 ≤ b) (h2 : b ≤ 1048577) : fitB a b = true ↔ b ≤ a ∧ a ≤ b * 9000 := by
  unfold fitB
  rw [wi (x := b * 9000) (by omega) (by omega)]
  simp
theorem time_iff (x : Int) : timeB x = true ↔ 0 ≤ x ∧ x ≤ 1099511627776 := by
  unfold timeB
  simp
theorem head_iff (m : S23) : headB m = true ↔ (0 ≤ m.f0 ∧ 0 ≤ m.f1 ∧ m.f1 ≤ 1099511627776 ∧ (m.f2 = -1 ∨ (0 ≤ m.f2 ∧ m.f2 ≤ 1099511627776 ∧ m.f1 ≤ m.f2))) := by
  unfold headB
  rw [Bool.and_eq_true, Bool.and_eq_true, Bool.or_eq_true, Bool.and_eq_true, time_iff, time_iff]
  simp only [Bool.not_eq_true', decide_eq_false_iff_not, decide_eq_true_eq]
  omega
theorem counts_iff (m : S23) : countsB m = true ↔ (0 ≤ m.f6 ∧ m.f6 ≤ 1048576 ∧ 0 ≤ m.f7 ∧ m.f7 ≤ m.f6 ∧ 0 ≤ m.f8 ∧ m.f8 ≤ m.f6 - m.f7) := by
  unfold countsB
  simp only [Bool.and_eq_true, decide_eq_true_eq]
  constructor
  · rintro ⟨h1, h2, h3, h4, h5, h6⟩
    rw [wi (x := m.f6 - m.f7) (by omega) (by omega)] at h6
    exact ⟨h1, h2, h3, h4, h5, h6⟩
  · rintro ⟨h1, h2, h3, h4, h5, h6⟩
    rw [wi (x := m.f6 - m.f7) (by omega) (by omega)]
    exact ⟨h1, h2, h3, h4, h5, h6⟩
theorem beq_iff_bool (a b c d : Int) : ((a == b) == (c == d)) = true ↔ (a = b ↔ c = d) := by
  by_cases h1 : a = b <;> by_cases h2 : c = d
  · simp [h1, h2]
  · simp [h1, h2]
  · simp [h1, h2]
  · rw [beq_eq_false_iff_ne.mpr h1, beq_eq_false_iff_ne.mpr h2]
    simp [h1, h2]
theorem bytes_iff (m : S23) (hc : 0 ≤ m.f6 ∧ m.f6 ≤ 1048576 ∧ 0 ≤ m.f7 ∧ m.f7 ≤ m.f6 ∧ 0 ≤ m.f8 ∧ m.f8 ≤ m.f6 - m.f7) : bytesB m = true ↔ (m.f6 ≤ m.f3 ∧ m.f3 ≤ m.f6 * 9000 ∧ m.f7 ≤ m.f4 ∧ m.f4 ≤ m.f7 * 9000 ∧ m.f8 ≤ m.f5 ∧ m.f5 ≤ m.f8 * 9000 ∧ m.f4 + m.f5 ≤ m.f3 ∧ (m.f4 + m.f5 = m.f3 ↔ m.f7 + m.f8 = m.f6)) := by
  unfold bytesB resB
  rw [Bool.and_eq_true, Bool.and_eq_true, Bool.and_eq_true, Bool.and_eq_true, fit_iff _ _ (by omega) (by omega), fit_iff _ _ (by omega) (by omega), fit_iff _ _ (by omega) (by omega), beq_iff_bool, decide_eq_true_eq]
  constructor
  · rintro ⟨⟨h1, h2⟩, ⟨h3, h4⟩, ⟨h5, h6⟩, h7, h8⟩
    rw [wi (x := m.f4 + m.f5) (by omega) (by omega)] at h7 h8
    rw [wi (x := m.f7 + m.f8) (by omega) (by omega)] at h8
    exact ⟨h1, h2, h3, h4, h5, h6, h7, h8⟩
  · rintro ⟨h1, h2, h3, h4, h5, h6, h7, h8⟩
    rw [wi (x := m.f4 + m.f5) (by omega) (by omega), wi (x := m.f7 + m.f8) (by omega) (by omega)]
    exact ⟨⟨h1, h2⟩, ⟨h3, h4⟩, ⟨h5, h6⟩, h7, h8⟩
theorem isB_iff (m : S23) : isB m = true ↔ okM m := by
  unfold isB okM
  rw [Bool.and_eq_true, Bool.and_eq_true, Bool.and_eq_true, head_iff, counts_iff]
  constructor
  · rintro ⟨h1, h2, h3, h4⟩
    exact ⟨h1, h2, (bytes_iff m h2).1 h3, h4⟩
  · rintro ⟨h1, h2, h3, h4⟩
    exact ⟨h1, h2, (bytes_iff m h2).2 h3, h4⟩
def sendM (m : S23) (n : Int) : S23 := ⟨m.f0, m.f1, m.f2, wrap64 (m.f3 + n), m.f4, m.f5, wrap64 (m.f6 + 1), m.f7, m.f8, m.f9, m.f10, m.f11, m.f12, m.f13, m.f14⟩
def closeM (m : S23) (a : Int) : S23 := ⟨m.f0, m.f1, a, m.f3, m.f4, m.f5, m.f6, m.f7, m.f8, m.f9, m.f10, m.f11, m.f12, m.f13, m.f14⟩
theorem send_ok {m r : S23} {n : Int} (h : sendF m n = (r, 0)) : r = sendM m n ∧ isB m = true ∧ isB r = true := by
  unfold sendF at h
  split at h
  · rename_i hi
    split at h
    · rename_i hs
      split at h
      · rename_i hf
        split at h
        · injection h with h1 h2
          exact absurd h2 (by decide)
        · rename_i hp
          injection h with h1 h2
          have h1' : r = sendM m n := h1.symm
          refine ⟨h1', hi, ?_⟩
          subst h1'
          obtain ⟨⟨a0, a1, a2, a3⟩, ⟨b0, b1, b2, b3, b4, b5⟩, ⟨c0, c1, c2, c3, c4, c5, c6, c7⟩, d⟩ := (isB_iff m).1 hi
          unfold sizeB at hs
          simp only [Bool.and_eq_true, decide_eq_true_eq] at hs
          rw [isB_iff]
          unfold okM sendM
          dsimp only
          rw [wi (x := m.f3 + n) (by omega) (by omega), wi (x := m.f6 + 1) (by omega) (by omega)]
          exact ⟨⟨a0, a1, a2, a3⟩, ⟨by omega, by omega, by omega, by omega, by omega, by omega⟩, ⟨by omega, by omega, by omega, by omega, by omega, by omega, by omega, by omega⟩, d⟩
      · injection h with h1 h2
        exact absurd h2 (by decide)
    · injection h with h1 h2
      exact absurd h2 (by decide)
  · injection h with h1 h2
    exact absurd h2 (by decide)
theorem close_ok {m r : S23} {a : Int} (h : closeF m a = (r, 0)) : r = closeM m a ∧ isB m = true ∧ isB r = true ∧ m.f2 = -1 := by
  unfold closeF at h
  split at h
  · rename_i hi
    split at h
    · rename_i hf
      split at h
      · rename_i ht
        split at h
        · injection h with h1 h2
          exact absurd h2 (by decide)
        · rename_i hp
          injection h with h1 h2
          have h1' : r = closeM m a := h1.symm
          refine ⟨h1', hi, ?_, hf⟩
          subst h1'
          obtain ⟨⟨a0, a1, a2, a3⟩, hb, hc, d⟩ := (isB_iff m).1 hi
          rw [time_iff] at ht
          rw [isB_iff]
          exact ⟨⟨a0, a1, a2, .inr ⟨ht.1, ht.2, by show m.f1 ≤ a; omega⟩⟩, hb, hc, d⟩
      · injection h with h1 h2
        exact absurd h2 (by decide)
    · injection h with h1 h2
      exact absurd h2 (by decide)
  · injection h with h1 h2
    exact absurd h2 (by decide)
theorem told_err {m r : S23} {e : Int} (h : toldF m = (r, e)) (he : ¬ e = 0) : r = zM := by
  unfold toldF at h
  split at h <;> injection h with h1 h2
  · exact absurd h2.symm he
  · exact h1.symm
theorem done_err {m r : S23} {e s0 s1 s2 s3 : Int} (h : doneF m s0 s1 s2 s3 = (r, e)) (he : ¬ e = 0) : r = zM := by
  unfold doneF at h
  split at h
  · unfold sendF at h
    (repeat' split at h) <;> injection h with h1 h2 <;> first | exact h1.symm | exact absurd h2.symm he
  · split at h
    · unfold ackF at h
      (repeat' split at h) <;> first | exact told_err h he | (injection h with h1 h2; exact h1.symm)
    · split at h
      · unfold loseF at h
        (repeat' split at h) <;> first | exact told_err h he | (injection h with h1 h2; exact h1.symm)
      · unfold closeF at h
        (repeat' split at h) <;> injection h with h1 h2 <;> first | exact h1.symm | exact absurd h2.symm he
end Go.Proofs.Ytiodmgcnpaoooaa.A
