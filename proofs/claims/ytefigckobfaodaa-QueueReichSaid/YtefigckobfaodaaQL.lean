/- What the printed functions of queue compute, in plain numbers: whether a queue is right, draining, arriving, a row. -/
import Derived.Test.YtefigckobfaodaaQx10
import Derived.KernelRfl
namespace Go.Proofs.Ytefigckobfaodaa.Q
open Go.RowKit Go.Proofs.YtefigckobfaodaaW.PrintWords Go.Proofs.YtefigckobfaodaaW.PrintLast Go.Proofs.YtefigckobfaodaaW.PrintMore

theorem w64 {x : Int} (h1 : -9223372036854775808 ≤ x) (h2 : x ≤ 9223372036854775807) : wrap64 x = x := by unfold wrap64; omega

/-- A queue is right. -/
def isq (room a b : Int) : Prop := 1 ≤ room ∧ room ≤ 1073741824 ∧ 0 ≤ a ∧ a ≤ 1099511627776 ∧ 0 ≤ b ∧ b ≤ room * 1000000
instance (room a b : Int) : Decidable (isq room a b) := by unfold isq; infer_instance

theorem Is_eq (room a b : Int) : queue_Is.f room a b = some (decide (isq room a b)) := by
  unfold queue_Is.f queue_time.f isq
  by_cases h1 : 1 ≤ room
  · by_cases h2 : room ≤ 1073741824
    · rw [if_pos h1, if_pos h2, w64 (x := room * 1000000) (by omega) (by omega)]
      by_cases h3 : 0 ≤ a
      · by_cases h4 : a ≤ 1099511627776
        · by_cases h5 : 0 ≤ b
          · simp [h1, h2, h3, h4, h5]
          · simp [h1, h2, h3, h4, h5]
        · simp [h1, h2, h3, h4]
      · simp [h1, h2, h3]
    · simp [h1, h2]
  · simp [h1]
/-- Draining: (At, Work, error). -/
def qdrain (room a b rate at_ : Int) : Int × Int × Int :=
  if isq room a b then
    if rate < 1 ∨ 1000000000 < rate then (0, 0, 8)
    else if at_ < 0 ∨ 1099511627776 < at_ ∨ at_ < a then (0, 0, 10)
    else (at_, max 0 (b - (at_ - a) * rate), 0)
  else (0, 0, 1)

theorem mulle {a b c : Int} (h : a ≤ b) (hc : 0 ≤ c) : a * c ≤ b * c := Int.mul_le_mul_of_nonneg_right h hc
theorem quo_le {b rate : Int} (hb : 0 ≤ b) (hr : 1 ≤ rate) : 0 ≤ b / rate ∧ b / rate * rate ≤ b ∧ b < b / rate * rate + rate ∧ b / rate ≤ b := by
  refine ⟨Int.ediv_nonneg hb (by omega), Int.ediv_mul_le _ (by omega), ?_, Int.ediv_le_self _ hb⟩
  have := Int.lt_ediv_add_one_mul_self b (show 0 < rate by omega)
  rw [Int.add_mul, Int.one_mul] at this
  exact this

theorem Drain_eq (k : Nat) (room a b rate at_ : Int) : queue_Drain.f (k + 1) room a b rate at_ = some (qdrain room a b rate at_) := by
  unfold queue_Drain.f qdrain
  rw [Is_eq]
  simp only [Option.bind_some]
  by_cases hq : isq room a b
  · simp only [hq, decide_true, if_true]
    by_cases h1 : rate < 1
    · rw [if_pos h1, if_pos (.inl h1)]; simp [queue_Drain.j0]
    · rw [if_neg h1]
      by_cases h2 : rate > 1000000000
      · rw [if_pos (.inr h2)]; simp [queue_Drain.j0, h2]
      · rw [if_neg (show ¬ (rate < 1 ∨ 1000000000 < rate) by omega)]
        simp only [queue_Drain.j0]
        rw [if_neg (by simp; omega)]
        unfold queue_time.f
        by_cases h3 : at_ ≥ 0
        · rw [if_pos h3]
          simp only [Option.bind_some]
          by_cases h4 : at_ ≤ 1099511627776
          · simp only [h4, decide_true, if_true]
            by_cases h5 : at_ < a
            · rw [if_pos h5, if_pos (.inr (.inr h5))]
            · rw [if_neg h5, if_neg (show ¬ rate = 0 by omega), if_neg (show ¬ (at_ < 0 ∨ 1099511627776 < at_ ∨ at_ < a) by omega)]
              obtain ⟨r1, r2, a1, a2, b1, b2⟩ := hq
              obtain ⟨d0, d1, d2, d3⟩ := quo_le b1 (show 1 ≤ rate by omega)
              have ht : Int.tdiv b rate = b / rate := Int.tdiv_eq_ediv_of_nonneg b1
              rw [ht, w64 (x := b / rate) (by omega) (by omega), w64 (x := b / rate + 1) (by omega) (by omega), w64 (x := at_ - a) (by omega) (by omega)]
              generalize hd : b / rate = d at *
              have key : ∀ s : Int, 0 ≤ s → s ≤ d + 1 → 0 ≤ s * rate ∧ s * rate ≤ b + rate := by
                intro s s0 s1
                have h := mulle s1 (show 0 ≤ rate by omega)
                rw [Int.add_mul, Int.one_mul] at h
                exact ⟨Int.mul_nonneg s0 (by omega), by omega⟩
              unfold mn mx
              by_cases h6 : d + 1 < at_ - a
              · rw [if_pos h6]
                have hk := key (d + 1) (by omega) (by omega)
                have h7 := mulle (show d + 1 ≤ at_ - a by omega) (show 0 ≤ rate by omega)
                have h8 : (d + 1) * rate = d * rate + rate := by rw [Int.add_mul, Int.one_mul]
                rw [w64 (x := (d + 1) * rate) (by omega) (by omega), w64 (x := b - (d + 1) * rate) (by omega) (by omega), if_neg (by omega)]
                congr 3
                omega
              · rw [if_neg h6]
                have hk := key (at_ - a) (by omega) (by omega)
                rw [w64 (x := (at_ - a) * rate) (by omega) (by omega), w64 (x := b - (at_ - a) * rate) (by omega) (by omega)]
                congr 3
                split <;> omega
          · simp only [h4, decide_false]
            rw [if_neg (by simp), if_pos (.inr (.inl (by omega)))]
        · rw [if_neg h3]
          simp only [Option.bind_some]
          rw [if_neg (by simp), if_pos (show at_ < 0 ∨ 1099511627776 < at_ ∨ at_ < a from .inl (by omega))]
  · simp [hq]


/-- The ceiling of a quotient. -/
def cdiv (n r : Int) : Int := (n + r - 1) / r
theorem cdiv_eq {n r : Int} (_hn : 0 ≤ n) (hr : 1 ≤ r) : n / r + (if n % r > 0 then 1 else 0) = cdiv n r := by
  unfold cdiv
  have h1 := Int.mul_ediv_add_emod n r
  have h2 := Int.emod_nonneg n (show r ≠ 0 by omega)
  have h3 := Int.emod_lt_of_pos n (show 0 < r by omega)
  by_cases h : n % r > 0
  · rw [if_pos h]
    symm
    rw [show n + r - 1 = (n % r - 1) + r * (n / r + 1) by rw [Int.mul_add]; omega, Int.add_mul_ediv_left _ _ (by omega), Int.ediv_eq_zero_of_lt (by omega) (by omega)]
    omega
  · rw [if_neg h]
    symm
    rw [show n + r - 1 = (r - 1) + r * (n / r) by omega, Int.add_mul_ediv_left _ _ (by omega), Int.ediv_eq_zero_of_lt (by omega) (by omega)]
    omega
theorem cdiv_le {n r : Int} (hn : 0 ≤ n) (hr : 1 ≤ r) : 0 ≤ cdiv n r ∧ n ≤ cdiv n r * r ∧ cdiv n r * r < n + r ∧ cdiv n r ≤ n := by
  obtain ⟨h1, h2, h3, h4⟩ := quo_le (b := n + r - 1) (rate := r) (by omega) hr
  refine ⟨h1, ?_, ?_, ?_⟩
  · unfold cdiv; omega
  · unfold cdiv; omega
  · have h5 := quo_le hn hr
    rw [← cdiv_eq hn hr]
    have h6 := Int.mul_ediv_add_emod n r
    have h7 := Int.emod_nonneg n (show r ≠ 0 by omega)
    by_cases h : n % r > 0
    · rw [if_pos h]
      have : n / r ≤ r * (n / r) := by have := Int.mul_le_mul_of_nonneg_right hr h5.1; rwa [Int.one_mul] at this
      omega
    · rw [if_neg h]; omega

/-- Arriving: (when it leaves, At, Work, error). -/
def qarrive (room a b rate at_ size : Int) : Int × Int × Int × Int :=
  if (qdrain room a b rate at_).2.2 = 0 then
    if size < 1 ∨ 9000 < size then (0, 0, 0, 9)
    else if (qdrain room a b rate at_).2.1 + size * 1000000 > room * 1000000 then (0, 0, 0, 2)
    else (at_ + cdiv ((qdrain room a b rate at_).2.1 + size * 1000000) rate, at_, (qdrain room a b rate at_).2.1 + size * 1000000, 0)
  else (0, 0, 0, (qdrain room a b rate at_).2.2)

/-- What draining tells, where it is no error. -/
theorem qdrain_ok {room a b rate at_ : Int} (h : (qdrain room a b rate at_).2.2 = 0) : isq room a b ∧ 1 ≤ rate ∧ rate ≤ 1000000000 ∧ 0 ≤ at_ ∧ at_ ≤ 1099511627776 ∧ a ≤ at_ ∧ qdrain room a b rate at_ = (at_, max 0 (b - (at_ - a) * rate), 0) := by
  unfold qdrain at h ⊢
  by_cases hq : isq room a b
  · rw [if_pos hq] at h ⊢
    by_cases h1 : rate < 1 ∨ 1000000000 < rate
    · rw [if_pos h1] at h; simp at h
    · rw [if_neg h1] at h ⊢
      by_cases h2 : at_ < 0 ∨ 1099511627776 < at_ ∨ at_ < a
      · rw [if_pos h2] at h; simp at h
      · rw [if_neg h2]; exact ⟨hq, by omega, by omega, by omega, by omega, by omega, rfl⟩
  · rw [if_neg hq] at h; simp at h
theorem qdrain_bad {room a b rate at_ : Int} (h : (qdrain room a b rate at_).2.2 ≠ 0) : (qdrain room a b rate at_).1 = 0 ∧ (qdrain room a b rate at_).2.1 = 0 := by
  unfold qdrain at h ⊢
  by_cases hq : isq room a b
  · rw [if_pos hq] at h ⊢
    by_cases h1 : rate < 1 ∨ 1000000000 < rate
    · rw [if_pos h1]; exact ⟨rfl, rfl⟩
    · rw [if_neg h1] at h ⊢
      by_cases h2 : at_ < 0 ∨ 1099511627776 < at_ ∨ at_ < a
      · rw [if_pos h2]; exact ⟨rfl, rfl⟩
      · rw [if_neg h2] at h; simp at h
  · rw [if_neg hq]; exact ⟨rfl, rfl⟩
theorem qdrain_work {room a b rate at_ : Int} (h : (qdrain room a b rate at_).2.2 = 0) : (qdrain room a b rate at_).1 = at_ ∧ 0 ≤ (qdrain room a b rate at_).2.1 ∧ (qdrain room a b rate at_).2.1 ≤ b ∧ (qdrain room a b rate at_).2.1 ≤ room * 1000000 ∧ isq room at_ (qdrain room a b rate at_).2.1 := by
  obtain ⟨hq, r1, r2, t1, t2, t3, e⟩ := qdrain_ok h
  have hp : 0 ≤ (at_ - a) * rate := Int.mul_nonneg (by omega) (by omega)
  rw [e]
  obtain ⟨q1, q2, q3, q4, q5, q6⟩ := hq
  refine ⟨rfl, ?_, ?_, ?_, ⟨q1, q2, t1, t2, ?_, ?_⟩⟩ <;> show _ ≤ _ <;> dsimp only <;> omega

theorem Arrive_eq (k : Nat) (room a b rate at_ size : Int) : queue_Arrive.f (k + 1) room a b rate at_ size = some (qarrive room a b rate at_ size) := by
  unfold queue_Arrive.f qarrive
  rw [Drain_eq]
  simp only [Option.bind_some]
  by_cases h0 : (qdrain room a b rate at_).2.2 = 0
  · rw [if_pos h0, if_pos h0]
    obtain ⟨hq, r1, r2, t1, t2, t3, e⟩ := qdrain_ok h0
    obtain ⟨w0, w1, w2, w3, w4⟩ := qdrain_work h0
    have hr := hq.1
    have hr2 := hq.2.1
    rw [w0]
    generalize (qdrain room a b rate at_).2.1 = W at *
    by_cases h1 : size < 1
    · rw [if_pos h1, if_pos (.inl h1)]
    · rw [if_neg h1]
      by_cases h2 : size > 9000
      · rw [if_pos h2, if_pos (.inr h2)]
      · rw [if_neg h2, if_neg (show ¬ (size < 1 ∨ 9000 < size) by omega), w64 (x := size * 1000000) (by omega) (by omega), w64 (x := W + size * 1000000) (by omega) (by omega), w64 (x := room * 1000000) (by omega) (by omega)]
        by_cases h3 : W + size * 1000000 > room * 1000000
        · rw [if_pos h3, if_pos h3]
        · rw [if_neg h3, if_neg h3, if_neg (show ¬ rate = 0 by omega)]
          have hV : 0 ≤ W + size * 1000000 := by omega
          have hc := cdiv_eq hV r1
          have hb := cdiv_le hV r1
          have hd := quo_le hV r1
          rw [Int.tmod_eq_emod_of_nonneg hV, Int.tdiv_eq_ediv_of_nonneg hV]
          generalize W + size * 1000000 = V at *
          rw [← hc] at hb ⊢
          rw [w64 (x := V / rate) (by omega) (by omega)]
          by_cases h4 : V % rate > 0
          · rw [if_pos h4] at hb ⊢
            rw [if_pos h4, w64 (x := V / rate + 1) (by omega) (by omega), w64 (x := at_ + (V / rate + 1)) (by omega) (by omega)]
          · rw [if_neg h4] at hb ⊢
            rw [if_neg h4, w64 (x := at_ + V / rate) (by omega) (by omega), Int.add_zero]
  · rw [if_neg h0, if_neg h0]

theorem queued_one : pacemakerlaw28_queued.f 9 = some true := by kernel_rfl
theorem queued_ok (k : Nat) (h : 9 ≤ k) : pacemakerlaw28_queued.f k = some true := at_rounds (fun k => pacemakerlaw28_queued.mono k) h queued_one
end Go.Proofs.Ytefigckobfaodaa.Q
