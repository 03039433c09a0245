/- What a row of arrivals is, in plain numbers, and what holds of one arrival. -/
import Derived.Test.YtefigckobfaodaaQL
namespace Go.Proofs.Ytefigckobfaodaa.Q
open Go.RowKit Go.Proofs.YtefigckobfaodaaW.PrintWords Go.Proofs.YtefigckobfaodaaW.PrintLast Go.Proofs.YtefigckobfaodaaW.PrintMore

/-- A row of arrivals: the fates, and the queue behind all. -/
def rowF (room rate : Int) : List S25 → Int → Int → List S41 × Int × Int
  | [], a, b => ([], a, b)
  | x :: xs, a, b =>
    if (qarrive room a b rate x.f0 x.f1).2.2.2 = 0 then (⟨(qarrive room a b rate x.f0 x.f1).1, false⟩ :: (rowF room rate xs (qarrive room a b rate x.f0 x.f1).2.1 (qarrive room a b rate x.f0 x.f1).2.2.1).1, (rowF room rate xs (qarrive room a b rate x.f0 x.f1).2.1 (qarrive room a b rate x.f0 x.f1).2.2.1).2)
    else (⟨0, true⟩ :: (rowF room rate xs a b).1, (rowF room rate xs a b).2)
theorem rowF_length (room rate : Int) : ∀ (l : List S25) (a b : Int), (rowF room rate l a b).1.length = l.length
  | [], _, _ => rfl
  | x :: xs, a, b => by
    unfold rowF
    split <;> simp [rowF_length room rate xs]
theorem go_eq (k : Nat) (room rate : Int) : ∀ (l : List S25) (acc : List S41) (a b : Int), acc.length + l.length < 8796093022208 → queue_Row.go (k + 1) room rate l acc a b = some (acc ++ (rowF room rate l a b).1, (rowF room rate l a b).2)
  | [], acc, a, b, _ => by simp [queue_Row.go, rowF]
  | x :: xs, acc, a, b, h => by
    unfold queue_Row.go rowF
    rw [Arrive_eq]
    simp only [Option.bind_some]
    rw [List.length_cons] at h
    rw [if_pos (show acc.length < 8796093022208 by omega)]
    split
    · rw [go_eq k room rate xs _ _ _ (by rw [List.length_append, List.length_singleton]; omega)]
      simp
    · rw [go_eq k room rate xs _ _ _ (by rw [List.length_append, List.length_singleton]; omega)]
      simp
theorem Row_eq (k : Nat) (room rate : Int) (l : List S25) (hl : l.length ≤ 80) : queue_Row.f (k + 1) room rate l = some (if isq room 0 0 then rowF room rate l 0 0 else ([], 0, 0)) := by
  unfold queue_Row.f
  rw [Is_eq]
  simp only [Option.bind_some]
  by_cases h : isq room 0 0
  · simp only [h, decide_true, if_true]
    rw [go_eq k room rate l [] 0 0 (by simp; omega)]
    simp
  · simp [h]

theorem mul_lt {x y r : Int} (h : x * r < y * r) (hr : 1 ≤ r) : x < y := Int.lt_of_mul_lt_mul_right h (by omega)

theorem qarrive_ok {room a b rate at_ size : Int} (h : (qarrive room a b rate at_ size).2.2.2 = 0) : (qdrain room a b rate at_).2.2 = 0 ∧ 1 ≤ size ∧ size ≤ 9000 ∧ (qdrain room a b rate at_).2.1 + size * 1000000 ≤ room * 1000000 ∧
    qarrive room a b rate at_ size = (at_ + cdiv ((qdrain room a b rate at_).2.1 + size * 1000000) rate, at_, (qdrain room a b rate at_).2.1 + size * 1000000, 0) := by
  unfold qarrive at h ⊢
  by_cases h0 : (qdrain room a b rate at_).2.2 = 0
  · rw [if_pos h0] at h ⊢
    by_cases h1 : size < 1 ∨ 9000 < size
    · rw [if_pos h1] at h; simp at h
    · rw [if_neg h1] at h ⊢
      by_cases h2 : (qdrain room a b rate at_).2.1 + size * 1000000 > room * 1000000
      · rw [if_pos h2] at h; simp at h
      · rw [if_neg h2]; exact ⟨h0, by omega, by omega, by omega, rfl⟩
  · rw [if_neg h0] at h; exact absurd h h0

theorem order_math {room a b rate at_ size : Int} (h : (qarrive room a b rate at_ size).2.2.2 = 0) :
    isq room (qarrive room a b rate at_ size).2.1 (qarrive room a b rate at_ size).2.2.1 ∧ (qarrive room a b rate at_ size).2.1 = at_ ∧ 0 ≤ at_ ∧ at_ ≤ 1099511627776 ∧ a ≤ at_ ∧ 1 ≤ size ∧ size ≤ 9000 ∧
    (qarrive room a b rate at_ size).1 = at_ + cdiv (qarrive room a b rate at_ size).2.2.1 rate ∧
    a + cdiv b rate + size * 1000000 / rate ≤ (qarrive room a b rate at_ size).1 ∧ size * 1000000 / rate ≤ (qarrive room a b rate at_ size).1 - at_ ∧ (qarrive room a b rate at_ size).1 - at_ ≤ room * 1000000 / rate + 1 ∧
    (a + cdiv b rate ≤ at_ → (qarrive room a b rate at_ size).1 - at_ ≤ size * 1000000 / rate + 1) ∧ 0 ≤ size * 1000000 / rate ∧ size * 1000000 / rate ≤ 9000000000 ∧ 0 ≤ cdiv b rate ∧ cdiv b rate ≤ 1073741824000000 ∧ room * 1000000 / rate ≤ 1073741824000000 ∧ 0 ≤ room * 1000000 / rate ∧ 1 ≤ rate := by
  obtain ⟨h0, s1, s2, hw, e⟩ := qarrive_ok h
  obtain ⟨hq, r1, r2, t1, t2, t3, ed⟩ := qdrain_ok h0
  obtain ⟨w0, w1, w2, w3, w4⟩ := qdrain_work h0
  obtain ⟨q1, q2, q3, q4, q5, q6⟩ := hq
  have eW : (qdrain room a b rate at_).2.1 = max 0 (b - (at_ - a) * rate) := by rw [ed]
  rw [e]
  dsimp only
  generalize (qdrain room a b rate at_).2.1 = W at *
  obtain ⟨c0, c1, c2, c3⟩ := cdiv_le q5 r1
  obtain ⟨v0, v1, v2, v3⟩ := cdiv_le (n := W + size * 1000000) (r := rate) (by omega) r1
  obtain ⟨n0, n1, n2, n3⟩ := quo_le (b := size * 1000000) (rate := rate) (by omega) r1
  obtain ⟨m0, m1, m2, m3⟩ := quo_le (b := room * 1000000) (rate := rate) (by omega) r1
  generalize cdiv b rate = C1 at *
  generalize cdiv (W + size * 1000000) rate = C2 at *
  generalize size * 1000000 / rate = n at *
  generalize room * 1000000 / rate = R at *
  have p : ∀ x : Int, (x + 1) * rate = x * rate + rate := fun x => by rw [Int.add_mul, Int.one_mul]
  have hD : (at_ - a) * rate = at_ * rate - a * rate := by rw [Int.sub_mul]
  have k1 : a + C1 + n < at_ + C2 + 1 := by
    apply mul_lt (r := rate) _ r1
    have e1 : (a + C1 + n) * rate = a * rate + C1 * rate + n * rate := by rw [Int.add_mul, Int.add_mul]
    have e2 : (at_ + C2 + 1) * rate = at_ * rate + C2 * rate + rate := by rw [p, Int.add_mul]
    rw [e1, e2]
    omega
  have k2 : n < C2 + 1 := by
    apply mul_lt (r := rate) _ r1
    rw [p]; omega
  have k3 : C2 < R + 1 + 1 := by
    apply mul_lt (r := rate) _ r1
    rw [p, p]; omega
  have k4 : a + C1 ≤ at_ → C2 < n + 1 + 1 := by
    intro hle
    have h5 : C1 * rate ≤ (at_ - a) * rate := mulle (by omega) (by omega)
    apply mul_lt (r := rate) _ r1
    rw [p, p]; omega
  refine ⟨⟨q1, q2, t1, t2, by omega, hw⟩, rfl, t1, t2, t3, s1, s2, rfl, by omega, by omega, by omega, fun hh => by have := k4 hh; omega, n0, by omega, c0, by omega, by omega, m0, r1⟩
end Go.Proofs.Ytefigckobfaodaa.Q
