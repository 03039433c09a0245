/- The plain statement of the law QueueDoes: the program's queue and the document's are the same. -/
import Derived.Test.YtefigckobfaodaaStQueueDoes
import Derived.Test.YtefigckobfaodaaQM
namespace Go.Proofs.Ytefigckobfaodaa.Pure
open Go.RowKit Go.Proofs.YtefigckobfaodaaW.PrintWords Go.Proofs.YtefigckobfaodaaW.PrintMore Go.Proofs.Ytefigckobfaodaa.Q

theorem refIs_eq (room a b : Int) : pacemakerref28_Is.f room a b = some (decide (isq room a b)) := by
  rw [← Is_eq]
  rfl
theorem refDrain_eq (k : Nat) (room a b rate at_ : Int) : pacemakerref28_Drain.f (k + 2) room a b rate at_ = some (qdrain room a b rate at_) := by
  unfold pacemakerref28_Drain.f qdrain
  rw [refIs_eq]
  simp only [Option.bind_some]
  by_cases hq : isq room a b
  · simp only [hq, decide_true, if_true]
    by_cases h1 : rate < 1
    · rw [if_pos h1, if_pos (.inl h1)]; simp [pacemakerref28_Drain.j0]
    · rw [if_neg h1]
      by_cases h2 : rate > 1000000000
      · rw [if_pos (.inr h2)]; simp [pacemakerref28_Drain.j0, h2]
      · rw [if_neg (show ¬ (rate < 1 ∨ 1000000000 < rate) by omega)]
        simp only [pacemakerref28_Drain.j0]
        rw [if_neg (by simp; omega)]
        unfold pacemakerref09_Time.f
        by_cases h3 : at_ ≥ 0
        · rw [if_pos h3]
          simp only [Option.bind_some]
          by_cases h4 : at_ ≤ 1099511627776
          · simp only [h4, decide_true, if_true]
            by_cases h5 : at_ < a
            · simp only [pacemakerref28_Drain.j1, h5, decide_true, if_true]
              rw [if_pos (.inr (.inr trivial))]
            · simp only [pacemakerref28_Drain.j1, h5, decide_false]
              rw [if_neg (by simp), if_neg (show ¬ rate = 0 by omega), if_neg (show ¬ (at_ < 0 ∨ 1099511627776 < at_ ∨ False) by simp only [or_false]; omega)]
              obtain ⟨r1, r2, a1, a2, b1, b2⟩ := hq
              obtain ⟨d0, d1, d2, d3⟩ := quo_le b1 (show 1 ≤ rate by omega)
              rw [Int.tdiv_eq_ediv_of_nonneg b1, w64 (x := b / rate) (by omega) (by omega), w64 (x := at_ - a) (by omega) (by omega)]
              by_cases h6 : at_ - a > b / rate
              · rw [if_pos h6]
                have h7 := mulle (show b / rate + 1 ≤ at_ - a by omega) (show 0 ≤ rate by omega)
                have h8 : (b / rate + 1) * rate = b / rate * rate + rate := by rw [Int.add_mul, Int.one_mul]
                congr 3
                omega
              · rw [if_neg h6]
                have h7 := mulle (show at_ - a ≤ b / rate by omega) (show 0 ≤ rate by omega)
                have h8 : 0 ≤ (at_ - a) * rate := Int.mul_nonneg (by omega) (by omega)
                rw [w64 (x := (at_ - a) * rate) (by omega) (by omega), w64 (x := b - (at_ - a) * rate) (by omega) (by omega)]
                congr 3
                omega
          · simp only [h4, decide_false]
            rw [if_neg (by simp), if_pos (.inr (.inl (by omega)))]
            simp [pacemakerref28_Drain.j1]
        · rw [if_neg h3]
          simp only [Option.bind_some]
          rw [if_neg (by simp)]
          simp only [pacemakerref28_Drain.j1, if_true]
          rw [if_pos (show at_ < 0 ∨ 1099511627776 < at_ ∨ at_ < a from .inl (by omega))]
  · simp [hq]
theorem refArrive_eq (k : Nat) (room a b rate at_ size : Int) : pacemakerref28_Arrive.f (k + 2) room a b rate at_ size = some (qarrive room a b rate at_ size) := by
  unfold pacemakerref28_Arrive.f qarrive pacemakerref09_Size.f
  rw [refDrain_eq]
  simp only [Option.bind_some]
  by_cases h0 : (qdrain room a b rate at_).2.2 = 0
  · rw [if_pos h0, if_pos h0]
    obtain ⟨hq, r1, r2, t1, t2, t3, e⟩ := qdrain_ok h0
    obtain ⟨w0, w1, w2, w3, w4⟩ := qdrain_work h0
    have hr := hq.1
    have hr2 := hq.2.1
    rw [w0]
    generalize (qdrain room a b rate at_).2.1 = W at *
    by_cases h1 : size ≥ 1
    · rw [if_pos h1]
      simp only [Option.bind_some]
      by_cases h2 : size ≤ 9000
      · simp only [h2, decide_true, if_true]
        rw [if_neg (show ¬ (size < 1 ∨ 9000 < size) by omega), w64 (x := size * 1000000) (by omega) (by omega), w64 (x := W + size * 1000000) (by omega) (by omega), w64 (x := room * 1000000) (by omega) (by omega)]
        by_cases h3 : W + size * 1000000 > room * 1000000
        · rw [if_pos h3, if_pos h3]
        · rw [if_neg h3, if_neg h3, if_neg (show ¬ rate = 0 by omega)]
          have hV : 0 ≤ W + size * 1000000 := by omega
          have hb := cdiv_le hV r1
          generalize W + size * 1000000 = V at *
          rw [w64 (x := V + rate) (by omega) (by omega), w64 (x := V + rate - 1) (by omega) (by omega), Int.tdiv_eq_ediv_of_nonneg (by omega)]
          unfold cdiv at *
          rw [w64 (x := (V + rate - 1) / rate) (by omega) (by omega), w64 (by omega) (by omega)]
      · simp only [h2, decide_false]
        rw [if_neg (by simp), if_pos (by omega)]
    · rw [if_neg h1]
      simp only [Option.bind_some]
      rw [if_neg (by simp), if_pos (by omega)]
  · rw [if_neg h0, if_neg h0]
theorem refRow_loop (room rate : Int) (l : List S25) (hlen : l.length ≤ 80) : ∀ (d i k : Nat) (acc : List S41) (a b : Int), l.length - i = d → i ≤ l.length → acc.length = i → d + 2 < k →
    pacemakerref28_Row.l0 k room rate l acc (i : Int) a b = some (acc ++ (rowF room rate (l.drop i) a b).1, (rowF room rate (l.drop i) a b).2) := by
  intro d
  induction d with
  | zero =>
    intro i k acc a b hd hi ha hk
    obtain ⟨k, rfl⟩ : ∃ m, k = m + 1 := ⟨k - 1, by omega⟩
    simp only [pacemakerref28_Row.l0]
    rw [if_neg (by omega), List.drop_eq_nil_of_le (by omega)]
    simp [rowF]
  | succ d ih =>
    intro i k acc a b hd hi ha hk
    obtain ⟨k, rfl⟩ : ∃ m, k = m + 2 + 1 := ⟨k - 3, by omega⟩
    have hlt : i < l.length := by omega
    have hld : l.drop i = l[i] :: l.drop (i + 1) := List.drop_eq_getElem_cons hlt
    have hrl : rd_T25 l (i : Int) = l[i] := by simp [rd_T25, hlt]
    have hwi : wrap64 ((i : Int) + 1) = ((i + 1 : Nat) : Int) := by rw [w64 (by omega) (by omega)]; omega
    rw [hld, rowF]
    unfold pacemakerref28_Row.l0
    rw [hrl, hwi, if_pos (by omega), if_pos (by omega), refArrive_eq]
    simp only [Option.bind_some]
    rw [if_pos (show acc.length < 8796093022208 by omega), if_pos (show acc.length < 8796093022208 by omega)]
    generalize hx : l[i] = x at *
    split
    · rw [ih (i + 1) (k + 2) _ _ _ (by omega) (by omega) (by rw [List.length_append, List.length_singleton]; omega) (by omega)]
      simp
    · rw [ih (i + 1) (k + 2) _ _ _ (by omega) (by omega) (by rw [List.length_append, List.length_singleton]; omega) (by omega)]
      simp
theorem refRow_eq (k : Nat) (room rate : Int) (l : List S25) (hl : l.length ≤ 80) (hk : 100 ≤ k) : pacemakerref28_Row.f k room rate l = some (if isq room 0 0 then rowF room rate l 0 0 else ([], 0, 0)) := by
  unfold pacemakerref28_Row.f
  rw [refIs_eq]
  simp only [Option.bind_some]
  by_cases h : isq room 0 0
  · simp only [h, decide_true, if_true]
    have := refRow_loop room rate l hl l.length 0 k [] 0 0 (by omega) (by omega) rfl (by omega)
    simpa using this
  · simp [h]
theorem same_loop (m : List S41) (hlen : m.length ≤ 80) : ∀ (d i k : Nat), m.length - i = d → i ≤ m.length → d + 1 < k → pacemakerref28_Same.l0 k m m (i : Int) = some true := by
  intro d
  induction d with
  | zero =>
    intro i k hd hi hk
    obtain ⟨k, rfl⟩ : ∃ m, k = m + 1 := ⟨k - 1, by omega⟩
    simp only [pacemakerref28_Same.l0]
    rw [if_neg (by omega)]
  | succ d ih =>
    intro i k hd hi hk
    obtain ⟨k, rfl⟩ : ∃ m, k = m + 1 := ⟨k - 1, by omega⟩
    have hwi : wrap64 ((i : Int) + 1) = ((i + 1 : Nat) : Int) := by rw [w64 (by omega) (by omega)]; omega
    unfold pacemakerref28_Same.l0
    rw [hwi, if_pos (by omega), if_pos (by omega), if_pos (by omega), if_neg (by simp)]
    exact ih (i + 1) k (by omega) (by omega) (by omega)
theorem QueueDoes : QueueDoes_Stmt := by
  intro room q rate x l _ _ _ _ _
  refine ⟨200 + 1, ?_⟩
  unfold pacemakerlaw28_QueueDoes.f pacemakerlaw28_small.f
  rw [Drain_eq, refDrain_eq, Arrive_eq, refArrive_eq, Is_eq, refIs_eq, queued_ok _ (by omega)]
  simp only [Option.bind_some]
  simp only [beq_self_eq_true, Bool.not_true, Bool.or_self, Bool.false_eq_true, if_false, if_true, bne_self_eq_false]
  by_cases hl : (l.length : Int) ≤ 80
  · simp only [hl, decide_true, if_true]
    rw [Row_eq 200 room rate l (by omega), refRow_eq 201 room rate l (by omega) (by omega)]
    simp only [Option.bind_some]
    have hlen : (if isq room 0 0 then rowF room rate l 0 0 else ([], 0, 0)).1.length ≤ 80 := by
      split
      · rw [rowF_length]; omega
      · simp
    generalize (if isq room 0 0 then rowF room rate l 0 0 else (([] : List S41), (0 : Int), (0 : Int))) = r at *
    have hs : pacemakerref28_Same.f 201 r.1 r.1 = some true := by
      unfold pacemakerref28_Same.f
      rw [if_pos rfl]
      exact same_loop r.1 hlen r.1.length 0 201 (by omega) (by omega) (by omega)
    rw [hs]
    simp
  · simp only [hl, decide_false]
    rw [if_neg (by simp)]
end Go.Proofs.Ytefigckobfaodaa.Pure
