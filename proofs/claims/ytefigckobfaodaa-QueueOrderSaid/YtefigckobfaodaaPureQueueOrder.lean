/- The plain statement of the law QueueOrder: what comes first leaves first, as much behind the one ahead, and behind its coming, as it needs. -/
import Derived.Test.YtefigckobfaodaaStQueueOrder
import Derived.Test.YtefigckobfaodaaQM
namespace Go.Proofs.Ytefigckobfaodaa.Pure
open Go.RowKit Go.Proofs.YtefigckobfaodaaW.PrintWords Go.Proofs.Ytefigckobfaodaa.Q

theorem order_loop (room rate : Int) (l : List S25) (m : List S41) (hlen : l.length ≤ 80) (hm : m.length = l.length) : ∀ (d i k : Nat) (a b : Int), l.length - i = d → i ≤ l.length → m.drop i = (rowF room rate (l.drop i) a b).1 → isq room a b → 1 ≤ rate → 2 * d + 20 ≤ k →
    pacemakerlaw28_QueueOrder.l0 k room rate l m (a + cdiv b rate) (i : Int) = some true := by
  intro d
  induction d with
  | zero =>
    intro i k a b hd hi hrow hq hr hk
    obtain ⟨k, rfl⟩ : ∃ m, k = m + 1 := ⟨k - 1, by omega⟩
    simp only [pacemakerlaw28_QueueOrder.l0]
    rw [if_neg (by omega), queued_ok k (by omega)]
    rfl
  | succ d ih =>
    intro i k a b hd hi hrow hq hr hk
    obtain ⟨k, rfl⟩ : ∃ m, k = m + 1 := ⟨k - 1, by omega⟩
    have hlt : i < l.length := by omega
    have hltm : i < m.length := by omega
    have hld : l.drop i = l[i] :: l.drop (i + 1) := List.drop_eq_getElem_cons hlt
    have hmd : m.drop i = m[i] :: m.drop (i + 1) := List.drop_eq_getElem_cons hltm
    have hrl : rd_T25 l (i : Int) = l[i] := by simp [rd_T25, hlt]
    have hrm : rd_T41 m (i : Int) = m[i] := by simp [rd_T41, hltm]
    have hwi : wrap64 ((i : Int) + 1) = ((i + 1 : Nat) : Int) := by rw [w64 (by omega) (by omega)]; omega
    rw [hld, hmd, rowF] at hrow
    simp only [pacemakerlaw28_QueueOrder.l0, hrl, hrm, hwi]
    rw [if_pos (by omega), if_pos (by omega), if_pos (by omega)]
    generalize hx : l[i] = x at *
    by_cases hz : (qarrive room a b rate x.f0 x.f1).2.2.2 = 0
    · rw [if_pos hz] at hrow
      obtain ⟨hm1, hm2⟩ := List.cons.inj hrow
      obtain ⟨q0, q1, t1, t2, t3, s1, s2, e1, g1, g2, g3, g4, n0, n1, c0, c1, r1, r0, hr1⟩ := order_math hz
      obtain ⟨p0, p1, p2, p3, p4, p5⟩ := id q0
      obtain ⟨y0, y1, y2, y3, y4, y5⟩ := id hq
      obtain ⟨v0, v1, v2, v3⟩ := cdiv_le p4 hr1
      have hnext := ih (i + 1) k (qarrive room a b rate x.f0 x.f1).2.1 (qarrive room a b rate x.f0 x.f1).2.2.1 (by omega) (by omega) hm2 q0 hr (by omega)
      rw [q1] at hnext
      rw [← e1] at hnext
      have hf0 : m[i].f0 = (qarrive room a b rate x.f0 x.f1).1 := by rw [hm1]
      have hf1 : m[i].f1 = false := by rw [hm1]
      rw [hf0, hf1]
      have hL : (qarrive room a b rate x.f0 x.f1).1 ≤ 2199023255552000 := by
        rw [e1]; omega
      generalize (qarrive room a b rate x.f0 x.f1).1 = L at *
      have hS : wrap64 (Int.tdiv (wrap64 (x.f1 * 1000000)) rate) = x.f1 * 1000000 / rate := by
        rw [w64 (x := x.f1 * 1000000) (by omega) (by omega), Int.tdiv_eq_ediv_of_nonneg (by omega), w64 (by omega) (by omega)]
      have hR : wrap64 (Int.tdiv (wrap64 (room * 1000000)) rate) = room * 1000000 / rate := by
        rw [w64 (x := room * 1000000) (by omega) (by omega), Int.tdiv_eq_ediv_of_nonneg (by omega), w64 (by omega) (by omega)]
      rw [hS, hR]
      generalize x.f1 * 1000000 / rate = n at *
      generalize room * 1000000 / rate = R at *
      generalize cdiv b rate = C1 at *
      rw [if_neg (by simp), if_neg (show ¬ rate = 0 by omega), w64 (x := a + C1 + n) (by omega) (by omega), if_neg (by omega), w64 (x := L - x.f0) (by omega) (by omega), if_neg (by omega), w64 (x := R + 1) (by omega) (by omega)]
      rw [if_neg (show ¬ (L - x.f0 > R + 1) by omega)]
      by_cases h4 : a + C1 ≤ x.f0
      · rw [if_pos h4, w64 (x := n + 1) (by omega) (by omega), if_neg (by have := g4 h4; omega)]
        exact hnext
      · rw [if_neg h4]
        exact hnext
    · rw [if_neg hz] at hrow
      obtain ⟨hm1, hm2⟩ := List.cons.inj hrow
      have hf0 : m[i].f0 = 0 := by rw [hm1]
      have hf1 : m[i].f1 = true := by rw [hm1]
      rw [hf0, hf1, if_pos rfl, if_pos rfl]
      exact ih (i + 1) k a b (by omega) (by omega) hm2 hq hr (by omega)

theorem QueueOrder : QueueOrder_Stmt := by
  intro room rate l _ _ _
  refine ⟨200 + 1, ?_⟩
  have hq0 : ∀ k, 9 ≤ k → (pacemakerlaw28_queued.f k).bind (fun t => some t) = some true := fun k h => by rw [queued_ok k h]; rfl
  unfold pacemakerlaw28_QueueOrder.f pacemakerlaw28_small.f
  simp only [Option.bind_some]
  by_cases hl : (l.length : Int) ≤ 80
  · simp only [hl, decide_true, if_true]
    by_cases h1 : room < 1
    · rw [if_pos h1]; exact hq0 _ (by omega)
    rw [if_neg h1]
    by_cases h2 : room > 1073741824
    · rw [if_pos h2]; exact hq0 _ (by omega)
    rw [if_neg h2]
    by_cases h3 : rate < 1
    · rw [if_pos h3]; exact hq0 _ (by omega)
    rw [if_neg h3]
    by_cases h4 : rate > 1000000000
    · rw [if_pos h4]; exact hq0 _ (by omega)
    rw [if_neg h4]
    have hi : isq room 0 0 := ⟨by omega, by omega, by omega, by omega, by omega, by omega⟩
    rw [Row_eq 200 room rate l (by omega), if_pos hi]
    simp only [Option.bind_some, rowF_length, if_true]
    have := order_loop room rate l (rowF room rate l 0 0).1 (by omega) (rowF_length _ _ _ _ _) l.length 0 201 0 0 (by omega) (by omega) (by simp) hi (by omega) (by omega)
    have hc : cdiv 0 rate = 0 := by unfold cdiv; exact Int.ediv_eq_zero_of_lt (by omega) (by omega)
    rw [hc] at this
    exact this
  · simp only [hl, decide_false]
    rw [if_neg (by simp)]; exact hq0 _ (by omega)
end Go.Proofs.Ytefigckobfaodaa.Pure
