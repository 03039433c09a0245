/- The plain statement of the law QueueReich: what waits is the most that came, from any packet on that was not lost, less what the rate took since then, or nothing. -/
import Derived.Test.YtefigckobfaodaaStQueueReich
import Derived.Test.YtefigckobfaodaaQM
namespace Go.Proofs.Ytefigckobfaodaa.Pure
open Go.RowKit Go.Proofs.YtefigckobfaodaaW.PrintWords Go.Proofs.YtefigckobfaodaaW.PrintMore Go.Proofs.Ytefigckobfaodaa.Q

/-- The most that came, and the sum, from the end on. -/
def reichF (at_ rate : Int) : List S25 → List S41 → Int × Int
  | x :: xs, f :: fs =>
    if f.f1 = true then reichF at_ rate xs fs
    else (if x.f0 ≤ at_ then max (reichF at_ rate xs fs).1 ((reichF at_ rate xs fs).2 + x.f1 * 1000000 - rate * (at_ - x.f0)) else (reichF at_ rate xs fs).1, (reichF at_ rate xs fs).2 + x.f1 * 1000000)
  | _, _ => (0, 0)

theorem arrive_a {room a b rate at_ size : Int} (h : (qarrive room a b rate at_ size).2.2.2 = 0) : (qarrive room a b rate at_ size).2.2.1 = max 0 (b - (at_ - a) * rate) + size * 1000000 := by
  obtain ⟨h0, s1, s2, hw, e⟩ := qarrive_ok h
  obtain ⟨hq, r1, r2, t1, t2, t3, ed⟩ := qdrain_ok h0
  rw [e, ed]

theorem row_right (room rate : Int) : ∀ (l : List S25) (a b : Int), isq room a b → isq room (rowF room rate l a b).2.1 (rowF room rate l a b).2.2 ∧ a ≤ (rowF room rate l a b).2.1
  | [], a, b, h => ⟨h, Int.le_refl _⟩
  | x :: xs, a, b, h => by
    unfold rowF
    by_cases hz : (qarrive room a b rate x.f0 x.f1).2.2.2 = 0
    · rw [if_pos hz]
      obtain ⟨q0, q1, t1, t2, t3, _⟩ := order_math hz
      have := row_right room rate xs _ _ q0
      rw [q1] at this
      rw [q1]
      exact ⟨this.1, by dsimp only; omega⟩
    · rw [if_neg hz]
      exact row_right room rate xs a b h

theorem reich_math (room rate at_ : Int) (hr : 1 ≤ rate) : ∀ (l : List S25) (a b : Int), isq room a b → (rowF room rate l a b).2.1 ≤ at_ →
    0 ≤ (reichF at_ rate l (rowF room rate l a b).1).1 ∧ (reichF at_ rate l (rowF room rate l a b).1).2 - rate * at_ ≤ (reichF at_ rate l (rowF room rate l a b).1).1 ∧
    max 0 ((rowF room rate l a b).2.2 - (at_ - (rowF room rate l a b).2.1) * rate) = max (reichF at_ rate l (rowF room rate l a b).1).1 (b + (reichF at_ rate l (rowF room rate l a b).1).2 - (at_ - a) * rate)
  | [], a, b, h, hA => by
    simp only [rowF, reichF] at *
    have : 0 ≤ rate * at_ := Int.mul_nonneg (by omega) (by have := h.2.2.1; omega)
    refine ⟨Int.le_refl _, by omega, by rw [Int.add_zero]⟩
  | x :: xs, a, b, h, hA => by
    unfold rowF at hA ⊢
    by_cases hz : (qarrive room a b rate x.f0 x.f1).2.2.2 = 0
    · rw [if_pos hz] at hA ⊢
      obtain ⟨q0, q1, t1, t2, t3, _⟩ := order_math hz
      have hb' := arrive_a hz
      have hmon := (row_right room rate xs _ _ q0).2
      have ih := reich_math room rate at_ hr xs _ _ q0 hA
      simp only [reichF, Bool.false_eq_true, if_false]
      rw [q1] at hmon ih hA ⊢
      rw [hb'] at hmon ih hA ⊢
      dsimp only at hA ⊢
      rw [if_pos (show x.f0 ≤ at_ by omega)]
      obtain ⟨i1, i2, i3⟩ := ih
      have e1 : (at_ - x.f0) * rate = rate * (at_ - x.f0) := Int.mul_comm _ _
      have e2 : (at_ - a) * rate = (at_ - x.f0) * rate + (x.f0 - a) * rate := by rw [← Int.add_mul]; congr 1; omega
      have e3 : rate * (at_ - x.f0) = rate * at_ - rate * x.f0 := Int.mul_sub _ _ _
      have e4 : 0 ≤ rate * x.f0 := Int.mul_nonneg (by omega) t1
      rw [e2]
      omega
    · rw [if_neg hz] at hA ⊢
      have ih := reich_math room rate at_ hr xs a b h hA
      simp only [reichF, if_true]
      exact ih

theorem row_facts (room rate : Int) : ∀ (l : List S25) (a b : Int) (i : Nat) (x : S25) (f : S41), l[i]? = some x → (rowF room rate l a b).1[i]? = some f → f.f1 = false → 1 ≤ x.f1 ∧ x.f1 ≤ 9000 ∧ 0 ≤ x.f0
  | [], a, b, i, x, f, hx, hf, hl => by simp at hx
  | y :: ys, a, b, i, x, f, hx, hf, hl => by
    unfold rowF at hf
    by_cases hz : (qarrive room a b rate y.f0 y.f1).2.2.2 = 0
    · rw [if_pos hz] at hf
      cases i with
      | zero =>
        obtain ⟨q0, q1, t1, t2, t3, s1, s2, _⟩ := order_math hz
        simp at hx
        subst hx
        exact ⟨s1, s2, t1⟩
      | succ i => exact row_facts room rate ys _ _ i x f (by simpa using hx) (by simpa using hf) hl
    · rw [if_neg hz] at hf
      cases i with
      | zero =>
        simp at hf
        subst hf
        simp at hl
      | succ i => exact row_facts room rate ys _ _ i x f (by simpa using hx) (by simpa using hf) hl

theorem reich_loop (room rate at_ A B : Int) (l : List S25) (m : List S41) (hlen : l.length ≤ 80) (hm : m.length = l.length) (hr : 1 ≤ rate) (hr2 : rate ≤ 1000000000) (ha : 0 ≤ at_) (ha2 : at_ ≤ 1000000000)
    (hf : ∀ (i : Nat) (x : S25) (f : S41), l[i]? = some x → m[i]? = some f → f.f1 = false → 1 ≤ x.f1 ∧ x.f1 ≤ 9000 ∧ 0 ≤ x.f0)
    (hok : (qdrain room A B rate at_).2.2 = 0 → (qdrain room A B rate at_).2.1 = (reichF at_ rate l m).1) (hbad : (qdrain room A B rate at_).2.2 ≠ 0 → at_ < A) :
    ∀ (n k : Nat), n ≤ l.length → n + 20 ≤ k → 0 ≤ (reichF at_ rate (l.drop n) (m.drop n)).2 → (reichF at_ rate (l.drop n) (m.drop n)).2 ≤ ((l.length - n : Nat) : Int) * 9000000000 →
      pacemakerlaw28_QueueReich.l0 k room rate l at_ m (reichF at_ rate (l.drop n) (m.drop n)).1 (reichF at_ rate (l.drop n) (m.drop n)).2 ((n : Int) - 1) A B = some true := by
  intro n
  induction n with
  | zero =>
    intro k hn hk h1 h2
    obtain ⟨k, rfl⟩ : ∃ m, k = m + 1 + 1 := ⟨k - 2, by omega⟩
    unfold pacemakerlaw28_QueueReich.l0
    rw [if_neg (by omega), Drain_eq, queued_ok _ (by omega)]
    simp only [Option.bind_some, List.drop_zero, if_true]
    by_cases hz : (qdrain room A B rate at_).2.2 = 0
    · rw [if_pos hz, if_pos (hok hz), (qdrain_work hz).1]
      simp
    · rw [if_neg hz]
      simp [hbad hz]
  | succ n ih =>
    intro k hn hk h1 h2
    obtain ⟨k, rfl⟩ : ∃ m, k = m + 1 := ⟨k - 1, by omega⟩
    have hlt : n < l.length := by omega
    have hltm : n < m.length := by omega
    have hld : l.drop n = l[n] :: l.drop (n + 1) := List.drop_eq_getElem_cons hlt
    have hmd : m.drop n = m[n] :: m.drop (n + 1) := List.drop_eq_getElem_cons hltm
    have hi : (((n + 1 : Nat) : Int) - 1) = (n : Int) := by omega
    have hrl : rd_T25 l (n : Int) = l[n] := by simp [rd_T25, hlt]
    have hrm : rd_T41 m (n : Int) = m[n] := by simp [rd_T41, hltm]
    have hw : wrap64 ((n : Int) - 1) = (n : Int) - 1 := w64 (by omega) (by omega)
    have hfn := hf n l[n] m[n] (List.getElem?_eq_getElem hlt) (List.getElem?_eq_getElem hltm)
    have ihk := ih k (by omega) (by omega)
    rw [hld, hmd, reichF] at ihk
    unfold pacemakerlaw28_QueueReich.l0
    rw [hi, hrl, hrm, hw, if_pos (by omega), if_pos (by omega), if_pos (by omega)]
    generalize l[n] = x at *
    generalize m[n] = f at *
    by_cases hlost : f.f1 = true
    · rw [if_pos hlost] at ihk ⊢
      exact ihk h1 (by have : ((l.length - (n + 1) : Nat) : Int) ≤ ((l.length - n : Nat) : Int) := by omega
                       omega)
    · rw [if_neg hlost] at ihk ⊢
      obtain ⟨f1, f2, f3⟩ := hfn (by simpa using hlost)
      generalize reichF at_ rate (l.drop (n + 1)) (m.drop (n + 1)) = ms at *
      rw [if_pos (by omega)]
      by_cases hbig : x.f0 > 1000000000
      · rw [if_pos hbig, queued_ok _ (by omega)]
        rfl
      · rw [if_neg hbig]
        have hs : ms.2 + x.f1 * 1000000 ≤ ((l.length - n : Nat) : Int) * 9000000000 := by
          have : ((l.length - n : Nat) : Int) = ((l.length - (n + 1) : Nat) : Int) + 1 := by omega
          rw [this, Int.add_mul]
          omega
        have hcap : ((l.length - n : Nat) : Int) * 9000000000 ≤ 80 * 9000000000 := mulle (by omega) (by omega)
        rw [w64 (x := x.f1 * 1000000) (by omega) (by omega), w64 (x := ms.2 + x.f1 * 1000000) (by omega) (by omega)]
        by_cases hle : x.f0 ≤ at_
        · rw [if_pos hle] at ihk ⊢
          have hp0 : 0 ≤ rate * (at_ - x.f0) := Int.mul_nonneg (by omega) (by omega)
          have hp1 : rate * (at_ - x.f0) ≤ 1000000000 * (at_ - x.f0) := mulle hr2 (by omega)
          rw [w64 (x := at_ - x.f0) (by omega) (by omega), w64 (x := rate * (at_ - x.f0)) (by omega) (by omega), w64 (x := ms.2 + x.f1 * 1000000 - rate * (at_ - x.f0)) (by omega) (by omega)]
          have hmx : mx ms.1 (ms.2 + x.f1 * 1000000 - rate * (at_ - x.f0)) = max ms.1 (ms.2 + x.f1 * 1000000 - rate * (at_ - x.f0)) := by unfold mx; split <;> omega
          rw [hmx]
          exact ihk (by dsimp only; omega) (by dsimp only; omega)
        · rw [if_neg hle] at ihk ⊢
          exact ihk (by dsimp only; omega) (by dsimp only; omega)

theorem QueueReich : QueueReich_Stmt := by
  intro room rate l at_ _ _ _ _
  refine ⟨200 + 1, ?_⟩
  have hq0 : ∀ k, 9 ≤ k → (pacemakerlaw28_queued.f k).bind (fun t => some t) = some true := fun k h => by rw [queued_ok k h]; rfl
  unfold pacemakerlaw28_QueueReich.f pacemakerlaw28_small.f
  simp only [Option.bind_some]
  by_cases hl : (l.length : Int) ≤ 80
  · simp only [hl, decide_true, if_true]
    by_cases h1 : room < 1
    · rw [if_pos h1]; exact hq0 _ (by omega)
    rw [if_neg h1]
    by_cases h2 : room > 1073741824
    · rw [if_pos h2]; exact hq0 _ (by omega)
    rw [if_neg h2]
    by_cases h3 : rate < 1
    · rw [if_pos h3]; exact hq0 _ (by omega)
    rw [if_neg h3]
    by_cases h4 : rate > 1000000000
    · rw [if_pos h4]; exact hq0 _ (by omega)
    rw [if_neg h4]
    by_cases h5 : at_ < 0
    · rw [if_pos h5]; exact hq0 _ (by omega)
    rw [if_neg h5]
    by_cases h6 : at_ > 1000000000
    · rw [if_pos h6]; exact hq0 _ (by omega)
    rw [if_neg h6]
    have hi : isq room 0 0 := ⟨by omega, by omega, by omega, by omega, by omega, by omega⟩
    rw [Row_eq 200 room rate l (by omega), if_pos hi]
    simp only [Option.bind_some, rowF_length, if_true]
    have hright := (row_right room rate l 0 0 hi).1
    have hm := reich_math room rate at_ (by omega) l 0 0 hi
    have hfacts := row_facts room rate l 0 0
    have hml := rowF_length room rate l 0 0
    generalize hrow : rowF room rate l 0 0 = r at *
    have hok : (qdrain room r.2.1 r.2.2 rate at_).2.2 = 0 → (qdrain room r.2.1 r.2.2 rate at_).2.1 = (reichF at_ rate l r.1).1 := by
      intro hz
      obtain ⟨_, _, _, _, _, t3, e⟩ := qdrain_ok hz
      obtain ⟨m1, m2, m3⟩ := hm t3
      rw [e]
      dsimp only
      rw [m3]
      have e1 : (at_ - 0) * rate = rate * at_ := by rw [Int.sub_zero, Int.mul_comm]
      rw [e1]
      omega
    have hbad : (qdrain room r.2.1 r.2.2 rate at_).2.2 ≠ 0 → at_ < r.2.1 := by
      intro hz
      unfold qdrain at hz
      rw [if_pos hright, if_neg (by omega)] at hz
      by_cases hlt : at_ < r.2.1
      · exact hlt
      · rw [if_neg (by omega)] at hz
        exact absurd rfl hz
    have := reich_loop room rate at_ r.2.1 r.2.2 l r.1 (by omega) hml (by omega) (by omega) (by omega) (by omega) hfacts hok hbad l.length 201 (Nat.le_refl _) (by omega)
    rw [List.drop_eq_nil_of_le (by omega)] at this
    simp only [reichF] at this
    rw [w64 (by omega) (by omega)]
    exact this (by omega) (by omega)
  · simp only [hl, decide_false]
    rw [if_neg (by simp)]; exact hq0 _ (by omega)
end Go.Proofs.Ytefigckobfaodaa.Pure
