/- The plain statement of the law ScriptJoins. -/
import Derived.Test.YtlnjehknkkfpcaaStScriptJoins
import Derived.Test.YtlnjehknkkfpcaaSL
namespace Go.Proofs.Ytlnjehknkkfpcaa.Pure
open Go.RowKit Go.Proofs.YtlnjehknkkfpcaaW.PrintWords Go.Proofs.Ytlnjehknkkfpcaa.P
theorem bt_fst (a b : ByteArray) (i : Nat) (h : i < a.size) : bt (a ++ b) (i : Int) = bt a (i : Int) := by
  unfold bt
  rw [dif_pos (by simp; omega), dif_pos (by simpa using h)]
  congr 2
  exact ByteArray.getElem_append_left (by simpa using h)
theorem bt_snd (a b : ByteArray) (i : Nat) (h : a.size ≤ i) : bt (a ++ b) (i : Int) = bt b ((i - a.size : Nat) : Int) := by
  unfold bt
  by_cases hb : i - a.size < b.size
  · rw [dif_pos (by simp; omega), dif_pos (by simpa using hb)]
    congr 2
    exact ByteArray.getElem_append_right (by simpa using h)
  · rw [dif_neg (by simp; omega), dif_neg (by simpa using hb)]
theorem decodeL_app (m : Int) (a b : ByteArray) (h : a.size % 3 = 0) : decodeL m (a ++ b) = decodeL m a ++ decodeL m b := by
  have hl : threes (a ++ b).size = threes a.size + threes b.size := by
    rw [ByteArray.size_append]
    unfold threes
    omega
  have ha : 3 * threes a.size = a.size := by unfold threes; omega
  apply List.ext_getElem
  · rw [List.length_append, decodeL_length, decodeL_length, decodeL_length, hl]
  · intro i h1 h2
    rw [decodeL_length, hl] at h1
    by_cases hi : i < threes a.size
    · rw [List.getElem_append_left (by rw [decodeL_length]; exact hi)]
      simp only [decodeL, List.getElem_map, List.getElem_range]
      rw [bt_fst a b _ (by omega), bt_fst a b _ (by omega), bt_fst a b _ (by omega)]
    · rw [List.getElem_append_right (by rw [decodeL_length]; omega)]
      simp only [decodeL, List.getElem_map, List.getElem_range, List.length_map, List.length_range]
      rw [bt_snd a b _ (by omega), bt_snd a b _ (by omega), bt_snd a b _ (by omega)]
      rw [show 3 * i - a.size = 3 * (i - threes a.size) by omega, show 3 * i + 1 - a.size = 3 * (i - threes a.size) + 1 by omega, show 3 * i + 2 - a.size = 3 * (i - threes a.size) + 2 by omega]
theorem cnt_cons (k : Int) (x : S24) (l : List S24) : cnt k (x :: l) = (if x.f0 = k then 1 else 0) + cnt k l := by
  have := cnt_app k [x] l
  rw [List.singleton_append] at this
  rw [this]
  congr 1
  unfold cnt
  by_cases h : x.f0 = k <;> simp [h]
theorem cnt_sum : ∀ l : List S24, (∀ x ∈ l, 0 ≤ x.f0 ∧ x.f0 < 8) → cnt 0 l + cnt 1 l + cnt 2 l + cnt 3 l + cnt 4 l + cnt 5 l + cnt 6 l + cnt 7 l = (l.length : Int)
  | [], _ => rfl
  | x :: l, h => by
    have ih := cnt_sum l (fun y hy => h y (List.mem_cons_of_mem _ hy))
    have hx := h x List.mem_cons_self
    simp only [cnt_cons, List.length_cons]
    have hx8 : x.f0 = 0 ∨ x.f0 = 1 ∨ x.f0 = 2 ∨ x.f0 = 3 ∨ x.f0 = 4 ∨ x.f0 = 5 ∨ x.f0 = 6 ∨ x.f0 = 7 := by omega
    rcases hx8 with e | e | e | e | e | e | e | e <;> (rw [e]; simp; omega)
theorem ScriptJoins : ScriptJoins_Stmt := by
  intro a s t _ _ _
  refine ⟨4000, ?_⟩
  unfold pacemakerlaw30_ScriptJoins.f
  by_cases h : (s.size : Int) > 2000 ∨ (t.size : Int) > 2000 ∨ ¬ (s.size : Int).tmod 3 = 0
  · rw [if_neg, if_pos h]
    rintro ⟨h1, h2, h3, _⟩
    rcases h with h | h | h
    · omega
    · omega
    · rw [Int.tmod_eq_emod_of_nonneg (by omega)] at h
      omega
  · have h1 : s.size ≤ 2000 := by omega
    have h2 : t.size ≤ 2000 := by omega
    have h3 : s.size % 3 = 0 := by
      have : (s.size : Int).tmod 3 = 0 := by
        by_cases e : (s.size : Int).tmod 3 = 0
        · exact e
        · exact absurd (Or.inr (Or.inr e)) h
      rw [Int.tmod_eq_emod_of_nonneg (by omega)] at this
      omega
    have hsz : (s ++ t).size = s.size + t.size := ByteArray.size_append
    have e1 := Decode_eq a s (by omega)
    have e2 := Decode_eq a t (by omega)
    have e3 := Decode_eq a (s ++ t) (by omega)
    rw [decodeL_app _ s t h3] at e3
    have l1 : (decodeL (mx 1 (mn a 64)) s).length ≤ 1000 := by rw [decodeL_length]; unfold threes; omega
    have l2 : (decodeL (mx 1 (mn a 64)) t).length ≤ 1000 := by rw [decodeL_length]; unfold threes; omega
    have hr : ∀ x ∈ decodeL (mx 1 (mn a 64)) s ++ decodeL (mx 1 (mn a 64)) t, 0 ≤ x.f0 ∧ x.f0 < 8 := by
      intro x hx
      have : isB a x = true := (List.mem_append.1 hx).elim (decodeL_is a s x) (decodeL_is a t x)
      rw [isB_iff] at this
      exact ⟨this.1, this.2.1⟩
    rw [if_pos]
    refine ⟨h1, h2, h3, _, _, e1, e2, e3, l1, l2, same_self _ 4000 (by rw [List.length_append]; omega) (by rw [List.length_append]; omega), ?_⟩
    rw [← cnt_sum _ hr]
    simp only [psum, Int.zero_add]
    rfl
end Go.Proofs.Ytlnjehknkkfpcaa.Pure
