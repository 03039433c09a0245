import Derived.Test.YtocdpfdnnijdkaaG10
namespace Go.Proofs.Ytocdpfdnnijdkaa.G
open Go.RowKit Go.Proofs.YtocdpfdnnijdkaaW.PrintWords Go.Proofs.YtocdpfdnnijdkaaW.PrintLast Go.Proofs.YtocdpfdnnijdkaaW.PrintMore
attribute [local go_sem] max2_int min2_int max_two min_two max_three min_three max_four min_four
attribute [local go_sem] Go.Proofs.YtocdpfdnnijdkaaS.cell_set_map Go.Proofs.YtocdpfdnnijdkaaS.setCell_drewN
set_option linter.unusedVariables false
set_option linter.unusedSimpArgs false
/-- Not behind: an earlier time, or the same and put no later. -/
def leS (x y : S60) : Prop := x.f0 < y.f0 ∨ (x.f0 = y.f0 ∧ x.f4 ≤ y.f4)
theorem leS_refl (x : S60) : leS x x := .inr ⟨rfl, Int.le_refl _⟩
theorem leS_trans {x y z : S60} (h1 : leS x y) (h2 : leS y z) : leS x z := by unfold leS at *; omega
theorem leS_of_bef {x y : S60} (h : bef x y = true) : leS x y := by
  unfold bef at h
  unfold leS
  split at h
  · exact .inl (by assumption)
  · split at h
    · exact .inr ⟨by assumption, Int.le_of_lt (of_decide_eq_true h)⟩
    · cases h
theorem leS_of_not {x y : S60} (h : bef y x = false) : leS x y := by
  unfold bef at h
  unfold leS
  split at h
  · cases h
  · split at h
    · have := of_decide_eq_false h
      omega
    · omega
def gL (l : List S60) (i : Nat) : S60 := l[i]?.getD default
theorem gL_get {l : List S60} {i : Nat} {x : S60} (h : l[i]? = some x) : gL l i = x := by unfold gL; rw [h]; rfl
theorem gL_sw {l : List S60} {i j : Nat} (hi : i < l.length) (hj : j < l.length) (k : Nat) : gL (swL l i j) k = if k = j then gL l i else if k = i then gL l j else gL l k := by
  unfold swL gL
  by_cases h1 : k = j
  · subst h1
    rw [if_pos rfl, List.getElem?_set_self (by rw [List.length_set]; exact hj)]
    rfl
  · rw [if_neg h1, List.getElem?_set_ne (fun e => h1 e.symm)]
    by_cases h2 : k = i
    · subst h2
      rw [if_pos rfl, List.getElem?_set_self hi]
      rfl
    · rw [if_neg h2, List.getElem?_set_ne (fun e => h2 e.symm)]
/-- None is ahead of that at half of its place. -/
def isHeap (l : List S60) : Prop := ∀ j, 0 < j → j < l.length → leS (gL l ((j - 1) / 2)) (gL l j)
theorem heap_nil : isHeap [] := fun j _ h => absurd h (by simp)
theorem heap_min {l : List S60} (h : isHeap l) : ∀ j, j < l.length → leS (gL l 0) (gL l j) := by
  intro j
  induction j using Nat.strongRecOn with
  | _ j ih =>
    intro hj
    by_cases h0 : j = 0
    · subst h0
      exact leS_refl _
    · exact leS_trans (ih ((j - 1) / 2) (by omega) (by omega)) (h j (by omega) hj)
def upInv (l : List S60) (i : Nat) : Prop := (∀ j, 0 < j → j < l.length → j ≠ i → leS (gL l ((j - 1) / 2)) (gL l j)) ∧ (∀ j, 0 < j → j < l.length → (j - 1) / 2 = i → 0 < i → leS (gL l ((i - 1) / 2)) (gL l j))
theorem upF_heap : ∀ (f : Nat) (l : List S60) (i : Nat), i ≤ f → i < l.length → upInv l i → isHeap (upF l f i)
  | 0, l, i, hf, hi, h => by
    intro j h0 hj
    exact h.1 j h0 hj (by omega)
  | f + 1, l, i, hf, hi, h => by
    unfold upF
    by_cases hi0 : i = 0
    · rw [if_pos hi0]
      intro j h0 hj
      exact h.1 j h0 hj (by omega)
    · rw [if_neg hi0]
      have hp : (i - 1) / 2 < i := by omega
      generalize hpe : (i - 1) / 2 = p at *
      have hpl : p < l.length := by omega
      by_cases hb : bef (l[i]?.getD default) (l[p]?.getD default) = true
      · rw [if_pos hb]
        have hip : leS (gL l i) (gL l p) := leS_of_bef hb
        refine upF_heap f _ p (by omega) (by rw [swL_length]; exact hpl) ⟨?_, ?_⟩
        · intro j h0 hj hjp
          rw [swL_length] at hj
          rw [gL_sw hpl hi, gL_sw hpl hi]
          by_cases e1 : j = i
          · subst e1
            rw [hpe, if_neg (by omega), if_pos rfl, if_pos rfl]
            exact hip
          · rw [if_neg e1, if_neg hjp]
            by_cases e2 : (j - 1) / 2 = i
            · rw [if_pos e2]
              have := h.2 j h0 hj e2 (by omega)
              rwa [hpe] at this
            · rw [if_neg e2]
              have hjj := h.1 j h0 hj e1
              by_cases e3 : (j - 1) / 2 = p
              · rw [if_pos e3]
                rw [e3] at hjj
                exact leS_trans hip hjj
              · rw [if_neg e3]
                exact hjj
        · intro j h0 hj hjp hp0
          rw [swL_length] at hj
          have hpp : (p - 1) / 2 < p := by omega
          have hlp := h.1 p hp0 hpl (by omega)
          rw [gL_sw hpl hi, gL_sw hpl hi, if_neg (by omega), if_neg (by omega)]
          by_cases e1 : j = i
          · rw [if_pos e1]
            exact hlp
          · rw [if_neg e1, if_neg (by omega)]
            have hjj := h.1 j h0 hj e1
            rw [hjp] at hjj
            exact leS_trans hlp hjj
      · rw [if_neg hb]
        intro j h0 hj
        by_cases e1 : j = i
        · subst e1
          rw [hpe]
          exact leS_of_not (Bool.eq_false_iff.mpr hb)
        · exact h.1 j h0 hj e1
theorem putL_heap {l : List S60} (h : isHeap l) (x : S60) : isHeap (putL l x) := by
  unfold putL
  refine upF_heap _ _ _ (Nat.le_refl _) (by simp) ⟨?_, ?_⟩
  · intro j h0 hj hjl
    have hjl' : j < l.length := by simp at hj; omega
    have e1 : gL (l ++ [x]) j = gL l j := by unfold gL; rw [List.getElem?_append_left hjl']
    have e2 : gL (l ++ [x]) ((j - 1) / 2) = gL l ((j - 1) / 2) := by unfold gL; rw [List.getElem?_append_left (by omega)]
    rw [e1, e2]
    exact h j h0 hjl'
  · intro j h0 hj hjp
    simp at hj
    omega
def downInv (l : List S60) (i : Nat) : Prop := (∀ j, 0 < j → j < l.length → (j - 1) / 2 ≠ i → leS (gL l ((j - 1) / 2)) (gL l j)) ∧ (∀ j, 0 < j → j < l.length → (j - 1) / 2 = i → 0 < i → leS (gL l ((i - 1) / 2)) (gL l j))
theorem down_sw {l : List S60} {i k : Nat} (hk : k < l.length) (hki : (k - 1) / 2 = i) (hk0 : 0 < k) (hmin : ∀ j, 0 < j → j < l.length → (j - 1) / 2 = i → leS (gL l k) (gL l j)) (hb : leS (gL l k) (gL l i)) (h : downInv l i) : downInv (swL l i k) k := by
  have hil : i < l.length := by omega
  refine ⟨?_, ?_⟩
  · intro j h0 hj hjk
    rw [swL_length] at hj
    rw [gL_sw hil hk, gL_sw hil hk, if_neg hjk]
    by_cases e1 : (j - 1) / 2 = i
    · rw [if_pos e1]
      by_cases e2 : j = k
      · rw [if_pos e2]
        exact hb
      · rw [if_neg e2, if_neg (by omega)]
        exact hmin j h0 hj e1
    · rw [if_neg e1, if_neg (by omega)]
      by_cases e2 : j = i
      · rw [if_pos e2]
        have := h.2 k hk0 hk hki (by omega)
        rw [e2]
        exact this
      · rw [if_neg e2]
        exact h.1 j h0 hj e1
  · intro j h0 hj hjk _
    rw [swL_length] at hj
    rw [gL_sw hil hk, gL_sw hil hk, hki, if_neg (by omega), if_pos rfl, if_neg (by omega), if_neg (by omega)]
    have := h.1 j h0 hj (by omega)
    rwa [hjk] at this
theorem downF_heap : ∀ (f : Nat) (l : List S60) (i : Nat), l.length ≤ f + i → downInv l i → isHeap (downF l f i)
  | 0, l, i, hf, h => by
    intro j h0 hj
    have hj' : j < l.length := hj
    exact h.1 j h0 hj' (by omega)
  | f + 1, l, i, hf, h => by
    have stop : ∀ k, k < l.length → (k - 1) / 2 = i → 0 < k → (∀ j, 0 < j → j < l.length → (j - 1) / 2 = i → leS (gL l k) (gL l j)) → leS (gL l i) (gL l k) → isHeap l := by
      intro k _ _ _ hmin hik j h0 hj
      by_cases e : (j - 1) / 2 = i
      · rw [e]
        exact leS_trans hik (hmin j h0 hj e)
      · exact h.1 j h0 hj e
    unfold downF
    by_cases h1 : 2 * i + 1 < l.length
    · rw [if_pos h1]
      by_cases h2 : 2 * i + 2 < l.length ∧ bef (l[2 * i + 2]?.getD default) (l[2 * i + 1]?.getD default) = true
      · rw [if_pos h2]
        have hmin : ∀ j, 0 < j → j < l.length → (j - 1) / 2 = i → leS (gL l (2 * i + 2)) (gL l j) := by
          intro j _ hj e
          have : j = 2 * i + 1 ∨ j = 2 * i + 2 := by omega
          rcases this with rfl | rfl
          · exact leS_of_bef h2.2
          · exact leS_refl _
        by_cases hb : bef (l[2 * i + 2]?.getD default) (l[i]?.getD default) = true
        · rw [if_pos hb]
          exact downF_heap f _ _ (by rw [swL_length]; omega) (down_sw h2.1 (by omega) (by omega) hmin (leS_of_bef hb) h)
        · rw [if_neg hb]
          exact stop _ h2.1 (by omega) (by omega) hmin (leS_of_not (Bool.eq_false_iff.mpr hb))
      · rw [if_neg h2]
        have hmin : ∀ j, 0 < j → j < l.length → (j - 1) / 2 = i → leS (gL l (2 * i + 1)) (gL l j) := by
          intro j _ hj e
          have : j = 2 * i + 1 ∨ j = 2 * i + 2 := by omega
          rcases this with rfl | rfl
          · exact leS_refl _
          · exact leS_of_not (Bool.eq_false_iff.mpr (fun hh => h2 ⟨hj, hh⟩))
        by_cases hb : bef (l[2 * i + 1]?.getD default) (l[i]?.getD default) = true
        · rw [if_pos hb]
          exact downF_heap f _ _ (by rw [swL_length]; omega) (down_sw h1 (by omega) (by omega) hmin (leS_of_bef hb) h)
        · rw [if_neg hb]
          exact stop _ h1 (by omega) (by omega) hmin (leS_of_not (Bool.eq_false_iff.mpr hb))
    · rw [if_neg h1]
      intro j h0 hj
      exact h.1 j h0 hj (by omega)
theorem takeL_heap {l : List S60} (h : isHeap l) : isHeap (takeL l) := by
  unfold takeL
  refine downF_heap _ _ _ (by rw [List.length_take, List.length_set]; omega) ⟨?_, fun j _ _ _ h0 => absurd h0 (by decide)⟩
  intro j h0 hj hjp
  have hj' : j < l.length - 1 := by rw [List.length_take, List.length_set] at hj; omega
  have e : ∀ k, 0 < k → k < l.length - 1 → gL ((l.set 0 (l[l.length - 1]?.getD default)).take (l.length - 1)) k = gL l k := by
    intro k hk hkl
    unfold gL
    rw [List.getElem?_take, if_pos hkl, List.getElem?_set_ne (by omega)]
  rw [e j h0 hj', e _ (by omega) (by omega)]
  exact h j h0 (by omega)
/-! ### The same entries -/
theorem swL_perm {l : List S60} {i j : Nat} (hi : i < l.length) (hj : j < l.length) : (swL l i j).Perm l := by
  unfold swL
  rw [List.getElem?_eq_getElem hi, List.getElem?_eq_getElem hj]
  exact List.set_set_perm hi hj
theorem upF_perm : ∀ (f : Nat) (l : List S60) (i : Nat), i < l.length → (upF l f i).Perm l
  | 0, _, _, _ => List.Perm.refl _
  | f + 1, l, i, hi => by
    unfold upF
    split
    · exact List.Perm.refl _
    · split
      · exact (upF_perm f _ _ (by rw [swL_length]; omega)).trans (swL_perm (by omega) hi)
      · exact List.Perm.refl _
theorem putL_perm (l : List S60) (x : S60) : (putL l x).Perm (l ++ [x]) := upF_perm _ _ _ (by simp)
theorem downF_perm : ∀ (f : Nat) (l : List S60) (i : Nat), (downF l f i).Perm l
  | 0, _, _ => List.Perm.refl _
  | f + 1, l, i => by
    unfold downF
    split
    · split
      · rename_i h1 h2
        split
        · exact (downF_perm f _ _).trans (swL_perm (by omega) h2.1)
        · exact List.Perm.refl _
      · rename_i h1 h2
        split
        · exact (downF_perm f _ _).trans (swL_perm (by omega) h1)
        · exact List.Perm.refl _
    · exact List.Perm.refl _
theorem takeL_perm {l : List S60} {x : S60} (hx : l[0]? = some x) : l.Perm (x :: takeL l) := by
  unfold takeL
  refine List.Perm.trans ?_ (List.Perm.cons x (downF_perm _ _ _)).symm
  cases l with
  | nil => simp at hx
  | cons y t =>
    obtain rfl : y = x := by simpa using hx
    rcases List.eq_nil_or_concat t with rfl | ⟨s, z, rfl⟩
    · simp
    · simp
end Go.Proofs.Ytocdpfdnnijdkaa.G
