import Derived.Test.YtocdpfdnnijdkaaGQ
import Derived.Test.YtocdpfdnnijdkaaGx4
import Derived.Test.YtocdpfdnnijdkaaGx5
namespace Go.Proofs.Ytocdpfdnnijdkaa.G
open Go.RowKit Go.Proofs.YtocdpfdnnijdkaaW.PrintWords Go.Proofs.YtocdpfdnnijdkaaW.PrintLast Go.Proofs.YtocdpfdnnijdkaaW.PrintMore
attribute [local go_sem] max2_int min2_int max_two min_two max_three min_three max_four min_four
attribute [local go_sem] Go.Proofs.YtocdpfdnnijdkaaS.cell_set_map Go.Proofs.YtocdpfdnnijdkaaS.setCell_drewN
set_option linter.unusedVariables false
set_option linter.unusedSimpArgs false
theorem erase_perm {α : Type} : ∀ (l : List α) (i : Nat) (h : i < l.length), l.Perm (l[i] :: l.eraseIdx i)
  | [], i, h => absurd h (by simp)
  | x :: t, 0, _ => List.Perm.refl _
  | x :: t, i + 1, h => (List.Perm.cons x (erase_perm t i (by simpa using h))).trans (List.Perm.swap _ _ _)
theorem erase_map {α β : Type} (f : α → β) : ∀ (l : List α) (i : Nat), (l.map f).eraseIdx i = (l.eraseIdx i).map f
  | [], _ => rfl
  | x :: t, 0 => rfl
  | x :: t, i + 1 => congrArg (f x :: ·) (erase_map f t i)
def gM (ml : List S24) (j : Nat) : S24 := rd_T24 ml (j : Int)
theorem gM_get {ml : List S24} {j : Nat} (h : j < ml.length) : gM ml j = ml[j] := by
  unfold gM rd_T24
  rw [Int.toNat_natCast, List.getD_eq_getElem?_getD, List.getElem?_eq_getElem h]
  rfl
/-- The place of the first one of a list. -/
def isFirst (ml : List S24) (a : Nat) : Prop := a < ml.length ∧ ∀ j, j < ml.length → (gM ml a).f0 ≤ (gM ml j).f0 ∧ (j < a → (gM ml a).f0 < (gM ml j).f0)
theorem first_l0 (ml : List S24) (hl : ml.length ≤ 1000000) : ∀ (m i : Nat) (p : Int), i + m = ml.length → ((i = 0 ∧ p = -1) ∨ ∃ a : Nat, p = (a : Int) ∧ a < i ∧ ∀ j, j < i → (gM ml a).f0 ≤ (gM ml j).f0 ∧ (j < a → (gM ml a).f0 < (gM ml j).f0)) → ∃ r, pacemakerref29_first.l0 (m + 1) ml p (i : Int) = some r ∧ ((ml = [] ∧ r = -1) ∨ ∃ a : Nat, r = (a : Int) ∧ isFirst ml a) := by
  intro m
  induction m with
  | zero =>
    intro i p hi hp
    refine ⟨p, ?_, ?_⟩
    · unfold pacemakerref29_first.l0
      rw [if_neg (by omega)]
    · rcases hp with ⟨h0, h1⟩ | ⟨a, h1, h2, h3⟩
      · exact .inl ⟨List.length_eq_zero_iff.1 (by omega), h1⟩
      · exact .inr ⟨a, h1, by omega, fun j hj => h3 j (by omega)⟩
  | succ m ih =>
    intro i p hi hp
    have hw : wrap64 ((i : Int) + 1) = ((i + 1 : Nat) : Int) := by unfold wrap64; omega
    unfold pacemakerref29_first.l0
    rw [if_pos (by omega), hw]
    rcases hp with ⟨h0, h1⟩ | ⟨a, h1, h2, h3⟩
    · rw [if_pos (by omega)]
      exact ih (i + 1) (i : Int) (by omega) (.inr ⟨i, rfl, by omega, fun j hj => by
        obtain rfl : j = i := by omega
        exact ⟨Int.le_refl _, fun h => absurd h (Nat.lt_irrefl _)⟩⟩)
    · subst h1
      rw [if_neg (by omega), if_pos (by omega), if_pos (by omega), if_pos (by omega)]
      change ∃ r, (if (gM ml i).f0 < (gM ml a).f0 then _ else _) = some r ∧ _
      by_cases hc : (gM ml i).f0 < (gM ml a).f0
      · rw [if_pos hc]
        exact ih (i + 1) (i : Int) (by omega) (.inr ⟨i, rfl, by omega, fun j hj => by
          by_cases hji : j = i
          · subst hji
            exact ⟨Int.le_refl _, fun h => absurd h (Nat.lt_irrefl _)⟩
          · have := (h3 j (by omega)).1
            exact ⟨by omega, fun _ => by omega⟩⟩)
      · rw [if_neg hc]
        exact ih (i + 1) (a : Int) (by omega) (.inr ⟨a, rfl, by omega, fun j hj => by
          by_cases hji : j = i
          · subst hji
            exact ⟨by omega, fun h => absurd h (by omega)⟩
          · exact h3 j (by omega)⟩)
theorem first_f (ml : List S24) (hl : ml.length ≤ 1000000) : ∃ r, pacemakerref29_first.f (ml.length + 1) ml = some r ∧ ((ml = [] ∧ r = -1) ∨ ∃ a : Nat, r = (a : Int) ∧ isFirst ml a) :=
  first_l0 ml hl ml.length 0 (-1) (by omega) (.inl ⟨rfl, rfl⟩)
theorem take_snoc {ml : List S24} {i : Nat} (h : i < ml.length) : ml.take (i + 1) = ml.take i ++ [gM ml i] := by
  rw [gM_get h, List.take_succ_eq_append_getElem h]
theorem without_l0 (ml : List S24) (a : Nat) (hl : ml.length ≤ 1000000) : ∀ (m i : Nat), i + m = ml.length → pacemakerref29_without.l0 (m + 1) ml (a : Int) ((ml.take i).eraseIdx a) (i : Int) = some (ml.eraseIdx a) := by
  intro m
  induction m with
  | zero =>
    intro i hi
    unfold pacemakerref29_without.l0
    rw [if_neg (by omega), List.take_of_length_le (by omega)]
  | succ m ih =>
    intro i hi
    have hw : wrap64 ((i : Int) + 1) = ((i + 1 : Nat) : Int) := by unfold wrap64; omega
    have hil : i < ml.length := by omega
    have hlt : (ml.take i).length = i := by rw [List.length_take]; omega
    have h1 := ih (i + 1) (by omega)
    rw [take_snoc hil] at h1
    unfold pacemakerref29_without.l0
    rw [if_pos (by omega), hw]
    by_cases e : (i : Int) = (a : Int)
    · rw [if_pos e]
      obtain rfl : i = a := by omega
      rw [List.eraseIdx_append_of_length_le (by omega), hlt, Nat.sub_self] at h1
      rw [List.eraseIdx_of_length_le (by omega)]
      simpa using h1
    · rw [if_neg e, if_pos (by omega)]
      have hc : ((ml.take i).eraseIdx a).length < 4398046511104 := by
        have := List.length_eraseIdx_le (ml.take i) a
        omega
      rw [if_pos hc]
      by_cases hai : a < i
      · rw [List.eraseIdx_append_of_lt_length (by omega)] at h1
        exact h1
      · rw [List.eraseIdx_of_length_le (by rw [List.length_append, List.length_singleton]; omega)] at h1
        rw [List.eraseIdx_of_length_le (by omega)]
        exact h1
theorem without_f (ml : List S24) (a : Nat) (hl : ml.length ≤ 1000000) : pacemakerref29_without.f (ml.length + 1) ml (a : Int) = some (ml.eraseIdx a) := by
  have h := without_l0 ml a hl ml.length 0 (by omega)
  rw [List.take_zero] at h
  exact h
/-- The document's list and the heap: the same entries, the list in the order in which they were put. -/
def Rel (l : List S60) (ml : List S24) (n : Int) : Prop := ∃ es : List S60, l.Perm es ∧ ml = es.map evS ∧ es.Pairwise (fun a b => a.f4 < b.f4) ∧ (∀ e ∈ es, e.f4 < n) ∧ isHeap l
theorem rel_len {l : List S60} {ml : List S24} {n : Int} (h : Rel l ml n) : ml.length = l.length := by
  obtain ⟨es, h1, rfl, _⟩ := h
  rw [List.length_map, h1.length_eq]
theorem rel_nil : Rel [] [] 0 := ⟨[], List.Perm.refl _, rfl, List.Pairwise.nil, (fun e he => absurd he (by simp)), heap_nil⟩
theorem rel_put {l : List S60} {ml : List S24} {n : Int} (h : Rel l ml n) (x : S24) : Rel (putL l ⟨x.f0, x.f1, x.f2, x.f3, n⟩) (ml ++ [x]) (n + 1) := by
  obtain ⟨es, h1, rfl, h3, h4, h5⟩ := h
  refine ⟨es ++ [⟨x.f0, x.f1, x.f2, x.f3, n⟩], (putL_perm _ _).trans (List.Perm.append_right _ h1), by rw [List.map_append]; rfl, ?_, ?_, putL_heap h5 _⟩
  · rw [List.pairwise_append]
    refine ⟨h3, List.pairwise_singleton _ _, fun a ha b hb => ?_⟩
    rw [List.mem_singleton] at hb
    subst hb
    exact h4 a ha
  · intro e he
    rcases List.mem_append.1 he with he | he
    · have := h4 e he
      omega
    · rw [List.mem_singleton] at he
      subst he
      show n < n + 1
      omega
theorem rel_first {l : List S60} {ml : List S24} {n : Int} {a : Nat} (h : Rel l ml n) (ha : isFirst ml a) : ∃ e, l[0]? = some e ∧ evS e = gM ml a ∧ Rel (takeL l) (ml.eraseIdx a) n := by
  have hlen := rel_len h
  obtain ⟨es, h1, rfl, h3, h4, h5⟩ := h
  obtain ⟨ha1, ha2⟩ := ha
  have hel : es.length = l.length := h1.length_eq.symm
  rw [List.length_map] at ha1 ha2
  have hg : ∀ j, (hj : j < es.length) → gM (es.map evS) j = evS es[j] := fun j hj => by rw [gM_get (by rw [List.length_map]; exact hj), List.getElem_map]
  have hp : 0 < l.length := by omega
  obtain ⟨e, he⟩ : ∃ e, l[0]? = some e := ⟨l[0], List.getElem?_eq_getElem hp⟩
  obtain ⟨b, hb, hbe⟩ := List.getElem_of_mem (h1.mem_iff.1 (List.mem_of_getElem? he))
  have hc : es[a] ∈ l := h1.mem_iff.2 (List.getElem_mem ha1)
  obtain ⟨j, hj, hje⟩ := mem_gL hc
  have hmin := heap_min h5 j hj
  rw [hje, gL_get he] at hmin
  have h6 := ha2 b hb
  rw [hg a ha1, hg b hb, hbe] at h6
  have h7 : (es[a]).f0 ≤ e.f0 := h6.1
  have h8 : b < a → (es[a]).f0 < e.f0 := h6.2
  have hpw := List.pairwise_iff_getElem.1 h3
  have hba : b = a := by
    unfold leS at hmin
    rcases Nat.lt_trichotomy b a with h | h | h
    · have := h8 h
      omega
    · exact h
    · have := hpw a b ha1 hb h
      rw [hbe] at this
      omega
  subst hba
  refine ⟨e, he, by rw [hg b hb, hbe], es.eraseIdx b, ?_, ?_, ?_, ?_, takeL_heap h5⟩
  · have q1 : (e :: takeL l).Perm (e :: es.eraseIdx b) := by
      refine (takeL_perm he).symm.trans (h1.trans ?_)
      have := erase_perm es b hb
      rwa [hbe] at this
    exact q1.cons_inv
  · exact erase_map evS es b
  · exact h3.sublist (List.eraseIdx_sublist _ _)
  · intro e' he'
    exact h4 e' (List.mem_of_mem_eraseIdx he')
theorem rel_empty {l : List S60} {n : Int} (h : Rel l [] n) : l = [] := List.length_eq_zero_iff.1 (by have := rel_len h; simp at this; omega)
end Go.Proofs.Ytocdpfdnnijdkaa.G
