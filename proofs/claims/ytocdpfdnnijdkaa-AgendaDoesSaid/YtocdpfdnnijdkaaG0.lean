import Derived.Deep.MidRow
import Derived.Test.YtocdpfdnnijdkaaGx1
import Derived.Test.YtocdpfdnnijdkaaGx2
namespace Go.Proofs.Ytocdpfdnnijdkaa.G
open Go.RowKit Go.Proofs.YtocdpfdnnijdkaaW.PrintWords Go.Proofs.YtocdpfdnnijdkaaW.PrintLast Go.Proofs.YtocdpfdnnijdkaaW.PrintMore
attribute [local go_sem] max2_int min2_int max_two min_two max_three min_three max_four min_four
attribute [local go_sem] Go.Proofs.YtocdpfdnnijdkaaS.cell_set_map Go.Proofs.YtocdpfdnnijdkaaS.setCell_drewN
set_option linter.unusedVariables false
set_option linter.unusedSimpArgs false
/-- An entry: an event, and how many were put ahead of it. -/
structure S60 where
  f0 : Int
  f1 : Int
  f2 : Int
  f3 : Int
  f4 : Int
deriving Inhabited
def eC (x : S60) : List Value := [.int .i64 x.f0, .int .i64 x.f1, .int .i64 x.f2, .int .u64 x.f3, .int .i64 x.f4]
def eL (l : List S60) : List Value := l.flatMap eC
theorem eC_length (x : S60) : (eC x).length = 5 := rfl
theorem eC_one (x : S60) : ∀ u ∈ eC x, u.oneCell' = true := by
  intro u hu
  simp only [eC, List.mem_cons, List.not_mem_nil, or_false] at hu
  rcases hu with rfl | rfl | rfl | rfl | rfl <;> rfl
theorem eL_length (l : List S60) : (eL l).length = l.length * 5 := by
  induction l with
  | nil => rfl
  | cons x l ih =>
    show (eC x ++ eL l).length = _
    rw [List.length_append, ih, eC_length, List.length_cons]
    omega
theorem eL_get {l : List S60} {i : Nat} {x : S60} (h : l[i]? = some x) (j : Nat) (hj : j < 5) : (eL l)[i * 5 + j]? = (eC x)[j]? := by
  induction l generalizing i with
  | nil => simp at h
  | cons y l ih =>
    show (eC y ++ eL l)[i * 5 + j]? = _
    cases i with
    | zero =>
      rw [List.getElem?_cons_zero] at h
      injection h with h
      subst h
      rw [List.getElem?_append_left (by rw [eC_length]; omega)]
      congr 1
      omega
    | succ i =>
      rw [List.getElem?_cons_succ] at h
      rw [List.getElem?_append_right (by rw [eC_length]; omega), eC_length, ← ih h]
      congr 1
      omega
theorem eL_append (l m : List S60) : eL (l ++ m) = eL l ++ eL m := List.flatMap_append
/-- Cells set, one behind the other. -/
def setL (c : Array Value) (o : Nat) : List Value → Array Value
  | [] => c
  | v :: r => setL (c.setIfInBounds o v) (o + 1) r
theorem setL_size : ∀ (vs : List Value) (c : Array Value) (o : Nat), (setL c o vs).size = c.size
  | [], _, _ => rfl
  | v :: r, c, o => by
    show (setL (c.setIfInBounds o v) (o + 1) r).size = _
    rw [setL_size r, Array.size_setIfInBounds]
theorem setL_out : ∀ (vs : List Value) (c : Array Value) (o k : Nat), (k < o ∨ o + vs.length ≤ k) → (setL c o vs)[k]? = c[k]?
  | [], _, _, _, _ => rfl
  | v :: r, c, o, k, h => by
    show (setL (c.setIfInBounds o v) (o + 1) r)[k]? = _
    rw [List.length_cons] at h
    rw [setL_out r _ _ _ (by omega), Array.getElem?_setIfInBounds, if_neg (by omega)]
theorem setL_in : ∀ (vs : List Value) (c : Array Value) (o j : Nat), j < vs.length → o + j < c.size → (setL c o vs)[o + j]? = vs[j]?
  | [], _, _, _, h, _ => absurd h (by simp)
  | v :: r, c, o, j, h, hs => by
    show (setL (c.setIfInBounds o v) (o + 1) r)[o + j]? = _
    cases j with
    | zero =>
      rw [setL_out r _ _ _ (by omega), Nat.add_zero, Array.getElem?_setIfInBounds, if_pos rfl, if_pos (by simpa using hs)]
      rfl
    | succ j =>
      rw [List.length_cons] at h
      have := setL_in r (c.setIfInBounds o v) (o + 1) j (by omega) (by rw [Array.size_setIfInBounds]; omega)
      rw [show o + (j + 1) = o + 1 + j by omega, this]
      rfl
theorem setCells_blk {b t : Nat} : ∀ (vs : List Value) (o : Nat) (w : World) (c : Array Value), w.heap[b]? = some (.cells c t (0, 0)) → (w.setCells b o vs).heap[b]? = some (.cells (setL c o vs) t (0, 0))
  | [], _, _, _, h => h
  | v :: r, o, w, c, h => setCells_blk r (o + 1) _ _ (blk_set h o v)
theorem setCells_far {b k : Nat} (hk : k ≠ b) : ∀ (vs : List Value) (o : Nat) (w : World), (w.setCells b o vs).heap[k]? = w.heap[k]?
  | [], _, _ => rfl
  | v :: r, o, w => (setCells_far hk r (o + 1) _).trans (Below.heap_setCell w ⟨b, o, none⟩ v k hk)
theorem setCells_size (b : Nat) : ∀ (vs : List Value) (o : Nat) (w : World), (w.setCells b o vs).heap.size = w.heap.size
  | [], _, _ => rfl
  | v :: r, o, w => (setCells_size b r (o + 1) _).trans (by simp [World.setCell])
/-- A row of entries in a block of its own. -/
def HR (w : World) (b cap : Nat) (l : List S60) : Prop := l.length ≤ cap ∧ cap ≤ maxLen ∧ ∃ c : Array Value, w.heap[b]? = some (.cells c 60 (0, 0)) ∧ c.size = cap * 5 ∧ ∀ i x, l[i]? = some x → ∀ j v, (eC x)[j]? = some v → c[i * 5 + j]? = some v
theorem HR_range {w : World} {b cap : Nat} {l : List S60} (h : HR w b cap l) {i : Nat} {x : S60} (hi : l[i]? = some x) : w.rangeAt b (i * 5) (eC x) := by
  obtain ⟨_, _, c, hb, hs, hc⟩ := h
  intro j v hv
  exact (blk_cell hb _).trans (hc i x hi j v hv)
theorem HR_there {w : World} {b cap : Nat} {l : List S60} (h : HR w b cap l) {i : Nat} (hi : i < l.length) : w.there b (i * 5) 5 := by
  obtain ⟨hl, _, c, hb, hs, hc⟩ := h
  intro j hj
  refine ⟨?_, blk_frozen hb _⟩
  rw [blk_cell hb, Array.getElem?_eq_getElem (by omega)]
  rfl
theorem HR_set {w : World} {b cap : Nat} {l : List S60} (h : HR w b cap l) {i : Nat} (x : S60) (hi : i < l.length) : HR (w.setCells b (i * 5) (eC x)) b cap (l.set i x) := by
  obtain ⟨hl, hm, c, hb, hs, hc⟩ := h
  refine ⟨by rw [List.length_set]; exact hl, hm, _, setCells_blk _ _ _ _ hb, by rw [setL_size, hs], ?_⟩
  intro k y hk j v hv
  have hj : j < 5 := by have := (List.getElem?_eq_some_iff.1 hv).1; rwa [eC_length] at this
  by_cases e : i = k
  · subst e
    rw [List.getElem?_set_self hi] at hk
    obtain rfl := Option.some.inj hk
    rw [setL_in _ _ _ _ (by rw [eC_length]; exact hj) (by omega)]
    exact hv
  · rw [List.getElem?_set_ne e] at hk
    rw [setL_out _ _ _ _ (by rw [eC_length]; omega)]
    exact hc k y hk j v hv
theorem HR_take {w : World} {b cap : Nat} {l : List S60} (h : HR w b cap l) (n : Nat) : HR w b cap (l.take n) := by
  obtain ⟨hl, hm, c, hb, hs, hc⟩ := h
  refine ⟨by rw [List.length_take]; omega, hm, c, hb, hs, fun i x hi => hc i x ?_⟩
  rw [List.getElem?_take] at hi
  split at hi
  · exact hi
  · cases hi
theorem HR_move {w w' : World} {b cap : Nat} {l : List S60} (h : HR w b cap l) (hb : w'.heap[b]? = w.heap[b]?) : HR w' b cap l := by
  obtain ⟨hl, hm, c, hb', r⟩ := h
  exact ⟨hl, hm, c, hb.trans hb', r⟩
theorem HR_own {w : World} {b cap : Nat} {l : List S60} (h : HR w b cap l) : w.ownsRow 0 60 5 (.slice (some ⟨b, 0, none⟩) l.length cap) l.length (eL l) := by
  obtain ⟨hl, hm, c, hb, hs, hc⟩ := h
  refine ⟨eL_length l, .inr ⟨b, cap, c, rfl, Nat.zero_le _, hb, hl, hm, hs, ?_⟩⟩
  apply List.ext_getElem?
  intro k
  rw [List.getElem?_take]
  by_cases hk : k < l.length * 5
  · rw [if_pos hk]
    have hi : k / 5 < l.length := by omega
    have hj : k % 5 < 5 := by omega
    have hk' : k = k / 5 * 5 + k % 5 := by omega
    have e := eL_get (List.getElem?_eq_getElem hi) (k % 5) hj
    have e2 := hc (k / 5) _ (List.getElem?_eq_getElem hi) (k % 5) _ (List.getElem?_eq_getElem (by rw [eC_length]; exact hj))
    rw [← hk'] at e e2
    rw [e, Array.getElem?_toList, e2]
    exact (List.getElem?_eq_getElem (by rw [eC_length]; exact hj)).symm
  · rw [if_neg hk, List.getElem?_eq_none (by rw [eL_length]; omega)]
/-- A row of entries: none yet, or in a block of its own. -/
def AR (w : World) (v : Value) (l : List S60) : Prop := (v = .slice none 0 0 ∧ l = []) ∨ ∃ b cap, v = .slice (some ⟨b, 0, none⟩) l.length cap ∧ HR w b cap l
theorem AR_own {w : World} {v : Value} {l : List S60} (h : AR w v l) : w.ownsRow 0 60 5 v l.length (eL l) := by
  rcases h with ⟨rfl, rfl⟩ | ⟨b, cap, rfl, h⟩
  · exact ⟨rfl, .inl ⟨rfl, rfl⟩⟩
  · exact HR_own h
theorem own_AR {w : World} {v : Value} {n : Nat} {l : List S60} (h : w.ownsRow 0 60 5 v n (eL l)) (hn : n = l.length) : AR w v l := by
  subst hn
  obtain ⟨_, ⟨rfl, h0⟩ | ⟨g, cap, cur, rfl, _, hb, hl, hm, hs, hc⟩⟩ := h
  · exact .inl ⟨rfl, List.length_eq_zero_iff.1 h0⟩
  · refine .inr ⟨g, cap, rfl, hl, hm, cur, hb, hs, ?_⟩
    intro i x hi j v hv
    have hj : j < 5 := by have := (List.getElem?_eq_some_iff.1 hv).1; rwa [eC_length] at this
    have hil := (List.getElem?_eq_some_iff.1 hi).1
    have e := eL_get hi j hj
    rw [← hc, List.getElem?_take, if_pos (by omega), Array.getElem?_toList] at e
    rw [e]
    exact hv
theorem AR_move {w w' : World} {v : Value} {l : List S60} (h : AR w v l) (hb : ∀ b, v.ownBlock = some b → w'.heap[b]? = w.heap[b]?) : AR w' v l := by
  rcases h with h | ⟨b, cap, rfl, h⟩
  · exact .inl h
  · exact .inr ⟨b, cap, rfl, HR_move h (hb b rfl)⟩
end Go.Proofs.Ytocdpfdnnijdkaa.G
