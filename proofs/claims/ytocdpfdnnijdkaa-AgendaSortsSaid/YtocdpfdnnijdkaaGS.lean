import Derived.Test.YtocdpfdnnijdkaaGR
namespace Go.Proofs.Ytocdpfdnnijdkaa.G
open Go.RowKit Go.Proofs.YtocdpfdnnijdkaaW.PrintWords Go.Proofs.YtocdpfdnnijdkaaW.PrintLast Go.Proofs.YtocdpfdnnijdkaaW.PrintMore
attribute [local go_sem] max2_int min2_int max_two min_two max_three min_three max_four min_four
attribute [local go_sem] Go.Proofs.YtocdpfdnnijdkaaS.cell_set_map Go.Proofs.YtocdpfdnnijdkaaS.setCell_drewN
set_option linter.unusedVariables false
set_option linter.unusedSimpArgs false
/-- Bools as cells. -/
def mkB (bs : List Bool) : Array Value := (bs.map Value.bool).toArray
theorem mkB_get (bs : List Bool) (j : Nat) (h : j < bs.length) : (mkB bs)[j]? = some (Value.bool (bs.getD j false)) := by
  unfold mkB
  simp [List.getElem?_map, h]
theorem rowB_cell {w : World} {g t : Nat} {bs : List Bool} (h : w.heap[g]? = some (.cells (mkB bs) t (0, 0))) (j : Nat) (hj : j < bs.length) : w.cell? ⟨g, j, none⟩ = some (.bool (bs.getD j false)) := (blk_cell h j).trans (mkB_get bs j hj)
theorem rowB_set {w : World} {g t : Nat} {bs : List Bool} (h : w.heap[g]? = some (.cells (mkB bs) t (0, 0))) (j : Nat) (v : Bool) : (w.setCell ⟨g, j, none⟩ (.bool v)).heap[g]? = some (.cells (mkB (bs.set j v)) t (0, 0)) := by
  have := blk_set h j (.bool v)
  rwa [show (mkB bs).setIfInBounds j (Value.bool v) = mkB (bs.set j v) by unfold mkB; simp [List.map_set]] at this
theorem made_false (n : Nat) : madeCells #[Value.bool false] n = mkB (List.replicate n false) := by
  apply Array.ext
  · simp [size_madeCells, mkB]
  · intro i h1 h2
    simp [madeCells, mkB, Nat.mod_one]
theorem info4 : (Try.prog.info? 4).map (fun i => (i.zero, i.size, i.bytes)) = some (some (.bool false), 1, 1) := by kernel_rfl
theorem AGX_cell {B : Nat} {w : World} {g : Nat} {v : Value} {l : List S60} {most n : Int} (h : AGX B w g v l most n) {gs : Nat} (hn : NBX g v gs) (k : Nat) (u : Value) : AGX B (w.setCell ⟨gs, k, none⟩ u) g v l most n :=
  ⟨AG_move h.1 (fun i _ hi => Below.heap_setCell _ ⟨gs, k, none⟩ u i (hi.elim (fun e => by rw [e]; exact hn.1) (fun e => hn.2 i e.symm))), h.2⟩
theorem RU_cell {B : Nat} {w : World} {u : Value} {xs : List S24} {g gs : Nat} (h : RU B w u xs g) {cs : Array Value} (hb : w.heap[gs]? = some (.cells cs 4 (0, 0))) (k : Nat) (v : Value) : RU B (w.setCell ⟨gs, k, none⟩ v) u xs g :=
  Kd.R_mono (Kd.R_far (Kd.R_bound h) (p := ⟨gs, k, none⟩) (fun i hi e => by
    obtain ⟨_, _, _, q, hq, cells, hc⟩ := hi
    have hq' : q = 24 := by simpa [k24, Kd.iso, Kd.pair, Kd.int, Kd.scalar] using hq
    subst hq'
    have e' : i = gs := e
    rw [e', hb] at hc
    cases hc) v) (fun i hi => hi.1)
/-- The entries of a row of times, each with its place. -/
def eW (ts : List Int) (m : Nat) : S60 := ⟨rd ts (m : Int), 0, (m : Int), 0, (m : Int)⟩
def SInv (ts : List Int) (L : Nat) (l lr : List S60) (i : Nat) (sn : List Bool) : Prop :=
  i + lr.length = L ∧ l.length = L ∧ isHeap l ∧ isHeap lr ∧ (drain l).drop i = drain lr ∧ (∀ y ∈ l, ∃ k, k < L ∧ y = eW ts k) ∧ (lr.map S60.f2).Nodup ∧ (∀ y ∈ lr, y ∈ l) ∧ sn.length = L ∧ (∀ y ∈ lr, sn.getD y.f2.toNat false = false)
theorem s_start (ts : List Int) (L : Nat) : SInv ts L (hE (eW ts) L) (hE (eW ts) L) 0 (List.replicate L false) := by
  have hp := hE_perm (eW ts) L
  have hm : ∀ y ∈ hE (eW ts) L, ∃ k, k < L ∧ y = eW ts k := by
    intro y hy
    obtain ⟨k, hk, e⟩ := List.mem_map.1 (hp.mem_iff.1 hy)
    exact ⟨k, List.mem_range.1 hk, e.symm⟩
  refine ⟨by rw [hE_length]; omega, hE_length _ _, hE_heap _ _, hE_heap _ _, rfl, hm, ?_, fun y hy => hy, by simp, ?_⟩
  · have h1 := hp.map S60.f2
    rw [List.map_map] at h1
    refine (h1.nodup_iff).2 ?_
    rw [List.Nodup, List.pairwise_map]
    refine (List.nodup_range (n := L)).imp ?_
    intro a b hab h
    apply hab
    have : (a : Int) = (b : Int) := h
    omega
  · intro y hy
    obtain ⟨k, hk, rfl⟩ := hm y hy
    simp [List.getD_eq_getElem?_getD, List.getElem?_replicate]
    split <;> rfl
theorem s_step {ts : List Int} {L : Nat} {l lr : List S60} {i : Nat} {sn : List Bool} (h : SInv ts L l lr i sn) (hi : i < L) :
    ∃ k, k < L ∧ lr[0]? = some (eW ts k) ∧ sn.getD k false = false ∧ rd_T24 (allL l) (i : Int) = evS (eW ts k) ∧ SInv ts L l (takeL lr) (i + 1) (sn.set k true) ∧ (i = 0 ∨ ∃ j m, i = j + 1 ∧ rd_T24 (allL l) (j : Int) = evS (eW ts m) ∧ (rd ts (m : Int) < rd ts (k : Int) ∨ (rd ts (m : Int) = rd ts (k : Int) ∧ m ≤ k))) := by
  obtain ⟨h1, h2, h3, h4, h5, h6, h7, h8, h9, h10⟩ := h
  have hp : 0 < lr.length := by omega
  obtain ⟨x, hx⟩ : ∃ x, lr[0]? = some x := ⟨lr[0], List.getElem?_eq_getElem hp⟩
  have hxm : x ∈ lr := List.mem_of_getElem? hx
  obtain ⟨k, hk, rfl⟩ := h6 x (h8 x hxm)
  have ht := told_step h5 hx
  have hpm := takeL_perm hx
  have hsub : ∀ y ∈ takeL lr, y ∈ lr := fun y hy => hpm.mem_iff.2 (List.mem_cons_of_mem _ hy)
  have hnd : (((eW ts k) :: takeL lr).map S60.f2).Nodup := ((hpm.map S60.f2).nodup_iff).1 h7
  rw [List.map_cons, List.nodup_cons] at hnd
  refine ⟨k, hk, hx, ?_, ht.2, ⟨by rw [takeL_length]; omega, h2, h3, takeL_heap h4, ht.1, h6, hnd.2, fun y hy => h8 y (hsub y hy), by rw [List.length_set]; exact h9, ?_⟩, ?_⟩
  · have h_ := h10 _ hxm
    have e : (eW ts k).f2.toNat = k := Int.toNat_natCast k
    rwa [e] at h_
  · intro y hy
    obtain ⟨k', hk', rfl⟩ := h6 y (h8 y (hsub y hy))
    have hne : k ≠ k' := by
      rintro rfl
      exact hnd.1 (List.mem_map.2 ⟨_, hy, rfl⟩)
    have h_ := h10 _ (hsub _ hy)
    have e : (eW ts k').f2.toNat = k' := Int.toNat_natCast k'
    rw [e] at h_ ⊢
    rw [List.getD_eq_getElem?_getD, List.getElem?_set, if_neg hne, ← List.getD_eq_getElem?_getD]
    exact h_
  · cases i with
    | zero => exact .inl rfl
    | succ j =>
      right
      have hdl : (drain l).length = L := by rw [drain_len]; exact h2
      have hj : j < (drain l).length := by omega
      have hj1 : j + 1 < (drain l).length := by omega
      have hmj : (drain l)[j] ∈ l := (drain_perm _ _ (Nat.le_refl _)).mem_iff.1 (List.getElem_mem hj)
      obtain ⟨m, hm, em⟩ := h6 _ hmj
      have e1 : (drain l)[j + 1] = eW ts k := by
        have h_ : ((drain l).drop (j + 1))[0]? = some (eW ts k) := by rw [h5, drain_cons hx]; rfl
        rw [List.getElem?_drop] at h_
        have h2_ := (List.getElem?_eq_some_iff.1 h_).2
        exact h2_
      have hs := (List.pairwise_iff_getElem.1 (drain_sorted _ _ h3 (Nat.le_refl _))) j (j + 1) hj hj1 (by omega)
      change leS (drain l)[j] (drain l)[j + 1] at hs
      rw [em, e1] at hs
      refine ⟨j, m, rfl, ?_, ?_⟩
      · show ((drain l).map evS).getD ((j : Int)).toNat z24 = _
        rw [Int.toNat_natCast, List.getD_eq_getElem?_getD, List.getElem?_map, List.getElem?_eq_getElem hj, em]
        rfl
      · unfold leS eW at hs
        rcases hs with hs | ⟨hs1, hs2⟩
        · exact .inl hs
        · exact .inr ⟨hs1, by have : (m : Int) ≤ (k : Int) := hs2; omega⟩
end Go.Proofs.Ytocdpfdnnijdkaa.G
