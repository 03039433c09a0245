import Derived.Test.YtocdpfdnnijdkaaGP
import Derived.Test.YtocdpfdnnijdkaaG8
import Derived.Test.YtocdpfdnnijdkaaGx7
namespace Go.Proofs.Ytocdpfdnnijdkaa.G
open Go.RowKit Go.Proofs.YtocdpfdnnijdkaaW.PrintWords Go.Proofs.YtocdpfdnnijdkaaW.PrintLast Go.Proofs.YtocdpfdnnijdkaaW.PrintMore
attribute [local go_sem] max2_int min2_int max_two min_two max_three min_three max_four min_four
attribute [local go_sem] Go.Proofs.YtocdpfdnnijdkaaS.cell_set_map Go.Proofs.YtocdpfdnnijdkaaS.setCell_drewN
set_option linter.unusedVariables false
set_option linter.unusedSimpArgs false
theorem drain_perm : ∀ (f : Nat) (l : List S60), l.length ≤ f → (drainF f l).Perm l
  | 0, l, h => by
    rw [List.length_eq_zero_iff.1 (show l.length = 0 by omega)]
    exact List.Perm.refl _
  | f + 1, l, h => by
    unfold drainF
    cases hl : l[0]? with
    | none =>
      have := List.getElem?_eq_none_iff.1 hl
      rw [List.length_eq_zero_iff.1 (show l.length = 0 by omega)]
    | some x =>
      have hp := (List.getElem?_eq_some_iff.1 hl).1
      exact (List.Perm.cons x (drain_perm f _ (by rw [takeL_length]; omega))).trans (takeL_perm hl).symm
theorem mem_gL {l : List S60} {y : S60} (h : y ∈ l) : ∃ j, j < l.length ∧ gL l j = y := by
  obtain ⟨j, hj, e⟩ := List.getElem_of_mem h
  exact ⟨j, hj, by rw [← e]; exact gL_get (List.getElem?_eq_getElem hj)⟩
theorem drain_sorted : ∀ (f : Nat) (l : List S60), isHeap l → l.length ≤ f → (drainF f l).Pairwise leS
  | 0, l, _, h => List.Pairwise.nil
  | f + 1, l, hh, h => by
    unfold drainF
    cases hl : l[0]? with
    | none => exact List.Pairwise.nil
    | some x =>
      have hp := (List.getElem?_eq_some_iff.1 hl).1
      refine List.Pairwise.cons ?_ (drain_sorted f _ (takeL_heap hh) (by rw [takeL_length]; omega))
      intro y hy
      have h1 : y ∈ takeL l := (drain_perm f _ (by rw [takeL_length]; omega)).mem_iff.1 hy
      have h2 : y ∈ l := (takeL_perm hl).mem_iff.2 (List.mem_cons_of_mem x h1)
      obtain ⟨j, hj, rfl⟩ := mem_gL h2
      have := heap_min hh j hj
      rwa [gL_get hl] at this
def drain (l : List S60) : List S60 := drainF l.length l
theorem drain_nil : drain [] = [] := rfl
theorem drain_cons {l : List S60} {x : S60} (hx : l[0]? = some x) : drain l = x :: drain (takeL l) := by
  have hp := (List.getElem?_eq_some_iff.1 hx).1
  obtain ⟨m, hm⟩ : ∃ m, l.length = m + 1 := ⟨l.length - 1, by omega⟩
  unfold drain
  rw [takeL_length, hm]
  exact drain_step hm hx
theorem drain_len (l : List S60) : (drain l).length = l.length := drainF_length _ _ (Nat.le_refl _)
theorem allL_drain (l : List S60) : allL l = (drain l).map evS := rfl
theorem same_l0 (l : List S24) (hl : l.length ≤ 9223372036854775806) : ∀ (k i : Nat), l.length < k + i → pacemakerref29_Same.l0 (k + 1) l l (i : Int) = some true := by
  intro k
  induction k with
  | zero =>
    intro i h
    unfold pacemakerref29_Same.l0
    rw [if_neg (by omega)]
  | succ k ih =>
    intro i h
    unfold pacemakerref29_Same.l0
    by_cases hi : (i : Int) < (l.length : Int)
    · rw [if_pos hi, if_pos (by omega), if_pos hi, if_neg (by simp)]
      have hw : wrap64 ((i : Int) + 1) = ((i + 1 : Nat) : Int) := by unfold wrap64; omega
      rw [hw]
      exact ih (i + 1) (by omega)
    · rw [if_neg hi]
theorem same_self (l : List S24) (hl : l.length ≤ 9223372036854775806) : pacemakerref29_Same.f (l.length + 2) l l = some true := by
  unfold pacemakerref29_Same.f
  rw [if_pos rfl]
  exact same_l0 l hl (l.length + 1) 0 (by omega)
theorem Same_v (l : List S24) (hl : l.length ≤ 1000000) (A0 : Option Addr) (c0 : Nat) (A1 : Option Addr) (c1 : Nat) (w : World) (h0 : Kd.C k24 w A0 l.length l) (hc0 : l.length ≤ c0) (h1 : Kd.C k24 w A1 l.length l) (hc1 : l.length ≤ c1) :
    Calls Try.prog 17 #[.slice A0 l.length c0, .slice A1 l.length c1] w fun e w' => e = .returned (.bool true) ∧ Below w.heap.size w w' :=
  (pacemakerref29_Same.calls (l.length + 2) A0 c0 l A1 c1 l true w h0 hc0 h1 hc1 (same_self l (by omega))).mono fun e w' h => ⟨h.1, h.2.below⟩
/-- A row of events stands where an agenda is worked on. -/
theorem R_went {B : Nat} {w w' : World} {g : Nat} {v u : Value} {l : List S60} {most n : Int} {xs : List S24} (h : Kd.R k24 24 w B (fun _ => True) u xs) (ha : AG w g v l most n) (hk : KP w w' (fun k => k = g ∨ some k = v.ownBlock)) : Kd.R k24 24 w' B (fun _ => True) u xs :=
  Kd.R_mono (Kd.R_step (Kd.R_bound h) (fun k hk' hlt => hk.2.2 k hlt (by
    obtain ⟨_, _, _, q, hq, cells, hc⟩ := hk'
    have hq' : q = 24 := by simpa [k24, Kd.iso, Kd.pair, Kd.int, Kd.scalar] using hq
    subst hq'
    rintro (rfl | e)
    · rw [ha.1] at hc
      cases hc
    · rcases ha.2.1 with ⟨rfl, _⟩ | ⟨b, cap, rfl, _, _, c, hb, _⟩
      · simp [Value.ownBlock] at e
      · obtain rfl : k = b := by simpa [Value.ownBlock] using e
        rw [hb] at hc
        cases hc))) (fun _ _ => trivial)
end Go.Proofs.Ytocdpfdnnijdkaa.G
