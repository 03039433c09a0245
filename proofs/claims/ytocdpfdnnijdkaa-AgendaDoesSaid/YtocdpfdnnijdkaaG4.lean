import Derived.Test.YtocdpfdnnijdkaaG3
namespace Go.Proofs.Ytocdpfdnnijdkaa.G
open Go.RowKit Go.Proofs.YtocdpfdnnijdkaaW.PrintWords Go.Proofs.YtocdpfdnnijdkaaW.PrintLast Go.Proofs.YtocdpfdnnijdkaaW.PrintMore
attribute [local go_sem] max2_int min2_int max_two min_two max_three min_three max_four min_four
attribute [local go_sem] Go.Proofs.YtocdpfdnnijdkaaS.cell_set_map Go.Proofs.YtocdpfdnnijdkaaS.setCell_drewN
set_option linter.unusedVariables false
set_option linter.unusedSimpArgs false
/-- An agenda at block g: its row (v) holds the heap l. -/
def AG (w : World) (g : Nat) (v : Value) (l : List S60) (most n : Int) : Prop := w.heap[g]? = some (.cells #[v, .func (.func 20) #[] #[], .int .i64 most, .int .i64 n] 57 (0, 0)) ∧ AR w v l ∧ ∀ b, v.ownBlock = some b → g ≠ b
theorem AR_form {w : World} {v : Value} {l : List S60} (h : AR w v l) : ∃ A c, v = .slice A l.length c := by
  rcases h with ⟨rfl, rfl⟩ | ⟨b, cap, rfl, _⟩
  · exact ⟨none, 0, rfl⟩
  · exact ⟨_, _, rfl⟩
theorem AG_move {w w' : World} {g : Nat} {v : Value} {l : List S60} {most n : Int} (h : AG w g v l most n) (hm : ∀ k, k < w.heap.size → (k = g ∨ some k = v.ownBlock) → w'.heap[k]? = w.heap[k]?) : AG w' g v l most n :=
  ⟨(hm g (blk_lt h.1) (.inl rfl)).trans h.1, AR_move h.2.1 (fun b hb => hm b (AR_lt h.2.1 b hb) (.inr hb.symm)), h.2.2⟩
theorem AG_below {w w' : World} {g : Nat} {v : Value} {l : List S60} {most n : Int} (h : AG w g v l most n) (hb : Below w.heap.size w w') : AG w' g v l most n := AG_move h (fun k hk _ => hb.block k hk)
set_option maxHeartbeats 4000000 in
set_option maxRecDepth 100000 in
theorem New_v (most : Int) (w : World) (h1 : 1 ≤ most) (h2 : most ≤ 65536) :
    Calls Try.prog 7 #[.int .i64 most] w fun e w' => ∃ g, e = .returned (.tuple #[.pointer (some ⟨g, 0, none⟩), .int .i64 0]) ∧ w.heap.size ≤ g ∧ AG w' g (.slice none 0 0) [] most 0 ∧ Below w.heap.size w w' := by
  have hu55 := Try.underlying55
  have hu57 := Try.underlying57
  have p1 : decide (most < 1) = false := decide_eq_false (by omega)
  have p2 : decide (65536 < most) = false := decide_eq_false (by omega)
  go_enter Try.func7, Try.ntmps7
  go_wp2
  go_ret2
  exact ⟨w.heap.size, rfl, Nat.le_refl _, ⟨blk_new w _, .inl ⟨rfl, rfl⟩, fun b hb => by simp [Value.ownBlock] at hb⟩, below_alloc (Below.refl _ _) _⟩
set_option maxHeartbeats 4000000 in
set_option maxRecDepth 100000 in
theorem New_bad (most : Int) (w : World) (h : most < 1 ∨ 65536 < most) :
    Calls Try.prog 7 #[.int .i64 most] w fun e w' => e = .returned (.tuple #[.pointer none, .int .i64 1]) ∧ Below w.heap.size w w' := by
  have hq : (∃ _ : decide (most < 1) = true, True) ∨ (decide (most < 1) = false ∧ decide (65536 < most) = true) := by
    by_cases g : most < 1
    · exact .inl ⟨decide_eq_true g, trivial⟩
    · exact .inr ⟨decide_eq_false g, decide_eq_true (by omega)⟩
  clear h
  rcases hq with ⟨p1, _⟩ | ⟨p1, p2⟩
  all_goals
    go_enter Try.func7, Try.ntmps7
    go_wp2
    go_ret2
    exact ⟨rfl, Below.refl _ _⟩
set_option maxHeartbeats 4000000 in
set_option maxRecDepth 100000 in
theorem Len_v (g : Nat) (v : Value) (l : List S60) (most n : Int) (w : World) (h : AG w g v l most n) :
    Calls Try.prog 10 #[.pointer (some ⟨g, 0, none⟩)] w fun e w' => e = .returned (.int .i64 l.length) ∧ Below w.heap.size w w' := by
  obtain ⟨A, c, rfl⟩ := AR_form h.2.1
  have hcg : w.cell? ⟨g, 0, none⟩ = some (.slice A l.length c) := (blk_cell h.1 0).trans rfl
  clear h
  go_enter Try.func10, Try.ntmps10
  go_wp2
  go_ret
  exact ⟨rfl, Below.refl _ _⟩
end Go.Proofs.Ytocdpfdnnijdkaa.G
