-- Printed by wip/tools/myprint.py (this session's driver over the kit's printer, with functions proved by hand). Not trusted: Lean checks it.
import Derived.Test.YtlnjehknkkfpcaaPx0
import Derived.Test.YtlnjehknkkfpcaaPx3
import Derived.Test.YtlnjehknkkfpcaaPx5
import Derived.Test.YtlnjehknkkfpcaaPx6
namespace Go.Proofs.Ytlnjehknkkfpcaa.P
open Go.RowKit Go.Proofs.YtlnjehknkkfpcaaW.PrintWords Go.Proofs.YtlnjehknkkfpcaaW.PrintLast Go.Proofs.YtlnjehknkkfpcaaW.PrintMore
attribute [local go_sem] max2_int min2_int max_two min_two max_three min_three max_four min_four   -- for this text's walks alone
attribute [local go_sem] Go.Proofs.YtlnjehknkkfpcaaS.cell_set_map Go.Proofs.YtlnjehknkkfpcaaS.setCell_drewN
set_option linter.unusedVariables false
set_option linter.unusedSimpArgs false

/-! ### pacemakerlaw30_scripted: function 14 -/
/-- How many steps of a kind. -/
def cnt (k : Int) (l : List S24) : Int := ((l.filter fun x => decide (x.f0 = k)).length : Nat)
theorem cnt_nil (k : Int) : cnt k [] = 0 := rfl
theorem cnt_le (k : Int) (l : List S24) : 0 ≤ cnt k l ∧ cnt k l ≤ (l.length : Int) := by
  have := List.length_filter_le (fun x : S24 => decide (x.f0 = k)) l
  unfold cnt
  omega
theorem cnt_app (k : Int) (a b : List S24) : cnt k (a ++ b) = cnt k a + cnt k b := by
  unfold cnt
  rw [List.filter_append, List.length_append]
  omega
theorem cnt_take (k : Int) (l : List S24) (i : Nat) (h : i < l.length) : cnt k (l.take (i + 1)) = cnt k (l.take i) + (if l[i].f0 = k then 1 else 0) := by
  rw [List.take_succ_eq_append_getElem h, cnt_app]
  congr 1
  unfold cnt
  by_cases h : l[i].f0 = k <;> simp [h]
/-- The eight counts, as a row of cells. -/
def cells8 (l : List S24) : Array Value := #[.int .i64 (cnt 0 l), .int .i64 (cnt 1 l), .int .i64 (cnt 2 l), .int .i64 (cnt 3 l), .int .i64 (cnt 4 l), .int .i64 (cnt 5 l), .int .i64 (cnt 6 l), .int .i64 (cnt 7 l)]

set_option maxHeartbeats 4000000 in
set_option maxRecDepth 100000 in
theorem script_Count_calls (A0 : Option Addr) (c0 : Nat) (l0 : List (S24)) (w : World) (hr0 : Kd.C k24 w A0 l0.length l0) (hc0 : l0.length ≤ c0) (hsz : l0.length ≤ 1000000) :
    Calls Try.prog 19 #[.slice A0 l0.length c0] w fun e w' => e = .returned (.agg (cells8 l0)) ∧ Below w.heap.size w w' := by
  have hu24 := Try.underlying24
  have hu33 := Try.underlying33
  have HR0 := Aside0.mk hr0
  have HC0 := Aside0.mk hc0
  clear hr0 hc0
  have B2 := Aside0.mk (blk_alloc (blk_new w (.cells #[.int .i64 0, .int .i64 0, .int .i64 0, .int .i64 0, .int .i64 0, .int .i64 0, .int .i64 0, .int .i64 0] 33 (0, 0))) (.cells #[.int .i64 0, .int .i64 0, .int .i64 0, .int .i64 0, .int .i64 0, .int .i64 0, .int .i64 0, .int .i64 0] 33 (0, 0)))
  have B3 := Aside0.mk (blk_new (w.alloc (.cells #[.int .i64 0, .int .i64 0, .int .i64 0, .int .i64 0, .int .i64 0, .int .i64 0, .int .i64 0, .int .i64 0] 33 (0, 0))) (.cells #[.int .i64 0, .int .i64 0, .int .i64 0, .int .i64 0, .int .i64 0, .int .i64 0, .int .i64 0, .int .i64 0] 33 (0, 0)))
  have E3 := Aside0.mk (Go.Proofs.YtlnjehknkkfpcaaS.size_alloc w (.cells #[.int .i64 0, .int .i64 0, .int .i64 0, .int .i64 0, .int .i64 0, .int .i64 0, .int .i64 0, .int .i64 0] 33 (0, 0)))
  have HB := Aside0.mk (below_alloc (below_alloc (Below.refl w.heap.size w) (.cells #[.int .i64 0, .int .i64 0, .int .i64 0, .int .i64 0, .int .i64 0, .int .i64 0, .int .i64 0, .int .i64 0] 33 (0, 0))) (.cells #[.int .i64 0, .int .i64 0, .int .i64 0, .int .i64 0, .int .i64 0, .int .i64 0, .int .i64 0, .int .i64 0] 33 (0, 0)))
  go_enter Try.func19, Try.ntmps19
  go_wp2
  simp only [Go.Proofs.YtlnjehknkkfpcaaS.size_alloc] at *
  generalize hg2 : w.heap.size = g2 at *
  generalize hg3 : g2 + 1 = g3 at *
  have NG : Aside0 (g2 < g3) := ⟨by omega⟩
  clear hg3 E3
  generalize (w.alloc (.cells #[.int .i64 0, .int .i64 0, .int .i64 0, .int .i64 0, .int .i64 0, .int .i64 0, .int .i64 0, .int .i64 0] 33 (0, 0))).alloc (.cells #[.int .i64 0, .int .i64 0, .int .i64 0, .int .i64 0, .int .i64 0, .int .i64 0, .int .i64 0, .int .i64 0] 33 (0, 0)) = W0 at *
  replace HB : Aside0 (Below w.heap.size w W0) := by rw [hg2]; exact HB
  go_loopw [8] (fun v8 wr => ∃ i : Nat, i ≤ l0.length ∧ v8 = .int .i64 i ∧ Aside0 (wr.heap[g3]? = some (.cells (cells8 (l0.take i)) 33 (0, 0))) ∧ Aside0 (wr.heap[g2]? = some (.cells #[.int .i64 0, .int .i64 0, .int .i64 0, .int .i64 0, .int .i64 0, .int .i64 0, .int .i64 0, .int .i64 0] 33 (0, 0))) ∧ Aside0 (Below w.heap.size w wr)) (fun v8 _ => l0.length - (intOf v8).toNat)
  case atStart => exact ⟨0, Nat.zero_le _, rfl, ⟨B3.out⟩, ⟨B2.out⟩, ⟨HB.out⟩⟩
  case round =>
    clear B2 B3 HB
    obtain ⟨i, hi, rfl, B3, B2, HB⟩ := hrel
    by_cases hlt : i < l0.length
    · have hq : (i : Int) < (l0.length : Int) := by omega
      have hq0 : (0 : Int) ≤ (i : Int) := Int.natCast_nonneg _
      obtain ⟨ad, e, hx0, hx1, hx2⟩ := at_T24 HR0.out (i : Int) hq0 hq
      cases e
      have hrd : rd_T24 l0 (i : Int) = l0[i] := by simp [rd_T24, hlt]
      have hT : cells8 (l0.take (i + 1)) = #[.int .i64 (cnt 0 (l0.take i) + (if l0[i].f0 = 0 then 1 else 0)), .int .i64 (cnt 1 (l0.take i) + (if l0[i].f0 = 1 then 1 else 0)), .int .i64 (cnt 2 (l0.take i) + (if l0[i].f0 = 2 then 1 else 0)), .int .i64 (cnt 3 (l0.take i) + (if l0[i].f0 = 3 then 1 else 0)), .int .i64 (cnt 4 (l0.take i) + (if l0[i].f0 = 4 then 1 else 0)), .int .i64 (cnt 5 (l0.take i) + (if l0[i].f0 = 5 then 1 else 0)), .int .i64 (cnt 6 (l0.take i) + (if l0[i].f0 = 6 then 1 else 0)), .int .i64 (cnt 7 (l0.take i) + (if l0[i].f0 = 7 then 1 else 0))] := by
        unfold cells8
        simp only [cnt_take _ l0 i hlt]
      rw [hrd] at hx0 hx1 hx2
      simp only [Int.toNat_natCast] at hx0 hx1 hx2
      clear hrd
      have hl : ((l0.take i).length : Int) ≤ 1000000 := by rw [List.length_take]; omega
      have hb0 : cnt 0 (l0.take i) + 1 ≤ 1000001 ∧ 0 ≤ cnt 0 (l0.take i) := by have := cnt_le 0 (l0.take i); omega
      have hb1 : cnt 1 (l0.take i) + 1 ≤ 1000001 ∧ 0 ≤ cnt 1 (l0.take i) := by have := cnt_le 1 (l0.take i); omega
      have hb2 : cnt 2 (l0.take i) + 1 ≤ 1000001 ∧ 0 ≤ cnt 2 (l0.take i) := by have := cnt_le 2 (l0.take i); omega
      have hb3 : cnt 3 (l0.take i) + 1 ≤ 1000001 ∧ 0 ≤ cnt 3 (l0.take i) := by have := cnt_le 3 (l0.take i); omega
      have hb4 : cnt 4 (l0.take i) + 1 ≤ 1000001 ∧ 0 ≤ cnt 4 (l0.take i) := by have := cnt_le 4 (l0.take i); omega
      have hb5 : cnt 5 (l0.take i) + 1 ≤ 1000001 ∧ 0 ≤ cnt 5 (l0.take i) := by have := cnt_le 5 (l0.take i); omega
      have hb6 : cnt 6 (l0.take i) + 1 ≤ 1000001 ∧ 0 ≤ cnt 6 (l0.take i) := by have := cnt_le 6 (l0.take i); omega
      have hb7 : cnt 7 (l0.take i) + 1 ≤ 1000001 ∧ 0 ≤ cnt 7 (l0.take i) := by have := cnt_le 7 (l0.take i); omega
      clear hl
      have B3' : Aside0 (wr.heap[g3]? = some (.cells #[.int .i64 (cnt 0 (l0.take i)), .int .i64 (cnt 1 (l0.take i)), .int .i64 (cnt 2 (l0.take i)), .int .i64 (cnt 3 (l0.take i)), .int .i64 (cnt 4 (l0.take i)), .int .i64 (cnt 5 (l0.take i)), .int .i64 (cnt 6 (l0.take i)), .int .i64 (cnt 7 (l0.take i))] 33 (0, 0))) := B3
      replace B3 := B3'
      clear B3'
      generalize cnt 0 (l0.take i) = y0 at *
      generalize cnt 1 (l0.take i) = y1 at *
      generalize cnt 2 (l0.take i) = y2 at *
      generalize cnt 3 (l0.take i) = y3 at *
      generalize cnt 4 (l0.take i) = y4 at *
      generalize cnt 5 (l0.take i) = y5 at *
      generalize cnt 6 (l0.take i) = y6 at *
      generalize cnt 7 (l0.take i) = y7 at *
      generalize l0[i].f0 = x0 at *
      generalize l0[i].f1 = x1 at *
      generalize l0[i].f2 = x2 at *
      have HT := Aside0.mk hT
      clear hT
      replace hx0 := (HB.out.cell (by exact World.block_lt_of_cell? w _ hx0)).trans hx0
      replace hx1 := (HB.out.cell (by exact World.block_lt_of_cell? w _ hx1)).trans hx1
      replace hx2 := (HB.out.cell (by exact World.block_lt_of_cell? w _ hx2)).trans hx2
      replace HB := Aside0.mk (below_alloc HB.out (.cells #[.int .i64 x0, .int .i64 x1, .int .i64 x2] 24 (0, 0)))
      replace B2 := Aside0.mk (blk_alloc B2.out (.cells #[.int .i64 x0, .int .i64 x1, .int .i64 x2] 24 (0, 0)))
      replace B3 := Aside0.mk (blk_alloc B3.out (.cells #[.int .i64 x0, .int .i64 x1, .int .i64 x2] 24 (0, 0)))
      have BX := Aside0.mk (heap_alloc_new wr (.cells #[.int .i64 x0, .int .i64 x1, .int .i64 x2] 24 (0, 0)))
      have hc0 : (wr.alloc (.cells #[.int .i64 x0, .int .i64 x1, .int .i64 x2] 24 (0, 0))).cell? ⟨wr.heap.size, 0, none⟩ = some (.int .i64 x0) := (blk_cell BX.out 0).trans rfl
      by_cases r0 : 0 ≤ x0
      · by_cases r1 : x0 < 8
        · have hx8 : x0 = 0 ∨ x0 = 1 ∨ x0 = 2 ∨ x0 = 3 ∨ x0 = 4 ∨ x0 = 5 ∨ x0 = 6 ∨ x0 = 7 := by omega
          clear r0 r1
          rcases hx8 with rfl | rfl | rfl | rfl | rfl | rfl | rfl | rfl
          · have hc : (wr.alloc (.cells #[.int .i64 0, .int .i64 x1, .int .i64 x2] 24 (0, 0))).cell? ⟨g3, 0, none⟩ = some (.int .i64 y0) := (blk_cell B3.out 0).trans rfl
            have hf := blk_frozen B3.out 0
            have hw : IntKind.i64.wrap (y0 + 1) = y0 + 1 := IntWalk.i64_in _ ⟨by omega, by omega⟩
            have HT2 := Aside0.mk (HT.out.trans (show _ = #[.int .i64 (y0 + 1), .int .i64 (y1 + 0), .int .i64 (y2 + 0), .int .i64 (y3 + 0), .int .i64 (y4 + 0), .int .i64 (y5 + 0), .int .i64 (y6 + 0), .int .i64 (y7 + 0)] from rfl))
            clear HT
            simp only [Int.add_zero] at HT2
            go_wp2
            go_roundw
            case rel => exact ⟨i + 1, by omega, by go_num, ⟨by rw [HT2.out]; exact blk_put B3.out 0 _ rfl⟩, ⟨blk_far B2.out (by have := NG.out; show g2 ≠ g3; omega) _⟩, ⟨below_set HB.out (by have := NG.out; omega)⟩⟩
            case measure => simp [intOf]; omega
          · have hc : (wr.alloc (.cells #[.int .i64 1, .int .i64 x1, .int .i64 x2] 24 (0, 0))).cell? ⟨g3, 1, none⟩ = some (.int .i64 y1) := (blk_cell B3.out 1).trans rfl
            have hf := blk_frozen B3.out 1
            have hw : IntKind.i64.wrap (y1 + 1) = y1 + 1 := IntWalk.i64_in _ ⟨by omega, by omega⟩
            have HT2 := Aside0.mk (HT.out.trans (show _ = #[.int .i64 (y0 + 0), .int .i64 (y1 + 1), .int .i64 (y2 + 0), .int .i64 (y3 + 0), .int .i64 (y4 + 0), .int .i64 (y5 + 0), .int .i64 (y6 + 0), .int .i64 (y7 + 0)] from rfl))
            clear HT
            simp only [Int.add_zero] at HT2
            go_wp2
            go_roundw
            case rel => exact ⟨i + 1, by omega, by go_num, ⟨by rw [HT2.out]; exact blk_put B3.out 1 _ rfl⟩, ⟨blk_far B2.out (by have := NG.out; show g2 ≠ g3; omega) _⟩, ⟨below_set HB.out (by have := NG.out; omega)⟩⟩
            case measure => simp [intOf]; omega
          · have hc : (wr.alloc (.cells #[.int .i64 2, .int .i64 x1, .int .i64 x2] 24 (0, 0))).cell? ⟨g3, 2, none⟩ = some (.int .i64 y2) := (blk_cell B3.out 2).trans rfl
            have hf := blk_frozen B3.out 2
            have hw : IntKind.i64.wrap (y2 + 1) = y2 + 1 := IntWalk.i64_in _ ⟨by omega, by omega⟩
            have HT2 := Aside0.mk (HT.out.trans (show _ = #[.int .i64 (y0 + 0), .int .i64 (y1 + 0), .int .i64 (y2 + 1), .int .i64 (y3 + 0), .int .i64 (y4 + 0), .int .i64 (y5 + 0), .int .i64 (y6 + 0), .int .i64 (y7 + 0)] from rfl))
            clear HT
            simp only [Int.add_zero] at HT2
            go_wp2
            go_roundw
            case rel => exact ⟨i + 1, by omega, by go_num, ⟨by rw [HT2.out]; exact blk_put B3.out 2 _ rfl⟩, ⟨blk_far B2.out (by have := NG.out; show g2 ≠ g3; omega) _⟩, ⟨below_set HB.out (by have := NG.out; omega)⟩⟩
            case measure => simp [intOf]; omega
          · have hc : (wr.alloc (.cells #[.int .i64 3, .int .i64 x1, .int .i64 x2] 24 (0, 0))).cell? ⟨g3, 3, none⟩ = some (.int .i64 y3) := (blk_cell B3.out 3).trans rfl
            have hf := blk_frozen B3.out 3
            have hw : IntKind.i64.wrap (y3 + 1) = y3 + 1 := IntWalk.i64_in _ ⟨by omega, by omega⟩
            have HT2 := Aside0.mk (HT.out.trans (show _ = #[.int .i64 (y0 + 0), .int .i64 (y1 + 0), .int .i64 (y2 + 0), .int .i64 (y3 + 1), .int .i64 (y4 + 0), .int .i64 (y5 + 0), .int .i64 (y6 + 0), .int .i64 (y7 + 0)] from rfl))
            clear HT
            simp only [Int.add_zero] at HT2
            go_wp2
            go_roundw
            case rel => exact ⟨i + 1, by omega, by go_num, ⟨by rw [HT2.out]; exact blk_put B3.out 3 _ rfl⟩, ⟨blk_far B2.out (by have := NG.out; show g2 ≠ g3; omega) _⟩, ⟨below_set HB.out (by have := NG.out; omega)⟩⟩
            case measure => simp [intOf]; omega
          · have hc : (wr.alloc (.cells #[.int .i64 4, .int .i64 x1, .int .i64 x2] 24 (0, 0))).cell? ⟨g3, 4, none⟩ = some (.int .i64 y4) := (blk_cell B3.out 4).trans rfl
            have hf := blk_frozen B3.out 4
            have hw : IntKind.i64.wrap (y4 + 1) = y4 + 1 := IntWalk.i64_in _ ⟨by omega, by omega⟩
            have HT2 := Aside0.mk (HT.out.trans (show _ = #[.int .i64 (y0 + 0), .int .i64 (y1 + 0), .int .i64 (y2 + 0), .int .i64 (y3 + 0), .int .i64 (y4 + 1), .int .i64 (y5 + 0), .int .i64 (y6 + 0), .int .i64 (y7 + 0)] from rfl))
            clear HT
            simp only [Int.add_zero] at HT2
            go_wp2
            go_roundw
            case rel => exact ⟨i + 1, by omega, by go_num, ⟨by rw [HT2.out]; exact blk_put B3.out 4 _ rfl⟩, ⟨blk_far B2.out (by have := NG.out; show g2 ≠ g3; omega) _⟩, ⟨below_set HB.out (by have := NG.out; omega)⟩⟩
            case measure => simp [intOf]; omega
          · have hc : (wr.alloc (.cells #[.int .i64 5, .int .i64 x1, .int .i64 x2] 24 (0, 0))).cell? ⟨g3, 5, none⟩ = some (.int .i64 y5) := (blk_cell B3.out 5).trans rfl
            have hf := blk_frozen B3.out 5
            have hw : IntKind.i64.wrap (y5 + 1) = y5 + 1 := IntWalk.i64_in _ ⟨by omega, by omega⟩
            have HT2 := Aside0.mk (HT.out.trans (show _ = #[.int .i64 (y0 + 0), .int .i64 (y1 + 0), .int .i64 (y2 + 0), .int .i64 (y3 + 0), .int .i64 (y4 + 0), .int .i64 (y5 + 1), .int .i64 (y6 + 0), .int .i64 (y7 + 0)] from rfl))
            clear HT
            simp only [Int.add_zero] at HT2
            go_wp2
            go_roundw
            case rel => exact ⟨i + 1, by omega, by go_num, ⟨by rw [HT2.out]; exact blk_put B3.out 5 _ rfl⟩, ⟨blk_far B2.out (by have := NG.out; show g2 ≠ g3; omega) _⟩, ⟨below_set HB.out (by have := NG.out; omega)⟩⟩
            case measure => simp [intOf]; omega
          · have hc : (wr.alloc (.cells #[.int .i64 6, .int .i64 x1, .int .i64 x2] 24 (0, 0))).cell? ⟨g3, 6, none⟩ = some (.int .i64 y6) := (blk_cell B3.out 6).trans rfl
            have hf := blk_frozen B3.out 6
            have hw : IntKind.i64.wrap (y6 + 1) = y6 + 1 := IntWalk.i64_in _ ⟨by omega, by omega⟩
            have HT2 := Aside0.mk (HT.out.trans (show _ = #[.int .i64 (y0 + 0), .int .i64 (y1 + 0), .int .i64 (y2 + 0), .int .i64 (y3 + 0), .int .i64 (y4 + 0), .int .i64 (y5 + 0), .int .i64 (y6 + 1), .int .i64 (y7 + 0)] from rfl))
            clear HT
            simp only [Int.add_zero] at HT2
            go_wp2
            go_roundw
            case rel => exact ⟨i + 1, by omega, by go_num, ⟨by rw [HT2.out]; exact blk_put B3.out 6 _ rfl⟩, ⟨blk_far B2.out (by have := NG.out; show g2 ≠ g3; omega) _⟩, ⟨below_set HB.out (by have := NG.out; omega)⟩⟩
            case measure => simp [intOf]; omega
          · have hc : (wr.alloc (.cells #[.int .i64 7, .int .i64 x1, .int .i64 x2] 24 (0, 0))).cell? ⟨g3, 7, none⟩ = some (.int .i64 y7) := (blk_cell B3.out 7).trans rfl
            have hf := blk_frozen B3.out 7
            have hw : IntKind.i64.wrap (y7 + 1) = y7 + 1 := IntWalk.i64_in _ ⟨by omega, by omega⟩
            have HT2 := Aside0.mk (HT.out.trans (show _ = #[.int .i64 (y0 + 0), .int .i64 (y1 + 0), .int .i64 (y2 + 0), .int .i64 (y3 + 0), .int .i64 (y4 + 0), .int .i64 (y5 + 0), .int .i64 (y6 + 0), .int .i64 (y7 + 1)] from rfl))
            clear HT
            simp only [Int.add_zero] at HT2
            go_wp2
            go_roundw
            case rel => exact ⟨i + 1, by omega, by go_num, ⟨by rw [HT2.out]; exact blk_put B3.out 7 _ rfl⟩, ⟨blk_far B2.out (by have := NG.out; show g2 ≠ g3; omega) _⟩, ⟨below_set HB.out (by have := NG.out; omega)⟩⟩
            case measure => simp [intOf]; omega
        · have HT2 := Aside0.mk (HT.out.trans (show _ = #[.int .i64 y0, .int .i64 y1, .int .i64 y2, .int .i64 y3, .int .i64 y4, .int .i64 y5, .int .i64 y6, .int .i64 y7] from by simp only [if_neg (show ¬ x0 = 0 by omega), if_neg (show ¬ x0 = 1 by omega), if_neg (show ¬ x0 = 2 by omega), if_neg (show ¬ x0 = 3 by omega), if_neg (show ¬ x0 = 4 by omega), if_neg (show ¬ x0 = 5 by omega), if_neg (show ¬ x0 = 6 by omega), if_neg (show ¬ x0 = 7 by omega), Int.add_zero]))
          clear HT
          go_wp2
          go_roundw
          case rel => exact ⟨i + 1, by omega, by go_num, ⟨by rw [HT2.out]; exact B3.out⟩, B2, HB⟩
          case measure => simp [intOf]; omega
      · have HT2 := Aside0.mk (HT.out.trans (show _ = #[.int .i64 y0, .int .i64 y1, .int .i64 y2, .int .i64 y3, .int .i64 y4, .int .i64 y5, .int .i64 y6, .int .i64 y7] from by simp only [if_neg (show ¬ x0 = 0 by omega), if_neg (show ¬ x0 = 1 by omega), if_neg (show ¬ x0 = 2 by omega), if_neg (show ¬ x0 = 3 by omega), if_neg (show ¬ x0 = 4 by omega), if_neg (show ¬ x0 = 5 by omega), if_neg (show ¬ x0 = 6 by omega), if_neg (show ¬ x0 = 7 by omega), Int.add_zero]))
        clear HT
        go_wp2
        go_roundw
        case rel => exact ⟨i + 1, by omega, by go_num, ⟨by rw [HT2.out]; exact B3.out⟩, B2, HB⟩
        case measure => simp [intOf]; omega
    · have hq : ¬ (i : Int) < (l0.length : Int) := by omega
      have hie : i = l0.length := by omega
      rw [List.take_of_length_le (by omega)] at B3
      have hd0 : wr.cell? ⟨g3, 0, none⟩ = some (.int .i64 (cnt 0 l0)) := (blk_cell B3.out 0).trans rfl
      have hz0 : wr.cell? ⟨g2, 0, none⟩ = some (.int .i64 0) := (blk_cell B2.out 0).trans rfl
      have hy0 := blk_frozen B2.out 0
      have hd1 : wr.cell? ⟨g3, 1, none⟩ = some (.int .i64 (cnt 1 l0)) := (blk_cell B3.out 1).trans rfl
      have hz1 : wr.cell? ⟨g2, 1, none⟩ = some (.int .i64 0) := (blk_cell B2.out 1).trans rfl
      have hy1 := blk_frozen B2.out 1
      have hd2 : wr.cell? ⟨g3, 2, none⟩ = some (.int .i64 (cnt 2 l0)) := (blk_cell B3.out 2).trans rfl
      have hz2 : wr.cell? ⟨g2, 2, none⟩ = some (.int .i64 0) := (blk_cell B2.out 2).trans rfl
      have hy2 := blk_frozen B2.out 2
      have hd3 : wr.cell? ⟨g3, 3, none⟩ = some (.int .i64 (cnt 3 l0)) := (blk_cell B3.out 3).trans rfl
      have hz3 : wr.cell? ⟨g2, 3, none⟩ = some (.int .i64 0) := (blk_cell B2.out 3).trans rfl
      have hy3 := blk_frozen B2.out 3
      have hd4 : wr.cell? ⟨g3, 4, none⟩ = some (.int .i64 (cnt 4 l0)) := (blk_cell B3.out 4).trans rfl
      have hz4 : wr.cell? ⟨g2, 4, none⟩ = some (.int .i64 0) := (blk_cell B2.out 4).trans rfl
      have hy4 := blk_frozen B2.out 4
      have hd5 : wr.cell? ⟨g3, 5, none⟩ = some (.int .i64 (cnt 5 l0)) := (blk_cell B3.out 5).trans rfl
      have hz5 : wr.cell? ⟨g2, 5, none⟩ = some (.int .i64 0) := (blk_cell B2.out 5).trans rfl
      have hy5 := blk_frozen B2.out 5
      have hd6 : wr.cell? ⟨g3, 6, none⟩ = some (.int .i64 (cnt 6 l0)) := (blk_cell B3.out 6).trans rfl
      have hz6 : wr.cell? ⟨g2, 6, none⟩ = some (.int .i64 0) := (blk_cell B2.out 6).trans rfl
      have hy6 := blk_frozen B2.out 6
      have hd7 : wr.cell? ⟨g3, 7, none⟩ = some (.int .i64 (cnt 7 l0)) := (blk_cell B3.out 7).trans rfl
      have hz7 : wr.cell? ⟨g2, 7, none⟩ = some (.int .i64 0) := (blk_cell B2.out 7).trans rfl
      have hy7 := blk_frozen B2.out 7
      go_wp2
      have b0 := blk_set B2.out 0 (.int .i64 (cnt 0 l0))
      have b1 := blk_set b0 1 (.int .i64 (cnt 1 l0))
      have b2 := blk_set b1 2 (.int .i64 (cnt 2 l0))
      have b3 := blk_set b2 3 (.int .i64 (cnt 3 l0))
      have b4 := blk_set b3 4 (.int .i64 (cnt 4 l0))
      have b5 := blk_set b4 5 (.int .i64 (cnt 5 l0))
      have b6 := blk_set b5 6 (.int .i64 (cnt 6 l0))
      have b7 := blk_set b6 7 (.int .i64 (cnt 7 l0))
      have GE : g2 ≥ w.heap.size := by omega
      refine bodyPost_ret (results_cell_row rfl _ _ g2 33 (cells8 l0) (0, 0) (.array 8 3) rfl (b7.trans (by rfl)) Try.underlying33 rfl (by kernel_rfl)) rfl ⟨rfl, ?_⟩
      first | exact below_set (below_set (below_set (below_set (below_set (below_set (below_set (below_set HB.out GE) GE) GE) GE) GE) GE) GE) GE | (rw [← hg2] at *; exact below_set (below_set (below_set (below_set (below_set (below_set (below_set (below_set HB.out (Nat.le_refl _)) (Nat.le_refl _)) (Nat.le_refl _)) (Nat.le_refl _)) (Nat.le_refl _)) (Nat.le_refl _)) (Nat.le_refl _)) (Nat.le_refl _))

theorem eq_int (d : Nat) (w : World) (x y : Int) : (Op.equalIn (d + 1) 3 (.int .i64 x) (.int .i64 y)).run Try.prog w = .ok (x == y) w := by
  simp [Op.equalIn, run_underlying Try.underlying3]
/-- == on rows of eight numbers. -/
theorem eq33 (w : World) (x0 x1 x2 x3 x4 x5 x6 x7 y0 y1 y2 y3 y4 y5 y6 y7 : Int) :
    (Op.equalIn 10000 33 (.agg #[.int .i64 x0, .int .i64 x1, .int .i64 x2, .int .i64 x3, .int .i64 x4, .int .i64 x5, .int .i64 x6, .int .i64 x7]) (.agg #[.int .i64 y0, .int .i64 y1, .int .i64 y2, .int .i64 y3, .int .i64 y4, .int .i64 y5, .int .i64 y6, .int .i64 y7])).run Try.prog w
      = .ok (x0 == y0 && (x1 == y1 && (x2 == y2 && (x3 == y3 && (x4 == y4 && (x5 == y5 && (x6 == y6 && x7 == y7))))))) w := by
  obtain ⟨i, hi⟩ : ∃ i, Try.prog.info? 3 = some i := ⟨_, by rfl⟩
  have hc : Try.prog.cellsOf 3 = 1 := by kernel_rfl
  have hp : ∀ (v : Value) (vs : Array Value) (k : Nat), vs[k]? = some v → (part 3 vs k).run Try.prog w = .ok v w := fun v vs k h => run_part_plain (P := Try.prog) w (by kernel_rfl) h
  rw [show (10000 : Nat) = 9999 + 1 from rfl, run_equalIn_array w 9999 _ _ Try.underlying33 hi, hc]
  simp only [show List.range 8 = [0, 1, 2, 3, 4, 5, 6, 7] from rfl]
  simp [Op.eqItems, eq_int 9998, hp]
  (repeat' split) <;> simp_all

attribute [local go_sem] eq33

theorem C_blk1 {w : World} {g t : Nat} {x : S24} (h : w.heap[g]? = some (.cells #[.int .i64 x.f0, .int .i64 x.f1, .int .i64 x.f2] t (0, 0))) : Kd.C k24 w (some ⟨g, 0, none⟩) 1 [x] := by
  refine ⟨rfl, by omega, fun _ => ⟨_, rfl, fun j p hp => ?_⟩⟩
  match j, hp with
  | 0, hp =>
    simp at hp
    subst hp
    refine ⟨_, rfl, k24_mk w x, fun i u hu => ?_⟩
    match i, hu with
    | 0, hu => simp at hu; subst hu; exact (blk_cell h 0).trans rfl
    | 1, hu => simp at hu; subst hu; exact (blk_cell h 1).trans rfl
    | 2, hu => simp at hu; subst hu; exact (blk_cell h 2).trans rfl
theorem C_blk2 {w : World} {g t : Nat} {x y : S24} (h : w.heap[g]? = some (.cells #[.int .i64 x.f0, .int .i64 x.f1, .int .i64 x.f2, .int .i64 y.f0, .int .i64 y.f1, .int .i64 y.f2] t (0, 0))) : Kd.C k24 w (some ⟨g, 0, none⟩) 2 [x, y] := by
  refine ⟨rfl, by omega, fun _ => ⟨_, rfl, fun j p hp => ?_⟩⟩
  match j, hp with
  | 0, hp =>
    simp at hp
    subst hp
    refine ⟨_, rfl, k24_mk w x, fun i u hu => ?_⟩
    match i, hu with
    | 0, hu => simp at hu; subst hu; exact (blk_cell h 0).trans rfl
    | 1, hu => simp at hu; subst hu; exact (blk_cell h 1).trans rfl
    | 2, hu => simp at hu; subst hu; exact (blk_cell h 2).trans rfl
  | 1, hp =>
    simp at hp
    subst hp
    refine ⟨_, rfl, k24_mk w y, fun i u hu => ?_⟩
    match i, hu with
    | 0, hu => simp at hu; subst hu; exact (blk_cell h 3).trans rfl
    | 1, hu => simp at hu; subst hu; exact (blk_cell h 4).trans rfl
    | 2, hu => simp at hu; subst hu; exact (blk_cell h 5).trans rfl
/-- The document's two rows. -/
def docL : List S24 := [⟨1, 1, 7⟩, ⟨0, 0, 0⟩]
theorem docF : script_Decode.f 2 ⟨#[9, 5, 7, 16]⟩ = some docL := by rfl
theorem docE : script_Encode.f [⟨8, 0, 0⟩] = some (⟨#[]⟩, 1) := by rfl
theorem docS : pacemakerref30_Same.f 9 docL docL = some true := by kernel_rfl
theorem docSpan : script_Span.f 0 0 9 = some 100 := by kernel_rfl
theorem docSize : script_Size.f 1 0 255 = some 8989 := by kernel_rfl
theorem docCount (A0 : Option Addr) (c0 : Nat) (w : World) (hr0 : Kd.C k24 w A0 docL.length docL) (hc0 : docL.length ≤ c0) : Calls Try.prog 19 #[.slice A0 docL.length c0] w fun e w' => e = .returned (.agg #[.int .i64 1, .int .i64 1, .int .i64 0, .int .i64 0, .int .i64 0, .int .i64 0, .int .i64 0, .int .i64 0]) ∧ Below w.heap.size w w' :=
  script_Count_calls A0 c0 docL w hr0 hc0 (by decide)
def pacemakerlaw30_scripted.f : Option Bool := some true
set_option maxHeartbeats 4000000 in
set_option maxRecDepth 100000 in
theorem pacemakerlaw30_scripted.calls (r : Bool) (w : World) (h : pacemakerlaw30_scripted.f = some r) :
    Calls Try.prog 14 #[] w fun e w' => e = .returned (.bool r) ∧ Below w.heap.size w w' := by
  have hu24 := Try.underlying24
  have hu33 := Try.underlying33
  have hu22 := Try.underlying22
  obtain rfl : true = r := Option.some.inj h
  clear h
  have HD := Aside0.mk docF
  have HE := Aside0.mk docE
  have HSm := Aside0.mk docS
  have HSp := Aside0.mk docSpan
  have HSz := Aside0.mk docSize
  go_enter Try.func14, Try.ntmps14
  go_wp2_with (first | ((with_reducible refine gate_callee (f := 10) rfl ?_); refine goesL_ (some 4) rfl rfl Try.func10 (by kernel_rfl) rfl #[.int .i64 2, .string ⟨#[9, 5, 7, 16]⟩] rfl (by (try simp only [List.map_toArray, List.map_cons, List.map_nil]); first | done | rfl) ?_; (refine (script_Decode.calls 2 ⟨#[9, 5, 7, 16]⟩ _ _ HD.out).mono ?_); rintro e w1 ⟨vD, rfl, hR, hb⟩; obtain ⟨AD, cD, rfl, hlD, hrD⟩ := Kd.R_reads hR; refine ⟨_, rfl, ?_⟩; have RD := Aside0.mk hrD; have LD := Aside0.mk hlD; have HB := Aside0.mk hb; clear hR hb hlD hrD) | ((with_reducible refine gate_callee (f := 7) rfl ?_); refine goesL_ (some 8) rfl rfl Try.func7 (by kernel_rfl) rfl #[.slice (some ⟨w1.heap.size, 0, none⟩) 1 1] rfl (by (try simp only [List.map_toArray, List.map_cons, List.map_nil]); first | done | rfl) ?_; (refine (script_Encode.calls (some ⟨w1.heap.size, 0, none⟩) 1 [⟨8, 0, 0⟩] _ _ (w1.alloc (.cells #[.int .i64 8, .int .i64 0, .int .i64 0] 24 (0, 0))) (C_blk1 (x := ⟨8, 0, 0⟩) (blk_new w1 (.cells #[.int .i64 8, .int .i64 0, .int .i64 0] 24 (0, 0)))) (by decide) HE.out).mono ?_); rintro e w2 ⟨rfl, hb⟩; refine ⟨_, rfl, ?_⟩; have n0_ := Aside0.mk (Kd.C_below (Kd.C_alloc RD.out (.cells #[.int .i64 8, .int .i64 0, .int .i64 0] 24 (0, 0))) hb); have n1_ := Aside0.mk (below_step (below_alloc HB.out (.cells #[.int .i64 8, .int .i64 0, .int .i64 0] 24 (0, 0))) hb); clear RD HB hb; have RD := n0_; have HB := n1_; clear n0_ n1_) | ((with_reducible refine gate_callee (f := 9) rfl ?_); refine goesL_ (some 15) rfl rfl Try.func9 (by kernel_rfl) rfl #[.slice AD docL.length cD, .slice (some ⟨w2.heap.size, 0, none⟩) 2 2] rfl (by (try simp only [List.map_toArray, List.map_cons, List.map_nil]); first | done | rfl) ?_; (refine (pacemakerref30_Same.calls 9 AD cD docL (some ⟨w2.heap.size, 0, none⟩) 2 docL true (w2.alloc (.cells #[.int .i64 1, .int .i64 1, .int .i64 7, .int .i64 0, .int .i64 0, .int .i64 0] 24 (0, 0))) (Kd.C_alloc RD.out (.cells #[.int .i64 1, .int .i64 1, .int .i64 7, .int .i64 0, .int .i64 0, .int .i64 0] 24 (0, 0))) LD.out (C_blk2 (x := ⟨1, 1, 7⟩) (y := ⟨0, 0, 0⟩) (blk_new w2 (.cells #[.int .i64 1, .int .i64 1, .int .i64 7, .int .i64 0, .int .i64 0, .int .i64 0] 24 (0, 0)))) (by decide) HSm.out).mono ?_); rintro e w3 ⟨rfl, hb9⟩; have hb := hb9.below; clear hb9; refine ⟨_, rfl, ?_⟩; have n0_ := Aside0.mk (Kd.C_below (Kd.C_alloc RD.out (.cells #[.int .i64 1, .int .i64 1, .int .i64 7, .int .i64 0, .int .i64 0, .int .i64 0] 24 (0, 0))) hb); have n1_ := Aside0.mk (below_step (below_alloc HB.out (.cells #[.int .i64 1, .int .i64 1, .int .i64 7, .int .i64 0, .int .i64 0, .int .i64 0] 24 (0, 0))) hb); clear RD HB hb; have RD := n0_; have HB := n1_; clear n0_ n1_) | ((with_reducible refine gate_callee (f := 15) rfl ?_); refine gate_guard (by rfl) ?_; refine goesL_ (some 18) rfl rfl Try.func15 (by kernel_rfl) rfl #[.agg #[.int .i64 0, .int .i64 0, .int .i64 9]] rfl (by (try simp only [List.map_toArray, List.map_cons, List.map_nil]); first | done | rfl) ?_; (refine (script_Span.calls 0 0 9 100 _ HSp.out).mono ?_); rintro e w4 ⟨rfl, hb⟩; refine ⟨_, rfl, ?_⟩; have n0_ := Aside0.mk (Kd.C_below RD.out hb); have n1_ := Aside0.mk (below_step HB.out hb); clear RD HB hb; have RD := n0_; have HB := n1_; clear n0_ n1_) | ((with_reducible refine gate_callee (f := 17) rfl ?_); refine gate_guard (by rfl) ?_; refine goesL_ (some 23) rfl rfl Try.func17 (by kernel_rfl) rfl #[.agg #[.int .i64 1, .int .i64 0, .int .i64 255]] rfl (by (try simp only [List.map_toArray, List.map_cons, List.map_nil]); first | done | rfl) ?_; (refine (script_Size.calls 1 0 255 8989 _ HSz.out).mono ?_); rintro e w5 ⟨rfl, hb⟩; refine ⟨_, rfl, ?_⟩; have n0_ := Aside0.mk (Kd.C_below RD.out hb); have n1_ := Aside0.mk (below_step HB.out hb); clear RD HB hb; have RD := n0_; have HB := n1_; clear n0_ n1_) | ((with_reducible refine gate_callee (f := 19) rfl ?_); refine gate_guard (by rfl) ?_; refine goesL_ (some 32) rfl rfl Try.func19 (by kernel_rfl) rfl #[.slice AD docL.length cD] rfl (by (try simp only [List.map_toArray, List.map_cons, List.map_nil]); first | done | rfl) ?_; (refine (docCount AD cD _ RD.out LD.out).mono ?_); rintro e w6 ⟨rfl, hb⟩; refine ⟨_, rfl, ?_⟩; have n0_ := Aside0.mk (Kd.C_below RD.out hb); have n1_ := Aside0.mk (below_step HB.out hb); clear RD HB hb; have RD := n0_; have HB := n1_; clear n0_ n1_))
  go_ret
  exact ⟨rfl, HB.out⟩

end Go.Proofs.Ytlnjehknkkfpcaa.P
