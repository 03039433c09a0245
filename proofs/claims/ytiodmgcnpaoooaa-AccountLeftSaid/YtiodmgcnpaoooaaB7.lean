import Derived.Test.YtiodmgcnpaoooaaB5
import Derived.Test.YtiodmgcnpaoooaaB6
import Derived.Test.YtiodmgcnpaoooaaAx1
namespace Go.Proofs.Ytiodmgcnpaoooaa.A
open Go.RowKit Go.Proofs.YtiodmgcnpaoooaaW.PrintWords Go.Proofs.YtiodmgcnpaoooaaW.PrintLast Go.Proofs.YtiodmgcnpaoooaaW.PrintMore
attribute [local go_sem] max2_int min2_int max_two min_two max_three min_three max_four min_four
attribute [local go_sem] Go.Proofs.YtiodmgcnpaoooaaS.cell_set_map Go.Proofs.YtiodmgcnpaoooaaS.setCell_drewN
set_option linter.unusedVariables false
set_option linter.unusedSimpArgs false
theorem doc0 : doneF ⟨3, 100, (-1), 0, 0, 0, 0, 0, 0, 0, 0, 0, 0, 0, 0⟩ 0 1500 0 0 = (⟨3, 100, (-1), 1500, 0, 0, 1, 0, 0, 0, 0, 0, 0, 0, 0⟩, 0) := by kernel_rfl
theorem doc1 : doneF ⟨3, 100, (-1), 1500, 0, 0, 1, 0, 0, 0, 0, 0, 0, 0, 0⟩ 0 500 0 0 = (⟨3, 100, (-1), 2000, 0, 0, 2, 0, 0, 0, 0, 0, 0, 0, 0⟩, 0) := by kernel_rfl
theorem doc2 : doneF ⟨3, 100, (-1), 2000, 0, 0, 2, 0, 0, 0, 0, 0, 0, 0, 0⟩ 1 1500 110 160 = (⟨3, 100, (-1), 2000, 1500, 0, 2, 1, 0, 1, 10, 50, 100, 500, 2500⟩, 0) := by kernel_rfl
theorem doc3 : doneF ⟨3, 100, (-1), 2000, 1500, 0, 2, 1, 0, 1, 10, 50, 100, 500, 2500⟩ 2 500 0 0 = (⟨3, 100, (-1), 2000, 1500, 500, 2, 1, 1, 1, 10, 50, 100, 500, 2500⟩, 0) := by kernel_rfl
theorem doc4 : doneF ⟨3, 100, (-1), 2000, 1500, 500, 2, 1, 1, 1, 10, 50, 100, 500, 2500⟩ 3 0 0 200 = (⟨3, 100, 200, 2000, 1500, 500, 2, 1, 1, 1, 10, 50, 100, 500, 2500⟩, 0) := by kernel_rfl
theorem doc5 : sendF ⟨3, 100, 200, 2000, 1500, 500, 2, 1, 1, 1, 10, 50, 100, 500, 2500⟩ 1 = (zM, 15) := by kernel_rfl
theorem doc6 : isDone ⟨3, 100, 200, 2000, 1500, 500, 2, 1, 1, 1, 10, 50, 100, 500, 2500⟩ = true := by kernel_rfl
theorem docO : openF 3 100 = (⟨3, 100, (-1), 0, 0, 0, 0, 0, 0, 0, 0, 0, 0, 0, 0⟩, 0) := by kernel_rfl
/-- The document's account behind z steps. -/
def mC (z : Int) : S23 := if z = 0 then ⟨3, 100, (-1), 0, 0, 0, 0, 0, 0, 0, 0, 0, 0, 0, 0⟩ else if z = 1 then ⟨3, 100, (-1), 1500, 0, 0, 1, 0, 0, 0, 0, 0, 0, 0, 0⟩ else if z = 2 then ⟨3, 100, (-1), 2000, 0, 0, 2, 0, 0, 0, 0, 0, 0, 0, 0⟩ else if z = 3 then ⟨3, 100, (-1), 2000, 1500, 0, 2, 1, 0, 1, 10, 50, 100, 500, 2500⟩ else if z = 4 then ⟨3, 100, (-1), 2000, 1500, 500, 2, 1, 1, 1, 10, 50, 100, 500, 2500⟩ else ⟨3, 100, 200, 2000, 1500, 500, 2, 1, 1, 1, 10, 50, 100, 500, 2500⟩
def cM (m : S23) : Array Value := #[.int .i64 m.f0, .int .i64 m.f1, .int .i64 m.f2, .int .i64 m.f3, .int .i64 m.f4, .int .i64 m.f5, .int .i64 m.f6, .int .i64 m.f7, .int .i64 m.f8, .int .i64 m.f9, .int .i64 m.f10, .int .i64 m.f11, .int .i64 m.f12, .int .i64 m.f13, .int .i64 m.f14]
theorem e15_same : (3 : Int) = 3 := rfl
/-- Are two accounts the same? -/
def e15 (x0 x1 x2 x3 x4 x5 x6 x7 x8 x9 x10 x11 x12 x13 x14 y0 y1 y2 y3 y4 y5 y6 y7 y8 y9 y10 y11 y12 y13 y14 : Int) : Bool := x0 == y0 && (x1 == y1 && (x2 == y2 && (x3 == y3 && (x4 == y4 && (x5 == y5 && (x6 == y6 && (x7 == y7 && (x8 == y8 && (x9 == y9 && (x10 == y10 && (x11 == y11 && (x12 == y12 && (x13 == y13 && (x14 == y14))))))))))))))
theorem eq23 (w : World) (x0 x1 x2 x3 x4 x5 x6 x7 x8 x9 x10 x11 x12 x13 x14 y0 y1 y2 y3 y4 y5 y6 y7 y8 y9 y10 y11 y12 y13 y14 : Int) : (Op.equalIn 10000 23 (.agg #[.int .i64 x0, .int .i64 x1, .int .i64 x2, .int .i64 x3, .int .i64 x4, .int .i64 x5, .int .i64 x6, .int .i64 x7, .int .i64 x8, .int .i64 x9, .int .i64 x10, .int .i64 x11, .int .i64 x12, .int .i64 x13, .int .i64 x14]) (.agg #[.int .i64 y0, .int .i64 y1, .int .i64 y2, .int .i64 y3, .int .i64 y4, .int .i64 y5, .int .i64 y6, .int .i64 y7, .int .i64 y8, .int .i64 y9, .int .i64 y10, .int .i64 y11, .int .i64 y12, .int .i64 y13, .int .i64 y14])).run Try.prog w = .ok (e15 x0 x1 x2 x3 x4 x5 x6 x7 x8 x9 x10 x11 x12 x13 x14 y0 y1 y2 y3 y4 y5 y6 y7 y8 y9 y10 y11 y12 y13 y14) w := eqA23 9998 w x0 y0 x1 y1 x2 y2 x3 y3 x4 y4 x5 y5 x6 y6 x7 y7 x8 y8 x9 y9 x10 y10 x11 y11 x12 y12 x13 y13 x14 y14
theorem e15_self (x0 x1 x2 x3 x4 x5 x6 x7 x8 x9 x10 x11 x12 x13 x14 : Int) : e15 x0 x1 x2 x3 x4 x5 x6 x7 x8 x9 x10 x11 x12 x13 x14 x0 x1 x2 x3 x4 x5 x6 x7 x8 x9 x10 x11 x12 x13 x14 = true := by simp [e15]
attribute [local go_sem] eq23
set_option maxHeartbeats 32000000 in
set_option maxRecDepth 100000 in
theorem counted_calls (w : World) : Calls Try.prog 17 #[] w fun e w' => e = .returned (.bool true) ∧ Below w.heap.size w w' := by
  have hu23 := Try.underlying23
  have hu34 := Try.underlying34
  have hu32 := Try.underlying32
  have HB := Aside0.mk (Below.refl w.heap.size w)
  go_enter Try.func17, Try.ntmps17
  go_wp2_with (first | ((with_reducible refine gate_callee (f := 15) rfl ?_); refine goesL_ (some 10) rfl rfl Try.func15 (by kernel_rfl) rfl #[.int .i64 3, .int .i64 100] rfl (by (try simp only [List.map_toArray, List.map_cons, List.map_nil]); first | done | rfl) ?_; (refine (open_v 3 100 ⟨3, 100, (-1), 0, 0, 0, 0, 0, 0, 0, 0, 0, 0, 0, 0⟩ 0 _ docO).mono ?_); rintro e w1_ ⟨rfl, hb⟩; refine ⟨_, rfl, ?_⟩; have n_H := Aside0.mk (below_step HB.out hb); clear HB; have HB := n_H; clear n_H; clear hb) | ((with_reducible refine gate_dst (N := 1) rfl ?_); refine box_event ?hg (N := 1) ?hd (cs := #[.int .i64 0, .int .i64 0, .int .i64 0, .int .i64 0, .int .i64 0, .int .i64 0, .int .i64 0, .int .i64 0, .int .i64 0, .int .i64 0, .int .i64 0, .int .i64 0, .int .i64 0, .int .i64 0, .int .i64 0]) (t := 23) ?hr ?_; (case hd => rfl); (case hg => rfl); (case hr => first | (go_simp; done) | (go_simp; rfl)); intro g_BR hg w2_ hbox hb; have GE_BR : Aside0 (w.heap.size ≤ g_BR) := ⟨by rw [hg]; exact below_size HB.out⟩; have n_H := Aside0.mk (below_step HB.out hb); clear HB; have HB := n_H; clear n_H; have BR := Aside0.mk hbox; clear hbox hb hg) | ((with_reducible refine gate_store (t := 23) (p := 1) rfl ?_); refine store_event (t := 23) (p := 1) (v := .tmp 11) (w1 := w2_.setRow g_BR #[.int .i64 3, .int .i64 100, .int .i64 (-1), .int .i64 0, .int .i64 0, .int .i64 0, .int .i64 0, .int .i64 0, .int .i64 0, .int .i64 0, .int .i64 0, .int .i64 0, .int .i64 0, .int .i64 0, .int .i64 0]) ?hg ?ho ?hn ?hr ?_; (case ho => rfl); (case hg => rfl); (case hn => rfl); (case hr => exact run_store_row 23 _ _ _ _ rfl rfl rfl BR.out (by kernel_rfl) rfl (by kernel_rfl)); intro w3_ hw; have n_BR : Aside0 (w3_.heap[g_BR]? = some (.cells #[.int .i64 3, .int .i64 100, .int .i64 (-1), .int .i64 0, .int .i64 0, .int .i64 0, .int .i64 0, .int .i64 0, .int .i64 0, .int .i64 0, .int .i64 0, .int .i64 0, .int .i64 0, .int .i64 0, .int .i64 0] 23 (0, 0))) := ⟨by rw [hw]; exact blk_row _ BR.out⟩; clear BR; have BR := n_BR; clear n_BR; have n_H : Aside0 (Below w.heap.size w w3_) := ⟨by rw [hw]; exact below_setRow HB.out GE_BR.out _⟩; clear HB; have HB := n_H; clear n_H hw; have BL : Aside0 ((w3_.alloc (.cells #[.int .i64 0, .int .i64 1500, .int .i64 0, .int .i64 0, .int .i64 0, .int .i64 500, .int .i64 0, .int .i64 0, .int .i64 1, .int .i64 1500, .int .i64 110, .int .i64 160, .int .i64 2, .int .i64 500, .int .i64 0, .int .i64 0, .int .i64 3, .int .i64 0, .int .i64 0, .int .i64 200] 34 (0, 0))).heap[w3_.heap.size]? = some (.cells #[.int .i64 0, .int .i64 1500, .int .i64 0, .int .i64 0, .int .i64 0, .int .i64 500, .int .i64 0, .int .i64 0, .int .i64 1, .int .i64 1500, .int .i64 110, .int .i64 160, .int .i64 2, .int .i64 500, .int .i64 0, .int .i64 0, .int .i64 3, .int .i64 0, .int .i64 0, .int .i64 200] 34 (0, 0))) := ⟨blk_new w3_ (.cells #[.int .i64 0, .int .i64 1500, .int .i64 0, .int .i64 0, .int .i64 0, .int .i64 500, .int .i64 0, .int .i64 0, .int .i64 1, .int .i64 1500, .int .i64 110, .int .i64 160, .int .i64 2, .int .i64 500, .int .i64 0, .int .i64 0, .int .i64 3, .int .i64 0, .int .i64 0, .int .i64 200] 34 (0, 0))⟩; have NE_BR_BL : Aside0 (g_BR ≠ w3_.heap.size) := ⟨Nat.ne_of_lt (blk_lt BR.out)⟩; have GE_BL : Aside0 (w.heap.size ≤ w3_.heap.size) := ⟨below_size HB.out⟩; have n_BR := Aside0.mk (blk_alloc BR.out (.cells #[.int .i64 0, .int .i64 1500, .int .i64 0, .int .i64 0, .int .i64 0, .int .i64 500, .int .i64 0, .int .i64 0, .int .i64 1, .int .i64 1500, .int .i64 110, .int .i64 160, .int .i64 2, .int .i64 500, .int .i64 0, .int .i64 0, .int .i64 3, .int .i64 0, .int .i64 0, .int .i64 200] 34 (0, 0))); have n_H := Aside0.mk (below_alloc HB.out (.cells #[.int .i64 0, .int .i64 1500, .int .i64 0, .int .i64 0, .int .i64 0, .int .i64 500, .int .i64 0, .int .i64 0, .int .i64 1, .int .i64 1500, .int .i64 110, .int .i64 160, .int .i64 2, .int .i64 500, .int .i64 0, .int .i64 0, .int .i64 3, .int .i64 0, .int .i64 0, .int .i64 200] 34 (0, 0))); clear BR HB; have BR := n_BR; have HB := n_H; clear n_BR n_H))
  generalize w3_.heap.size = g_BL at *
  generalize (w3_.alloc (.cells #[.int .i64 0, .int .i64 1500, .int .i64 0, .int .i64 0, .int .i64 0, .int .i64 500, .int .i64 0, .int .i64 0, .int .i64 1, .int .i64 1500, .int .i64 110, .int .i64 160, .int .i64 2, .int .i64 500, .int .i64 0, .int .i64 0, .int .i64 3, .int .i64 0, .int .i64 0, .int .i64 200] 34 (0, 0))) = WQ at *
  have NE_BL_BR : Aside0 (g_BL ≠ g_BR) := ⟨fun e_ => NE_BR_BL.out e_.symm⟩
  go_loopw [2, 4] (fun v2 v4 wr => ∃ z : Int, (z = 0 ∨ z = 1 ∨ z = 2 ∨ z = 3 ∨ z = 4 ∨ z = 5) ∧ v4 = .int .i64 z ∧ v2 = .int .i64 0 ∧ Aside0 (wr.heap[g_BR]? = some (.cells (cM (mC z)) 23 (0, 0))) ∧ Aside0 (wr.heap[g_BL]? = some (.cells #[.int .i64 0, .int .i64 1500, .int .i64 0, .int .i64 0, .int .i64 0, .int .i64 500, .int .i64 0, .int .i64 0, .int .i64 1, .int .i64 1500, .int .i64 110, .int .i64 160, .int .i64 2, .int .i64 500, .int .i64 0, .int .i64 0, .int .i64 3, .int .i64 0, .int .i64 0, .int .i64 200] 34 (0, 0))) ∧ Aside0 (Below w.heap.size w wr)) (fun _ v4 _ => 5 - (intOf v4).toNat)
  case atStart => exact ⟨0, by omega, rfl, rfl, ⟨BR.out⟩, BL, HB⟩
  case round =>
    clear BR BL HB
    obtain ⟨z, hz, rfl, rfl, BR, BL, HB⟩ := hrel
    rcases hz with rfl | rfl | rfl | rfl | rfl | rfl
    · have n1_ : Aside0 (wr.heap[g_BR]? = some (.cells #[.int .i64 3, .int .i64 100, .int .i64 (-1), .int .i64 0, .int .i64 0, .int .i64 0, .int .i64 0, .int .i64 0, .int .i64 0, .int .i64 0, .int .i64 0, .int .i64 0, .int .i64 0, .int .i64 0, .int .i64 0] 23 (0, 0))) := ⟨BR.out⟩
      clear BR
      have BR := n1_
      clear n1_
      go_wp2_with fail
      refine start_ (n := 12) (S := fun w' => w'.cell? ⟨g_BR, 0, none⟩ = some (.int .i64 3) ∧ w'.cell? ⟨g_BR, 1, none⟩ = some (.int .i64 100) ∧ w'.cell? ⟨g_BR, 2, none⟩ = some (.int .i64 (-1)) ∧ w'.cell? ⟨g_BR, 3, none⟩ = some (.int .i64 0) ∧ w'.cell? ⟨g_BR, 4, none⟩ = some (.int .i64 0) ∧ w'.cell? ⟨g_BR, 5, none⟩ = some (.int .i64 0) ∧ w'.cell? ⟨g_BR, 6, none⟩ = some (.int .i64 0) ∧ w'.cell? ⟨g_BR, 7, none⟩ = some (.int .i64 0) ∧ w'.cell? ⟨g_BR, 8, none⟩ = some (.int .i64 0) ∧ w'.cell? ⟨g_BR, 9, none⟩ = some (.int .i64 0) ∧ w'.cell? ⟨g_BR, 10, none⟩ = some (.int .i64 0) ∧ w'.cell? ⟨g_BR, 11, none⟩ = some (.int .i64 0) ∧ w'.cell? ⟨g_BR, 12, none⟩ = some (.int .i64 0) ∧ w'.cell? ⟨g_BR, 13, none⟩ = some (.int .i64 0) ∧ w'.cell? ⟨g_BR, 14, none⟩ = some (.int .i64 0) ∧ w'.cell? ⟨g_BL, 0, none⟩ = some (.int .i64 0) ∧ w'.cell? ⟨g_BL, 1, none⟩ = some (.int .i64 1500) ∧ w'.cell? ⟨g_BL, 2, none⟩ = some (.int .i64 0) ∧ w'.cell? ⟨g_BL, 3, none⟩ = some (.int .i64 0)) (ds := [10]) #[false, false, false, false, false, false, false, false, false, false, false, false] (by kernel_rfl) rfl rfl ⟨(blk_cell BR.out 0).trans rfl, (blk_cell BR.out 1).trans rfl, (blk_cell BR.out 2).trans rfl, (blk_cell BR.out 3).trans rfl, (blk_cell BR.out 4).trans rfl, (blk_cell BR.out 5).trans rfl, (blk_cell BR.out 6).trans rfl, (blk_cell BR.out 7).trans rfl, (blk_cell BR.out 8).trans rfl, (blk_cell BR.out 9).trans rfl, (blk_cell BR.out 10).trans rfl, (blk_cell BR.out 11).trans rfl, (blk_cell BR.out 12).trans rfl, (blk_cell BR.out 13).trans rfl, (blk_cell BR.out 14).trans rfl, (blk_cell BL.out 0).trans rfl, (blk_cell BL.out 1).trans rfl, (blk_cell BL.out 2).trans rfl, (blk_cell BL.out 3).trans rfl⟩ (fun hHeld => ?_)
      replace BR := Aside0.mk (blk_drew BR.out)
      replace BL := Aside0.mk (blk_drew BL.out)
      replace HB := Aside0.mk (below_drew1 HB.out)
      generalize wr.drew = W0 at BR BL HB hHeld ⊢
      refine pure_ (i := 1) (N := (some 31)) (v := ?_) (a' := ?_) #[false, true, false, false, false, false, false, false, false, false, false, false] rfl rfl (by kernel_rfl) (fun _ _ _ h => h) (Or.inl ⟨by rfl, ?_⟩) ?_ ?_
      rotate_left
      · intro w'
        go_simp
        with_reducible rfl
      rotate_left
      · simp only [Act.put, List.setIfInBounds_toArray, List.set_cons_zero, List.set_cons_succ, i64_w, i32_w]
        rfl
      refine pure_ (i := 2) (N := (some 32)) (v := ?_) (a' := ?_) #[false, true, true, false, false, false, false, false, false, false, false, false] rfl rfl (by kernel_rfl) (fun _ _ _ h => h) (Or.inl ⟨by rfl, ?_⟩) ?_ ?_
      rotate_left
      · intro w'
        go_simp
        with_reducible rfl
      rotate_left
      · simp only [Act.put, List.setIfInBounds_toArray, List.set_cons_zero, List.set_cons_succ, i64_w, i32_w]
        rfl
      refine pure_ (i := 3) (N := (some 33)) (v := ?_) (a' := ?_) #[false, true, true, true, false, false, false, false, false, false, false, false] rfl rfl (by kernel_rfl) (fun _ _ _ h => h) (Or.inl ⟨by rfl, ?_⟩) ?_ ?_
      rotate_left
      · intro w'
        go_simp
        with_reducible rfl
      rotate_left
      · simp only [Act.put, List.setIfInBounds_toArray, List.set_cons_zero, List.set_cons_succ, i64_w, i32_w]
        rfl
      refine take_ (i := 0) (N := (some 30)) (v := ?_) (a' := ?_) #[true, true, true, true, false, false, false, false, false, false, false, false] rfl rfl (by kernel_rfl) (fun _ _ _ h => h) (Or.inl ⟨by rfl, ?_⟩) hHeld ?_ ?_
      rotate_left
      · rintro w' ⟨s0, s1, s2, s3, s4, s5, s6, s7, s8, s9, s10, s11, s12, s13, s14, s15, s16, s17, s18⟩
        go_simp
        with_reducible rfl
      rotate_left
      · simp only [Act.put, List.setIfInBounds_toArray, List.set_cons_zero, List.set_cons_succ, i64_w, i32_w]
        rfl
      refine take_ (i := 4) (N := (some 34)) (v := ?_) (a' := ?_) #[true, true, true, true, true, false, false, false, false, false, false, false] rfl rfl (by kernel_rfl) (fun _ _ _ h => h) (Or.inl ⟨by rfl, ?_⟩) hHeld ?_ ?_
      rotate_left
      · rintro w' ⟨s0, s1, s2, s3, s4, s5, s6, s7, s8, s9, s10, s11, s12, s13, s14, s15, s16, s17, s18⟩
        go_simp
        with_reducible rfl
      rotate_left
      · simp only [Act.put, List.setIfInBounds_toArray, List.set_cons_zero, List.set_cons_succ, i64_w, i32_w]
        rfl
      refine two_ (i := 5) (j := 9) (Ni := some 35) (Nj := some 5) #[true, true, true, true, true, true, false, false, false, false, false, false] #[true, true, true, true, true, false, false, false, false, true, false, false] rfl rfl rfl rfl (by kernel_rfl) (by decide) (by decide) (fun K hK => ?_) (fun K hK => ?_)
      · refine goes_ Try.func22 (by kernel_rfl) rfl #[.agg #[.int .i64 3, .int .i64 100, .int .i64 (-1), .int .i64 0, .int .i64 0, .int .i64 0, .int .i64 0, .int .i64 0, .int .i64 0, .int .i64 0, .int .i64 0, .int .i64 0, .int .i64 0, .int .i64 0, .int .i64 0], .agg #[.int .i64 0, .int .i64 1500, .int .i64 0, .int .i64 0]] (by rfl) rfl rfl (by (try simp only [List.map_toArray, List.map_cons, List.map_nil]); first | done | rfl) ?_
        refine (done_v ⟨3, 100, (-1), 0, 0, 0, 0, 0, 0, 0, 0, 0, 0, 0, 0⟩ 0 1500 0 0 ⟨3, 100, (-1), 1500, 0, 0, 1, 0, 0, 0, 0, 0, 0, 0, 0⟩ 0 _ doc0).mono ?_
        rintro e W1 ⟨rfl, hb⟩
        refine ⟨_, rfl, ?_⟩
        have n_BR := Aside0.mk (blk_below BR.out hb)
        clear BR
        have BR := n_BR
        clear n_BR
        have n_BL := Aside0.mk (blk_below BL.out hb)
        clear BL
        have BL := n_BL
        clear n_BL
        have n_H := Aside0.mk (below_step HB.out hb)
        clear HB hb
        have HB := n_H
        clear n_H
        refine hK.out _ _ ⟨(blk_cell BR.out 0).trans rfl, (blk_cell BR.out 1).trans rfl, (blk_cell BR.out 2).trans rfl, (blk_cell BR.out 3).trans rfl, (blk_cell BR.out 4).trans rfl, (blk_cell BR.out 5).trans rfl, (blk_cell BR.out 6).trans rfl, (blk_cell BR.out 7).trans rfl, (blk_cell BR.out 8).trans rfl, (blk_cell BR.out 9).trans rfl, (blk_cell BR.out 10).trans rfl, (blk_cell BR.out 11).trans rfl, (blk_cell BR.out 12).trans rfl, (blk_cell BR.out 13).trans rfl, (blk_cell BR.out 14).trans rfl, (blk_cell BL.out 0).trans rfl, (blk_cell BL.out 1).trans rfl, (blk_cell BL.out 2).trans rfl, (blk_cell BL.out 3).trans rfl⟩ (fun hHeld => ?_)
        clear hK K
        refine norm_ (a' := ?_) ?_ ?_
        rotate_left
        · show Act.put _ (some 35) _ = _
          simp only [Act.put, List.setIfInBounds_toArray, List.set_cons_zero, List.set_cons_succ, i64_w, i32_w]
          rfl
        refine pure_ (i := 6) (N := (some 29)) (v := ?_) (a' := ?_) #[true, true, true, true, true, true, true, false, false, false, false, false] rfl rfl (by kernel_rfl) (fun _ _ _ h => h) (Or.inl ⟨by rfl, ?_⟩) ?_ ?_
        rotate_left
        · intro w'
          go_simp
          with_reducible rfl
        rotate_left
        · simp only [Act.put, List.setIfInBounds_toArray, List.set_cons_zero, List.set_cons_succ, i64_w, i32_w]
          rfl
        refine pure_ (i := 7) (N := (some 36)) (v := ?_) (a' := ?_) #[true, true, true, true, true, true, true, true, false, false, false, false] rfl rfl (by kernel_rfl) (fun _ _ _ h => h) (Or.inl ⟨by rfl, ?_⟩) ?_ ?_
        rotate_left
        · intro w'
          go_simp
          with_reducible rfl
        rotate_left
        · simp only [Act.put, List.setIfInBounds_toArray, List.set_cons_zero, List.set_cons_succ, i64_w, i32_w]
          rfl
        refine pure_ (i := 8) (N := (some 37)) (v := ?_) (a' := ?_) #[true, true, true, true, true, true, true, true, true, false, false, false] rfl rfl (by kernel_rfl) (fun _ _ _ h => h) (Or.inl ⟨by rfl, ?_⟩) ?_ ?_
        rotate_left
        · intro w'
          go_simp
          with_reducible rfl
        rotate_left
        · simp only [Act.put, List.setIfInBounds_toArray, List.set_cons_zero, List.set_cons_succ, i64_w, i32_w]
          rfl
        refine one_ (i := 9) (N := (some 5)) #[true, true, true, true, true, true, true, true, true, true, false, false] rfl rfl (by kernel_rfl) (by decide) (fun K hK => ?_)
        refine box_step ?hg (N := 5) ?hd (cs := #[.int .i64 0, .int .i64 0, .int .i64 0, .int .i64 0, .int .i64 0, .int .i64 0, .int .i64 0, .int .i64 0, .int .i64 0, .int .i64 0, .int .i64 0, .int .i64 0, .int .i64 0, .int .i64 0, .int .i64 0]) (t := 23) ?hr ?_
        (case hd => rfl)
        (case hg => rfl)
        (case hr => first | (go_simp; done) | (go_simp; rfl))
        intro g_BN hg W2 hbox hb
        have NE_BR_BN : Aside0 (g_BR ≠ g_BN) := ⟨by rw [hg]; exact Nat.ne_of_lt (blk_lt BR.out)⟩
        have NE_BN_BR : Aside0 (g_BN ≠ g_BR) := ⟨fun e_ => NE_BR_BN.out e_.symm⟩
        have NE_BL_BN : Aside0 (g_BL ≠ g_BN) := ⟨by rw [hg]; exact Nat.ne_of_lt (blk_lt BL.out)⟩
        have NE_BN_BL : Aside0 (g_BN ≠ g_BL) := ⟨fun e_ => NE_BL_BN.out e_.symm⟩
        have GE_BN : Aside0 (w.heap.size ≤ g_BN) := ⟨by rw [hg]; exact below_size HB.out⟩
        have n_BR := Aside0.mk (blk_below BR.out hb)
        clear BR
        have BR := n_BR
        clear n_BR
        have n_BL := Aside0.mk (blk_below BL.out hb)
        clear BL
        have BL := n_BL
        clear n_BL
        have n_H := Aside0.mk (below_step HB.out hb)
        clear HB
        have HB := n_H
        clear n_H
        have BN := Aside0.mk hbox
        clear hbox hb hg
        refine hK.out _ _ ⟨(blk_cell BR.out 0).trans rfl, (blk_cell BR.out 1).trans rfl, (blk_cell BR.out 2).trans rfl, (blk_cell BR.out 3).trans rfl, (blk_cell BR.out 4).trans rfl, (blk_cell BR.out 5).trans rfl, (blk_cell BR.out 6).trans rfl, (blk_cell BR.out 7).trans rfl, (blk_cell BR.out 8).trans rfl, (blk_cell BR.out 9).trans rfl, (blk_cell BR.out 10).trans rfl, (blk_cell BR.out 11).trans rfl, (blk_cell BR.out 12).trans rfl, (blk_cell BR.out 13).trans rfl, (blk_cell BR.out 14).trans rfl, (blk_cell BL.out 0).trans rfl, (blk_cell BL.out 1).trans rfl, (blk_cell BL.out 2).trans rfl, (blk_cell BL.out 3).trans rfl⟩ (fun hHeld => ?_)
        clear hK K
        refine norm_ (a' := ?_) ?_ ?_
        rotate_left
        · show Act.put _ (some 5) _ = _
          simp only [Act.put, List.setIfInBounds_toArray, List.set_cons_zero, List.set_cons_succ, i64_w, i32_w]
          rfl
        refine last_ (i := 10) (N := none) #[true, true, true, true, true, true, true, true, true, true, true, false] rfl rfl (by kernel_rfl) (by decide) (fun K hK => ?_)
        refine skip_ (w1 := W2.setRow g_BN #[.int .i64 3, .int .i64 100, .int .i64 (-1), .int .i64 1500, .int .i64 0, .int .i64 0, .int .i64 1, .int .i64 0, .int .i64 0, .int .i64 0, .int .i64 0, .int .i64 0, .int .i64 0, .int .i64 0, .int .i64 0]) (by rfl) rfl (run_store_row 23 _ _ _ _ rfl rfl rfl BN.out (by kernel_rfl) rfl (by kernel_rfl)) ?_
        refine hK.out _ _ ?_
        clear hK K hHeld
        have n_BN := Aside0.mk (blk_row #[.int .i64 3, .int .i64 100, .int .i64 (-1), .int .i64 1500, .int .i64 0, .int .i64 0, .int .i64 1, .int .i64 0, .int .i64 0, .int .i64 0, .int .i64 0, .int .i64 0, .int .i64 0, .int .i64 0, .int .i64 0] BN.out)
        have n_BR := Aside0.mk (blk_rowfar #[.int .i64 3, .int .i64 100, .int .i64 (-1), .int .i64 1500, .int .i64 0, .int .i64 0, .int .i64 1, .int .i64 0, .int .i64 0, .int .i64 0, .int .i64 0, .int .i64 0, .int .i64 0, .int .i64 0, .int .i64 0] BR.out NE_BR_BN.out)
        have n_BL := Aside0.mk (blk_rowfar #[.int .i64 3, .int .i64 100, .int .i64 (-1), .int .i64 1500, .int .i64 0, .int .i64 0, .int .i64 1, .int .i64 0, .int .i64 0, .int .i64 0, .int .i64 0, .int .i64 0, .int .i64 0, .int .i64 0, .int .i64 0] BL.out NE_BL_BN.out)
        have n_H := Aside0.mk (below_setRow HB.out GE_BN.out #[.int .i64 3, .int .i64 100, .int .i64 (-1), .int .i64 1500, .int .i64 0, .int .i64 0, .int .i64 1, .int .i64 0, .int .i64 0, .int .i64 0, .int .i64 0, .int .i64 0, .int .i64 0, .int .i64 0, .int .i64 0])
        clear BN BR BL HB
        have BN := n_BN
        have BR := n_BR
        have BL := n_BL
        have HB := n_H
        clear n_BN n_BR n_BL n_H
        generalize W2.setRow g_BN #[.int .i64 3, .int .i64 100, .int .i64 (-1), .int .i64 1500, .int .i64 0, .int .i64 0, .int .i64 1, .int .i64 0, .int .i64 0, .int .i64 0, .int .i64 0, .int .i64 0, .int .i64 0, .int .i64 0, .int .i64 0] = W3 at *
        refine pure_ (i := 11) (N := (some 6)) (v := ?_) (a' := ?_) #[true, true, true, true, true, true, true, true, true, true, true, true] rfl rfl (by kernel_rfl) (fun _ _ _ h => h) (Or.inl ⟨by rfl, ?_⟩) ?_ ?_
        rotate_left
        · intro w'
          go_simp
          with_reducible rfl
        rotate_left
        · simp only [Act.put, List.setIfInBounds_toArray, List.set_cons_zero, List.set_cons_succ, i64_w, i32_w]
          rfl
        refine done_ (by kernel_rfl) ?_
        go_wp2_with (first | ((with_reducible refine gate_dst (N := 38) rfl ?_); refine load_event 23 (.tmp 5) rfl rfl rfl BN.out Try.underlying23 rfl (by kernel_rfl) ?_) | ((with_reducible refine gate_store (t := 23) (p := 1) rfl ?_); refine store_event (t := 23) (p := 1) (v := .tmp 38) (w1 := W3.setRow g_BR #[.int .i64 3, .int .i64 100, .int .i64 (-1), .int .i64 1500, .int .i64 0, .int .i64 0, .int .i64 1, .int .i64 0, .int .i64 0, .int .i64 0, .int .i64 0, .int .i64 0, .int .i64 0, .int .i64 0, .int .i64 0]) ?hg ?ho ?hn ?hr ?_; (case ho => rfl); (case hg => rfl); (case hn => rfl); (case hr => exact run_store_row 23 _ _ _ _ rfl rfl rfl BR.out (by kernel_rfl) rfl (by kernel_rfl)); intro w1_ hw; have n_BR : Aside0 (w1_.heap[g_BR]? = some (.cells #[.int .i64 3, .int .i64 100, .int .i64 (-1), .int .i64 1500, .int .i64 0, .int .i64 0, .int .i64 1, .int .i64 0, .int .i64 0, .int .i64 0, .int .i64 0, .int .i64 0, .int .i64 0, .int .i64 0, .int .i64 0] 23 (0, 0))) := ⟨by rw [hw]; exact blk_row _ BR.out⟩; clear BR; have BR := n_BR; clear n_BR; have n_BL : Aside0 (w1_.heap[g_BL]? = some (.cells #[.int .i64 0, .int .i64 1500, .int .i64 0, .int .i64 0, .int .i64 0, .int .i64 500, .int .i64 0, .int .i64 0, .int .i64 1, .int .i64 1500, .int .i64 110, .int .i64 160, .int .i64 2, .int .i64 500, .int .i64 0, .int .i64 0, .int .i64 3, .int .i64 0, .int .i64 0, .int .i64 200] 34 (0, 0))) := ⟨by rw [hw]; exact blk_rowfar _ BL.out NE_BL_BR.out⟩; clear BL; have BL := n_BL; clear n_BL; have n_BN : Aside0 (w1_.heap[g_BN]? = some (.cells #[.int .i64 3, .int .i64 100, .int .i64 (-1), .int .i64 1500, .int .i64 0, .int .i64 0, .int .i64 1, .int .i64 0, .int .i64 0, .int .i64 0, .int .i64 0, .int .i64 0, .int .i64 0, .int .i64 0, .int .i64 0] 23 (0, 0))) := ⟨by rw [hw]; exact blk_rowfar _ BN.out NE_BN_BR.out⟩; clear BN; have BN := n_BN; clear n_BN; have n_H : Aside0 (Below w.heap.size w w1_) := ⟨by rw [hw]; exact below_setRow HB.out GE_BR.out _⟩; clear HB; have HB := n_H; clear n_H hw))
        go_roundw
        case rel => exact ⟨1, by omega, rfl, rfl, ⟨BR.out⟩, BL, HB⟩
        case measure => simp [intOf]
      · refine box_step ?hg (N := 5) ?hd (cs := #[.int .i64 0, .int .i64 0, .int .i64 0, .int .i64 0, .int .i64 0, .int .i64 0, .int .i64 0, .int .i64 0, .int .i64 0, .int .i64 0, .int .i64 0, .int .i64 0, .int .i64 0, .int .i64 0, .int .i64 0]) (t := 23) ?hr ?_
        (case hd => rfl)
        (case hg => rfl)
        (case hr => first | (go_simp; done) | (go_simp; rfl))
        intro g_BN hg W2 hbox hb
        have NE_BR_BN : Aside0 (g_BR ≠ g_BN) := ⟨by rw [hg]; exact Nat.ne_of_lt (blk_lt BR.out)⟩
        have NE_BN_BR : Aside0 (g_BN ≠ g_BR) := ⟨fun e_ => NE_BR_BN.out e_.symm⟩
        have NE_BL_BN : Aside0 (g_BL ≠ g_BN) := ⟨by rw [hg]; exact Nat.ne_of_lt (blk_lt BL.out)⟩
        have NE_BN_BL : Aside0 (g_BN ≠ g_BL) := ⟨fun e_ => NE_BL_BN.out e_.symm⟩
        have GE_BN : Aside0 (w.heap.size ≤ g_BN) := ⟨by rw [hg]; exact below_size HB.out⟩
        have n_BR := Aside0.mk (blk_below BR.out hb)
        clear BR
        have BR := n_BR
        clear n_BR
        have n_BL := Aside0.mk (blk_below BL.out hb)
        clear BL
        have BL := n_BL
        clear n_BL
        have n_H := Aside0.mk (below_step HB.out hb)
        clear HB
        have HB := n_H
        clear n_H
        have BN := Aside0.mk hbox
        clear hbox hb hg
        refine hK.out _ _ ⟨(blk_cell BR.out 0).trans rfl, (blk_cell BR.out 1).trans rfl, (blk_cell BR.out 2).trans rfl, (blk_cell BR.out 3).trans rfl, (blk_cell BR.out 4).trans rfl, (blk_cell BR.out 5).trans rfl, (blk_cell BR.out 6).trans rfl, (blk_cell BR.out 7).trans rfl, (blk_cell BR.out 8).trans rfl, (blk_cell BR.out 9).trans rfl, (blk_cell BR.out 10).trans rfl, (blk_cell BR.out 11).trans rfl, (blk_cell BR.out 12).trans rfl, (blk_cell BR.out 13).trans rfl, (blk_cell BR.out 14).trans rfl, (blk_cell BL.out 0).trans rfl, (blk_cell BL.out 1).trans rfl, (blk_cell BL.out 2).trans rfl, (blk_cell BL.out 3).trans rfl⟩ (fun hHeld => ?_)
        clear hK K
        refine norm_ (a' := ?_) ?_ ?_
        rotate_left
        · show Act.put _ (some 5) _ = _
          simp only [Act.put, List.setIfInBounds_toArray, List.set_cons_zero, List.set_cons_succ, i64_w, i32_w]
          rfl
        refine one_ (i := 5) (N := (some 35)) #[true, true, true, true, true, true, false, false, false, true, false, false] rfl rfl (by kernel_rfl) (by decide) (fun K hK => ?_)
        refine goes_ Try.func22 (by kernel_rfl) rfl #[.agg #[.int .i64 3, .int .i64 100, .int .i64 (-1), .int .i64 0, .int .i64 0, .int .i64 0, .int .i64 0, .int .i64 0, .int .i64 0, .int .i64 0, .int .i64 0, .int .i64 0, .int .i64 0, .int .i64 0, .int .i64 0], .agg #[.int .i64 0, .int .i64 1500, .int .i64 0, .int .i64 0]] (by rfl) rfl rfl (by (try simp only [List.map_toArray, List.map_cons, List.map_nil]); first | done | rfl) ?_
        refine (done_v ⟨3, 100, (-1), 0, 0, 0, 0, 0, 0, 0, 0, 0, 0, 0, 0⟩ 0 1500 0 0 ⟨3, 100, (-1), 1500, 0, 0, 1, 0, 0, 0, 0, 0, 0, 0, 0⟩ 0 _ doc0).mono ?_
        rintro e W1 ⟨rfl, hb⟩
        refine ⟨_, rfl, ?_⟩
        have n_BR := Aside0.mk (blk_below BR.out hb)
        clear BR
        have BR := n_BR
        clear n_BR
        have n_BL := Aside0.mk (blk_below BL.out hb)
        clear BL
        have BL := n_BL
        clear n_BL
        have n_BN := Aside0.mk (blk_below BN.out hb)
        clear BN
        have BN := n_BN
        clear n_BN
        have n_H := Aside0.mk (below_step HB.out hb)
        clear HB hb
        have HB := n_H
        clear n_H
        refine hK.out _ _ ⟨(blk_cell BR.out 0).trans rfl, (blk_cell BR.out 1).trans rfl, (blk_cell BR.out 2).trans rfl, (blk_cell BR.out 3).trans rfl, (blk_cell BR.out 4).trans rfl, (blk_cell BR.out 5).trans rfl, (blk_cell BR.out 6).trans rfl, (blk_cell BR.out 7).trans rfl, (blk_cell BR.out 8).trans rfl, (blk_cell BR.out 9).trans rfl, (blk_cell BR.out 10).trans rfl, (blk_cell BR.out 11).trans rfl, (blk_cell BR.out 12).trans rfl, (blk_cell BR.out 13).trans rfl, (blk_cell BR.out 14).trans rfl, (blk_cell BL.out 0).trans rfl, (blk_cell BL.out 1).trans rfl, (blk_cell BL.out 2).trans rfl, (blk_cell BL.out 3).trans rfl⟩ (fun hHeld => ?_)
        clear hK K
        refine norm_ (a' := ?_) ?_ ?_
        rotate_left
        · show Act.put _ (some 35) _ = _
          simp only [Act.put, List.setIfInBounds_toArray, List.set_cons_zero, List.set_cons_succ, i64_w, i32_w]
          rfl
        refine pure_ (i := 6) (N := (some 29)) (v := ?_) (a' := ?_) #[true, true, true, true, true, true, true, false, false, true, false, false] rfl rfl (by kernel_rfl) (fun _ _ _ h => h) (Or.inl ⟨by rfl, ?_⟩) ?_ ?_
        rotate_left
        · intro w'
          go_simp
          with_reducible rfl
        rotate_left
        · simp only [Act.put, List.setIfInBounds_toArray, List.set_cons_zero, List.set_cons_succ, i64_w, i32_w]
          rfl
        refine pure_ (i := 7) (N := (some 36)) (v := ?_) (a' := ?_) #[true, true, true, true, true, true, true, true, false, true, false, false] rfl rfl (by kernel_rfl) (fun _ _ _ h => h) (Or.inl ⟨by rfl, ?_⟩) ?_ ?_
        rotate_left
        · intro w'
          go_simp
          with_reducible rfl
        rotate_left
        · simp only [Act.put, List.setIfInBounds_toArray, List.set_cons_zero, List.set_cons_succ, i64_w, i32_w]
          rfl
        refine pure_ (i := 8) (N := (some 37)) (v := ?_) (a' := ?_) #[true, true, true, true, true, true, true, true, true, true, false, false] rfl rfl (by kernel_rfl) (fun _ _ _ h => h) (Or.inl ⟨by rfl, ?_⟩) ?_ ?_
        rotate_left
        · intro w'
          go_simp
          with_reducible rfl
        rotate_left
        · simp only [Act.put, List.setIfInBounds_toArray, List.set_cons_zero, List.set_cons_succ, i64_w, i32_w]
          rfl
        refine last_ (i := 10) (N := none) #[true, true, true, true, true, true, true, true, true, true, true, false] rfl rfl (by kernel_rfl) (by decide) (fun K hK => ?_)
        refine skip_ (w1 := W1.setRow g_BN #[.int .i64 3, .int .i64 100, .int .i64 (-1), .int .i64 1500, .int .i64 0, .int .i64 0, .int .i64 1, .int .i64 0, .int .i64 0, .int .i64 0, .int .i64 0, .int .i64 0, .int .i64 0, .int .i64 0, .int .i64 0]) (by rfl) rfl (run_store_row 23 _ _ _ _ rfl rfl rfl BN.out (by kernel_rfl) rfl (by kernel_rfl)) ?_
        refine hK.out _ _ ?_
        clear hK K hHeld
        have n_BN := Aside0.mk (blk_row #[.int .i64 3, .int .i64 100, .int .i64 (-1), .int .i64 1500, .int .i64 0, .int .i64 0, .int .i64 1, .int .i64 0, .int .i64 0, .int .i64 0, .int .i64 0, .int .i64 0, .int .i64 0, .int .i64 0, .int .i64 0] BN.out)
        have n_BR := Aside0.mk (blk_rowfar #[.int .i64 3, .int .i64 100, .int .i64 (-1), .int .i64 1500, .int .i64 0, .int .i64 0, .int .i64 1, .int .i64 0, .int .i64 0, .int .i64 0, .int .i64 0, .int .i64 0, .int .i64 0, .int .i64 0, .int .i64 0] BR.out NE_BR_BN.out)
        have n_BL := Aside0.mk (blk_rowfar #[.int .i64 3, .int .i64 100, .int .i64 (-1), .int .i64 1500, .int .i64 0, .int .i64 0, .int .i64 1, .int .i64 0, .int .i64 0, .int .i64 0, .int .i64 0, .int .i64 0, .int .i64 0, .int .i64 0, .int .i64 0] BL.out NE_BL_BN.out)
        have n_H := Aside0.mk (below_setRow HB.out GE_BN.out #[.int .i64 3, .int .i64 100, .int .i64 (-1), .int .i64 1500, .int .i64 0, .int .i64 0, .int .i64 1, .int .i64 0, .int .i64 0, .int .i64 0, .int .i64 0, .int .i64 0, .int .i64 0, .int .i64 0, .int .i64 0])
        clear BN BR BL HB
        have BN := n_BN
        have BR := n_BR
        have BL := n_BL
        have HB := n_H
        clear n_BN n_BR n_BL n_H
        generalize W1.setRow g_BN #[.int .i64 3, .int .i64 100, .int .i64 (-1), .int .i64 1500, .int .i64 0, .int .i64 0, .int .i64 1, .int .i64 0, .int .i64 0, .int .i64 0, .int .i64 0, .int .i64 0, .int .i64 0, .int .i64 0, .int .i64 0] = W3 at *
        refine pure_ (i := 11) (N := (some 6)) (v := ?_) (a' := ?_) #[true, true, true, true, true, true, true, true, true, true, true, true] rfl rfl (by kernel_rfl) (fun _ _ _ h => h) (Or.inl ⟨by rfl, ?_⟩) ?_ ?_
        rotate_left
        · intro w'
          go_simp
          with_reducible rfl
        rotate_left
        · simp only [Act.put, List.setIfInBounds_toArray, List.set_cons_zero, List.set_cons_succ, i64_w, i32_w]
          rfl
        refine done_ (by kernel_rfl) ?_
        go_wp2_with (first | ((with_reducible refine gate_dst (N := 38) rfl ?_); refine load_event 23 (.tmp 5) rfl rfl rfl BN.out Try.underlying23 rfl (by kernel_rfl) ?_) | ((with_reducible refine gate_store (t := 23) (p := 1) rfl ?_); refine store_event (t := 23) (p := 1) (v := .tmp 38) (w1 := W3.setRow g_BR #[.int .i64 3, .int .i64 100, .int .i64 (-1), .int .i64 1500, .int .i64 0, .int .i64 0, .int .i64 1, .int .i64 0, .int .i64 0, .int .i64 0, .int .i64 0, .int .i64 0, .int .i64 0, .int .i64 0, .int .i64 0]) ?hg ?ho ?hn ?hr ?_; (case ho => rfl); (case hg => rfl); (case hn => rfl); (case hr => exact run_store_row 23 _ _ _ _ rfl rfl rfl BR.out (by kernel_rfl) rfl (by kernel_rfl)); intro w1_ hw; have n_BR : Aside0 (w1_.heap[g_BR]? = some (.cells #[.int .i64 3, .int .i64 100, .int .i64 (-1), .int .i64 1500, .int .i64 0, .int .i64 0, .int .i64 1, .int .i64 0, .int .i64 0, .int .i64 0, .int .i64 0, .int .i64 0, .int .i64 0, .int .i64 0, .int .i64 0] 23 (0, 0))) := ⟨by rw [hw]; exact blk_row _ BR.out⟩; clear BR; have BR := n_BR; clear n_BR; have n_BL : Aside0 (w1_.heap[g_BL]? = some (.cells #[.int .i64 0, .int .i64 1500, .int .i64 0, .int .i64 0, .int .i64 0, .int .i64 500, .int .i64 0, .int .i64 0, .int .i64 1, .int .i64 1500, .int .i64 110, .int .i64 160, .int .i64 2, .int .i64 500, .int .i64 0, .int .i64 0, .int .i64 3, .int .i64 0, .int .i64 0, .int .i64 200] 34 (0, 0))) := ⟨by rw [hw]; exact blk_rowfar _ BL.out NE_BL_BR.out⟩; clear BL; have BL := n_BL; clear n_BL; have n_BN : Aside0 (w1_.heap[g_BN]? = some (.cells #[.int .i64 3, .int .i64 100, .int .i64 (-1), .int .i64 1500, .int .i64 0, .int .i64 0, .int .i64 1, .int .i64 0, .int .i64 0, .int .i64 0, .int .i64 0, .int .i64 0, .int .i64 0, .int .i64 0, .int .i64 0] 23 (0, 0))) := ⟨by rw [hw]; exact blk_rowfar _ BN.out NE_BN_BR.out⟩; clear BN; have BN := n_BN; clear n_BN; have n_H : Aside0 (Below w.heap.size w w1_) := ⟨by rw [hw]; exact below_setRow HB.out GE_BR.out _⟩; clear HB; have HB := n_H; clear n_H hw))
        go_roundw
        case rel => exact ⟨1, by omega, rfl, rfl, ⟨BR.out⟩, BL, HB⟩
        case measure => simp [intOf]
    · have n1_ : Aside0 (wr.heap[g_BR]? = some (.cells #[.int .i64 3, .int .i64 100, .int .i64 (-1), .int .i64 1500, .int .i64 0, .int .i64 0, .int .i64 1, .int .i64 0, .int .i64 0, .int .i64 0, .int .i64 0, .int .i64 0, .int .i64 0, .int .i64 0, .int .i64 0] 23 (0, 0))) := ⟨BR.out⟩
      clear BR
      have BR := n1_
      clear n1_
      go_wp2_with fail
      refine start_ (n := 12) (S := fun w' => w'.cell? ⟨g_BR, 0, none⟩ = some (.int .i64 3) ∧ w'.cell? ⟨g_BR, 1, none⟩ = some (.int .i64 100) ∧ w'.cell? ⟨g_BR, 2, none⟩ = some (.int .i64 (-1)) ∧ w'.cell? ⟨g_BR, 3, none⟩ = some (.int .i64 1500) ∧ w'.cell? ⟨g_BR, 4, none⟩ = some (.int .i64 0) ∧ w'.cell? ⟨g_BR, 5, none⟩ = some (.int .i64 0) ∧ w'.cell? ⟨g_BR, 6, none⟩ = some (.int .i64 1) ∧ w'.cell? ⟨g_BR, 7, none⟩ = some (.int .i64 0) ∧ w'.cell? ⟨g_BR, 8, none⟩ = some (.int .i64 0) ∧ w'.cell? ⟨g_BR, 9, none⟩ = some (.int .i64 0) ∧ w'.cell? ⟨g_BR, 10, none⟩ = some (.int .i64 0) ∧ w'.cell? ⟨g_BR, 11, none⟩ = some (.int .i64 0) ∧ w'.cell? ⟨g_BR, 12, none⟩ = some (.int .i64 0) ∧ w'.cell? ⟨g_BR, 13, none⟩ = some (.int .i64 0) ∧ w'.cell? ⟨g_BR, 14, none⟩ = some (.int .i64 0) ∧ w'.cell? ⟨g_BL, 4, none⟩ = some (.int .i64 0) ∧ w'.cell? ⟨g_BL, 5, none⟩ = some (.int .i64 500) ∧ w'.cell? ⟨g_BL, 6, none⟩ = some (.int .i64 0) ∧ w'.cell? ⟨g_BL, 7, none⟩ = some (.int .i64 0)) (ds := [10]) #[false, false, false, false, false, false, false, false, false, false, false, false] (by kernel_rfl) rfl rfl ⟨(blk_cell BR.out 0).trans rfl, (blk_cell BR.out 1).trans rfl, (blk_cell BR.out 2).trans rfl, (blk_cell BR.out 3).trans rfl, (blk_cell BR.out 4).trans rfl, (blk_cell BR.out 5).trans rfl, (blk_cell BR.out 6).trans rfl, (blk_cell BR.out 7).trans rfl, (blk_cell BR.out 8).trans rfl, (blk_cell BR.out 9).trans rfl, (blk_cell BR.out 10).trans rfl, (blk_cell BR.out 11).trans rfl, (blk_cell BR.out 12).trans rfl, (blk_cell BR.out 13).trans rfl, (blk_cell BR.out 14).trans rfl, (blk_cell BL.out 4).trans rfl, (blk_cell BL.out 5).trans rfl, (blk_cell BL.out 6).trans rfl, (blk_cell BL.out 7).trans rfl⟩ (fun hHeld => ?_)
      replace BR := Aside0.mk (blk_drew BR.out)
      replace BL := Aside0.mk (blk_drew BL.out)
      replace HB := Aside0.mk (below_drew1 HB.out)
      generalize wr.drew = W0 at BR BL HB hHeld ⊢
      refine pure_ (i := 1) (N := (some 31)) (v := ?_) (a' := ?_) #[false, true, false, false, false, false, false, false, false, false, false, false] rfl rfl (by kernel_rfl) (fun _ _ _ h => h) (Or.inl ⟨by rfl, ?_⟩) ?_ ?_
      rotate_left
      · intro w'
        go_simp
        with_reducible rfl
      rotate_left
      · simp only [Act.put, List.setIfInBounds_toArray, List.set_cons_zero, List.set_cons_succ, i64_w, i32_w]
        rfl
      refine pure_ (i := 2) (N := (some 32)) (v := ?_) (a' := ?_) #[false, true, true, false, false, false, false, false, false, false, false, false] rfl rfl (by kernel_rfl) (fun _ _ _ h => h) (Or.inl ⟨by rfl, ?_⟩) ?_ ?_
      rotate_left
      · intro w'
        go_simp
        with_reducible rfl
      rotate_left
      · simp only [Act.put, List.setIfInBounds_toArray, List.set_cons_zero, List.set_cons_succ, i64_w, i32_w]
        rfl
      refine pure_ (i := 3) (N := (some 33)) (v := ?_) (a' := ?_) #[false, true, true, true, false, false, false, false, false, false, false, false] rfl rfl (by kernel_rfl) (fun _ _ _ h => h) (Or.inl ⟨by rfl, ?_⟩) ?_ ?_
      rotate_left
      · intro w'
        go_simp
        with_reducible rfl
      rotate_left
      · simp only [Act.put, List.setIfInBounds_toArray, List.set_cons_zero, List.set_cons_succ, i64_w, i32_w]
        rfl
      refine take_ (i := 0) (N := (some 30)) (v := ?_) (a' := ?_) #[true, true, true, true, false, false, false, false, false, false, false, false] rfl rfl (by kernel_rfl) (fun _ _ _ h => h) (Or.inl ⟨by rfl, ?_⟩) hHeld ?_ ?_
      rotate_left
      · rintro w' ⟨s0, s1, s2, s3, s4, s5, s6, s7, s8, s9, s10, s11, s12, s13, s14, s15, s16, s17, s18⟩
        go_simp
        with_reducible rfl
      rotate_left
      · simp only [Act.put, List.setIfInBounds_toArray, List.set_cons_zero, List.set_cons_succ, i64_w, i32_w]
        rfl
      refine take_ (i := 4) (N := (some 34)) (v := ?_) (a' := ?_) #[true, true, true, true, true, false, false, false, false, false, false, false] rfl rfl (by kernel_rfl) (fun _ _ _ h => h) (Or.inl ⟨by rfl, ?_⟩) hHeld ?_ ?_
      rotate_left
      · rintro w' ⟨s0, s1, s2, s3, s4, s5, s6, s7, s8, s9, s10, s11, s12, s13, s14, s15, s16, s17, s18⟩
        go_simp
        with_reducible rfl
      rotate_left
      · simp only [Act.put, List.setIfInBounds_toArray, List.set_cons_zero, List.set_cons_succ, i64_w, i32_w]
        rfl
      refine two_ (i := 5) (j := 9) (Ni := some 35) (Nj := some 5) #[true, true, true, true, true, true, false, false, false, false, false, false] #[true, true, true, true, true, false, false, false, false, true, false, false] rfl rfl rfl rfl (by kernel_rfl) (by decide) (by decide) (fun K hK => ?_) (fun K hK => ?_)
      · refine goes_ Try.func22 (by kernel_rfl) rfl #[.agg #[.int .i64 3, .int .i64 100, .int .i64 (-1), .int .i64 1500, .int .i64 0, .int .i64 0, .int .i64 1, .int .i64 0, .int .i64 0, .int .i64 0, .int .i64 0, .int .i64 0, .int .i64 0, .int .i64 0, .int .i64 0], .agg #[.int .i64 0, .int .i64 500, .int .i64 0, .int .i64 0]] (by rfl) rfl rfl (by (try simp only [List.map_toArray, List.map_cons, List.map_nil]); first | done | rfl) ?_
        refine (done_v ⟨3, 100, (-1), 1500, 0, 0, 1, 0, 0, 0, 0, 0, 0, 0, 0⟩ 0 500 0 0 ⟨3, 100, (-1), 2000, 0, 0, 2, 0, 0, 0, 0, 0, 0, 0, 0⟩ 0 _ doc1).mono ?_
        rintro e W1 ⟨rfl, hb⟩
        refine ⟨_, rfl, ?_⟩
        have n_BR := Aside0.mk (blk_below BR.out hb)
        clear BR
        have BR := n_BR
        clear n_BR
        have n_BL := Aside0.mk (blk_below BL.out hb)
        clear BL
        have BL := n_BL
        clear n_BL
        have n_H := Aside0.mk (below_step HB.out hb)
        clear HB hb
        have HB := n_H
        clear n_H
        refine hK.out _ _ ⟨(blk_cell BR.out 0).trans rfl, (blk_cell BR.out 1).trans rfl, (blk_cell BR.out 2).trans rfl, (blk_cell BR.out 3).trans rfl, (blk_cell BR.out 4).trans rfl, (blk_cell BR.out 5).trans rfl, (blk_cell BR.out 6).trans rfl, (blk_cell BR.out 7).trans rfl, (blk_cell BR.out 8).trans rfl, (blk_cell BR.out 9).trans rfl, (blk_cell BR.out 10).trans rfl, (blk_cell BR.out 11).trans rfl, (blk_cell BR.out 12).trans rfl, (blk_cell BR.out 13).trans rfl, (blk_cell BR.out 14).trans rfl, (blk_cell BL.out 4).trans rfl, (blk_cell BL.out 5).trans rfl, (blk_cell BL.out 6).trans rfl, (blk_cell BL.out 7).trans rfl⟩ (fun hHeld => ?_)
        clear hK K
        refine norm_ (a' := ?_) ?_ ?_
        rotate_left
        · show Act.put _ (some 35) _ = _
          simp only [Act.put, List.setIfInBounds_toArray, List.set_cons_zero, List.set_cons_succ, i64_w, i32_w]
          rfl
        refine pure_ (i := 6) (N := (some 29)) (v := ?_) (a' := ?_) #[true, true, true, true, true, true, true, false, false, false, false, false] rfl rfl (by kernel_rfl) (fun _ _ _ h => h) (Or.inl ⟨by rfl, ?_⟩) ?_ ?_
        rotate_left
        · intro w'
          go_simp
          with_reducible rfl
        rotate_left
        · simp only [Act.put, List.setIfInBounds_toArray, List.set_cons_zero, List.set_cons_succ, i64_w, i32_w]
          rfl
        refine pure_ (i := 7) (N := (some 36)) (v := ?_) (a' := ?_) #[true, true, true, true, true, true, true, true, false, false, false, false] rfl rfl (by kernel_rfl) (fun _ _ _ h => h) (Or.inl ⟨by rfl, ?_⟩) ?_ ?_
        rotate_left
        · intro w'
          go_simp
          with_reducible rfl
        rotate_left
        · simp only [Act.put, List.setIfInBounds_toArray, List.set_cons_zero, List.set_cons_succ, i64_w, i32_w]
          rfl
        refine pure_ (i := 8) (N := (some 37)) (v := ?_) (a' := ?_) #[true, true, true, true, true, true, true, true, true, false, false, false] rfl rfl (by kernel_rfl) (fun _ _ _ h => h) (Or.inl ⟨by rfl, ?_⟩) ?_ ?_
        rotate_left
        · intro w'
          go_simp
          with_reducible rfl
        rotate_left
        · simp only [Act.put, List.setIfInBounds_toArray, List.set_cons_zero, List.set_cons_succ, i64_w, i32_w]
          rfl
        refine one_ (i := 9) (N := (some 5)) #[true, true, true, true, true, true, true, true, true, true, false, false] rfl rfl (by kernel_rfl) (by decide) (fun K hK => ?_)
        refine box_step ?hg (N := 5) ?hd (cs := #[.int .i64 0, .int .i64 0, .int .i64 0, .int .i64 0, .int .i64 0, .int .i64 0, .int .i64 0, .int .i64 0, .int .i64 0, .int .i64 0, .int .i64 0, .int .i64 0, .int .i64 0, .int .i64 0, .int .i64 0]) (t := 23) ?hr ?_
        (case hd => rfl)
        (case hg => rfl)
        (case hr => first | (go_simp; done) | (go_simp; rfl))
        intro g_BN hg W2 hbox hb
        have NE_BR_BN : Aside0 (g_BR ≠ g_BN) := ⟨by rw [hg]; exact Nat.ne_of_lt (blk_lt BR.out)⟩
        have NE_BN_BR : Aside0 (g_BN ≠ g_BR) := ⟨fun e_ => NE_BR_BN.out e_.symm⟩
        have NE_BL_BN : Aside0 (g_BL ≠ g_BN) := ⟨by rw [hg]; exact Nat.ne_of_lt (blk_lt BL.out)⟩
        have NE_BN_BL : Aside0 (g_BN ≠ g_BL) := ⟨fun e_ => NE_BL_BN.out e_.symm⟩
        have GE_BN : Aside0 (w.heap.size ≤ g_BN) := ⟨by rw [hg]; exact below_size HB.out⟩
        have n_BR := Aside0.mk (blk_below BR.out hb)
        clear BR
        have BR := n_BR
        clear n_BR
        have n_BL := Aside0.mk (blk_below BL.out hb)
        clear BL
        have BL := n_BL
        clear n_BL
        have n_H := Aside0.mk (below_step HB.out hb)
        clear HB
        have HB := n_H
        clear n_H
        have BN := Aside0.mk hbox
        clear hbox hb hg
        refine hK.out _ _ ⟨(blk_cell BR.out 0).trans rfl, (blk_cell BR.out 1).trans rfl, (blk_cell BR.out 2).trans rfl, (blk_cell BR.out 3).trans rfl, (blk_cell BR.out 4).trans rfl, (blk_cell BR.out 5).trans rfl, (blk_cell BR.out 6).trans rfl, (blk_cell BR.out 7).trans rfl, (blk_cell BR.out 8).trans rfl, (blk_cell BR.out 9).trans rfl, (blk_cell BR.out 10).trans rfl, (blk_cell BR.out 11).trans rfl, (blk_cell BR.out 12).trans rfl, (blk_cell BR.out 13).trans rfl, (blk_cell BR.out 14).trans rfl, (blk_cell BL.out 4).trans rfl, (blk_cell BL.out 5).trans rfl, (blk_cell BL.out 6).trans rfl, (blk_cell BL.out 7).trans rfl⟩ (fun hHeld => ?_)
        clear hK K
        refine norm_ (a' := ?_) ?_ ?_
        rotate_left
        · show Act.put _ (some 5) _ = _
          simp only [Act.put, List.setIfInBounds_toArray, List.set_cons_zero, List.set_cons_succ, i64_w, i32_w]
          rfl
        refine last_ (i := 10) (N := none) #[true, true, true, true, true, true, true, true, true, true, true, false] rfl rfl (by kernel_rfl) (by decide) (fun K hK => ?_)
        refine skip_ (w1 := W2.setRow g_BN #[.int .i64 3, .int .i64 100, .int .i64 (-1), .int .i64 2000, .int .i64 0, .int .i64 0, .int .i64 2, .int .i64 0, .int .i64 0, .int .i64 0, .int .i64 0, .int .i64 0, .int .i64 0, .int .i64 0, .int .i64 0]) (by rfl) rfl (run_store_row 23 _ _ _ _ rfl rfl rfl BN.out (by kernel_rfl) rfl (by kernel_rfl)) ?_
        refine hK.out _ _ ?_
        clear hK K hHeld
        have n_BN := Aside0.mk (blk_row #[.int .i64 3, .int .i64 100, .int .i64 (-1), .int .i64 2000, .int .i64 0, .int .i64 0, .int .i64 2, .int .i64 0, .int .i64 0, .int .i64 0, .int .i64 0, .int .i64 0, .int .i64 0, .int .i64 0, .int .i64 0] BN.out)
        have n_BR := Aside0.mk (blk_rowfar #[.int .i64 3, .int .i64 100, .int .i64 (-1), .int .i64 2000, .int .i64 0, .int .i64 0, .int .i64 2, .int .i64 0, .int .i64 0, .int .i64 0, .int .i64 0, .int .i64 0, .int .i64 0, .int .i64 0, .int .i64 0] BR.out NE_BR_BN.out)
        have n_BL := Aside0.mk (blk_rowfar #[.int .i64 3, .int .i64 100, .int .i64 (-1), .int .i64 2000, .int .i64 0, .int .i64 0, .int .i64 2, .int .i64 0, .int .i64 0, .int .i64 0, .int .i64 0, .int .i64 0, .int .i64 0, .int .i64 0, .int .i64 0] BL.out NE_BL_BN.out)
        have n_H := Aside0.mk (below_setRow HB.out GE_BN.out #[.int .i64 3, .int .i64 100, .int .i64 (-1), .int .i64 2000, .int .i64 0, .int .i64 0, .int .i64 2, .int .i64 0, .int .i64 0, .int .i64 0, .int .i64 0, .int .i64 0, .int .i64 0, .int .i64 0, .int .i64 0])
        clear BN BR BL HB
        have BN := n_BN
        have BR := n_BR
        have BL := n_BL
        have HB := n_H
        clear n_BN n_BR n_BL n_H
        generalize W2.setRow g_BN #[.int .i64 3, .int .i64 100, .int .i64 (-1), .int .i64 2000, .int .i64 0, .int .i64 0, .int .i64 2, .int .i64 0, .int .i64 0, .int .i64 0, .int .i64 0, .int .i64 0, .int .i64 0, .int .i64 0, .int .i64 0] = W3 at *
        refine pure_ (i := 11) (N := (some 6)) (v := ?_) (a' := ?_) #[true, true, true, true, true, true, true, true, true, true, true, true] rfl rfl (by kernel_rfl) (fun _ _ _ h => h) (Or.inl ⟨by rfl, ?_⟩) ?_ ?_
        rotate_left
        · intro w'
          go_simp
          with_reducible rfl
        rotate_left
        · simp only [Act.put, List.setIfInBounds_toArray, List.set_cons_zero, List.set_cons_succ, i64_w, i32_w]
          rfl
        refine done_ (by kernel_rfl) ?_
        go_wp2_with (first | ((with_reducible refine gate_dst (N := 38) rfl ?_); refine load_event 23 (.tmp 5) rfl rfl rfl BN.out Try.underlying23 rfl (by kernel_rfl) ?_) | ((with_reducible refine gate_store (t := 23) (p := 1) rfl ?_); refine store_event (t := 23) (p := 1) (v := .tmp 38) (w1 := W3.setRow g_BR #[.int .i64 3, .int .i64 100, .int .i64 (-1), .int .i64 2000, .int .i64 0, .int .i64 0, .int .i64 2, .int .i64 0, .int .i64 0, .int .i64 0, .int .i64 0, .int .i64 0, .int .i64 0, .int .i64 0, .int .i64 0]) ?hg ?ho ?hn ?hr ?_; (case ho => rfl); (case hg => rfl); (case hn => rfl); (case hr => exact run_store_row 23 _ _ _ _ rfl rfl rfl BR.out (by kernel_rfl) rfl (by kernel_rfl)); intro w1_ hw; have n_BR : Aside0 (w1_.heap[g_BR]? = some (.cells #[.int .i64 3, .int .i64 100, .int .i64 (-1), .int .i64 2000, .int .i64 0, .int .i64 0, .int .i64 2, .int .i64 0, .int .i64 0, .int .i64 0, .int .i64 0, .int .i64 0, .int .i64 0, .int .i64 0, .int .i64 0] 23 (0, 0))) := ⟨by rw [hw]; exact blk_row _ BR.out⟩; clear BR; have BR := n_BR; clear n_BR; have n_BL : Aside0 (w1_.heap[g_BL]? = some (.cells #[.int .i64 0, .int .i64 1500, .int .i64 0, .int .i64 0, .int .i64 0, .int .i64 500, .int .i64 0, .int .i64 0, .int .i64 1, .int .i64 1500, .int .i64 110, .int .i64 160, .int .i64 2, .int .i64 500, .int .i64 0, .int .i64 0, .int .i64 3, .int .i64 0, .int .i64 0, .int .i64 200] 34 (0, 0))) := ⟨by rw [hw]; exact blk_rowfar _ BL.out NE_BL_BR.out⟩; clear BL; have BL := n_BL; clear n_BL; have n_BN : Aside0 (w1_.heap[g_BN]? = some (.cells #[.int .i64 3, .int .i64 100, .int .i64 (-1), .int .i64 2000, .int .i64 0, .int .i64 0, .int .i64 2, .int .i64 0, .int .i64 0, .int .i64 0, .int .i64 0, .int .i64 0, .int .i64 0, .int .i64 0, .int .i64 0] 23 (0, 0))) := ⟨by rw [hw]; exact blk_rowfar _ BN.out NE_BN_BR.out⟩; clear BN; have BN := n_BN; clear n_BN; have n_H : Aside0 (Below w.heap.size w w1_) := ⟨by rw [hw]; exact below_setRow HB.out GE_BR.out _⟩; clear HB; have HB := n_H; clear n_H hw))
        go_roundw
        case rel => exact ⟨2, by omega, rfl, rfl, ⟨BR.out⟩, BL, HB⟩
        case measure => simp [intOf]
      · refine box_step ?hg (N := 5) ?hd (cs := #[.int .i64 0, .int .i64 0, .int .i64 0, .int .i64 0, .int .i64 0, .int .i64 0, .int .i64 0, .int .i64 0, .int .i64 0, .int .i64 0, .int .i64 0, .int .i64 0, .int .i64 0, .int .i64 0, .int .i64 0]) (t := 23) ?hr ?_
        (case hd => rfl)
        (case hg => rfl)
        (case hr => first | (go_simp; done) | (go_simp; rfl))
        intro g_BN hg W2 hbox hb
        have NE_BR_BN : Aside0 (g_BR ≠ g_BN) := ⟨by rw [hg]; exact Nat.ne_of_lt (blk_lt BR.out)⟩
        have NE_BN_BR : Aside0 (g_BN ≠ g_BR) := ⟨fun e_ => NE_BR_BN.out e_.symm⟩
        have NE_BL_BN : Aside0 (g_BL ≠ g_BN) := ⟨by rw [hg]; exact Nat.ne_of_lt (blk_lt BL.out)⟩
        have NE_BN_BL : Aside0 (g_BN ≠ g_BL) := ⟨fun e_ => NE_BL_BN.out e_.symm⟩
        have GE_BN : Aside0 (w.heap.size ≤ g_BN) := ⟨by rw [hg]; exact below_size HB.out⟩
        have n_BR := Aside0.mk (blk_below BR.out hb)
        clear BR
        have BR := n_BR
        clear n_BR
        have n_BL := Aside0.mk (blk_below BL.out hb)
        clear BL
        have BL := n_BL
        clear n_BL
        have n_H := Aside0.mk (below_step HB.out hb)
        clear HB
        have HB := n_H
        clear n_H
        have BN := Aside0.mk hbox
        clear hbox hb hg
        refine hK.out _ _ ⟨(blk_cell BR.out 0).trans rfl, (blk_cell BR.out 1).trans rfl, (blk_cell BR.out 2).trans rfl, (blk_cell BR.out 3).trans rfl, (blk_cell BR.out 4).trans rfl, (blk_cell BR.out 5).trans rfl, (blk_cell BR.out 6).trans rfl, (blk_cell BR.out 7).trans rfl, (blk_cell BR.out 8).trans rfl, (blk_cell BR.out 9).trans rfl, (blk_cell BR.out 10).trans rfl, (blk_cell BR.out 11).trans rfl, (blk_cell BR.out 12).trans rfl, (blk_cell BR.out 13).trans rfl, (blk_cell BR.out 14).trans rfl, (blk_cell BL.out 4).trans rfl, (blk_cell BL.out 5).trans rfl, (blk_cell BL.out 6).trans rfl, (blk_cell BL.out 7).trans rfl⟩ (fun hHeld => ?_)
        clear hK K
        refine norm_ (a' := ?_) ?_ ?_
        rotate_left
        · show Act.put _ (some 5) _ = _
          simp only [Act.put, List.setIfInBounds_toArray, List.set_cons_zero, List.set_cons_succ, i64_w, i32_w]
          rfl
        refine one_ (i := 5) (N := (some 35)) #[true, true, true, true, true, true, false, false, false, true, false, false] rfl rfl (by kernel_rfl) (by decide) (fun K hK => ?_)
        refine goes_ Try.func22 (by kernel_rfl) rfl #[.agg #[.int .i64 3, .int .i64 100, .int .i64 (-1), .int .i64 1500, .int .i64 0, .int .i64 0, .int .i64 1, .int .i64 0, .int .i64 0, .int .i64 0, .int .i64 0, .int .i64 0, .int .i64 0, .int .i64 0, .int .i64 0], .agg #[.int .i64 0, .int .i64 500, .int .i64 0, .int .i64 0]] (by rfl) rfl rfl (by (try simp only [List.map_toArray, List.map_cons, List.map_nil]); first | done | rfl) ?_
        refine (done_v ⟨3, 100, (-1), 1500, 0, 0, 1, 0, 0, 0, 0, 0, 0, 0, 0⟩ 0 500 0 0 ⟨3, 100, (-1), 2000, 0, 0, 2, 0, 0, 0, 0, 0, 0, 0, 0⟩ 0 _ doc1).mono ?_
        rintro e W1 ⟨rfl, hb⟩
        refine ⟨_, rfl, ?_⟩
        have n_BR := Aside0.mk (blk_below BR.out hb)
        clear BR
        have BR := n_BR
        clear n_BR
        have n_BL := Aside0.mk (blk_below BL.out hb)
        clear BL
        have BL := n_BL
        clear n_BL
        have n_BN := Aside0.mk (blk_below BN.out hb)
        clear BN
        have BN := n_BN
        clear n_BN
        have n_H := Aside0.mk (below_step HB.out hb)
        clear HB hb
        have HB := n_H
        clear n_H
        refine hK.out _ _ ⟨(blk_cell BR.out 0).trans rfl, (blk_cell BR.out 1).trans rfl, (blk_cell BR.out 2).trans rfl, (blk_cell BR.out 3).trans rfl, (blk_cell BR.out 4).trans rfl, (blk_cell BR.out 5).trans rfl, (blk_cell BR.out 6).trans rfl, (blk_cell BR.out 7).trans rfl, (blk_cell BR.out 8).trans rfl, (blk_cell BR.out 9).trans rfl, (blk_cell BR.out 10).trans rfl, (blk_cell BR.out 11).trans rfl, (blk_cell BR.out 12).trans rfl, (blk_cell BR.out 13).trans rfl, (blk_cell BR.out 14).trans rfl, (blk_cell BL.out 4).trans rfl, (blk_cell BL.out 5).trans rfl, (blk_cell BL.out 6).trans rfl, (blk_cell BL.out 7).trans rfl⟩ (fun hHeld => ?_)
        clear hK K
        refine norm_ (a' := ?_) ?_ ?_
        rotate_left
        · show Act.put _ (some 35) _ = _
          simp only [Act.put, List.setIfInBounds_toArray, List.set_cons_zero, List.set_cons_succ, i64_w, i32_w]
          rfl
        refine pure_ (i := 6) (N := (some 29)) (v := ?_) (a' := ?_) #[true, true, true, true, true, true, true, false, false, true, false, false] rfl rfl (by kernel_rfl) (fun _ _ _ h => h) (Or.inl ⟨by rfl, ?_⟩) ?_ ?_
        rotate_left
        · intro w'
          go_simp
          with_reducible rfl
        rotate_left
        · simp only [Act.put, List.setIfInBounds_toArray, List.set_cons_zero, List.set_cons_succ, i64_w, i32_w]
          rfl
        refine pure_ (i := 7) (N := (some 36)) (v := ?_) (a' := ?_) #[true, true, true, true, true, true, true, true, false, true, false, false] rfl rfl (by kernel_rfl) (fun _ _ _ h => h) (Or.inl ⟨by rfl, ?_⟩) ?_ ?_
        rotate_left
        · intro w'
          go_simp
          with_reducible rfl
        rotate_left
        · simp only [Act.put, List.setIfInBounds_toArray, List.set_cons_zero, List.set_cons_succ, i64_w, i32_w]
          rfl
        refine pure_ (i := 8) (N := (some 37)) (v := ?_) (a' := ?_) #[true, true, true, true, true, true, true, true, true, true, false, false] rfl rfl (by kernel_rfl) (fun _ _ _ h => h) (Or.inl ⟨by rfl, ?_⟩) ?_ ?_
        rotate_left
        · intro w'
          go_simp
          with_reducible rfl
        rotate_left
        · simp only [Act.put, List.setIfInBounds_toArray, List.set_cons_zero, List.set_cons_succ, i64_w, i32_w]
          rfl
        refine last_ (i := 10) (N := none) #[true, true, true, true, true, true, true, true, true, true, true, false] rfl rfl (by kernel_rfl) (by decide) (fun K hK => ?_)
        refine skip_ (w1 := W1.setRow g_BN #[.int .i64 3, .int .i64 100, .int .i64 (-1), .int .i64 2000, .int .i64 0, .int .i64 0, .int .i64 2, .int .i64 0, .int .i64 0, .int .i64 0, .int .i64 0, .int .i64 0, .int .i64 0, .int .i64 0, .int .i64 0]) (by rfl) rfl (run_store_row 23 _ _ _ _ rfl rfl rfl BN.out (by kernel_rfl) rfl (by kernel_rfl)) ?_
        refine hK.out _ _ ?_
        clear hK K hHeld
        have n_BN := Aside0.mk (blk_row #[.int .i64 3, .int .i64 100, .int .i64 (-1), .int .i64 2000, .int .i64 0, .int .i64 0, .int .i64 2, .int .i64 0, .int .i64 0, .int .i64 0, .int .i64 0, .int .i64 0, .int .i64 0, .int .i64 0, .int .i64 0] BN.out)
        have n_BR := Aside0.mk (blk_rowfar #[.int .i64 3, .int .i64 100, .int .i64 (-1), .int .i64 2000, .int .i64 0, .int .i64 0, .int .i64 2, .int .i64 0, .int .i64 0, .int .i64 0, .int .i64 0, .int .i64 0, .int .i64 0, .int .i64 0, .int .i64 0] BR.out NE_BR_BN.out)
        have n_BL := Aside0.mk (blk_rowfar #[.int .i64 3, .int .i64 100, .int .i64 (-1), .int .i64 2000, .int .i64 0, .int .i64 0, .int .i64 2, .int .i64 0, .int .i64 0, .int .i64 0, .int .i64 0, .int .i64 0, .int .i64 0, .int .i64 0, .int .i64 0] BL.out NE_BL_BN.out)
        have n_H := Aside0.mk (below_setRow HB.out GE_BN.out #[.int .i64 3, .int .i64 100, .int .i64 (-1), .int .i64 2000, .int .i64 0, .int .i64 0, .int .i64 2, .int .i64 0, .int .i64 0, .int .i64 0, .int .i64 0, .int .i64 0, .int .i64 0, .int .i64 0, .int .i64 0])
        clear BN BR BL HB
        have BN := n_BN
        have BR := n_BR
        have BL := n_BL
        have HB := n_H
        clear n_BN n_BR n_BL n_H
        generalize W1.setRow g_BN #[.int .i64 3, .int .i64 100, .int .i64 (-1), .int .i64 2000, .int .i64 0, .int .i64 0, .int .i64 2, .int .i64 0, .int .i64 0, .int .i64 0, .int .i64 0, .int .i64 0, .int .i64 0, .int .i64 0, .int .i64 0] = W3 at *
        refine pure_ (i := 11) (N := (some 6)) (v := ?_) (a' := ?_) #[true, true, true, true, true, true, true, true, true, true, true, true] rfl rfl (by kernel_rfl) (fun _ _ _ h => h) (Or.inl ⟨by rfl, ?_⟩) ?_ ?_
        rotate_left
        · intro w'
          go_simp
          with_reducible rfl
        rotate_left
        · simp only [Act.put, List.setIfInBounds_toArray, List.set_cons_zero, List.set_cons_succ, i64_w, i32_w]
          rfl
        refine done_ (by kernel_rfl) ?_
        go_wp2_with (first | ((with_reducible refine gate_dst (N := 38) rfl ?_); refine load_event 23 (.tmp 5) rfl rfl rfl BN.out Try.underlying23 rfl (by kernel_rfl) ?_) | ((with_reducible refine gate_store (t := 23) (p := 1) rfl ?_); refine store_event (t := 23) (p := 1) (v := .tmp 38) (w1 := W3.setRow g_BR #[.int .i64 3, .int .i64 100, .int .i64 (-1), .int .i64 2000, .int .i64 0, .int .i64 0, .int .i64 2, .int .i64 0, .int .i64 0, .int .i64 0, .int .i64 0, .int .i64 0, .int .i64 0, .int .i64 0, .int .i64 0]) ?hg ?ho ?hn ?hr ?_; (case ho => rfl); (case hg => rfl); (case hn => rfl); (case hr => exact run_store_row 23 _ _ _ _ rfl rfl rfl BR.out (by kernel_rfl) rfl (by kernel_rfl)); intro w1_ hw; have n_BR : Aside0 (w1_.heap[g_BR]? = some (.cells #[.int .i64 3, .int .i64 100, .int .i64 (-1), .int .i64 2000, .int .i64 0, .int .i64 0, .int .i64 2, .int .i64 0, .int .i64 0, .int .i64 0, .int .i64 0, .int .i64 0, .int .i64 0, .int .i64 0, .int .i64 0] 23 (0, 0))) := ⟨by rw [hw]; exact blk_row _ BR.out⟩; clear BR; have BR := n_BR; clear n_BR; have n_BL : Aside0 (w1_.heap[g_BL]? = some (.cells #[.int .i64 0, .int .i64 1500, .int .i64 0, .int .i64 0, .int .i64 0, .int .i64 500, .int .i64 0, .int .i64 0, .int .i64 1, .int .i64 1500, .int .i64 110, .int .i64 160, .int .i64 2, .int .i64 500, .int .i64 0, .int .i64 0, .int .i64 3, .int .i64 0, .int .i64 0, .int .i64 200] 34 (0, 0))) := ⟨by rw [hw]; exact blk_rowfar _ BL.out NE_BL_BR.out⟩; clear BL; have BL := n_BL; clear n_BL; have n_BN : Aside0 (w1_.heap[g_BN]? = some (.cells #[.int .i64 3, .int .i64 100, .int .i64 (-1), .int .i64 2000, .int .i64 0, .int .i64 0, .int .i64 2, .int .i64 0, .int .i64 0, .int .i64 0, .int .i64 0, .int .i64 0, .int .i64 0, .int .i64 0, .int .i64 0] 23 (0, 0))) := ⟨by rw [hw]; exact blk_rowfar _ BN.out NE_BN_BR.out⟩; clear BN; have BN := n_BN; clear n_BN; have n_H : Aside0 (Below w.heap.size w w1_) := ⟨by rw [hw]; exact below_setRow HB.out GE_BR.out _⟩; clear HB; have HB := n_H; clear n_H hw))
        go_roundw
        case rel => exact ⟨2, by omega, rfl, rfl, ⟨BR.out⟩, BL, HB⟩
        case measure => simp [intOf]
    · have n1_ : Aside0 (wr.heap[g_BR]? = some (.cells #[.int .i64 3, .int .i64 100, .int .i64 (-1), .int .i64 2000, .int .i64 0, .int .i64 0, .int .i64 2, .int .i64 0, .int .i64 0, .int .i64 0, .int .i64 0, .int .i64 0, .int .i64 0, .int .i64 0, .int .i64 0] 23 (0, 0))) := ⟨BR.out⟩
      clear BR
      have BR := n1_
      clear n1_
      go_wp2_with fail
      refine start_ (n := 12) (S := fun w' => w'.cell? ⟨g_BR, 0, none⟩ = some (.int .i64 3) ∧ w'.cell? ⟨g_BR, 1, none⟩ = some (.int .i64 100) ∧ w'.cell? ⟨g_BR, 2, none⟩ = some (.int .i64 (-1)) ∧ w'.cell? ⟨g_BR, 3, none⟩ = some (.int .i64 2000) ∧ w'.cell? ⟨g_BR, 4, none⟩ = some (.int .i64 0) ∧ w'.cell? ⟨g_BR, 5, none⟩ = some (.int .i64 0) ∧ w'.cell? ⟨g_BR, 6, none⟩ = some (.int .i64 2) ∧ w'.cell? ⟨g_BR, 7, none⟩ = some (.int .i64 0) ∧ w'.cell? ⟨g_BR, 8, none⟩ = some (.int .i64 0) ∧ w'.cell? ⟨g_BR, 9, none⟩ = some (.int .i64 0) ∧ w'.cell? ⟨g_BR, 10, none⟩ = some (.int .i64 0) ∧ w'.cell? ⟨g_BR, 11, none⟩ = some (.int .i64 0) ∧ w'.cell? ⟨g_BR, 12, none⟩ = some (.int .i64 0) ∧ w'.cell? ⟨g_BR, 13, none⟩ = some (.int .i64 0) ∧ w'.cell? ⟨g_BR, 14, none⟩ = some (.int .i64 0) ∧ w'.cell? ⟨g_BL, 8, none⟩ = some (.int .i64 1) ∧ w'.cell? ⟨g_BL, 9, none⟩ = some (.int .i64 1500) ∧ w'.cell? ⟨g_BL, 10, none⟩ = some (.int .i64 110) ∧ w'.cell? ⟨g_BL, 11, none⟩ = some (.int .i64 160)) (ds := [10]) #[false, false, false, false, false, false, false, false, false, false, false, false] (by kernel_rfl) rfl rfl ⟨(blk_cell BR.out 0).trans rfl, (blk_cell BR.out 1).trans rfl, (blk_cell BR.out 2).trans rfl, (blk_cell BR.out 3).trans rfl, (blk_cell BR.out 4).trans rfl, (blk_cell BR.out 5).trans rfl, (blk_cell BR.out 6).trans rfl, (blk_cell BR.out 7).trans rfl, (blk_cell BR.out 8).trans rfl, (blk_cell BR.out 9).trans rfl, (blk_cell BR.out 10).trans rfl, (blk_cell BR.out 11).trans rfl, (blk_cell BR.out 12).trans rfl, (blk_cell BR.out 13).trans rfl, (blk_cell BR.out 14).trans rfl, (blk_cell BL.out 8).trans rfl, (blk_cell BL.out 9).trans rfl, (blk_cell BL.out 10).trans rfl, (blk_cell BL.out 11).trans rfl⟩ (fun hHeld => ?_)
      replace BR := Aside0.mk (blk_drew BR.out)
      replace BL := Aside0.mk (blk_drew BL.out)
      replace HB := Aside0.mk (below_drew1 HB.out)
      generalize wr.drew = W0 at BR BL HB hHeld ⊢
      refine pure_ (i := 1) (N := (some 31)) (v := ?_) (a' := ?_) #[false, true, false, false, false, false, false, false, false, false, false, false] rfl rfl (by kernel_rfl) (fun _ _ _ h => h) (Or.inl ⟨by rfl, ?_⟩) ?_ ?_
      rotate_left
      · intro w'
        go_simp
        with_reducible rfl
      rotate_left
      · simp only [Act.put, List.setIfInBounds_toArray, List.set_cons_zero, List.set_cons_succ, i64_w, i32_w]
        rfl
      refine pure_ (i := 2) (N := (some 32)) (v := ?_) (a' := ?_) #[false, true, true, false, false, false, false, false, false, false, false, false] rfl rfl (by kernel_rfl) (fun _ _ _ h => h) (Or.inl ⟨by rfl, ?_⟩) ?_ ?_
      rotate_left
      · intro w'
        go_simp
        with_reducible rfl
      rotate_left
      · simp only [Act.put, List.setIfInBounds_toArray, List.set_cons_zero, List.set_cons_succ, i64_w, i32_w]
        rfl
      refine pure_ (i := 3) (N := (some 33)) (v := ?_) (a' := ?_) #[false, true, true, true, false, false, false, false, false, false, false, false] rfl rfl (by kernel_rfl) (fun _ _ _ h => h) (Or.inl ⟨by rfl, ?_⟩) ?_ ?_
      rotate_left
      · intro w'
        go_simp
        with_reducible rfl
      rotate_left
      · simp only [Act.put, List.setIfInBounds_toArray, List.set_cons_zero, List.set_cons_succ, i64_w, i32_w]
        rfl
      refine take_ (i := 0) (N := (some 30)) (v := ?_) (a' := ?_) #[true, true, true, true, false, false, false, false, false, false, false, false] rfl rfl (by kernel_rfl) (fun _ _ _ h => h) (Or.inl ⟨by rfl, ?_⟩) hHeld ?_ ?_
      rotate_left
      · rintro w' ⟨s0, s1, s2, s3, s4, s5, s6, s7, s8, s9, s10, s11, s12, s13, s14, s15, s16, s17, s18⟩
        go_simp
        with_reducible rfl
      rotate_left
      · simp only [Act.put, List.setIfInBounds_toArray, List.set_cons_zero, List.set_cons_succ, i64_w, i32_w]
        rfl
      refine take_ (i := 4) (N := (some 34)) (v := ?_) (a' := ?_) #[true, true, true, true, true, false, false, false, false, false, false, false] rfl rfl (by kernel_rfl) (fun _ _ _ h => h) (Or.inl ⟨by rfl, ?_⟩) hHeld ?_ ?_
      rotate_left
      · rintro w' ⟨s0, s1, s2, s3, s4, s5, s6, s7, s8, s9, s10, s11, s12, s13, s14, s15, s16, s17, s18⟩
        go_simp
        with_reducible rfl
      rotate_left
      · simp only [Act.put, List.setIfInBounds_toArray, List.set_cons_zero, List.set_cons_succ, i64_w, i32_w]
        rfl
      refine two_ (i := 5) (j := 9) (Ni := some 35) (Nj := some 5) #[true, true, true, true, true, true, false, false, false, false, false, false] #[true, true, true, true, true, false, false, false, false, true, false, false] rfl rfl rfl rfl (by kernel_rfl) (by decide) (by decide) (fun K hK => ?_) (fun K hK => ?_)
      · refine goes_ Try.func22 (by kernel_rfl) rfl #[.agg #[.int .i64 3, .int .i64 100, .int .i64 (-1), .int .i64 2000, .int .i64 0, .int .i64 0, .int .i64 2, .int .i64 0, .int .i64 0, .int .i64 0, .int .i64 0, .int .i64 0, .int .i64 0, .int .i64 0, .int .i64 0], .agg #[.int .i64 1, .int .i64 1500, .int .i64 110, .int .i64 160]] (by rfl) rfl rfl (by (try simp only [List.map_toArray, List.map_cons, List.map_nil]); first | done | rfl) ?_
        refine (done_v ⟨3, 100, (-1), 2000, 0, 0, 2, 0, 0, 0, 0, 0, 0, 0, 0⟩ 1 1500 110 160 ⟨3, 100, (-1), 2000, 1500, 0, 2, 1, 0, 1, 10, 50, 100, 500, 2500⟩ 0 _ doc2).mono ?_
        rintro e W1 ⟨rfl, hb⟩
        refine ⟨_, rfl, ?_⟩
        have n_BR := Aside0.mk (blk_below BR.out hb)
        clear BR
        have BR := n_BR
        clear n_BR
        have n_BL := Aside0.mk (blk_below BL.out hb)
        clear BL
        have BL := n_BL
        clear n_BL
        have n_H := Aside0.mk (below_step HB.out hb)
        clear HB hb
        have HB := n_H
        clear n_H
        refine hK.out _ _ ⟨(blk_cell BR.out 0).trans rfl, (blk_cell BR.out 1).trans rfl, (blk_cell BR.out 2).trans rfl, (blk_cell BR.out 3).trans rfl, (blk_cell BR.out 4).trans rfl, (blk_cell BR.out 5).trans rfl, (blk_cell BR.out 6).trans rfl, (blk_cell BR.out 7).trans rfl, (blk_cell BR.out 8).trans rfl, (blk_cell BR.out 9).trans rfl, (blk_cell BR.out 10).trans rfl, (blk_cell BR.out 11).trans rfl, (blk_cell BR.out 12).trans rfl, (blk_cell BR.out 13).trans rfl, (blk_cell BR.out 14).trans rfl, (blk_cell BL.out 8).trans rfl, (blk_cell BL.out 9).trans rfl, (blk_cell BL.out 10).trans rfl, (blk_cell BL.out 11).trans rfl⟩ (fun hHeld => ?_)
        clear hK K
        refine norm_ (a' := ?_) ?_ ?_
        rotate_left
        · show Act.put _ (some 35) _ = _
          simp only [Act.put, List.setIfInBounds_toArray, List.set_cons_zero, List.set_cons_succ, i64_w, i32_w]
          rfl
        refine pure_ (i := 6) (N := (some 29)) (v := ?_) (a' := ?_) #[true, true, true, true, true, true, true, false, false, false, false, false] rfl rfl (by kernel_rfl) (fun _ _ _ h => h) (Or.inl ⟨by rfl, ?_⟩) ?_ ?_
        rotate_left
        · intro w'
          go_simp
          with_reducible rfl
        rotate_left
        · simp only [Act.put, List.setIfInBounds_toArray, List.set_cons_zero, List.set_cons_succ, i64_w, i32_w]
          rfl
        refine pure_ (i := 7) (N := (some 36)) (v := ?_) (a' := ?_) #[true, true, true, true, true, true, true, true, false, false, false, false] rfl rfl (by kernel_rfl) (fun _ _ _ h => h) (Or.inl ⟨by rfl, ?_⟩) ?_ ?_
        rotate_left
        · intro w'
          go_simp
          with_reducible rfl
        rotate_left
        · simp only [Act.put, List.setIfInBounds_toArray, List.set_cons_zero, List.set_cons_succ, i64_w, i32_w]
          rfl
        refine pure_ (i := 8) (N := (some 37)) (v := ?_) (a' := ?_) #[true, true, true, true, true, true, true, true, true, false, false, false] rfl rfl (by kernel_rfl) (fun _ _ _ h => h) (Or.inl ⟨by rfl, ?_⟩) ?_ ?_
        rotate_left
        · intro w'
          go_simp
          with_reducible rfl
        rotate_left
        · simp only [Act.put, List.setIfInBounds_toArray, List.set_cons_zero, List.set_cons_succ, i64_w, i32_w]
          rfl
        refine one_ (i := 9) (N := (some 5)) #[true, true, true, true, true, true, true, true, true, true, false, false] rfl rfl (by kernel_rfl) (by decide) (fun K hK => ?_)
        refine box_step ?hg (N := 5) ?hd (cs := #[.int .i64 0, .int .i64 0, .int .i64 0, .int .i64 0, .int .i64 0, .int .i64 0, .int .i64 0, .int .i64 0, .int .i64 0, .int .i64 0, .int .i64 0, .int .i64 0, .int .i64 0, .int .i64 0, .int .i64 0]) (t := 23) ?hr ?_
        (case hd => rfl)
        (case hg => rfl)
        (case hr => first | (go_simp; done) | (go_simp; rfl))
        intro g_BN hg W2 hbox hb
        have NE_BR_BN : Aside0 (g_BR ≠ g_BN) := ⟨by rw [hg]; exact Nat.ne_of_lt (blk_lt BR.out)⟩
        have NE_BN_BR : Aside0 (g_BN ≠ g_BR) := ⟨fun e_ => NE_BR_BN.out e_.symm⟩
        have NE_BL_BN : Aside0 (g_BL ≠ g_BN) := ⟨by rw [hg]; exact Nat.ne_of_lt (blk_lt BL.out)⟩
        have NE_BN_BL : Aside0 (g_BN ≠ g_BL) := ⟨fun e_ => NE_BL_BN.out e_.symm⟩
        have GE_BN : Aside0 (w.heap.size ≤ g_BN) := ⟨by rw [hg]; exact below_size HB.out⟩
        have n_BR := Aside0.mk (blk_below BR.out hb)
        clear BR
        have BR := n_BR
        clear n_BR
        have n_BL := Aside0.mk (blk_below BL.out hb)
        clear BL
        have BL := n_BL
        clear n_BL
        have n_H := Aside0.mk (below_step HB.out hb)
        clear HB
        have HB := n_H
        clear n_H
        have BN := Aside0.mk hbox
        clear hbox hb hg
        refine hK.out _ _ ⟨(blk_cell BR.out 0).trans rfl, (blk_cell BR.out 1).trans rfl, (blk_cell BR.out 2).trans rfl, (blk_cell BR.out 3).trans rfl, (blk_cell BR.out 4).trans rfl, (blk_cell BR.out 5).trans rfl, (blk_cell BR.out 6).trans rfl, (blk_cell BR.out 7).trans rfl, (blk_cell BR.out 8).trans rfl, (blk_cell BR.out 9).trans rfl, (blk_cell BR.out 10).trans rfl, (blk_cell BR.out 11).trans rfl, (blk_cell BR.out 12).trans rfl, (blk_cell BR.out 13).trans rfl, (blk_cell BR.out 14).trans rfl, (blk_cell BL.out 8).trans rfl, (blk_cell BL.out 9).trans rfl, (blk_cell BL.out 10).trans rfl, (blk_cell BL.out 11).trans rfl⟩ (fun hHeld => ?_)
        clear hK K
        refine norm_ (a' := ?_) ?_ ?_
        rotate_left
        · show Act.put _ (some 5) _ = _
          simp only [Act.put, List.setIfInBounds_toArray, List.set_cons_zero, List.set_cons_succ, i64_w, i32_w]
          rfl
        refine last_ (i := 10) (N := none) #[true, true, true, true, true, true, true, true, true, true, true, false] rfl rfl (by kernel_rfl) (by decide) (fun K hK => ?_)
        refine skip_ (w1 := W2.setRow g_BN #[.int .i64 3, .int .i64 100, .int .i64 (-1), .int .i64 2000, .int .i64 1500, .int .i64 0, .int .i64 2, .int .i64 1, .int .i64 0, .int .i64 1, .int .i64 10, .int .i64 50, .int .i64 100, .int .i64 500, .int .i64 2500]) (by rfl) rfl (run_store_row 23 _ _ _ _ rfl rfl rfl BN.out (by kernel_rfl) rfl (by kernel_rfl)) ?_
        refine hK.out _ _ ?_
        clear hK K hHeld
        have n_BN := Aside0.mk (blk_row #[.int .i64 3, .int .i64 100, .int .i64 (-1), .int .i64 2000, .int .i64 1500, .int .i64 0, .int .i64 2, .int .i64 1, .int .i64 0, .int .i64 1, .int .i64 10, .int .i64 50, .int .i64 100, .int .i64 500, .int .i64 2500] BN.out)
        have n_BR := Aside0.mk (blk_rowfar #[.int .i64 3, .int .i64 100, .int .i64 (-1), .int .i64 2000, .int .i64 1500, .int .i64 0, .int .i64 2, .int .i64 1, .int .i64 0, .int .i64 1, .int .i64 10, .int .i64 50, .int .i64 100, .int .i64 500, .int .i64 2500] BR.out NE_BR_BN.out)
        have n_BL := Aside0.mk (blk_rowfar #[.int .i64 3, .int .i64 100, .int .i64 (-1), .int .i64 2000, .int .i64 1500, .int .i64 0, .int .i64 2, .int .i64 1, .int .i64 0, .int .i64 1, .int .i64 10, .int .i64 50, .int .i64 100, .int .i64 500, .int .i64 2500] BL.out NE_BL_BN.out)
        have n_H := Aside0.mk (below_setRow HB.out GE_BN.out #[.int .i64 3, .int .i64 100, .int .i64 (-1), .int .i64 2000, .int .i64 1500, .int .i64 0, .int .i64 2, .int .i64 1, .int .i64 0, .int .i64 1, .int .i64 10, .int .i64 50, .int .i64 100, .int .i64 500, .int .i64 2500])
        clear BN BR BL HB
        have BN := n_BN
        have BR := n_BR
        have BL := n_BL
        have HB := n_H
        clear n_BN n_BR n_BL n_H
        generalize W2.setRow g_BN #[.int .i64 3, .int .i64 100, .int .i64 (-1), .int .i64 2000, .int .i64 1500, .int .i64 0, .int .i64 2, .int .i64 1, .int .i64 0, .int .i64 1, .int .i64 10, .int .i64 50, .int .i64 100, .int .i64 500, .int .i64 2500] = W3 at *
        refine pure_ (i := 11) (N := (some 6)) (v := ?_) (a' := ?_) #[true, true, true, true, true, true, true, true, true, true, true, true] rfl rfl (by kernel_rfl) (fun _ _ _ h => h) (Or.inl ⟨by rfl, ?_⟩) ?_ ?_
        rotate_left
        · intro w'
          go_simp
          with_reducible rfl
        rotate_left
        · simp only [Act.put, List.setIfInBounds_toArray, List.set_cons_zero, List.set_cons_succ, i64_w, i32_w]
          rfl
        refine done_ (by kernel_rfl) ?_
        go_wp2_with (first | ((with_reducible refine gate_dst (N := 38) rfl ?_); refine load_event 23 (.tmp 5) rfl rfl rfl BN.out Try.underlying23 rfl (by kernel_rfl) ?_) | ((with_reducible refine gate_store (t := 23) (p := 1) rfl ?_); refine store_event (t := 23) (p := 1) (v := .tmp 38) (w1 := W3.setRow g_BR #[.int .i64 3, .int .i64 100, .int .i64 (-1), .int .i64 2000, .int .i64 1500, .int .i64 0, .int .i64 2, .int .i64 1, .int .i64 0, .int .i64 1, .int .i64 10, .int .i64 50, .int .i64 100, .int .i64 500, .int .i64 2500]) ?hg ?ho ?hn ?hr ?_; (case ho => rfl); (case hg => rfl); (case hn => rfl); (case hr => exact run_store_row 23 _ _ _ _ rfl rfl rfl BR.out (by kernel_rfl) rfl (by kernel_rfl)); intro w1_ hw; have n_BR : Aside0 (w1_.heap[g_BR]? = some (.cells #[.int .i64 3, .int .i64 100, .int .i64 (-1), .int .i64 2000, .int .i64 1500, .int .i64 0, .int .i64 2, .int .i64 1, .int .i64 0, .int .i64 1, .int .i64 10, .int .i64 50, .int .i64 100, .int .i64 500, .int .i64 2500] 23 (0, 0))) := ⟨by rw [hw]; exact blk_row _ BR.out⟩; clear BR; have BR := n_BR; clear n_BR; have n_BL : Aside0 (w1_.heap[g_BL]? = some (.cells #[.int .i64 0, .int .i64 1500, .int .i64 0, .int .i64 0, .int .i64 0, .int .i64 500, .int .i64 0, .int .i64 0, .int .i64 1, .int .i64 1500, .int .i64 110, .int .i64 160, .int .i64 2, .int .i64 500, .int .i64 0, .int .i64 0, .int .i64 3, .int .i64 0, .int .i64 0, .int .i64 200] 34 (0, 0))) := ⟨by rw [hw]; exact blk_rowfar _ BL.out NE_BL_BR.out⟩; clear BL; have BL := n_BL; clear n_BL; have n_BN : Aside0 (w1_.heap[g_BN]? = some (.cells #[.int .i64 3, .int .i64 100, .int .i64 (-1), .int .i64 2000, .int .i64 1500, .int .i64 0, .int .i64 2, .int .i64 1, .int .i64 0, .int .i64 1, .int .i64 10, .int .i64 50, .int .i64 100, .int .i64 500, .int .i64 2500] 23 (0, 0))) := ⟨by rw [hw]; exact blk_rowfar _ BN.out NE_BN_BR.out⟩; clear BN; have BN := n_BN; clear n_BN; have n_H : Aside0 (Below w.heap.size w w1_) := ⟨by rw [hw]; exact below_setRow HB.out GE_BR.out _⟩; clear HB; have HB := n_H; clear n_H hw))
        go_roundw
        case rel => exact ⟨3, by omega, rfl, rfl, ⟨BR.out⟩, BL, HB⟩
        case measure => simp [intOf]
      · refine box_step ?hg (N := 5) ?hd (cs := #[.int .i64 0, .int .i64 0, .int .i64 0, .int .i64 0, .int .i64 0, .int .i64 0, .int .i64 0, .int .i64 0, .int .i64 0, .int .i64 0, .int .i64 0, .int .i64 0, .int .i64 0, .int .i64 0, .int .i64 0]) (t := 23) ?hr ?_
        (case hd => rfl)
        (case hg => rfl)
        (case hr => first | (go_simp; done) | (go_simp; rfl))
        intro g_BN hg W2 hbox hb
        have NE_BR_BN : Aside0 (g_BR ≠ g_BN) := ⟨by rw [hg]; exact Nat.ne_of_lt (blk_lt BR.out)⟩
        have NE_BN_BR : Aside0 (g_BN ≠ g_BR) := ⟨fun e_ => NE_BR_BN.out e_.symm⟩
        have NE_BL_BN : Aside0 (g_BL ≠ g_BN) := ⟨by rw [hg]; exact Nat.ne_of_lt (blk_lt BL.out)⟩
        have NE_BN_BL : Aside0 (g_BN ≠ g_BL) := ⟨fun e_ => NE_BL_BN.out e_.symm⟩
        have GE_BN : Aside0 (w.heap.size ≤ g_BN) := ⟨by rw [hg]; exact below_size HB.out⟩
        have n_BR := Aside0.mk (blk_below BR.out hb)
        clear BR
        have BR := n_BR
        clear n_BR
        have n_BL := Aside0.mk (blk_below BL.out hb)
        clear BL
        have BL := n_BL
        clear n_BL
        have n_H := Aside0.mk (below_step HB.out hb)
        clear HB
        have HB := n_H
        clear n_H
        have BN := Aside0.mk hbox
        clear hbox hb hg
        refine hK.out _ _ ⟨(blk_cell BR.out 0).trans rfl, (blk_cell BR.out 1).trans rfl, (blk_cell BR.out 2).trans rfl, (blk_cell BR.out 3).trans rfl, (blk_cell BR.out 4).trans rfl, (blk_cell BR.out 5).trans rfl, (blk_cell BR.out 6).trans rfl, (blk_cell BR.out 7).trans rfl, (blk_cell BR.out 8).trans rfl, (blk_cell BR.out 9).trans rfl, (blk_cell BR.out 10).trans rfl, (blk_cell BR.out 11).trans rfl, (blk_cell BR.out 12).trans rfl, (blk_cell BR.out 13).trans rfl, (blk_cell BR.out 14).trans rfl, (blk_cell BL.out 8).trans rfl, (blk_cell BL.out 9).trans rfl, (blk_cell BL.out 10).trans rfl, (blk_cell BL.out 11).trans rfl⟩ (fun hHeld => ?_)
        clear hK K
        refine norm_ (a' := ?_) ?_ ?_
        rotate_left
        · show Act.put _ (some 5) _ = _
          simp only [Act.put, List.setIfInBounds_toArray, List.set_cons_zero, List.set_cons_succ, i64_w, i32_w]
          rfl
        refine one_ (i := 5) (N := (some 35)) #[true, true, true, true, true, true, false, false, false, true, false, false] rfl rfl (by kernel_rfl) (by decide) (fun K hK => ?_)
        refine goes_ Try.func22 (by kernel_rfl) rfl #[.agg #[.int .i64 3, .int .i64 100, .int .i64 (-1), .int .i64 2000, .int .i64 0, .int .i64 0, .int .i64 2, .int .i64 0, .int .i64 0, .int .i64 0, .int .i64 0, .int .i64 0, .int .i64 0, .int .i64 0, .int .i64 0], .agg #[.int .i64 1, .int .i64 1500, .int .i64 110, .int .i64 160]] (by rfl) rfl rfl (by (try simp only [List.map_toArray, List.map_cons, List.map_nil]); first | done | rfl) ?_
        refine (done_v ⟨3, 100, (-1), 2000, 0, 0, 2, 0, 0, 0, 0, 0, 0, 0, 0⟩ 1 1500 110 160 ⟨3, 100, (-1), 2000, 1500, 0, 2, 1, 0, 1, 10, 50, 100, 500, 2500⟩ 0 _ doc2).mono ?_
        rintro e W1 ⟨rfl, hb⟩
        refine ⟨_, rfl, ?_⟩
        have n_BR := Aside0.mk (blk_below BR.out hb)
        clear BR
        have BR := n_BR
        clear n_BR
        have n_BL := Aside0.mk (blk_below BL.out hb)
        clear BL
        have BL := n_BL
        clear n_BL
        have n_BN := Aside0.mk (blk_below BN.out hb)
        clear BN
        have BN := n_BN
        clear n_BN
        have n_H := Aside0.mk (below_step HB.out hb)
        clear HB hb
        have HB := n_H
        clear n_H
        refine hK.out _ _ ⟨(blk_cell BR.out 0).trans rfl, (blk_cell BR.out 1).trans rfl, (blk_cell BR.out 2).trans rfl, (blk_cell BR.out 3).trans rfl, (blk_cell BR.out 4).trans rfl, (blk_cell BR.out 5).trans rfl, (blk_cell BR.out 6).trans rfl, (blk_cell BR.out 7).trans rfl, (blk_cell BR.out 8).trans rfl, (blk_cell BR.out 9).trans rfl, (blk_cell BR.out 10).trans rfl, (blk_cell BR.out 11).trans rfl, (blk_cell BR.out 12).trans rfl, (blk_cell BR.out 13).trans rfl, (blk_cell BR.out 14).trans rfl, (blk_cell BL.out 8).trans rfl, (blk_cell BL.out 9).trans rfl, (blk_cell BL.out 10).trans rfl, (blk_cell BL.out 11).trans rfl⟩ (fun hHeld => ?_)
        clear hK K
        refine norm_ (a' := ?_) ?_ ?_
        rotate_left
        · show Act.put _ (some 35) _ = _
          simp only [Act.put, List.setIfInBounds_toArray, List.set_cons_zero, List.set_cons_succ, i64_w, i32_w]
          rfl
        refine pure_ (i := 6) (N := (some 29)) (v := ?_) (a' := ?_) #[true, true, true, true, true, true, true, false, false, true, false, false] rfl rfl (by kernel_rfl) (fun _ _ _ h => h) (Or.inl ⟨by rfl, ?_⟩) ?_ ?_
        rotate_left
        · intro w'
          go_simp
          with_reducible rfl
        rotate_left
        · simp only [Act.put, List.setIfInBounds_toArray, List.set_cons_zero, List.set_cons_succ, i64_w, i32_w]
          rfl
        refine pure_ (i := 7) (N := (some 36)) (v := ?_) (a' := ?_) #[true, true, true, true, true, true, true, true, false, true, false, false] rfl rfl (by kernel_rfl) (fun _ _ _ h => h) (Or.inl ⟨by rfl, ?_⟩) ?_ ?_
        rotate_left
        · intro w'
          go_simp
          with_reducible rfl
        rotate_left
        · simp only [Act.put, List.setIfInBounds_toArray, List.set_cons_zero, List.set_cons_succ, i64_w, i32_w]
          rfl
        refine pure_ (i := 8) (N := (some 37)) (v := ?_) (a' := ?_) #[true, true, true, true, true, true, true, true, true, true, false, false] rfl rfl (by kernel_rfl) (fun _ _ _ h => h) (Or.inl ⟨by rfl, ?_⟩) ?_ ?_
        rotate_left
        · intro w'
          go_simp
          with_reducible rfl
        rotate_left
        · simp only [Act.put, List.setIfInBounds_toArray, List.set_cons_zero, List.set_cons_succ, i64_w, i32_w]
          rfl
        refine last_ (i := 10) (N := none) #[true, true, true, true, true, true, true, true, true, true, true, false] rfl rfl (by kernel_rfl) (by decide) (fun K hK => ?_)
        refine skip_ (w1 := W1.setRow g_BN #[.int .i64 3, .int .i64 100, .int .i64 (-1), .int .i64 2000, .int .i64 1500, .int .i64 0, .int .i64 2, .int .i64 1, .int .i64 0, .int .i64 1, .int .i64 10, .int .i64 50, .int .i64 100, .int .i64 500, .int .i64 2500]) (by rfl) rfl (run_store_row 23 _ _ _ _ rfl rfl rfl BN.out (by kernel_rfl) rfl (by kernel_rfl)) ?_
        refine hK.out _ _ ?_
        clear hK K hHeld
        have n_BN := Aside0.mk (blk_row #[.int .i64 3, .int .i64 100, .int .i64 (-1), .int .i64 2000, .int .i64 1500, .int .i64 0, .int .i64 2, .int .i64 1, .int .i64 0, .int .i64 1, .int .i64 10, .int .i64 50, .int .i64 100, .int .i64 500, .int .i64 2500] BN.out)
        have n_BR := Aside0.mk (blk_rowfar #[.int .i64 3, .int .i64 100, .int .i64 (-1), .int .i64 2000, .int .i64 1500, .int .i64 0, .int .i64 2, .int .i64 1, .int .i64 0, .int .i64 1, .int .i64 10, .int .i64 50, .int .i64 100, .int .i64 500, .int .i64 2500] BR.out NE_BR_BN.out)
        have n_BL := Aside0.mk (blk_rowfar #[.int .i64 3, .int .i64 100, .int .i64 (-1), .int .i64 2000, .int .i64 1500, .int .i64 0, .int .i64 2, .int .i64 1, .int .i64 0, .int .i64 1, .int .i64 10, .int .i64 50, .int .i64 100, .int .i64 500, .int .i64 2500] BL.out NE_BL_BN.out)
        have n_H := Aside0.mk (below_setRow HB.out GE_BN.out #[.int .i64 3, .int .i64 100, .int .i64 (-1), .int .i64 2000, .int .i64 1500, .int .i64 0, .int .i64 2, .int .i64 1, .int .i64 0, .int .i64 1, .int .i64 10, .int .i64 50, .int .i64 100, .int .i64 500, .int .i64 2500])
        clear BN BR BL HB
        have BN := n_BN
        have BR := n_BR
        have BL := n_BL
        have HB := n_H
        clear n_BN n_BR n_BL n_H
        generalize W1.setRow g_BN #[.int .i64 3, .int .i64 100, .int .i64 (-1), .int .i64 2000, .int .i64 1500, .int .i64 0, .int .i64 2, .int .i64 1, .int .i64 0, .int .i64 1, .int .i64 10, .int .i64 50, .int .i64 100, .int .i64 500, .int .i64 2500] = W3 at *
        refine pure_ (i := 11) (N := (some 6)) (v := ?_) (a' := ?_) #[true, true, true, true, true, true, true, true, true, true, true, true] rfl rfl (by kernel_rfl) (fun _ _ _ h => h) (Or.inl ⟨by rfl, ?_⟩) ?_ ?_
        rotate_left
        · intro w'
          go_simp
          with_reducible rfl
        rotate_left
        · simp only [Act.put, List.setIfInBounds_toArray, List.set_cons_zero, List.set_cons_succ, i64_w, i32_w]
          rfl
        refine done_ (by kernel_rfl) ?_
        go_wp2_with (first | ((with_reducible refine gate_dst (N := 38) rfl ?_); refine load_event 23 (.tmp 5) rfl rfl rfl BN.out Try.underlying23 rfl (by kernel_rfl) ?_) | ((with_reducible refine gate_store (t := 23) (p := 1) rfl ?_); refine store_event (t := 23) (p := 1) (v := .tmp 38) (w1 := W3.setRow g_BR #[.int .i64 3, .int .i64 100, .int .i64 (-1), .int .i64 2000, .int .i64 1500, .int .i64 0, .int .i64 2, .int .i64 1, .int .i64 0, .int .i64 1, .int .i64 10, .int .i64 50, .int .i64 100, .int .i64 500, .int .i64 2500]) ?hg ?ho ?hn ?hr ?_; (case ho => rfl); (case hg => rfl); (case hn => rfl); (case hr => exact run_store_row 23 _ _ _ _ rfl rfl rfl BR.out (by kernel_rfl) rfl (by kernel_rfl)); intro w1_ hw; have n_BR : Aside0 (w1_.heap[g_BR]? = some (.cells #[.int .i64 3, .int .i64 100, .int .i64 (-1), .int .i64 2000, .int .i64 1500, .int .i64 0, .int .i64 2, .int .i64 1, .int .i64 0, .int .i64 1, .int .i64 10, .int .i64 50, .int .i64 100, .int .i64 500, .int .i64 2500] 23 (0, 0))) := ⟨by rw [hw]; exact blk_row _ BR.out⟩; clear BR; have BR := n_BR; clear n_BR; have n_BL : Aside0 (w1_.heap[g_BL]? = some (.cells #[.int .i64 0, .int .i64 1500, .int .i64 0, .int .i64 0, .int .i64 0, .int .i64 500, .int .i64 0, .int .i64 0, .int .i64 1, .int .i64 1500, .int .i64 110, .int .i64 160, .int .i64 2, .int .i64 500, .int .i64 0, .int .i64 0, .int .i64 3, .int .i64 0, .int .i64 0, .int .i64 200] 34 (0, 0))) := ⟨by rw [hw]; exact blk_rowfar _ BL.out NE_BL_BR.out⟩; clear BL; have BL := n_BL; clear n_BL; have n_BN : Aside0 (w1_.heap[g_BN]? = some (.cells #[.int .i64 3, .int .i64 100, .int .i64 (-1), .int .i64 2000, .int .i64 1500, .int .i64 0, .int .i64 2, .int .i64 1, .int .i64 0, .int .i64 1, .int .i64 10, .int .i64 50, .int .i64 100, .int .i64 500, .int .i64 2500] 23 (0, 0))) := ⟨by rw [hw]; exact blk_rowfar _ BN.out NE_BN_BR.out⟩; clear BN; have BN := n_BN; clear n_BN; have n_H : Aside0 (Below w.heap.size w w1_) := ⟨by rw [hw]; exact below_setRow HB.out GE_BR.out _⟩; clear HB; have HB := n_H; clear n_H hw))
        go_roundw
        case rel => exact ⟨3, by omega, rfl, rfl, ⟨BR.out⟩, BL, HB⟩
        case measure => simp [intOf]
    · have n1_ : Aside0 (wr.heap[g_BR]? = some (.cells #[.int .i64 3, .int .i64 100, .int .i64 (-1), .int .i64 2000, .int .i64 1500, .int .i64 0, .int .i64 2, .int .i64 1, .int .i64 0, .int .i64 1, .int .i64 10, .int .i64 50, .int .i64 100, .int .i64 500, .int .i64 2500] 23 (0, 0))) := ⟨BR.out⟩
      clear BR
      have BR := n1_
      clear n1_
      go_wp2_with fail
      refine start_ (n := 12) (S := fun w' => w'.cell? ⟨g_BR, 0, none⟩ = some (.int .i64 3) ∧ w'.cell? ⟨g_BR, 1, none⟩ = some (.int .i64 100) ∧ w'.cell? ⟨g_BR, 2, none⟩ = some (.int .i64 (-1)) ∧ w'.cell? ⟨g_BR, 3, none⟩ = some (.int .i64 2000) ∧ w'.cell? ⟨g_BR, 4, none⟩ = some (.int .i64 1500) ∧ w'.cell? ⟨g_BR, 5, none⟩ = some (.int .i64 0) ∧ w'.cell? ⟨g_BR, 6, none⟩ = some (.int .i64 2) ∧ w'.cell? ⟨g_BR, 7, none⟩ = some (.int .i64 1) ∧ w'.cell? ⟨g_BR, 8, none⟩ = some (.int .i64 0) ∧ w'.cell? ⟨g_BR, 9, none⟩ = some (.int .i64 1) ∧ w'.cell? ⟨g_BR, 10, none⟩ = some (.int .i64 10) ∧ w'.cell? ⟨g_BR, 11, none⟩ = some (.int .i64 50) ∧ w'.cell? ⟨g_BR, 12, none⟩ = some (.int .i64 100) ∧ w'.cell? ⟨g_BR, 13, none⟩ = some (.int .i64 500) ∧ w'.cell? ⟨g_BR, 14, none⟩ = some (.int .i64 2500) ∧ w'.cell? ⟨g_BL, 12, none⟩ = some (.int .i64 2) ∧ w'.cell? ⟨g_BL, 13, none⟩ = some (.int .i64 500) ∧ w'.cell? ⟨g_BL, 14, none⟩ = some (.int .i64 0) ∧ w'.cell? ⟨g_BL, 15, none⟩ = some (.int .i64 0)) (ds := [10]) #[false, false, false, false, false, false, false, false, false, false, false, false] (by kernel_rfl) rfl rfl ⟨(blk_cell BR.out 0).trans rfl, (blk_cell BR.out 1).trans rfl, (blk_cell BR.out 2).trans rfl, (blk_cell BR.out 3).trans rfl, (blk_cell BR.out 4).trans rfl, (blk_cell BR.out 5).trans rfl, (blk_cell BR.out 6).trans rfl, (blk_cell BR.out 7).trans rfl, (blk_cell BR.out 8).trans rfl, (blk_cell BR.out 9).trans rfl, (blk_cell BR.out 10).trans rfl, (blk_cell BR.out 11).trans rfl, (blk_cell BR.out 12).trans rfl, (blk_cell BR.out 13).trans rfl, (blk_cell BR.out 14).trans rfl, (blk_cell BL.out 12).trans rfl, (blk_cell BL.out 13).trans rfl, (blk_cell BL.out 14).trans rfl, (blk_cell BL.out 15).trans rfl⟩ (fun hHeld => ?_)
      replace BR := Aside0.mk (blk_drew BR.out)
      replace BL := Aside0.mk (blk_drew BL.out)
      replace HB := Aside0.mk (below_drew1 HB.out)
      generalize wr.drew = W0 at BR BL HB hHeld ⊢
      refine pure_ (i := 1) (N := (some 31)) (v := ?_) (a' := ?_) #[false, true, false, false, false, false, false, false, false, false, false, false] rfl rfl (by kernel_rfl) (fun _ _ _ h => h) (Or.inl ⟨by rfl, ?_⟩) ?_ ?_
      rotate_left
      · intro w'
        go_simp
        with_reducible rfl
      rotate_left
      · simp only [Act.put, List.setIfInBounds_toArray, List.set_cons_zero, List.set_cons_succ, i64_w, i32_w]
        rfl
      refine pure_ (i := 2) (N := (some 32)) (v := ?_) (a' := ?_) #[false, true, true, false, false, false, false, false, false, false, false, false] rfl rfl (by kernel_rfl) (fun _ _ _ h => h) (Or.inl ⟨by rfl, ?_⟩) ?_ ?_
      rotate_left
      · intro w'
        go_simp
        with_reducible rfl
      rotate_left
      · simp only [Act.put, List.setIfInBounds_toArray, List.set_cons_zero, List.set_cons_succ, i64_w, i32_w]
        rfl
      refine pure_ (i := 3) (N := (some 33)) (v := ?_) (a' := ?_) #[false, true, true, true, false, false, false, false, false, false, false, false] rfl rfl (by kernel_rfl) (fun _ _ _ h => h) (Or.inl ⟨by rfl, ?_⟩) ?_ ?_
      rotate_left
      · intro w'
        go_simp
        with_reducible rfl
      rotate_left
      · simp only [Act.put, List.setIfInBounds_toArray, List.set_cons_zero, List.set_cons_succ, i64_w, i32_w]
        rfl
      refine take_ (i := 0) (N := (some 30)) (v := ?_) (a' := ?_) #[true, true, true, true, false, false, false, false, false, false, false, false] rfl rfl (by kernel_rfl) (fun _ _ _ h => h) (Or.inl ⟨by rfl, ?_⟩) hHeld ?_ ?_
      rotate_left
      · rintro w' ⟨s0, s1, s2, s3, s4, s5, s6, s7, s8, s9, s10, s11, s12, s13, s14, s15, s16, s17, s18⟩
        go_simp
        with_reducible rfl
      rotate_left
      · simp only [Act.put, List.setIfInBounds_toArray, List.set_cons_zero, List.set_cons_succ, i64_w, i32_w]
        rfl
      refine take_ (i := 4) (N := (some 34)) (v := ?_) (a' := ?_) #[true, true, true, true, true, false, false, false, false, false, false, false] rfl rfl (by kernel_rfl) (fun _ _ _ h => h) (Or.inl ⟨by rfl, ?_⟩) hHeld ?_ ?_
      rotate_left
      · rintro w' ⟨s0, s1, s2, s3, s4, s5, s6, s7, s8, s9, s10, s11, s12, s13, s14, s15, s16, s17, s18⟩
        go_simp
        with_reducible rfl
      rotate_left
      · simp only [Act.put, List.setIfInBounds_toArray, List.set_cons_zero, List.set_cons_succ, i64_w, i32_w]
        rfl
      refine two_ (i := 5) (j := 9) (Ni := some 35) (Nj := some 5) #[true, true, true, true, true, true, false, false, false, false, false, false] #[true, true, true, true, true, false, false, false, false, true, false, false] rfl rfl rfl rfl (by kernel_rfl) (by decide) (by decide) (fun K hK => ?_) (fun K hK => ?_)
      · refine goes_ Try.func22 (by kernel_rfl) rfl #[.agg #[.int .i64 3, .int .i64 100, .int .i64 (-1), .int .i64 2000, .int .i64 1500, .int .i64 0, .int .i64 2, .int .i64 1, .int .i64 0, .int .i64 1, .int .i64 10, .int .i64 50, .int .i64 100, .int .i64 500, .int .i64 2500], .agg #[.int .i64 2, .int .i64 500, .int .i64 0, .int .i64 0]] (by rfl) rfl rfl (by (try simp only [List.map_toArray, List.map_cons, List.map_nil]); first | done | rfl) ?_
        refine (done_v ⟨3, 100, (-1), 2000, 1500, 0, 2, 1, 0, 1, 10, 50, 100, 500, 2500⟩ 2 500 0 0 ⟨3, 100, (-1), 2000, 1500, 500, 2, 1, 1, 1, 10, 50, 100, 500, 2500⟩ 0 _ doc3).mono ?_
        rintro e W1 ⟨rfl, hb⟩
        refine ⟨_, rfl, ?_⟩
        have n_BR := Aside0.mk (blk_below BR.out hb)
        clear BR
        have BR := n_BR
        clear n_BR
        have n_BL := Aside0.mk (blk_below BL.out hb)
        clear BL
        have BL := n_BL
        clear n_BL
        have n_H := Aside0.mk (below_step HB.out hb)
        clear HB hb
        have HB := n_H
        clear n_H
        refine hK.out _ _ ⟨(blk_cell BR.out 0).trans rfl, (blk_cell BR.out 1).trans rfl, (blk_cell BR.out 2).trans rfl, (blk_cell BR.out 3).trans rfl, (blk_cell BR.out 4).trans rfl, (blk_cell BR.out 5).trans rfl, (blk_cell BR.out 6).trans rfl, (blk_cell BR.out 7).trans rfl, (blk_cell BR.out 8).trans rfl, (blk_cell BR.out 9).trans rfl, (blk_cell BR.out 10).trans rfl, (blk_cell BR.out 11).trans rfl, (blk_cell BR.out 12).trans rfl, (blk_cell BR.out 13).trans rfl, (blk_cell BR.out 14).trans rfl, (blk_cell BL.out 12).trans rfl, (blk_cell BL.out 13).trans rfl, (blk_cell BL.out 14).trans rfl, (blk_cell BL.out 15).trans rfl⟩ (fun hHeld => ?_)
        clear hK K
        refine norm_ (a' := ?_) ?_ ?_
        rotate_left
        · show Act.put _ (some 35) _ = _
          simp only [Act.put, List.setIfInBounds_toArray, List.set_cons_zero, List.set_cons_succ, i64_w, i32_w]
          rfl
        refine pure_ (i := 6) (N := (some 29)) (v := ?_) (a' := ?_) #[true, true, true, true, true, true, true, false, false, false, false, false] rfl rfl (by kernel_rfl) (fun _ _ _ h => h) (Or.inl ⟨by rfl, ?_⟩) ?_ ?_
        rotate_left
        · intro w'
          go_simp
          with_reducible rfl
        rotate_left
        · simp only [Act.put, List.setIfInBounds_toArray, List.set_cons_zero, List.set_cons_succ, i64_w, i32_w]
          rfl
        refine pure_ (i := 7) (N := (some 36)) (v := ?_) (a' := ?_) #[true, true, true, true, true, true, true, true, false, false, false, false] rfl rfl (by kernel_rfl) (fun _ _ _ h => h) (Or.inl ⟨by rfl, ?_⟩) ?_ ?_
        rotate_left
        · intro w'
          go_simp
          with_reducible rfl
        rotate_left
        · simp only [Act.put, List.setIfInBounds_toArray, List.set_cons_zero, List.set_cons_succ, i64_w, i32_w]
          rfl
        refine pure_ (i := 8) (N := (some 37)) (v := ?_) (a' := ?_) #[true, true, true, true, true, true, true, true, true, false, false, false] rfl rfl (by kernel_rfl) (fun _ _ _ h => h) (Or.inl ⟨by rfl, ?_⟩) ?_ ?_
        rotate_left
        · intro w'
          go_simp
          with_reducible rfl
        rotate_left
        · simp only [Act.put, List.setIfInBounds_toArray, List.set_cons_zero, List.set_cons_succ, i64_w, i32_w]
          rfl
        refine one_ (i := 9) (N := (some 5)) #[true, true, true, true, true, true, true, true, true, true, false, false] rfl rfl (by kernel_rfl) (by decide) (fun K hK => ?_)
        refine box_step ?hg (N := 5) ?hd (cs := #[.int .i64 0, .int .i64 0, .int .i64 0, .int .i64 0, .int .i64 0, .int .i64 0, .int .i64 0, .int .i64 0, .int .i64 0, .int .i64 0, .int .i64 0, .int .i64 0, .int .i64 0, .int .i64 0, .int .i64 0]) (t := 23) ?hr ?_
        (case hd => rfl)
        (case hg => rfl)
        (case hr => first | (go_simp; done) | (go_simp; rfl))
        intro g_BN hg W2 hbox hb
        have NE_BR_BN : Aside0 (g_BR ≠ g_BN) := ⟨by rw [hg]; exact Nat.ne_of_lt (blk_lt BR.out)⟩
        have NE_BN_BR : Aside0 (g_BN ≠ g_BR) := ⟨fun e_ => NE_BR_BN.out e_.symm⟩
        have NE_BL_BN : Aside0 (g_BL ≠ g_BN) := ⟨by rw [hg]; exact Nat.ne_of_lt (blk_lt BL.out)⟩
        have NE_BN_BL : Aside0 (g_BN ≠ g_BL) := ⟨fun e_ => NE_BL_BN.out e_.symm⟩
        have GE_BN : Aside0 (w.heap.size ≤ g_BN) := ⟨by rw [hg]; exact below_size HB.out⟩
        have n_BR := Aside0.mk (blk_below BR.out hb)
        clear BR
        have BR := n_BR
        clear n_BR
        have n_BL := Aside0.mk (blk_below BL.out hb)
        clear BL
        have BL := n_BL
        clear n_BL
        have n_H := Aside0.mk (below_step HB.out hb)
        clear HB
        have HB := n_H
        clear n_H
        have BN := Aside0.mk hbox
        clear hbox hb hg
        refine hK.out _ _ ⟨(blk_cell BR.out 0).trans rfl, (blk_cell BR.out 1).trans rfl, (blk_cell BR.out 2).trans rfl, (blk_cell BR.out 3).trans rfl, (blk_cell BR.out 4).trans rfl, (blk_cell BR.out 5).trans rfl, (blk_cell BR.out 6).trans rfl, (blk_cell BR.out 7).trans rfl, (blk_cell BR.out 8).trans rfl, (blk_cell BR.out 9).trans rfl, (blk_cell BR.out 10).trans rfl, (blk_cell BR.out 11).trans rfl, (blk_cell BR.out 12).trans rfl, (blk_cell BR.out 13).trans rfl, (blk_cell BR.out 14).trans rfl, (blk_cell BL.out 12).trans rfl, (blk_cell BL.out 13).trans rfl, (blk_cell BL.out 14).trans rfl, (blk_cell BL.out 15).trans rfl⟩ (fun hHeld => ?_)
        clear hK K
        refine norm_ (a' := ?_) ?_ ?_
        rotate_left
        · show Act.put _ (some 5) _ = _
          simp only [Act.put, List.setIfInBounds_toArray, List.set_cons_zero, List.set_cons_succ, i64_w, i32_w]
          rfl
        refine last_ (i := 10) (N := none) #[true, true, true, true, true, true, true, true, true, true, true, false] rfl rfl (by kernel_rfl) (by decide) (fun K hK => ?_)
        refine skip_ (w1 := W2.setRow g_BN #[.int .i64 3, .int .i64 100, .int .i64 (-1), .int .i64 2000, .int .i64 1500, .int .i64 500, .int .i64 2, .int .i64 1, .int .i64 1, .int .i64 1, .int .i64 10, .int .i64 50, .int .i64 100, .int .i64 500, .int .i64 2500]) (by rfl) rfl (run_store_row 23 _ _ _ _ rfl rfl rfl BN.out (by kernel_rfl) rfl (by kernel_rfl)) ?_
        refine hK.out _ _ ?_
        clear hK K hHeld
        have n_BN := Aside0.mk (blk_row #[.int .i64 3, .int .i64 100, .int .i64 (-1), .int .i64 2000, .int .i64 1500, .int .i64 500, .int .i64 2, .int .i64 1, .int .i64 1, .int .i64 1, .int .i64 10, .int .i64 50, .int .i64 100, .int .i64 500, .int .i64 2500] BN.out)
        have n_BR := Aside0.mk (blk_rowfar #[.int .i64 3, .int .i64 100, .int .i64 (-1), .int .i64 2000, .int .i64 1500, .int .i64 500, .int .i64 2, .int .i64 1, .int .i64 1, .int .i64 1, .int .i64 10, .int .i64 50, .int .i64 100, .int .i64 500, .int .i64 2500] BR.out NE_BR_BN.out)
        have n_BL := Aside0.mk (blk_rowfar #[.int .i64 3, .int .i64 100, .int .i64 (-1), .int .i64 2000, .int .i64 1500, .int .i64 500, .int .i64 2, .int .i64 1, .int .i64 1, .int .i64 1, .int .i64 10, .int .i64 50, .int .i64 100, .int .i64 500, .int .i64 2500] BL.out NE_BL_BN.out)
        have n_H := Aside0.mk (below_setRow HB.out GE_BN.out #[.int .i64 3, .int .i64 100, .int .i64 (-1), .int .i64 2000, .int .i64 1500, .int .i64 500, .int .i64 2, .int .i64 1, .int .i64 1, .int .i64 1, .int .i64 10, .int .i64 50, .int .i64 100, .int .i64 500, .int .i64 2500])
        clear BN BR BL HB
        have BN := n_BN
        have BR := n_BR
        have BL := n_BL
        have HB := n_H
        clear n_BN n_BR n_BL n_H
        generalize W2.setRow g_BN #[.int .i64 3, .int .i64 100, .int .i64 (-1), .int .i64 2000, .int .i64 1500, .int .i64 500, .int .i64 2, .int .i64 1, .int .i64 1, .int .i64 1, .int .i64 10, .int .i64 50, .int .i64 100, .int .i64 500, .int .i64 2500] = W3 at *
        refine pure_ (i := 11) (N := (some 6)) (v := ?_) (a' := ?_) #[true, true, true, true, true, true, true, true, true, true, true, true] rfl rfl (by kernel_rfl) (fun _ _ _ h => h) (Or.inl ⟨by rfl, ?_⟩) ?_ ?_
        rotate_left
        · intro w'
          go_simp
          with_reducible rfl
        rotate_left
        · simp only [Act.put, List.setIfInBounds_toArray, List.set_cons_zero, List.set_cons_succ, i64_w, i32_w]
          rfl
        refine done_ (by kernel_rfl) ?_
        go_wp2_with (first | ((with_reducible refine gate_dst (N := 38) rfl ?_); refine load_event 23 (.tmp 5) rfl rfl rfl BN.out Try.underlying23 rfl (by kernel_rfl) ?_) | ((with_reducible refine gate_store (t := 23) (p := 1) rfl ?_); refine store_event (t := 23) (p := 1) (v := .tmp 38) (w1 := W3.setRow g_BR #[.int .i64 3, .int .i64 100, .int .i64 (-1), .int .i64 2000, .int .i64 1500, .int .i64 500, .int .i64 2, .int .i64 1, .int .i64 1, .int .i64 1, .int .i64 10, .int .i64 50, .int .i64 100, .int .i64 500, .int .i64 2500]) ?hg ?ho ?hn ?hr ?_; (case ho => rfl); (case hg => rfl); (case hn => rfl); (case hr => exact run_store_row 23 _ _ _ _ rfl rfl rfl BR.out (by kernel_rfl) rfl (by kernel_rfl)); intro w1_ hw; have n_BR : Aside0 (w1_.heap[g_BR]? = some (.cells #[.int .i64 3, .int .i64 100, .int .i64 (-1), .int .i64 2000, .int .i64 1500, .int .i64 500, .int .i64 2, .int .i64 1, .int .i64 1, .int .i64 1, .int .i64 10, .int .i64 50, .int .i64 100, .int .i64 500, .int .i64 2500] 23 (0, 0))) := ⟨by rw [hw]; exact blk_row _ BR.out⟩; clear BR; have BR := n_BR; clear n_BR; have n_BL : Aside0 (w1_.heap[g_BL]? = some (.cells #[.int .i64 0, .int .i64 1500, .int .i64 0, .int .i64 0, .int .i64 0, .int .i64 500, .int .i64 0, .int .i64 0, .int .i64 1, .int .i64 1500, .int .i64 110, .int .i64 160, .int .i64 2, .int .i64 500, .int .i64 0, .int .i64 0, .int .i64 3, .int .i64 0, .int .i64 0, .int .i64 200] 34 (0, 0))) := ⟨by rw [hw]; exact blk_rowfar _ BL.out NE_BL_BR.out⟩; clear BL; have BL := n_BL; clear n_BL; have n_BN : Aside0 (w1_.heap[g_BN]? = some (.cells #[.int .i64 3, .int .i64 100, .int .i64 (-1), .int .i64 2000, .int .i64 1500, .int .i64 500, .int .i64 2, .int .i64 1, .int .i64 1, .int .i64 1, .int .i64 10, .int .i64 50, .int .i64 100, .int .i64 500, .int .i64 2500] 23 (0, 0))) := ⟨by rw [hw]; exact blk_rowfar _ BN.out NE_BN_BR.out⟩; clear BN; have BN := n_BN; clear n_BN; have n_H : Aside0 (Below w.heap.size w w1_) := ⟨by rw [hw]; exact below_setRow HB.out GE_BR.out _⟩; clear HB; have HB := n_H; clear n_H hw))
        go_roundw
        case rel => exact ⟨4, by omega, rfl, rfl, ⟨BR.out⟩, BL, HB⟩
        case measure => simp [intOf]
      · refine box_step ?hg (N := 5) ?hd (cs := #[.int .i64 0, .int .i64 0, .int .i64 0, .int .i64 0, .int .i64 0, .int .i64 0, .int .i64 0, .int .i64 0, .int .i64 0, .int .i64 0, .int .i64 0, .int .i64 0, .int .i64 0, .int .i64 0, .int .i64 0]) (t := 23) ?hr ?_
        (case hd => rfl)
        (case hg => rfl)
        (case hr => first | (go_simp; done) | (go_simp; rfl))
        intro g_BN hg W2 hbox hb
        have NE_BR_BN : Aside0 (g_BR ≠ g_BN) := ⟨by rw [hg]; exact Nat.ne_of_lt (blk_lt BR.out)⟩
        have NE_BN_BR : Aside0 (g_BN ≠ g_BR) := ⟨fun e_ => NE_BR_BN.out e_.symm⟩
        have NE_BL_BN : Aside0 (g_BL ≠ g_BN) := ⟨by rw [hg]; exact Nat.ne_of_lt (blk_lt BL.out)⟩
        have NE_BN_BL : Aside0 (g_BN ≠ g_BL) := ⟨fun e_ => NE_BL_BN.out e_.symm⟩
        have GE_BN : Aside0 (w.heap.size ≤ g_BN) := ⟨by rw [hg]; exact below_size HB.out⟩
        have n_BR := Aside0.mk (blk_below BR.out hb)
        clear BR
        have BR := n_BR
        clear n_BR
        have n_BL := Aside0.mk (blk_below BL.out hb)
        clear BL
        have BL := n_BL
        clear n_BL
        have n_H := Aside0.mk (below_step HB.out hb)
        clear HB
        have HB := n_H
        clear n_H
        have BN := Aside0.mk hbox
        clear hbox hb hg
        refine hK.out _ _ ⟨(blk_cell BR.out 0).trans rfl, (blk_cell BR.out 1).trans rfl, (blk_cell BR.out 2).trans rfl, (blk_cell BR.out 3).trans rfl, (blk_cell BR.out 4).trans rfl, (blk_cell BR.out 5).trans rfl, (blk_cell BR.out 6).trans rfl, (blk_cell BR.out 7).trans rfl, (blk_cell BR.out 8).trans rfl, (blk_cell BR.out 9).trans rfl, (blk_cell BR.out 10).trans rfl, (blk_cell BR.out 11).trans rfl, (blk_cell BR.out 12).trans rfl, (blk_cell BR.out 13).trans rfl, (blk_cell BR.out 14).trans rfl, (blk_cell BL.out 12).trans rfl, (blk_cell BL.out 13).trans rfl, (blk_cell BL.out 14).trans rfl, (blk_cell BL.out 15).trans rfl⟩ (fun hHeld => ?_)
        clear hK K
        refine norm_ (a' := ?_) ?_ ?_
        rotate_left
        · show Act.put _ (some 5) _ = _
          simp only [Act.put, List.setIfInBounds_toArray, List.set_cons_zero, List.set_cons_succ, i64_w, i32_w]
          rfl
        refine one_ (i := 5) (N := (some 35)) #[true, true, true, true, true, true, false, false, false, true, false, false] rfl rfl (by kernel_rfl) (by decide) (fun K hK => ?_)
        refine goes_ Try.func22 (by kernel_rfl) rfl #[.agg #[.int .i64 3, .int .i64 100, .int .i64 (-1), .int .i64 2000, .int .i64 1500, .int .i64 0, .int .i64 2, .int .i64 1, .int .i64 0, .int .i64 1, .int .i64 10, .int .i64 50, .int .i64 100, .int .i64 500, .int .i64 2500], .agg #[.int .i64 2, .int .i64 500, .int .i64 0, .int .i64 0]] (by rfl) rfl rfl (by (try simp only [List.map_toArray, List.map_cons, List.map_nil]); first | done | rfl) ?_
        refine (done_v ⟨3, 100, (-1), 2000, 1500, 0, 2, 1, 0, 1, 10, 50, 100, 500, 2500⟩ 2 500 0 0 ⟨3, 100, (-1), 2000, 1500, 500, 2, 1, 1, 1, 10, 50, 100, 500, 2500⟩ 0 _ doc3).mono ?_
        rintro e W1 ⟨rfl, hb⟩
        refine ⟨_, rfl, ?_⟩
        have n_BR := Aside0.mk (blk_below BR.out hb)
        clear BR
        have BR := n_BR
        clear n_BR
        have n_BL := Aside0.mk (blk_below BL.out hb)
        clear BL
        have BL := n_BL
        clear n_BL
        have n_BN := Aside0.mk (blk_below BN.out hb)
        clear BN
        have BN := n_BN
        clear n_BN
        have n_H := Aside0.mk (below_step HB.out hb)
        clear HB hb
        have HB := n_H
        clear n_H
        refine hK.out _ _ ⟨(blk_cell BR.out 0).trans rfl, (blk_cell BR.out 1).trans rfl, (blk_cell BR.out 2).trans rfl, (blk_cell BR.out 3).trans rfl, (blk_cell BR.out 4).trans rfl, (blk_cell BR.out 5).trans rfl, (blk_cell BR.out 6).trans rfl, (blk_cell BR.out 7).trans rfl, (blk_cell BR.out 8).trans rfl, (blk_cell BR.out 9).trans rfl, (blk_cell BR.out 10).trans rfl, (blk_cell BR.out 11).trans rfl, (blk_cell BR.out 12).trans rfl, (blk_cell BR.out 13).trans rfl, (blk_cell BR.out 14).trans rfl, (blk_cell BL.out 12).trans rfl, (blk_cell BL.out 13).trans rfl, (blk_cell BL.out 14).trans rfl, (blk_cell BL.out 15).trans rfl⟩ (fun hHeld => ?_)
        clear hK K
        refine norm_ (a' := ?_) ?_ ?_
        rotate_left
        · show Act.put _ (some 35) _ = _
          simp only [Act.put, List.setIfInBounds_toArray, List.set_cons_zero, List.set_cons_succ, i64_w, i32_w]
          rfl
        refine pure_ (i := 6) (N := (some 29)) (v := ?_) (a' := ?_) #[true, true, true, true, true, true, true, false, false, true, false, false] rfl rfl (by kernel_rfl) (fun _ _ _ h => h) (Or.inl ⟨by rfl, ?_⟩) ?_ ?_
        rotate_left
        · intro w'
          go_simp
          with_reducible rfl
        rotate_left
        · simp only [Act.put, List.setIfInBounds_toArray, List.set_cons_zero, List.set_cons_succ, i64_w, i32_w]
          rfl
        refine pure_ (i := 7) (N := (some 36)) (v := ?_) (a' := ?_) #[true, true, true, true, true, true, true, true, false, true, false, false] rfl rfl (by kernel_rfl) (fun _ _ _ h => h) (Or.inl ⟨by rfl, ?_⟩) ?_ ?_
        rotate_left
        · intro w'
          go_simp
          with_reducible rfl
        rotate_left
        · simp only [Act.put, List.setIfInBounds_toArray, List.set_cons_zero, List.set_cons_succ, i64_w, i32_w]
          rfl
        refine pure_ (i := 8) (N := (some 37)) (v := ?_) (a' := ?_) #[true, true, true, true, true, true, true, true, true, true, false, false] rfl rfl (by kernel_rfl) (fun _ _ _ h => h) (Or.inl ⟨by rfl, ?_⟩) ?_ ?_
        rotate_left
        · intro w'
          go_simp
          with_reducible rfl
        rotate_left
        · simp only [Act.put, List.setIfInBounds_toArray, List.set_cons_zero, List.set_cons_succ, i64_w, i32_w]
          rfl
        refine last_ (i := 10) (N := none) #[true, true, true, true, true, true, true, true, true, true, true, false] rfl rfl (by kernel_rfl) (by decide) (fun K hK => ?_)
        refine skip_ (w1 := W1.setRow g_BN #[.int .i64 3, .int .i64 100, .int .i64 (-1), .int .i64 2000, .int .i64 1500, .int .i64 500, .int .i64 2, .int .i64 1, .int .i64 1, .int .i64 1, .int .i64 10, .int .i64 50, .int .i64 100, .int .i64 500, .int .i64 2500]) (by rfl) rfl (run_store_row 23 _ _ _ _ rfl rfl rfl BN.out (by kernel_rfl) rfl (by kernel_rfl)) ?_
        refine hK.out _ _ ?_
        clear hK K hHeld
        have n_BN := Aside0.mk (blk_row #[.int .i64 3, .int .i64 100, .int .i64 (-1), .int .i64 2000, .int .i64 1500, .int .i64 500, .int .i64 2, .int .i64 1, .int .i64 1, .int .i64 1, .int .i64 10, .int .i64 50, .int .i64 100, .int .i64 500, .int .i64 2500] BN.out)
        have n_BR := Aside0.mk (blk_rowfar #[.int .i64 3, .int .i64 100, .int .i64 (-1), .int .i64 2000, .int .i64 1500, .int .i64 500, .int .i64 2, .int .i64 1, .int .i64 1, .int .i64 1, .int .i64 10, .int .i64 50, .int .i64 100, .int .i64 500, .int .i64 2500] BR.out NE_BR_BN.out)
        have n_BL := Aside0.mk (blk_rowfar #[.int .i64 3, .int .i64 100, .int .i64 (-1), .int .i64 2000, .int .i64 1500, .int .i64 500, .int .i64 2, .int .i64 1, .int .i64 1, .int .i64 1, .int .i64 10, .int .i64 50, .int .i64 100, .int .i64 500, .int .i64 2500] BL.out NE_BL_BN.out)
        have n_H := Aside0.mk (below_setRow HB.out GE_BN.out #[.int .i64 3, .int .i64 100, .int .i64 (-1), .int .i64 2000, .int .i64 1500, .int .i64 500, .int .i64 2, .int .i64 1, .int .i64 1, .int .i64 1, .int .i64 10, .int .i64 50, .int .i64 100, .int .i64 500, .int .i64 2500])
        clear BN BR BL HB
        have BN := n_BN
        have BR := n_BR
        have BL := n_BL
        have HB := n_H
        clear n_BN n_BR n_BL n_H
        generalize W1.setRow g_BN #[.int .i64 3, .int .i64 100, .int .i64 (-1), .int .i64 2000, .int .i64 1500, .int .i64 500, .int .i64 2, .int .i64 1, .int .i64 1, .int .i64 1, .int .i64 10, .int .i64 50, .int .i64 100, .int .i64 500, .int .i64 2500] = W3 at *
        refine pure_ (i := 11) (N := (some 6)) (v := ?_) (a' := ?_) #[true, true, true, true, true, true, true, true, true, true, true, true] rfl rfl (by kernel_rfl) (fun _ _ _ h => h) (Or.inl ⟨by rfl, ?_⟩) ?_ ?_
        rotate_left
        · intro w'
          go_simp
          with_reducible rfl
        rotate_left
        · simp only [Act.put, List.setIfInBounds_toArray, List.set_cons_zero, List.set_cons_succ, i64_w, i32_w]
          rfl
        refine done_ (by kernel_rfl) ?_
        go_wp2_with (first | ((with_reducible refine gate_dst (N := 38) rfl ?_); refine load_event 23 (.tmp 5) rfl rfl rfl BN.out Try.underlying23 rfl (by kernel_rfl) ?_) | ((with_reducible refine gate_store (t := 23) (p := 1) rfl ?_); refine store_event (t := 23) (p := 1) (v := .tmp 38) (w1 := W3.setRow g_BR #[.int .i64 3, .int .i64 100, .int .i64 (-1), .int .i64 2000, .int .i64 1500, .int .i64 500, .int .i64 2, .int .i64 1, .int .i64 1, .int .i64 1, .int .i64 10, .int .i64 50, .int .i64 100, .int .i64 500, .int .i64 2500]) ?hg ?ho ?hn ?hr ?_; (case ho => rfl); (case hg => rfl); (case hn => rfl); (case hr => exact run_store_row 23 _ _ _ _ rfl rfl rfl BR.out (by kernel_rfl) rfl (by kernel_rfl)); intro w1_ hw; have n_BR : Aside0 (w1_.heap[g_BR]? = some (.cells #[.int .i64 3, .int .i64 100, .int .i64 (-1), .int .i64 2000, .int .i64 1500, .int .i64 500, .int .i64 2, .int .i64 1, .int .i64 1, .int .i64 1, .int .i64 10, .int .i64 50, .int .i64 100, .int .i64 500, .int .i64 2500] 23 (0, 0))) := ⟨by rw [hw]; exact blk_row _ BR.out⟩; clear BR; have BR := n_BR; clear n_BR; have n_BL : Aside0 (w1_.heap[g_BL]? = some (.cells #[.int .i64 0, .int .i64 1500, .int .i64 0, .int .i64 0, .int .i64 0, .int .i64 500, .int .i64 0, .int .i64 0, .int .i64 1, .int .i64 1500, .int .i64 110, .int .i64 160, .int .i64 2, .int .i64 500, .int .i64 0, .int .i64 0, .int .i64 3, .int .i64 0, .int .i64 0, .int .i64 200] 34 (0, 0))) := ⟨by rw [hw]; exact blk_rowfar _ BL.out NE_BL_BR.out⟩; clear BL; have BL := n_BL; clear n_BL; have n_BN : Aside0 (w1_.heap[g_BN]? = some (.cells #[.int .i64 3, .int .i64 100, .int .i64 (-1), .int .i64 2000, .int .i64 1500, .int .i64 500, .int .i64 2, .int .i64 1, .int .i64 1, .int .i64 1, .int .i64 10, .int .i64 50, .int .i64 100, .int .i64 500, .int .i64 2500] 23 (0, 0))) := ⟨by rw [hw]; exact blk_rowfar _ BN.out NE_BN_BR.out⟩; clear BN; have BN := n_BN; clear n_BN; have n_H : Aside0 (Below w.heap.size w w1_) := ⟨by rw [hw]; exact below_setRow HB.out GE_BR.out _⟩; clear HB; have HB := n_H; clear n_H hw))
        go_roundw
        case rel => exact ⟨4, by omega, rfl, rfl, ⟨BR.out⟩, BL, HB⟩
        case measure => simp [intOf]
    · have n1_ : Aside0 (wr.heap[g_BR]? = some (.cells #[.int .i64 3, .int .i64 100, .int .i64 (-1), .int .i64 2000, .int .i64 1500, .int .i64 500, .int .i64 2, .int .i64 1, .int .i64 1, .int .i64 1, .int .i64 10, .int .i64 50, .int .i64 100, .int .i64 500, .int .i64 2500] 23 (0, 0))) := ⟨BR.out⟩
      clear BR
      have BR := n1_
      clear n1_
      go_wp2_with fail
      refine start_ (n := 12) (S := fun w' => w'.cell? ⟨g_BR, 0, none⟩ = some (.int .i64 3) ∧ w'.cell? ⟨g_BR, 1, none⟩ = some (.int .i64 100) ∧ w'.cell? ⟨g_BR, 2, none⟩ = some (.int .i64 (-1)) ∧ w'.cell? ⟨g_BR, 3, none⟩ = some (.int .i64 2000) ∧ w'.cell? ⟨g_BR, 4, none⟩ = some (.int .i64 1500) ∧ w'.cell? ⟨g_BR, 5, none⟩ = some (.int .i64 500) ∧ w'.cell? ⟨g_BR, 6, none⟩ = some (.int .i64 2) ∧ w'.cell? ⟨g_BR, 7, none⟩ = some (.int .i64 1) ∧ w'.cell? ⟨g_BR, 8, none⟩ = some (.int .i64 1) ∧ w'.cell? ⟨g_BR, 9, none⟩ = some (.int .i64 1) ∧ w'.cell? ⟨g_BR, 10, none⟩ = some (.int .i64 10) ∧ w'.cell? ⟨g_BR, 11, none⟩ = some (.int .i64 50) ∧ w'.cell? ⟨g_BR, 12, none⟩ = some (.int .i64 100) ∧ w'.cell? ⟨g_BR, 13, none⟩ = some (.int .i64 500) ∧ w'.cell? ⟨g_BR, 14, none⟩ = some (.int .i64 2500) ∧ w'.cell? ⟨g_BL, 16, none⟩ = some (.int .i64 3) ∧ w'.cell? ⟨g_BL, 17, none⟩ = some (.int .i64 0) ∧ w'.cell? ⟨g_BL, 18, none⟩ = some (.int .i64 0) ∧ w'.cell? ⟨g_BL, 19, none⟩ = some (.int .i64 200)) (ds := [10]) #[false, false, false, false, false, false, false, false, false, false, false, false] (by kernel_rfl) rfl rfl ⟨(blk_cell BR.out 0).trans rfl, (blk_cell BR.out 1).trans rfl, (blk_cell BR.out 2).trans rfl, (blk_cell BR.out 3).trans rfl, (blk_cell BR.out 4).trans rfl, (blk_cell BR.out 5).trans rfl, (blk_cell BR.out 6).trans rfl, (blk_cell BR.out 7).trans rfl, (blk_cell BR.out 8).trans rfl, (blk_cell BR.out 9).trans rfl, (blk_cell BR.out 10).trans rfl, (blk_cell BR.out 11).trans rfl, (blk_cell BR.out 12).trans rfl, (blk_cell BR.out 13).trans rfl, (blk_cell BR.out 14).trans rfl, (blk_cell BL.out 16).trans rfl, (blk_cell BL.out 17).trans rfl, (blk_cell BL.out 18).trans rfl, (blk_cell BL.out 19).trans rfl⟩ (fun hHeld => ?_)
      replace BR := Aside0.mk (blk_drew BR.out)
      replace BL := Aside0.mk (blk_drew BL.out)
      replace HB := Aside0.mk (below_drew1 HB.out)
      generalize wr.drew = W0 at BR BL HB hHeld ⊢
      refine pure_ (i := 1) (N := (some 31)) (v := ?_) (a' := ?_) #[false, true, false, false, false, false, false, false, false, false, false, false] rfl rfl (by kernel_rfl) (fun _ _ _ h => h) (Or.inl ⟨by rfl, ?_⟩) ?_ ?_
      rotate_left
      · intro w'
        go_simp
        with_reducible rfl
      rotate_left
      · simp only [Act.put, List.setIfInBounds_toArray, List.set_cons_zero, List.set_cons_succ, i64_w, i32_w]
        rfl
      refine pure_ (i := 2) (N := (some 32)) (v := ?_) (a' := ?_) #[false, true, true, false, false, false, false, false, false, false, false, false] rfl rfl (by kernel_rfl) (fun _ _ _ h => h) (Or.inl ⟨by rfl, ?_⟩) ?_ ?_
      rotate_left
      · intro w'
        go_simp
        with_reducible rfl
      rotate_left
      · simp only [Act.put, List.setIfInBounds_toArray, List.set_cons_zero, List.set_cons_succ, i64_w, i32_w]
        rfl
      refine pure_ (i := 3) (N := (some 33)) (v := ?_) (a' := ?_) #[false, true, true, true, false, false, false, false, false, false, false, false] rfl rfl (by kernel_rfl) (fun _ _ _ h => h) (Or.inl ⟨by rfl, ?_⟩) ?_ ?_
      rotate_left
      · intro w'
        go_simp
        with_reducible rfl
      rotate_left
      · simp only [Act.put, List.setIfInBounds_toArray, List.set_cons_zero, List.set_cons_succ, i64_w, i32_w]
        rfl
      refine take_ (i := 0) (N := (some 30)) (v := ?_) (a' := ?_) #[true, true, true, true, false, false, false, false, false, false, false, false] rfl rfl (by kernel_rfl) (fun _ _ _ h => h) (Or.inl ⟨by rfl, ?_⟩) hHeld ?_ ?_
      rotate_left
      · rintro w' ⟨s0, s1, s2, s3, s4, s5, s6, s7, s8, s9, s10, s11, s12, s13, s14, s15, s16, s17, s18⟩
        go_simp
        with_reducible rfl
      rotate_left
      · simp only [Act.put, List.setIfInBounds_toArray, List.set_cons_zero, List.set_cons_succ, i64_w, i32_w]
        rfl
      refine take_ (i := 4) (N := (some 34)) (v := ?_) (a' := ?_) #[true, true, true, true, true, false, false, false, false, false, false, false] rfl rfl (by kernel_rfl) (fun _ _ _ h => h) (Or.inl ⟨by rfl, ?_⟩) hHeld ?_ ?_
      rotate_left
      · rintro w' ⟨s0, s1, s2, s3, s4, s5, s6, s7, s8, s9, s10, s11, s12, s13, s14, s15, s16, s17, s18⟩
        go_simp
        with_reducible rfl
      rotate_left
      · simp only [Act.put, List.setIfInBounds_toArray, List.set_cons_zero, List.set_cons_succ, i64_w, i32_w]
        rfl
      refine two_ (i := 5) (j := 9) (Ni := some 35) (Nj := some 5) #[true, true, true, true, true, true, false, false, false, false, false, false] #[true, true, true, true, true, false, false, false, false, true, false, false] rfl rfl rfl rfl (by kernel_rfl) (by decide) (by decide) (fun K hK => ?_) (fun K hK => ?_)
      · refine goes_ Try.func22 (by kernel_rfl) rfl #[.agg #[.int .i64 3, .int .i64 100, .int .i64 (-1), .int .i64 2000, .int .i64 1500, .int .i64 500, .int .i64 2, .int .i64 1, .int .i64 1, .int .i64 1, .int .i64 10, .int .i64 50, .int .i64 100, .int .i64 500, .int .i64 2500], .agg #[.int .i64 3, .int .i64 0, .int .i64 0, .int .i64 200]] (by rfl) rfl rfl (by (try simp only [List.map_toArray, List.map_cons, List.map_nil]); first | done | rfl) ?_
        refine (done_v ⟨3, 100, (-1), 2000, 1500, 500, 2, 1, 1, 1, 10, 50, 100, 500, 2500⟩ 3 0 0 200 ⟨3, 100, 200, 2000, 1500, 500, 2, 1, 1, 1, 10, 50, 100, 500, 2500⟩ 0 _ doc4).mono ?_
        rintro e W1 ⟨rfl, hb⟩
        refine ⟨_, rfl, ?_⟩
        have n_BR := Aside0.mk (blk_below BR.out hb)
        clear BR
        have BR := n_BR
        clear n_BR
        have n_BL := Aside0.mk (blk_below BL.out hb)
        clear BL
        have BL := n_BL
        clear n_BL
        have n_H := Aside0.mk (below_step HB.out hb)
        clear HB hb
        have HB := n_H
        clear n_H
        refine hK.out _ _ ⟨(blk_cell BR.out 0).trans rfl, (blk_cell BR.out 1).trans rfl, (blk_cell BR.out 2).trans rfl, (blk_cell BR.out 3).trans rfl, (blk_cell BR.out 4).trans rfl, (blk_cell BR.out 5).trans rfl, (blk_cell BR.out 6).trans rfl, (blk_cell BR.out 7).trans rfl, (blk_cell BR.out 8).trans rfl, (blk_cell BR.out 9).trans rfl, (blk_cell BR.out 10).trans rfl, (blk_cell BR.out 11).trans rfl, (blk_cell BR.out 12).trans rfl, (blk_cell BR.out 13).trans rfl, (blk_cell BR.out 14).trans rfl, (blk_cell BL.out 16).trans rfl, (blk_cell BL.out 17).trans rfl, (blk_cell BL.out 18).trans rfl, (blk_cell BL.out 19).trans rfl⟩ (fun hHeld => ?_)
        clear hK K
        refine norm_ (a' := ?_) ?_ ?_
        rotate_left
        · show Act.put _ (some 35) _ = _
          simp only [Act.put, List.setIfInBounds_toArray, List.set_cons_zero, List.set_cons_succ, i64_w, i32_w]
          rfl
        refine pure_ (i := 6) (N := (some 29)) (v := ?_) (a' := ?_) #[true, true, true, true, true, true, true, false, false, false, false, false] rfl rfl (by kernel_rfl) (fun _ _ _ h => h) (Or.inl ⟨by rfl, ?_⟩) ?_ ?_
        rotate_left
        · intro w'
          go_simp
          with_reducible rfl
        rotate_left
        · simp only [Act.put, List.setIfInBounds_toArray, List.set_cons_zero, List.set_cons_succ, i64_w, i32_w]
          rfl
        refine pure_ (i := 7) (N := (some 36)) (v := ?_) (a' := ?_) #[true, true, true, true, true, true, true, true, false, false, false, false] rfl rfl (by kernel_rfl) (fun _ _ _ h => h) (Or.inl ⟨by rfl, ?_⟩) ?_ ?_
        rotate_left
        · intro w'
          go_simp
          with_reducible rfl
        rotate_left
        · simp only [Act.put, List.setIfInBounds_toArray, List.set_cons_zero, List.set_cons_succ, i64_w, i32_w]
          rfl
        refine pure_ (i := 8) (N := (some 37)) (v := ?_) (a' := ?_) #[true, true, true, true, true, true, true, true, true, false, false, false] rfl rfl (by kernel_rfl) (fun _ _ _ h => h) (Or.inl ⟨by rfl, ?_⟩) ?_ ?_
        rotate_left
        · intro w'
          go_simp
          with_reducible rfl
        rotate_left
        · simp only [Act.put, List.setIfInBounds_toArray, List.set_cons_zero, List.set_cons_succ, i64_w, i32_w]
          rfl
        refine one_ (i := 9) (N := (some 5)) #[true, true, true, true, true, true, true, true, true, true, false, false] rfl rfl (by kernel_rfl) (by decide) (fun K hK => ?_)
        refine box_step ?hg (N := 5) ?hd (cs := #[.int .i64 0, .int .i64 0, .int .i64 0, .int .i64 0, .int .i64 0, .int .i64 0, .int .i64 0, .int .i64 0, .int .i64 0, .int .i64 0, .int .i64 0, .int .i64 0, .int .i64 0, .int .i64 0, .int .i64 0]) (t := 23) ?hr ?_
        (case hd => rfl)
        (case hg => rfl)
        (case hr => first | (go_simp; done) | (go_simp; rfl))
        intro g_BN hg W2 hbox hb
        have NE_BR_BN : Aside0 (g_BR ≠ g_BN) := ⟨by rw [hg]; exact Nat.ne_of_lt (blk_lt BR.out)⟩
        have NE_BN_BR : Aside0 (g_BN ≠ g_BR) := ⟨fun e_ => NE_BR_BN.out e_.symm⟩
        have NE_BL_BN : Aside0 (g_BL ≠ g_BN) := ⟨by rw [hg]; exact Nat.ne_of_lt (blk_lt BL.out)⟩
        have NE_BN_BL : Aside0 (g_BN ≠ g_BL) := ⟨fun e_ => NE_BL_BN.out e_.symm⟩
        have GE_BN : Aside0 (w.heap.size ≤ g_BN) := ⟨by rw [hg]; exact below_size HB.out⟩
        have n_BR := Aside0.mk (blk_below BR.out hb)
        clear BR
        have BR := n_BR
        clear n_BR
        have n_BL := Aside0.mk (blk_below BL.out hb)
        clear BL
        have BL := n_BL
        clear n_BL
        have n_H := Aside0.mk (below_step HB.out hb)
        clear HB
        have HB := n_H
        clear n_H
        have BN := Aside0.mk hbox
        clear hbox hb hg
        refine hK.out _ _ ⟨(blk_cell BR.out 0).trans rfl, (blk_cell BR.out 1).trans rfl, (blk_cell BR.out 2).trans rfl, (blk_cell BR.out 3).trans rfl, (blk_cell BR.out 4).trans rfl, (blk_cell BR.out 5).trans rfl, (blk_cell BR.out 6).trans rfl, (blk_cell BR.out 7).trans rfl, (blk_cell BR.out 8).trans rfl, (blk_cell BR.out 9).trans rfl, (blk_cell BR.out 10).trans rfl, (blk_cell BR.out 11).trans rfl, (blk_cell BR.out 12).trans rfl, (blk_cell BR.out 13).trans rfl, (blk_cell BR.out 14).trans rfl, (blk_cell BL.out 16).trans rfl, (blk_cell BL.out 17).trans rfl, (blk_cell BL.out 18).trans rfl, (blk_cell BL.out 19).trans rfl⟩ (fun hHeld => ?_)
        clear hK K
        refine norm_ (a' := ?_) ?_ ?_
        rotate_left
        · show Act.put _ (some 5) _ = _
          simp only [Act.put, List.setIfInBounds_toArray, List.set_cons_zero, List.set_cons_succ, i64_w, i32_w]
          rfl
        refine last_ (i := 10) (N := none) #[true, true, true, true, true, true, true, true, true, true, true, false] rfl rfl (by kernel_rfl) (by decide) (fun K hK => ?_)
        refine skip_ (w1 := W2.setRow g_BN #[.int .i64 3, .int .i64 100, .int .i64 200, .int .i64 2000, .int .i64 1500, .int .i64 500, .int .i64 2, .int .i64 1, .int .i64 1, .int .i64 1, .int .i64 10, .int .i64 50, .int .i64 100, .int .i64 500, .int .i64 2500]) (by rfl) rfl (run_store_row 23 _ _ _ _ rfl rfl rfl BN.out (by kernel_rfl) rfl (by kernel_rfl)) ?_
        refine hK.out _ _ ?_
        clear hK K hHeld
        have n_BN := Aside0.mk (blk_row #[.int .i64 3, .int .i64 100, .int .i64 200, .int .i64 2000, .int .i64 1500, .int .i64 500, .int .i64 2, .int .i64 1, .int .i64 1, .int .i64 1, .int .i64 10, .int .i64 50, .int .i64 100, .int .i64 500, .int .i64 2500] BN.out)
        have n_BR := Aside0.mk (blk_rowfar #[.int .i64 3, .int .i64 100, .int .i64 200, .int .i64 2000, .int .i64 1500, .int .i64 500, .int .i64 2, .int .i64 1, .int .i64 1, .int .i64 1, .int .i64 10, .int .i64 50, .int .i64 100, .int .i64 500, .int .i64 2500] BR.out NE_BR_BN.out)
        have n_BL := Aside0.mk (blk_rowfar #[.int .i64 3, .int .i64 100, .int .i64 200, .int .i64 2000, .int .i64 1500, .int .i64 500, .int .i64 2, .int .i64 1, .int .i64 1, .int .i64 1, .int .i64 10, .int .i64 50, .int .i64 100, .int .i64 500, .int .i64 2500] BL.out NE_BL_BN.out)
        have n_H := Aside0.mk (below_setRow HB.out GE_BN.out #[.int .i64 3, .int .i64 100, .int .i64 200, .int .i64 2000, .int .i64 1500, .int .i64 500, .int .i64 2, .int .i64 1, .int .i64 1, .int .i64 1, .int .i64 10, .int .i64 50, .int .i64 100, .int .i64 500, .int .i64 2500])
        clear BN BR BL HB
        have BN := n_BN
        have BR := n_BR
        have BL := n_BL
        have HB := n_H
        clear n_BN n_BR n_BL n_H
        generalize W2.setRow g_BN #[.int .i64 3, .int .i64 100, .int .i64 200, .int .i64 2000, .int .i64 1500, .int .i64 500, .int .i64 2, .int .i64 1, .int .i64 1, .int .i64 1, .int .i64 10, .int .i64 50, .int .i64 100, .int .i64 500, .int .i64 2500] = W3 at *
        refine pure_ (i := 11) (N := (some 6)) (v := ?_) (a' := ?_) #[true, true, true, true, true, true, true, true, true, true, true, true] rfl rfl (by kernel_rfl) (fun _ _ _ h => h) (Or.inl ⟨by rfl, ?_⟩) ?_ ?_
        rotate_left
        · intro w'
          go_simp
          with_reducible rfl
        rotate_left
        · simp only [Act.put, List.setIfInBounds_toArray, List.set_cons_zero, List.set_cons_succ, i64_w, i32_w]
          rfl
        refine done_ (by kernel_rfl) ?_
        go_wp2_with (first | ((with_reducible refine gate_dst (N := 38) rfl ?_); refine load_event 23 (.tmp 5) rfl rfl rfl BN.out Try.underlying23 rfl (by kernel_rfl) ?_) | ((with_reducible refine gate_store (t := 23) (p := 1) rfl ?_); refine store_event (t := 23) (p := 1) (v := .tmp 38) (w1 := W3.setRow g_BR #[.int .i64 3, .int .i64 100, .int .i64 200, .int .i64 2000, .int .i64 1500, .int .i64 500, .int .i64 2, .int .i64 1, .int .i64 1, .int .i64 1, .int .i64 10, .int .i64 50, .int .i64 100, .int .i64 500, .int .i64 2500]) ?hg ?ho ?hn ?hr ?_; (case ho => rfl); (case hg => rfl); (case hn => rfl); (case hr => exact run_store_row 23 _ _ _ _ rfl rfl rfl BR.out (by kernel_rfl) rfl (by kernel_rfl)); intro w1_ hw; have n_BR : Aside0 (w1_.heap[g_BR]? = some (.cells #[.int .i64 3, .int .i64 100, .int .i64 200, .int .i64 2000, .int .i64 1500, .int .i64 500, .int .i64 2, .int .i64 1, .int .i64 1, .int .i64 1, .int .i64 10, .int .i64 50, .int .i64 100, .int .i64 500, .int .i64 2500] 23 (0, 0))) := ⟨by rw [hw]; exact blk_row _ BR.out⟩; clear BR; have BR := n_BR; clear n_BR; have n_BL : Aside0 (w1_.heap[g_BL]? = some (.cells #[.int .i64 0, .int .i64 1500, .int .i64 0, .int .i64 0, .int .i64 0, .int .i64 500, .int .i64 0, .int .i64 0, .int .i64 1, .int .i64 1500, .int .i64 110, .int .i64 160, .int .i64 2, .int .i64 500, .int .i64 0, .int .i64 0, .int .i64 3, .int .i64 0, .int .i64 0, .int .i64 200] 34 (0, 0))) := ⟨by rw [hw]; exact blk_rowfar _ BL.out NE_BL_BR.out⟩; clear BL; have BL := n_BL; clear n_BL; have n_BN : Aside0 (w1_.heap[g_BN]? = some (.cells #[.int .i64 3, .int .i64 100, .int .i64 200, .int .i64 2000, .int .i64 1500, .int .i64 500, .int .i64 2, .int .i64 1, .int .i64 1, .int .i64 1, .int .i64 10, .int .i64 50, .int .i64 100, .int .i64 500, .int .i64 2500] 23 (0, 0))) := ⟨by rw [hw]; exact blk_rowfar _ BN.out NE_BN_BR.out⟩; clear BN; have BN := n_BN; clear n_BN; have n_H : Aside0 (Below w.heap.size w w1_) := ⟨by rw [hw]; exact below_setRow HB.out GE_BR.out _⟩; clear HB; have HB := n_H; clear n_H hw))
        go_roundw
        case rel => exact ⟨5, by omega, rfl, rfl, ⟨BR.out⟩, BL, HB⟩
        case measure => simp [intOf]
      · refine box_step ?hg (N := 5) ?hd (cs := #[.int .i64 0, .int .i64 0, .int .i64 0, .int .i64 0, .int .i64 0, .int .i64 0, .int .i64 0, .int .i64 0, .int .i64 0, .int .i64 0, .int .i64 0, .int .i64 0, .int .i64 0, .int .i64 0, .int .i64 0]) (t := 23) ?hr ?_
        (case hd => rfl)
        (case hg => rfl)
        (case hr => first | (go_simp; done) | (go_simp; rfl))
        intro g_BN hg W2 hbox hb
        have NE_BR_BN : Aside0 (g_BR ≠ g_BN) := ⟨by rw [hg]; exact Nat.ne_of_lt (blk_lt BR.out)⟩
        have NE_BN_BR : Aside0 (g_BN ≠ g_BR) := ⟨fun e_ => NE_BR_BN.out e_.symm⟩
        have NE_BL_BN : Aside0 (g_BL ≠ g_BN) := ⟨by rw [hg]; exact Nat.ne_of_lt (blk_lt BL.out)⟩
        have NE_BN_BL : Aside0 (g_BN ≠ g_BL) := ⟨fun e_ => NE_BL_BN.out e_.symm⟩
        have GE_BN : Aside0 (w.heap.size ≤ g_BN) := ⟨by rw [hg]; exact below_size HB.out⟩
        have n_BR := Aside0.mk (blk_below BR.out hb)
        clear BR
        have BR := n_BR
        clear n_BR
        have n_BL := Aside0.mk (blk_below BL.out hb)
        clear BL
        have BL := n_BL
        clear n_BL
        have n_H := Aside0.mk (below_step HB.out hb)
        clear HB
        have HB := n_H
        clear n_H
        have BN := Aside0.mk hbox
        clear hbox hb hg
        refine hK.out _ _ ⟨(blk_cell BR.out 0).trans rfl, (blk_cell BR.out 1).trans rfl, (blk_cell BR.out 2).trans rfl, (blk_cell BR.out 3).trans rfl, (blk_cell BR.out 4).trans rfl, (blk_cell BR.out 5).trans rfl, (blk_cell BR.out 6).trans rfl, (blk_cell BR.out 7).trans rfl, (blk_cell BR.out 8).trans rfl, (blk_cell BR.out 9).trans rfl, (blk_cell BR.out 10).trans rfl, (blk_cell BR.out 11).trans rfl, (blk_cell BR.out 12).trans rfl, (blk_cell BR.out 13).trans rfl, (blk_cell BR.out 14).trans rfl, (blk_cell BL.out 16).trans rfl, (blk_cell BL.out 17).trans rfl, (blk_cell BL.out 18).trans rfl, (blk_cell BL.out 19).trans rfl⟩ (fun hHeld => ?_)
        clear hK K
        refine norm_ (a' := ?_) ?_ ?_
        rotate_left
        · show Act.put _ (some 5) _ = _
          simp only [Act.put, List.setIfInBounds_toArray, List.set_cons_zero, List.set_cons_succ, i64_w, i32_w]
          rfl
        refine one_ (i := 5) (N := (some 35)) #[true, true, true, true, true, true, false, false, false, true, false, false] rfl rfl (by kernel_rfl) (by decide) (fun K hK => ?_)
        refine goes_ Try.func22 (by kernel_rfl) rfl #[.agg #[.int .i64 3, .int .i64 100, .int .i64 (-1), .int .i64 2000, .int .i64 1500, .int .i64 500, .int .i64 2, .int .i64 1, .int .i64 1, .int .i64 1, .int .i64 10, .int .i64 50, .int .i64 100, .int .i64 500, .int .i64 2500], .agg #[.int .i64 3, .int .i64 0, .int .i64 0, .int .i64 200]] (by rfl) rfl rfl (by (try simp only [List.map_toArray, List.map_cons, List.map_nil]); first | done | rfl) ?_
        refine (done_v ⟨3, 100, (-1), 2000, 1500, 500, 2, 1, 1, 1, 10, 50, 100, 500, 2500⟩ 3 0 0 200 ⟨3, 100, 200, 2000, 1500, 500, 2, 1, 1, 1, 10, 50, 100, 500, 2500⟩ 0 _ doc4).mono ?_
        rintro e W1 ⟨rfl, hb⟩
        refine ⟨_, rfl, ?_⟩
        have n_BR := Aside0.mk (blk_below BR.out hb)
        clear BR
        have BR := n_BR
        clear n_BR
        have n_BL := Aside0.mk (blk_below BL.out hb)
        clear BL
        have BL := n_BL
        clear n_BL
        have n_BN := Aside0.mk (blk_below BN.out hb)
        clear BN
        have BN := n_BN
        clear n_BN
        have n_H := Aside0.mk (below_step HB.out hb)
        clear HB hb
        have HB := n_H
        clear n_H
        refine hK.out _ _ ⟨(blk_cell BR.out 0).trans rfl, (blk_cell BR.out 1).trans rfl, (blk_cell BR.out 2).trans rfl, (blk_cell BR.out 3).trans rfl, (blk_cell BR.out 4).trans rfl, (blk_cell BR.out 5).trans rfl, (blk_cell BR.out 6).trans rfl, (blk_cell BR.out 7).trans rfl, (blk_cell BR.out 8).trans rfl, (blk_cell BR.out 9).trans rfl, (blk_cell BR.out 10).trans rfl, (blk_cell BR.out 11).trans rfl, (blk_cell BR.out 12).trans rfl, (blk_cell BR.out 13).trans rfl, (blk_cell BR.out 14).trans rfl, (blk_cell BL.out 16).trans rfl, (blk_cell BL.out 17).trans rfl, (blk_cell BL.out 18).trans rfl, (blk_cell BL.out 19).trans rfl⟩ (fun hHeld => ?_)
        clear hK K
        refine norm_ (a' := ?_) ?_ ?_
        rotate_left
        · show Act.put _ (some 35) _ = _
          simp only [Act.put, List.setIfInBounds_toArray, List.set_cons_zero, List.set_cons_succ, i64_w, i32_w]
          rfl
        refine pure_ (i := 6) (N := (some 29)) (v := ?_) (a' := ?_) #[true, true, true, true, true, true, true, false, false, true, false, false] rfl rfl (by kernel_rfl) (fun _ _ _ h => h) (Or.inl ⟨by rfl, ?_⟩) ?_ ?_
        rotate_left
        · intro w'
          go_simp
          with_reducible rfl
        rotate_left
        · simp only [Act.put, List.setIfInBounds_toArray, List.set_cons_zero, List.set_cons_succ, i64_w, i32_w]
          rfl
        refine pure_ (i := 7) (N := (some 36)) (v := ?_) (a' := ?_) #[true, true, true, true, true, true, true, true, false, true, false, false] rfl rfl (by kernel_rfl) (fun _ _ _ h => h) (Or.inl ⟨by rfl, ?_⟩) ?_ ?_
        rotate_left
        · intro w'
          go_simp
          with_reducible rfl
        rotate_left
        · simp only [Act.put, List.setIfInBounds_toArray, List.set_cons_zero, List.set_cons_succ, i64_w, i32_w]
          rfl
        refine pure_ (i := 8) (N := (some 37)) (v := ?_) (a' := ?_) #[true, true, true, true, true, true, true, true, true, true, false, false] rfl rfl (by kernel_rfl) (fun _ _ _ h => h) (Or.inl ⟨by rfl, ?_⟩) ?_ ?_
        rotate_left
        · intro w'
          go_simp
          with_reducible rfl
        rotate_left
        · simp only [Act.put, List.setIfInBounds_toArray, List.set_cons_zero, List.set_cons_succ, i64_w, i32_w]
          rfl
        refine last_ (i := 10) (N := none) #[true, true, true, true, true, true, true, true, true, true, true, false] rfl rfl (by kernel_rfl) (by decide) (fun K hK => ?_)
        refine skip_ (w1 := W1.setRow g_BN #[.int .i64 3, .int .i64 100, .int .i64 200, .int .i64 2000, .int .i64 1500, .int .i64 500, .int .i64 2, .int .i64 1, .int .i64 1, .int .i64 1, .int .i64 10, .int .i64 50, .int .i64 100, .int .i64 500, .int .i64 2500]) (by rfl) rfl (run_store_row 23 _ _ _ _ rfl rfl rfl BN.out (by kernel_rfl) rfl (by kernel_rfl)) ?_
        refine hK.out _ _ ?_
        clear hK K hHeld
        have n_BN := Aside0.mk (blk_row #[.int .i64 3, .int .i64 100, .int .i64 200, .int .i64 2000, .int .i64 1500, .int .i64 500, .int .i64 2, .int .i64 1, .int .i64 1, .int .i64 1, .int .i64 10, .int .i64 50, .int .i64 100, .int .i64 500, .int .i64 2500] BN.out)
        have n_BR := Aside0.mk (blk_rowfar #[.int .i64 3, .int .i64 100, .int .i64 200, .int .i64 2000, .int .i64 1500, .int .i64 500, .int .i64 2, .int .i64 1, .int .i64 1, .int .i64 1, .int .i64 10, .int .i64 50, .int .i64 100, .int .i64 500, .int .i64 2500] BR.out NE_BR_BN.out)
        have n_BL := Aside0.mk (blk_rowfar #[.int .i64 3, .int .i64 100, .int .i64 200, .int .i64 2000, .int .i64 1500, .int .i64 500, .int .i64 2, .int .i64 1, .int .i64 1, .int .i64 1, .int .i64 10, .int .i64 50, .int .i64 100, .int .i64 500, .int .i64 2500] BL.out NE_BL_BN.out)
        have n_H := Aside0.mk (below_setRow HB.out GE_BN.out #[.int .i64 3, .int .i64 100, .int .i64 200, .int .i64 2000, .int .i64 1500, .int .i64 500, .int .i64 2, .int .i64 1, .int .i64 1, .int .i64 1, .int .i64 10, .int .i64 50, .int .i64 100, .int .i64 500, .int .i64 2500])
        clear BN BR BL HB
        have BN := n_BN
        have BR := n_BR
        have BL := n_BL
        have HB := n_H
        clear n_BN n_BR n_BL n_H
        generalize W1.setRow g_BN #[.int .i64 3, .int .i64 100, .int .i64 200, .int .i64 2000, .int .i64 1500, .int .i64 500, .int .i64 2, .int .i64 1, .int .i64 1, .int .i64 1, .int .i64 10, .int .i64 50, .int .i64 100, .int .i64 500, .int .i64 2500] = W3 at *
        refine pure_ (i := 11) (N := (some 6)) (v := ?_) (a' := ?_) #[true, true, true, true, true, true, true, true, true, true, true, true] rfl rfl (by kernel_rfl) (fun _ _ _ h => h) (Or.inl ⟨by rfl, ?_⟩) ?_ ?_
        rotate_left
        · intro w'
          go_simp
          with_reducible rfl
        rotate_left
        · simp only [Act.put, List.setIfInBounds_toArray, List.set_cons_zero, List.set_cons_succ, i64_w, i32_w]
          rfl
        refine done_ (by kernel_rfl) ?_
        go_wp2_with (first | ((with_reducible refine gate_dst (N := 38) rfl ?_); refine load_event 23 (.tmp 5) rfl rfl rfl BN.out Try.underlying23 rfl (by kernel_rfl) ?_) | ((with_reducible refine gate_store (t := 23) (p := 1) rfl ?_); refine store_event (t := 23) (p := 1) (v := .tmp 38) (w1 := W3.setRow g_BR #[.int .i64 3, .int .i64 100, .int .i64 200, .int .i64 2000, .int .i64 1500, .int .i64 500, .int .i64 2, .int .i64 1, .int .i64 1, .int .i64 1, .int .i64 10, .int .i64 50, .int .i64 100, .int .i64 500, .int .i64 2500]) ?hg ?ho ?hn ?hr ?_; (case ho => rfl); (case hg => rfl); (case hn => rfl); (case hr => exact run_store_row 23 _ _ _ _ rfl rfl rfl BR.out (by kernel_rfl) rfl (by kernel_rfl)); intro w1_ hw; have n_BR : Aside0 (w1_.heap[g_BR]? = some (.cells #[.int .i64 3, .int .i64 100, .int .i64 200, .int .i64 2000, .int .i64 1500, .int .i64 500, .int .i64 2, .int .i64 1, .int .i64 1, .int .i64 1, .int .i64 10, .int .i64 50, .int .i64 100, .int .i64 500, .int .i64 2500] 23 (0, 0))) := ⟨by rw [hw]; exact blk_row _ BR.out⟩; clear BR; have BR := n_BR; clear n_BR; have n_BL : Aside0 (w1_.heap[g_BL]? = some (.cells #[.int .i64 0, .int .i64 1500, .int .i64 0, .int .i64 0, .int .i64 0, .int .i64 500, .int .i64 0, .int .i64 0, .int .i64 1, .int .i64 1500, .int .i64 110, .int .i64 160, .int .i64 2, .int .i64 500, .int .i64 0, .int .i64 0, .int .i64 3, .int .i64 0, .int .i64 0, .int .i64 200] 34 (0, 0))) := ⟨by rw [hw]; exact blk_rowfar _ BL.out NE_BL_BR.out⟩; clear BL; have BL := n_BL; clear n_BL; have n_BN : Aside0 (w1_.heap[g_BN]? = some (.cells #[.int .i64 3, .int .i64 100, .int .i64 200, .int .i64 2000, .int .i64 1500, .int .i64 500, .int .i64 2, .int .i64 1, .int .i64 1, .int .i64 1, .int .i64 10, .int .i64 50, .int .i64 100, .int .i64 500, .int .i64 2500] 23 (0, 0))) := ⟨by rw [hw]; exact blk_rowfar _ BN.out NE_BN_BR.out⟩; clear BN; have BN := n_BN; clear n_BN; have n_H : Aside0 (Below w.heap.size w w1_) := ⟨by rw [hw]; exact below_setRow HB.out GE_BR.out _⟩; clear HB; have HB := n_H; clear n_H hw))
        go_roundw
        case rel => exact ⟨5, by omega, rfl, rfl, ⟨BR.out⟩, BL, HB⟩
        case measure => simp [intOf]
    · have n1_ : Aside0 (wr.heap[g_BR]? = some (.cells #[.int .i64 3, .int .i64 100, .int .i64 200, .int .i64 2000, .int .i64 1500, .int .i64 500, .int .i64 2, .int .i64 1, .int .i64 1, .int .i64 1, .int .i64 10, .int .i64 50, .int .i64 100, .int .i64 500, .int .i64 2500] 23 (0, 0))) := ⟨BR.out⟩
      clear BR BL
      have BR := n1_
      clear n1_
      have hsame := e15_self 3 100 200 2000 1500 500 2 1 1 1 10 50 100 500 2500
      go_wp2_with (first | ((with_reducible refine gate_dst (N := 41) rfl ?_); refine load_event 23 (.tmp 1) rfl rfl rfl BR.out Try.underlying23 rfl (by kernel_rfl) ?_) | ((with_reducible refine gate_callee (f := 7) rfl ?_); refine goesL_ (some 42) rfl rfl Try.func7 (by kernel_rfl) rfl #[.agg #[.int .i64 3, .int .i64 100, .int .i64 200, .int .i64 2000, .int .i64 1500, .int .i64 500, .int .i64 2, .int .i64 1, .int .i64 1, .int .i64 1, .int .i64 10, .int .i64 50, .int .i64 100, .int .i64 500, .int .i64 2500], .int .i64 1] rfl (by (try simp only [List.map_toArray, List.map_cons, List.map_nil]); first | done | rfl) ?_; (refine (send_v ⟨3, 100, 200, 2000, 1500, 500, 2, 1, 1, 1, 10, 50, 100, 500, 2500⟩ 1 zM 15 _ doc5).mono ?_); rintro e w21_ ⟨rfl, hb⟩; refine ⟨_, rfl, ?_⟩; have n_BR := Aside0.mk (blk_below BR.out hb); clear BR; have BR := n_BR; clear n_BR; have n_H := Aside0.mk (below_step HB.out hb); clear HB; have HB := n_H; clear n_H; clear hb) | ((with_reducible refine gate_dst (N := 7) rfl ?_); refine box_event ?hg (N := 7) ?hd (cs := #[.int .i64 0, .int .i64 0, .int .i64 0, .int .i64 0, .int .i64 0, .int .i64 0, .int .i64 0, .int .i64 0, .int .i64 0, .int .i64 0, .int .i64 0, .int .i64 0, .int .i64 0, .int .i64 0, .int .i64 0]) (t := 23) ?hr ?_; (case hd => rfl); (case hg => rfl); (case hr => first | (go_simp; done) | (go_simp; rfl)); intro g_BZ hg w22_ hbox hb; have GE_BZ : Aside0 (w.heap.size ≤ g_BZ) := ⟨by rw [hg]; exact below_size HB.out⟩; have NE_BR_BZ : Aside0 (g_BR ≠ g_BZ) := ⟨by rw [hg]; exact Nat.ne_of_lt (blk_lt BR.out)⟩; have NE_BZ_BR : Aside0 (g_BZ ≠ g_BR) := ⟨fun e_ => NE_BR_BZ.out e_.symm⟩; have n_BR := Aside0.mk (blk_below BR.out hb); clear BR; have BR := n_BR; clear n_BR; have n_H := Aside0.mk (below_step HB.out hb); clear HB; have HB := n_H; clear n_H; have BZ := Aside0.mk hbox; clear hbox hb hg) | ((with_reducible refine gate_store (t := 23) (p := 7) rfl ?_); refine store_event (t := 23) (p := 7) (v := .tmp 43) (w1 := w22_.setRow g_BZ #[.int .i64 0, .int .i64 0, .int .i64 0, .int .i64 0, .int .i64 0, .int .i64 0, .int .i64 0, .int .i64 0, .int .i64 0, .int .i64 0, .int .i64 0, .int .i64 0, .int .i64 0, .int .i64 0, .int .i64 0]) ?hg ?ho ?hn ?hr ?_; (case ho => rfl); (case hg => rfl); (case hn => rfl); (case hr => exact run_store_row 23 _ _ _ _ rfl rfl rfl BZ.out (by kernel_rfl) rfl (by kernel_rfl)); intro w23_ hw; have n_BR : Aside0 (w23_.heap[g_BR]? = some (.cells #[.int .i64 3, .int .i64 100, .int .i64 200, .int .i64 2000, .int .i64 1500, .int .i64 500, .int .i64 2, .int .i64 1, .int .i64 1, .int .i64 1, .int .i64 10, .int .i64 50, .int .i64 100, .int .i64 500, .int .i64 2500] 23 (0, 0))) := ⟨by rw [hw]; exact blk_rowfar _ BR.out NE_BR_BZ.out⟩; clear BR; have BR := n_BR; clear n_BR; have n_BZ : Aside0 (w23_.heap[g_BZ]? = some (.cells #[.int .i64 0, .int .i64 0, .int .i64 0, .int .i64 0, .int .i64 0, .int .i64 0, .int .i64 0, .int .i64 0, .int .i64 0, .int .i64 0, .int .i64 0, .int .i64 0, .int .i64 0, .int .i64 0, .int .i64 0] 23 (0, 0))) := ⟨by rw [hw]; exact blk_row _ BZ.out⟩; clear BZ; have BZ := n_BZ; clear n_BZ; have n_H : Aside0 (Below w.heap.size w w23_) := ⟨by rw [hw]; exact below_setRow HB.out GE_BZ.out _⟩; clear HB; have HB := n_H; clear n_H hw) | ((with_reducible refine gate_dst (N := 48) rfl ?_); refine gate_guard (by rfl) ?_; refine load_event 23 (.tmp 1) rfl rfl rfl BR.out Try.underlying23 rfl (by kernel_rfl) ?_) | ((with_reducible refine gate_dst (N := 57) rfl ?_); refine gate_guard (by rfl) ?_; refine load_event 23 (.tmp 1) rfl rfl rfl BR.out Try.underlying23 rfl (by kernel_rfl) ?_) | ((with_reducible refine gate_callee (f := 20) rfl ?_); refine gate_guard (by rfl) ?_; refine goesL_ (some 58) rfl rfl Try.func20 (by kernel_rfl) rfl #[.agg #[.int .i64 3, .int .i64 100, .int .i64 200, .int .i64 2000, .int .i64 1500, .int .i64 500, .int .i64 2, .int .i64 1, .int .i64 1, .int .i64 1, .int .i64 10, .int .i64 50, .int .i64 100, .int .i64 500, .int .i64 2500]] rfl (by (try simp only [List.map_toArray, List.map_cons, List.map_nil]); first | done | rfl) ?_; (refine (Done_v ⟨3, 100, 200, 2000, 1500, 500, 2, 1, 1, 1, 10, 50, 100, 500, 2500⟩ true _ doc6).mono ?_); rintro e w24_ ⟨rfl, hb⟩; refine ⟨_, rfl, ?_⟩; have n_BR := Aside0.mk (blk_below BR.out hb); clear BR; have BR := n_BR; clear n_BR; have n_BZ := Aside0.mk (blk_below BZ.out hb); clear BZ; have BZ := n_BZ; clear n_BZ; have n_H := Aside0.mk (below_step HB.out hb); clear HB; have HB := n_H; clear n_H; clear hb))
      go_ret
      exact ⟨rfl, HB.out⟩
end Go.Proofs.Ytiodmgcnpaoooaa.A
