import Derived.Test.YtiodmgcnpaoooaaB1
import Derived.Test.YtiodmgcnpaoooaaAx4
namespace Go.Proofs.Ytiodmgcnpaoooaa.A
open Go.RowKit Go.Proofs.YtiodmgcnpaoooaaW.PrintWords Go.Proofs.YtiodmgcnpaoooaaW.PrintLast Go.Proofs.YtiodmgcnpaoooaaW.PrintMore
attribute [local go_sem] max2_int min2_int max_two min_two max_three min_three max_four min_four
attribute [local go_sem] Go.Proofs.YtiodmgcnpaoooaaS.cell_set_map Go.Proofs.YtiodmgcnpaoooaaS.setCell_drewN
set_option linter.unusedVariables false
set_option linter.unusedSimpArgs false
theorem res_v (m : S23) (b : Bool) (w : World) (h : resB m = b) : Calls Try.prog 32 #[.agg #[.int .i64 m.f0, .int .i64 m.f1, .int .i64 m.f2, .int .i64 m.f3, .int .i64 m.f4, .int .i64 m.f5, .int .i64 m.f6, .int .i64 m.f7, .int .i64 m.f8, .int .i64 m.f9, .int .i64 m.f10, .int .i64 m.f11, .int .i64 m.f12, .int .i64 m.f13, .int .i64 m.f14]] w fun e w' => e = .returned (.bool b) ∧ Below w.heap.size w w' :=
  (account_book_resolved.calls m.f0 m.f1 m.f2 m.f3 m.f4 m.f5 m.f6 m.f7 m.f8 m.f9 m.f10 m.f11 m.f12 m.f13 m.f14 b w (by rw [res_eq, h])).mono fun e w' h => ⟨h.1, h.2⟩
theorem run_field44 (x0 x1 x2 x3 x4 x5 x6 x7 x8 x9 x10 x11 x12 x13 x14 : Int) (w : World) : (Instr.field 44 (.agg #[.int .i64 x0, .int .i64 x1, .int .i64 x2, .int .i64 x3, .int .i64 x4, .int .i64 x5, .int .i64 x6, .int .i64 x7, .int .i64 x8, .int .i64 x9, .int .i64 x10, .int .i64 x11, .int .i64 x12, .int .i64 x13, .int .i64 x14]) 0).run Try.prog w = .ok (.agg #[.int .i64 x0, .int .i64 x1, .int .i64 x2, .int .i64 x3, .int .i64 x4, .int .i64 x5, .int .i64 x6, .int .i64 x7, .int .i64 x8, .int .i64 x9, .int .i64 x10, .int .i64 x11, .int .i64 x12, .int .i64 x13, .int .i64 x14]) w := by kernel_rfl
attribute [local go_sem] run_field44
set_option maxHeartbeats 16000000 in
set_option maxRecDepth 100000 in
theorem Done_v (m : S23) (b : Bool) (w : World) (h : isDone m = b) : Calls Try.prog 20 #[.agg #[.int .i64 m.f0, .int .i64 m.f1, .int .i64 m.f2, .int .i64 m.f3, .int .i64 m.f4, .int .i64 m.f5, .int .i64 m.f6, .int .i64 m.f7, .int .i64 m.f8, .int .i64 m.f9, .int .i64 m.f10, .int .i64 m.f11, .int .i64 m.f12, .int .i64 m.f13, .int .i64 m.f14]] w fun e w' => e = .returned (.bool b) ∧ Below w.heap.size w w' := by
  have hu23 := Try.underlying23
  have hu42 := Try.underlying42
  have hu44 := Try.underlying44
  unfold isDone at h
  cases hi : isB m with
  | false =>
    rw [hi] at h
    obtain rfl : b = false := h.symm
    clear h
    have HI := Aside0.mk hi
    clear hi
    have HB := Aside0.mk (Below.refl w.heap.size w)
    go_enter Try.func20, Try.ntmps20
    go_wp2_with (first | ((with_reducible refine gate_dst (N := 1) rfl ?_); refine box_event ?hg (N := 1) ?hd (cs := #[.int .i64 m.f0, .int .i64 m.f1, .int .i64 m.f2, .int .i64 m.f3, .int .i64 m.f4, .int .i64 m.f5, .int .i64 m.f6, .int .i64 m.f7, .int .i64 m.f8, .int .i64 m.f9, .int .i64 m.f10, .int .i64 m.f11, .int .i64 m.f12, .int .i64 m.f13, .int .i64 m.f14]) (t := 23) ?hr ?_; (case hd => rfl); (case hg => rfl); (case hr => first | (go_simp; done) | (go_simp; rfl)); intro g_BS hg w1_ hbox hb; have GE_BS : Aside0 (w.heap.size ≤ g_BS) := ⟨by rw [hg]; exact below_size HB.out⟩; have n_H := Aside0.mk (below_step HB.out hb); clear HB; have HB := n_H; clear n_H; have BS := Aside0.mk hbox; clear hbox hb hg) | ((with_reducible refine gate_dst (N := 3) rfl ?_); refine load_event 23 (.tmp 1) rfl rfl rfl BS.out Try.underlying23 rfl (by kernel_rfl) ?_) | ((with_reducible refine gate_callee (f := 18) rfl ?_); refine goesL_ (some 4) rfl rfl Try.func18 (by kernel_rfl) rfl #[.agg #[.int .i64 m.f0, .int .i64 m.f1, .int .i64 m.f2, .int .i64 m.f3, .int .i64 m.f4, .int .i64 m.f5, .int .i64 m.f6, .int .i64 m.f7, .int .i64 m.f8, .int .i64 m.f9, .int .i64 m.f10, .int .i64 m.f11, .int .i64 m.f12, .int .i64 m.f13, .int .i64 m.f14]] rfl (by (try simp only [List.map_toArray, List.map_cons, List.map_nil]); first | done | rfl) ?_; (refine (Is_v m false _ HI.out).mono ?_); rintro e w2_ ⟨rfl, hb⟩; refine ⟨_, rfl, ?_⟩; have n_BS := Aside0.mk (blk_below BS.out hb); clear BS; have BS := n_BS; clear n_BS; have n_H := Aside0.mk (below_step HB.out hb); clear HB; have HB := n_H; clear n_H; clear hb))
    go_ret
    exact ⟨rfl, HB.out⟩
  | true =>
    rw [hi, Bool.true_and] at h
    have HI := Aside0.mk hi
    clear hi
    by_cases c1 : m.f2 = -1
    · have e1 : decide (m.f2 = -1) = true := decide_eq_true c1
      rw [e1] at h
      obtain rfl : b = false := h.symm
      have p1 : (m.f2 == -1) = true := by rw [c1]; rfl
      have p1b : (m.f2 != -1) = false := by rw [c1]; rfl
      clear h c1 e1
      have HB := Aside0.mk (Below.refl w.heap.size w)
      go_enter Try.func20, Try.ntmps20
      go_wp2_with (first | ((with_reducible refine gate_dst (N := 1) rfl ?_); refine box_event ?hg (N := 1) ?hd (cs := #[.int .i64 m.f0, .int .i64 m.f1, .int .i64 m.f2, .int .i64 m.f3, .int .i64 m.f4, .int .i64 m.f5, .int .i64 m.f6, .int .i64 m.f7, .int .i64 m.f8, .int .i64 m.f9, .int .i64 m.f10, .int .i64 m.f11, .int .i64 m.f12, .int .i64 m.f13, .int .i64 m.f14]) (t := 23) ?hr ?_; (case hd => rfl); (case hg => rfl); (case hr => first | (go_simp; done) | (go_simp; rfl)); intro g_BS hg w1_ hbox hb; have GE_BS : Aside0 (w.heap.size ≤ g_BS) := ⟨by rw [hg]; exact below_size HB.out⟩; have n_H := Aside0.mk (below_step HB.out hb); clear HB; have HB := n_H; clear n_H; have BS := Aside0.mk hbox; clear hbox hb hg) | ((with_reducible refine gate_dst (N := 3) rfl ?_); refine load_event 23 (.tmp 1) rfl rfl rfl BS.out Try.underlying23 rfl (by kernel_rfl) ?_) | ((with_reducible refine gate_callee (f := 18) rfl ?_); refine goesL_ (some 4) rfl rfl Try.func18 (by kernel_rfl) rfl #[.agg #[.int .i64 m.f0, .int .i64 m.f1, .int .i64 m.f2, .int .i64 m.f3, .int .i64 m.f4, .int .i64 m.f5, .int .i64 m.f6, .int .i64 m.f7, .int .i64 m.f8, .int .i64 m.f9, .int .i64 m.f10, .int .i64 m.f11, .int .i64 m.f12, .int .i64 m.f13, .int .i64 m.f14]] rfl (by (try simp only [List.map_toArray, List.map_cons, List.map_nil]); first | done | rfl) ?_; (refine (Is_v m true _ HI.out).mono ?_); rintro e w2_ ⟨rfl, hb⟩; refine ⟨_, rfl, ?_⟩; have n_BS := Aside0.mk (blk_below BS.out hb); clear BS; have BS := n_BS; clear n_BS; have n_H := Aside0.mk (below_step HB.out hb); clear HB; have HB := n_H; clear n_H; clear hb; have hc1_ : w2_.cell? ⟨g_BS, 2, none⟩ = some (.int .i64 m.f2) := (blk_cell BS.out 2).trans rfl))
      go_ret
      exact ⟨rfl, HB.out⟩
    · have e1 : decide (m.f2 = -1) = false := decide_eq_false c1
      rw [e1] at h
      have hb2 : resB m = b := h
      have p1 : (m.f2 == -1) = false := beq_eq_false_iff_ne.mpr c1
      have p1b : (m.f2 != -1) = true := bne_iff_ne.mpr c1
      have HRS := Aside0.mk hb2
      clear h c1 e1 hb2
      have HB := Aside0.mk (Below.refl w.heap.size w)
      go_enter Try.func20, Try.ntmps20
      go_wp2_with (first | ((with_reducible refine gate_dst (N := 1) rfl ?_); refine box_event ?hg (N := 1) ?hd (cs := #[.int .i64 m.f0, .int .i64 m.f1, .int .i64 m.f2, .int .i64 m.f3, .int .i64 m.f4, .int .i64 m.f5, .int .i64 m.f6, .int .i64 m.f7, .int .i64 m.f8, .int .i64 m.f9, .int .i64 m.f10, .int .i64 m.f11, .int .i64 m.f12, .int .i64 m.f13, .int .i64 m.f14]) (t := 23) ?hr ?_; (case hd => rfl); (case hg => rfl); (case hr => first | (go_simp; done) | (go_simp; rfl)); intro g_BS hg w1_ hbox hb; have GE_BS : Aside0 (w.heap.size ≤ g_BS) := ⟨by rw [hg]; exact below_size HB.out⟩; have n_H := Aside0.mk (below_step HB.out hb); clear HB; have HB := n_H; clear n_H; have BS := Aside0.mk hbox; clear hbox hb hg) | ((with_reducible refine gate_dst (N := 3) rfl ?_); refine load_event 23 (.tmp 1) rfl rfl rfl BS.out Try.underlying23 rfl (by kernel_rfl) ?_) | ((with_reducible refine gate_callee (f := 18) rfl ?_); refine goesL_ (some 4) rfl rfl Try.func18 (by kernel_rfl) rfl #[.agg #[.int .i64 m.f0, .int .i64 m.f1, .int .i64 m.f2, .int .i64 m.f3, .int .i64 m.f4, .int .i64 m.f5, .int .i64 m.f6, .int .i64 m.f7, .int .i64 m.f8, .int .i64 m.f9, .int .i64 m.f10, .int .i64 m.f11, .int .i64 m.f12, .int .i64 m.f13, .int .i64 m.f14]] rfl (by (try simp only [List.map_toArray, List.map_cons, List.map_nil]); first | done | rfl) ?_; (refine (Is_v m true _ HI.out).mono ?_); rintro e w2_ ⟨rfl, hb⟩; refine ⟨_, rfl, ?_⟩; have n_BS := Aside0.mk (blk_below BS.out hb); clear BS; have BS := n_BS; clear n_BS; have n_H := Aside0.mk (below_step HB.out hb); clear HB; have HB := n_H; clear n_H; clear hb; have hc1_ : w2_.cell? ⟨g_BS, 2, none⟩ = some (.int .i64 m.f2) := (blk_cell BS.out 2).trans rfl) | ((with_reducible refine gate_dst (N := 11) rfl ?_); refine gate_guard (by rfl) ?_; refine load_event 23 (.tmp 1) rfl rfl rfl BS.out Try.underlying23 rfl (by kernel_rfl) ?_) | ((with_reducible refine gate_callee (f := 32) rfl ?_); refine gate_guard (by rfl) ?_; refine goesL_ (some 15) rfl rfl Try.func32 (by kernel_rfl) rfl #[.agg #[.int .i64 m.f0, .int .i64 m.f1, .int .i64 m.f2, .int .i64 m.f3, .int .i64 m.f4, .int .i64 m.f5, .int .i64 m.f6, .int .i64 m.f7, .int .i64 m.f8, .int .i64 m.f9, .int .i64 m.f10, .int .i64 m.f11, .int .i64 m.f12, .int .i64 m.f13, .int .i64 m.f14]] rfl (by (try simp only [List.map_toArray, List.map_cons, List.map_nil]); first | done | rfl) ?_; (refine (res_v m b _ HRS.out).mono ?_); rintro e w3_ ⟨rfl, hb⟩; refine ⟨_, rfl, ?_⟩; have n_BS := Aside0.mk (blk_below BS.out hb); clear BS; have BS := n_BS; clear n_BS; have n_H := Aside0.mk (below_step HB.out hb); clear HB; have HB := n_H; clear n_H; clear hb; (try clear hc1_)))
      go_ret
      exact ⟨rfl, HB.out⟩
end Go.Proofs.Ytiodmgcnpaoooaa.A
