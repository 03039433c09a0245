import Derived.Laws.ResultCell
import Derived.Laws.CopyOwn
import Derived.Test.YtocdpfdnnijdkaaKB
namespace Go.Proofs.Ytocdpfdnnijdkaa.G
open Go.RowKit Go.Proofs.YtocdpfdnnijdkaaW.PrintWords Go.Proofs.YtocdpfdnnijdkaaW.PrintLast Go.Proofs.YtocdpfdnnijdkaaW.PrintMore
attribute [local go_sem] max2_int min2_int max_two min_two max_three min_three max_four min_four
attribute [local go_sem] Go.Proofs.YtocdpfdnnijdkaaS.cell_set_map Go.Proofs.YtocdpfdnnijdkaaS.setCell_drewN
set_option linter.unusedVariables false
set_option linter.unusedSimpArgs false
set_option maxHeartbeats 8000000 in
set_option maxRecDepth 100000 in
theorem refPeek_none (B gm : Nat) (u : Value) (ml : List S24) (most : Int) (r : Int) (hf : pacemakerref29_first.f (ml.length + 1) ml = some r) (hr : r < 0) (w : World) (h : MG B w gm u ml most) :
    Calls Try.prog 16 #[.pointer (some ⟨gm, 0, none⟩)] w fun e w' => e = .returned (.tuple #[.agg #[.int .i64 0, .int .i64 0, .int .i64 0, .int .u64 0], .bool false]) ∧ Below w.heap.size w w' := by
  have hu24 := Try.underlying24
  have hu44 := Try.underlying44
  obtain ⟨A, c, rfl, hcc, _⟩ := Kd.R_reads h.2.1
  have BR := Aside0.mk (blk_new w (.cells #[.int .i64 0, .int .i64 0, .int .i64 0, .int .u64 0] 24 (0, 0)))
  have HM := Aside0.mk (MG_below h (below_alloc (Below.refl _ _) (.cells #[.int .i64 0, .int .i64 0, .int .i64 0, .int .u64 0] 24 (0, 0))))
  have HB := Aside0.mk (below_alloc (Below.refl w.heap.size w) (.cells #[.int .i64 0, .int .i64 0, .int .i64 0, .int .u64 0] 24 (0, 0)))
  have HC := Aside0.mk hcc
  have HF := Aside0.mk hf
  have hc1_0 : (w.alloc (.cells #[.int .i64 0, .int .i64 0, .int .i64 0, .int .u64 0] 24 (0, 0))).cell? ⟨gm, 1, none⟩ = some (.slice A ml.length c) := (blk_cell HM.out.1 1).trans rfl
  have p1 : decide (r < 0) = true := decide_eq_true hr
  clear h
  go_enter Try.func16, Try.ntmps16
  go_wp2_with (first | ((with_reducible refine gate_callee (f := 23) rfl ?_); refine goesL_ (some 9) rfl rfl Try.func23 (by kernel_rfl) rfl #[.slice A ml.length c] rfl (by (try simp only [List.map_toArray, List.map_cons, List.map_nil]); first | done | rfl) ?_; (refine (pacemakerref29_first.calls _ A c ml r _ (Kd.R_reads' HM.out.2.1).2.2 HC.out HF.out).mono ?_); rintro e w1 ⟨rfl, hd⟩; have hb := hd.below; refine ⟨_, rfl, ?_⟩; have n_HM := Aside0.mk (MG_below HM.out hb); have n_BR := Aside0.mk (blk_below BR.out hb); have n_HB := Aside0.mk (below_step HB.out hb); clear HM BR HB; have HM := n_HM; have BR := n_BR; have HB := n_HB; clear n_HM n_BR n_HB; clear hb hd; have hc1 : w1.cell? ⟨gm, 1, none⟩ = some (.slice A ml.length c) := (blk_cell HM.out.1 1).trans rfl; clear hc1_0) | ((with_reducible refine gate_store (t := 24) (p := 2) rfl ?_); refine store_event (t := 24) (p := 2) (v := .tmp 12) (w1 := (w1).setRow w.heap.size #[.int .i64 0, .int .i64 0, .int .i64 0, .int .u64 0]) ?hg ?ho ?hn ?hr ?_; (case ho => rfl); (case hg => rfl); (case hn => rfl); (case hr => exact run_store_row 24 _ _ _ _ rfl rfl rfl BR.out (by kernel_rfl) rfl (by kernel_rfl)); intro w9 hw; have n_HB : Aside0 (Below w.heap.size w w9) := ⟨by rw [hw]; exact below_setRow HB.out (Nat.le_refl _) _⟩; have n_BR : Aside0 (w9.heap[w.heap.size]? = some (.cells #[.int .i64 0, .int .i64 0, .int .i64 0, .int .u64 0] 24 (0, 0))) := ⟨by rw [hw]; exact blk_row _ BR.out⟩; clear hw HB BR; have HB := n_HB; have BR := n_BR; clear n_HB n_BR))
  try simp only [Exit.inBlock, Exit.then]
  refine bodyPost_ret (results_cell2 rfl _ _ w.heap.size 24 _ _ rfl BR.out Try.underlying24 rfl (by kernel_rfl)) rfl ?_
  exact ⟨rfl, HB.out⟩
set_option maxHeartbeats 8000000 in
set_option maxRecDepth 100000 in
theorem refPeek_some (B gm : Nat) (u : Value) (ml : List S24) (most : Int) (a : Nat) (x : S24) (hf : pacemakerref29_first.f (ml.length + 1) ml = some (a : Int)) (ha : a < ml.length) (hx : gM ml a = x) (w : World) (h : MG B w gm u ml most) :
    Calls Try.prog 16 #[.pointer (some ⟨gm, 0, none⟩)] w fun e w' => e = .returned (.tuple #[.agg #[.int .i64 x.f0, .int .i64 x.f1, .int .i64 x.f2, .int .u64 x.f3], .bool true]) ∧ Below w.heap.size w w' := by
  have hu24 := Try.underlying24
  have hu44 := Try.underlying44
  obtain ⟨A, c, rfl, hcc, _⟩ := Kd.R_reads h.2.1
  have BR := Aside0.mk (blk_new w (.cells #[.int .i64 0, .int .i64 0, .int .i64 0, .int .u64 0] 24 (0, 0)))
  have HM := Aside0.mk (MG_below h (below_alloc (Below.refl _ _) (.cells #[.int .i64 0, .int .i64 0, .int .i64 0, .int .u64 0] 24 (0, 0))))
  have HB := Aside0.mk (below_alloc (Below.refl w.heap.size w) (.cells #[.int .i64 0, .int .i64 0, .int .i64 0, .int .u64 0] 24 (0, 0)))
  have HC := Aside0.mk hcc
  have HF := Aside0.mk hf
  have hc1_0 : (w.alloc (.cells #[.int .i64 0, .int .i64 0, .int .i64 0, .int .u64 0] 24 (0, 0))).cell? ⟨gm, 1, none⟩ = some (.slice A ml.length c) := (blk_cell HM.out.1 1).trans rfl
  have HA0 : Aside0 (0 ≤ (a : Int)) := ⟨by omega⟩
  have HA1 : Aside0 ((a : Int) < (ml.length : Int)) := ⟨by omega⟩
  have q0 : (0 : Int) ≤ (a : Int) := by omega
  have q1 : (a : Int) < (ml.length : Int) := by omega
  have q2 : a < ml.length := ha
  have HGX : Aside0 (rd_T24 ml (a : Int) = x) := ⟨hx⟩
  have p1 : decide ((a : Int) < 0) = false := decide_eq_false (by omega)
  clear hx
  clear h
  go_enter Try.func16, Try.ntmps16
  go_wp2_with (first | ((with_reducible refine gate_callee (f := 23) rfl ?_); refine goesL_ (some 9) rfl rfl Try.func23 (by kernel_rfl) rfl #[.slice A ml.length c] rfl (by (try simp only [List.map_toArray, List.map_cons, List.map_nil]); first | done | rfl) ?_; (refine (pacemakerref29_first.calls _ A c ml (a : Int) _ (Kd.R_reads' HM.out.2.1).2.2 HC.out HF.out).mono ?_); rintro e w1 ⟨rfl, hd⟩; have hb := hd.below; refine ⟨_, rfl, ?_⟩; have n_HM := Aside0.mk (MG_below HM.out hb); have n_BR := Aside0.mk (blk_below BR.out hb); have n_HB := Aside0.mk (below_step HB.out hb); clear HM BR HB; have HM := n_HM; have BR := n_BR; have HB := n_HB; clear n_HM n_BR n_HB; clear hb hd; have hc1 : w1.cell? ⟨gm, 1, none⟩ = some (.slice A ml.length c) := (blk_cell HM.out.1 1).trans rfl; clear hc1_0; obtain ⟨ad, e2, hz0, hz1, hz2, hz3⟩ := at_T24 (Kd.R_reads' HM.out.2.1).2.2 (a : Int) HA0.out HA1.out; subst e2; rw [HGX.out] at hz0 hz1 hz2 hz3; simp only [Int.toNat_natCast] at hz0 hz1 hz2 hz3) | ((with_reducible refine gate_store (t := 24) (p := 2) rfl ?_); refine store_event (t := 24) (p := 2) (v := .tmp 19) (w1 := (w1).setRow w.heap.size #[.int .i64 x.f0, .int .i64 x.f1, .int .i64 x.f2, .int .u64 x.f3]) ?hg ?ho ?hn ?hr ?_; (case ho => rfl); (case hg => rfl); (case hn => rfl); (case hr => exact run_store_row 24 _ _ _ _ rfl rfl rfl BR.out (by kernel_rfl) rfl (by kernel_rfl)); intro w9 hw; have n_HB : Aside0 (Below w.heap.size w w9) := ⟨by rw [hw]; exact below_setRow HB.out (Nat.le_refl _) _⟩; have n_BR : Aside0 (w9.heap[w.heap.size]? = some (.cells #[.int .i64 x.f0, .int .i64 x.f1, .int .i64 x.f2, .int .u64 x.f3] 24 (0, 0))) := ⟨by rw [hw]; exact blk_row _ BR.out⟩; clear hw HB BR; have HB := n_HB; have BR := n_BR; clear n_HB n_BR))
  try simp only [Exit.inBlock, Exit.then]
  refine bodyPost_ret (results_cell2 rfl _ _ w.heap.size 24 _ _ rfl BR.out Try.underlying24 rfl (by kernel_rfl)) rfl ?_
  exact ⟨rfl, HB.out⟩
set_option maxHeartbeats 8000000 in
set_option maxRecDepth 100000 in
theorem refNext_none (B gm : Nat) (u : Value) (ml : List S24) (most : Int) (till : Int) (r : Int) (hf : pacemakerref29_first.f (ml.length + 1) ml = some r) (hr : r < 0) (w : World) (h : MG B w gm u ml most) :
    Calls Try.prog 14 #[.pointer (some ⟨gm, 0, none⟩), .int .i64 till] w fun e w' => e = .returned (.tuple #[.agg #[.int .i64 0, .int .i64 0, .int .i64 0, .int .u64 0], .bool false]) ∧ Below w.heap.size w w' := by
  have hu24 := Try.underlying24
  have hu44 := Try.underlying44
  obtain ⟨A, c, rfl, hcc, _⟩ := Kd.R_reads h.2.1
  have BR := Aside0.mk (blk_new w (.cells #[.int .i64 0, .int .i64 0, .int .i64 0, .int .u64 0] 24 (0, 0)))
  have HM := Aside0.mk (MG_below h (below_alloc (Below.refl _ _) (.cells #[.int .i64 0, .int .i64 0, .int .i64 0, .int .u64 0] 24 (0, 0))))
  have HB := Aside0.mk (below_alloc (Below.refl w.heap.size w) (.cells #[.int .i64 0, .int .i64 0, .int .i64 0, .int .u64 0] 24 (0, 0)))
  have HC := Aside0.mk hcc
  have HF := Aside0.mk hf
  have hc1_0 : (w.alloc (.cells #[.int .i64 0, .int .i64 0, .int .i64 0, .int .u64 0] 24 (0, 0))).cell? ⟨gm, 1, none⟩ = some (.slice A ml.length c) := (blk_cell HM.out.1 1).trans rfl
  have p1 : decide (r < 0) = true := decide_eq_true hr
  clear h
  go_enter Try.func14, Try.ntmps14
  go_wp2_with (first | ((with_reducible refine gate_callee (f := 23) rfl ?_); refine goesL_ (some 12) rfl rfl Try.func23 (by kernel_rfl) rfl #[.slice A ml.length c] rfl (by (try simp only [List.map_toArray, List.map_cons, List.map_nil]); first | done | rfl) ?_; (refine (pacemakerref29_first.calls _ A c ml r _ (Kd.R_reads' HM.out.2.1).2.2 HC.out HF.out).mono ?_); rintro e w1 ⟨rfl, hd⟩; have hb := hd.below; refine ⟨_, rfl, ?_⟩; have n_HM := Aside0.mk (MG_below HM.out hb); have n_BR := Aside0.mk (blk_below BR.out hb); have n_HB := Aside0.mk (below_step HB.out hb); clear HM BR HB; have HM := n_HM; have BR := n_BR; have HB := n_HB; clear n_HM n_BR n_HB; clear hb hd; have hc1 : w1.cell? ⟨gm, 1, none⟩ = some (.slice A ml.length c) := (blk_cell HM.out.1 1).trans rfl; clear hc1_0) | ((with_reducible refine gate_store (t := 24) (p := 4) rfl ?_); refine store_event (t := 24) (p := 4) (v := .tmp 27) (w1 := (w1).setRow w.heap.size #[.int .i64 0, .int .i64 0, .int .i64 0, .int .u64 0]) ?hg ?ho ?hn ?hr ?_; (case ho => rfl); (case hg => rfl); (case hn => rfl); (case hr => exact run_store_row 24 _ _ _ _ rfl rfl rfl BR.out (by kernel_rfl) rfl (by kernel_rfl)); intro w9 hw; have n_HB : Aside0 (Below w.heap.size w w9) := ⟨by rw [hw]; exact below_setRow HB.out (Nat.le_refl _) _⟩; have n_BR : Aside0 (w9.heap[w.heap.size]? = some (.cells #[.int .i64 0, .int .i64 0, .int .i64 0, .int .u64 0] 24 (0, 0))) := ⟨by rw [hw]; exact blk_row _ BR.out⟩; clear hw HB BR; have HB := n_HB; have BR := n_BR; clear n_HB n_BR))
  try simp only [Exit.inBlock, Exit.then]
  refine bodyPost_ret (results_cell2 rfl _ _ w.heap.size 24 _ _ rfl BR.out Try.underlying24 rfl (by kernel_rfl)) rfl ?_
  exact ⟨rfl, HB.out⟩
set_option maxHeartbeats 8000000 in
set_option maxRecDepth 100000 in
theorem refNext_late (B gm : Nat) (u : Value) (ml : List S24) (most : Int) (till : Int) (a : Nat) (x : S24) (hf : pacemakerref29_first.f (ml.length + 1) ml = some (a : Int)) (ha : a < ml.length) (hx : gM ml a = x) (ht : till < x.f0) (w : World) (h : MG B w gm u ml most) :
    Calls Try.prog 14 #[.pointer (some ⟨gm, 0, none⟩), .int .i64 till] w fun e w' => e = .returned (.tuple #[.agg #[.int .i64 0, .int .i64 0, .int .i64 0, .int .u64 0], .bool false]) ∧ Below w.heap.size w w' := by
  have hu24 := Try.underlying24
  have hu44 := Try.underlying44
  obtain ⟨A, c, rfl, hcc, _⟩ := Kd.R_reads h.2.1
  have BR := Aside0.mk (blk_new w (.cells #[.int .i64 0, .int .i64 0, .int .i64 0, .int .u64 0] 24 (0, 0)))
  have HM := Aside0.mk (MG_below h (below_alloc (Below.refl _ _) (.cells #[.int .i64 0, .int .i64 0, .int .i64 0, .int .u64 0] 24 (0, 0))))
  have HB := Aside0.mk (below_alloc (Below.refl w.heap.size w) (.cells #[.int .i64 0, .int .i64 0, .int .i64 0, .int .u64 0] 24 (0, 0)))
  have HC := Aside0.mk hcc
  have HF := Aside0.mk hf
  have hc1_0 : (w.alloc (.cells #[.int .i64 0, .int .i64 0, .int .i64 0, .int .u64 0] 24 (0, 0))).cell? ⟨gm, 1, none⟩ = some (.slice A ml.length c) := (blk_cell HM.out.1 1).trans rfl
  have HA0 : Aside0 (0 ≤ (a : Int)) := ⟨by omega⟩
  have HA1 : Aside0 ((a : Int) < (ml.length : Int)) := ⟨by omega⟩
  have q0 : (0 : Int) ≤ (a : Int) := by omega
  have q1 : (a : Int) < (ml.length : Int) := by omega
  have q2 : a < ml.length := ha
  have HGX : Aside0 (rd_T24 ml (a : Int) = x) := ⟨hx⟩
  have p1 : decide ((a : Int) < 0) = false := decide_eq_false (by omega)
  clear hx
  have p2 : decide (till < x.f0) = true := decide_eq_true ht
  clear h
  go_enter Try.func14, Try.ntmps14
  go_wp2_with (first | ((with_reducible refine gate_callee (f := 23) rfl ?_); refine goesL_ (some 12) rfl rfl Try.func23 (by kernel_rfl) rfl #[.slice A ml.length c] rfl (by (try simp only [List.map_toArray, List.map_cons, List.map_nil]); first | done | rfl) ?_; (refine (pacemakerref29_first.calls _ A c ml (a : Int) _ (Kd.R_reads' HM.out.2.1).2.2 HC.out HF.out).mono ?_); rintro e w1 ⟨rfl, hd⟩; have hb := hd.below; refine ⟨_, rfl, ?_⟩; have n_HM := Aside0.mk (MG_below HM.out hb); have n_BR := Aside0.mk (blk_below BR.out hb); have n_HB := Aside0.mk (below_step HB.out hb); clear HM BR HB; have HM := n_HM; have BR := n_BR; have HB := n_HB; clear n_HM n_BR n_HB; clear hb hd; have hc1 : w1.cell? ⟨gm, 1, none⟩ = some (.slice A ml.length c) := (blk_cell HM.out.1 1).trans rfl; clear hc1_0; obtain ⟨ad, e2, hz0, hz1, hz2, hz3⟩ := at_T24 (Kd.R_reads' HM.out.2.1).2.2 (a : Int) HA0.out HA1.out; subst e2; rw [HGX.out] at hz0 hz1 hz2 hz3; simp only [Int.toNat_natCast] at hz0 hz1 hz2 hz3) | ((with_reducible refine gate_store (t := 24) (p := 4) rfl ?_); refine store_event (t := 24) (p := 4) (v := .tmp 27) (w1 := (w1).setRow w.heap.size #[.int .i64 0, .int .i64 0, .int .i64 0, .int .u64 0]) ?hg ?ho ?hn ?hr ?_; (case ho => rfl); (case hg => rfl); (case hn => rfl); (case hr => exact run_store_row 24 _ _ _ _ rfl rfl rfl BR.out (by kernel_rfl) rfl (by kernel_rfl)); intro w9 hw; have n_HB : Aside0 (Below w.heap.size w w9) := ⟨by rw [hw]; exact below_setRow HB.out (Nat.le_refl _) _⟩; have n_BR : Aside0 (w9.heap[w.heap.size]? = some (.cells #[.int .i64 0, .int .i64 0, .int .i64 0, .int .u64 0] 24 (0, 0))) := ⟨by rw [hw]; exact blk_row _ BR.out⟩; clear hw HB BR; have HB := n_HB; have BR := n_BR; clear n_HB n_BR))
  try simp only [Exit.inBlock, Exit.then]
  refine bodyPost_ret (results_cell2 rfl _ _ w.heap.size 24 _ _ rfl BR.out Try.underlying24 rfl (by kernel_rfl)) rfl ?_
  exact ⟨rfl, HB.out⟩
end Go.Proofs.Ytocdpfdnnijdkaa.G
