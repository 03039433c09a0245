import Derived.Laws.ResultCell
import Derived.Laws.CopyOwn
import Derived.Test.YtocdpfdnnijdkaaG5
namespace Go.Proofs.Ytocdpfdnnijdkaa.G
open Go.RowKit Go.Proofs.YtocdpfdnnijdkaaW.PrintWords Go.Proofs.YtocdpfdnnijdkaaW.PrintLast Go.Proofs.YtocdpfdnnijdkaaW.PrintMore
attribute [local go_sem] max2_int min2_int max_two min_two max_three min_three max_four min_four
attribute [local go_sem] Go.Proofs.YtocdpfdnnijdkaaS.cell_set_map Go.Proofs.YtocdpfdnnijdkaaS.setCell_drewN
set_option linter.unusedVariables false
set_option linter.unusedSimpArgs false
theorem results_cell2 {P : Program} {fn : Func} {p u : Tmp} {ty : TypeId} (h : fn.results = #[.cell p ty, .tmp u]) (tmps : Array Value) (w : World) (g t : Nat) (cs : Array Value) (d : TypeDesc) (hp : tmps.getD p undef = .pointer (some ⟨g, 0, none⟩)) (hg : w.heap[g]? = some (.cells cs t (0, 0)))
    (hu : P.underlying ty = some d) (hd : (match d with | .struct _ | .array _ _ => true | _ => false) = true) (hi : (P.info? ty).map (·.size) = some cs.size) : (results fn tmps).run P w = .ok (.tuple #[.agg cs, tmps.getD u undef]) w := by
  rw [results_cell_tmp h, hp]
  simp only [asAddr, Sem.run_pure, Result.andThen_ok, run_loadVar_row w g t ty cs (0, 0) d hg hu hd hi]
theorem HR_ev {w : World} {b cap : Nat} {l : List S60} (h : HR w b cap l) {i : Nat} {x : S60} (hi : l[i]? = some x) : w.rangeAt b (i * 5) [.int .i64 x.f0, .int .i64 x.f1, .int .i64 x.f2, .int .u64 x.f3] := by
  intro j v hv
  refine HR_range h hi j v ?_
  have hj := (List.getElem?_eq_some_iff.1 hv).1
  have e : eC x = [.int .i64 x.f0, .int .i64 x.f1, .int .i64 x.f2, .int .u64 x.f3] ++ [.int .i64 x.f4] := rfl
  rw [e, List.getElem?_append_left hj]
  exact hv
theorem AR_HR {w : World} {b cap m : Nat} {l : List S60} (h : AR w (.slice (some ⟨b, 0, none⟩) m cap) l) : HR w b cap l := by
  rcases h with ⟨e, _⟩ | ⟨b', cap', e, h⟩
  · cases e
  · cases e
    exact h
set_option maxHeartbeats 4000000 in
set_option maxRecDepth 100000 in
theorem Peek_none (g : Nat) (v : Value) (l : List S60) (most n : Int) (hl : l = []) (w : World) (h : AG w g v l most n) :
    Calls Try.prog 15 #[.pointer (some ⟨g, 0, none⟩)] w fun e w' => e = .returned (.tuple #[.agg #[.int .i64 0, .int .i64 0, .int .i64 0, .int .u64 0], .bool false]) ∧ Below w.heap.size w w' := by
  have hu24 := Try.underlying24
  obtain ⟨A, c, rfl⟩ := AR_form h.2.1
  have BR := Aside0.mk (blk_new w (.cells #[.int .i64 0, .int .i64 0, .int .i64 0, .int .u64 0] 24 (0, 0)))
  have HA := Aside0.mk (AG_below h (below_alloc (Below.refl _ _) (.cells #[.int .i64 0, .int .i64 0, .int .i64 0, .int .u64 0] 24 (0, 0))))
  have HB := Aside0.mk (below_alloc (Below.refl w.heap.size w) (.cells #[.int .i64 0, .int .i64 0, .int .i64 0, .int .u64 0] 24 (0, 0)))
  have p1 : ((l.length : Int) == 0) = true := by rw [hl]; rfl
  clear hl
  clear h
  go_enter Try.func15, Try.ntmps15
  go_wp2_with (first | ((with_reducible refine gate_callee (f := 10) rfl ?_); refine goesL_ (some 5) rfl rfl Try.func10 (by kernel_rfl) rfl #[.pointer (some ⟨g, 0, none⟩)] rfl (by (try simp only [List.map_toArray, List.map_cons, List.map_nil]); first | done | rfl) ?_; (refine (Len_v g _ l most n _ HA.out).mono ?_); rintro e w2 ⟨rfl, hb⟩; refine ⟨_, rfl, ?_⟩; have n_A := Aside0.mk (AG_below HA.out hb); have n_R := Aside0.mk (blk_below BR.out hb); have n_H := Aside0.mk (below_step HB.out hb); clear HA BR HB hb; have HA := n_A; have BR := n_R; have HB := n_H; clear n_A n_R n_H) | ((with_reducible refine gate_store (t := 24) (p := 2) rfl ?_); refine store_event (t := 24) (p := 2) (v := .tmp 7) (w1 := (w2).setRow w.heap.size #[.int .i64 0, .int .i64 0, .int .i64 0, .int .u64 0]) ?hg ?ho ?hn ?hr ?_; (case ho => rfl); (case hg => rfl); (case hn => rfl); (case hr => exact run_store_row 24 _ _ _ _ rfl rfl rfl BR.out (by kernel_rfl) rfl (by kernel_rfl)); intro w9 hw; have n_HB : Aside0 (Below w.heap.size w w9) := ⟨by rw [hw]; exact below_setRow HB.out (Nat.le_refl _) _⟩; have n_BR : Aside0 (w9.heap[w.heap.size]? = some (.cells #[.int .i64 0, .int .i64 0, .int .i64 0, .int .u64 0] 24 (0, 0))) := ⟨by rw [hw]; exact blk_row _ BR.out⟩; clear hw HB BR; have HB := n_HB; have BR := n_BR; clear n_HB n_BR))
  try simp only [Exit.inBlock, Exit.then]
  refine bodyPost_ret (results_cell2 rfl _ _ w.heap.size 24 _ _ rfl BR.out Try.underlying24 rfl (by kernel_rfl)) rfl ?_
  exact ⟨rfl, HB.out⟩
set_option maxHeartbeats 4000000 in
set_option maxRecDepth 100000 in
theorem Peek_some (g : Nat) (v : Value) (l : List S60) (most n : Int) (x : S60) (hx : l[0]? = some x) (w : World) (h : AG w g v l most n) :
    Calls Try.prog 15 #[.pointer (some ⟨g, 0, none⟩)] w fun e w' => e = .returned (.tuple #[.agg #[.int .i64 x.f0, .int .i64 x.f1, .int .i64 x.f2, .int .u64 x.f3], .bool true]) ∧ Below w.heap.size w w' := by
  have hu24 := Try.underlying24
  obtain ⟨A, c, rfl⟩ := AR_form h.2.1
  have BR := Aside0.mk (blk_new w (.cells #[.int .i64 0, .int .i64 0, .int .i64 0, .int .u64 0] 24 (0, 0)))
  have HA := Aside0.mk (AG_below h (below_alloc (Below.refl _ _) (.cells #[.int .i64 0, .int .i64 0, .int .i64 0, .int .u64 0] 24 (0, 0))))
  have HB := Aside0.mk (below_alloc (Below.refl w.heap.size w) (.cells #[.int .i64 0, .int .i64 0, .int .i64 0, .int .u64 0] 24 (0, 0)))
  have hlp : 0 < l.length := (List.getElem?_eq_some_iff.1 hx).1
  have p1 : ((l.length : Int) == 0) = false := beq_eq_false_iff_ne.mpr (by omega)
  have hlp2 : (0 : Int) < (l.length : Int) := by omega
  obtain ⟨b, cap, hv, _⟩ : ∃ b cap, Value.slice A l.length c = .slice (some ⟨b, 0, none⟩) l.length cap ∧ HR w b cap l := by
    rcases h.2.1 with ⟨_, e⟩ | h2
    · rw [e] at hlp
      exact absurd hlp (by simp)
    · exact h2
  obtain ⟨rfl, rfl⟩ : A = some ⟨b, 0, none⟩ ∧ c = cap := by simpa using hv
  have HX := Aside0.mk hx
  clear hv hx
  clear h
  go_enter Try.func15, Try.ntmps15
  go_wp2_with (first | ((with_reducible refine gate_callee (f := 10) rfl ?_); refine goesL_ (some 5) rfl rfl Try.func10 (by kernel_rfl) rfl #[.pointer (some ⟨g, 0, none⟩)] rfl (by (try simp only [List.map_toArray, List.map_cons, List.map_nil]); first | done | rfl) ?_; (refine (Len_v g _ l most n _ HA.out).mono ?_); rintro e w2 ⟨rfl, hb⟩; refine ⟨_, rfl, ?_⟩; have n_A := Aside0.mk (AG_below HA.out hb); have n_R := Aside0.mk (blk_below BR.out hb); have n_H := Aside0.mk (below_step HB.out hb); clear HA BR HB hb; have HA := n_A; have BR := n_R; have HB := n_H; clear n_A n_R n_H; have hcg := (blk_cell HA.out.1 0).trans rfl; have HRR := Aside0.mk (AR_HR HA.out.2.1)) | ((with_reducible refine gate_dst (N := 15) rfl ?_); refine wpList_load_mid rfl 24 (.tmp 14) rfl b 0 rfl [.int .i64 x.f0, .int .i64 x.f1, .int .i64 x.f2, .int .u64 x.f3] _ (HR_ev (i := 0) HRR.out HX.out) Try.underlying24 rfl (by kernel_rfl) ?_) | ((with_reducible refine gate_store (t := 24) (p := 2) rfl ?_); refine store_event (t := 24) (p := 2) (v := .tmp 15) (w1 := (w2).setRow w.heap.size #[.int .i64 x.f0, .int .i64 x.f1, .int .i64 x.f2, .int .u64 x.f3]) ?hg ?ho ?hn ?hr ?_; (case ho => rfl); (case hg => rfl); (case hn => rfl); (case hr => exact run_store_row 24 _ _ _ _ rfl rfl rfl BR.out (by kernel_rfl) rfl (by kernel_rfl)); intro w9 hw; have n_HB : Aside0 (Below w.heap.size w w9) := ⟨by rw [hw]; exact below_setRow HB.out (Nat.le_refl _) _⟩; have n_BR : Aside0 (w9.heap[w.heap.size]? = some (.cells #[.int .i64 x.f0, .int .i64 x.f1, .int .i64 x.f2, .int .u64 x.f3] 24 (0, 0))) := ⟨by rw [hw]; exact blk_row _ BR.out⟩; clear hw HB BR; have HB := n_HB; have BR := n_BR; clear n_HB n_BR))
  try simp only [Exit.inBlock, Exit.then]
  refine bodyPost_ret (results_cell2 rfl _ _ w.heap.size 24 _ _ rfl BR.out Try.underlying24 rfl (by kernel_rfl)) rfl ?_
  exact ⟨rfl, HB.out⟩
end Go.Proofs.Ytocdpfdnnijdkaa.G
