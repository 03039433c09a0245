import Derived.Test.YtocdpfdnnijdkaaG8
namespace Go.Proofs.Ytocdpfdnnijdkaa.G
open Go.RowKit Go.Proofs.YtocdpfdnnijdkaaW.PrintWords Go.Proofs.YtocdpfdnnijdkaaW.PrintLast Go.Proofs.YtocdpfdnnijdkaaW.PrintMore
attribute [local go_sem] max2_int min2_int max_two min_two max_three min_three max_four min_four
attribute [local go_sem] Go.Proofs.YtocdpfdnnijdkaaS.cell_set_map Go.Proofs.YtocdpfdnnijdkaaS.setCell_drewN
set_option linter.unusedVariables false
set_option linter.unusedSimpArgs false
/-- The kind of an entry. -/
def k60 : Kd S60 := Kd.iso (Kd.pair (Kd.int .i64) (Kd.pair (Kd.int .i64) (Kd.pair (Kd.int .i64) (Kd.pair (Kd.int .u64) (Kd.int .i64))))) (fun x : S60 => (x.f0, x.f1, x.f2, x.f3, x.f4))
theorem k60_open {w : World} {x : S60} {cs : List Value} (h : k60.K w x cs) : cs = eC x := by
  obtain ⟨c0, c1, rfl, rfl, d0, d1, rfl, rfl, e0, e1, rfl, rfl, f0, f1, rfl, rfl, rfl⟩ := h
  rfl
theorem k60_openM {w : World} {base : Nat} {ok : Nat → Prop} {x : S60} {cs : List Value} (h : k60.M w base ok x cs) : cs = eC x := by
  obtain ⟨c0, c1, rfl, rfl, d0, d1, rfl, rfl, e0, e1, rfl, rfl, f0, f1, rfl, rfl, rfl⟩ := h
  rfl
theorem k60_mk (w : World) (x : S60) : k60.K w x (eC x) := ⟨[.int .i64 x.f0], [.int .i64 x.f1, .int .i64 x.f2, .int .u64 x.f3, .int .i64 x.f4], rfl, rfl, [.int .i64 x.f1], [.int .i64 x.f2, .int .u64 x.f3, .int .i64 x.f4], rfl, rfl, [.int .i64 x.f2], [.int .u64 x.f3, .int .i64 x.f4], rfl, rfl, [.int .u64 x.f3], [.int .i64 x.f4], rfl, rfl, rfl⟩
theorem k60_mkM (w : World) (base : Nat) (ok : Nat → Prop) (x : S60) : k60.M w base ok x (eC x) := ⟨[.int .i64 x.f0], [.int .i64 x.f1, .int .i64 x.f2, .int .u64 x.f3, .int .i64 x.f4], rfl, rfl, [.int .i64 x.f1], [.int .i64 x.f2, .int .u64 x.f3, .int .i64 x.f4], rfl, rfl, [.int .i64 x.f2], [.int .u64 x.f3, .int .i64 x.f4], rfl, rfl, [.int .u64 x.f3], [.int .i64 x.f4], rfl, rfl, rfl⟩
theorem k60_KM {w : World} {base : Nat} {ok : Nat → Prop} (x : S60) (cs : List Value) (h : k60.K w x cs) : k60.M w base ok x cs := by rw [k60_open h]; exact k60_mkM w base ok x
theorem eL_seg {l : List S60} {i : Nat} {x : S60} (h : l[i]? = some x) : ((eL l).drop (i * 5)).take 5 = eC x := by
  apply List.ext_getElem?
  intro j
  rw [List.getElem?_take]
  by_cases hj : j < 5
  · rw [if_pos hj, List.getElem?_drop, eL_get h j hj]
  · rw [if_neg hj, List.getElem?_eq_none (by rw [eC_length]; omega)]
theorem R_of_AR {w : World} {v : Value} {l : List S60} {ok : Nat → Prop} (h : AR w v l) (hok : ∀ k, v.ownBlock = some k → ok k) : k60.R 60 w 0 ok v l :=
  ⟨hok, eL l, AR_own h, eL_length l, fun j p hj => by
    show k60.M w 0 _ p (((eL l).drop (j * 5)).take 5)
    rw [eL_seg hj]
    exact k60_mkM _ _ _ _⟩
theorem AR_of_R {w : World} {v : Value} {l : List S60} {base : Nat} {ok : Nat → Prop} (h : k60.R 60 w base ok v l) : AR w v l := by
  obtain ⟨_, inner, ho, hlen, hr⟩ := h
  have e : inner = eL l := by
    apply List.ext_getElem?
    intro k
    have hlen' : inner.length = l.length * 5 := hlen
    by_cases hk : k < l.length * 5
    · have hi : k / 5 < l.length := by omega
      have hj : k % 5 < 5 := by omega
      have hk' : k = k / 5 * 5 + k % 5 := by omega
      have h1 := k60_openM (hr (k / 5) _ (List.getElem?_eq_getElem hi))
      have h2 := eL_seg (List.getElem?_eq_getElem hi)
      have h3 : ((inner.drop (k / 5 * 5)).take 5)[k % 5]? = (((eL l).drop (k / 5 * 5)).take 5)[k % 5]? := by
        rw [h2]
        exact congrArg (fun z => z[k % 5]?) h1
      rw [List.getElem?_take, if_pos hj, List.getElem?_drop, List.getElem?_take, if_pos hj, List.getElem?_drop, ← hk'] at h3
      exact h3
    · rw [List.getElem?_eq_none (by omega), List.getElem?_eq_none (by rw [eL_length]; omega)]
  subst e
  have ho' : w.ownsRow 0 60 5 v l.length (eL l) := own_weaken ho (Nat.zero_le _)
  exact own_AR ho' rfl
theorem eqnil53 (b n cap : Nat) (w : World) : (binOp .eql 53 (.slice (some ⟨b, 0, none⟩) n cap) (.slice none 0 0)).run Try.prog w = .ok (.bool false) w := by kernel_rfl
attribute [local go_sem] eqnil53
set_option maxHeartbeats 4000000 in
set_option maxRecDepth 100000 in
theorem Clone_v (b cap : Nat) (l : List S60) (w : World) (h : HR w b cap l) (hl : 0 < l.length) (hm : l.length ≤ 1000000) :
    Calls Try.prog 25 #[.slice (some ⟨b, 0, none⟩) l.length cap] w fun e w' => ∃ b' cap', e = .returned (.slice (some ⟨b', 0, none⟩) l.length cap') ∧ HR w' b' cap' l ∧ w.heap.size ≤ b' ∧ Below w.heap.size w w' := by
  have hu53 := Try.underlying53
  have HR0 := Aside0.mk h
  have HL := Aside0.mk hm
  have HL0 := Aside0.mk hl
  have HB0 := Aside0.mk (below_alloc (Below.refl w.heap.size w) (.cells #[] 60 (0, 0)))
  have HB := Aside0.mk (below_alloc (Below.refl w.heap.size w) (.cells #[] 60 (0, 0)))
  have RD : Aside0 (ReadsRow (k60.K (w.alloc (.cells #[] 60 (0, 0)))) 5 (w.alloc (.cells #[] 60 (0, 0))) (some ⟨b, 0, none⟩) l.length l) := ⟨by
    obtain ⟨A, c, e, _, hc⟩ := Kd.R_reads (R_of_AR (ok := fun _ => True) (.inr ⟨b, cap, rfl, HR_below HR0.out HB0.out⟩) (fun _ _ => trivial))
    cases e
    exact hc⟩
  have HO : Aside0 (k60.R 60 (w.alloc (.cells #[] 60 (0, 0))) w.heap.size (fun _ => True) (.slice (some ⟨w.heap.size, 0, none⟩) 0 0) []) := ⟨⟨fun _ _ => trivial, [], ⟨rfl, .inr ⟨w.heap.size, 0, #[], rfl, Nat.le_refl _, blk_new w _, Nat.le_refl _, Nat.zero_le _, rfl, rfl⟩⟩, Reps.none _ _⟩⟩
  go_enter Try.func25, Try.ntmps25
  go_wp2_with (first | ((with_reducible refine gate_builtin (b := .append) (xs := #[.tmp 5, .tmp 6]) rfl ?_); at_builtin; refine Kd.R_append_rows k60 (w0 := w) w.heap.size (by rfl) (.tmp 5) (.tmp 6) 53 60 (.agg #[(.int .i64 0), (.int .i64 0), (.int .i64 0), (.int .u64 0), (.int .i64 0)]) 40 rfl Try.underlying53 info60 rfl (by decide) (by omega) (.slice (some ⟨w.heap.size, 0, none⟩) 0 0) [] l _ _ _ (fun _ => True) (fun _ => False) rfl rfl HO.out RD.out (fun x cs h => k60_KM x cs h) (fun _ h => h.elim) (fun _ _ => trivial) HB.out HB.out.size (by have h1 := HL.out; rw [List.length_nil]; omega) ?_; intro v1 w1 ho hb hgr hat))
  have hbase := Kd.R_base ho
  have har := AR_of_R ho
  rw [List.nil_append] at har
  go_ret
  rcases har with ⟨_, e⟩ | ⟨b', cap', rfl, hh⟩
  · rw [e] at hl
    exact absurd hl (by simp)
  · exact ⟨b', cap', rfl, hh, hbase b' rfl, hb⟩
end Go.Proofs.Ytocdpfdnnijdkaa.G
