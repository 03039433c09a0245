import Derived.Test.YtjiogchafnpkhaaD3
import Derived.Test.YtjiogchafnpkhaaD4
namespace Go.Proofs.Ytjiogchafnpkhaa.D
open Go.RowKit Go.Proofs.YtjiogchafnpkhaaW.PrintWords Go.Proofs.YtjiogchafnpkhaaW.PrintLast Go.Proofs.YtjiogchafnpkhaaW.PrintMore
attribute [local go_sem] max2_int min2_int max_two min_two max_three min_three max_four min_four
attribute [local go_sem] Go.Proofs.YtjiogchafnpkhaaS.cell_set_map Go.Proofs.YtjiogchafnpkhaaS.setCell_drewN
set_option linter.unusedVariables false
set_option linter.unusedSimpArgs false
theorem meth70 (cs : Array Value) (w : World) : (Go.method 190 70 (.agg cs) "pacemaker/draw.next").run Try.prog w = .ok (59, .agg cs) w := by kernel_rfl
theorem meth71 (cs : Array Value) (w : World) : (Go.method 190 71 (.agg cs) "pacemaker/draw.next").run Try.prog w = .ok (61, .agg cs) w := by kernel_rfl
theorem meth72 (cs : Array Value) (w : World) : (Go.method 190 72 (.agg cs) "pacemaker/draw.next").run Try.prog w = .ok (62, .agg cs) w := by kernel_rfl
theorem enter59 (args : Array Value) (w : World) : (callFunc 59 args).run Try.prog w = .ok (.enter 59 args) w := by kernel_rfl
theorem enter61 (args : Array Value) (w : World) : (callFunc 61 args).run Try.prog w = .ok (.enter 61 args) w := by kernel_rfl
theorem enter62 (args : Array Value) (w : World) : (callFunc 62 args).run Try.prog w = .ok (.enter 62 args) w := by kernel_rfl
attribute [local go_sem] meth70 meth71 meth72 enter59 enter61 enter62
/-- A call through an interface, once it is known where it goes. -/
theorem goesI_ {P : Program} {ops : Array Oper} {Q : Exit → Act → World → Prop} {rest : List Oper} {oi : Oper} {a : Act} {w : World} (N : Option Tmp) (hd : oi.dst = N) (hg : oi.guard = none) (f : FuncId) (args : Array Value) (hrun : (execOp a.eval oi).run P w = .ok (.enter f args) w)
    (h : Calls P f args w fun e w' => ∃ v, e = .returned v ∧ wpList P ops Q rest (a.put N v) w') : wpList P ops Q (oi :: rest) a w := by
  refine wpList_plain hg fun K hK => ?_
  unfold Oper.wp
  rw [hrun, Oper.upon_enter]
  refine h.mono fun e w'' hh => ?_
  obtain ⟨v, rfl, hk⟩ := hh
  subst hd
  exact hK _ _ hk
theorem of_none (k st ic at_ : Int) (A : Option Addr) (n c : Nat) (w : World) (h1 : k ≠ 1) (h2 : k ≠ 2) : Calls Try.prog 41 #[.agg #[.int .i64 k, .int .u64 st, .int .u64 ic, .slice A n c, .int .i64 at_]] w fun e w' => e = .returned (.iface 72 (.agg #[.int .i64 k, .int .u64 st, .int .u64 ic, .slice A n c, .int .i64 at_])) ∧ Below w.heap.size w w' := by
  have := of_calls k st ic at_ A n c w
  rwa [if_neg h1, if_neg h2] at this
set_option maxHeartbeats 4000000 in
set_option maxRecDepth 100000 in
theorem next_pcg (st ic at_ : Int) (A : Option Addr) (n c : Nat) (w : World) : Calls Try.prog 13 #[.agg #[.int .i64 1, .int .u64 st, .int .u64 ic, .slice A n c, .int .i64 at_]] w fun e w' => e = .returned (.tuple #[.int .i64 (wrap64 (pcgX st)), .agg #[.int .i64 1, .int .u64 (pcgSt st ic), .int .u64 ic, .slice A n c, .int .i64 at_]]) ∧ Below w.heap.size w w' := by
  have hu25 := Try.underlying25
  have B1 := Aside0.mk (blk_alloc (blk_new w (.cells #[.int .i64 1, .int .u64 st, .int .u64 ic, .slice A n c, .int .i64 at_] 25 (0, 0))) (.cells #[.int .i64 0, .int .u64 0, .int .u64 0, .slice none 0 0, .int .i64 0] 25 (0, 0)))
  have B3 := Aside0.mk (blk_new (w.alloc (.cells #[.int .i64 1, .int .u64 st, .int .u64 ic, .slice A n c, .int .i64 at_] 25 (0, 0))) (.cells #[.int .i64 0, .int .u64 0, .int .u64 0, .slice none 0 0, .int .i64 0] 25 (0, 0)))
  have E3 := Aside0.mk (Go.Proofs.YtjiogchafnpkhaaS.size_alloc w (.cells #[.int .i64 1, .int .u64 st, .int .u64 ic, .slice A n c, .int .i64 at_] 25 (0, 0)))
  have HB := Aside0.mk (below_alloc (below_alloc (Below.refl w.heap.size w) (.cells #[.int .i64 1, .int .u64 st, .int .u64 ic, .slice A n c, .int .i64 at_] 25 (0, 0))) (.cells #[.int .i64 0, .int .u64 0, .int .u64 0, .slice none 0 0, .int .i64 0] 25 (0, 0)))
  clear B1
  replace B3 := Aside0.mk (show (((w.alloc (.cells #[.int .i64 1, .int .u64 st, .int .u64 ic, .slice A n c, .int .i64 at_] 25 (0, 0))).alloc (.cells #[.int .i64 0, .int .u64 0, .int .u64 0, .slice none 0 0, .int .i64 0] 25 (0, 0))).heap[w.heap.size + 1]? = some (.cells #[.int .i64 0, .int .u64 0, .int .u64 0, .slice none 0 0, .int .i64 0] 25 (0, 0))) by have := B3.out; rwa [Go.Proofs.YtjiogchafnpkhaaS.size_alloc] at this)
  have GE3 : Aside0 (w.heap.size ≤ w.heap.size + 1) := ⟨by omega⟩
  clear E3
  go_enter Try.func13, Try.ntmps13
  go_wp2_with (first | ((with_reducible refine gate_callee (f := 41) rfl ?_); refine goesL_ (some 8) rfl rfl Try.func41 (by kernel_rfl) rfl #[.agg #[.int .i64 1, .int .u64 st, .int .u64 ic, .slice A n c, .int .i64 at_]] rfl (by (try simp only [List.map_toArray, List.map_cons, List.map_nil]); first | done | rfl) ?_; (refine (of_calls 1 st ic at_ A n c _).mono ?_); rintro e w1 ⟨rfl, hb⟩; refine ⟨_, rfl, ?_⟩; have n1_ := Aside0.mk (below_step HB.out hb); have n2_ := Aside0.mk (blk_below B3.out hb); clear HB B3 hb; have HB := n1_; have B3 := n2_; clear n1_ n2_) | ((with_reducible refine gate_dst (N := 9) rfl ?_); refine goesI_ (some 9) rfl rfl 59 #[.agg #[.int .i64 1, .int .u64 st, .int .u64 ic, .slice A n c, .int .i64 at_]] ?hr ?_; (case hr => (first | (go_simp; done) | (go_simp; rfl))); (refine (pcg_calls 1 st ic at_ A n c _).mono ?_); rintro e w2 ⟨rfl, hb⟩; refine ⟨_, rfl, ?_⟩; have n1_ := Aside0.mk (below_alloc (below_step HB.out hb) (.cells #[.int .i64 1, .int .u64 (pcgSt st ic), .int .u64 ic, .slice A n c, .int .i64 at_] 25 (0, 0))); have n2_ := Aside0.mk (blk_alloc (blk_below B3.out hb) (.cells #[.int .i64 1, .int .u64 (pcgSt st ic), .int .u64 ic, .slice A n c, .int .i64 at_] 25 (0, 0))); have B5 := Aside0.mk (blk_new w2 (.cells #[.int .i64 1, .int .u64 (pcgSt st ic), .int .u64 ic, .slice A n c, .int .i64 at_] 25 (0, 0))); clear HB B3 hb; have HB := n1_; have B3 := n2_; clear n1_ n2_))
  generalize w2.heap.size = g5 at *
  generalize w2.alloc (.cells #[.int .i64 1, .int .u64 (pcgSt st ic), .int .u64 ic, .slice A n c, .int .i64 at_] 25 (0, 0)) = W5 at *
  refine start_ (n := 5) (S := fun w' => w'.cell? ⟨g5, 0, none⟩ = some (.int .i64 1) ∧ w'.cell? ⟨g5, 1, none⟩ = some (.int .u64 (pcgSt st ic)) ∧ w'.cell? ⟨g5, 2, none⟩ = some (.int .u64 ic) ∧ w'.cell? ⟨g5, 3, none⟩ = some (.slice A n c) ∧ w'.cell? ⟨g5, 4, none⟩ = some (.int .i64 at_)) (ds := [4]) #[false, false, false, false, false] (by kernel_rfl) rfl rfl ⟨(blk_cell B5.out 0).trans rfl, (blk_cell B5.out 1).trans rfl, (blk_cell B5.out 2).trans rfl, (blk_cell B5.out 3).trans rfl, (blk_cell B5.out 4).trans rfl⟩ (fun hHeld => ?_)
  replace B5 := Aside0.mk (blk_drew B5.out)
  replace B3 := Aside0.mk (blk_drew B3.out)
  replace HB := Aside0.mk (below_drew1 HB.out)
  generalize W5.drew = W6 at B5 B3 HB hHeld ⊢
  refine pure_ (i := 0) (N := (some 12)) (v := ?_) (a' := ?_) #[true, false, false, false, false] rfl rfl (by kernel_rfl) (fun _ _ _ h => h) (Or.inl ⟨by rfl, ?_⟩) ?_ ?_
  rotate_left
  · intro w'
    go_simp
    with_reducible rfl
  rotate_left
  · simp only [Act.put, List.setIfInBounds_toArray, List.set_cons_zero, List.set_cons_succ, i64_w, i32_w]
    rfl
  refine pure_ (i := 1) (N := (some 13)) (v := ?_) (a' := ?_) #[true, true, false, false, false] rfl rfl (by kernel_rfl) (fun _ _ _ h => h) (Or.inl ⟨by rfl, ?_⟩) ?_ ?_
  rotate_left
  · intro w'
    go_simp
    with_reducible rfl
  rotate_left
  · simp only [Act.put, List.setIfInBounds_toArray, List.set_cons_zero, List.set_cons_succ, i64_w, i32_w]
    rfl
  refine take_ (i := 2) (N := (some 14)) (v := ?_) (a' := ?_) #[true, true, true, false, false] rfl rfl (by kernel_rfl) (fun _ _ _ h => h) (Or.inl ⟨by rfl, ?_⟩) hHeld ?_ ?_
  rotate_left
  · rintro w' ⟨s0, s1, s2, s3, s4⟩
    go_simp
    with_reducible rfl
  rotate_left
  · simp only [Act.put, List.setIfInBounds_toArray, List.set_cons_zero, List.set_cons_succ, i64_w, i32_w]
    rfl
  refine pure_ (i := 3) (N := (some 2)) (v := ?_) (a' := ?_) #[true, true, true, true, false] rfl rfl (by kernel_rfl) (fun _ _ _ h => h) (Or.inl ⟨by rfl, ?_⟩) ?_ ?_
  rotate_left
  · intro w'
    go_simp
    with_reducible rfl
  rotate_left
  · simp only [Act.put, List.setIfInBounds_toArray, List.set_cons_zero, List.set_cons_succ, i64_w, i32_w]
    rfl
  refine last_ (i := 4) (N := none) #[true, true, true, true, true] rfl rfl (by kernel_rfl) (by decide) (fun K hK => ?_)
  have hs0 : W6.cell? ⟨w.heap.size + 1, 0, none⟩ = some (.int .i64 0) := (blk_cell B3.out 0).trans rfl
  have hf0 := blk_frozen B3.out 0
  have hs1 : W6.cell? ⟨w.heap.size + 1, 1, none⟩ = some (.int .u64 0) := (blk_cell B3.out 1).trans rfl
  have hf1 := blk_frozen B3.out 1
  have hs2 : W6.cell? ⟨w.heap.size + 1, 2, none⟩ = some (.int .u64 0) := (blk_cell B3.out 2).trans rfl
  have hf2 := blk_frozen B3.out 2
  have hs3 : W6.cell? ⟨w.heap.size + 1, 3, none⟩ = some (.slice none 0 0) := (blk_cell B3.out 3).trans rfl
  have hf3 := blk_frozen B3.out 3
  have hs4 : W6.cell? ⟨w.heap.size + 1, 4, none⟩ = some (.int .i64 0) := (blk_cell B3.out 4).trans rfl
  have hf4 := blk_frozen B3.out 4
  refine skip_ (w1 := ?_) (by rfl) rfl ?_ ?_
  rotate_left
  · go_simp
    rfl
  refine hK.out _ _ ?_
  clear hK K
  refine done_ (by kernel_rfl) ?_
  try go_wp2
  have q0 := blk_set B3.out 0 (.int .i64 1)
  have q1 := blk_set q0 1 (.int .u64 (pcgSt st ic))
  have q2 := blk_set q1 2 (.int .u64 ic)
  have q3 := blk_set q2 3 (.slice A n c)
  have q4 := blk_set q3 4 (.int .i64 at_)
  (try simp only [Exit.inBlock, Exit.then])
  refine bodyPost_ret (results_list (rs := [.tmp 2, .cell 3 25]) rfl (by simp) (.tmp (.cell (w.heap.size + 1) 25 #[.int .i64 1, .int .u64 (pcgSt st ic), .int .u64 ic, .slice A n c, .int .i64 at_] (0, 0) _ rfl (q4.trans (by rfl)) Try.underlying25 rfl (by kernel_rfl) .nil))) rfl ⟨rfl, ?_⟩
  have fin := below_set (j := 4) (v := (.int .i64 at_)) (below_set (j := 3) (v := (.slice A n c)) (below_set (j := 2) (v := (.int .u64 ic)) (below_set (j := 1) (v := (.int .u64 (pcgSt st ic))) (below_set (j := 0) (v := (.int .i64 1)) HB.out GE3.out) GE3.out) GE3.out) GE3.out) GE3.out
  first | exact fin | exact fin
set_option maxHeartbeats 4000000 in
set_option maxRecDepth 100000 in
theorem next_tape (st ic at_ : Int) (A : Option Addr) (c : Nat) (l : List Int) (w : World) (hr : Kd.C (Kd.int .u64) w A l.length l) : Calls Try.prog 13 #[.agg #[.int .i64 2, .int .u64 st, .int .u64 ic, .slice A l.length c, .int .i64 at_]] w fun e w' => e = .returned (.tuple #[.int .i64 (wrap64 (tapeX l at_)), .agg #[.int .i64 2, .int .u64 st, .int .u64 ic, .slice A l.length c, .int .i64 (tapeAt l at_)]]) ∧ Below w.heap.size w w' := by
  have hu25 := Try.underlying25
  have HR := Aside0.mk hr
  clear hr
  have B1 := Aside0.mk (blk_alloc (blk_new w (.cells #[.int .i64 2, .int .u64 st, .int .u64 ic, .slice A l.length c, .int .i64 at_] 25 (0, 0))) (.cells #[.int .i64 0, .int .u64 0, .int .u64 0, .slice none 0 0, .int .i64 0] 25 (0, 0)))
  have B3 := Aside0.mk (blk_new (w.alloc (.cells #[.int .i64 2, .int .u64 st, .int .u64 ic, .slice A l.length c, .int .i64 at_] 25 (0, 0))) (.cells #[.int .i64 0, .int .u64 0, .int .u64 0, .slice none 0 0, .int .i64 0] 25 (0, 0)))
  have E3 := Aside0.mk (Go.Proofs.YtjiogchafnpkhaaS.size_alloc w (.cells #[.int .i64 2, .int .u64 st, .int .u64 ic, .slice A l.length c, .int .i64 at_] 25 (0, 0)))
  have HB := Aside0.mk (below_alloc (below_alloc (Below.refl w.heap.size w) (.cells #[.int .i64 2, .int .u64 st, .int .u64 ic, .slice A l.length c, .int .i64 at_] 25 (0, 0))) (.cells #[.int .i64 0, .int .u64 0, .int .u64 0, .slice none 0 0, .int .i64 0] 25 (0, 0)))
  clear B1
  replace B3 := Aside0.mk (show (((w.alloc (.cells #[.int .i64 2, .int .u64 st, .int .u64 ic, .slice A l.length c, .int .i64 at_] 25 (0, 0))).alloc (.cells #[.int .i64 0, .int .u64 0, .int .u64 0, .slice none 0 0, .int .i64 0] 25 (0, 0))).heap[w.heap.size + 1]? = some (.cells #[.int .i64 0, .int .u64 0, .int .u64 0, .slice none 0 0, .int .i64 0] 25 (0, 0))) by have := B3.out; rwa [Go.Proofs.YtjiogchafnpkhaaS.size_alloc] at this)
  have GE3 : Aside0 (w.heap.size ≤ w.heap.size + 1) := ⟨by omega⟩
  clear E3
  go_enter Try.func13, Try.ntmps13
  go_wp2_with (first | ((with_reducible refine gate_callee (f := 41) rfl ?_); refine goesL_ (some 8) rfl rfl Try.func41 (by kernel_rfl) rfl #[.agg #[.int .i64 2, .int .u64 st, .int .u64 ic, .slice A l.length c, .int .i64 at_]] rfl (by (try simp only [List.map_toArray, List.map_cons, List.map_nil]); first | done | rfl) ?_; (refine (of_calls 2 st ic at_ A l.length c _).mono ?_); rintro e w1 ⟨rfl, hb⟩; refine ⟨_, rfl, ?_⟩; have n1_ := Aside0.mk (below_step HB.out hb); have n2_ := Aside0.mk (blk_below B3.out hb); clear HB B3 hb; have HB := n1_; have B3 := n2_; clear n1_ n2_) | ((with_reducible refine gate_dst (N := 9) rfl ?_); refine goesI_ (some 9) rfl rfl 61 #[.agg #[.int .i64 2, .int .u64 st, .int .u64 ic, .slice A l.length c, .int .i64 at_]] ?hr ?_; (case hr => (first | (go_simp; done) | (go_simp; rfl))); (refine (tape_calls 2 st ic at_ A c l _ (Kd.C_below HR.out HB.out)).mono ?_); rintro e w2 ⟨rfl, hb⟩; refine ⟨_, rfl, ?_⟩; have n1_ := Aside0.mk (below_alloc (below_step HB.out hb) (.cells #[.int .i64 2, .int .u64 st, .int .u64 ic, .slice A l.length c, .int .i64 (tapeAt l at_)] 25 (0, 0))); have n2_ := Aside0.mk (blk_alloc (blk_below B3.out hb) (.cells #[.int .i64 2, .int .u64 st, .int .u64 ic, .slice A l.length c, .int .i64 (tapeAt l at_)] 25 (0, 0))); have B5 := Aside0.mk (blk_new w2 (.cells #[.int .i64 2, .int .u64 st, .int .u64 ic, .slice A l.length c, .int .i64 (tapeAt l at_)] 25 (0, 0))); clear HB B3 hb; have HB := n1_; have B3 := n2_; clear n1_ n2_))
  generalize w2.heap.size = g5 at *
  generalize w2.alloc (.cells #[.int .i64 2, .int .u64 st, .int .u64 ic, .slice A l.length c, .int .i64 (tapeAt l at_)] 25 (0, 0)) = W5 at *
  refine start_ (n := 5) (S := fun w' => w'.cell? ⟨g5, 0, none⟩ = some (.int .i64 2) ∧ w'.cell? ⟨g5, 1, none⟩ = some (.int .u64 st) ∧ w'.cell? ⟨g5, 2, none⟩ = some (.int .u64 ic) ∧ w'.cell? ⟨g5, 3, none⟩ = some (.slice A l.length c) ∧ w'.cell? ⟨g5, 4, none⟩ = some (.int .i64 (tapeAt l at_))) (ds := [4]) #[false, false, false, false, false] (by kernel_rfl) rfl rfl ⟨(blk_cell B5.out 0).trans rfl, (blk_cell B5.out 1).trans rfl, (blk_cell B5.out 2).trans rfl, (blk_cell B5.out 3).trans rfl, (blk_cell B5.out 4).trans rfl⟩ (fun hHeld => ?_)
  replace B5 := Aside0.mk (blk_drew B5.out)
  replace B3 := Aside0.mk (blk_drew B3.out)
  replace HB := Aside0.mk (below_drew1 HB.out)
  generalize W5.drew = W6 at B5 B3 HB hHeld ⊢
  refine pure_ (i := 0) (N := (some 12)) (v := ?_) (a' := ?_) #[true, false, false, false, false] rfl rfl (by kernel_rfl) (fun _ _ _ h => h) (Or.inl ⟨by rfl, ?_⟩) ?_ ?_
  rotate_left
  · intro w'
    go_simp
    with_reducible rfl
  rotate_left
  · simp only [Act.put, List.setIfInBounds_toArray, List.set_cons_zero, List.set_cons_succ, i64_w, i32_w]
    rfl
  refine pure_ (i := 1) (N := (some 13)) (v := ?_) (a' := ?_) #[true, true, false, false, false] rfl rfl (by kernel_rfl) (fun _ _ _ h => h) (Or.inl ⟨by rfl, ?_⟩) ?_ ?_
  rotate_left
  · intro w'
    go_simp
    with_reducible rfl
  rotate_left
  · simp only [Act.put, List.setIfInBounds_toArray, List.set_cons_zero, List.set_cons_succ, i64_w, i32_w]
    rfl
  refine take_ (i := 2) (N := (some 14)) (v := ?_) (a' := ?_) #[true, true, true, false, false] rfl rfl (by kernel_rfl) (fun _ _ _ h => h) (Or.inl ⟨by rfl, ?_⟩) hHeld ?_ ?_
  rotate_left
  · rintro w' ⟨s0, s1, s2, s3, s4⟩
    go_simp
    with_reducible rfl
  rotate_left
  · simp only [Act.put, List.setIfInBounds_toArray, List.set_cons_zero, List.set_cons_succ, i64_w, i32_w]
    rfl
  refine pure_ (i := 3) (N := (some 2)) (v := ?_) (a' := ?_) #[true, true, true, true, false] rfl rfl (by kernel_rfl) (fun _ _ _ h => h) (Or.inl ⟨by rfl, ?_⟩) ?_ ?_
  rotate_left
  · intro w'
    go_simp
    with_reducible rfl
  rotate_left
  · simp only [Act.put, List.setIfInBounds_toArray, List.set_cons_zero, List.set_cons_succ, i64_w, i32_w]
    rfl
  refine last_ (i := 4) (N := none) #[true, true, true, true, true] rfl rfl (by kernel_rfl) (by decide) (fun K hK => ?_)
  have hs0 : W6.cell? ⟨w.heap.size + 1, 0, none⟩ = some (.int .i64 0) := (blk_cell B3.out 0).trans rfl
  have hf0 := blk_frozen B3.out 0
  have hs1 : W6.cell? ⟨w.heap.size + 1, 1, none⟩ = some (.int .u64 0) := (blk_cell B3.out 1).trans rfl
  have hf1 := blk_frozen B3.out 1
  have hs2 : W6.cell? ⟨w.heap.size + 1, 2, none⟩ = some (.int .u64 0) := (blk_cell B3.out 2).trans rfl
  have hf2 := blk_frozen B3.out 2
  have hs3 : W6.cell? ⟨w.heap.size + 1, 3, none⟩ = some (.slice none 0 0) := (blk_cell B3.out 3).trans rfl
  have hf3 := blk_frozen B3.out 3
  have hs4 : W6.cell? ⟨w.heap.size + 1, 4, none⟩ = some (.int .i64 0) := (blk_cell B3.out 4).trans rfl
  have hf4 := blk_frozen B3.out 4
  refine skip_ (w1 := ?_) (by rfl) rfl ?_ ?_
  rotate_left
  · go_simp
    rfl
  refine hK.out _ _ ?_
  clear hK K
  refine done_ (by kernel_rfl) ?_
  try go_wp2
  have q0 := blk_set B3.out 0 (.int .i64 2)
  have q1 := blk_set q0 1 (.int .u64 st)
  have q2 := blk_set q1 2 (.int .u64 ic)
  have q3 := blk_set q2 3 (.slice A l.length c)
  have q4 := blk_set q3 4 (.int .i64 (tapeAt l at_))
  (try simp only [Exit.inBlock, Exit.then])
  refine bodyPost_ret (results_list (rs := [.tmp 2, .cell 3 25]) rfl (by simp) (.tmp (.cell (w.heap.size + 1) 25 #[.int .i64 2, .int .u64 st, .int .u64 ic, .slice A l.length c, .int .i64 (tapeAt l at_)] (0, 0) _ rfl (q4.trans (by rfl)) Try.underlying25 rfl (by kernel_rfl) .nil))) rfl ⟨rfl, ?_⟩
  have fin := below_set (j := 4) (v := (.int .i64 (tapeAt l at_))) (below_set (j := 3) (v := (.slice A l.length c)) (below_set (j := 2) (v := (.int .u64 ic)) (below_set (j := 1) (v := (.int .u64 st)) (below_set (j := 0) (v := (.int .i64 2)) HB.out GE3.out) GE3.out) GE3.out) GE3.out) GE3.out
  first | exact fin | exact fin
set_option maxHeartbeats 4000000 in
set_option maxRecDepth 100000 in
theorem next_none (k st ic at_ : Int) (A : Option Addr) (n c : Nat) (w : World) (h1 : k ≠ 1) (h2 : k ≠ 2) : Calls Try.prog 13 #[.agg #[.int .i64 k, .int .u64 st, .int .u64 ic, .slice A n c, .int .i64 at_]] w fun e w' => e = .returned (.tuple #[.int .i64 (wrap64 0), .agg #[.int .i64 k, .int .u64 st, .int .u64 ic, .slice A n c, .int .i64 at_]]) ∧ Below w.heap.size w w' := by
  have hu25 := Try.underlying25
  have H1 := Aside0.mk h1
  have H2 := Aside0.mk h2
  clear h1 h2
  have B1 := Aside0.mk (blk_alloc (blk_new w (.cells #[.int .i64 k, .int .u64 st, .int .u64 ic, .slice A n c, .int .i64 at_] 25 (0, 0))) (.cells #[.int .i64 0, .int .u64 0, .int .u64 0, .slice none 0 0, .int .i64 0] 25 (0, 0)))
  have B3 := Aside0.mk (blk_new (w.alloc (.cells #[.int .i64 k, .int .u64 st, .int .u64 ic, .slice A n c, .int .i64 at_] 25 (0, 0))) (.cells #[.int .i64 0, .int .u64 0, .int .u64 0, .slice none 0 0, .int .i64 0] 25 (0, 0)))
  have E3 := Aside0.mk (Go.Proofs.YtjiogchafnpkhaaS.size_alloc w (.cells #[.int .i64 k, .int .u64 st, .int .u64 ic, .slice A n c, .int .i64 at_] 25 (0, 0)))
  have HB := Aside0.mk (below_alloc (below_alloc (Below.refl w.heap.size w) (.cells #[.int .i64 k, .int .u64 st, .int .u64 ic, .slice A n c, .int .i64 at_] 25 (0, 0))) (.cells #[.int .i64 0, .int .u64 0, .int .u64 0, .slice none 0 0, .int .i64 0] 25 (0, 0)))
  clear B1
  replace B3 := Aside0.mk (show (((w.alloc (.cells #[.int .i64 k, .int .u64 st, .int .u64 ic, .slice A n c, .int .i64 at_] 25 (0, 0))).alloc (.cells #[.int .i64 0, .int .u64 0, .int .u64 0, .slice none 0 0, .int .i64 0] 25 (0, 0))).heap[w.heap.size + 1]? = some (.cells #[.int .i64 0, .int .u64 0, .int .u64 0, .slice none 0 0, .int .i64 0] 25 (0, 0))) by have := B3.out; rwa [Go.Proofs.YtjiogchafnpkhaaS.size_alloc] at this)
  have GE3 : Aside0 (w.heap.size ≤ w.heap.size + 1) := ⟨by omega⟩
  clear E3
  go_enter Try.func13, Try.ntmps13
  go_wp2_with (first | ((with_reducible refine gate_callee (f := 41) rfl ?_); refine goesL_ (some 8) rfl rfl Try.func41 (by kernel_rfl) rfl #[.agg #[.int .i64 k, .int .u64 st, .int .u64 ic, .slice A n c, .int .i64 at_]] rfl (by (try simp only [List.map_toArray, List.map_cons, List.map_nil]); first | done | rfl) ?_; (refine (of_none k st ic at_ A n c _ H1.out H2.out).mono ?_); rintro e w1 ⟨rfl, hb⟩; refine ⟨_, rfl, ?_⟩; have n1_ := Aside0.mk (below_step HB.out hb); have n2_ := Aside0.mk (blk_below B3.out hb); clear HB B3 hb; have HB := n1_; have B3 := n2_; clear n1_ n2_) | ((with_reducible refine gate_dst (N := 9) rfl ?_); refine goesI_ (some 9) rfl rfl 62 #[.agg #[.int .i64 k, .int .u64 st, .int .u64 ic, .slice A n c, .int .i64 at_]] ?hr ?_; (case hr => (first | (go_simp; done) | (go_simp; rfl))); (refine (none_calls k st ic at_ A n c _).mono ?_); rintro e w2 ⟨rfl, hb⟩; refine ⟨_, rfl, ?_⟩; have n1_ := Aside0.mk (below_alloc (below_step HB.out hb) (.cells #[.int .i64 k, .int .u64 st, .int .u64 ic, .slice A n c, .int .i64 at_] 25 (0, 0))); have n2_ := Aside0.mk (blk_alloc (blk_below B3.out hb) (.cells #[.int .i64 k, .int .u64 st, .int .u64 ic, .slice A n c, .int .i64 at_] 25 (0, 0))); have B5 := Aside0.mk (blk_new w2 (.cells #[.int .i64 k, .int .u64 st, .int .u64 ic, .slice A n c, .int .i64 at_] 25 (0, 0))); clear HB B3 hb; have HB := n1_; have B3 := n2_; clear n1_ n2_))
  generalize w2.heap.size = g5 at *
  generalize w2.alloc (.cells #[.int .i64 k, .int .u64 st, .int .u64 ic, .slice A n c, .int .i64 at_] 25 (0, 0)) = W5 at *
  refine start_ (n := 5) (S := fun w' => w'.cell? ⟨g5, 0, none⟩ = some (.int .i64 k) ∧ w'.cell? ⟨g5, 1, none⟩ = some (.int .u64 st) ∧ w'.cell? ⟨g5, 2, none⟩ = some (.int .u64 ic) ∧ w'.cell? ⟨g5, 3, none⟩ = some (.slice A n c) ∧ w'.cell? ⟨g5, 4, none⟩ = some (.int .i64 at_)) (ds := [4]) #[false, false, false, false, false] (by kernel_rfl) rfl rfl ⟨(blk_cell B5.out 0).trans rfl, (blk_cell B5.out 1).trans rfl, (blk_cell B5.out 2).trans rfl, (blk_cell B5.out 3).trans rfl, (blk_cell B5.out 4).trans rfl⟩ (fun hHeld => ?_)
  replace B5 := Aside0.mk (blk_drew B5.out)
  replace B3 := Aside0.mk (blk_drew B3.out)
  replace HB := Aside0.mk (below_drew1 HB.out)
  generalize W5.drew = W6 at B5 B3 HB hHeld ⊢
  refine pure_ (i := 0) (N := (some 12)) (v := ?_) (a' := ?_) #[true, false, false, false, false] rfl rfl (by kernel_rfl) (fun _ _ _ h => h) (Or.inl ⟨by rfl, ?_⟩) ?_ ?_
  rotate_left
  · intro w'
    go_simp
    with_reducible rfl
  rotate_left
  · simp only [Act.put, List.setIfInBounds_toArray, List.set_cons_zero, List.set_cons_succ, i64_w, i32_w]
    rfl
  refine pure_ (i := 1) (N := (some 13)) (v := ?_) (a' := ?_) #[true, true, false, false, false] rfl rfl (by kernel_rfl) (fun _ _ _ h => h) (Or.inl ⟨by rfl, ?_⟩) ?_ ?_
  rotate_left
  · intro w'
    go_simp
    with_reducible rfl
  rotate_left
  · simp only [Act.put, List.setIfInBounds_toArray, List.set_cons_zero, List.set_cons_succ, i64_w, i32_w]
    rfl
  refine take_ (i := 2) (N := (some 14)) (v := ?_) (a' := ?_) #[true, true, true, false, false] rfl rfl (by kernel_rfl) (fun _ _ _ h => h) (Or.inl ⟨by rfl, ?_⟩) hHeld ?_ ?_
  rotate_left
  · rintro w' ⟨s0, s1, s2, s3, s4⟩
    go_simp
    with_reducible rfl
  rotate_left
  · simp only [Act.put, List.setIfInBounds_toArray, List.set_cons_zero, List.set_cons_succ, i64_w, i32_w]
    rfl
  refine pure_ (i := 3) (N := (some 2)) (v := ?_) (a' := ?_) #[true, true, true, true, false] rfl rfl (by kernel_rfl) (fun _ _ _ h => h) (Or.inl ⟨by rfl, ?_⟩) ?_ ?_
  rotate_left
  · intro w'
    go_simp
    with_reducible rfl
  rotate_left
  · simp only [Act.put, List.setIfInBounds_toArray, List.set_cons_zero, List.set_cons_succ, i64_w, i32_w]
    rfl
  refine last_ (i := 4) (N := none) #[true, true, true, true, true] rfl rfl (by kernel_rfl) (by decide) (fun K hK => ?_)
  have hs0 : W6.cell? ⟨w.heap.size + 1, 0, none⟩ = some (.int .i64 0) := (blk_cell B3.out 0).trans rfl
  have hf0 := blk_frozen B3.out 0
  have hs1 : W6.cell? ⟨w.heap.size + 1, 1, none⟩ = some (.int .u64 0) := (blk_cell B3.out 1).trans rfl
  have hf1 := blk_frozen B3.out 1
  have hs2 : W6.cell? ⟨w.heap.size + 1, 2, none⟩ = some (.int .u64 0) := (blk_cell B3.out 2).trans rfl
  have hf2 := blk_frozen B3.out 2
  have hs3 : W6.cell? ⟨w.heap.size + 1, 3, none⟩ = some (.slice none 0 0) := (blk_cell B3.out 3).trans rfl
  have hf3 := blk_frozen B3.out 3
  have hs4 : W6.cell? ⟨w.heap.size + 1, 4, none⟩ = some (.int .i64 0) := (blk_cell B3.out 4).trans rfl
  have hf4 := blk_frozen B3.out 4
  refine skip_ (w1 := ?_) (by rfl) rfl ?_ ?_
  rotate_left
  · go_simp
    rfl
  refine hK.out _ _ ?_
  clear hK K
  refine done_ (by kernel_rfl) ?_
  try go_wp2
  have q0 := blk_set B3.out 0 (.int .i64 k)
  have q1 := blk_set q0 1 (.int .u64 st)
  have q2 := blk_set q1 2 (.int .u64 ic)
  have q3 := blk_set q2 3 (.slice A n c)
  have q4 := blk_set q3 4 (.int .i64 at_)
  (try simp only [Exit.inBlock, Exit.then])
  refine bodyPost_ret (results_list (rs := [.tmp 2, .cell 3 25]) rfl (by simp) (.tmp (.cell (w.heap.size + 1) 25 #[.int .i64 k, .int .u64 st, .int .u64 ic, .slice A n c, .int .i64 at_] (0, 0) _ rfl (q4.trans (by rfl)) Try.underlying25 rfl (by kernel_rfl) .nil))) rfl ⟨rfl, ?_⟩
  have fin := below_set (j := 4) (v := (.int .i64 at_)) (below_set (j := 3) (v := (.slice A n c)) (below_set (j := 2) (v := (.int .u64 ic)) (below_set (j := 1) (v := (.int .u64 st)) (below_set (j := 0) (v := (.int .i64 k)) HB.out GE3.out) GE3.out) GE3.out) GE3.out) GE3.out
  first | exact fin | exact fin
/-- A source's draw; its state and its place behind it. -/
def nextX (k st : Int) (l : List Int) (at_ : Int) : Int := if k = 1 then wrap64 (pcgX st) else if k = 2 then wrap64 (tapeX l at_) else wrap64 0
def nextSt (k st ic : Int) : Int := if k = 1 then pcgSt st ic else st
def nextAt (k : Int) (l : List Int) (at_ : Int) : Int := if k = 2 then tapeAt l at_ else at_
theorem draw_Next_calls (k st ic at_ : Int) (A : Option Addr) (c : Nat) (l : List Int) (w : World) (hr : Kd.C (Kd.int .u64) w A l.length l) : Calls Try.prog 13 #[.agg #[.int .i64 k, .int .u64 st, .int .u64 ic, .slice A l.length c, .int .i64 at_]] w fun e w' => e = .returned (.tuple #[.int .i64 (nextX k st l at_), .agg #[.int .i64 k, .int .u64 (nextSt k st ic), .int .u64 ic, .slice A l.length c, .int .i64 (nextAt k l at_)]]) ∧ Below w.heap.size w w' := by
  by_cases h1 : k = 1
  · subst h1
    have e1 : nextX 1 st l at_ = wrap64 (pcgX st) := by unfold nextX; rw [if_pos rfl]
    have e2 : nextSt 1 st ic = pcgSt st ic := by unfold nextSt; rw [if_pos rfl]
    have e3 : nextAt 1 l at_ = at_ := by unfold nextAt; rw [if_neg (by decide)]
    rw [e1, e2, e3]
    exact next_pcg st ic at_ A l.length c w
  · by_cases h2 : k = 2
    · subst h2
      have e1 : nextX 2 st l at_ = wrap64 (tapeX l at_) := by unfold nextX; rw [if_neg (by decide), if_pos rfl]
      have e2 : nextSt 2 st ic = st := by unfold nextSt; rw [if_neg (by decide)]
      have e3 : nextAt 2 l at_ = tapeAt l at_ := by unfold nextAt; rw [if_pos rfl]
      rw [e1, e2, e3]
      exact next_tape st ic at_ A c l w hr
    · have e1 : nextX k st l at_ = wrap64 0 := by unfold nextX; rw [if_neg h1, if_neg h2]
      have e2 : nextSt k st ic = st := by unfold nextSt; rw [if_neg h1]
      have e3 : nextAt k l at_ = at_ := by unfold nextAt; rw [if_neg h2]
      rw [e1, e2, e3]
      exact next_none k st ic at_ A l.length c w h1 h2
end Go.Proofs.Ytjiogchafnpkhaa.D
