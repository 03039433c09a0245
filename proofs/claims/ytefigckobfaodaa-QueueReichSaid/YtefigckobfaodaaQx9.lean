-- Printed by wip/tools/myprint.py (this session's driver over the kit's printer, with functions proved by hand). Not trusted: Lean checks it.
import Derived.Test.YtefigckobfaodaaQx0
import Derived.Test.YtefigckobfaodaaQx3
import Derived.Test.YtefigckobfaodaaQx6
namespace Go.Proofs.Ytefigckobfaodaa.Q
open Go.RowKit Go.Proofs.YtefigckobfaodaaW.PrintWords Go.Proofs.YtefigckobfaodaaW.PrintLast Go.Proofs.YtefigckobfaodaaW.PrintMore
attribute [local go_sem] max2_int min2_int max_two min_two max_three min_three max_four min_four   -- for this text's walks alone
attribute [local go_sem] Go.Proofs.YtefigckobfaodaaS.cell_set_map Go.Proofs.YtefigckobfaodaaS.setCell_drewN
set_option linter.unusedVariables false
set_option linter.unusedSimpArgs false

/-! ### queue_Row: function 16 -/
theorem k41_info : (Try.prog.info? 41).map (fun i => (i.zero, i.size, i.bytes)) = some (some (.agg #[(.int .i64 0), (.bool false)]), 2, 16) := by kernel_rfl

set_option maxHeartbeats 2000000 in
set_option maxRecDepth 100000 in
theorem list_put.calls (v0 : Value) (a1_0 : Int) (a1_1 : Bool) (l : List S41) (g : Nat) (w0 w : World)
    (hg : w.heap[g]? = some (.cells #[v0] 48 (0, 0))) (ho : Kd.R k41 41 w w0.heap.size (fun k_ => k_ ≠ g) v0 l)
    (hB : Below w0.heap.size w0 w) (hgw : w0.heap.size ≤ g) (hl : l.length < 8796093022208) :
    Calls Try.prog 22 #[.pointer (some ⟨g, 0, none⟩), .agg #[.int .i64 a1_0, .bool a1_1]] w fun e w' =>
      ∃ v', e = .returned (.tuple #[]) ∧ w'.heap[g]? = some (.cells #[v'] 48 (0, 0)) ∧ Kd.R k41 41 w' w0.heap.size (fun k_ => k_ ≠ g) v' (l ++ [⟨a1_0, a1_1⟩]) ∧ KeepBut w w' g v0.ownBlock ∧ Below w0.heap.size w0 w' := by
  have hgl := blk_lt hg
  have hu41 := Try.underlying41
  have hu48 := Try.underlying48
  have HO0 := Aside0.mk ho
  have HB0 := Aside0.mk hB
  have HL := Aside0.mk hl
  have HG0 := Aside0.mk hg
  have HW := Aside0.mk hgw
  clear ho hB hl hg hgw
  go_enter Try.func22, Try.ntmps22
  go_wp2_with fail
  have HG := Aside0.mk (blk_alloc HG0.out (.cells #[.int .i64 a1_0, .bool a1_1] 41 (0, 0)))
  have HO := Aside0.mk (Kd.R_alloc HO0.out (.cells #[.int .i64 a1_0, .bool a1_1] 41 (0, 0)))
  have HB := Aside0.mk (HB0.out.alloc HB0.out.size (.cells #[.int .i64 a1_0, .bool a1_1] 41 (0, 0)))
  have HB1 := Aside0.mk (heap_alloc_new w (.cells #[.int .i64 a1_0, .bool a1_1] 41 (0, 0)))
  have HK := Aside0.mk (KeepBut.of_grown (World.grownBy_alloc w (.cells #[.int .i64 a1_0, .bool a1_1] 41 (0, 0)) v0.ownBlock) g)
  have hbg : g ≠ w.heap.size := Nat.ne_of_lt hgl
  have NB : Aside0 (some w.heap.size ≠ v0.ownBlock) := ⟨fun e => Nat.lt_irrefl _ ((Kd.R_bound HO0.out).1 _ e.symm).2.2.1⟩
  generalize w.alloc (.cells #[.int .i64 a1_0, .bool a1_1] 41 (0, 0)) = W at HG HO HB HB1 HK ⊢
  generalize w.heap.size = b at HB1 hbg NB ⊢
  refine start_ (n := 11) (S := fun w' => w'.cell? ⟨g, 0, none⟩ = some v0 ∧ w'.cell? ⟨b, 0, none⟩ = some (.int .i64 a1_0) ∧ w'.cell? ⟨b, 1, none⟩ = some (.bool a1_1)) (ds := [10]) #[false, false, false, false, false, false, false, false, false, false, false] (by kernel_rfl) rfl rfl ⟨(blk_cell HG.out 0).trans rfl, (blk_cell HB1.out 0).trans rfl, (blk_cell HB1.out 1).trans rfl⟩ (fun hHeld => ?_)
  replace HG := Aside0.mk (blk_drew HG.out)
  replace HB1 := Aside0.mk (blk_drew HB1.out)
  replace HO := Aside0.mk (Kd.R_drew HO.out)
  replace HB := Aside0.mk (below_drew1 HB.out)
  replace HK := Aside0.mk (keep_drew HK.out)
  generalize W.drew = W1 at HG HB1 HO HB HK hHeld ⊢
  refine pure_ (i := 0) (N := (some 4)) (v := ?_) (a' := ?_) #[true, false, false, false, false, false, false, false, false, false, false] rfl rfl (by kernel_rfl) (fun _ _ _ h => h) (Or.inl ⟨by rfl, ?_⟩) ?_ ?_
  rotate_left
  · intro w'
    go_simp
    with_reducible rfl
  rotate_left
  · simp only [Act.put, List.setIfInBounds_toArray, List.set_cons_zero, List.set_cons_succ, i64_w, i32_w]
    rfl
  refine pure_ (i := 1) (N := (some 5)) (v := ?_) (a' := ?_) #[true, true, false, false, false, false, false, false, false, false, false] rfl rfl (by kernel_rfl) (fun _ _ _ h => h) (Or.inl ⟨by rfl, ?_⟩) ?_ ?_
  rotate_left
  · intro w'
    go_simp
    with_reducible rfl
  rotate_left
  · simp only [Act.put, List.setIfInBounds_toArray, List.set_cons_zero, List.set_cons_succ, i64_w, i32_w]
    rfl
  refine pure_ (i := 2) (N := (some 6)) (v := ?_) (a' := ?_) #[true, true, true, false, false, false, false, false, false, false, false] rfl rfl (by kernel_rfl) (fun _ _ _ h => h) (Or.inl ⟨by rfl, ?_⟩) ?_ ?_
  rotate_left
  · intro w'
    go_simp
    with_reducible rfl
  rotate_left
  · simp only [Act.put, List.setIfInBounds_toArray, List.set_cons_zero, List.set_cons_succ, i64_w, i32_w]
    rfl
  refine pure_ (i := 3) (N := (some 7)) (v := ?_) (a' := ?_) #[true, true, true, true, false, false, false, false, false, false, false] rfl rfl (by kernel_rfl) (fun _ _ _ h => h) (Or.inl ⟨by rfl, ?_⟩) ?_ ?_
  rotate_left
  · intro w'
    go_simp
    with_reducible rfl
  rotate_left
  · simp only [Act.put, List.setIfInBounds_toArray, List.set_cons_zero, List.set_cons_succ, i64_w, i32_w]
    rfl
  refine take_ (i := 4) (N := (some 8)) (v := ?_) (a' := ?_) #[true, true, true, true, true, false, false, false, false, false, false] rfl rfl (by kernel_rfl) (fun _ _ _ h => h) (Or.inl ⟨by rfl, ?_⟩) hHeld ?_ ?_
  rotate_left
  · rintro w' ⟨s0, s1, s2⟩
    go_simp
    with_reducible rfl
  rotate_left
  · simp only [Act.put, List.setIfInBounds_toArray, List.set_cons_zero, List.set_cons_succ, i64_w, i32_w]
    rfl
  refine take_ (i := 5) (N := (some 9)) (v := ?_) (a' := ?_) #[true, true, true, true, true, true, false, false, false, false, false] rfl rfl (by kernel_rfl) (fun _ _ _ h => h) (Or.inl ⟨by rfl, ?_⟩) hHeld ?_ ?_
  rotate_left
  · rintro w' ⟨s0, s1, s2⟩
    go_simp
    with_reducible rfl
  rotate_left
  · simp only [Act.put, List.setIfInBounds_toArray, List.set_cons_zero, List.set_cons_succ, i64_w, i32_w]
    rfl
  refine one_ (i := 6) (N := (some 10)) #[true, true, true, true, true, true, true, false, false, false, false] rfl rfl (by kernel_rfl) (by decide) (fun K hK => ?_)
  refine value_ (w1 := ?_) (v := ?_) (by rfl) rfl ?_ ?_
  rotate_left 2
  · go_simp
    constructor
    · rfl
    · rfl
  refine hK.out _ _ ⟨(blk_cell (blk_alloc HG.out _) 0).trans rfl, (blk_cell (blk_alloc HB1.out _) 0).trans rfl, (blk_cell (blk_alloc HB1.out _) 1).trans rfl⟩ (fun hHeld => ?_)
  clear hK K
  refine norm_ (a' := ?_) ?_ ?_
  rotate_left
  · show Act.put _ (some 10) _ = _
    simp only [Act.put, List.setIfInBounds_toArray, List.set_cons_zero, List.set_cons_succ, i64_w, i32_w]
    rfl
  refine one_ (i := 7) (N := (some 11)) #[true, true, true, true, true, true, true, true, false, false, false] rfl rfl (by kernel_rfl) (by decide) (fun K hK => ?_)
  refine Kd.R_append_step k41 (w0 := w0) w0.heap.size (by rfl) (.tmp 8) (.tmp 10) 35 41 (.agg #[(.int .i64 0), (.bool false)]) 16 rfl Try.underlying35 k41_info rfl (by decide) (by omega) v0 l (⟨a1_0, a1_1⟩ : S41) [.int .i64 a1_0, .bool a1_1] (fun k_ => k_ ≠ g) (fun _ => False) rfl rfl (k41_mkM _ _ _ (⟨a1_0, a1_1⟩ : S41)) (fun _ hk => hk.elim) (fun k_ hk e => by have := blk_lt HG.out; omega) HO.out HB.out (below_size HB.out) (by have := HL.out; omega) ?_
  intro v1 w2 ho hb hgr hat
  obtain ⟨A1, c1, hv1⟩ := Kd.R_slice ho
  rw [List.length_append, List.length_singleton] at hv1
  subst hv1
  have ngr : some g ≠ v0.ownBlock := fun e => HO.out.1 g e.symm rfl
  replace HG := Aside0.mk (blk_grown HG.out hgr ngr)
  replace HB1 := Aside0.mk (blk_grown HB1.out hgr NB.out)
  replace HK := Aside0.mk (HK.out.trans (KeepBut.of_grown hgr g) (.inl rfl))
  replace HO := Aside0.mk ho
  replace HB := Aside0.mk hb
  clear ho hb
  refine hK.out _ _ ⟨(blk_cell HG.out 0).trans rfl, (blk_cell HB1.out 0).trans rfl, (blk_cell HB1.out 1).trans rfl⟩ (fun hHeld => ?_)
  clear hK K
  refine norm_ (a' := ?_) ?_ ?_
  rotate_left
  · show Act.put _ (some 11) _ = _
    simp only [Act.put, List.setIfInBounds_toArray, List.set_cons_zero, List.set_cons_succ, i64_w, i32_w]
    rfl
  refine pure_ (i := 8) (N := (some 12)) (v := ?_) (a' := ?_) #[true, true, true, true, true, true, true, true, true, false, false] rfl rfl (by kernel_rfl) (fun _ _ _ h => h) (Or.inl ⟨by rfl, ?_⟩) ?_ ?_
  rotate_left
  · intro w'
    go_simp
    with_reducible rfl
  rotate_left
  · simp only [Act.put, List.setIfInBounds_toArray, List.set_cons_zero, List.set_cons_succ, i64_w, i32_w]
    rfl
  refine pure_ (i := 9) (N := (some 13)) (v := ?_) (a' := ?_) #[true, true, true, true, true, true, true, true, true, true, false] rfl rfl (by kernel_rfl) (fun _ _ _ h => h) (Or.inl ⟨by rfl, ?_⟩) ?_ ?_
  rotate_left
  · intro w'
    go_simp
    with_reducible rfl
  rotate_left
  · simp only [Act.put, List.setIfInBounds_toArray, List.set_cons_zero, List.set_cons_succ, i64_w, i32_w]
    rfl
  refine last_ (i := 10) (N := none) #[true, true, true, true, true, true, true, true, true, true, true] rfl rfl (by kernel_rfl) (by decide) (fun K hK => ?_)
  have hs1 : w2.cell? ⟨g, 0, none⟩ = some v0 := (blk_cell HG.out 0).trans rfl
  have hf1 := blk_frozen HG.out 0
  have hn1 := hbg
  refine skip_ (w1 := ?_) (by rfl) rfl ?_ ?_
  rotate_left
  · go_simp
    rfl
  refine hK.out _ _ ?_
  clear hK K
  refine done_ (by kernel_rfl) ?_
  try go_wp2
  go_end0
  exact ⟨_, rfl, blk_put (cs := #[v0]) HG.out 0 _ rfl, Kd.R_far HO.out (fun k_ hk => hk) _, KeepBut.set_ HK.out 0 _, below_set HB.out HW.out⟩
/-- What Row makes of a row: by the list, from a queue on. -/
def queue_Row.go (k : Nat) (a0 a1 : Int) : List S25 → List S41 → Int → Int → Option (List S41 × Int × Int)
  | [], acc, q0, q1 => some (acc, q0, q1)
  | x :: xs, acc, q0, q1 => (queue_Arrive.f k a0 q0 q1 a1 x.f0 x.f1).bind fun t =>
      if acc.length < 8796093022208 then (if t.2.2.2 = 0 then queue_Row.go k a0 a1 xs (acc ++ [⟨t.1, false⟩]) t.2.1 t.2.2.1 else queue_Row.go k a0 a1 xs (acc ++ [⟨0, true⟩]) q0 q1) else none
def queue_Row.f (k : Nat) (a0 : Int) (a1 : Int) (l2 : List S25) : Option (List S41 × Int × Int) :=
  (queue_Is.f a0 0 0).bind fun t => if t = true then queue_Row.go k a0 a1 l2 [] 0 0 else some ([], 0, 0)
theorem queue_Row.mono_go (k : Nat) (a0 a1 : Int) : ∀ (l : List S25) (acc : List S41) (q0 q1 : Int), LeO (queue_Row.go k a0 a1 l acc q0 q1) (queue_Row.go (k + 1) a0 a1 l acc q0 q1)
  | [], acc, q0, q1 => LeO.refl _
  | x :: xs, acc, q0, q1 => by
    unfold queue_Row.go
    refine LeO.bind (queue_Arrive.mono _ _ _ _ _ _ _) (fun t => ?_)
    refine LeO.ite (LeO.ite (queue_Row.mono_go k a0 a1 xs _ _ _) (queue_Row.mono_go k a0 a1 xs _ _ _)) (LeO.refl _)
theorem queue_Row.mono : ∀ a0 a1 l2 k, LeO (queue_Row.f k a0 a1 l2) (queue_Row.f (k + 1) a0 a1 l2) := by
  intro a0 a1 l2 k
  unfold queue_Row.f
  exact LeO.bind (LeO.refl _) (fun t => LeO.ite (queue_Row.mono_go _ _ _ _ _ _ _) (LeO.refl _))
set_option maxHeartbeats 4000000 in
set_option maxRecDepth 100000 in
theorem queue_Row.calls (k : Nat) (a0 : Int) (a1 : Int) (A2 : Option Addr) (c2 : Nat) (l2 : List S25) (r1 : List S41) (r2 : Int) (r3 : Int) (w : World) (hr2 : Kd.C k25 w A2 l2.length l2) (hc2 : l2.length ≤ c2) (h : queue_Row.f k a0 a1 l2 = some (r1, r2, r3)) :
    Calls Try.prog 16 #[.int .i64 a0, .int .i64 a1, .slice A2 l2.length c2] w fun e w' => ∃ v0_ : Value, e = .returned (.tuple #[v0_, .agg #[.int .i64 r2, .int .i64 r3]]) ∧ Kd.R k41 41 w' w.heap.size (fun _ => True) v0_ r1 ∧ Below w.heap.size w w' := by
  have hu23 := Try.underlying23
  have hu25 := Try.underlying25
  have hu41 := Try.underlying41
  have hu48 := Try.underlying48
  have HR2 := Aside0.mk hr2
  have HC2 := Aside0.mk hc2
  clear hr2 hc2
  unfold queue_Row.f at h
  obtain ⟨t, A1, H⟩ := Option.bind_eq_some_iff.mp h
  clear h
  have AI := Aside0.mk A1
  clear A1
  have HB0 := Aside0.mk (below_alloc (below_alloc (Below.refl w.heap.size w) (.cells #[.int .i64 0, .int .i64 0] 23 (0, 0))) (.cells #[.int .i64 0, .int .i64 0] 23 (0, 0)))
  have B70 := Aside0.mk (blk_alloc (heap_alloc_new w (.cells #[.int .i64 0, .int .i64 0] 23 (0, 0))) (.cells #[.int .i64 0, .int .i64 0] 23 (0, 0)))
  have B80 := Aside0.mk (heap_alloc_new (w.alloc (.cells #[.int .i64 0, .int .i64 0] 23 (0, 0))) (.cells #[.int .i64 0, .int .i64 0] 23 (0, 0)))
  rw [show (w.alloc (.cells #[.int .i64 0, .int .i64 0] 23 (0, 0))).heap.size = w.heap.size + 1 from Array.size_push _] at B80
  by_cases ht : t = true
  · subst ht
    rw [if_pos rfl] at H
    have HA0 := Aside0.mk H
    clear H
    go_enter Try.func16, Try.ntmps16
    go_wp2_with (go_at_call 12; refine (queue_Is.calls _ _ _ _ _ AI.out).mono ?_; rintro e W ⟨rfl, hb⟩; have B7 := Aside0.mk (blk_below B70.out hb); have B8 := Aside0.mk (blk_below B80.out hb); have HB := Aside0.mk (below_step HB0.out hb); have HSZ := Aside0.mk hb.size; clear hb)
    have B9 := Aside0.mk (heap_alloc_new W (.cells #[.slice none 0 0] 48 (0, 0)))
    replace B7 := Aside0.mk (blk_alloc B7.out (.cells #[.slice none 0 0] 48 (0, 0)))
    replace B8 := Aside0.mk (blk_alloc B8.out (.cells #[.slice none 0 0] 48 (0, 0)))
    replace HB := Aside0.mk (below_alloc HB.out (.cells #[.slice none 0 0] 48 (0, 0)))
    have HS9 : Aside0 (w.heap.size + 2 ≤ W.heap.size) := ⟨by have := HSZ.out; rw [Go.Proofs.YtefigckobfaodaaS.size_alloc, Go.Proofs.YtefigckobfaodaaS.size_alloc] at this; exact this⟩
    have N79 : Aside0 (w.heap.size ≠ W.heap.size) := ⟨by have := HS9.out; omega⟩
    have N89 : Aside0 (w.heap.size + 1 ≠ W.heap.size) := ⟨by have := HS9.out; omega⟩
    have N78 : Aside0 (w.heap.size ≠ w.heap.size + 1) := ⟨by omega⟩
    have G9 : Aside0 (w.heap.size ≤ W.heap.size) := ⟨by have := HS9.out; omega⟩
    generalize W.alloc (.cells #[.slice none 0 0] 48 (0, 0)) = W9 at B7 B8 B9 HB ⊢
    clear HS9 HSZ HB0 B70 B80
    generalize W.heap.size = g9 at B9 N79 N89 G9 ⊢
    generalize hg8 : w.heap.size + 1 = g8 at B8 N78 N89 ⊢
    have G8 : Aside0 (w.heap.size ≤ g8) := ⟨by omega⟩
    clear hg8
    generalize hg7 : w.heap.size = g7 at B7 N78 N79 ⊢
    have G7 : Aside0 (w.heap.size ≤ g7) := ⟨Nat.le_of_eq hg7⟩
    clear hg7
    go_loopw [22] (fun v22 wr => ∃ (i : Nat) (x9 : List S41) (u9 : Value) (q0 q1 : Int), i ≤ l2.length ∧ v22 = .int .i64 i ∧ Aside0 (x9.length = i) ∧ Aside0 (queue_Row.go k a0 a1 (l2.drop i) x9 q0 q1 = some (r1, r2, r3)) ∧ Aside0 (wr.heap[g7]? = some (.cells #[.int .i64 0, .int .i64 0] 23 (0, 0))) ∧ Aside0 (wr.heap[g8]? = some (.cells #[.int .i64 q0, .int .i64 q1] 23 (0, 0))) ∧ Aside0 (wr.heap[g9]? = some (.cells #[u9] 48 (0, 0))) ∧ Aside0 (Kd.R k41 41 wr w.heap.size (fun k_ => k_ ≠ g9) u9 x9) ∧ Aside0 (Below w.heap.size w wr)) (fun v22 _ => l2.length - (intOf v22).toNat)
    case atStart => exact ⟨0, [], _, 0, 0, Nat.zero_le _, rfl, ⟨rfl⟩, HA0, B7, B8, B9, ⟨Kd.R_nil _ _ _ _ _⟩, HB⟩
    case round =>
      clear HA0 B7 B8 B9 HB
      obtain ⟨i, x9, u9, q0, q1, hi, rfl, HX, HA, B7, B8, B9, HO, HB⟩ := hrel
      by_cases hlt : i < l2.length
      · have hd : l2.drop i = l2[i] :: l2.drop (i + 1) := List.drop_eq_getElem_cons hlt
        have H := HA.out
        rw [hd, queue_Row.go] at H
        clear hd HA
        obtain ⟨⟨t1, t2, t3, t4⟩, A1, H⟩ := Option.bind_eq_some_iff.mp H
        have AA := Aside0.mk A1
        have HR := Aside0.mk H
        clear A1 H
        obtain ⟨ad, e, hx0, hx1⟩ := at_T25 (Kd.C_below HR2.out HB.out) (i : Int) (by omega) (by omega)
        have hrd : rd_T25 l2 (i : Int) = l2[i] := by simp [rd_T25, hlt]
        rw [hrd, Int.toNat_natCast] at hx0 hx1
        clear hrd
        have E2 := Aside0.mk e
        clear e
        obtain ⟨x0, x1, hxe⟩ : ∃ x0 x1 : Int, l2[i] = ⟨x0, x1⟩ := ⟨_, _, rfl⟩
        rw [hxe] at hx0 hx1 AA
        clear hxe
        obtain rfl := E2.out
        clear E2
        have hc80 : wr.cell? ⟨g8, 0, none⟩ = some (.int .i64 q0) := (blk_cell B8.out 0).trans rfl
        have hc81 : wr.cell? ⟨g8, 1, none⟩ = some (.int .i64 q1) := (blk_cell B8.out 1).trans rfl
        have hl8 := blk_lt B8.out
        have hi0 : (0 : Int) ≤ (i : Int) := Int.natCast_nonneg _
        have hi1 : (i : Int) < (l2.length : Int) := by omega
        clear H
        go_wp2_with fail
        refine (queue_Arrive.calls k a0 q0 q1 a1 x0 x1 t1 t2 t3 t4 _ AA.out).mono ?_
        rintro e W1 ⟨rfl, hb⟩
        have B71 := Aside0.mk (blk_below (blk_alloc B7.out _) hb)
        have B81 := Aside0.mk (blk_below (blk_alloc B8.out _) hb)
        have B91 := Aside0.mk (blk_below (blk_alloc B9.out _) hb)
        have HO1 := Aside0.mk (Kd.R_below (Kd.R_alloc HO.out _) hb)
        have HB1 := Aside0.mk (below_step (below_alloc HB.out _) hb)
        have NE8 := Aside0.mk (Kd.R_ne HO1.out B81.out (by decide))
        have NE7 := Aside0.mk (Kd.R_ne HO1.out B71.out (by decide))
        clear hb B7 B8 B9 HO HB hc80 hc81 hl8 hx0 hx1
        have hc80 : W1.cell? ⟨g8, 0, none⟩ = some (.int .i64 q0) := (blk_cell B81.out 0).trans rfl
        have hc81 : W1.cell? ⟨g8, 1, none⟩ = some (.int .i64 q1) := (blk_cell B81.out 1).trans rfl
        have hf80 := blk_frozen B81.out 0
        have hf81 := blk_frozen B81.out 1
        have hl8 := blk_lt B81.out
        have H := HR.out
        clear HR
        have hl : x9.length < 8796093022208 := by
          rcases Decidable.em (x9.length < 8796093022208) with hl | hl
          · exact hl
          · rw [if_neg hl] at H
            exact absurd H (by simp)
        rw [if_pos hl] at H
        have LM := Aside0.mk hl
        clear hl
        have hib : (i : Int) < 8796093022208 := by have h1 := LM.out; have h2 := HX.out; omega
        by_cases hz : t4 = 0
        · obtain rfl := hz
          rw [if_pos rfl] at H
          have HR := Aside0.mk H
          clear H
          
          
          
          go_wp2_with fail
          refine (list_put.calls u9 t1 false x9 g9 w _ ?hg ?ho ?hB G9.out LM.out).mono ?_
          case hg => exact blk_alloc (blk_far (blk_far B91.out (Ne.symm N89.out) _) (Ne.symm N89.out) _) _
          case ho => exact Kd.R_alloc (Kd.R_set (Kd.R_set HO1.out B81.out (by decide) 0 _) (blk_set B81.out 0 _) (by decide) 1 _) _
          case hB => exact below_alloc (below_set (below_set HB1.out G8.out) G8.out) _
          rintro e W3 ⟨v9, rfl, B93, HO3, HK3, HB3⟩
          have B83 : W3.heap[g8]? = some (.cells #[.int .i64 t2, .int .i64 t3] 23 (0, 0)) := HK3.blk (blk_alloc (blk_put (cs := #[.int .i64 t2, .int .i64 q1]) (blk_put (cs := #[.int .i64 q0, .int .i64 q1]) B81.out 0 _ rfl) 1 _ rfl) _) N89.out NE8.out
          have B73 : W3.heap[g7]? = some (.cells #[.int .i64 0, .int .i64 0] 23 (0, 0)) := HK3.blk (blk_alloc (blk_far (blk_far B71.out N78.out _) N78.out _) _) N79.out NE7.out
          have B93' := Aside0.mk B93
          have B83' := Aside0.mk B83
          have B73' := Aside0.mk B73
          have HO3' := Aside0.mk HO3
          have HB3' := Aside0.mk HB3
          clear B93 B83 B73 HO3 HB3 HK3
          go_wp2_with fail
          go_roundw
          case rel => exact ⟨i + 1, _, v9, t2, t3, by omega, by go_num, ⟨by rw [List.length_append, List.length_singleton, HX.out]⟩, HR, B73', B83', B93', HO3', HB3'⟩
          case measure => simp [intOf]; omega
        · 
          rw [if_neg hz] at H
          have HR := Aside0.mk H
          clear H
          have c1 : (t4 == 0) = false := beq_eq_false_iff_ne.mpr hz
          have c2 : (t4 != 0) = true := bne_iff_ne.mpr hz
          clear hz
          go_wp2_with fail
          refine (list_put.calls u9 0 true x9 g9 w _ ?hg ?ho ?hB G9.out LM.out).mono ?_
          case hg => exact (by exact blk_alloc B91.out _)
          case ho => exact Kd.R_alloc HO1.out _
          case hB => exact below_alloc HB1.out _
          rintro e W3 ⟨v9, rfl, B93, HO3, HK3, HB3⟩
          have B83 : W3.heap[g8]? = some (.cells #[.int .i64 q0, .int .i64 q1] 23 (0, 0)) := HK3.blk (blk_alloc B81.out _) N89.out NE8.out
          have B73 : W3.heap[g7]? = some (.cells #[.int .i64 0, .int .i64 0] 23 (0, 0)) := HK3.blk (blk_alloc B71.out _) N79.out NE7.out
          have B93' := Aside0.mk B93
          have B83' := Aside0.mk B83
          have B73' := Aside0.mk B73
          have HO3' := Aside0.mk HO3
          have HB3' := Aside0.mk HB3
          clear B93 B83 B73 HO3 HB3 HK3
          go_wp2_with fail
          go_roundw
          case rel => exact ⟨i + 1, _, v9, q0, q1, by omega, by go_num, ⟨by rw [List.length_append, List.length_singleton, HX.out]⟩, HR, B73', B83', B93', HO3', HB3'⟩
          case measure => simp [intOf]; omega
      · have hie : i = l2.length := by omega
        have H := HA.out
        rw [List.drop_eq_nil_of_le (by omega), queue_Row.go] at H
        simp only [Option.some.injEq, Prod.mk.injEq] at H
        obtain ⟨rfl, rfl, rfl⟩ := H
        clear HA hie
        go_wp2
        refine start_ (n := 5) (S := fun w' => w'.cell? ⟨g9, 0, none⟩ = some u9 ∧ w'.cell? ⟨g8, 0, none⟩ = some (.int .i64 q0) ∧ w'.cell? ⟨g8, 1, none⟩ = some (.int .i64 q1)) (ds := [4]) #[false, false, false, false, false] (by kernel_rfl) rfl rfl ⟨(blk_cell B9.out 0).trans rfl, (blk_cell B8.out 0).trans rfl, (blk_cell B8.out 1).trans rfl⟩ (fun hHeld => ?_)
        replace B7 := Aside0.mk (blk_drew B7.out)
        replace B8 := Aside0.mk (blk_drew B8.out)
        replace B9 := Aside0.mk (blk_drew B9.out)
        replace HO := Aside0.mk (Kd.R_drew HO.out)
        replace HB := Aside0.mk (below_drew1 HB.out)
        generalize wr.drew = W1 at B7 B8 B9 HO HB hHeld ⊢
        refine pure_ (i := 0) (N := (some 44)) (v := ?_) (a' := ?_) #[true, false, false, false, false] rfl rfl (by kernel_rfl) (fun _ _ _ h => h) (Or.inl ⟨by rfl, ?_⟩) ?_ ?_
        rotate_left
        · intro w'
          go_simp
          with_reducible rfl
        rotate_left
        · simp only [Act.put, List.setIfInBounds_toArray, List.set_cons_zero, List.set_cons_succ, i64_w, i32_w]
          rfl
        refine take_ (i := 1) (N := (some 45)) (v := ?_) (a' := ?_) #[true, true, false, false, false] rfl rfl (by kernel_rfl) (fun _ _ _ h => h) (Or.inl ⟨by rfl, ?_⟩) hHeld ?_ ?_
        rotate_left
        · rintro w' ⟨s0, s1, s2⟩
          go_simp
          with_reducible rfl
        rotate_left
        · simp only [Act.put, List.setIfInBounds_toArray, List.set_cons_zero, List.set_cons_succ, i64_w, i32_w]
          rfl
        refine take_ (i := 2) (N := (some 46)) (v := ?_) (a' := ?_) #[true, true, true, false, false] rfl rfl (by kernel_rfl) (fun _ _ _ h => h) (Or.inl ⟨by rfl, ?_⟩) hHeld ?_ ?_
        rotate_left
        · rintro w' ⟨s0, s1, s2⟩
          go_simp
          with_reducible rfl
        rotate_left
        · simp only [Act.put, List.setIfInBounds_toArray, List.set_cons_zero, List.set_cons_succ, i64_w, i32_w]
          rfl
        refine pure_ (i := 3) (N := (some 6)) (v := ?_) (a' := ?_) #[true, true, true, true, false] rfl rfl (by kernel_rfl) (fun _ _ _ h => h) (Or.inl ⟨by rfl, ?_⟩) ?_ ?_
        rotate_left
        · intro w'
          go_simp
          with_reducible rfl
        rotate_left
        · simp only [Act.put, List.setIfInBounds_toArray, List.set_cons_zero, List.set_cons_succ, i64_w, i32_w]
          rfl
        refine last_ (i := 4) (N := none) #[true, true, true, true, true] rfl rfl (by kernel_rfl) (by decide) (fun K hK => ?_)
        have hs0 : W1.cell? ⟨g7, 0, none⟩ = some (.int .i64 0) := (blk_cell B7.out 0).trans rfl
        have hs1 : W1.cell? ⟨g7, 1, none⟩ = some (.int .i64 0) := (blk_cell B7.out 1).trans rfl
        have hf0 := blk_frozen B7.out 0
        have hf1 := blk_frozen B7.out 1
        refine skip_ (w1 := ?_) (by rfl) rfl ?_ ?_
        rotate_left
        · go_simp
          rfl
        refine hK.out _ _ ?_
        clear hK K
        refine done_ (by kernel_rfl) ?_
        try go_wp2
        refine bodyPost_ret (results_list (rs := [.tmp 6, .cell 7 23]) rfl (by simp) (.tmp (.cell g7 23 #[.int .i64 q0, .int .i64 q1] (0, 0) _ rfl (by (with_reducible repeat (first | refine blk_drewN ?_ _ | refine blk_drew ?_ | refine blk_alloc ?_ _)); refine blk_put (cs := #[.int .i64 q0, .int .i64 0]) ?_ 1 _ rfl; (with_reducible repeat (first | refine blk_drewN ?_ _ | refine blk_drew ?_ | refine blk_alloc ?_ _)); refine blk_put (cs := #[.int .i64 0, .int .i64 0]) ?_ 0 _ rfl; exact B7.out) Try.underlying23 rfl (by kernel_rfl) .nil))) rfl ?_
        exact ⟨u9, rfl, Kd.R_mono (Kd.R_set (Kd.R_set HO.out B7.out (by decide) 0 _) (blk_set B7.out 0 _) (by decide) 1 _) (fun _ _ => trivial), below_set (below_set HB.out G7.out) G7.out⟩
  · have ht : t = false := by simpa using ht
    subst ht
    rw [if_neg (by decide)] at H
    simp only [Option.some.injEq, Prod.mk.injEq] at H
    obtain ⟨rfl, rfl, rfl⟩ := H
    go_enter Try.func16, Try.ntmps16
    go_wp2_with (go_at_call 12; refine (queue_Is.calls _ _ _ _ _ AI.out).mono ?_; rintro e W ⟨rfl, hb⟩; have B7 := Aside0.mk (blk_below B70.out hb); have B8 := Aside0.mk (blk_below B80.out hb); have HB := Aside0.mk (below_step HB0.out hb); clear hb)
    have N78 : Aside0 (w.heap.size ≠ w.heap.size + 1) := ⟨by omega⟩
    clear HB0 B70 B80
    generalize w.heap.size + 1 = g8 at B8 N78 ⊢
    generalize hg7 : w.heap.size = g7 at B7 N78 ⊢
    have G7 : Aside0 (w.heap.size ≤ g7) := ⟨Nat.le_of_eq hg7⟩
    clear hg7
    refine start_ (n := 3) (S := fun w' => w'.cell? ⟨g8, 0, none⟩ = some (.int .i64 0) ∧ w'.cell? ⟨g8, 1, none⟩ = some (.int .i64 0)) (ds := [2]) #[false, false, false] (by kernel_rfl) rfl rfl ⟨(blk_cell B8.out 0).trans rfl, (blk_cell B8.out 1).trans rfl⟩ (fun hHeld => ?_)
    replace B7 := Aside0.mk (blk_drew B7.out)
    replace B8 := Aside0.mk (blk_drew B8.out)
    replace HB := Aside0.mk (below_drew1 HB.out)
    generalize W.drew = W1 at B7 B8 HB hHeld ⊢
    refine take_ (i := 0) (N := (some 19)) (v := ?_) (a' := ?_) #[true, false, false] rfl rfl (by kernel_rfl) (fun _ _ _ h => h) (Or.inl ⟨by rfl, ?_⟩) hHeld ?_ ?_
    rotate_left
    · rintro w' ⟨s0, s1⟩
      go_simp
      with_reducible rfl
    rotate_left
    · simp only [Act.put, List.setIfInBounds_toArray, List.set_cons_zero, List.set_cons_succ, i64_w, i32_w]
      rfl
    refine pure_ (i := 1) (N := (some 6)) (v := ?_) (a' := ?_) #[true, true, false] rfl rfl (by kernel_rfl) (fun _ _ _ h => h) (Or.inl ⟨by rfl, ?_⟩) ?_ ?_
    rotate_left
    · intro w'
      go_simp
      with_reducible rfl
    rotate_left
    · simp only [Act.put, List.setIfInBounds_toArray, List.set_cons_zero, List.set_cons_succ, i64_w, i32_w]
      rfl
    refine last_ (i := 2) (N := none) #[true, true, true] rfl rfl (by kernel_rfl) (by decide) (fun K hK => ?_)
    have hs0 : W1.cell? ⟨g7, 0, none⟩ = some (.int .i64 0) := (blk_cell B7.out 0).trans rfl
    have hs1 : W1.cell? ⟨g7, 1, none⟩ = some (.int .i64 0) := (blk_cell B7.out 1).trans rfl
    have hf0 := blk_frozen B7.out 0
    have hf1 := blk_frozen B7.out 1
    refine skip_ (w1 := ?_) (by rfl) rfl ?_ ?_
    rotate_left
    · go_simp
      rfl
    refine hK.out _ _ ?_
    clear hK K
    refine done_ (by kernel_rfl) ?_
    try go_wp2
    refine bodyPost_ret (results_list (rs := [.tmp 6, .cell 7 23]) rfl (by simp) (.tmp (.cell g7 23 #[.int .i64 0, .int .i64 0] (0, 0) _ rfl (by (with_reducible repeat (first | refine blk_drewN ?_ _ | refine blk_drew ?_ | refine blk_alloc ?_ _)); refine blk_put (cs := #[.int .i64 0, .int .i64 0]) ?_ 1 _ rfl; (with_reducible repeat (first | refine blk_drewN ?_ _ | refine blk_drew ?_ | refine blk_alloc ?_ _)); refine blk_put (cs := #[.int .i64 0, .int .i64 0]) ?_ 0 _ rfl; exact B7.out) Try.underlying23 rfl (by kernel_rfl) .nil))) rfl ?_
    exact ⟨_, rfl, Kd.R_nil _ _ _ _ _, below_set (below_set HB.out G7.out) G7.out⟩

end Go.Proofs.Ytefigckobfaodaa.Q
