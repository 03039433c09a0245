import Derived.Test.YtocdpfdnnijdkaaG2
namespace Go.Proofs.Ytocdpfdnnijdkaa.G
open Go.RowKit Go.Proofs.YtocdpfdnnijdkaaW.PrintWords Go.Proofs.YtocdpfdnnijdkaaW.PrintLast Go.Proofs.YtocdpfdnnijdkaaW.PrintMore
attribute [local go_sem] max2_int min2_int max_two min_two max_three min_three max_four min_four
attribute [local go_sem] Go.Proofs.YtocdpfdnnijdkaaS.cell_set_map Go.Proofs.YtocdpfdnnijdkaaS.setCell_drewN
set_option linter.unusedVariables false
set_option linter.unusedSimpArgs false
theorem run_store_row {P : Program} {W : World} {g t : Nat} {old vs : Array Value} (ty : TypeId) (a : Act) (o : Oper) (x y : Operand) (ho : o.op = .store ty x y) (hx : a.eval x = .pointer (some ⟨g, 0, none⟩)) (hy : a.eval y = .agg vs) (hg : W.heap[g]? = some (.cells old t (0, 0))) (hi : (P.info? ty).map (·.size) = some vs.size) (hold : old.size = vs.size) (h1 : vs.all (·.oneCell') = true) : (execOp a.eval o).run P W = .ok .skip (W.setRow g vs) := by
  unfold execOp
  simp only [ho, hx, hy, Instr.storeAt, Instr.sureAddr, Sem.run_bind, Sem.run_pure, Result.andThen_ok, run_storeVar_row W g t ty old vs hg hi hold h1]
theorem run_load_row {P : Program} {W : World} {g t : Nat} {vs : Array Value} {d : TypeDesc} (ty : TypeId) (a : Act) (o : Oper) (x : Operand) (ho : o.op = .load ty x) (hx : a.eval x = .pointer (some ⟨g, 0, none⟩)) (hg : W.heap[g]? = some (.cells vs t (0, 0))) (hu : P.underlying ty = some d) (hd : (match d with | .struct _ | .array _ _ => true | _ => false) = true) (hi : (P.info? ty).map (·.size) = some vs.size) : (execOp a.eval o).run P W = .ok (.value (.agg vs)) W := by
  unfold execOp
  simp only [ho, hx, Instr.loadAt, Instr.sureAddr, Sem.run_bind, Sem.run_pure, Result.andThen_ok, run_loadVar_row W g t ty vs (0, 0) d hg hu hd hi]
theorem load_event {P : Program} {ops : Array Oper} {rest : List Oper} {o : Oper} {a : Act} {Q : Exit → Act → World → Prop} {W : World} {g t : Nat} {vs : Array Value} {d : TypeDesc} (ty : TypeId) (x : Operand) (hgd : o.guard = none) (ho : o.op = .load ty x) (hx : a.eval x = .pointer (some ⟨g, 0, none⟩)) (hg : W.heap[g]? = some (.cells vs t (0, 0))) (hu : P.underlying ty = some d) (hd : (match d with | .struct _ | .array _ _ => true | _ => false) = true) (hi : (P.info? ty).map (·.size) = some vs.size)
    (h : wpList P ops Q rest (a.put o.dst (.agg vs)) W) : wpList P ops Q (o :: rest) a W :=
  Kd.event_run hgd (run_load_row ty a o x ho hx hg hu hd hi) h
theorem blk_row {W : World} {g t : Nat} {old : Array Value} (vs : Array Value) (h : W.heap[g]? = some (.cells old t (0, 0))) : (W.setRow g vs).heap[g]? = some (.cells vs t (0, 0)) := setRow_heap W g old vs t (0, 0) h
theorem blk_rowfar {W : World} {g k : Nat} {o : Obj} (vs : Array Value) (h : W.heap[k]? = some o) (hne : k ≠ g) : (W.setRow g vs).heap[k]? = some o := (setRow_other W g k vs hne).trans h
/-- A row behind the first one's way down from place i (at most f steps). -/
def downF (l : List S60) : Nat → Nat → List S60
  | 0, _ => l
  | f + 1, i =>
    if 2 * i + 1 < l.length then
      if 2 * i + 2 < l.length ∧ bef (l[2 * i + 2]?.getD default) (l[2 * i + 1]?.getD default) = true then
        if bef (l[2 * i + 2]?.getD default) (l[i]?.getD default) = true then downF (swL l i (2 * i + 2)) f (2 * i + 2) else l
      else if bef (l[2 * i + 1]?.getD default) (l[i]?.getD default) = true then downF (swL l i (2 * i + 1)) f (2 * i + 1) else l
    else l
/-- A row without its first one. -/
def takeL (l : List S60) : List S60 := downF ((l.set 0 (l[l.length - 1]?.getD default)).take (l.length - 1)) l.length 0
theorem downF_length : ∀ (f : Nat) (l : List S60) (i : Nat), (downF l f i).length = l.length
  | 0, _, _ => rfl
  | f + 1, l, i => by
    unfold downF
    split
    · split
      · split
        · rw [downF_length f, swL_length]
        · rfl
      · split
        · rw [downF_length f, swL_length]
        · rfl
    · rfl
theorem takeL_length (l : List S60) : (takeL l).length = l.length - 1 := by
  unfold takeL
  rw [downF_length, List.length_take, List.length_set]
  omega
theorem down_end {l : List S60} {f i : Nat} (h : ¬ 2 * i + 1 < l.length) : downF l f i = l := by
  cases f with
  | zero => rfl
  | succ f => unfold downF; rw [if_neg h]
theorem down_1 {l : List S60} {f i : Nat} (h : 2 * i + 1 < l.length) (h2 : ¬ (2 * i + 2 < l.length ∧ bef (l[2 * i + 2]?.getD default) (l[2 * i + 1]?.getD default) = true)) : downF l (f + 1) i = if bef (l[2 * i + 1]?.getD default) (l[i]?.getD default) = true then downF (swL l i (2 * i + 1)) f (2 * i + 1) else l := by
  conv => lhs; unfold downF
  rw [if_pos h, if_neg h2]
theorem down_2 {l : List S60} {f i : Nat} (h : 2 * i + 2 < l.length) (h2 : bef (l[2 * i + 2]?.getD default) (l[2 * i + 1]?.getD default) = true) : downF l (f + 1) i = if bef (l[2 * i + 2]?.getD default) (l[i]?.getD default) = true then downF (swL l i (2 * i + 2)) f (2 * i + 2) else l := by
  conv => lhs; unfold downF
  rw [if_pos (by omega), if_pos ⟨h, h2⟩]
theorem HR_lt {w : World} {b cap : Nat} {l : List S60} (h : HR w b cap l) : b < w.heap.size := by
  obtain ⟨_, _, c, h1, _⟩ := h
  exact blk_lt h1
theorem blk_there {w : World} {k t o n : Nat} {c : Array Value} (h : w.heap[k]? = some (.cells c t (0, 0))) (hs : o + n ≤ c.size) : w.there k o n := by
  intro j hj
  refine ⟨?_, blk_frozen h _⟩
  rw [blk_cell h, Array.getElem?_eq_getElem (by omega)]
  rfl
set_option maxHeartbeats 8000000 in
set_option maxRecDepth 100000 in
theorem take_v (g b cap n : Nat) (c : Array Value) (t : Nat) (l : List S60) (x z : S60) (w : World) (hg : w.heap[g]? = some (.cells c t (0, 0))) (h0 : c[0]? = some (.slice (some ⟨b, 0, none⟩) (n + 1) cap)) (h1 : c[1]? = some (.func (.func 20) #[] #[])) (hr : HR w b cap l) (hln : l.length = n + 1) (hx : l[0]? = some x) (hz : l[n]? = some z) (hgb : g ≠ b) (hn : n ≤ 1000000) :
    Calls Try.prog 22 #[.pointer (some ⟨g, 0, none⟩)] w fun e w' => e = .returned (.agg #[.int .i64 x.f0, .int .i64 x.f1, .int .i64 x.f2, .int .u64 x.f3, .int .i64 x.f4]) ∧ w'.heap[g]? = some (.cells (c.setIfInBounds 0 (.slice (some ⟨b, 0, none⟩) n cap)) t (0, 0)) ∧ HR w' b cap (downF ((l.set 0 z).take n) (n + 1) 0) ∧ KP w w' (fun k => k = g ∨ k = b) := by
  have hu60 := Try.underlying60
  have HGL := Aside0.mk (blk_lt hg)
  have HBL := Aside0.mk (HR_lt hr)
  have HG := Aside0.mk (blk_alloc hg (.cells #[.int .i64 0, .int .i64 0, .int .i64 0, .int .u64 0, .int .i64 0] 60 (0, 0)))
  have BR := Aside0.mk (blk_new w (.cells #[.int .i64 0, .int .i64 0, .int .i64 0, .int .u64 0, .int .i64 0] 60 (0, 0)))
  have HC0 := Aside0.mk h0
  have HC1 := Aside0.mk h1
  have HR1 := Aside0.mk (HR_below hr (below_alloc (Below.refl _ _) (.cells #[.int .i64 0, .int .i64 0, .int .i64 0, .int .u64 0, .int .i64 0] 60 (0, 0))))
  have HX := Aside0.mk hx
  have HZ := Aside0.mk hz
  have HGB := Aside0.mk hgb
  have HLN := Aside0.mk hln
  have HK := Aside0.mk (KP.alloc (KP.refl w (fun k => k = g ∨ k = b)) (.cells #[.int .i64 0, .int .i64 0, .int .i64 0, .int .u64 0, .int .i64 0] 60 (0, 0)))
  have hx0 : 0 < l.length := by omega
  have hnlt : (n : Int) < (n : Int) + 1 := by omega
  have hnn : (0 : Int) < ((n + 1 : Nat) : Int) := by omega
  have hwn : wrap64 (n : Int) = (n : Int) := by unfold wrap64; omega
  clear hg h0 h1 hr hx hz hgb hln
  go_enter Try.func22, Try.ntmps22
  go_wp2
  generalize w.alloc (.cells #[.int .i64 0, .int .i64 0, .int .i64 0, .int .u64 0, .int .i64 0] 60 (0, 0)) = W1 at *
  refine start_ (n := 15) (S := fun w' => w'.cell? ⟨g, 0, none⟩ = some (.slice (some ⟨b, 0, none⟩) (n + 1) cap) ∧ w'.rangeAt b 0 (eC x)) (ds := []) #[false, false, false, false, false, false, false, false, false, false, false, false, false, false, false] (by kernel_rfl) rfl rfl ⟨(blk_cell HG.out 0).trans HC0.out, HR_range HR1.out HX.out⟩ (fun hHeld => ?_)
  replace HG := Aside0.mk (blk_drew HG.out)
  replace BR := Aside0.mk (blk_drew BR.out)
  replace HR1 : Aside0 (HR W1.drew b cap l) := ⟨HR_move HR1.out rfl⟩
  replace HK := Aside0.mk (KP.drew HK.out)
  generalize W1.drew = W2 at HG BR HR1 HK hHeld ⊢
  refine pure_ (i := 0) (N := (some 7)) (v := ?_) (a' := ?_) #[true, false, false, false, false, false, false, false, false, false, false, false, false, false, false] rfl rfl (by decide +kernel) (fun _ _ _ h => h) (Or.inl ⟨by rfl, ?_⟩) ?_ ?_
  rotate_left
  · intro w'
    go_simp
    with_reducible rfl
  rotate_left
  · simp only [Act.put, List.setIfInBounds_toArray, List.set_cons_zero, List.set_cons_succ, i64_w, i32_w]
    rfl
  refine pure_ (i := 1) (N := (some 8)) (v := ?_) (a' := ?_) #[true, true, false, false, false, false, false, false, false, false, false, false, false, false, false] rfl rfl (by decide +kernel) (fun _ _ _ h => h) (Or.inl ⟨by rfl, ?_⟩) ?_ ?_
  rotate_left
  · intro w'
    go_simp
    with_reducible rfl
  rotate_left
  · simp only [Act.put, List.setIfInBounds_toArray, List.set_cons_zero, List.set_cons_succ, i64_w, i32_w]
    rfl
  refine pure_ (i := 2) (N := (some 9)) (v := ?_) (a' := ?_) #[true, true, true, false, false, false, false, false, false, false, false, false, false, false, false] rfl rfl (by decide +kernel) (fun _ _ _ h => h) (Or.inl ⟨by rfl, ?_⟩) ?_ ?_
  rotate_left
  · intro w'
    go_simp
    with_reducible rfl
  rotate_left
  · simp only [Act.put, List.setIfInBounds_toArray, List.set_cons_zero, List.set_cons_succ, i64_w, i32_w]
    rfl
  refine take_ (i := 3) (N := (some 10)) (v := ?_) (a' := ?_) #[true, true, true, true, false, false, false, false, false, false, false, false, false, false, false] rfl rfl (by decide +kernel) (fun _ _ _ h => h) (Or.inl ⟨by rfl, ?_⟩) hHeld ?_ ?_
  rotate_left
  · rintro w' ⟨s0, s1⟩
    go_simp
    with_reducible rfl
  rotate_left
  · simp only [Act.put, List.setIfInBounds_toArray, List.set_cons_zero, List.set_cons_succ, i64_w, i32_w]
    rfl
  refine pure_ (i := 4) (N := (some 11)) (v := ?_) (a' := ?_) #[true, true, true, true, true, false, false, false, false, false, false, false, false, false, false] rfl rfl (by decide +kernel) (fun _ _ _ h => h) (Or.inl ⟨by rfl, ?_⟩) ?_ ?_
  rotate_left
  · intro w'
    go_simp
    with_reducible rfl
  rotate_left
  · simp only [Act.put, List.setIfInBounds_toArray, List.set_cons_zero, List.set_cons_succ, i64_w, i32_w]
    rfl
  refine take_ (i := 5) (N := some 12) (v := .agg #[.int .i64 x.f0, .int .i64 x.f1, .int .i64 x.f2, .int .u64 x.f3, .int .i64 x.f4]) (a' := ?_) #[true, true, true, true, true, true, false, false, false, false, false, false, false, false, false] rfl rfl (by decide +kernel) (fun _ _ _ h => h) (yieldsIf_load_mid (by rfl) 60 (.tmp 11) rfl b (0) rfl (eC x) _ (fun w h => h.2) hu60 rfl (by kernel_rfl)) hHeld ?_ ?_
  rotate_left
  · simp only [Act.put, List.setIfInBounds_toArray, List.set_cons_zero, List.set_cons_succ, i64_w, i32_w]
    rfl
  refine pure_ (i := 6) (N := (some 13)) (v := ?_) (a' := ?_) #[true, true, true, true, true, true, true, false, false, false, false, false, false, false, false] rfl rfl (by decide +kernel) (fun _ _ _ h => h) (Or.inl ⟨by rfl, ?_⟩) ?_ ?_
  rotate_left
  · intro w'
    go_simp
    with_reducible rfl
  rotate_left
  · simp only [Act.put, List.setIfInBounds_toArray, List.set_cons_zero, List.set_cons_succ, i64_w, i32_w]
    rfl
  refine pure_ (i := 7) (N := (some 14)) (v := ?_) (a' := ?_) #[true, true, true, true, true, true, true, true, false, false, false, false, false, false, false] rfl rfl (by decide +kernel) (fun _ _ _ h => h) (Or.inl ⟨by rfl, ?_⟩) ?_ ?_
  rotate_left
  · intro w'
    go_simp
    with_reducible rfl
  rotate_left
  · simp only [Act.put, List.setIfInBounds_toArray, List.set_cons_zero, List.set_cons_succ, i64_w, i32_w]
    rfl
  refine pure_ (i := 8) (N := (some 15)) (v := ?_) (a' := ?_) #[true, true, true, true, true, true, true, true, true, false, false, false, false, false, false] rfl rfl (by decide +kernel) (fun _ _ _ h => h) (Or.inl ⟨by rfl, ?_⟩) ?_ ?_
  rotate_left
  · intro w'
    go_simp
    with_reducible rfl
  rotate_left
  · simp only [Act.put, List.setIfInBounds_toArray, List.set_cons_zero, List.set_cons_succ, i64_w, i32_w]
    rfl
  refine take_ (i := 9) (N := (some 16)) (v := ?_) (a' := ?_) #[true, true, true, true, true, true, true, true, true, true, false, false, false, false, false] rfl rfl (by decide +kernel) (fun _ _ _ h => h) (Or.inl ⟨by rfl, ?_⟩) hHeld ?_ ?_
  rotate_left
  · rintro w' ⟨s0, s1⟩
    go_simp
    with_reducible rfl
  rotate_left
  · simp only [Act.put, List.setIfInBounds_toArray, List.set_cons_zero, List.set_cons_succ, i64_w, i32_w]
    rfl
  refine pure_ (i := 10) (N := (some 17)) (v := ?_) (a' := ?_) #[true, true, true, true, true, true, true, true, true, true, true, false, false, false, false] rfl rfl (by decide +kernel) (fun _ _ _ h => h) (Or.inl ⟨by rfl, ?_⟩) ?_ ?_
  rotate_left
  · intro w'
    go_simp
    with_reducible rfl
  rotate_left
  · simp only [Act.put, List.setIfInBounds_toArray, List.set_cons_zero, List.set_cons_succ, i64_w, i32_w]
    rfl
  refine pure_ (i := 11) (N := (some 18)) (v := ?_) (a' := ?_) #[true, true, true, true, true, true, true, true, true, true, true, true, false, false, false] rfl rfl (by decide +kernel) (fun _ _ _ h => h) (Or.inl ⟨by rfl, ?_⟩) ?_ ?_
  rotate_left
  · intro w'
    go_simp
    with_reducible rfl
  rotate_left
  · simp only [Act.put, List.setIfInBounds_toArray, List.set_cons_zero, List.set_cons_succ, i64_w, i32_w]
    rfl
  rw [hwn]
  refine one_ (i := 12) (N := (some 3)) #[true, true, true, true, true, true, true, true, true, true, true, true, true, false, false] rfl rfl (by decide +kernel) (by decide) (fun K hK => ?_)
  refine value_ (w1 := ?_) (v := ?_) (by rfl) rfl ?_ ?_
  rotate_left 2
  · go_simp
    constructor
    · rfl
    · rfl
  have B3 := Aside0.mk (blk_new W2 (.cells #[.int .i64 0, .int .i64 0, .int .i64 0, .int .u64 0, .int .i64 0] 60 (0, 0)))
  have NBG : Aside0 (g ≠ W2.heap.size) := ⟨Nat.ne_of_lt (blk_lt HG.out)⟩
  have NBB : Aside0 (b ≠ W2.heap.size) := ⟨Nat.ne_of_lt (HR_lt HR1.out)⟩
  have NBR : Aside0 (w.heap.size ≠ W2.heap.size) := ⟨Nat.ne_of_lt (blk_lt BR.out)⟩
  have NBL : Aside0 (w.heap.size ≤ W2.heap.size) := ⟨HK.out.2.1⟩
  have n_HG := Aside0.mk (blk_alloc HG.out (.cells #[.int .i64 0, .int .i64 0, .int .i64 0, .int .u64 0, .int .i64 0] 60 (0, 0)))
  have n_BR := Aside0.mk (blk_alloc BR.out (.cells #[.int .i64 0, .int .i64 0, .int .i64 0, .int .u64 0, .int .i64 0] 60 (0, 0)))
  have n_HR1 := Aside0.mk (HR_below HR1.out (below_alloc (Below.refl _ _) (.cells #[.int .i64 0, .int .i64 0, .int .i64 0, .int .u64 0, .int .i64 0] 60 (0, 0))))
  have n_HK := Aside0.mk (KP.alloc HK.out (.cells #[.int .i64 0, .int .i64 0, .int .i64 0, .int .u64 0, .int .i64 0] 60 (0, 0)))
  clear HG BR HR1 HK
  have HG := n_HG
  have BR := n_BR
  have HR1 := n_HR1
  have HK := n_HK
  clear n_HG n_BR n_HR1 n_HK
  generalize hnb : W2.heap.size = nb at *
  generalize W2.alloc (.cells #[.int .i64 0, .int .i64 0, .int .i64 0, .int .u64 0, .int .i64 0] 60 (0, 0)) = W3 at *
  refine hK.out _ _ ⟨(blk_cell HG.out 0).trans HC0.out, HR_range HR1.out HX.out⟩ (fun hHeld => ?_)
  clear hK K
  refine norm_ (a' := ?_) ?_ ?_
  rotate_left
  · show Act.put _ (some 3) _ = _
    simp only [Act.put, List.setIfInBounds_toArray, List.set_cons_zero, List.set_cons_succ, i64_w, i32_w]
    rfl
  refine one_ (i := 13) (N := none) #[true, true, true, true, true, true, true, true, true, true, true, true, true, true, false] rfl rfl (by decide +kernel) (by decide) (fun K hK => ?_)
  refine skip_ (w1 := W3.setCells nb (0) (eC x)) (by rfl) rfl (run_st5 _ _ (.tmp 3) (.tmp 12) rfl nb (0) #[.int .i64 x.f0, .int .i64 x.f1, .int .i64 x.f2, .int .u64 x.f3, .int .i64 x.f4] rfl rfl (blk_there B3.out (Nat.le_refl 5)) (by kernel_rfl) (all_oneCell_toArray (eC_one x))) ?_
  have n_HG := Aside0.mk ((setCells_far NBG.out (eC x) 0 W3).trans HG.out)
  have n_BR := Aside0.mk ((setCells_far NBR.out (eC x) 0 W3).trans BR.out)
  have n_HR1 := Aside0.mk (HR_move HR1.out (setCells_far NBB.out (eC x) 0 W3))
  have n_HK := Aside0.mk (KP_cells HK.out nb 0 (eC x) (.inr NBL.out))
  have n_B3 := Aside0.mk (show (W3.setCells nb 0 (eC x)).heap[nb]? = some (.cells #[.int .i64 x.f0, .int .i64 x.f1, .int .i64 x.f2, .int .u64 x.f3, .int .i64 x.f4] 60 (0, 0)) from (setCells_blk (eC x) 0 W3 _ B3.out).trans rfl)
  clear HG BR HR1 HK B3
  have HG := n_HG
  have BR := n_BR
  have HR1 := n_HR1
  have HK := n_HK
  have B3 := n_B3
  clear n_HG n_BR n_HR1 n_HK n_B3
  generalize W3.setCells nb 0 (eC x) = W4 at *
  refine hK.out _ _ ⟨(blk_cell HG.out 0).trans HC0.out, HR_range HR1.out HX.out⟩ (fun hHeld => ?_)
  clear hK K
  refine pure_ (i := 14) (N := (some 4)) (v := ?_) (a' := ?_) #[true, true, true, true, true, true, true, true, true, true, true, true, true, true, true] rfl rfl (by decide +kernel) (fun _ _ _ h => h) (Or.inl ⟨by rfl, ?_⟩) ?_ ?_
  rotate_left
  · intro w'
    go_simp
    with_reducible rfl
  rotate_left
  · simp only [Act.put, List.setIfInBounds_toArray, List.set_cons_zero, List.set_cons_succ, i64_w, i32_w]
    rfl
  refine done_ (by kernel_rfl) ?_
  go_wp2
  refine start_ (n := 13) (S := fun w' => w'.cell? ⟨g, 0, none⟩ = some (.slice (some ⟨b, 0, none⟩) (n + 1) cap) ∧ w'.rangeAt b (n * 5) (eC z)) (ds := [12]) #[false, false, false, false, false, false, false, false, false, false, false, false, false] (by kernel_rfl) rfl rfl ⟨(blk_cell HG.out 0).trans HC0.out, HR_range HR1.out HZ.out⟩ (fun hHeld => ?_)
  replace HG := Aside0.mk (blk_drew HG.out)
  replace BR := Aside0.mk (blk_drew BR.out)
  replace B3 := Aside0.mk (blk_drew B3.out)
  replace HR1 : Aside0 (HR W4.drew b cap l) := ⟨HR_move HR1.out rfl⟩
  replace HK := Aside0.mk (KP.drew HK.out)
  generalize W4.drew = W5 at HG BR B3 HR1 HK hHeld ⊢
  refine pure_ (i := 0) (N := (some 19)) (v := ?_) (a' := ?_) #[true, false, false, false, false, false, false, false, false, false, false, false, false] rfl rfl (by decide +kernel) (fun _ _ _ h => h) (Or.inl ⟨by rfl, ?_⟩) ?_ ?_
  rotate_left
  · intro w'
    go_simp
    with_reducible rfl
  rotate_left
  · simp only [Act.put, List.setIfInBounds_toArray, List.set_cons_zero, List.set_cons_succ, i64_w, i32_w]
    rfl
  refine pure_ (i := 1) (N := (some 20)) (v := ?_) (a' := ?_) #[true, true, false, false, false, false, false, false, false, false, false, false, false] rfl rfl (by decide +kernel) (fun _ _ _ h => h) (Or.inl ⟨by rfl, ?_⟩) ?_ ?_
  rotate_left
  · intro w'
    go_simp
    with_reducible rfl
  rotate_left
  · simp only [Act.put, List.setIfInBounds_toArray, List.set_cons_zero, List.set_cons_succ, i64_w, i32_w]
    rfl
  refine pure_ (i := 2) (N := (some 21)) (v := ?_) (a' := ?_) #[true, true, true, false, false, false, false, false, false, false, false, false, false] rfl rfl (by decide +kernel) (fun _ _ _ h => h) (Or.inl ⟨by rfl, ?_⟩) ?_ ?_
  rotate_left
  · intro w'
    go_simp
    with_reducible rfl
  rotate_left
  · simp only [Act.put, List.setIfInBounds_toArray, List.set_cons_zero, List.set_cons_succ, i64_w, i32_w]
    rfl
  refine take_ (i := 3) (N := (some 22)) (v := ?_) (a' := ?_) #[true, true, true, true, false, false, false, false, false, false, false, false, false] rfl rfl (by decide +kernel) (fun _ _ _ h => h) (Or.inl ⟨by rfl, ?_⟩) hHeld ?_ ?_
  rotate_left
  · rintro w' ⟨s0, s1⟩
    go_simp
    with_reducible rfl
  rotate_left
  · simp only [Act.put, List.setIfInBounds_toArray, List.set_cons_zero, List.set_cons_succ, i64_w, i32_w]
    rfl
  refine pure_ (i := 4) (N := (some 23)) (v := ?_) (a' := ?_) #[true, true, true, true, true, false, false, false, false, false, false, false, false] rfl rfl (by decide +kernel) (fun _ _ _ h => h) (Or.inl ⟨by rfl, ?_⟩) ?_ ?_
  rotate_left
  · intro w'
    go_simp
    with_reducible rfl
  rotate_left
  · simp only [Act.put, List.setIfInBounds_toArray, List.set_cons_zero, List.set_cons_succ, i64_w, i32_w]
    rfl
  refine pure_ (i := 5) (N := (some 24)) (v := ?_) (a' := ?_) #[true, true, true, true, true, true, false, false, false, false, false, false, false] rfl rfl (by decide +kernel) (fun _ _ _ h => h) (Or.inl ⟨by rfl, ?_⟩) ?_ ?_
  rotate_left
  · intro w'
    go_simp
    with_reducible rfl
  rotate_left
  · simp only [Act.put, List.setIfInBounds_toArray, List.set_cons_zero, List.set_cons_succ, i64_w, i32_w]
    rfl
  refine pure_ (i := 6) (N := (some 25)) (v := ?_) (a' := ?_) #[true, true, true, true, true, true, true, false, false, false, false, false, false] rfl rfl (by decide +kernel) (fun _ _ _ h => h) (Or.inl ⟨by rfl, ?_⟩) ?_ ?_
  rotate_left
  · intro w'
    go_simp
    with_reducible rfl
  rotate_left
  · simp only [Act.put, List.setIfInBounds_toArray, List.set_cons_zero, List.set_cons_succ, i64_w, i32_w]
    rfl
  refine take_ (i := 7) (N := (some 26)) (v := ?_) (a' := ?_) #[true, true, true, true, true, true, true, true, false, false, false, false, false] rfl rfl (by decide +kernel) (fun _ _ _ h => h) (Or.inl ⟨by rfl, ?_⟩) hHeld ?_ ?_
  rotate_left
  · rintro w' ⟨s0, s1⟩
    go_simp
    with_reducible rfl
  rotate_left
  · simp only [Act.put, List.setIfInBounds_toArray, List.set_cons_zero, List.set_cons_succ, i64_w, i32_w]
    rfl
  refine pure_ (i := 8) (N := (some 27)) (v := ?_) (a' := ?_) #[true, true, true, true, true, true, true, true, true, false, false, false, false] rfl rfl (by decide +kernel) (fun _ _ _ h => h) (Or.inl ⟨by rfl, ?_⟩) ?_ ?_
  rotate_left
  · intro w'
    go_simp
    with_reducible rfl
  rotate_left
  · simp only [Act.put, List.setIfInBounds_toArray, List.set_cons_zero, List.set_cons_succ, i64_w, i32_w]
    rfl
  refine pure_ (i := 9) (N := (some 28)) (v := ?_) (a' := ?_) #[true, true, true, true, true, true, true, true, true, true, false, false, false] rfl rfl (by decide +kernel) (fun _ _ _ h => h) (Or.inl ⟨by rfl, ?_⟩) ?_ ?_
  rotate_left
  · intro w'
    go_simp
    with_reducible rfl
  rotate_left
  · simp only [Act.put, List.setIfInBounds_toArray, List.set_cons_zero, List.set_cons_succ, i64_w, i32_w]
    rfl
  refine take_ (i := 10) (N := some 29) (v := .agg #[.int .i64 z.f0, .int .i64 z.f1, .int .i64 z.f2, .int .u64 z.f3, .int .i64 z.f4]) (a' := ?_) #[true, true, true, true, true, true, true, true, true, true, true, false, false] rfl rfl (by decide +kernel) (fun _ _ _ h => h) (yieldsIf_load_mid (by rfl) 60 (.tmp 28) rfl b (n * 5) rfl (eC z) _ (fun w h => h.2) hu60 rfl (by kernel_rfl)) hHeld ?_ ?_
  rotate_left
  · simp only [Act.put, List.setIfInBounds_toArray, List.set_cons_zero, List.set_cons_succ, i64_w, i32_w]
    rfl
  refine pure_ (i := 11) (N := (some 30)) (v := ?_) (a' := ?_) #[true, true, true, true, true, true, true, true, true, true, true, true, false] rfl rfl (by decide +kernel) (fun _ _ _ h => h) (Or.inl ⟨by rfl, ?_⟩) ?_ ?_
  rotate_left
  · intro w'
    go_simp
    with_reducible rfl
  rotate_left
  · simp only [Act.put, List.setIfInBounds_toArray, List.set_cons_zero, List.set_cons_succ, i64_w, i32_w]
    rfl
  refine last_ (i := 12) (N := none) #[true, true, true, true, true, true, true, true, true, true, true, true, true] rfl rfl (by decide +kernel) (by decide) (fun K hK => ?_)
  refine skip_ (w1 := W5.setCells b (0) (eC z)) (by rfl) rfl (run_st5 _ _ (.tmp 30) (.tmp 29) rfl b (0) #[.int .i64 z.f0, .int .i64 z.f1, .int .i64 z.f2, .int .u64 z.f3, .int .i64 z.f4] rfl rfl (HR_there (i := 0) HR1.out hx0) (by kernel_rfl) (all_oneCell_toArray (eC_one z))) ?_
  refine hK.out _ _ ?_
  clear hK K hHeld
  have n_HG := Aside0.mk ((setCells_far HGB.out (eC z) 0 W5).trans HG.out)
  have n_BR := Aside0.mk ((setCells_far (Nat.ne_of_gt HBL.out) (eC z) 0 W5).trans BR.out)
  have n_B3 := Aside0.mk ((setCells_far NBB.out.symm (eC z) 0 W5).trans B3.out)
  have n_HR1 := Aside0.mk ((HR_set (i := 0) HR1.out z hx0 : HR (W5.setCells b 0 (eC z)) b cap (l.set 0 z)))
  have n_HK := Aside0.mk (KP_cells HK.out b 0 (eC z) (.inl (.inr rfl)))
  clear HG BR B3 HR1 HK
  have HG := n_HG
  have BR := n_BR
  have B3 := n_B3
  have HR1 := n_HR1
  have HK := n_HK
  clear n_HG n_BR n_B3 n_HR1 n_HK
  generalize W5.setCells b 0 (eC z) = W6 at *
  refine done_ (by kernel_rfl) ?_
  have hcg := (blk_cell HG.out 0).trans HC0.out
  have hfg := blk_frozen HG.out 0
  have hncap : n ≤ cap := by have h_ := HR1.out.1; rw [List.length_set, HLN.out] at h_; omega
  have hnci : (n : Int) ≤ (cap : Int) := by omega
  have hnn0 : (0 : Int) ≤ (n : Int) := by omega
  go_wp2
  have n_G := Aside0.mk (blk_set HG.out 0 (.slice (some ⟨b, 0, none⟩) n cap))
  have n_BR := Aside0.mk (blk_far BR.out (p := ⟨g, 0, none⟩) (Nat.ne_of_gt HGL.out) (.slice (some ⟨b, 0, none⟩) n cap))
  have n_B3 := Aside0.mk (blk_far B3.out (p := ⟨g, 0, none⟩) NBG.out.symm (.slice (some ⟨b, 0, none⟩) n cap))
  have n_R := Aside0.mk (HR_take (HR_move HR1.out (Below.heap_setCell W6 ⟨g, 0, none⟩ (.slice (some ⟨b, 0, none⟩) n cap) b HGB.out.symm)) n)
  have n_K := Aside0.mk (KP.setCell HK.out (p := ⟨g, 0, none⟩) (.inl (.inl rfl)) (.slice (some ⟨b, 0, none⟩) n cap))
  clear HG BR B3 HR1 HK hcg hfg hncap hnci hnn0 hnn hnlt
  have HG := n_G
  have BR := n_BR
  have B3 := n_B3
  have HR1 := n_R
  have HK := n_K
  clear n_G n_BR n_B3 n_R n_K
  generalize W6.setCell ⟨g, 0, none⟩ (.slice (some ⟨b, 0, none⟩) n cap) = W7 at *
  have HD0 := Aside0.mk (set0_get (u := (.slice (some ⟨b, 0, none⟩) n cap)) HC0.out)
  have HD1 := Aside0.mk (set0_ne (u := (.slice (some ⟨b, 0, none⟩) n cap)) HC1.out (by decide))
  generalize hc' : c.setIfInBounds 0 (.slice (some ⟨b, 0, none⟩) n cap) = c' at *
  have hlen0 : ((l.set 0 z).take n).length = n := by
    have := HLN.out
    rw [List.length_take, List.length_set]
    omega
  go_loopw [5] (fun v5 wr => ∃ (i f : Nat) (lr : List S60), n ≤ f + i ∧ i ≤ n ∧ v5 = .int .i64 (i : Int) ∧ Aside0 (lr.length = n ∧ downF lr f i = (downF ((l.set 0 z).take n) (n + 1) 0)) ∧ Aside0 (wr.heap[g]? = some (.cells c' t (0, 0))) ∧ Aside0 (wr.heap[w.heap.size]? = some (.cells #[.int .i64 0, .int .i64 0, .int .i64 0, .int .u64 0, .int .i64 0] 60 (0, 0))) ∧ Aside0 (wr.heap[nb]? = some (.cells #[.int .i64 x.f0, .int .i64 x.f1, .int .i64 x.f2, .int .u64 x.f3, .int .i64 x.f4] 60 (0, 0))) ∧ Aside0 (HR wr b cap lr) ∧ Aside0 (KP w wr (fun k => k = g ∨ k = b))) (fun v5 _ => n - (intOf v5).toNat)
  case atStart => exact ⟨0, n + 1, _, by omega, Nat.zero_le _, rfl, ⟨hlen0, rfl⟩, HG, BR, B3, HR1, HK⟩
  case round =>
    clear HG BR B3 HR1 HK hwn hlen0
    obtain ⟨i, f, lr, hfi, hil, rfl, HI, HG, BR, B3, HR1, HK⟩ := hrel
    have hlr := HI.out.1
    obtain ⟨k0, hk0⟩ : ∃ k0, 2 * i = k0 := ⟨_, rfl⟩
    obtain ⟨k1, hk1⟩ : ∃ k1, k0 + 1 = k1 := ⟨_, rfl⟩
    have hc1 : 2 * (i : Int) + 1 = (k1 : Int) := by omega
    by_cases hd : k1 < n
    · obtain ⟨f, rfl⟩ : ∃ f', f = f' + 1 := ⟨f - 1, by omega⟩
      have hdq : 2 * (i : Int) + 1 < (n : Int) := by omega
      obtain ⟨k2, hk2⟩ : ∃ k2, k1 + 1 = k2 := ⟨_, rfl⟩
      have hc2 : (k1 : Int) + 1 = (k2 : Int) := by omega
      have e1 : 2 * i + 1 = k1 := by omega
      have e2 : 2 * i + 2 = k2 := by omega
      go_wp2
      try rw [hc1]
      have hw2 : wrap64 (k2 : Int) = (k2 : Int) := by unfold wrap64; omega
      clear hdq hc1
      by_cases hd2 : k2 < n
      · have hdq2 : (k2 : Int) < (n : Int) := by omega
        obtain ⟨q7, hq7⟩ : ∃ q, bef (lr[k2]?.getD default) (lr[k1]?.getD default) = q := ⟨_, rfl⟩
        have HB7 := Aside0.mk hq7
        clear hq7
        refine start_ (n := 26) (S := fun w' => w'.cell? ⟨g, 0, none⟩ = some (.slice (some ⟨b, 0, none⟩) n cap) ∧ w'.cell? ⟨g, 1, none⟩ = some (.func (.func 20) #[] #[]) ∧ w'.rangeAt b (k2 * 5) (eC (lr[k2]?.getD default)) ∧ w'.rangeAt b (k1 * 5) (eC (lr[k1]?.getD default))) (ds := []) #[false, false, false, false, false, false, false, false, false, false, false, false, false, false, false, false, false, false, false, false, false, false, false, false, false, false] (by kernel_rfl) rfl rfl ⟨(blk_cell HG.out 0).trans HD0.out, (blk_cell HG.out 1).trans HD1.out, HR_range HR1.out (getD_get (by omega)), HR_range HR1.out (getD_get (by omega))⟩ (fun hHeld => ?_)
        replace HG := Aside0.mk (blk_drew HG.out)
        replace BR := Aside0.mk (blk_drew BR.out)
        replace B3 := Aside0.mk (blk_drew B3.out)
        replace HR1 : Aside0 (HR wr.drew b cap lr) := ⟨HR_move HR1.out rfl⟩
        replace HK := Aside0.mk (KP.drew HK.out)
        generalize wr.drew = wq at HG BR B3 HR1 HK hHeld ⊢
        refine pure_ (i := 0) (N := (some 48)) (v := ?_) (a' := ?_) #[true, false, false, false, false, false, false, false, false, false, false, false, false, false, false, false, false, false, false, false, false, false, false, false, false, false] rfl rfl (by decide +kernel) (fun _ _ _ h => h) (Or.inl ⟨by rfl, ?_⟩) ?_ ?_
        rotate_left
        · intro w'
          go_simp
          with_reducible rfl
        rotate_left
        · simp only [Act.put, List.setIfInBounds_toArray, List.set_cons_zero, List.set_cons_succ, i64_w, i32_w]
          rfl
        refine pure_ (i := 1) (N := (some 49)) (v := ?_) (a' := ?_) #[true, true, false, false, false, false, false, false, false, false, false, false, false, false, false, false, false, false, false, false, false, false, false, false, false, false] rfl rfl (by decide +kernel) (fun _ _ _ h => h) (Or.inl ⟨by rfl, ?_⟩) ?_ ?_
        rotate_left
        · intro w'
          go_simp
          with_reducible rfl
        rotate_left
        · simp only [Act.put, List.setIfInBounds_toArray, List.set_cons_zero, List.set_cons_succ, i64_w, i32_w]
          rfl
        try rw [hw2]
        refine pure_ (i := 2) (N := (some 50)) (v := ?_) (a' := ?_) #[true, true, true, false, false, false, false, false, false, false, false, false, false, false, false, false, false, false, false, false, false, false, false, false, false, false] rfl rfl (by decide +kernel) (fun _ _ _ h => h) (Or.inl ⟨by rfl, ?_⟩) ?_ ?_
        rotate_left
        · intro w'
          go_simp
          with_reducible rfl
        rotate_left
        · simp only [Act.put, List.setIfInBounds_toArray, List.set_cons_zero, List.set_cons_succ, i64_w, i32_w]
          rfl
        refine pure_ (i := 3) (N := (some 51)) (v := ?_) (a' := ?_) #[true, true, true, true, false, false, false, false, false, false, false, false, false, false, false, false, false, false, false, false, false, false, false, false, false, false] rfl rfl (by decide +kernel) (fun _ _ _ h => h) (Or.inl ⟨by rfl, ?_⟩) ?_ ?_
        rotate_left
        · intro w'
          go_simp
          with_reducible rfl
        rotate_left
        · simp only [Act.put, List.setIfInBounds_toArray, List.set_cons_zero, List.set_cons_succ, i64_w, i32_w]
          rfl
        refine pure_ (i := 4) (N := (some 52)) (v := ?_) (a' := ?_) #[true, true, true, true, true, false, false, false, false, false, false, false, false, false, false, false, false, false, false, false, false, false, false, false, false, false] rfl rfl (by decide +kernel) (fun _ _ _ h => h) (Or.inl ⟨by rfl, ?_⟩) ?_ ?_
        rotate_left
        · intro w'
          go_simp
          with_reducible rfl
        rotate_left
        · simp only [Act.put, List.setIfInBounds_toArray, List.set_cons_zero, List.set_cons_succ, i64_w, i32_w]
          rfl
        refine pure_ (i := 5) (N := (some 53)) (v := ?_) (a' := ?_) #[true, true, true, true, true, true, false, false, false, false, false, false, false, false, false, false, false, false, false, false, false, false, false, false, false, false] rfl rfl (by decide +kernel) (fun _ _ _ h => h) (Or.inl ⟨by rfl, ?_⟩) ?_ ?_
        rotate_left
        · intro w'
          go_simp
          with_reducible rfl
        rotate_left
        · simp only [Act.put, List.setIfInBounds_toArray, List.set_cons_zero, List.set_cons_succ, i64_w, i32_w]
          rfl
        refine pure_ (i := 6) (N := (some 54)) (v := ?_) (a' := ?_) #[true, true, true, true, true, true, true, false, false, false, false, false, false, false, false, false, false, false, false, false, false, false, false, false, false, false] rfl rfl (by decide +kernel) (fun _ _ _ h => h) (Or.inl ⟨by rfl, ?_⟩) ?_ ?_
        rotate_left
        · intro w'
          go_simp
          with_reducible rfl
        rotate_left
        · simp only [Act.put, List.setIfInBounds_toArray, List.set_cons_zero, List.set_cons_succ, i64_w, i32_w]
          rfl
        refine pure_ (i := 7) (N := (some 55)) (v := ?_) (a' := ?_) #[true, true, true, true, true, true, true, true, false, false, false, false, false, false, false, false, false, false, false, false, false, false, false, false, false, false] rfl rfl (by decide +kernel) (fun _ _ _ h => h) (Or.inl ⟨by rfl, ?_⟩) ?_ ?_
        rotate_left
        · intro w'
          go_simp
          with_reducible rfl
        rotate_left
        · simp only [Act.put, List.setIfInBounds_toArray, List.set_cons_zero, List.set_cons_succ, i64_w, i32_w]
          rfl
        refine take_ (i := 8) (N := (some 56)) (v := ?_) (a' := ?_) #[true, true, true, true, true, true, true, true, true, false, false, false, false, false, false, false, false, false, false, false, false, false, false, false, false, false] rfl rfl (by decide +kernel) (fun _ _ _ h => h) (Or.inl ⟨by rfl, ?_⟩) hHeld ?_ ?_
        rotate_left
        · rintro w' ⟨s0, s1, s2, s3⟩
          go_simp
          with_reducible rfl
        rotate_left
        · simp only [Act.put, List.setIfInBounds_toArray, List.set_cons_zero, List.set_cons_succ, i64_w, i32_w]
          rfl
        refine pure_ (i := 9) (N := (some 57)) (v := ?_) (a' := ?_) #[true, true, true, true, true, true, true, true, true, true, false, false, false, false, false, false, false, false, false, false, false, false, false, false, false, false] rfl rfl (by decide +kernel) (fun _ _ _ h => h) (Or.inl ⟨by rfl, ?_⟩) ?_ ?_
        rotate_left
        · intro w'
          go_simp
          with_reducible rfl
        rotate_left
        · simp only [Act.put, List.setIfInBounds_toArray, List.set_cons_zero, List.set_cons_succ, i64_w, i32_w]
          rfl
        refine pure_ (i := 10) (N := (some 58)) (v := ?_) (a' := ?_) #[true, true, true, true, true, true, true, true, true, true, true, false, false, false, false, false, false, false, false, false, false, false, false, false, false, false] rfl rfl (by decide +kernel) (fun _ _ _ h => h) (Or.inl ⟨by rfl, ?_⟩) ?_ ?_
        rotate_left
        · intro w'
          go_simp
          with_reducible rfl
        rotate_left
        · simp only [Act.put, List.setIfInBounds_toArray, List.set_cons_zero, List.set_cons_succ, i64_w, i32_w]
          rfl
        refine pure_ (i := 11) (N := (some 59)) (v := ?_) (a' := ?_) #[true, true, true, true, true, true, true, true, true, true, true, true, false, false, false, false, false, false, false, false, false, false, false, false, false, false] rfl rfl (by decide +kernel) (fun _ _ _ h => h) (Or.inl ⟨by rfl, ?_⟩) ?_ ?_
        rotate_left
        · intro w'
          go_simp
          with_reducible rfl
        rotate_left
        · simp only [Act.put, List.setIfInBounds_toArray, List.set_cons_zero, List.set_cons_succ, i64_w, i32_w]
          rfl
        refine take_ (i := 12) (N := (some 60)) (v := ?_) (a' := ?_) #[true, true, true, true, true, true, true, true, true, true, true, true, true, false, false, false, false, false, false, false, false, false, false, false, false, false] rfl rfl (by decide +kernel) (fun _ _ _ h => h) (Or.inl ⟨by rfl, ?_⟩) hHeld ?_ ?_
        rotate_left
        · rintro w' ⟨s0, s1, s2, s3⟩
          go_simp
          with_reducible rfl
        rotate_left
        · simp only [Act.put, List.setIfInBounds_toArray, List.set_cons_zero, List.set_cons_succ, i64_w, i32_w]
          rfl
        refine pure_ (i := 13) (N := (some 61)) (v := ?_) (a' := ?_) #[true, true, true, true, true, true, true, true, true, true, true, true, true, true, false, false, false, false, false, false, false, false, false, false, false, false] rfl rfl (by decide +kernel) (fun _ _ _ h => h) (Or.inl ⟨by rfl, ?_⟩) ?_ ?_
        rotate_left
        · intro w'
          go_simp
          with_reducible rfl
        rotate_left
        · simp only [Act.put, List.setIfInBounds_toArray, List.set_cons_zero, List.set_cons_succ, i64_w, i32_w]
          rfl
        refine pure_ (i := 14) (N := (some 62)) (v := ?_) (a' := ?_) #[true, true, true, true, true, true, true, true, true, true, true, true, true, true, true, false, false, false, false, false, false, false, false, false, false, false] rfl rfl (by decide +kernel) (fun _ _ _ h => h) (Or.inl ⟨by rfl, ?_⟩) ?_ ?_
        rotate_left
        · intro w'
          go_simp
          with_reducible rfl
        rotate_left
        · simp only [Act.put, List.setIfInBounds_toArray, List.set_cons_zero, List.set_cons_succ, i64_w, i32_w]
          rfl
        try rw [hw2]
        refine pure_ (i := 15) (N := (some 63)) (v := ?_) (a' := ?_) #[true, true, true, true, true, true, true, true, true, true, true, true, true, true, true, true, false, false, false, false, false, false, false, false, false, false] rfl rfl (by decide +kernel) (fun _ _ _ h => h) (Or.inl ⟨by rfl, ?_⟩) ?_ ?_
        rotate_left
        · intro w'
          go_simp
          with_reducible rfl
        rotate_left
        · simp only [Act.put, List.setIfInBounds_toArray, List.set_cons_zero, List.set_cons_succ, i64_w, i32_w]
          rfl
        refine take_ (i := 16) (N := some 64) (v := .agg #[.int .i64 (lr[k2]?.getD default).f0, .int .i64 (lr[k2]?.getD default).f1, .int .i64 (lr[k2]?.getD default).f2, .int .u64 (lr[k2]?.getD default).f3, .int .i64 (lr[k2]?.getD default).f4]) (a' := ?_) #[true, true, true, true, true, true, true, true, true, true, true, true, true, true, true, true, true, false, false, false, false, false, false, false, false, false] rfl rfl (by decide +kernel) (fun _ _ _ h => h) (yieldsIf_load_mid (by rfl) 60 (.tmp 63) rfl b (k2 * 5) rfl (eC (lr[k2]?.getD default)) _ (fun w h => h.2.2.1) hu60 rfl (by kernel_rfl)) hHeld ?_ ?_
        rotate_left
        · simp only [Act.put, List.setIfInBounds_toArray, List.set_cons_zero, List.set_cons_succ, i64_w, i32_w]
          rfl
        refine pure_ (i := 17) (N := (some 65)) (v := ?_) (a' := ?_) #[true, true, true, true, true, true, true, true, true, true, true, true, true, true, true, true, true, true, false, false, false, false, false, false, false, false] rfl rfl (by decide +kernel) (fun _ _ _ h => h) (Or.inl ⟨by rfl, ?_⟩) ?_ ?_
        rotate_left
        · intro w'
          go_simp
          with_reducible rfl
        rotate_left
        · simp only [Act.put, List.setIfInBounds_toArray, List.set_cons_zero, List.set_cons_succ, i64_w, i32_w]
          rfl
        refine pure_ (i := 18) (N := (some 66)) (v := ?_) (a' := ?_) #[true, true, true, true, true, true, true, true, true, true, true, true, true, true, true, true, true, true, true, false, false, false, false, false, false, false] rfl rfl (by decide +kernel) (fun _ _ _ h => h) (Or.inl ⟨by rfl, ?_⟩) ?_ ?_
        rotate_left
        · intro w'
          go_simp
          with_reducible rfl
        rotate_left
        · simp only [Act.put, List.setIfInBounds_toArray, List.set_cons_zero, List.set_cons_succ, i64_w, i32_w]
          rfl
        refine pure_ (i := 19) (N := (some 67)) (v := ?_) (a' := ?_) #[true, true, true, true, true, true, true, true, true, true, true, true, true, true, true, true, true, true, true, true, false, false, false, false, false, false] rfl rfl (by decide +kernel) (fun _ _ _ h => h) (Or.inl ⟨by rfl, ?_⟩) ?_ ?_
        rotate_left
        · intro w'
          go_simp
          with_reducible rfl
        rotate_left
        · simp only [Act.put, List.setIfInBounds_toArray, List.set_cons_zero, List.set_cons_succ, i64_w, i32_w]
          rfl
        refine take_ (i := 20) (N := (some 68)) (v := ?_) (a' := ?_) #[true, true, true, true, true, true, true, true, true, true, true, true, true, true, true, true, true, true, true, true, true, false, false, false, false, false] rfl rfl (by decide +kernel) (fun _ _ _ h => h) (Or.inl ⟨by rfl, ?_⟩) hHeld ?_ ?_
        rotate_left
        · rintro w' ⟨s0, s1, s2, s3⟩
          go_simp
          with_reducible rfl
        rotate_left
        · simp only [Act.put, List.setIfInBounds_toArray, List.set_cons_zero, List.set_cons_succ, i64_w, i32_w]
          rfl
        refine pure_ (i := 21) (N := (some 69)) (v := ?_) (a' := ?_) #[true, true, true, true, true, true, true, true, true, true, true, true, true, true, true, true, true, true, true, true, true, true, false, false, false, false] rfl rfl (by decide +kernel) (fun _ _ _ h => h) (Or.inl ⟨by rfl, ?_⟩) ?_ ?_
        rotate_left
        · intro w'
          go_simp
          with_reducible rfl
        rotate_left
        · simp only [Act.put, List.setIfInBounds_toArray, List.set_cons_zero, List.set_cons_succ, i64_w, i32_w]
          rfl
        refine pure_ (i := 22) (N := (some 70)) (v := ?_) (a' := ?_) #[true, true, true, true, true, true, true, true, true, true, true, true, true, true, true, true, true, true, true, true, true, true, true, false, false, false] rfl rfl (by decide +kernel) (fun _ _ _ h => h) (Or.inl ⟨by rfl, ?_⟩) ?_ ?_
        rotate_left
        · intro w'
          go_simp
          with_reducible rfl
        rotate_left
        · simp only [Act.put, List.setIfInBounds_toArray, List.set_cons_zero, List.set_cons_succ, i64_w, i32_w]
          rfl
        refine take_ (i := 23) (N := some 71) (v := .agg #[.int .i64 (lr[k1]?.getD default).f0, .int .i64 (lr[k1]?.getD default).f1, .int .i64 (lr[k1]?.getD default).f2, .int .u64 (lr[k1]?.getD default).f3, .int .i64 (lr[k1]?.getD default).f4]) (a' := ?_) #[true, true, true, true, true, true, true, true, true, true, true, true, true, true, true, true, true, true, true, true, true, true, true, true, false, false] rfl rfl (by decide +kernel) (fun _ _ _ h => h) (yieldsIf_load_mid (by rfl) 60 (.tmp 70) rfl b (k1 * 5) rfl (eC (lr[k1]?.getD default)) _ (fun w h => h.2.2.2) hu60 rfl (by kernel_rfl)) hHeld ?_ ?_
        rotate_left
        · simp only [Act.put, List.setIfInBounds_toArray, List.set_cons_zero, List.set_cons_succ, i64_w, i32_w]
          rfl
        refine one_ (i := 24) (N := (some 72)) #[true, true, true, true, true, true, true, true, true, true, true, true, true, true, true, true, true, true, true, true, true, true, true, true, true, false] rfl rfl (by decide +kernel) (by decide) (fun K hK => ?_)
        refine Go.Proofs.YtocdpfdnnijdkaaS.goesV_ Try.func20 (by kernel_rfl) rfl #[.agg #[.int .i64 (lr[k2]?.getD default).f0, .int .i64 (lr[k2]?.getD default).f1, .int .i64 (lr[k2]?.getD default).f2, .int .u64 (lr[k2]?.getD default).f3, .int .i64 (lr[k2]?.getD default).f4], .agg #[.int .i64 (lr[k1]?.getD default).f0, .int .i64 (lr[k1]?.getD default).f1, .int .i64 (lr[k1]?.getD default).f2, .int .u64 (lr[k1]?.getD default).f3, .int .i64 (lr[k1]?.getD default).f4]] (by rfl) rfl rfl (by rfl) (by (try simp only [List.map_toArray, List.map_cons, List.map_nil]); first | done | rfl) ?_
        refine (bef_v (lr[k2]?.getD default) (lr[k1]?.getD default) _ _ HB7.out).mono ?_
        rintro e wq2 ⟨rfl, hb⟩
        refine ⟨_, rfl, ?_⟩
        replace HG := Aside0.mk (blk_below HG.out hb)
        replace BR := Aside0.mk (blk_below BR.out hb)
        replace B3 := Aside0.mk (blk_below B3.out hb)
        replace HR1 := Aside0.mk (HR_below HR1.out hb)
        replace HK := Aside0.mk (KP.below HK.out hb)
        clear hb
        refine hK.out _ _ ⟨(blk_cell HG.out 0).trans HD0.out, (blk_cell HG.out 1).trans HD1.out, HR_range HR1.out (getD_get (by omega)), HR_range HR1.out (getD_get (by omega))⟩ (fun hHeld => ?_)
        clear hK K
        refine norm_ (a' := ?_) ?_ ?_
        rotate_left
        · show Act.put _ (some 72) _ = _
          simp only [Act.put, List.setIfInBounds_toArray, List.set_cons_zero, List.set_cons_succ, i64_w, i32_w]
          rfl
        refine pure_ (i := 25) (N := (some 73)) (v := ?_) (a' := ?_) #[true, true, true, true, true, true, true, true, true, true, true, true, true, true, true, true, true, true, true, true, true, true, true, true, true, true] rfl rfl (by decide +kernel) (fun _ _ _ h => h) (Or.inl ⟨by rfl, ?_⟩) ?_ ?_
        rotate_left
        · intro w'
          go_simp
          with_reducible rfl
        rotate_left
        · simp only [Act.put, List.setIfInBounds_toArray, List.set_cons_zero, List.set_cons_succ, i64_w, i32_w]
          rfl
        refine done_ (by kernel_rfl) ?_
        cases q7 with
        | false =>
          have he : downF lr (f + 1) i = if bef (lr[k1]?.getD default) (lr[i]?.getD default) = true then downF (swL lr i k1) f k1 else lr := by
            have h_ := down_1 (l := lr) (f := f) (i := i) (by omega) (by rw [e1, e2, HB7.out]; exact fun hh => absurd hh.2 (by decide))
            rw [e1] at h_
            exact h_
          cases hqq : bef (lr[k1]?.getD default) (lr[i]?.getD default) with
          | false =>
            have HQ := Aside0.mk hqq
            have e : lr = (downF ((l.set 0 z).take n) (n + 1) 0) := by
              have h_ := HI.out.2
              rw [he, hqq, if_neg (by decide)] at h_
              exact h_
            clear hqq
            go_wp2_with (first | ((with_reducible refine gate_callee (f := 26) rfl ?_); refine goesL_ (some 79) rfl rfl Try.func26 (by kernel_rfl) rfl #[.pointer (some ⟨g, 0, none⟩), .int .i64 (i : Int), .int .i64 (k1 : Int)] rfl (by (try simp only [List.map_toArray, List.map_cons, List.map_nil]); first | done | rfl) ?_; (refine (swap_v g b cap n c' t lr i k1 (lr[i]?.getD default) (lr[k1]?.getD default) false _ HG.out HD0.out HD1.out HI.out.1.symm HR1.out (getD_get (by omega)) (getD_get (by omega)) HQ.out HGB.out).mono ?_); rintro e w8 ⟨rfl, h1, h2⟩; refine ⟨_, rfl, ?_⟩; replace HG := Aside0.mk (k_blk h2 HG.out HGB.out); replace BR := Aside0.mk (k_blk h2 BR.out (Nat.ne_of_gt HBL.out)); replace B3 := Aside0.mk (k_blk h2 B3.out NBB.out.symm); replace HK := Aside0.mk (KP.of_keep HK.out h2 (.inl (.inr rfl))); replace HR1 := Aside0.mk h1; clear h1 h2) | ((with_reducible refine gate_dst (N := 82) rfl ?_); refine load_event 60 (.tmp 3) rfl rfl rfl B3.out Try.underlying60 rfl (by kernel_rfl) ?_) | ((with_reducible refine gate_store (t := 60) (p := 2) rfl ?_); refine store_event (t := 60) (p := 2) (v := .tmp 82) (w1 := w8.setRow w.heap.size #[.int .i64 x.f0, .int .i64 x.f1, .int .i64 x.f2, .int .u64 x.f3, .int .i64 x.f4]) ?hg ?ho ?hn ?hr ?_; (case ho => rfl); (case hg => rfl); (case hn => rfl); (case hr => exact run_store_row 60 _ _ _ _ rfl rfl rfl BR.out (by kernel_rfl) rfl (all_oneCell_toArray (eC_one x))); intro w9 hw; have n_G : Aside0 (w9.heap[g]? = some (.cells c' t (0, 0))) := ⟨by rw [hw]; exact blk_rowfar _ HG.out (Nat.ne_of_lt HGL.out)⟩; have n_BR : Aside0 (w9.heap[w.heap.size]? = some (.cells #[.int .i64 x.f0, .int .i64 x.f1, .int .i64 x.f2, .int .u64 x.f3, .int .i64 x.f4] 60 (0, 0))) := ⟨by rw [hw]; exact blk_row _ BR.out⟩; have n_R : Aside0 (HR w9 b cap _) := ⟨HR_move HR1.out (by rw [hw]; exact setRow_other _ _ _ _ (Nat.ne_of_lt HBL.out))⟩; have n_K : Aside0 (KP w w9 (fun k => k = g ∨ k = b)) := ⟨by rw [hw]; exact KP_row HK.out w.heap.size _ (.inr (Nat.le_refl _))⟩; clear HG BR HR1 HK hw; have HG := n_G; have BR := n_BR; have HR1 := n_R; have HK := n_K; clear n_G n_BR n_R n_K))
            try simp only [Exit.inBlock, Exit.then]
            refine bodyPost_ret (results_cell_row rfl _ _ w.heap.size 60 _ (0, 0) _ rfl BR.out Try.underlying60 rfl (by kernel_rfl)) rfl ?_
            exact ⟨rfl, by first | exact HG.out | (rw [hc']; exact HG.out), e ▸ HR1.out, HK.out⟩
          | true =>
            have HQ := Aside0.mk hqq
            have e : downF (swL lr i k1) f k1 = (downF ((l.set 0 z).take n) (n + 1) 0) := by
              have h_ := HI.out.2
              rw [he, hqq, if_pos rfl] at h_
              exact h_
            clear hqq
            go_wp2_with (first | ((with_reducible refine gate_callee (f := 26) rfl ?_); refine goesL_ (some 79) rfl rfl Try.func26 (by kernel_rfl) rfl #[.pointer (some ⟨g, 0, none⟩), .int .i64 (i : Int), .int .i64 (k1 : Int)] rfl (by (try simp only [List.map_toArray, List.map_cons, List.map_nil]); first | done | rfl) ?_; (refine (swap_v g b cap n c' t lr i k1 (lr[i]?.getD default) (lr[k1]?.getD default) true _ HG.out HD0.out HD1.out HI.out.1.symm HR1.out (getD_get (by omega)) (getD_get (by omega)) HQ.out HGB.out).mono ?_); rintro e w8 ⟨rfl, h1, h2⟩; refine ⟨_, rfl, ?_⟩; replace HG := Aside0.mk (k_blk h2 HG.out HGB.out); replace BR := Aside0.mk (k_blk h2 BR.out (Nat.ne_of_gt HBL.out)); replace B3 := Aside0.mk (k_blk h2 B3.out NBB.out.symm); replace HK := Aside0.mk (KP.of_keep HK.out h2 (.inl (.inr rfl))); replace HR1 := Aside0.mk h1; clear h1 h2))
            go_roundw
            case rel => exact ⟨k1, f, swL lr i k1, by omega, by omega, by first | rfl | rw [hc2], ⟨by rw [swL_length]; exact hlr, e⟩, HG, BR, B3, HR1, HK⟩
            case measure => simp [intOf]; omega
        | true =>
          have he : downF lr (f + 1) i = if bef (lr[k2]?.getD default) (lr[i]?.getD default) = true then downF (swL lr i k2) f k2 else lr := by
            have h_ := down_2 (l := lr) (f := f) (i := i) (by omega) (by rw [e1, e2, HB7.out])
            rw [e2] at h_
            exact h_
          cases hqq : bef (lr[k2]?.getD default) (lr[i]?.getD default) with
          | false =>
            have HQ := Aside0.mk hqq
            have e : lr = (downF ((l.set 0 z).take n) (n + 1) 0) := by
              have h_ := HI.out.2
              rw [he, hqq, if_neg (by decide)] at h_
              exact h_
            clear hqq
            go_wp2_with (first | ((with_reducible refine gate_callee (f := 26) rfl ?_); refine goesL_ (some 79) rfl rfl Try.func26 (by kernel_rfl) rfl #[.pointer (some ⟨g, 0, none⟩), .int .i64 (i : Int), .int .i64 (k2 : Int)] rfl (by (try simp only [List.map_toArray, List.map_cons, List.map_nil]); first | done | rfl) ?_; (refine (swap_v g b cap n c' t lr i k2 (lr[i]?.getD default) (lr[k2]?.getD default) false _ HG.out HD0.out HD1.out HI.out.1.symm HR1.out (getD_get (by omega)) (getD_get (by omega)) HQ.out HGB.out).mono ?_); rintro e w8 ⟨rfl, h1, h2⟩; refine ⟨_, rfl, ?_⟩; replace HG := Aside0.mk (k_blk h2 HG.out HGB.out); replace BR := Aside0.mk (k_blk h2 BR.out (Nat.ne_of_gt HBL.out)); replace B3 := Aside0.mk (k_blk h2 B3.out NBB.out.symm); replace HK := Aside0.mk (KP.of_keep HK.out h2 (.inl (.inr rfl))); replace HR1 := Aside0.mk h1; clear h1 h2) | ((with_reducible refine gate_dst (N := 82) rfl ?_); refine load_event 60 (.tmp 3) rfl rfl rfl B3.out Try.underlying60 rfl (by kernel_rfl) ?_) | ((with_reducible refine gate_store (t := 60) (p := 2) rfl ?_); refine store_event (t := 60) (p := 2) (v := .tmp 82) (w1 := w8.setRow w.heap.size #[.int .i64 x.f0, .int .i64 x.f1, .int .i64 x.f2, .int .u64 x.f3, .int .i64 x.f4]) ?hg ?ho ?hn ?hr ?_; (case ho => rfl); (case hg => rfl); (case hn => rfl); (case hr => exact run_store_row 60 _ _ _ _ rfl rfl rfl BR.out (by kernel_rfl) rfl (all_oneCell_toArray (eC_one x))); intro w9 hw; have n_G : Aside0 (w9.heap[g]? = some (.cells c' t (0, 0))) := ⟨by rw [hw]; exact blk_rowfar _ HG.out (Nat.ne_of_lt HGL.out)⟩; have n_BR : Aside0 (w9.heap[w.heap.size]? = some (.cells #[.int .i64 x.f0, .int .i64 x.f1, .int .i64 x.f2, .int .u64 x.f3, .int .i64 x.f4] 60 (0, 0))) := ⟨by rw [hw]; exact blk_row _ BR.out⟩; have n_R : Aside0 (HR w9 b cap _) := ⟨HR_move HR1.out (by rw [hw]; exact setRow_other _ _ _ _ (Nat.ne_of_lt HBL.out))⟩; have n_K : Aside0 (KP w w9 (fun k => k = g ∨ k = b)) := ⟨by rw [hw]; exact KP_row HK.out w.heap.size _ (.inr (Nat.le_refl _))⟩; clear HG BR HR1 HK hw; have HG := n_G; have BR := n_BR; have HR1 := n_R; have HK := n_K; clear n_G n_BR n_R n_K))
            try simp only [Exit.inBlock, Exit.then]
            refine bodyPost_ret (results_cell_row rfl _ _ w.heap.size 60 _ (0, 0) _ rfl BR.out Try.underlying60 rfl (by kernel_rfl)) rfl ?_
            exact ⟨rfl, by first | exact HG.out | (rw [hc']; exact HG.out), e ▸ HR1.out, HK.out⟩
          | true =>
            have HQ := Aside0.mk hqq
            have e : downF (swL lr i k2) f k2 = (downF ((l.set 0 z).take n) (n + 1) 0) := by
              have h_ := HI.out.2
              rw [he, hqq, if_pos rfl] at h_
              exact h_
            clear hqq
            go_wp2_with (first | ((with_reducible refine gate_callee (f := 26) rfl ?_); refine goesL_ (some 79) rfl rfl Try.func26 (by kernel_rfl) rfl #[.pointer (some ⟨g, 0, none⟩), .int .i64 (i : Int), .int .i64 (k2 : Int)] rfl (by (try simp only [List.map_toArray, List.map_cons, List.map_nil]); first | done | rfl) ?_; (refine (swap_v g b cap n c' t lr i k2 (lr[i]?.getD default) (lr[k2]?.getD default) true _ HG.out HD0.out HD1.out HI.out.1.symm HR1.out (getD_get (by omega)) (getD_get (by omega)) HQ.out HGB.out).mono ?_); rintro e w8 ⟨rfl, h1, h2⟩; refine ⟨_, rfl, ?_⟩; replace HG := Aside0.mk (k_blk h2 HG.out HGB.out); replace BR := Aside0.mk (k_blk h2 BR.out (Nat.ne_of_gt HBL.out)); replace B3 := Aside0.mk (k_blk h2 B3.out NBB.out.symm); replace HK := Aside0.mk (KP.of_keep HK.out h2 (.inl (.inr rfl))); replace HR1 := Aside0.mk h1; clear h1 h2))
            go_roundw
            case rel => exact ⟨k2, f, swL lr i k2, by omega, by omega, by first | rfl | rw [hc2], ⟨by rw [swL_length]; exact hlr, e⟩, HG, BR, B3, HR1, HK⟩
            case measure => simp [intOf]; omega
      · have hdq2 : ¬ (k2 : Int) < (n : Int) := by omega
        have he : downF lr (f + 1) i = if bef (lr[k1]?.getD default) (lr[i]?.getD default) = true then downF (swL lr i k1) f k1 else lr := by
          have h_ := down_1 (l := lr) (f := f) (i := i) (by omega) (by rw [e1, e2]; exact fun hh => absurd hh.1 (by omega))
          rw [e1] at h_
          exact h_
        refine start_ (n := 26) (S := fun w' => True) (ds := []) #[false, false, false, false, false, false, false, false, false, false, false, false, false, false, false, false, false, false, false, false, false, false, false, false, false, false] (by kernel_rfl) rfl rfl trivial (fun hHeld => ?_)
        replace HG := Aside0.mk (blk_drew HG.out)
        replace BR := Aside0.mk (blk_drew BR.out)
        replace B3 := Aside0.mk (blk_drew B3.out)
        replace HR1 : Aside0 (HR wr.drew b cap lr) := ⟨HR_move HR1.out rfl⟩
        replace HK := Aside0.mk (KP.drew HK.out)
        generalize wr.drew = wq at HG BR B3 HR1 HK hHeld ⊢
        refine pure_ (i := 0) (N := (some 48)) (v := ?_) (a' := ?_) #[true, false, false, false, false, false, false, false, false, false, false, false, false, false, false, false, false, false, false, false, false, false, false, false, false, false] rfl rfl (by decide +kernel) (fun _ _ _ h => h) (Or.inl ⟨by rfl, ?_⟩) ?_ ?_
        rotate_left
        · intro w'
          go_simp
          with_reducible rfl
        rotate_left
        · simp only [Act.put, List.setIfInBounds_toArray, List.set_cons_zero, List.set_cons_succ, i64_w, i32_w]
          rfl
        refine pure_ (i := 1) (N := (some 49)) (v := ?_) (a' := ?_) #[true, true, false, false, false, false, false, false, false, false, false, false, false, false, false, false, false, false, false, false, false, false, false, false, false, false] rfl rfl (by decide +kernel) (fun _ _ _ h => h) (Or.inl ⟨by rfl, ?_⟩) ?_ ?_
        rotate_left
        · intro w'
          go_simp
          with_reducible rfl
        rotate_left
        · simp only [Act.put, List.setIfInBounds_toArray, List.set_cons_zero, List.set_cons_succ, i64_w, i32_w]
          rfl
        try rw [hw2]
        refine pure_ (i := 2) (N := (some 50)) (v := ?_) (a' := ?_) #[true, true, true, false, false, false, false, false, false, false, false, false, false, false, false, false, false, false, false, false, false, false, false, false, false, false] rfl rfl (by decide +kernel) (fun _ _ _ h => h) (Or.inl ⟨by rfl, ?_⟩) ?_ ?_
        rotate_left
        · intro w'
          go_simp
          with_reducible rfl
        rotate_left
        · simp only [Act.put, List.setIfInBounds_toArray, List.set_cons_zero, List.set_cons_succ, i64_w, i32_w]
          rfl
        refine pure_ (i := 3) (N := (some 51)) (v := ?_) (a' := ?_) #[true, true, true, true, false, false, false, false, false, false, false, false, false, false, false, false, false, false, false, false, false, false, false, false, false, false] rfl rfl (by decide +kernel) (fun _ _ _ h => h) (Or.inl ⟨by rfl, ?_⟩) ?_ ?_
        rotate_left
        · intro w'
          go_simp
          with_reducible rfl
        rotate_left
        · simp only [Act.put, List.setIfInBounds_toArray, List.set_cons_zero, List.set_cons_succ, i64_w, i32_w]
          rfl
        refine pure_ (i := 4) (N := (some 52)) (v := ?_) (a' := ?_) #[true, true, true, true, true, false, false, false, false, false, false, false, false, false, false, false, false, false, false, false, false, false, false, false, false, false] rfl rfl (by decide +kernel) (fun _ _ _ h => h) (Or.inl ⟨by rfl, ?_⟩) ?_ ?_
        rotate_left
        · intro w'
          go_simp
          with_reducible rfl
        rotate_left
        · simp only [Act.put, List.setIfInBounds_toArray, List.set_cons_zero, List.set_cons_succ, i64_w, i32_w]
          rfl
        refine pure_ (i := 5) (N := (some 53)) (v := undef) (a' := ?_) #[true, true, true, true, true, true, false, false, false, false, false, false, false, false, false, false, false, false, false, false, false, false, false, false, false, false] rfl rfl (by decide +kernel) (fun _ _ _ h => h) (Or.inr ⟨by rfl, rfl⟩) ?_ ?_
        rotate_left
        · simp only [Act.put, List.setIfInBounds_toArray, List.set_cons_zero, List.set_cons_succ, i64_w, i32_w]
          rfl
        refine pure_ (i := 6) (N := (some 54)) (v := undef) (a' := ?_) #[true, true, true, true, true, true, true, false, false, false, false, false, false, false, false, false, false, false, false, false, false, false, false, false, false, false] rfl rfl (by decide +kernel) (fun _ _ _ h => h) (Or.inr ⟨by rfl, rfl⟩) ?_ ?_
        rotate_left
        · simp only [Act.put, List.setIfInBounds_toArray, List.set_cons_zero, List.set_cons_succ, i64_w, i32_w]
          rfl
        refine pure_ (i := 7) (N := (some 55)) (v := undef) (a' := ?_) #[true, true, true, true, true, true, true, true, false, false, false, false, false, false, false, false, false, false, false, false, false, false, false, false, false, false] rfl rfl (by decide +kernel) (fun _ _ _ h => h) (Or.inr ⟨by rfl, rfl⟩) ?_ ?_
        rotate_left
        · simp only [Act.put, List.setIfInBounds_toArray, List.set_cons_zero, List.set_cons_succ, i64_w, i32_w]
          rfl
        refine pure_ (i := 8) (N := (some 56)) (v := undef) (a' := ?_) #[true, true, true, true, true, true, true, true, true, false, false, false, false, false, false, false, false, false, false, false, false, false, false, false, false, false] rfl rfl (by decide +kernel) (fun _ _ _ h => h) (Or.inr ⟨by rfl, rfl⟩) ?_ ?_
        rotate_left
        · simp only [Act.put, List.setIfInBounds_toArray, List.set_cons_zero, List.set_cons_succ, i64_w, i32_w]
          rfl
        refine pure_ (i := 9) (N := (some 57)) (v := undef) (a' := ?_) #[true, true, true, true, true, true, true, true, true, true, false, false, false, false, false, false, false, false, false, false, false, false, false, false, false, false] rfl rfl (by decide +kernel) (fun _ _ _ h => h) (Or.inr ⟨by rfl, rfl⟩) ?_ ?_
        rotate_left
        · simp only [Act.put, List.setIfInBounds_toArray, List.set_cons_zero, List.set_cons_succ, i64_w, i32_w]
          rfl
        refine pure_ (i := 10) (N := (some 58)) (v := undef) (a' := ?_) #[true, true, true, true, true, true, true, true, true, true, true, false, false, false, false, false, false, false, false, false, false, false, false, false, false, false] rfl rfl (by decide +kernel) (fun _ _ _ h => h) (Or.inr ⟨by rfl, rfl⟩) ?_ ?_
        rotate_left
        · simp only [Act.put, List.setIfInBounds_toArray, List.set_cons_zero, List.set_cons_succ, i64_w, i32_w]
          rfl
        refine pure_ (i := 11) (N := (some 59)) (v := undef) (a' := ?_) #[true, true, true, true, true, true, true, true, true, true, true, true, false, false, false, false, false, false, false, false, false, false, false, false, false, false] rfl rfl (by decide +kernel) (fun _ _ _ h => h) (Or.inr ⟨by rfl, rfl⟩) ?_ ?_
        rotate_left
        · simp only [Act.put, List.setIfInBounds_toArray, List.set_cons_zero, List.set_cons_succ, i64_w, i32_w]
          rfl
        refine pure_ (i := 12) (N := (some 60)) (v := undef) (a' := ?_) #[true, true, true, true, true, true, true, true, true, true, true, true, true, false, false, false, false, false, false, false, false, false, false, false, false, false] rfl rfl (by decide +kernel) (fun _ _ _ h => h) (Or.inr ⟨by rfl, rfl⟩) ?_ ?_
        rotate_left
        · simp only [Act.put, List.setIfInBounds_toArray, List.set_cons_zero, List.set_cons_succ, i64_w, i32_w]
          rfl
        refine pure_ (i := 13) (N := (some 61)) (v := undef) (a' := ?_) #[true, true, true, true, true, true, true, true, true, true, true, true, true, true, false, false, false, false, false, false, false, false, false, false, false, false] rfl rfl (by decide +kernel) (fun _ _ _ h => h) (Or.inr ⟨by rfl, rfl⟩) ?_ ?_
        rotate_left
        · simp only [Act.put, List.setIfInBounds_toArray, List.set_cons_zero, List.set_cons_succ, i64_w, i32_w]
          rfl
        refine pure_ (i := 14) (N := (some 62)) (v := undef) (a' := ?_) #[true, true, true, true, true, true, true, true, true, true, true, true, true, true, true, false, false, false, false, false, false, false, false, false, false, false] rfl rfl (by decide +kernel) (fun _ _ _ h => h) (Or.inr ⟨by rfl, rfl⟩) ?_ ?_
        rotate_left
        · simp only [Act.put, List.setIfInBounds_toArray, List.set_cons_zero, List.set_cons_succ, i64_w, i32_w]
          rfl
        refine pure_ (i := 15) (N := (some 63)) (v := undef) (a' := ?_) #[true, true, true, true, true, true, true, true, true, true, true, true, true, true, true, true, false, false, false, false, false, false, false, false, false, false] rfl rfl (by decide +kernel) (fun _ _ _ h => h) (Or.inr ⟨by rfl, rfl⟩) ?_ ?_
        rotate_left
        · simp only [Act.put, List.setIfInBounds_toArray, List.set_cons_zero, List.set_cons_succ, i64_w, i32_w]
          rfl
        refine pure_ (i := 16) (N := (some 64)) (v := undef) (a' := ?_) #[true, true, true, true, true, true, true, true, true, true, true, true, true, true, true, true, true, false, false, false, false, false, false, false, false, false] rfl rfl (by decide +kernel) (fun _ _ _ h => h) (Or.inr ⟨by rfl, rfl⟩) ?_ ?_
        rotate_left
        · simp only [Act.put, List.setIfInBounds_toArray, List.set_cons_zero, List.set_cons_succ, i64_w, i32_w]
          rfl
        refine pure_ (i := 17) (N := (some 65)) (v := undef) (a' := ?_) #[true, true, true, true, true, true, true, true, true, true, true, true, true, true, true, true, true, true, false, false, false, false, false, false, false, false] rfl rfl (by decide +kernel) (fun _ _ _ h => h) (Or.inr ⟨by rfl, rfl⟩) ?_ ?_
        rotate_left
        · simp only [Act.put, List.setIfInBounds_toArray, List.set_cons_zero, List.set_cons_succ, i64_w, i32_w]
          rfl
        refine pure_ (i := 18) (N := (some 66)) (v := undef) (a' := ?_) #[true, true, true, true, true, true, true, true, true, true, true, true, true, true, true, true, true, true, true, false, false, false, false, false, false, false] rfl rfl (by decide +kernel) (fun _ _ _ h => h) (Or.inr ⟨by rfl, rfl⟩) ?_ ?_
        rotate_left
        · simp only [Act.put, List.setIfInBounds_toArray, List.set_cons_zero, List.set_cons_succ, i64_w, i32_w]
          rfl
        refine pure_ (i := 19) (N := (some 67)) (v := undef) (a' := ?_) #[true, true, true, true, true, true, true, true, true, true, true, true, true, true, true, true, true, true, true, true, false, false, false, false, false, false] rfl rfl (by decide +kernel) (fun _ _ _ h => h) (Or.inr ⟨by rfl, rfl⟩) ?_ ?_
        rotate_left
        · simp only [Act.put, List.setIfInBounds_toArray, List.set_cons_zero, List.set_cons_succ, i64_w, i32_w]
          rfl
        refine pure_ (i := 20) (N := (some 68)) (v := undef) (a' := ?_) #[true, true, true, true, true, true, true, true, true, true, true, true, true, true, true, true, true, true, true, true, true, false, false, false, false, false] rfl rfl (by decide +kernel) (fun _ _ _ h => h) (Or.inr ⟨by rfl, rfl⟩) ?_ ?_
        rotate_left
        · simp only [Act.put, List.setIfInBounds_toArray, List.set_cons_zero, List.set_cons_succ, i64_w, i32_w]
          rfl
        refine pure_ (i := 21) (N := (some 69)) (v := undef) (a' := ?_) #[true, true, true, true, true, true, true, true, true, true, true, true, true, true, true, true, true, true, true, true, true, true, false, false, false, false] rfl rfl (by decide +kernel) (fun _ _ _ h => h) (Or.inr ⟨by rfl, rfl⟩) ?_ ?_
        rotate_left
        · simp only [Act.put, List.setIfInBounds_toArray, List.set_cons_zero, List.set_cons_succ, i64_w, i32_w]
          rfl
        refine pure_ (i := 22) (N := (some 70)) (v := undef) (a' := ?_) #[true, true, true, true, true, true, true, true, true, true, true, true, true, true, true, true, true, true, true, true, true, true, true, false, false, false] rfl rfl (by decide +kernel) (fun _ _ _ h => h) (Or.inr ⟨by rfl, rfl⟩) ?_ ?_
        rotate_left
        · simp only [Act.put, List.setIfInBounds_toArray, List.set_cons_zero, List.set_cons_succ, i64_w, i32_w]
          rfl
        refine pure_ (i := 23) (N := (some 71)) (v := undef) (a' := ?_) #[true, true, true, true, true, true, true, true, true, true, true, true, true, true, true, true, true, true, true, true, true, true, true, true, false, false] rfl rfl (by decide +kernel) (fun _ _ _ h => h) (Or.inr ⟨by rfl, rfl⟩) ?_ ?_
        rotate_left
        · simp only [Act.put, List.setIfInBounds_toArray, List.set_cons_zero, List.set_cons_succ, i64_w, i32_w]
          rfl
        refine pure_ (i := 24) (N := (some 72)) (v := undef) (a' := ?_) #[true, true, true, true, true, true, true, true, true, true, true, true, true, true, true, true, true, true, true, true, true, true, true, true, true, false] rfl rfl (by decide +kernel) (fun _ _ _ h => h) (Or.inr ⟨by rfl, rfl⟩) ?_ ?_
        rotate_left
        · simp only [Act.put, List.setIfInBounds_toArray, List.set_cons_zero, List.set_cons_succ, i64_w, i32_w]
          rfl
        refine pure_ (i := 25) (N := (some 73)) (v := ?_) (a' := ?_) #[true, true, true, true, true, true, true, true, true, true, true, true, true, true, true, true, true, true, true, true, true, true, true, true, true, true] rfl rfl (by decide +kernel) (fun _ _ _ h => h) (Or.inl ⟨by rfl, ?_⟩) ?_ ?_
        rotate_left
        · intro w'
          go_simp
          with_reducible rfl
        rotate_left
        · simp only [Act.put, List.setIfInBounds_toArray, List.set_cons_zero, List.set_cons_succ, i64_w, i32_w]
          rfl
        refine done_ (by kernel_rfl) ?_
        cases hqq : bef (lr[k1]?.getD default) (lr[i]?.getD default) with
        | false =>
          have HQ := Aside0.mk hqq
          have e : lr = (downF ((l.set 0 z).take n) (n + 1) 0) := by
            have h_ := HI.out.2
            rw [he, hqq, if_neg (by decide)] at h_
            exact h_
          clear hqq
          go_wp2_with (first | ((with_reducible refine gate_callee (f := 26) rfl ?_); refine goesL_ (some 79) rfl rfl Try.func26 (by kernel_rfl) rfl #[.pointer (some ⟨g, 0, none⟩), .int .i64 (i : Int), .int .i64 (k1 : Int)] rfl (by (try simp only [List.map_toArray, List.map_cons, List.map_nil]); first | done | rfl) ?_; (refine (swap_v g b cap n c' t lr i k1 (lr[i]?.getD default) (lr[k1]?.getD default) false _ HG.out HD0.out HD1.out HI.out.1.symm HR1.out (getD_get (by omega)) (getD_get (by omega)) HQ.out HGB.out).mono ?_); rintro e w8 ⟨rfl, h1, h2⟩; refine ⟨_, rfl, ?_⟩; replace HG := Aside0.mk (k_blk h2 HG.out HGB.out); replace BR := Aside0.mk (k_blk h2 BR.out (Nat.ne_of_gt HBL.out)); replace B3 := Aside0.mk (k_blk h2 B3.out NBB.out.symm); replace HK := Aside0.mk (KP.of_keep HK.out h2 (.inl (.inr rfl))); replace HR1 := Aside0.mk h1; clear h1 h2) | ((with_reducible refine gate_dst (N := 82) rfl ?_); refine load_event 60 (.tmp 3) rfl rfl rfl B3.out Try.underlying60 rfl (by kernel_rfl) ?_) | ((with_reducible refine gate_store (t := 60) (p := 2) rfl ?_); refine store_event (t := 60) (p := 2) (v := .tmp 82) (w1 := w8.setRow w.heap.size #[.int .i64 x.f0, .int .i64 x.f1, .int .i64 x.f2, .int .u64 x.f3, .int .i64 x.f4]) ?hg ?ho ?hn ?hr ?_; (case ho => rfl); (case hg => rfl); (case hn => rfl); (case hr => exact run_store_row 60 _ _ _ _ rfl rfl rfl BR.out (by kernel_rfl) rfl (all_oneCell_toArray (eC_one x))); intro w9 hw; have n_G : Aside0 (w9.heap[g]? = some (.cells c' t (0, 0))) := ⟨by rw [hw]; exact blk_rowfar _ HG.out (Nat.ne_of_lt HGL.out)⟩; have n_BR : Aside0 (w9.heap[w.heap.size]? = some (.cells #[.int .i64 x.f0, .int .i64 x.f1, .int .i64 x.f2, .int .u64 x.f3, .int .i64 x.f4] 60 (0, 0))) := ⟨by rw [hw]; exact blk_row _ BR.out⟩; have n_R : Aside0 (HR w9 b cap _) := ⟨HR_move HR1.out (by rw [hw]; exact setRow_other _ _ _ _ (Nat.ne_of_lt HBL.out))⟩; have n_K : Aside0 (KP w w9 (fun k => k = g ∨ k = b)) := ⟨by rw [hw]; exact KP_row HK.out w.heap.size _ (.inr (Nat.le_refl _))⟩; clear HG BR HR1 HK hw; have HG := n_G; have BR := n_BR; have HR1 := n_R; have HK := n_K; clear n_G n_BR n_R n_K))
          try simp only [Exit.inBlock, Exit.then]
          refine bodyPost_ret (results_cell_row rfl _ _ w.heap.size 60 _ (0, 0) _ rfl BR.out Try.underlying60 rfl (by kernel_rfl)) rfl ?_
          exact ⟨rfl, by first | exact HG.out | (rw [hc']; exact HG.out), e ▸ HR1.out, HK.out⟩
        | true =>
          have HQ := Aside0.mk hqq
          have e : downF (swL lr i k1) f k1 = (downF ((l.set 0 z).take n) (n + 1) 0) := by
            have h_ := HI.out.2
            rw [he, hqq, if_pos rfl] at h_
            exact h_
          clear hqq
          go_wp2_with (first | ((with_reducible refine gate_callee (f := 26) rfl ?_); refine goesL_ (some 79) rfl rfl Try.func26 (by kernel_rfl) rfl #[.pointer (some ⟨g, 0, none⟩), .int .i64 (i : Int), .int .i64 (k1 : Int)] rfl (by (try simp only [List.map_toArray, List.map_cons, List.map_nil]); first | done | rfl) ?_; (refine (swap_v g b cap n c' t lr i k1 (lr[i]?.getD default) (lr[k1]?.getD default) true _ HG.out HD0.out HD1.out HI.out.1.symm HR1.out (getD_get (by omega)) (getD_get (by omega)) HQ.out HGB.out).mono ?_); rintro e w8 ⟨rfl, h1, h2⟩; refine ⟨_, rfl, ?_⟩; replace HG := Aside0.mk (k_blk h2 HG.out HGB.out); replace BR := Aside0.mk (k_blk h2 BR.out (Nat.ne_of_gt HBL.out)); replace B3 := Aside0.mk (k_blk h2 B3.out NBB.out.symm); replace HK := Aside0.mk (KP.of_keep HK.out h2 (.inl (.inr rfl))); replace HR1 := Aside0.mk h1; clear h1 h2))
          go_roundw
          case rel => exact ⟨k1, f, swL lr i k1, by omega, by omega, by first | rfl | rw [hc2], ⟨by rw [swL_length]; exact hlr, e⟩, HG, BR, B3, HR1, HK⟩
          case measure => simp [intOf]; omega
    · have hdq : ¬ 2 * (i : Int) + 1 < (n : Int) := by omega
      have e : lr = (downF ((l.set 0 z).take n) (n + 1) 0) := by
        have h_ := HI.out.2
        rw [down_end (by omega)] at h_
        exact h_
      go_wp2_with (first | ((with_reducible refine gate_dst (N := 82) rfl ?_); refine load_event 60 (.tmp 3) rfl rfl rfl B3.out Try.underlying60 rfl (by kernel_rfl) ?_) | ((with_reducible refine gate_store (t := 60) (p := 2) rfl ?_); refine store_event (t := 60) (p := 2) (v := .tmp 82) (w1 := wr.setRow w.heap.size #[.int .i64 x.f0, .int .i64 x.f1, .int .i64 x.f2, .int .u64 x.f3, .int .i64 x.f4]) ?hg ?ho ?hn ?hr ?_; (case ho => rfl); (case hg => rfl); (case hn => rfl); (case hr => exact run_store_row 60 _ _ _ _ rfl rfl rfl BR.out (by kernel_rfl) rfl (all_oneCell_toArray (eC_one x))); intro w9 hw; have n_G : Aside0 (w9.heap[g]? = some (.cells c' t (0, 0))) := ⟨by rw [hw]; exact blk_rowfar _ HG.out (Nat.ne_of_lt HGL.out)⟩; have n_BR : Aside0 (w9.heap[w.heap.size]? = some (.cells #[.int .i64 x.f0, .int .i64 x.f1, .int .i64 x.f2, .int .u64 x.f3, .int .i64 x.f4] 60 (0, 0))) := ⟨by rw [hw]; exact blk_row _ BR.out⟩; have n_R : Aside0 (HR w9 b cap _) := ⟨HR_move HR1.out (by rw [hw]; exact setRow_other _ _ _ _ (Nat.ne_of_lt HBL.out))⟩; have n_K : Aside0 (KP w w9 (fun k => k = g ∨ k = b)) := ⟨by rw [hw]; exact KP_row HK.out w.heap.size _ (.inr (Nat.le_refl _))⟩; clear HG BR HR1 HK hw; have HG := n_G; have BR := n_BR; have HR1 := n_R; have HK := n_K; clear n_G n_BR n_R n_K))
      try simp only [Exit.inBlock, Exit.then]
      refine bodyPost_ret (results_cell_row rfl _ _ w.heap.size 60 _ (0, 0) _ rfl BR.out Try.underlying60 rfl (by kernel_rfl)) rfl ?_
      exact ⟨rfl, by first | exact HG.out | (rw [hc']; exact HG.out), e ▸ HR1.out, HK.out⟩
end Go.Proofs.Ytocdpfdnnijdkaa.G
