import Derived.Test.YtocdpfdnnijdkaaG0
namespace Go.Proofs.Ytocdpfdnnijdkaa.G
open Go.RowKit Go.Proofs.YtocdpfdnnijdkaaW.PrintWords Go.Proofs.YtocdpfdnnijdkaaW.PrintLast Go.Proofs.YtocdpfdnnijdkaaW.PrintMore
attribute [local go_sem] max2_int min2_int max_two min_two max_three min_three max_four min_four
attribute [local go_sem] Go.Proofs.YtocdpfdnnijdkaaS.cell_set_map Go.Proofs.YtocdpfdnnijdkaaS.setCell_drewN
set_option linter.unusedVariables false
set_option linter.unusedSimpArgs false
/-- Is one to be told ahead of another one? -/
def bef (x y : S60) : Bool := if x.f0 < y.f0 then true else if x.f0 = y.f0 then decide (x.f4 < y.f4) else false
theorem bef_v (x y : S60) (r : Bool) (w : World) (h : bef x y = r) : Calls Try.prog 20 #[.agg #[.int .i64 x.f0, .int .i64 x.f1, .int .i64 x.f2, .int .u64 x.f3, .int .i64 x.f4], .agg #[.int .i64 y.f0, .int .i64 y.f1, .int .i64 y.f2, .int .u64 y.f3, .int .i64 y.f4]] w fun e w' => e = .returned (.bool r) ∧ Below w.heap.size w w' :=
  agenda_before.calls x.f0 x.f1 x.f2 x.f3 x.f4 y.f0 y.f1 y.f2 y.f3 y.f4 r w (by
    rw [← h]
    unfold agenda_before.f bef
    split
    · rfl
    · split <;> rfl)
theorem add0 (g j : Nat) : (⟨g, 0, none⟩ : Addr).add j = ⟨g, j, none⟩ := by
  cases j <;> simp [Addr.add]
attribute [local go_sem] add0
theorem HR_below {w w' : World} {b cap : Nat} {l : List S60} (h : HR w b cap l) (hb : Below w.heap.size w w') : HR w' b cap l := by
  refine HR_move h (hb.block b ?_)
  obtain ⟨_, _, c, h1, _⟩ := h
  exact blk_lt h1
/-- What lies below 0: the world's other parts stand. -/
theorem b0 {w W : World} (h : Below w.heap.size w W) : Below 0 w W := ⟨h.os, h.tape, h.output, h.size, fun k hk => absurd hk (Nat.not_lt_zero k)⟩
theorem b0_set (w : World) (p : Addr) (v : Value) : Below 0 w (w.setCell p v) := ⟨rfl, rfl, rfl, by simp [World.setCell], fun k hk => absurd hk (Nat.not_lt_zero k)⟩
theorem b0_cells (b : Nat) : ∀ (vs : List Value) (o : Nat) (w : World), Below 0 w (w.setCells b o vs)
  | [], _, w => Below.refl 0 w
  | v :: r, o, w => (b0_set w ⟨b, o, none⟩ v).trans (b0_cells b r (o + 1) _)
def KB (w W : World) (b : Nat) : Prop := Below 0 w W ∧ KeepBut w W b none
def KP (w W : World) (S : Nat → Prop) : Prop := Below 0 w W ∧ Kept w W S
theorem KB.refl (w : World) (b : Nat) : KB w w b := ⟨Below.refl 0 w, KeepBut.refl w b none⟩
theorem KB.drew {w W : World} {b : Nat} (h : KB w W b) : KB w W.drew b := ⟨below_drew1 h.1, keep_drew h.2⟩
theorem k_below {w W W1 : World} {b : Nat} (h : KB w W b) (hb : Below W.heap.size W W1) : KB w W1 b := ⟨h.1.trans (b0 hb), h.2.trans (KeepBut.of_below hb b none) (.inl rfl)⟩
theorem k_cells {w W : World} {b : Nat} (h : KB w W b) (o : Nat) (vs : List Value) : KB w (W.setCells b o vs) b :=
  ⟨h.1.trans (b0_cells b vs o W), h.2.trans ⟨Nat.le_of_eq (setCells_size b vs o W).symm, fun k _ hk _ => setCells_far hk vs o W⟩ (.inl rfl)⟩
theorem KP.refl (w : World) (S : Nat → Prop) : KP w w S := ⟨Below.refl 0 w, Kept.refl w S⟩
theorem KP.below {w W W2 : World} {S : Nat → Prop} (h : KP w W S) (hb : Below W.heap.size W W2) : KP w W2 S := ⟨h.1.trans (b0 hb), h.2.below hb⟩
theorem KP.alloc {w W : World} {S : Nat → Prop} (h : KP w W S) (o : Obj) : KP w (W.alloc o) S := h.below (below_alloc (Below.refl _ _) o)
theorem KP.drew {w W : World} {S : Nat → Prop} (h : KP w W S) : KP w W.drew S := ⟨below_drew1 h.1, h.2.drew⟩
theorem KP.of_grown {w W W2 : World} {S : Nat → Prop} {row : Option Nat} (hg : W.grownBy W2 row) (hb : Below 0 W W2) (h : KP w W S) (hr : ∀ k, row = some k → S k ∨ w.heap.size ≤ k) : KP w W2 S := ⟨h.1.trans hb, Kept.of_grown hg h.2 hr⟩
theorem KP.setCell {w W : World} {S : Nat → Prop} (h : KP w W S) {p : Addr} (hp : S p.block ∨ w.heap.size ≤ p.block) (u : Value) : KP w (W.setCell p u) S := ⟨h.1.trans (b0_set W p u), Kept.setCell h.2 hp u⟩
theorem KP.of_keep {w W W2 : World} {S : Nat → Prop} {g : Nat} (h : KP w W S) (k : KB W W2 g) (hg : S g ∨ w.heap.size ≤ g) : KP w W2 S := ⟨h.1.trans k.1, Kept.of_keep h.2 k.2 hg⟩
theorem KP.then_ {w W W2 : World} {S S2 : Nat → Prop} (h : KP w W S) (k : KP W W2 S2) (hs : ∀ k, S2 k → S k ∨ w.heap.size ≤ k) : KP w W2 S := ⟨h.1.trans k.1, Kept.then_ h.2 k.2 hs⟩
theorem KP.of_below {w W : World} (h : Below w.heap.size w W) (S : Nat → Prop) : KP w W S := ⟨b0 h, Kept.of_below h S⟩
theorem KP.mono {w W : World} {S S' : Nat → Prop} (h : KP w W S) (hs : ∀ k, S k → S' k) : KP w W S' := ⟨h.1, Kept.mono h.2 hs⟩
theorem blk_KP {W W2 : World} {S : Nat → Prop} {g : Nat} {o : Obj} (hb : W.heap[g]? = some o) (hk : KP W W2 S) (hne : ¬ S g) : W2.heap[g]? = some o := blk_kept hb hk.2 hne
theorem KP_cells {w W : World} {S : Nat → Prop} (h : KP w W S) (k o : Nat) (vs : List Value) (hk : S k ∨ w.heap.size ≤ k) : KP w (W.setCells k o vs) S :=
  ⟨h.1.trans (b0_cells k vs o W), Kept.then_ h.2 (S2 := fun i => i = k) ⟨Nat.le_of_eq (setCells_size k vs o W).symm, fun i _ hi => setCells_far hi vs o W⟩ (fun i hi => by subst hi; exact hk)⟩
theorem KP_row {w W : World} {S : Nat → Prop} (h : KP w W S) (k : Nat) (vs : Array Value) (hk : S k ∨ w.heap.size ≤ k) : KP w (W.setRow k vs) S :=
  ⟨h.1.trans ⟨rfl, rfl, rfl, by simp [World.setRow], fun k hk => absurd hk (Nat.not_lt_zero k)⟩, Kept.then_ h.2 (S2 := fun i => i = k) ⟨by simp [World.setRow], fun i _ hi => setRow_other W k i vs hi⟩ (fun i hi => by subst hi; exact hk)⟩
/-- Behind what touches blocks from B on alone. -/
theorem below_KP {B : Nat} {u w W : World} {S : Nat → Prop} (h : Below B u w) (k : KP w W S) (hB : B ≤ w.heap.size) (hS : ∀ i, S i → B ≤ i) : Below B u W :=
  h.trans ⟨k.1.os, k.1.tape, k.1.output, k.1.size, fun i hi => k.2.2 i (Nat.lt_of_lt_of_le hi hB) (fun hs => absurd (hS i hs) (Nat.not_le_of_lt hi))⟩
theorem run_st5 (a : Act) (o : Oper) (x y : Operand) (ho : o.op = .store 60 x y) (b off : Nat) (vs : Array Value) {W : World} (hx : a.eval x = .pointer (some ⟨b, off, none⟩)) (hy : a.eval y = .agg vs) (ht : W.there b off vs.size) (hi : (Try.prog.info? 60).map (·.size) = some vs.size) (h1 : vs.all (·.oneCell') = true) : (execOp a.eval o).run Try.prog W = .ok .skip (W.setCells b off vs.toList) := by
  unfold execOp
  simp only [ho, hx, hy, Instr.storeAt, Instr.sureAddr, Sem.run_bind, Sem.run_pure, Result.andThen_ok, run_storeVar_mid W b off 60 vs ht hi h1]
set_option maxHeartbeats 4000000 in
set_option maxRecDepth 100000 in
theorem swap_v (g b cap n : Nat) (c : Array Value) (t : Nat) (l : List S60) (i j : Nat) (x y : S60) (q : Bool) (w : World) (hg : w.heap[g]? = some (.cells c t (0, 0))) (h0 : c[0]? = some (.slice (some ⟨b, 0, none⟩) n cap)) (h1 : c[1]? = some (.func (.func 20) #[] #[])) (hn : n = l.length) (hl : HR w b cap l) (hx : l[i]? = some x) (hy : l[j]? = some y) (hq : bef y x = q) (hne : g ≠ b) :
    Calls Try.prog 26 #[.pointer (some ⟨g, 0, none⟩), .int .i64 i, .int .i64 j] w fun e w' => e = .returned (.bool q) ∧ HR w' b cap (if q = true then (l.set i y).set j x else l) ∧ KB w w' b := by
  have hu60 := Try.underlying60
  have HG := Aside0.mk hg
  have HC0 := Aside0.mk h0
  have HC1 := Aside0.mk h1
  have HL := Aside0.mk hl
  have HX := Aside0.mk hx
  have HY := Aside0.mk hy
  have HQ := Aside0.mk hq
  have HNE := Aside0.mk hne
  have HIL := Aside0.mk (List.getElem?_eq_some_iff.1 hx).1
  have HJL := Aside0.mk (List.getElem?_eq_some_iff.1 hy).1
  have hin : i < n := by rw [hn]; exact HIL.out
  have hjn : j < n := by rw [hn]; exact HJL.out
  clear hg h0 h1 hl hx hy hq hn hne
  have HK := Aside0.mk (KB.refl w b)
  go_enter Try.func26, Try.ntmps26
  go_wp2
  refine start_ (n := 20) (S := fun w' => w'.cell? ⟨g, 0, none⟩ = some (.slice (some ⟨b, 0, none⟩) n cap) ∧ w'.cell? ⟨g, 1, none⟩ = some (.func (.func 20) #[] #[]) ∧ w'.rangeAt b (j * 5) (eC y) ∧ w'.rangeAt b (i * 5) (eC x)) (ds := []) #[false, false, false, false, false, false, false, false, false, false, false, false, false, false, false, false, false, false, false, false] (by kernel_rfl) rfl rfl ⟨(blk_cell HG.out 0).trans HC0.out, (blk_cell HG.out 1).trans HC1.out, HR_range HL.out HY.out, HR_range HL.out HX.out⟩ (fun hHeld => ?_)
  replace HG := Aside0.mk (blk_drew HG.out)
  replace HL : Aside0 (HR w.drew b cap l) := ⟨HR_move HL.out rfl⟩
  replace HK := Aside0.mk (KB.drew HK.out)
  generalize w.drew = W1 at HG HL HK hHeld ⊢
  refine pure_ (i := 0) (N := (some 7)) (v := ?_) (a' := ?_) #[true, false, false, false, false, false, false, false, false, false, false, false, false, false, false, false, false, false, false, false] rfl rfl (by kernel_rfl) (fun _ _ _ h => h) (Or.inl ⟨by rfl, ?_⟩) ?_ ?_
  rotate_left
  · intro w'
    go_simp
    with_reducible rfl
  rotate_left
  · simp only [Act.put, List.setIfInBounds_toArray, List.set_cons_zero, List.set_cons_succ, i64_w, i32_w]
    rfl
  refine pure_ (i := 1) (N := (some 8)) (v := ?_) (a' := ?_) #[true, true, false, false, false, false, false, false, false, false, false, false, false, false, false, false, false, false, false, false] rfl rfl (by kernel_rfl) (fun _ _ _ h => h) (Or.inl ⟨by rfl, ?_⟩) ?_ ?_
  rotate_left
  · intro w'
    go_simp
    with_reducible rfl
  rotate_left
  · simp only [Act.put, List.setIfInBounds_toArray, List.set_cons_zero, List.set_cons_succ, i64_w, i32_w]
    rfl
  refine pure_ (i := 2) (N := (some 9)) (v := ?_) (a' := ?_) #[true, true, true, false, false, false, false, false, false, false, false, false, false, false, false, false, false, false, false, false] rfl rfl (by kernel_rfl) (fun _ _ _ h => h) (Or.inl ⟨by rfl, ?_⟩) ?_ ?_
  rotate_left
  · intro w'
    go_simp
    with_reducible rfl
  rotate_left
  · simp only [Act.put, List.setIfInBounds_toArray, List.set_cons_zero, List.set_cons_succ, i64_w, i32_w]
    rfl
  refine take_ (i := 3) (N := (some 10)) (v := ?_) (a' := ?_) #[true, true, true, true, false, false, false, false, false, false, false, false, false, false, false, false, false, false, false, false] rfl rfl (by kernel_rfl) (fun _ _ _ h => h) (Or.inl ⟨by rfl, ?_⟩) hHeld ?_ ?_
  rotate_left
  · rintro w' ⟨s0, s1, s2, s3⟩
    go_simp
    with_reducible rfl
  rotate_left
  · simp only [Act.put, List.setIfInBounds_toArray, List.set_cons_zero, List.set_cons_succ, i64_w, i32_w]
    rfl
  refine pure_ (i := 4) (N := (some 11)) (v := ?_) (a' := ?_) #[true, true, true, true, true, false, false, false, false, false, false, false, false, false, false, false, false, false, false, false] rfl rfl (by kernel_rfl) (fun _ _ _ h => h) (Or.inl ⟨by rfl, ?_⟩) ?_ ?_
  rotate_left
  · intro w'
    go_simp
    with_reducible rfl
  rotate_left
  · simp only [Act.put, List.setIfInBounds_toArray, List.set_cons_zero, List.set_cons_succ, i64_w, i32_w]
    rfl
  refine pure_ (i := 5) (N := (some 12)) (v := ?_) (a' := ?_) #[true, true, true, true, true, true, false, false, false, false, false, false, false, false, false, false, false, false, false, false] rfl rfl (by kernel_rfl) (fun _ _ _ h => h) (Or.inl ⟨by rfl, ?_⟩) ?_ ?_
  rotate_left
  · intro w'
    go_simp
    with_reducible rfl
  rotate_left
  · simp only [Act.put, List.setIfInBounds_toArray, List.set_cons_zero, List.set_cons_succ, i64_w, i32_w]
    rfl
  refine pure_ (i := 6) (N := (some 13)) (v := ?_) (a' := ?_) #[true, true, true, true, true, true, true, false, false, false, false, false, false, false, false, false, false, false, false, false] rfl rfl (by kernel_rfl) (fun _ _ _ h => h) (Or.inl ⟨by rfl, ?_⟩) ?_ ?_
  rotate_left
  · intro w'
    go_simp
    with_reducible rfl
  rotate_left
  · simp only [Act.put, List.setIfInBounds_toArray, List.set_cons_zero, List.set_cons_succ, i64_w, i32_w]
    rfl
  refine take_ (i := 7) (N := (some 14)) (v := ?_) (a' := ?_) #[true, true, true, true, true, true, true, true, false, false, false, false, false, false, false, false, false, false, false, false] rfl rfl (by kernel_rfl) (fun _ _ _ h => h) (Or.inl ⟨by rfl, ?_⟩) hHeld ?_ ?_
  rotate_left
  · rintro w' ⟨s0, s1, s2, s3⟩
    go_simp
    with_reducible rfl
  rotate_left
  · simp only [Act.put, List.setIfInBounds_toArray, List.set_cons_zero, List.set_cons_succ, i64_w, i32_w]
    rfl
  refine pure_ (i := 8) (N := (some 15)) (v := ?_) (a' := ?_) #[true, true, true, true, true, true, true, true, true, false, false, false, false, false, false, false, false, false, false, false] rfl rfl (by kernel_rfl) (fun _ _ _ h => h) (Or.inl ⟨by rfl, ?_⟩) ?_ ?_
  rotate_left
  · intro w'
    go_simp
    with_reducible rfl
  rotate_left
  · simp only [Act.put, List.setIfInBounds_toArray, List.set_cons_zero, List.set_cons_succ, i64_w, i32_w]
    rfl
  refine pure_ (i := 9) (N := (some 16)) (v := ?_) (a' := ?_) #[true, true, true, true, true, true, true, true, true, true, false, false, false, false, false, false, false, false, false, false] rfl rfl (by kernel_rfl) (fun _ _ _ h => h) (Or.inl ⟨by rfl, ?_⟩) ?_ ?_
  rotate_left
  · intro w'
    go_simp
    with_reducible rfl
  rotate_left
  · simp only [Act.put, List.setIfInBounds_toArray, List.set_cons_zero, List.set_cons_succ, i64_w, i32_w]
    rfl
  refine take_ (i := 10) (N := some 17) (v := .agg #[.int .i64 y.f0, .int .i64 y.f1, .int .i64 y.f2, .int .u64 y.f3, .int .i64 y.f4]) (a' := ?_) #[true, true, true, true, true, true, true, true, true, true, true, false, false, false, false, false, false, false, false, false] rfl rfl (by kernel_rfl) (fun _ _ _ h => h) (yieldsIf_load_mid (by rfl) 60 (.tmp 16) rfl b (j * 5) rfl (eC y) _ (fun w h => h.2.2.1) hu60 rfl (by kernel_rfl)) hHeld ?_ ?_
  rotate_left
  · simp only [Act.put, List.setIfInBounds_toArray, List.set_cons_zero, List.set_cons_succ, i64_w, i32_w]
    rfl
  refine pure_ (i := 11) (N := (some 18)) (v := ?_) (a' := ?_) #[true, true, true, true, true, true, true, true, true, true, true, true, false, false, false, false, false, false, false, false] rfl rfl (by kernel_rfl) (fun _ _ _ h => h) (Or.inl ⟨by rfl, ?_⟩) ?_ ?_
  rotate_left
  · intro w'
    go_simp
    with_reducible rfl
  rotate_left
  · simp only [Act.put, List.setIfInBounds_toArray, List.set_cons_zero, List.set_cons_succ, i64_w, i32_w]
    rfl
  refine pure_ (i := 12) (N := (some 19)) (v := ?_) (a' := ?_) #[true, true, true, true, true, true, true, true, true, true, true, true, true, false, false, false, false, false, false, false] rfl rfl (by kernel_rfl) (fun _ _ _ h => h) (Or.inl ⟨by rfl, ?_⟩) ?_ ?_
  rotate_left
  · intro w'
    go_simp
    with_reducible rfl
  rotate_left
  · simp only [Act.put, List.setIfInBounds_toArray, List.set_cons_zero, List.set_cons_succ, i64_w, i32_w]
    rfl
  refine pure_ (i := 13) (N := (some 20)) (v := ?_) (a' := ?_) #[true, true, true, true, true, true, true, true, true, true, true, true, true, true, false, false, false, false, false, false] rfl rfl (by kernel_rfl) (fun _ _ _ h => h) (Or.inl ⟨by rfl, ?_⟩) ?_ ?_
  rotate_left
  · intro w'
    go_simp
    with_reducible rfl
  rotate_left
  · simp only [Act.put, List.setIfInBounds_toArray, List.set_cons_zero, List.set_cons_succ, i64_w, i32_w]
    rfl
  refine take_ (i := 14) (N := (some 21)) (v := ?_) (a' := ?_) #[true, true, true, true, true, true, true, true, true, true, true, true, true, true, true, false, false, false, false, false] rfl rfl (by kernel_rfl) (fun _ _ _ h => h) (Or.inl ⟨by rfl, ?_⟩) hHeld ?_ ?_
  rotate_left
  · rintro w' ⟨s0, s1, s2, s3⟩
    go_simp
    with_reducible rfl
  rotate_left
  · simp only [Act.put, List.setIfInBounds_toArray, List.set_cons_zero, List.set_cons_succ, i64_w, i32_w]
    rfl
  refine pure_ (i := 15) (N := (some 22)) (v := ?_) (a' := ?_) #[true, true, true, true, true, true, true, true, true, true, true, true, true, true, true, true, false, false, false, false] rfl rfl (by kernel_rfl) (fun _ _ _ h => h) (Or.inl ⟨by rfl, ?_⟩) ?_ ?_
  rotate_left
  · intro w'
    go_simp
    with_reducible rfl
  rotate_left
  · simp only [Act.put, List.setIfInBounds_toArray, List.set_cons_zero, List.set_cons_succ, i64_w, i32_w]
    rfl
  refine pure_ (i := 16) (N := (some 23)) (v := ?_) (a' := ?_) #[true, true, true, true, true, true, true, true, true, true, true, true, true, true, true, true, true, false, false, false] rfl rfl (by kernel_rfl) (fun _ _ _ h => h) (Or.inl ⟨by rfl, ?_⟩) ?_ ?_
  rotate_left
  · intro w'
    go_simp
    with_reducible rfl
  rotate_left
  · simp only [Act.put, List.setIfInBounds_toArray, List.set_cons_zero, List.set_cons_succ, i64_w, i32_w]
    rfl
  refine take_ (i := 17) (N := some 24) (v := .agg #[.int .i64 x.f0, .int .i64 x.f1, .int .i64 x.f2, .int .u64 x.f3, .int .i64 x.f4]) (a' := ?_) #[true, true, true, true, true, true, true, true, true, true, true, true, true, true, true, true, true, true, false, false] rfl rfl (by kernel_rfl) (fun _ _ _ h => h) (yieldsIf_load_mid (by rfl) 60 (.tmp 23) rfl b (i * 5) rfl (eC x) _ (fun w h => h.2.2.2) hu60 rfl (by kernel_rfl)) hHeld ?_ ?_
  rotate_left
  · simp only [Act.put, List.setIfInBounds_toArray, List.set_cons_zero, List.set_cons_succ, i64_w, i32_w]
    rfl
  refine one_ (i := 18) (N := (some 25)) #[true, true, true, true, true, true, true, true, true, true, true, true, true, true, true, true, true, true, true, false] rfl rfl (by kernel_rfl) (by decide) (fun K hK => ?_)
  refine Go.Proofs.YtocdpfdnnijdkaaS.goesV_ Try.func20 (by kernel_rfl) rfl #[.agg #[.int .i64 y.f0, .int .i64 y.f1, .int .i64 y.f2, .int .u64 y.f3, .int .i64 y.f4], .agg #[.int .i64 x.f0, .int .i64 x.f1, .int .i64 x.f2, .int .u64 x.f3, .int .i64 x.f4]] (by rfl) rfl rfl (by rfl) (by (try simp only [List.map_toArray, List.map_cons, List.map_nil]); first | done | rfl) ?_
  refine (bef_v y x q _ HQ.out).mono ?_
  rintro e W2 ⟨rfl, hb⟩
  refine ⟨_, rfl, ?_⟩
  replace HG := Aside0.mk (blk_below HG.out hb)
  replace HL := Aside0.mk (HR_below HL.out hb)
  replace HK := Aside0.mk (k_below HK.out hb)
  clear hb
  refine hK.out _ _ ⟨(blk_cell HG.out 0).trans HC0.out, (blk_cell HG.out 1).trans HC1.out, HR_range HL.out HY.out, HR_range HL.out HX.out⟩ (fun hHeld => ?_)
  clear hK K
  refine norm_ (a' := ?_) ?_ ?_
  rotate_left
  · show Act.put _ (some 25) _ = _
    simp only [Act.put, List.setIfInBounds_toArray, List.set_cons_zero, List.set_cons_succ, i64_w, i32_w]
    rfl
  refine pure_ (i := 19) (N := (some 26)) (v := ?_) (a' := ?_) #[true, true, true, true, true, true, true, true, true, true, true, true, true, true, true, true, true, true, true, true] rfl rfl (by kernel_rfl) (fun _ _ _ h => h) (Or.inl ⟨by rfl, ?_⟩) ?_ ?_
  rotate_left
  · intro w'
    go_simp
    with_reducible rfl
  rotate_left
  · simp only [Act.put, List.setIfInBounds_toArray, List.set_cons_zero, List.set_cons_succ, i64_w, i32_w]
    rfl
  refine done_ (by kernel_rfl) ?_
  cases q with
  | false =>
    go_wp2
    go_ret
    exact ⟨rfl, HL.out, HK.out⟩
  | true =>
    go_wp2
    refine start_ (n := 28) (S := fun w' => w'.cell? ⟨g, 0, none⟩ = some (.slice (some ⟨b, 0, none⟩) n cap) ∧ w'.rangeAt b (j * 5) (eC y) ∧ w'.rangeAt b (i * 5) (eC x)) (ds := [25, 27]) #[false, false, false, false, false, false, false, false, false, false, false, false, false, false, false, false, false, false, false, false, false, false, false, false, false, false, false, false] (by kernel_rfl) rfl rfl ⟨(blk_cell HG.out 0).trans HC0.out, HR_range HL.out HY.out, HR_range HL.out HX.out⟩ (fun hHeld => ?_)
    replace HG := Aside0.mk (blk_drew HG.out)
    replace HL : Aside0 (HR W2.drew b cap l) := ⟨HR_move HL.out rfl⟩
    replace HK := Aside0.mk (KB.drew HK.out)
    generalize W2.drew = W3 at HG HL HK hHeld ⊢
    refine pure_ (i := 0) (N := (some 27)) (v := ?_) (a' := ?_) #[true, false, false, false, false, false, false, false, false, false, false, false, false, false, false, false, false, false, false, false, false, false, false, false, false, false, false, false] rfl rfl (by kernel_rfl) (fun _ _ _ h => h) (Or.inl ⟨by rfl, ?_⟩) ?_ ?_
    rotate_left
    · intro w'
      go_simp
      with_reducible rfl
    rotate_left
    · simp only [Act.put, List.setIfInBounds_toArray, List.set_cons_zero, List.set_cons_succ, i64_w, i32_w]
      rfl
    refine pure_ (i := 1) (N := (some 28)) (v := ?_) (a' := ?_) #[true, true, false, false, false, false, false, false, false, false, false, false, false, false, false, false, false, false, false, false, false, false, false, false, false, false, false, false] rfl rfl (by kernel_rfl) (fun _ _ _ h => h) (Or.inl ⟨by rfl, ?_⟩) ?_ ?_
    rotate_left
    · intro w'
      go_simp
      with_reducible rfl
    rotate_left
    · simp only [Act.put, List.setIfInBounds_toArray, List.set_cons_zero, List.set_cons_succ, i64_w, i32_w]
      rfl
    refine pure_ (i := 2) (N := (some 29)) (v := ?_) (a' := ?_) #[true, true, true, false, false, false, false, false, false, false, false, false, false, false, false, false, false, false, false, false, false, false, false, false, false, false, false, false] rfl rfl (by kernel_rfl) (fun _ _ _ h => h) (Or.inl ⟨by rfl, ?_⟩) ?_ ?_
    rotate_left
    · intro w'
      go_simp
      with_reducible rfl
    rotate_left
    · simp only [Act.put, List.setIfInBounds_toArray, List.set_cons_zero, List.set_cons_succ, i64_w, i32_w]
      rfl
    refine take_ (i := 3) (N := (some 30)) (v := ?_) (a' := ?_) #[true, true, true, true, false, false, false, false, false, false, false, false, false, false, false, false, false, false, false, false, false, false, false, false, false, false, false, false] rfl rfl (by kernel_rfl) (fun _ _ _ h => h) (Or.inl ⟨by rfl, ?_⟩) hHeld ?_ ?_
    rotate_left
    · rintro w' ⟨s0, s1, s2⟩
      go_simp
      with_reducible rfl
    rotate_left
    · simp only [Act.put, List.setIfInBounds_toArray, List.set_cons_zero, List.set_cons_succ, i64_w, i32_w]
      rfl
    refine pure_ (i := 4) (N := (some 31)) (v := ?_) (a' := ?_) #[true, true, true, true, true, false, false, false, false, false, false, false, false, false, false, false, false, false, false, false, false, false, false, false, false, false, false, false] rfl rfl (by kernel_rfl) (fun _ _ _ h => h) (Or.inl ⟨by rfl, ?_⟩) ?_ ?_
    rotate_left
    · intro w'
      go_simp
      with_reducible rfl
    rotate_left
    · simp only [Act.put, List.setIfInBounds_toArray, List.set_cons_zero, List.set_cons_succ, i64_w, i32_w]
      rfl
    refine pure_ (i := 5) (N := (some 32)) (v := ?_) (a' := ?_) #[true, true, true, true, true, true, false, false, false, false, false, false, false, false, false, false, false, false, false, false, false, false, false, false, false, false, false, false] rfl rfl (by kernel_rfl) (fun _ _ _ h => h) (Or.inl ⟨by rfl, ?_⟩) ?_ ?_
    rotate_left
    · intro w'
      go_simp
      with_reducible rfl
    rotate_left
    · simp only [Act.put, List.setIfInBounds_toArray, List.set_cons_zero, List.set_cons_succ, i64_w, i32_w]
      rfl
    refine pure_ (i := 6) (N := (some 33)) (v := ?_) (a' := ?_) #[true, true, true, true, true, true, true, false, false, false, false, false, false, false, false, false, false, false, false, false, false, false, false, false, false, false, false, false] rfl rfl (by kernel_rfl) (fun _ _ _ h => h) (Or.inl ⟨by rfl, ?_⟩) ?_ ?_
    rotate_left
    · intro w'
      go_simp
      with_reducible rfl
    rotate_left
    · simp only [Act.put, List.setIfInBounds_toArray, List.set_cons_zero, List.set_cons_succ, i64_w, i32_w]
      rfl
    refine pure_ (i := 7) (N := (some 34)) (v := ?_) (a' := ?_) #[true, true, true, true, true, true, true, true, false, false, false, false, false, false, false, false, false, false, false, false, false, false, false, false, false, false, false, false] rfl rfl (by kernel_rfl) (fun _ _ _ h => h) (Or.inl ⟨by rfl, ?_⟩) ?_ ?_
    rotate_left
    · intro w'
      go_simp
      with_reducible rfl
    rotate_left
    · simp only [Act.put, List.setIfInBounds_toArray, List.set_cons_zero, List.set_cons_succ, i64_w, i32_w]
      rfl
    refine take_ (i := 8) (N := (some 35)) (v := ?_) (a' := ?_) #[true, true, true, true, true, true, true, true, true, false, false, false, false, false, false, false, false, false, false, false, false, false, false, false, false, false, false, false] rfl rfl (by kernel_rfl) (fun _ _ _ h => h) (Or.inl ⟨by rfl, ?_⟩) hHeld ?_ ?_
    rotate_left
    · rintro w' ⟨s0, s1, s2⟩
      go_simp
      with_reducible rfl
    rotate_left
    · simp only [Act.put, List.setIfInBounds_toArray, List.set_cons_zero, List.set_cons_succ, i64_w, i32_w]
      rfl
    refine pure_ (i := 9) (N := (some 36)) (v := ?_) (a' := ?_) #[true, true, true, true, true, true, true, true, true, true, false, false, false, false, false, false, false, false, false, false, false, false, false, false, false, false, false, false] rfl rfl (by kernel_rfl) (fun _ _ _ h => h) (Or.inl ⟨by rfl, ?_⟩) ?_ ?_
    rotate_left
    · intro w'
      go_simp
      with_reducible rfl
    rotate_left
    · simp only [Act.put, List.setIfInBounds_toArray, List.set_cons_zero, List.set_cons_succ, i64_w, i32_w]
      rfl
    refine pure_ (i := 10) (N := (some 37)) (v := ?_) (a' := ?_) #[true, true, true, true, true, true, true, true, true, true, true, false, false, false, false, false, false, false, false, false, false, false, false, false, false, false, false, false] rfl rfl (by kernel_rfl) (fun _ _ _ h => h) (Or.inl ⟨by rfl, ?_⟩) ?_ ?_
    rotate_left
    · intro w'
      go_simp
      with_reducible rfl
    rotate_left
    · simp only [Act.put, List.setIfInBounds_toArray, List.set_cons_zero, List.set_cons_succ, i64_w, i32_w]
      rfl
    refine pure_ (i := 11) (N := (some 38)) (v := ?_) (a' := ?_) #[true, true, true, true, true, true, true, true, true, true, true, true, false, false, false, false, false, false, false, false, false, false, false, false, false, false, false, false] rfl rfl (by kernel_rfl) (fun _ _ _ h => h) (Or.inl ⟨by rfl, ?_⟩) ?_ ?_
    rotate_left
    · intro w'
      go_simp
      with_reducible rfl
    rotate_left
    · simp only [Act.put, List.setIfInBounds_toArray, List.set_cons_zero, List.set_cons_succ, i64_w, i32_w]
      rfl
    refine pure_ (i := 12) (N := (some 39)) (v := ?_) (a' := ?_) #[true, true, true, true, true, true, true, true, true, true, true, true, true, false, false, false, false, false, false, false, false, false, false, false, false, false, false, false] rfl rfl (by kernel_rfl) (fun _ _ _ h => h) (Or.inl ⟨by rfl, ?_⟩) ?_ ?_
    rotate_left
    · intro w'
      go_simp
      with_reducible rfl
    rotate_left
    · simp only [Act.put, List.setIfInBounds_toArray, List.set_cons_zero, List.set_cons_succ, i64_w, i32_w]
      rfl
    refine take_ (i := 13) (N := (some 40)) (v := ?_) (a' := ?_) #[true, true, true, true, true, true, true, true, true, true, true, true, true, true, false, false, false, false, false, false, false, false, false, false, false, false, false, false] rfl rfl (by kernel_rfl) (fun _ _ _ h => h) (Or.inl ⟨by rfl, ?_⟩) hHeld ?_ ?_
    rotate_left
    · rintro w' ⟨s0, s1, s2⟩
      go_simp
      with_reducible rfl
    rotate_left
    · simp only [Act.put, List.setIfInBounds_toArray, List.set_cons_zero, List.set_cons_succ, i64_w, i32_w]
      rfl
    refine pure_ (i := 14) (N := (some 41)) (v := ?_) (a' := ?_) #[true, true, true, true, true, true, true, true, true, true, true, true, true, true, true, false, false, false, false, false, false, false, false, false, false, false, false, false] rfl rfl (by kernel_rfl) (fun _ _ _ h => h) (Or.inl ⟨by rfl, ?_⟩) ?_ ?_
    rotate_left
    · intro w'
      go_simp
      with_reducible rfl
    rotate_left
    · simp only [Act.put, List.setIfInBounds_toArray, List.set_cons_zero, List.set_cons_succ, i64_w, i32_w]
      rfl
    refine pure_ (i := 15) (N := (some 42)) (v := ?_) (a' := ?_) #[true, true, true, true, true, true, true, true, true, true, true, true, true, true, true, true, false, false, false, false, false, false, false, false, false, false, false, false] rfl rfl (by kernel_rfl) (fun _ _ _ h => h) (Or.inl ⟨by rfl, ?_⟩) ?_ ?_
    rotate_left
    · intro w'
      go_simp
      with_reducible rfl
    rotate_left
    · simp only [Act.put, List.setIfInBounds_toArray, List.set_cons_zero, List.set_cons_succ, i64_w, i32_w]
      rfl
    refine take_ (i := 16) (N := some 43) (v := .agg #[.int .i64 y.f0, .int .i64 y.f1, .int .i64 y.f2, .int .u64 y.f3, .int .i64 y.f4]) (a' := ?_) #[true, true, true, true, true, true, true, true, true, true, true, true, true, true, true, true, true, false, false, false, false, false, false, false, false, false, false, false] rfl rfl (by kernel_rfl) (fun _ _ _ h => h) (yieldsIf_load_mid (by rfl) 60 (.tmp 42) rfl b (j * 5) rfl (eC y) _ (fun w h => h.2.1) hu60 rfl (by kernel_rfl)) hHeld ?_ ?_
    rotate_left
    · simp only [Act.put, List.setIfInBounds_toArray, List.set_cons_zero, List.set_cons_succ, i64_w, i32_w]
      rfl
    refine pure_ (i := 17) (N := (some 44)) (v := ?_) (a' := ?_) #[true, true, true, true, true, true, true, true, true, true, true, true, true, true, true, true, true, true, false, false, false, false, false, false, false, false, false, false] rfl rfl (by kernel_rfl) (fun _ _ _ h => h) (Or.inl ⟨by rfl, ?_⟩) ?_ ?_
    rotate_left
    · intro w'
      go_simp
      with_reducible rfl
    rotate_left
    · simp only [Act.put, List.setIfInBounds_toArray, List.set_cons_zero, List.set_cons_succ, i64_w, i32_w]
      rfl
    refine pure_ (i := 18) (N := (some 45)) (v := ?_) (a' := ?_) #[true, true, true, true, true, true, true, true, true, true, true, true, true, true, true, true, true, true, true, false, false, false, false, false, false, false, false, false] rfl rfl (by kernel_rfl) (fun _ _ _ h => h) (Or.inl ⟨by rfl, ?_⟩) ?_ ?_
    rotate_left
    · intro w'
      go_simp
      with_reducible rfl
    rotate_left
    · simp only [Act.put, List.setIfInBounds_toArray, List.set_cons_zero, List.set_cons_succ, i64_w, i32_w]
      rfl
    refine pure_ (i := 19) (N := (some 46)) (v := ?_) (a' := ?_) #[true, true, true, true, true, true, true, true, true, true, true, true, true, true, true, true, true, true, true, true, false, false, false, false, false, false, false, false] rfl rfl (by kernel_rfl) (fun _ _ _ h => h) (Or.inl ⟨by rfl, ?_⟩) ?_ ?_
    rotate_left
    · intro w'
      go_simp
      with_reducible rfl
    rotate_left
    · simp only [Act.put, List.setIfInBounds_toArray, List.set_cons_zero, List.set_cons_succ, i64_w, i32_w]
      rfl
    refine take_ (i := 20) (N := (some 47)) (v := ?_) (a' := ?_) #[true, true, true, true, true, true, true, true, true, true, true, true, true, true, true, true, true, true, true, true, true, false, false, false, false, false, false, false] rfl rfl (by kernel_rfl) (fun _ _ _ h => h) (Or.inl ⟨by rfl, ?_⟩) hHeld ?_ ?_
    rotate_left
    · rintro w' ⟨s0, s1, s2⟩
      go_simp
      with_reducible rfl
    rotate_left
    · simp only [Act.put, List.setIfInBounds_toArray, List.set_cons_zero, List.set_cons_succ, i64_w, i32_w]
      rfl
    refine pure_ (i := 21) (N := (some 48)) (v := ?_) (a' := ?_) #[true, true, true, true, true, true, true, true, true, true, true, true, true, true, true, true, true, true, true, true, true, true, false, false, false, false, false, false] rfl rfl (by kernel_rfl) (fun _ _ _ h => h) (Or.inl ⟨by rfl, ?_⟩) ?_ ?_
    rotate_left
    · intro w'
      go_simp
      with_reducible rfl
    rotate_left
    · simp only [Act.put, List.setIfInBounds_toArray, List.set_cons_zero, List.set_cons_succ, i64_w, i32_w]
      rfl
    refine pure_ (i := 22) (N := (some 49)) (v := ?_) (a' := ?_) #[true, true, true, true, true, true, true, true, true, true, true, true, true, true, true, true, true, true, true, true, true, true, true, false, false, false, false, false] rfl rfl (by kernel_rfl) (fun _ _ _ h => h) (Or.inl ⟨by rfl, ?_⟩) ?_ ?_
    rotate_left
    · intro w'
      go_simp
      with_reducible rfl
    rotate_left
    · simp only [Act.put, List.setIfInBounds_toArray, List.set_cons_zero, List.set_cons_succ, i64_w, i32_w]
      rfl
    refine take_ (i := 23) (N := some 50) (v := .agg #[.int .i64 x.f0, .int .i64 x.f1, .int .i64 x.f2, .int .u64 x.f3, .int .i64 x.f4]) (a' := ?_) #[true, true, true, true, true, true, true, true, true, true, true, true, true, true, true, true, true, true, true, true, true, true, true, true, false, false, false, false] rfl rfl (by kernel_rfl) (fun _ _ _ h => h) (yieldsIf_load_mid (by rfl) 60 (.tmp 49) rfl b (i * 5) rfl (eC x) _ (fun w h => h.2.2) hu60 rfl (by kernel_rfl)) hHeld ?_ ?_
    rotate_left
    · simp only [Act.put, List.setIfInBounds_toArray, List.set_cons_zero, List.set_cons_succ, i64_w, i32_w]
      rfl
    refine pure_ (i := 24) (N := (some 51)) (v := ?_) (a' := ?_) #[true, true, true, true, true, true, true, true, true, true, true, true, true, true, true, true, true, true, true, true, true, true, true, true, true, false, false, false] rfl rfl (by kernel_rfl) (fun _ _ _ h => h) (Or.inl ⟨by rfl, ?_⟩) ?_ ?_
    rotate_left
    · intro w'
      go_simp
      with_reducible rfl
    rotate_left
    · simp only [Act.put, List.setIfInBounds_toArray, List.set_cons_zero, List.set_cons_succ, i64_w, i32_w]
      rfl
    clear hHeld
    refine last_ (i := 25) (N := none) #[true, true, true, true, true, true, true, true, true, true, true, true, true, true, true, true, true, true, true, true, true, true, true, true, true, true, false, false] rfl rfl (by kernel_rfl) (by decide) (fun K hK => ?_)
    refine skip_ (w1 := W3.setCells b (i * 5) (eC y)) (by rfl) rfl (run_st5 _ _ (.tmp 51) (.tmp 43) rfl b (i * 5) #[.int .i64 y.f0, .int .i64 y.f1, .int .i64 y.f2, .int .u64 y.f3, .int .i64 y.f4] rfl rfl (HR_there HL.out HIL.out) (by kernel_rfl) (all_oneCell_toArray (eC_one y))) ?_
    refine hK.out _ _ ?_
    clear hK K
    have n_G := Aside0.mk ((setCells_far HNE.out (eC y) (i * 5) W3).trans HG.out)
    have n_K := Aside0.mk (k_cells HK.out (i * 5) (eC y))
    have n_L := Aside0.mk (HR_set HL.out y HIL.out)
    clear HG HK HL
    have HG := n_G
    have HK := n_K
    have HL := n_L
    clear n_G n_K n_L
    generalize W3.setCells b (i * 5) (eC y) = W4 at *
    refine pure_ (i := 26) (N := (some 52)) (v := ?_) (a' := ?_) #[true, true, true, true, true, true, true, true, true, true, true, true, true, true, true, true, true, true, true, true, true, true, true, true, true, true, true, false] rfl rfl (by kernel_rfl) (fun _ _ _ h => h) (Or.inl ⟨by rfl, ?_⟩) ?_ ?_
    rotate_left
    · intro w'
      go_simp
      with_reducible rfl
    rotate_left
    · simp only [Act.put, List.setIfInBounds_toArray, List.set_cons_zero, List.set_cons_succ, i64_w, i32_w]
      rfl
    refine last_ (i := 27) (N := none) #[true, true, true, true, true, true, true, true, true, true, true, true, true, true, true, true, true, true, true, true, true, true, true, true, true, true, true, true] rfl rfl (by kernel_rfl) (by decide) (fun K hK => ?_)
    refine skip_ (w1 := W4.setCells b (j * 5) (eC x)) (by rfl) rfl (run_st5 _ _ (.tmp 52) (.tmp 50) rfl b (j * 5) #[.int .i64 x.f0, .int .i64 x.f1, .int .i64 x.f2, .int .u64 x.f3, .int .i64 x.f4] rfl rfl (HR_there HL.out (by rw [List.length_set]; exact HJL.out)) (by kernel_rfl) (all_oneCell_toArray (eC_one x))) ?_
    refine hK.out _ _ ?_
    clear hK K
    have n_G := Aside0.mk ((setCells_far HNE.out (eC x) (j * 5) W4).trans HG.out)
    have n_K := Aside0.mk (k_cells HK.out (j * 5) (eC x))
    have n_L := Aside0.mk (HR_set HL.out x (by rw [List.length_set]; exact HJL.out))
    clear HG HK HL
    have HG := n_G
    have HK := n_K
    have HL := n_L
    clear n_G n_K n_L
    generalize W4.setCells b (j * 5) (eC x) = W5 at *
    refine done_ (by kernel_rfl) ?_
    go_wp2
    go_ret
    exact ⟨rfl, HL.out, HK.out⟩
end Go.Proofs.Ytocdpfdnnijdkaa.G
