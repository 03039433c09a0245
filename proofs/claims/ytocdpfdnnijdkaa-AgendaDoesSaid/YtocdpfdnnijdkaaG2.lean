import Derived.Test.YtocdpfdnnijdkaaG1
namespace Go.Proofs.Ytocdpfdnnijdkaa.G
open Go.RowKit Go.Proofs.YtocdpfdnnijdkaaW.PrintWords Go.Proofs.YtocdpfdnnijdkaaW.PrintLast Go.Proofs.YtocdpfdnnijdkaaW.PrintMore
attribute [local go_sem] max2_int min2_int max_two min_two max_three min_three max_four min_four
attribute [local go_sem] Go.Proofs.YtocdpfdnnijdkaaS.cell_set_map Go.Proofs.YtocdpfdnnijdkaaS.setCell_drewN
set_option linter.unusedVariables false
set_option linter.unusedSimpArgs false
theorem info60 : (Try.prog.info? 60).map (fun i => (i.zero, i.size, i.bytes)) = some (some (.agg #[(.int .i64 0), (.int .i64 0), (.int .i64 0), (.int .u64 0), (.int .i64 0)]), 5, 40) := by kernel_rfl
/-- Two of a row exchanged. -/
def swL (l : List S60) (i j : Nat) : List S60 := (l.set i (l[j]?.getD default)).set j (l[i]?.getD default)
/-- A row behind the last one's way up from place i (at most f steps). -/
def upF (l : List S60) : Nat → Nat → List S60
  | 0, _ => l
  | f + 1, i => if i = 0 then l else if bef (l[i]?.getD default) (l[(i - 1) / 2]?.getD default) = true then upF (swL l ((i - 1) / 2) i) f ((i - 1) / 2) else l
def putL (l : List S60) (x : S60) : List S60 := upF (l ++ [x]) l.length l.length
theorem swL_length (l : List S60) (i j : Nat) : (swL l i j).length = l.length := by simp [swL]
theorem upF_length : ∀ (f : Nat) (l : List S60) (i : Nat), (upF l f i).length = l.length
  | 0, _, _ => rfl
  | f + 1, l, i => by
    unfold upF
    split
    · rfl
    · split
      · rw [upF_length f, swL_length]
      · rfl
theorem putL_length (l : List S60) (x : S60) : (putL l x).length = l.length + 1 := by unfold putL; rw [upF_length]; simp
theorem getD_get {l : List S60} {i : Nat} (h : i < l.length) : l[i]? = some (l[i]?.getD default) := by
  rw [List.getElem?_eq_getElem h]
  rfl
theorem AR_below {w w' : World} {v : Value} {l : List S60} (h : AR w v l) (hb : Below w.heap.size w w') : AR w' v l := by
  rcases h with h | ⟨b, cap, rfl, h⟩
  · exact .inl h
  · exact .inr ⟨b, cap, rfl, HR_below h hb⟩
theorem Below.refl_ (w : World) : Below 0 w w := (Below.refl 0 w)
theorem AR_lt {w : World} {v : Value} {l : List S60} (h : AR w v l) : ∀ k, v.ownBlock = some k → k < w.heap.size := by
  intro k hk
  rcases h with ⟨rfl, _⟩ | ⟨b, cap, rfl, _, _, c, hb, _⟩
  · simp [Value.ownBlock] at hk
  · have : b = k := by simpa [Value.ownBlock] using hk
    subst this
    exact blk_lt hb
theorem own_snoc {w : World} {v : Value} {l : List S60} {x : S60} (h : w.ownsRow 0 60 5 v (l.length + 1) (eL l ++ eC x)) : ∃ b cap, v = .slice (some ⟨b, 0, none⟩) (l.length + 1) cap ∧ HR w b cap (l ++ [x]) := by
  have e : eL l ++ eC x = eL (l ++ [x]) := by rw [eL_append]; simp [eL]
  rw [e] at h
  rcases own_AR h (by simp) with ⟨_, h2⟩ | ⟨b, cap, rfl, h2⟩
  · simp at h2
  · exact ⟨b, cap, by simp, h2⟩
theorem set0_get {c : Array Value} {v u : Value} (h : c[0]? = some v) : (c.setIfInBounds 0 u)[0]? = some u := by
  rw [Array.getElem?_setIfInBounds, if_pos rfl, if_pos]
  exact (Array.getElem?_eq_some_iff.1 h).1
theorem set0_ne {c : Array Value} {k : Nat} {v u : Value} (h : c[k]? = some v) (hk : k ≠ 0) : (c.setIfInBounds 0 u)[k]? = some v := by
  rw [Array.getElem?_setIfInBounds, if_neg (fun e => hk e.symm)]
  exact h
theorem k_blk {w W : World} {b g : Nat} {o : Obj} (h : KB w W b) (hg : w.heap[g]? = some o) (hne : g ≠ b) : W.heap[g]? = some o := h.2.blk hg hne (by simp)
theorem KP_keep {w W W2 : World} {g b : Nat} {v : Value} (h : KP w W (fun k => k = g ∨ some k = v.ownBlock)) (k : KB W W2 b) (hb : v.ownBlock = some b ∨ w.heap.size ≤ b) : KP w W2 (fun k => k = g ∨ some k = v.ownBlock) :=
  KP.of_keep h k (hb.elim (fun e => .inl (.inr e.symm)) .inr)
set_option maxHeartbeats 4000000 in
set_option maxRecDepth 100000 in
theorem put_v (g : Nat) (c : Array Value) (t : Nat) (v : Value) (l : List S60) (x : S60) (w : World) (hg : w.heap[g]? = some (.cells c t (0, 0))) (h0 : c[0]? = some v) (h1 : c[1]? = some (.func (.func 20) #[] #[])) (ha : AR w v l) (hne : ∀ b, v.ownBlock = some b → g ≠ b) (hl : l.length ≤ 1000000) :
    Calls Try.prog 21 #[.pointer (some ⟨g, 0, none⟩), .agg #[.int .i64 x.f0, .int .i64 x.f1, .int .i64 x.f2, .int .u64 x.f3, .int .i64 x.f4]] w fun e w' => ∃ b cap, e = .returned (.tuple #[]) ∧ w'.heap[g]? = some (.cells (c.setIfInBounds 0 (.slice (some ⟨b, 0, none⟩) (l.length + 1) cap)) t (0, 0)) ∧ HR w' b cap (putL l x) ∧ g ≠ b ∧ (v.ownBlock = some b ∨ w.heap.size ≤ b) ∧ KP w w' (fun k => k = g ∨ some k = v.ownBlock) := by
  have hu60 := Try.underlying60
  have hvb : ∀ k, v.ownBlock = some k → k < w.heap.size := AR_lt ha
  have hng : some g ≠ v.ownBlock := fun e => hne g e.symm rfl
  have hgl := blk_lt hg
  have HG := Aside0.mk (blk_alloc hg (.cells #[.int .i64 x.f0, .int .i64 x.f1, .int .i64 x.f2, .int .u64 x.f3, .int .i64 x.f4] 60 (0, 0)))
  have BX := Aside0.mk (blk_new w (.cells #[.int .i64 x.f0, .int .i64 x.f1, .int .i64 x.f2, .int .u64 x.f3, .int .i64 x.f4] 60 (0, 0)))
  have HC0 := Aside0.mk h0
  have HC1 := Aside0.mk h1
  have HA := Aside0.mk (AR_below ha (below_alloc (Below.refl _ _) (.cells #[.int .i64 x.f0, .int .i64 x.f1, .int .i64 x.f2, .int .u64 x.f3, .int .i64 x.f4] 60 (0, 0))))
  have HNE := Aside0.mk hne
  have HL := Aside0.mk hl
  have HK := Aside0.mk (KP.alloc (KP.refl w (fun k => k = g ∨ some k = v.ownBlock)) (.cells #[.int .i64 x.f0, .int .i64 x.f1, .int .i64 x.f2, .int .u64 x.f3, .int .i64 x.f4] 60 (0, 0)))
  have HVB := Aside0.mk hvb
  have HNG := Aside0.mk hng
  have HGX : Aside0 (some w.heap.size ≠ v.ownBlock) := ⟨fun e => absurd (hvb _ e.symm) (Nat.lt_irrefl _)⟩
  have HGL := Aside0.mk hgl
  clear hg h0 h1 ha hne hl hvb hng hgl
  go_enter Try.func21, Try.ntmps21
  go_wp2
  generalize w.alloc (.cells #[.int .i64 x.f0, .int .i64 x.f1, .int .i64 x.f2, .int .u64 x.f3, .int .i64 x.f4] 60 (0, 0)) = W1 at *
  refine start_ (n := 11) (S := fun w' => w'.cell? ⟨g, 0, none⟩ = some v ∧ w'.cell? ⟨w.heap.size, 0, none⟩ = some (.int .i64 x.f0) ∧ w'.cell? ⟨w.heap.size, 1, none⟩ = some (.int .i64 x.f1) ∧ w'.cell? ⟨w.heap.size, 2, none⟩ = some (.int .i64 x.f2) ∧ w'.cell? ⟨w.heap.size, 3, none⟩ = some (.int .u64 x.f3) ∧ w'.cell? ⟨w.heap.size, 4, none⟩ = some (.int .i64 x.f4)) (ds := [10]) #[false, false, false, false, false, false, false, false, false, false, false] (by kernel_rfl) rfl rfl ⟨(blk_cell (HG.out) 0).trans HC0.out, (blk_cell (BX.out) 0).trans rfl, (blk_cell (BX.out) 1).trans rfl, (blk_cell (BX.out) 2).trans rfl, (blk_cell (BX.out) 3).trans rfl, (blk_cell (BX.out) 4).trans rfl⟩ (fun hHeld => ?_)
  replace HG := Aside0.mk (blk_drew HG.out)
  replace BX := Aside0.mk (blk_drew BX.out)
  replace HA : Aside0 (AR W1.drew v l) := ⟨AR_move HA.out (fun _ _ => rfl)⟩
  replace HK := Aside0.mk (KP.drew HK.out)
  generalize W1.drew = W2 at HG BX HA HK hHeld ⊢
  refine pure_ (i := 0) (N := (some 5)) (v := ?_) (a' := ?_) #[true, false, false, false, false, false, false, false, false, false, false] rfl rfl (by kernel_rfl) (fun _ _ _ h => h) (Or.inl ⟨by rfl, ?_⟩) ?_ ?_
  rotate_left
  · intro w'
    go_simp
    with_reducible rfl
  rotate_left
  · simp only [Act.put, List.setIfInBounds_toArray, List.set_cons_zero, List.set_cons_succ, i64_w, i32_w]
    rfl
  refine pure_ (i := 1) (N := (some 6)) (v := ?_) (a' := ?_) #[true, true, false, false, false, false, false, false, false, false, false] rfl rfl (by kernel_rfl) (fun _ _ _ h => h) (Or.inl ⟨by rfl, ?_⟩) ?_ ?_
  rotate_left
  · intro w'
    go_simp
    with_reducible rfl
  rotate_left
  · simp only [Act.put, List.setIfInBounds_toArray, List.set_cons_zero, List.set_cons_succ, i64_w, i32_w]
    rfl
  refine pure_ (i := 2) (N := (some 7)) (v := ?_) (a' := ?_) #[true, true, true, false, false, false, false, false, false, false, false] rfl rfl (by kernel_rfl) (fun _ _ _ h => h) (Or.inl ⟨by rfl, ?_⟩) ?_ ?_
  rotate_left
  · intro w'
    go_simp
    with_reducible rfl
  rotate_left
  · simp only [Act.put, List.setIfInBounds_toArray, List.set_cons_zero, List.set_cons_succ, i64_w, i32_w]
    rfl
  refine pure_ (i := 3) (N := (some 8)) (v := ?_) (a' := ?_) #[true, true, true, true, false, false, false, false, false, false, false] rfl rfl (by kernel_rfl) (fun _ _ _ h => h) (Or.inl ⟨by rfl, ?_⟩) ?_ ?_
  rotate_left
  · intro w'
    go_simp
    with_reducible rfl
  rotate_left
  · simp only [Act.put, List.setIfInBounds_toArray, List.set_cons_zero, List.set_cons_succ, i64_w, i32_w]
    rfl
  refine take_ (i := 4) (N := (some 9)) (v := ?_) (a' := ?_) #[true, true, true, true, true, false, false, false, false, false, false] rfl rfl (by kernel_rfl) (fun _ _ _ h => h) (Or.inl ⟨by rfl, ?_⟩) hHeld ?_ ?_
  rotate_left
  · rintro w' ⟨s0, s1, s2, s3, s4, s5⟩
    go_simp
    with_reducible rfl
  rotate_left
  · simp only [Act.put, List.setIfInBounds_toArray, List.set_cons_zero, List.set_cons_succ, i64_w, i32_w]
    rfl
  refine take_ (i := 5) (N := (some 10)) (v := ?_) (a' := ?_) #[true, true, true, true, true, true, false, false, false, false, false] rfl rfl (by kernel_rfl) (fun _ _ _ h => h) (Or.inl ⟨by rfl, ?_⟩) hHeld ?_ ?_
  rotate_left
  · rintro w' ⟨s0, s1, s2, s3, s4, s5⟩
    go_simp
    with_reducible rfl
  rotate_left
  · simp only [Act.put, List.setIfInBounds_toArray, List.set_cons_zero, List.set_cons_succ, i64_w, i32_w]
    rfl
  refine one_ (i := 6) (N := (some 11)) #[true, true, true, true, true, true, true, false, false, false, false] rfl rfl (by kernel_rfl) (by decide) (fun K hK => ?_)
  refine value_ (w1 := ?_) (v := ?_) (by rfl) rfl ?_ ?_
  rotate_left 2
  · go_simp
    constructor
    · rfl
    · rfl
  refine hK.out _ _ ⟨(blk_cell (blk_alloc HG.out _) 0).trans HC0.out, (blk_cell (blk_alloc BX.out _) 0).trans rfl, (blk_cell (blk_alloc BX.out _) 1).trans rfl, (blk_cell (blk_alloc BX.out _) 2).trans rfl, (blk_cell (blk_alloc BX.out _) 3).trans rfl, (blk_cell (blk_alloc BX.out _) 4).trans rfl⟩ (fun hHeld => ?_)
  clear hK K
  refine norm_ (a' := ?_) ?_ ?_
  rotate_left
  · show Act.put _ (some 11) _ = _
    simp only [Act.put, List.setIfInBounds_toArray, List.set_cons_zero, List.set_cons_succ, i64_w, i32_w]
    rfl
  refine one_ (i := 7) (N := (some 12)) #[true, true, true, true, true, true, true, true, false, false, false] rfl rfl (by kernel_rfl) (by decide) (fun K hK => ?_)
  refine step_append_cells (w0 := W2) 0 (by rfl) (.tmp 9) (.tmp 11) 53 60 (.agg #[(.int .i64 0), (.int .i64 0), (.int .i64 0), (.int .u64 0), (.int .i64 0)]) 5 40 rfl Try.underlying53 info60 rfl (by decide) (by decide) v l.length (eL l) (eC x) rfl rfl (eC_length x) (eC_one x) (AR_own HA.out) (Below.refl_ W2) (Nat.zero_le _) (by have := HL.out; omega) ?_
  intro v1 W3 ho hb hgr hat
  obtain ⟨b, cap, rfl, hr⟩ := own_snoc ho
  replace HG := Aside0.mk (blk_grown HG.out hgr HNG.out)
  replace BX := Aside0.mk (blk_grown BX.out hgr HGX.out)
  have HKS := Aside0.mk HK.out.2.1
  replace HK := Aside0.mk (KP.of_grown hgr hb HK.out (fun k hk => .inl (.inr hk.symm)))
  have HR1 := Aside0.mk hr
  have HAT : Aside0 (v.ownBlock = some b ∨ w.heap.size ≤ b) := ⟨by
    rcases hat with e | ⟨b', e, h⟩
    · exact .inl e.symm
    · have e2 : b = b' := by simpa [Value.ownBlock] using e
      subst e2
      exact .inr (Nat.le_trans HKS.out h)⟩
  clear ho hb hgr hat hr HA
  refine hK.out _ _ ⟨(blk_cell (HG.out) 0).trans HC0.out, (blk_cell (BX.out) 0).trans rfl, (blk_cell (BX.out) 1).trans rfl, (blk_cell (BX.out) 2).trans rfl, (blk_cell (BX.out) 3).trans rfl, (blk_cell (BX.out) 4).trans rfl⟩ (fun hHeld => ?_)
  clear hK K
  refine norm_ (a' := ?_) ?_ ?_
  rotate_left
  · show Act.put _ (some 12) _ = _
    simp only [Act.put, List.setIfInBounds_toArray, List.set_cons_zero, List.set_cons_succ, i64_w, i32_w]
    rfl
  refine pure_ (i := 8) (N := (some 13)) (v := ?_) (a' := ?_) #[true, true, true, true, true, true, true, true, true, false, false] rfl rfl (by kernel_rfl) (fun _ _ _ h => h) (Or.inl ⟨by rfl, ?_⟩) ?_ ?_
  rotate_left
  · intro w'
    go_simp
    with_reducible rfl
  rotate_left
  · simp only [Act.put, List.setIfInBounds_toArray, List.set_cons_zero, List.set_cons_succ, i64_w, i32_w]
    rfl
  refine pure_ (i := 9) (N := (some 14)) (v := ?_) (a' := ?_) #[true, true, true, true, true, true, true, true, true, true, false] rfl rfl (by kernel_rfl) (fun _ _ _ h => h) (Or.inl ⟨by rfl, ?_⟩) ?_ ?_
  rotate_left
  · intro w'
    go_simp
    with_reducible rfl
  rotate_left
  · simp only [Act.put, List.setIfInBounds_toArray, List.set_cons_zero, List.set_cons_succ, i64_w, i32_w]
    rfl
  have hcg := (blk_cell HG.out 0).trans HC0.out
  have hfg := blk_frozen HG.out 0
  refine last_ (i := 10) (N := none) #[true, true, true, true, true, true, true, true, true, true, true] rfl rfl (by kernel_rfl) (by decide) (fun K hK => ?_)
  refine skip_ (w1 := ?_) (by rfl) rfl ?_ ?_
  rotate_left
  · go_simp
    rfl
  refine hK.out _ _ ?_
  clear hK K
  have HGB : Aside0 (g ≠ b) := ⟨HAT.out.elim (fun e => HNE.out b e) (fun e => Nat.ne_of_lt (Nat.lt_of_lt_of_le HGL.out e))⟩
  have n_G := Aside0.mk (blk_set HG.out 0 (.slice (some ⟨b, 0, none⟩) (l.length + 1) cap))
  have n_K := Aside0.mk (KP.setCell HK.out (p := ⟨g, 0, none⟩) (.inl (.inl rfl)) (.slice (some ⟨b, 0, none⟩) (l.length + 1) cap))
  have n_R := Aside0.mk (HR_move HR1.out (Below.heap_setCell W3 ⟨g, 0, none⟩ (.slice (some ⟨b, 0, none⟩) (l.length + 1) cap) b HGB.out.symm))
  clear HG HK HR1 hcg hfg hHeld BX HKS
  have HG := n_G
  have HK := n_K
  have HR1 := n_R
  clear n_G n_K n_R
  generalize W3.setCell ⟨g, 0, none⟩ (.slice (some ⟨b, 0, none⟩) (l.length + 1) cap) = W4 at *
  refine done_ (by kernel_rfl) ?_
  have HD0 := Aside0.mk (set0_get (u := (.slice (some ⟨b, 0, none⟩) (l.length + 1) cap)) HC0.out)
  have HD1 := Aside0.mk (set0_ne (u := (.slice (some ⟨b, 0, none⟩) (l.length + 1) cap)) HC1.out (by decide))
  generalize hc' : c.setIfInBounds 0 (.slice (some ⟨b, 0, none⟩) (l.length + 1) cap) = c' at *
  have hcg := (blk_cell HG.out 0).trans HD0.out
  have hw4 : wrap64 (l.length : Int) = (l.length : Int) := by have := HL.out; unfold wrap64; omega
  go_wp2
  go_loopw [4] (fun v4 wr => ∃ (i f : Nat) (lr : List S60), i ≤ f ∧ i < lr.length ∧ v4 = .int .i64 (i : Int) ∧ Aside0 (lr.length = l.length + 1 ∧ upF lr f i = putL l x) ∧ Aside0 (wr.heap[g]? = some (.cells c' t (0, 0))) ∧ Aside0 (HR wr b cap lr) ∧ Aside0 (KP w wr (fun k => k = g ∨ some k = v.ownBlock))) (fun v4 _ => (intOf v4).toNat)
  case atStart => exact ⟨l.length, l.length, l ++ [x], Nat.le_refl _, by simp, by rw [hw4], ⟨by simp, rfl⟩, HG, HR1, HK⟩
  case round =>
    clear HG HR1 HK hcg hw4
    obtain ⟨i, f, lr, hif, hil, rfl, HI, HG, HR1, HK⟩ := hrel
    have hlr := HI.out.1
    have hl1 := HL.out
    by_cases hi : i = 0
    · subst hi
      have e : lr = putL l x := by
        have := HI.out.2
        cases f <;> exact this
      subst e
      go_wp2
      go_end0
      exact ⟨b, cap, rfl, by rw [hc']; exact HG.out, HR1.out, HGB.out, HAT.out, HK.out⟩
    · obtain ⟨f, rfl⟩ : ∃ f', f = f' + 1 := ⟨f - 1, by omega⟩
      have hq : (0 : Int) < (i : Int) := by omega
      obtain ⟨k, hk⟩ : ∃ k, (i - 1) / 2 = k := ⟨_, rfl⟩
      have hki : k < i := by omega
      have hw1 : wrap64 ((i : Int) - 1) = (i : Int) - 1 := by unfold wrap64; omega
      have hqd : Int.tdiv ((i : Int) - 1) 2 = (k : Int) := by rw [Int.tdiv_eq_ediv_of_nonneg (by omega)]; omega
      have hwk : wrap64 (k : Int) = (k : Int) := by unfold wrap64; omega
      cases hqq : bef (lr[i]?.getD default) (lr[k]?.getD default) with
      | false =>
        have HQ := Aside0.mk hqq
        have e : lr = putL l x := by
          have := HI.out.2
          unfold upF at this
          rw [if_neg hi, hk, hqq, if_neg (by decide)] at this
          exact this
        clear hqq
        go_wp2_with (first | ((with_reducible refine gate_callee (f := 26) rfl ?_); refine gate_guard (by rfl) ?_; refine goesL_ (some 29) rfl rfl Try.func26 (by kernel_rfl) rfl #[.pointer (some ⟨g, 0, none⟩), .int .i64 (k : Int), .int .i64 (i : Int)] rfl (by (try simp only [List.map_toArray, List.map_cons, List.map_nil]); first | done | rfl) ?_; (refine (swap_v g b cap (l.length + 1) c' t lr k i (lr[k]?.getD default) (lr[i]?.getD default) false wr HG.out HD0.out HD1.out HI.out.1.symm HR1.out (getD_get (by omega)) (getD_get hil) HQ.out HGB.out).mono ?_); rintro e w9 ⟨rfl, h1, h2⟩; refine ⟨_, rfl, ?_⟩; replace HG := Aside0.mk (k_blk h2 HG.out HGB.out); replace HK := Aside0.mk (KP_keep HK.out h2 HAT.out); replace HR1 := Aside0.mk h1; clear h1 h2))
        go_end0
        exact ⟨b, cap, rfl, by rw [hc']; exact HG.out, e ▸ HR1.out, HGB.out, HAT.out, HK.out⟩
      | true =>
        have HQ := Aside0.mk hqq
        have e : upF (swL lr k i) f k = putL l x := by
          have := HI.out.2
          unfold upF at this
          rw [if_neg hi, hk, hqq, if_pos rfl] at this
          exact this
        clear hqq
        go_wp2_with (first | ((with_reducible refine gate_callee (f := 26) rfl ?_); refine gate_guard (by rfl) ?_; refine goesL_ (some 29) rfl rfl Try.func26 (by kernel_rfl) rfl #[.pointer (some ⟨g, 0, none⟩), .int .i64 (k : Int), .int .i64 (i : Int)] rfl (by (try simp only [List.map_toArray, List.map_cons, List.map_nil]); first | done | rfl) ?_; (refine (swap_v g b cap (l.length + 1) c' t lr k i (lr[k]?.getD default) (lr[i]?.getD default) true wr HG.out HD0.out HD1.out HI.out.1.symm HR1.out (getD_get (by omega)) (getD_get hil) HQ.out HGB.out).mono ?_); rintro e w9 ⟨rfl, h1, h2⟩; refine ⟨_, rfl, ?_⟩; replace HG := Aside0.mk (k_blk h2 HG.out HGB.out); replace HK := Aside0.mk (KP_keep HK.out h2 HAT.out); replace HR1 := Aside0.mk h1; clear h1 h2))
        go_roundw
        case rel => exact ⟨k, f, swL lr k i, by omega, by rw [swL_length]; omega, rfl, ⟨by rw [swL_length]; exact hlr, e⟩, HG, HR1, HK⟩
        case measure => simp [intOf]; omega
end Go.Proofs.Ytocdpfdnnijdkaa.G
