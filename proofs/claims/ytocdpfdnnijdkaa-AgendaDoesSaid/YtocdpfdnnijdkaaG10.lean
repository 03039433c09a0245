import Derived.Test.YtocdpfdnnijdkaaG9
namespace Go.Proofs.Ytocdpfdnnijdkaa.G
open Go.RowKit Go.Proofs.YtocdpfdnnijdkaaW.PrintWords Go.Proofs.YtocdpfdnnijdkaaW.PrintLast Go.Proofs.YtocdpfdnnijdkaaW.PrintMore
attribute [local go_sem] max2_int min2_int max_two min_two max_three min_three max_four min_four
attribute [local go_sem] Go.Proofs.YtocdpfdnnijdkaaS.cell_set_map Go.Proofs.YtocdpfdnnijdkaaS.setCell_drewN
set_option linter.unusedVariables false
set_option linter.unusedSimpArgs false
attribute [local go_sem] run_field60 eqnil53
def evS (x : S60) : S24 := ⟨x.f0, x.f1, x.f2, x.f3⟩
/-- A heap's entries as they are taken (at most f). -/
def drainF : Nat → List S60 → List S60
  | 0, _ => []
  | f + 1, l => match l[0]? with
    | none => []
    | some x => x :: drainF f (takeL l)
def allL (l : List S60) : List S24 := (drainF l.length l).map evS
theorem drainF_length : ∀ (f : Nat) (l : List S60), l.length ≤ f → (drainF f l).length = l.length
  | 0, l, h => by
    have : l = [] := List.length_eq_zero_iff.1 (by omega)
    rw [this]
    rfl
  | f + 1, l, h => by
    unfold drainF
    cases hl : l[0]? with
    | none =>
      have := List.getElem?_eq_none_iff.1 hl
      rw [List.length_eq_zero_iff.1 (show l.length = 0 by omega)]
    | some x =>
      have hp := (List.getElem?_eq_some_iff.1 hl).1
      show (drainF f (takeL l)).length + 1 = l.length
      rw [drainF_length f _ (by rw [takeL_length]; omega), takeL_length]
      omega
theorem allL_length (l : List S60) : (allL l).length = l.length := by unfold allL; rw [List.length_map, drainF_length _ _ (Nat.le_refl _)]
theorem drain_step {l : List S60} {x : S60} {m : Nat} (hm : l.length = m + 1) (hx : l[0]? = some x) : drainF (m + 1) l = x :: drainF m (takeL l) := by
  conv => lhs; unfold drainF
  rw [hx]
set_option maxHeartbeats 4000000 in
set_option maxRecDepth 100000 in
theorem All_none (g : Nat) (v : Value) (most n : Int) (w : World) (h : AG w g v [] most n) :
    Calls Try.prog 18 #[.pointer (some ⟨g, 0, none⟩)] w fun e w' => e = .returned (.slice none 0 0) ∧ Below w.heap.size w w' := by
  have HA := Aside0.mk h
  go_enter Try.func18, Try.ntmps18
  go_wp2_with (first | ((with_reducible refine gate_callee (f := 10) rfl ?_); refine goesL_ (some 6) rfl rfl Try.func10 (by kernel_rfl) rfl #[.pointer (some ⟨g, 0, none⟩)] rfl (by (try simp only [List.map_toArray, List.map_cons, List.map_nil]); first | done | rfl) ?_; (refine (Len_v g v [] most n _ HA.out).mono ?_); rintro e w1 ⟨rfl, hb⟩; refine ⟨_, rfl, ?_⟩))
  go_ret
  exact ⟨rfl, hb⟩
set_option maxHeartbeats 8000000 in
set_option maxRecDepth 100000 in
theorem All_some (g b cap : Nat) (l : List S60) (most n : Int) (w : World) (h : AG w g (.slice (some ⟨b, 0, none⟩) l.length cap) l most n) (hl0 : 0 < l.length) (hl : l.length ≤ 1000000) :
    Calls Try.prog 18 #[.pointer (some ⟨g, 0, none⟩)] w fun e w' => ∃ u, e = .returned u ∧ Kd.R k24 24 w' w.heap.size (fun _ => True) u (allL l) ∧ Below w.heap.size w w' := by
  have hu24 := Try.underlying24
  have hu60 := Try.underlying60
  have hu55 := Try.underlying55
  have HA := Aside0.mk h
  have HL := Aside0.mk hl
  have HL0 := Aside0.mk hl0
  have p1 : ((l.length : Int) == 0) = false := beq_eq_false_iff_ne.mpr (by omega)
  clear h hl hl0
  go_enter Try.func18, Try.ntmps18
  go_wp2_with (first | ((with_reducible refine gate_callee (f := 10) rfl ?_); refine goesL_ (some 6) rfl rfl Try.func10 (by kernel_rfl) rfl #[.pointer (some ⟨g, 0, none⟩)] rfl (by (try simp only [List.map_toArray, List.map_cons, List.map_nil]); first | done | rfl) ?_; (refine (Len_v g _ l most n _ HA.out).mono ?_); rintro e w1 ⟨rfl, hb⟩; refine ⟨_, rfl, ?_⟩; have n_A := Aside0.mk (AG_below HA.out hb); have HB := Aside0.mk hb; clear HA hb; have HA := n_A; clear n_A; have hcg := (blk_cell HA.out.1 0).trans rfl) | ((with_reducible refine gate_callee (f := 25) rfl ?_); refine goesL_ (some 13) rfl rfl Try.func25 (by kernel_rfl) rfl #[.slice (some ⟨b, 0, none⟩) l.length cap] rfl (by (try simp only [List.map_toArray, List.map_cons, List.map_nil]); first | done | rfl) ?_; (refine (Clone_v b cap l _ (AR_HR HA.out.2.1) HL0.out HL.out).mono ?_); rintro e w2 ⟨b2, cap2, rfl, hr, hge, hb⟩; refine ⟨_, rfl, ?_⟩; have HR2 := Aside0.mk hr; have GB2 : Aside0 (w.heap.size ≤ b2) := ⟨Nat.le_trans HB.out.size hge⟩; have n_B := Aside0.mk (below_step HB.out hb); clear HB HA hcg hr hge hb; have HB := n_B; clear n_B) | ((with_reducible refine gate_dst (N := 3) rfl ?_); refine box_event ?hg (N := 3) ?hd (cs := #[.slice none 0 0, .nilFunc]) (t := 55) ?hr ?_; (case hd => rfl); (case hg => rfl); (case hr => first | (go_simp; done) | (go_simp; rfl)); intro g2 hg2 w3 hbox hb; have GG2 : Aside0 (w.heap.size ≤ g2) := ⟨by rw [hg2]; exact HB.out.size⟩; have NGB : Aside0 (g2 ≠ b2) := ⟨by rw [hg2]; exact Nat.ne_of_gt (HR_lt HR2.out)⟩; have n_B := Aside0.mk (below_step HB.out hb); have n_R := Aside0.mk (HR_below HR2.out hb); have HG2 := Aside0.mk hbox; clear HB HR2 hb hbox hg2; have HB := n_B; have HR2 := n_R; clear n_B n_R) | ((with_reducible refine gate_store (t := 55) (p := 3) rfl ?_); refine store_event (t := 55) (p := 3) (v := .tmp 14) (w1 := (w3).setRow g2 #[.slice (some ⟨b2, 0, none⟩) l.length cap2, .func (.func 20) #[] #[]]) ?hg ?ho ?hn ?hr ?_; (case ho => rfl); (case hg => rfl); (case hn => rfl); (case hr => exact run_store_row 55 _ _ _ _ rfl rfl rfl HG2.out (by kernel_rfl) rfl (by kernel_rfl)); intro w9 hw; have n_HB : Aside0 (Below w.heap.size w w9) := ⟨by rw [hw]; exact below_setRow HB.out GG2.out _⟩; have n_HR2 : Aside0 (HR w9 b2 cap2 l) := ⟨by rw [hw]; exact HR_move HR2.out (setRow_other _ _ _ _ NGB.out.symm)⟩; have n_HG2 : Aside0 (w9.heap[g2]? = some (.cells #[.slice (some ⟨b2, 0, none⟩) l.length cap2, .func (.func 20) #[] #[]] 55 (0, 0))) := ⟨by rw [hw]; exact blk_row _ HG2.out⟩; clear hw HB HR2 HG2; have HB := n_HB; have HR2 := n_HR2; have HG2 := n_HG2; clear n_HB n_HR2 n_HG2))
  go_loopw [4] (fun u4 wr => ∃ (lr : List S60) (dn : List S24), lr.length ≤ l.length ∧ Aside0 (dn ++ allL lr = allL l ∧ dn.length + lr.length = l.length) ∧ Aside0 (Kd.R k24 24 wr w.heap.size (fun k => k ≠ g2 ∧ k ≠ b2) u4 dn) ∧ Aside0 (wr.heap[g2]? = some (.cells #[.slice (some ⟨b2, 0, none⟩) lr.length cap2, .func (.func 20) #[] #[]] 55 (0, 0))) ∧ Aside0 (HR wr b2 cap2 lr) ∧ Aside0 (Below w.heap.size w wr)) (fun _ wr => (match wr.cell? ⟨g2, 0, none⟩ with | some (.slice _ k _) => k | _ => 0))
  case atStart => exact ⟨l, [], Nat.le_refl _, ⟨rfl, by simp⟩, ⟨Kd.R_nil _ _ _ _ _⟩, HG2, HR2, HB⟩
  case round =>
    clear HG2 HR2 HB
    obtain ⟨lr, dn, hll, HI, HO, HG2, HR2, HB⟩ := hrel
    have hcell := (blk_cell HG2.out 0).trans rfl
    by_cases hp : 0 < lr.length
    · have hq : (0 : Int) < (lr.length : Int) := by omega
      obtain ⟨m, hm⟩ : ∃ m, lr.length = m + 1 := ⟨lr.length - 1, by omega⟩
      obtain ⟨x, hx⟩ : ∃ x, lr[0]? = some x := ⟨lr[0]'hp, List.getElem?_eq_getElem _⟩
      obtain ⟨z, hz⟩ : ∃ z, lr[m]? = some z := ⟨lr[m]'(by omega), List.getElem?_eq_getElem _⟩
      rw [hm] at HG2
      have HX := Aside0.mk hx
      have HZ := Aside0.mk hz
      have HM := Aside0.mk hm
      have HML : Aside0 (m ≤ 1000000) := ⟨by have := HL.out; omega⟩
      have HDL : Aside0 (dn.length ≤ 1000000) := ⟨by have := HI.out.2; have := HL.out; omega⟩
      have hall : allL lr = evS x :: allL (takeL lr) := by
        unfold allL
        rw [hm, drain_step hm hx, takeL_length, hm]
        rfl
      have HALL := Aside0.mk hall
      have hlenI : (lr.length : Int) = (m : Int) + 1 := by omega
      clear hx hz hall
      go_wp2_with (first | ((with_reducible refine gate_callee (f := 22) rfl ?_); refine goesL_ (some 20) rfl rfl Try.func22 (by kernel_rfl) rfl #[.pointer (some ⟨g2, 0, none⟩)] rfl (by (try simp only [List.map_toArray, List.map_cons, List.map_nil]); first | done | rfl) ?_; (refine (take_v g2 b2 cap2 m _ 55 lr x z _ HG2.out rfl rfl HR2.out HM.out HX.out HZ.out NGB.out HML.out).mono ?_); rintro e w4 ⟨rfl, hg, hr, hk⟩; refine ⟨_, rfl, ?_⟩; have n_O := Aside0.mk (Kd.R_step HO.out (fun k hk_ hlt => hk.2.2 k hlt (fun e => e.elim hk_.1 hk_.2))); have n_B := Aside0.mk (below_KP HB.out hk HB.out.size (fun i hi => hi.elim (fun e => e ▸ GG2.out) (fun e => e ▸ GB2.out))); have n_G : Aside0 (w4.heap[g2]? = some (.cells #[.slice (some ⟨b2, 0, none⟩) m cap2, .func (.func 20) #[] #[]] 55 (0, 0))) := ⟨hg.trans rfl⟩; have n_R : Aside0 (HR w4 b2 cap2 (takeL lr)) := ⟨takeL_eq HM.out HZ.out ▸ hr⟩; clear HO HB HG2 HR2 hg hr hk; have HO := n_O; have HB := n_B; have HG2 := n_G; have HR2 := n_R; clear n_O n_B n_G n_R) | ((with_reducible refine gate_builtin (b := .append) (xs := #[.tmp 19, .tmp 22]) rfl ?_); at_builtin; refine Kd.R_append k24 (w0 := w) w.heap.size (by rfl) (.tmp 19) (.tmp 22) 42 24 (.agg #[.int .i64 0, .int .i64 0, .int .i64 0, .int .u64 0]) 32 rfl Try.underlying42 info24 rfl (by decide) (by omega) u4 dn (evS x) [.int .i64 x.f0, .int .i64 x.f1, .int .i64 x.f2, .int .u64 x.f3] (fun k => k ≠ g2 ∧ k ≠ b2) (fun _ => False) rfl rfl (k24_mkM _ _ _ (evS x)) (fun _ h => h.elim) (fun k hk => ⟨fun e => by have := blk_lt HG2.out; omega, fun e => by have := HR_lt HR2.out; omega⟩) HO.out HB.out HB.out.size (by have h1 := HDL.out; omega) ?_; intro v5 w5 ho hb hgr hat; have ng : some g2 ≠ u4.ownBlock := (fun e => (HO.out.1 g2 e.symm).1 rfl); have nb : some b2 ≠ u4.ownBlock := (fun e => (HO.out.1 b2 e.symm).2 rfl); have n_G := Aside0.mk (blk_grown HG2.out hgr ng); have n_R := Aside0.mk (HR_move HR2.out (hgr.block b2 (HR_lt HR2.out) nb)); have n_O := Aside0.mk ho; have n_B := Aside0.mk hb; clear HO HB HG2 HR2 ho hb hgr hat ng nb; have HO := n_O; have HB := n_B; have HG2 := n_G; have HR2 := n_R; clear n_O n_B n_G n_R))
      go_roundw
      case rel => exact ⟨takeL lr, dn ++ [evS x], by rw [takeL_length]; omega, ⟨by have h_ := HI.out.1; rw [HALL.out] at h_; rw [List.append_assoc]; exact h_, by have h_ := HI.out.2; rw [List.length_append, takeL_length, List.length_singleton]; omega⟩, HO, ⟨by have h_ := HG2.out; rw [takeL_length, HM.out]; exact h_⟩, HR2, HB⟩
      case measure => 
        rw [hcell]
        have h_ := (blk_cell HG2.out 0).trans rfl
        rw [h_]
        show m < lr.length
        omega
    · have h0 : lr = [] := List.length_eq_zero_iff.1 (by omega)
      subst h0
      have hq : ¬ (0 : Int) < ((([] : List S60).length : Nat) : Int) := by decide
      have e : dn = allL l := by have h_ := HI.out.1; rw [show allL [] = [] from rfl, List.append_nil] at h_; exact h_
      subst e
      go_wp2
      go_ret
      exact ⟨_, rfl, Kd.R_mono HO.out (fun _ _ => trivial), HB.out⟩
theorem All_v (g : Nat) (v : Value) (l : List S60) (most n : Int) (w : World) (h : AG w g v l most n) (hl : l.length ≤ 1000000) :
    Calls Try.prog 18 #[.pointer (some ⟨g, 0, none⟩)] w fun e w' => ∃ u, e = .returned u ∧ Kd.R k24 24 w' w.heap.size (fun _ => True) u (allL l) ∧ Below w.heap.size w w' := by
  by_cases h0 : 0 < l.length
  · obtain ⟨b, cap, hv, _⟩ : ∃ b cap, v = .slice (some ⟨b, 0, none⟩) l.length cap ∧ HR w b cap l := by
      rcases h.2.1 with ⟨_, e⟩ | h2
      · rw [e] at h0
        exact absurd h0 (by simp)
      · exact h2
    subst hv
    exact All_some g b cap l most n w h h0 hl
  · obtain rfl : l = [] := List.length_eq_zero_iff.1 (by omega)
    exact (All_none g v most n w h).mono (by
      rintro e w' ⟨h1, h2⟩
      exact ⟨_, h1, Kd.R_nil _ _ _ _ _, h2⟩)
end Go.Proofs.Ytocdpfdnnijdkaa.G
