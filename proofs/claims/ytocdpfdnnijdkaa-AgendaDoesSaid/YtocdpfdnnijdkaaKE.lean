import Derived.Laws.ResultCell
import Derived.Laws.CopyOwn
import Derived.Test.YtocdpfdnnijdkaaKB
import Derived.Test.YtocdpfdnnijdkaaGR
namespace Go.Proofs.Ytocdpfdnnijdkaa.G
open Go.RowKit Go.Proofs.YtocdpfdnnijdkaaW.PrintWords Go.Proofs.YtocdpfdnnijdkaaW.PrintLast Go.Proofs.YtocdpfdnnijdkaaW.PrintMore
attribute [local go_sem] max2_int min2_int max_two min_two max_three min_three max_four min_four
attribute [local go_sem] Go.Proofs.YtocdpfdnnijdkaaS.cell_set_map Go.Proofs.YtocdpfdnnijdkaaS.setCell_drewN
set_option linter.unusedVariables false
set_option linter.unusedSimpArgs false
set_option maxHeartbeats 8000000 in
set_option maxRecDepth 100000 in
theorem refAll_v (B gm : Nat) (u : Value) (ml : List S24) (most : Int) (l : List S60) (n : Int) (w : World) (h : MG B w gm u ml most) (hr : Rel l ml n) (hl : ml.length ≤ 1000000) :
    Calls Try.prog 19 #[.pointer (some ⟨gm, 0, none⟩)] w fun e w' => ∃ u', e = .returned u' ∧ Kd.R k24 24 w' w.heap.size (fun _ => True) u' (allL l) ∧ Below w.heap.size w w' := by
  have hu24 := Try.underlying24
  have hu44 := Try.underlying44
  obtain ⟨A, c, rfl, hcc, _⟩ := Kd.R_reads h.2.1
  have hc1 : w.cell? ⟨gm, 1, none⟩ = some (.slice A ml.length c) := (blk_cell h.1 1).trans rfl
  have HM := Aside0.mk h
  have HREL := Aside0.mk hr
  have HBB : Aside0 (B ≤ w.heap.size) := ⟨Nat.le_trans h.2.2 (Nat.le_of_lt (blk_lt h.1))⟩
  have HLN := Aside0.mk hl
  clear h hr hl hcc
  go_enter Try.func19, Try.ntmps19
  go_wp2
  go_loopw [3, 4] (fun v3 v4 wr => ∃ (lr : List S60) (mr dn : List S24), Aside0 (Rel lr mr n ∧ dn ++ allL lr = allL l ∧ dn.length + mr.length = ml.length) ∧ Aside0 (Kd.R k24 24 wr B (fun k => True ∧ some k ≠ v4.ownBlock) v3 mr) ∧ Aside0 (Kd.R k24 24 wr w.heap.size (fun k => True ∧ some k ≠ v3.ownBlock) v4 dn) ∧ Aside0 (Below w.heap.size w wr)) (fun v3 _ _ => (match v3 with | .slice _ k _ => k | _ => 0))
  case atStart => exact ⟨l, ml, [], ⟨HREL.out, rfl, by simp⟩, ⟨Kd.R_apart_nil HM.out.2.1⟩, ⟨Kd.R_nil _ _ _ _ _⟩, ⟨Below.refl _ _⟩⟩
  case round =>
    clear hc1 HM HREL
    obtain ⟨lr, mr, dn, HI, HL, HO, HB⟩ := hrel
    obtain ⟨A3, c3, rfl, hc3, _⟩ := Kd.R_reads HL.out
    have HC3 := Aside0.mk hc3
    clear hc3
    by_cases hp : 0 < mr.length
    · have hq : (0 : Int) < (mr.length : Int) := by omega
      obtain ⟨r, hf, hr⟩ := first_f mr (by have := HI.out.2.2; have := HLN.out; omega)
      obtain ⟨a, rfl, ha⟩ : ∃ a : Nat, r = (a : Int) ∧ isFirst mr a := by
        rcases hr with ⟨e, _⟩ | hr
        · subst e
          simp at hp
        · exact hr
      obtain ⟨y, hy, hye, hrel2⟩ := rel_first HI.out.1 ha
      have hlen2 := rel_len HI.out.1
      have HF := Aside0.mk hf
      have HWO := Aside0.mk (without_f mr a (by have := HI.out.2.2; have := HLN.out; omega))
      have q1 : (a : Int) < (mr.length : Int) := by have := ha.1; omega
      have q2 : a < mr.length := ha.1
      have HA0 : Aside0 (0 ≤ (a : Int)) := ⟨by omega⟩
      have HA1 := Aside0.mk q1
      have HDL : Aside0 (dn.length ≤ 1000000) := ⟨by have := HI.out.2.2; have := HLN.out; omega⟩
      have HN : Aside0 (allL lr = rd_T24 mr (a : Int) :: allL (takeL lr)) := ⟨by
        have e : allL lr = evS y :: allL (takeL lr) := by
          rw [allL_drain, drain_cons hy]
          rfl
        rw [e, hye]
        rfl⟩
      have HR2 := Aside0.mk hrel2
      clear hr hf ha hy hye hrel2 hlen2
      go_wp2_with (first | ((with_reducible refine gate_callee (f := 23) rfl ?_); refine goesL_ (some 14) rfl rfl Try.func23 (by kernel_rfl) rfl #[.slice A3 mr.length c3] rfl (by (try simp only [List.map_toArray, List.map_cons, List.map_nil]); first | done | rfl) ?_; (refine (pacemakerref29_first.calls _ A3 c3 mr (a : Int) _ (Kd.R_reads' HL.out).2.2 HC3.out HF.out).mono ?_); rintro e w1 ⟨rfl, hd⟩; have hb := hd.below; refine ⟨_, rfl, ?_⟩; have n_HL := Aside0.mk (Kd.R_below HL.out hb); have n_HO := Aside0.mk (Kd.R_below HO.out hb); have n_HB := Aside0.mk (below_step HB.out hb); clear HL HO HB; have HL := n_HL; have HO := n_HO; have HB := n_HB; clear n_HL n_HO n_HB; clear hb hd; obtain ⟨ad, e2, hz0, hz1, hz2, hz3⟩ := at_T24 (Kd.R_reads' HL.out).2.2 (a : Int) HA0.out HA1.out; subst e2; simp only [Int.toNat_natCast] at hz0 hz1 hz2 hz3) | ((with_reducible refine gate_builtin (b := .append) (xs := #[.tmp 15, .tmp 20]) rfl ?_); at_builtin; refine Kd.R_append k24 (w0 := w) w.heap.size (by rfl) (.tmp 15) (.tmp 20) 42 24 (.agg #[.int .i64 0, .int .i64 0, .int .i64 0, .int .u64 0]) 32 rfl Try.underlying42 info24 rfl (by decide) (by omega) u4 dn (rd_T24 mr (a : Int)) [.int .i64 (rd_T24 mr (a : Int)).f0, .int .i64 (rd_T24 mr (a : Int)).f1, .int .i64 (rd_T24 mr (a : Int)).f2, .int .u64 (rd_T24 mr (a : Int)).f3] (fun k => True ∧ some k ≠ (Value.slice (some ad) mr.length c3).ownBlock) (fun _ => False) rfl rfl (k24_mkM _ _ _ _) (fun _ h => h.elim) (fun k hk => ⟨trivial, fun e => by have := Kd.R_lt HL.out k e.symm; omega⟩) HO.out HB.out HB.out.size (by have h1 := HDL.out; omega) ?_; intro v5 w5 ho hb hgr hat; have n_L := Aside0.mk (Kd.R_after HL.out hgr hat); clear HL HO HB hz0 hz1 hz2 hz3; have HL := n_L; have HO := Aside0.mk ho; have HB := Aside0.mk hb; clear n_L ho hb hgr hat) | ((with_reducible refine gate_callee (f := 24) rfl ?_); refine goesL_ (some 24) rfl rfl Try.func24 (by kernel_rfl) rfl #[.slice (some ad) mr.length c3, .int .i64 (a : Int)] rfl (by (try simp only [List.map_toArray, List.map_cons, List.map_nil]); first | done | rfl) ?_; (refine (pacemakerref29_without.calls (mr.length + 1) (some ad) c3 mr (a : Int) (mr.eraseIdx a) _ (Kd.R_reads' HL.out).2.2 HC3.out HWO.out).mono ?_); rintro e w6 ⟨u6, rfl, hu, hb⟩; refine ⟨_, rfl, ?_⟩; have n_O := Aside0.mk (Kd.R_mono (Kd.R_elder HO.out hu hb) (fun k hk => (⟨trivial, hk.2⟩ : True ∧ some k ≠ u6.ownBlock))); have n_L := Aside0.mk (Kd.R_lower (Kd.R_newR hu HO.out) (Nat.le_trans HBB.out HB.out.size)); have n_B := Aside0.mk (below_step HB.out hb); have HSL : Aside0 (∃ A6 c6, u6 = .slice A6 (mr.eraseIdx a).length c6) := ⟨Kd.R_slice hu⟩; clear HO HL HB hu hb; have HO := n_O; have HL := n_L; have HB := n_B; clear n_O n_L n_B))
      go_roundw
      case rel => exact ⟨takeL lr, mr.eraseIdx a, dn ++ [rd_T24 mr (a : Int)], ⟨HR2.out, by rw [List.append_assoc]; have h_ := HI.out.2.1; rw [HN.out] at h_; exact h_, by have h_ := HI.out.2.2; rw [List.length_append, List.length_singleton, List.length_eraseIdx_of_lt q2]; omega⟩, HL, HO, HB⟩
      case measure =>
        obtain ⟨A6, c6, rfl⟩ := HSL.out
        show (mr.eraseIdx a).length < mr.length
        rw [List.length_eraseIdx_of_lt q2]
        omega
    · obtain rfl : mr = [] := List.length_eq_zero_iff.1 (by omega)
      obtain rfl := rel_empty HI.out.1
      have hq : ¬ (0 : Int) < ((([] : List S24).length : Nat) : Int) := by decide
      have e : dn = allL l := by have h_ := HI.out.2.1; rw [show allL [] = [] from rfl, List.append_nil] at h_; exact h_
      subst e
      go_wp2
      go_ret
      exact ⟨_, rfl, Kd.R_mono HO.out (fun _ _ => trivial), HB.out⟩
end Go.Proofs.Ytocdpfdnnijdkaa.G
