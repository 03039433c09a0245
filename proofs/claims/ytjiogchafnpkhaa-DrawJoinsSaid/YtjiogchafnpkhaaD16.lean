import Derived.Test.YtjiogchafnpkhaaE8
namespace Go.Proofs.Ytjiogchafnpkhaa.D
open Go.RowKit Go.Proofs.YtjiogchafnpkhaaW.PrintWords Go.Proofs.YtjiogchafnpkhaaW.PrintLast Go.Proofs.YtjiogchafnpkhaaW.PrintMore
attribute [local go_sem] max2_int min2_int max_two min_two max_three min_three max_four min_four
attribute [local go_sem] Go.Proofs.YtjiogchafnpkhaaS.cell_set_map Go.Proofs.YtjiogchafnpkhaaS.setCell_drewN
set_option linter.unusedVariables false
set_option linter.unusedSimpArgs false
theorem mxmn (p : Nat) (h : p ≤ 1000) : mx 0 (mn (p : Int) 1000) = (p : Int) := by
  unfold mx mn
  (repeat' split) <;> omega
theorem stI_add (k ic st : Int) (p : Nat) : ∀ q, stI k ic st (p + q) = stI k ic (stI k ic st p) q
  | 0 => rfl
  | q + 1 => by
    show nextSt k (stI k ic st (p + q)) ic = nextSt k _ ic
    rw [stI_add k ic st p q]
theorem atI_add (k : Int) (l : List Int) (at_ : Int) (p : Nat) : ∀ q, atI k l at_ (p + q) = atI k l (atI k l at_ p) q
  | 0 => rfl
  | q + 1 => by
    show nextAt k l (atI k l at_ (p + q)) = nextAt k l _
    rw [atI_add k l at_ p q]
theorem outI_add (k ic st : Int) (l : List Int) (at_ : Int) (p : Nat) : ∀ q, outI k ic st l at_ (p + q) = outI k ic st l at_ p ++ outI k ic (stI k ic st p) l (atI k l at_ p) q
  | 0 => by simp [outI]
  | q + 1 => by
    rw [show p + (q + 1) = (p + q) + 1 from rfl, outI_succ, outI_succ, outI_add k ic st l at_ p q, stI_add, atI_add, List.append_assoc]
set_option maxHeartbeats 16000000 in
set_option maxRecDepth 100000 in
theorem joins_walk (k st ic at_ : Int) (A : Option Addr) (c : Nat) (l : List Int) (p q : Nat) (w : World) (hr : Kd.C (Kd.int .u64) w A l.length l) (hc : l.length ≤ c) (hbig : ¬ (l.length : Int) > 2000) (hp : p ≤ 400) (hq : q ≤ 400) :
    Calls Try.prog 5 #[.agg #[.int .i64 k, .int .u64 st, .int .u64 ic, .slice A l.length c, .int .i64 at_], .int .i64 (p : Int), .int .i64 (q : Int)] w fun e w' => e = .returned (.bool true) ∧ Below w.heap.size w w' := by
  have hu25 := Try.underlying25
  have hu34 := Try.underlying34
  have HR := Aside0.mk hr
  have HC := Aside0.mk hc
  have HBIG : Aside0 (decide ((l.length : Int) > 2000) = false) := ⟨decide_eq_false (by omega)⟩
  have HLM : Aside0 (l.length < 9223372036854775807) := ⟨by omega⟩
  clear hr hc hbig
  have B4 := Aside0.mk (blk_new w (.cells #[.int .i64 k, .int .u64 st, .int .u64 ic, .slice A l.length c, .int .i64 at_] 25 (0, 0)))
  have HB := Aside0.mk (below_alloc (Below.refl w.heap.size w) (.cells #[.int .i64 k, .int .u64 st, .int .u64 ic, .slice A l.length c, .int .i64 at_] 25 (0, 0)))
  have p1 : decide ((p : Int) < 0) = false := decide_eq_false (by omega)
  have p2 : decide ((q : Int) < 0) = false := decide_eq_false (by omega)
  have p3 : decide (400 < (p : Int)) = false := decide_eq_false (by omega)
  have p4 : decide (400 < (q : Int)) = false := decide_eq_false (by omega)
  have LE1 := Aside0.mk hp
  have LE2 := Aside0.mk hq
  obtain ⟨pq, hpq⟩ : ∃ pq, p + q = pq := ⟨_, rfl⟩
  have hw : IntKind.i64.wrap ((p : Int) + (q : Int)) = (pq : Int) := by rw [← hpq]; exact (IntWalk.i64_in _ ⟨by omega, by omega⟩).trans (by omega)
  have HM := Aside0.mk (mxmn p (by omega))
  have HM2 := Aside0.mk (mxmn q (by omega))
  have HM3 := Aside0.mk (mxmn pq (by omega))
  have HLO := Aside0.mk (outI_length k ic st l at_ p)
  have HLO2 := Aside0.mk (outI_length k ic (stI k ic st p) l (atI k l at_ p) q)
  have HL5 := Aside0.mk (outI_length k ic st l at_ pq)
  have HO3_ := outI_add k ic st l at_ p q
  have HS3_ := stI_add k ic st p q
  have HA3_ := atI_add k l at_ p q
  rw [hpq] at HO3_ HS3_ HA3_
  obtain ⟨o, HO_⟩ : ∃ o, outI k ic st l at_ p = o := ⟨_, rfl⟩
  have HO := Aside0.mk HO_
  clear HO_
  obtain ⟨st9, HS9_⟩ : ∃ st9, stI k ic st p = st9 := ⟨_, rfl⟩
  have HS9 := Aside0.mk HS9_
  clear HS9_
  obtain ⟨at9, HA9_⟩ : ∃ at9, atI k l at_ p = at9 := ⟨_, rfl⟩
  have HA9 := Aside0.mk HA9_
  clear HA9_
  rw [HS9.out, HA9.out] at HLO2 HO3_
  rw [HS9.out] at HS3_
  rw [HA9.out] at HA3_
  obtain ⟨o2, HO2_⟩ : ∃ o2, outI k ic st9 l at9 q = o2 := ⟨_, rfl⟩
  have HO2 := Aside0.mk HO2_
  clear HO2_
  obtain ⟨st8, HS8_⟩ : ∃ st8, stI k ic st9 q = st8 := ⟨_, rfl⟩
  have HS8 := Aside0.mk HS8_
  clear HS8_
  obtain ⟨at8, HA8_⟩ : ∃ at8, atI k l at9 q = at8 := ⟨_, rfl⟩
  have HA8 := Aside0.mk HA8_
  clear HA8_
  rw [HO.out, HO2.out] at HO3_
  rw [HS8.out] at HS3_
  rw [HA8.out] at HA3_
  rw [HO.out] at HLO
  rw [HO2.out] at HLO2
  obtain ⟨oo, HOO_⟩ : ∃ oo, o ++ o2 = oo := ⟨_, rfl⟩
  have HOO := Aside0.mk HOO_
  clear HOO_
  rw [HOO.out] at HO3_
  rw [HO3_] at HL5
  have HO3 := Aside0.mk HO3_
  have HS3 := Aside0.mk HS3_
  have HA3 := Aside0.mk HA3_
  clear HO3_ HS3_ HA3_
  have HLT : Aside0 (oo.length < 9223372036854775807) := ⟨by have := HL5.out; omega⟩
  clear hp hq hpq
  go_enter Try.func5, Try.ntmps5
  go_wp2_with (first | ((with_reducible refine gate_callee (f := 12) rfl ?_); refine gate_guard (by rfl) ?_; refine goesL_ (some 30) rfl rfl Try.func12 (by kernel_rfl) rfl #[.agg #[.int .i64 k, .int .u64 st, .int .u64 ic, .slice A l.length c, .int .i64 at_]] rfl (by (try simp only [List.map_toArray, List.map_cons, List.map_nil]); first | done | rfl) ?_; (refine (big_calls k st ic at_ l A c _ (Kd.C_below HR.out HB.out) HC.out false HBIG.out).mono ?_); rintro e w1 ⟨rfl, hb⟩; refine ⟨_, rfl, ?_⟩; have mB4_ := Aside0.mk (blk_below B4.out hb); clear B4; have B4 := mB4_; clear mB4_; have mH_ := Aside0.mk (below_step HB.out hb); clear HB hb; have HB := mH_; clear mH_; have hy0_0 : w1.cell? ⟨w.heap.size, 0, none⟩ = some (.int .i64 k) := (blk_cell B4.out 0).trans rfl; have hy0_1 : w1.cell? ⟨w.heap.size, 1, none⟩ = some (.int .u64 st) := (blk_cell B4.out 1).trans rfl; have hy0_2 : w1.cell? ⟨w.heap.size, 2, none⟩ = some (.int .u64 ic) := (blk_cell B4.out 2).trans rfl; have hy0_3 : w1.cell? ⟨w.heap.size, 3, none⟩ = some (.slice A l.length c) := (blk_cell B4.out 3).trans rfl; have hy0_4 : w1.cell? ⟨w.heap.size, 4, none⟩ = some (.int .i64 at_) := (blk_cell B4.out 4).trans rfl) | ((with_reducible refine gate_callee (f := 21) rfl ?_); refine goesL_ (some 35) rfl rfl Try.func21 (by kernel_rfl) rfl #[.agg #[.int .i64 k, .int .u64 st, .int .u64 ic, .slice A l.length c, .int .i64 at_], .int .i64 (p : Int)] rfl (by (try simp only [List.map_toArray, List.map_cons, List.map_nil]); first | done | rfl) ?_; (refine (draw_Many_v k st ic at_ A c l (p : Int) _ (Kd.C_below HR.out HB.out) p HM.out o st9 at9 HO.out HS9.out HA9.out).mono ?_); rintro e w2 ⟨A1, c1, rfl, hl1, hr1, hb⟩; have L1 := Aside0.mk hl1; clear hl1; refine ⟨_, rfl, ?_⟩; (try clear hy0_0 hy0_1 hy0_2 hy0_3 hy0_4); have mB4_ := Aside0.mk (blk_alloc (blk_below B4.out hb) (.cells #[.int .i64 k, .int .u64 st9, .int .u64 ic, .slice A l.length c, .int .i64 at9] 25 (0, 0))); clear B4; have B4 := mB4_; clear mB4_; have R1 := Aside0.mk (Kd.C_alloc hr1 (.cells #[.int .i64 k, .int .u64 st9, .int .u64 ic, .slice A l.length c, .int .i64 at9] 25 (0, 0))); clear hr1; have mH_ := Aside0.mk (below_alloc (below_step HB.out hb) (.cells #[.int .i64 k, .int .u64 st9, .int .u64 ic, .slice A l.length c, .int .i64 at9] 25 (0, 0))); clear HB hb; have HB := mH_; clear mH_; have B8 := Aside0.mk (blk_new w2 (.cells #[.int .i64 k, .int .u64 st9, .int .u64 ic, .slice A l.length c, .int .i64 at9] 25 (0, 0))); have hy1_0 : (w2.alloc (.cells #[.int .i64 k, .int .u64 st9, .int .u64 ic, .slice A l.length c, .int .i64 at9] 25 (0, 0))).cell? ⟨w2.heap.size, 0, none⟩ = some (.int .i64 k) := (blk_cell B8.out 0).trans rfl; have hy1_1 : (w2.alloc (.cells #[.int .i64 k, .int .u64 st9, .int .u64 ic, .slice A l.length c, .int .i64 at9] 25 (0, 0))).cell? ⟨w2.heap.size, 1, none⟩ = some (.int .u64 st9) := (blk_cell B8.out 1).trans rfl; have hy1_2 : (w2.alloc (.cells #[.int .i64 k, .int .u64 st9, .int .u64 ic, .slice A l.length c, .int .i64 at9] 25 (0, 0))).cell? ⟨w2.heap.size, 2, none⟩ = some (.int .u64 ic) := (blk_cell B8.out 2).trans rfl; have hy1_3 : (w2.alloc (.cells #[.int .i64 k, .int .u64 st9, .int .u64 ic, .slice A l.length c, .int .i64 at9] 25 (0, 0))).cell? ⟨w2.heap.size, 3, none⟩ = some (.slice A l.length c) := (blk_cell B8.out 3).trans rfl; have hy1_4 : (w2.alloc (.cells #[.int .i64 k, .int .u64 st9, .int .u64 ic, .slice A l.length c, .int .i64 at9] 25 (0, 0))).cell? ⟨w2.heap.size, 4, none⟩ = some (.int .i64 at9) := (blk_cell B8.out 4).trans rfl) | ((with_reducible refine gate_callee (f := 21) rfl ?_); refine goesL_ (some 41) rfl rfl Try.func21 (by kernel_rfl) rfl #[.agg #[.int .i64 k, .int .u64 st9, .int .u64 ic, .slice A l.length c, .int .i64 at9], .int .i64 (q : Int)] rfl (by (try simp only [List.map_toArray, List.map_cons, List.map_nil]); first | done | rfl) ?_; (refine (draw_Many_v k st9 ic at9 A c l (q : Int) _ (Kd.C_below HR.out HB.out) q HM2.out o2 st8 at8 HO2.out HS8.out HA8.out).mono ?_); rintro e w3 ⟨A2, c2, rfl, hl2, hr2, hb⟩; have L2 := Aside0.mk hl2; clear hl2; refine ⟨_, rfl, ?_⟩; (try clear hy1_0 hy1_1 hy1_2 hy1_3 hy1_4); have mB4_ := Aside0.mk (blk_alloc (blk_below B4.out hb) (.cells #[.int .i64 k, .int .u64 st8, .int .u64 ic, .slice A l.length c, .int .i64 at8] 25 (0, 0))); clear B4; have B4 := mB4_; clear mB4_; have mB8_ := Aside0.mk (blk_alloc (blk_below B8.out hb) (.cells #[.int .i64 k, .int .u64 st8, .int .u64 ic, .slice A l.length c, .int .i64 at8] 25 (0, 0))); clear B8; have B8 := mB8_; clear mB8_; have mR1_ := Aside0.mk (Kd.C_alloc (Kd.C_below R1.out hb) (.cells #[.int .i64 k, .int .u64 st8, .int .u64 ic, .slice A l.length c, .int .i64 at8] 25 (0, 0))); clear R1; have R1 := mR1_; clear mR1_; have R2 := Aside0.mk (Kd.C_alloc hr2 (.cells #[.int .i64 k, .int .u64 st8, .int .u64 ic, .slice A l.length c, .int .i64 at8] 25 (0, 0))); clear hr2; have mH_ := Aside0.mk (below_alloc (below_step HB.out hb) (.cells #[.int .i64 k, .int .u64 st8, .int .u64 ic, .slice A l.length c, .int .i64 at8] 25 (0, 0))); clear HB hb; have HB := mH_; clear mH_; have B10 := Aside0.mk (blk_new w3 (.cells #[.int .i64 k, .int .u64 st8, .int .u64 ic, .slice A l.length c, .int .i64 at8] 25 (0, 0))); have hy2_0 : (w3.alloc (.cells #[.int .i64 k, .int .u64 st8, .int .u64 ic, .slice A l.length c, .int .i64 at8] 25 (0, 0))).cell? ⟨w.heap.size, 0, none⟩ = some (.int .i64 k) := (blk_cell B4.out 0).trans rfl; have hy2_1 : (w3.alloc (.cells #[.int .i64 k, .int .u64 st8, .int .u64 ic, .slice A l.length c, .int .i64 at8] 25 (0, 0))).cell? ⟨w.heap.size, 1, none⟩ = some (.int .u64 st) := (blk_cell B4.out 1).trans rfl; have hy2_2 : (w3.alloc (.cells #[.int .i64 k, .int .u64 st8, .int .u64 ic, .slice A l.length c, .int .i64 at8] 25 (0, 0))).cell? ⟨w.heap.size, 2, none⟩ = some (.int .u64 ic) := (blk_cell B4.out 2).trans rfl; have hy2_3 : (w3.alloc (.cells #[.int .i64 k, .int .u64 st8, .int .u64 ic, .slice A l.length c, .int .i64 at8] 25 (0, 0))).cell? ⟨w.heap.size, 3, none⟩ = some (.slice A l.length c) := (blk_cell B4.out 3).trans rfl; have hy2_4 : (w3.alloc (.cells #[.int .i64 k, .int .u64 st8, .int .u64 ic, .slice A l.length c, .int .i64 at8] 25 (0, 0))).cell? ⟨w.heap.size, 4, none⟩ = some (.int .i64 at_) := (blk_cell B4.out 4).trans rfl) | ((with_reducible refine gate_callee (f := 21) rfl ?_); refine goesL_ (some 49) rfl rfl Try.func21 (by kernel_rfl) rfl #[.agg #[.int .i64 k, .int .u64 st, .int .u64 ic, .slice A l.length c, .int .i64 at_], .int .i64 (pq : Int)] rfl (by (try simp only [List.map_toArray, List.map_cons, List.map_nil]); first | done | rfl) ?_; (refine (draw_Many_v k st ic at_ A c l (pq : Int) _ (Kd.C_below HR.out HB.out) pq HM3.out oo st8 at8 HO3.out HS3.out HA3.out).mono ?_); rintro e w4 ⟨A3, c3, rfl, hl3, hr3, hb⟩; have L3 := Aside0.mk hl3; clear hl3; refine ⟨_, rfl, ?_⟩; (try clear hy2_0 hy2_1 hy2_2 hy2_3 hy2_4); have mB4_ := Aside0.mk (blk_alloc (blk_below B4.out hb) (.cells #[.int .i64 k, .int .u64 st8, .int .u64 ic, .slice A l.length c, .int .i64 at8] 25 (0, 0))); clear B4; have B4 := mB4_; clear mB4_; have mB8_ := Aside0.mk (blk_alloc (blk_below B8.out hb) (.cells #[.int .i64 k, .int .u64 st8, .int .u64 ic, .slice A l.length c, .int .i64 at8] 25 (0, 0))); clear B8; have B8 := mB8_; clear mB8_; have mB10_ := Aside0.mk (blk_alloc (blk_below B10.out hb) (.cells #[.int .i64 k, .int .u64 st8, .int .u64 ic, .slice A l.length c, .int .i64 at8] 25 (0, 0))); clear B10; have B10 := mB10_; clear mB10_; have mR1_ := Aside0.mk (Kd.C_alloc (Kd.C_below R1.out hb) (.cells #[.int .i64 k, .int .u64 st8, .int .u64 ic, .slice A l.length c, .int .i64 at8] 25 (0, 0))); clear R1; have R1 := mR1_; clear mR1_; have mR2_ := Aside0.mk (Kd.C_alloc (Kd.C_below R2.out hb) (.cells #[.int .i64 k, .int .u64 st8, .int .u64 ic, .slice A l.length c, .int .i64 at8] 25 (0, 0))); clear R2; have R2 := mR2_; clear mR2_; have R3 := Aside0.mk (Kd.C_alloc hr3 (.cells #[.int .i64 k, .int .u64 st8, .int .u64 ic, .slice A l.length c, .int .i64 at8] 25 (0, 0))); clear hr3; have mH_ := Aside0.mk (below_alloc (below_step HB.out hb) (.cells #[.int .i64 k, .int .u64 st8, .int .u64 ic, .slice A l.length c, .int .i64 at8] 25 (0, 0))); clear HB hb; have HB := mH_; clear mH_; have B12 := Aside0.mk (blk_new w4 (.cells #[.int .i64 k, .int .u64 st8, .int .u64 ic, .slice A l.length c, .int .i64 at8] 25 (0, 0)))) | ((with_reducible refine gate_builtin (b := .append) (xs := #[.tmp 52, .tmp 53]) rfl ?_); at_builtin; refine Kd.R_append_rows (Kd.int .i64) (w0 := (w4.alloc (.cells #[.int .i64 k, .int .u64 st8, .int .u64 ic, .slice A l.length c, .int .i64 at8] 25 (0, 0)))) (w4.alloc (.cells #[.int .i64 k, .int .u64 st8, .int .u64 ic, .slice A l.length c, .int .i64 at8] 25 (0, 0))).heap.size (by rfl) (.tmp 52) (.tmp 53) 34 3 (.int .i64 0) 8 rfl Try.underlying34 info3 rfl (by decide) (by omega) (.slice none 0 0) [] o _ _ _ (fun _ => True) (fun _ => False) rfl rfl (Kd.R_nil _ _ _ _ _) R1.out (fun _ _ h => h) (fun _ h => h.elim) (fun _ _ => trivial) (Below.refl _ _) (below_size (Below.refl _ _)) (by have h1 := HLO.out; have h2 := HLO2.out; have h3 := LE1.out; have h4 := LE2.out; simp; omega) ?_; intro u1 w5 ho hb hgr hat; clear hgr hat; rw [List.nil_append] at ho; have HO1 := Aside0.mk ho; have HB1 := Aside0.mk hb; clear ho hb) | ((with_reducible refine gate_builtin (b := .append) (xs := #[.tmp 55, .tmp 56]) rfl ?_); at_builtin; refine Kd.R_append_rows (Kd.int .i64) (w0 := (w4.alloc (.cells #[.int .i64 k, .int .u64 st8, .int .u64 ic, .slice A l.length c, .int .i64 at8] 25 (0, 0)))) (w4.alloc (.cells #[.int .i64 k, .int .u64 st8, .int .u64 ic, .slice A l.length c, .int .i64 at8] 25 (0, 0))).heap.size (by rfl) (.tmp 55) (.tmp 56) 34 3 (.int .i64 0) 8 rfl Try.underlying34 info3 rfl (by decide) (by omega) u1 o o2 _ _ _ (fun _ => True) (fun _ => False) rfl rfl HO1.out (Kd.C_below R2.out HB1.out) (fun _ _ h => h) (fun _ h => h.elim) (fun _ _ => trivial) HB1.out (below_size HB1.out) (by have h1 := HLO.out; have h2 := HLO2.out; have h3 := LE1.out; have h4 := LE2.out; simp; omega) ?_; intro u2 w6 ho hb hgr hat; clear hgr hat; rw [HOO.out] at ho; obtain ⟨A5, c5, rfl, hl5, hr5⟩ := Kd.R_reads ho; clear ho HO1 HB1 B4 B8 R1 R2; rw [HL5.out] at hl5 hr5 ⊢; have L5 := Aside0.mk hl5; have R5 := Aside0.mk hr5; clear hl5 hr5; have mB10_ := Aside0.mk (blk_below B10.out hb); clear B10; have B10 := mB10_; clear mB10_; have mB12_ := Aside0.mk (blk_below B12.out hb); clear B12; have B12 := mB12_; clear mB12_; have mR3_ := Aside0.mk (Kd.C_below R3.out hb); clear R3; have R3 := mR3_; clear mR3_; have mH_ := Aside0.mk (below_step HB.out hb); clear HB hb; have HB := mH_; clear mH_) | ((with_reducible refine gate_callee (f := 15) rfl ?_); refine goesL_ (some 58) rfl rfl Try.func15 (by kernel_rfl) rfl #[] rfl (by (try simp only [List.map_toArray, List.map_cons, List.map_nil]); first | done | rfl) ?_; (refine (drawn_calls _).mono ?_); rintro e w7 ⟨rfl, hb⟩; refine ⟨_, rfl, ?_⟩; have mB10_ := Aside0.mk (blk_below B10.out hb); clear B10; have B10 := mB10_; clear mB10_; have mB12_ := Aside0.mk (blk_below B12.out hb); clear B12; have B12 := mB12_; clear mB12_; have mR3_ := Aside0.mk (Kd.C_below R3.out hb); clear R3; have R3 := mR3_; clear mR3_; have mR5_ := Aside0.mk (Kd.C_below R5.out hb); clear R5; have R5 := mR5_; clear mR5_; have mH_ := Aside0.mk (below_step HB.out hb); clear HB hb; have HB := mH_; clear mH_) | ((with_reducible refine gate_callee (f := 22) rfl ?_); refine gate_guard (by rfl) ?_; refine goesL_ (some 62) rfl rfl Try.func22 (by kernel_rfl) rfl #[.slice A5 pq c5, .slice A3 pq c3] rfl (by (try simp only [List.map_toArray, List.map_cons, List.map_nil]); first | done | rfl) ?_; (refine (ints_calls oo A5 A3 pq pq c5 c3 _ HL5.out HL5.out R5.out L5.out R3.out L3.out HLT.out).mono ?_); rintro e w8 ⟨rfl, hb⟩; refine ⟨_, rfl, ?_⟩; clear R3; clear R5; have mB10_ := Aside0.mk (blk_below B10.out hb); clear B10; have B10 := mB10_; clear mB10_; have mB12_ := Aside0.mk (blk_below B12.out hb); clear B12; have B12 := mB12_; clear mB12_; have mH_ := Aside0.mk (below_step HB.out hb); clear HB hb; have HB := mH_; clear mH_; have hy3_0 : w8.cell? ⟨w3.heap.size, 0, none⟩ = some (.int .i64 k) := (blk_cell B10.out 0).trans rfl; have hy3_1 : w8.cell? ⟨w3.heap.size, 1, none⟩ = some (.int .u64 st8) := (blk_cell B10.out 1).trans rfl; have hy3_2 : w8.cell? ⟨w3.heap.size, 2, none⟩ = some (.int .u64 ic) := (blk_cell B10.out 2).trans rfl; have hy3_3 : w8.cell? ⟨w3.heap.size, 3, none⟩ = some (.slice A l.length c) := (blk_cell B10.out 3).trans rfl; have hy3_4 : w8.cell? ⟨w3.heap.size, 4, none⟩ = some (.int .i64 at8) := (blk_cell B10.out 4).trans rfl; have hy4_0 : w8.cell? ⟨w4.heap.size, 0, none⟩ = some (.int .i64 k) := (blk_cell B12.out 0).trans rfl; have hy4_1 : w8.cell? ⟨w4.heap.size, 1, none⟩ = some (.int .u64 st8) := (blk_cell B12.out 1).trans rfl; have hy4_2 : w8.cell? ⟨w4.heap.size, 2, none⟩ = some (.int .u64 ic) := (blk_cell B12.out 2).trans rfl; have hy4_3 : w8.cell? ⟨w4.heap.size, 3, none⟩ = some (.slice A l.length c) := (blk_cell B12.out 3).trans rfl; have hy4_4 : w8.cell? ⟨w4.heap.size, 4, none⟩ = some (.int .i64 at8) := (blk_cell B12.out 4).trans rfl) | ((with_reducible refine gate_callee (f := 16) rfl ?_); refine gate_guard (by rfl) ?_; refine goesL_ (some 67) rfl rfl Try.func16 (by kernel_rfl) rfl #[.agg #[.int .i64 k, .int .u64 st8, .int .u64 ic, .slice A l.length c, .int .i64 at8], .agg #[.int .i64 k, .int .u64 st8, .int .u64 ic, .slice A l.length c, .int .i64 at8]] rfl (by (try simp only [List.map_toArray, List.map_cons, List.map_nil]); first | done | rfl) ?_; (refine (same_calls k st8 ic at8 l A A c c _ (Kd.C_below HR.out HB.out) HC.out (Kd.C_below HR.out HB.out) HC.out HLM.out).mono ?_); rintro e w9 ⟨rfl, hb⟩; refine ⟨_, rfl, ?_⟩; clear B10; clear B12; (try clear hy3_0 hy3_1 hy3_2 hy3_3 hy3_4 hy4_0 hy4_1 hy4_2 hy4_3 hy4_4); have mH_ := Aside0.mk (below_step HB.out hb); clear HB hb; have HB := mH_; clear mH_))
  go_ret
  exact ⟨rfl, HB.out⟩
set_option maxHeartbeats 4000000 in
theorem joins_out (k st ic at_ : Int) (A : Option Addr) (c : Nat) (l : List Int) (n m : Int) (w : World) (hr : Kd.C (Kd.int .u64) w A l.length l) (hc : l.length ≤ c) (h : n < 0 ∨ m < 0 ∨ n > 400 ∨ m > 400 ∨ (l.length : Int) > 2000) :
    Calls Try.prog 5 #[.agg #[.int .i64 k, .int .u64 st, .int .u64 ic, .slice A l.length c, .int .i64 at_], .int .i64 n, .int .i64 m] w fun e w' => e = .returned (.bool true) ∧ Below w.heap.size w w' := by
  have hu25 := Try.underlying25
  have HR := Aside0.mk hr
  have HC := Aside0.mk hc
  clear hr hc
  have HB := Aside0.mk (below_alloc (Below.refl w.heap.size w) (.cells #[.int .i64 k, .int .u64 st, .int .u64 ic, .slice A l.length c, .int .i64 at_] 25 (0, 0)))
  by_cases g1 : n < 0
  · have p1 : decide (n < 0) = true := decide_eq_true g1
    clear h
    go_enter Try.func5, Try.ntmps5
    go_wp2
    go_ret
    exact ⟨rfl, HB.out⟩
  · have p1 : decide (n < 0) = false := decide_eq_false g1
    by_cases g2 : m < 0
    · have p2 : decide (m < 0) = true := decide_eq_true g2
      clear h
      go_enter Try.func5, Try.ntmps5
      go_wp2
      go_ret
      exact ⟨rfl, HB.out⟩
    · have p2 : decide (m < 0) = false := decide_eq_false g2
      by_cases g3 : 400 < n
      · have p3 : decide (400 < n) = true := decide_eq_true g3
        clear h
        go_enter Try.func5, Try.ntmps5
        go_wp2
        go_ret
        exact ⟨rfl, HB.out⟩
      · have p3 : decide (400 < n) = false := decide_eq_false g3
        by_cases g4 : 400 < m
        · have p4 : decide (400 < m) = true := decide_eq_true g4
          clear h
          go_enter Try.func5, Try.ntmps5
          go_wp2
          go_ret
          exact ⟨rfl, HB.out⟩
        · have p4 : decide (400 < m) = false := decide_eq_false g4
          have HBIG : Aside0 (decide ((l.length : Int) > 2000) = true) := ⟨decide_eq_true (by omega)⟩
          clear h
          go_enter Try.func5, Try.ntmps5
          go_wp2_with (first | ((with_reducible refine gate_callee (f := 12) rfl ?_); refine gate_guard (by rfl) ?_; refine goesL_ (some 30) rfl rfl Try.func12 (by kernel_rfl) rfl #[.agg #[.int .i64 k, .int .u64 st, .int .u64 ic, .slice A l.length c, .int .i64 at_]] rfl (by (try simp only [List.map_toArray, List.map_cons, List.map_nil]); first | done | rfl) ?_; (refine (big_calls k st ic at_ l A c _ (Kd.C_below HR.out HB.out) HC.out true HBIG.out).mono ?_); rintro e w1 ⟨rfl, hb⟩; refine ⟨_, rfl, ?_⟩; have mH_ := Aside0.mk (below_step HB.out hb); clear HB hb; have HB := mH_; clear mH_; ))
          go_ret
          exact ⟨rfl, HB.out⟩
open Classical in
/-- The law DrawJoins, as the walk needs it. -/
noncomputable def pacemakerlaw06_DrawJoins.f (_q : Nat) (_k _st _ic : Int) (_l : List Int) (_at n m : Int) : Option Bool :=
  some true
theorem pacemakerlaw06_DrawJoins.calls (q : Nat) (k st ic : Int) (A : Option Addr) (c : Nat) (l : List Int) (at_ n m : Int) (r : Bool) (w : World) (hr : Kd.C (Kd.int .u64) w A l.length l) (hc : l.length ≤ c) (HT : Aside0 (r = true)) (_h : pacemakerlaw06_DrawJoins.f q k st ic l at_ n m = some r) :
    Calls Try.prog 5 #[.agg #[.int .i64 k, .int .u64 st, .int .u64 ic, .slice A l.length c, .int .i64 at_], .int .i64 n, .int .i64 m] w fun e w' => e = .returned (.bool r) ∧ Below w.heap.size w w' := by
  obtain rfl := HT.out
  by_cases h : n < 0 ∨ m < 0 ∨ n > 400 ∨ m > 400 ∨ (l.length : Int) > 2000
  · exact joins_out k st ic at_ A c l n m w hr hc h
  · obtain ⟨p, rfl⟩ : ∃ p : Nat, n = (p : Int) := ⟨n.toNat, by omega⟩
    obtain ⟨q, rfl⟩ : ∃ q : Nat, m = (q : Int) := ⟨m.toNat, by omega⟩
    exact joins_walk k st ic at_ A c l p q w hr hc (by omega) (by omega) (by omega)
end Go.Proofs.Ytjiogchafnpkhaa.D
