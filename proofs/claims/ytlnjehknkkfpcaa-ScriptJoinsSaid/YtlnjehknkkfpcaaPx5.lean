-- Printed by wip/tools/myprint.py (this session's driver over the kit's printer, with functions proved by hand). Not trusted: Lean checks it.
import Derived.Test.YtlnjehknkkfpcaaPx0
import Derived.Test.YtlnjehknkkfpcaaPx1
import Derived.Test.YtlnjehknkkfpcaaPx2
import Derived.Test.YtlnjehknkkfpcaaPx4
namespace Go.Proofs.Ytlnjehknkkfpcaa.P
open Go.RowKit Go.Proofs.YtlnjehknkkfpcaaW.PrintWords Go.Proofs.YtlnjehknkkfpcaaW.PrintLast Go.Proofs.YtlnjehknkkfpcaaW.PrintMore
attribute [local go_sem] max2_int min2_int max_two min_two max_three min_three max_four min_four   -- for this text's walks alone
attribute [local go_sem] Go.Proofs.YtlnjehknkkfpcaaS.cell_set_map Go.Proofs.YtlnjehknkkfpcaaS.setCell_drewN
set_option linter.unusedVariables false
set_option linter.unusedSimpArgs false

attribute [local go_sem high] eqA24
/-! ### script_Encode: function 7 -/
/-- A step may be, of so many senders. -/
def isB (m : Int) (x : S24) : Bool := decide (0 ≤ x.f0) && decide (x.f0 < 8) && decide (0 ≤ x.f1) && decide (x.f1 < mx 1 (mn m 64)) && decide (0 ≤ x.f2) && decide (x.f2 ≤ 255)
theorem isF (m : Int) (x : S24) : script_Is.f m x.f0 x.f1 x.f2 = some (isB m x) := by
  unfold script_Is.f script_senders.f isB
  simp only [Option.bind_some]
  (repeat' split) <;> simp <;> omega
/-- The bytes of steps that may be. -/
def flat3 (l : List S24) : List Int := l.flatMap fun x => [x.f0, x.f1, x.f2]
theorem flat3_app (a b : List S24) : flat3 (a ++ b) = flat3 a ++ flat3 b := by simp [flat3]
theorem flat3_length (l : List S24) : (flat3 l).length = 3 * l.length := by
  induction l with
  | nil => rfl
  | cons x l ih => simp [flat3] at ih ⊢; omega
def encodeL (l : List S24) : ByteArray × Int := if l.all (isB 64) then (strOfNums (flat3 l), 0) else (⟨#[]⟩, 1)
theorem all_take (f : S24 → Bool) (l : List S24) (i : Nat) (h : i < l.length) : (l.take (i + 1)).all f = ((l.take i).all f && f l[i]) := by
  rw [List.take_succ_eq_append_getElem h, List.all_append]
  simp
theorem reads_blk3 {w : World} {g t : Nat} {y0 y1 y2 : Int} (h : w.heap[g]? = some (.cells #[.int .u8 y0, .int .u8 y1, .int .u8 y2] t (0, 0))) :
    ReadsRow (fun (x : Int) cs => cs = [Value.int .u8 x]) 1 w (some ⟨g, 0, none⟩) 3 [y0, y1, y2] := by
  refine ⟨rfl, by omega, fun _ => ⟨_, rfl, fun j p hp => ⟨[.int .u8 p], rfl, rfl, fun i u hu => ?_⟩⟩⟩
  match i, hu with
  | 0, hu =>
    simp at hu
    subst hu
    match j, hp with
    | 0, hp => simp at hp; subst hp; exact (blk_cell h 0).trans rfl
    | 1, hp => simp at hp; subst hp; exact (blk_cell h 1).trans rfl
    | 2, hp => simp at hp; subst hp; exact (blk_cell h 2).trans rfl

def script_Encode.f (l0 : List (S24)) : Option (ByteArray × Int) := if l0.length ≤ 1000000 then some (encodeL l0) else none
set_option maxHeartbeats 4000000 in
set_option maxRecDepth 100000 in
theorem script_Encode.calls (A0 : Option Addr) (c0 : Nat) (l0 : List (S24)) (r1 : ByteArray) (r2 : Int) (w : World) (hr0 : Kd.C k24 w A0 l0.length l0) (hc0 : l0.length ≤ c0) (h : script_Encode.f l0 = some (r1, r2)) :
    Calls Try.prog 7 #[.slice A0 l0.length c0] w fun e w' => e = .returned (.tuple #[.string r1, .int .i64 r2]) ∧ Below w.heap.size w w' := by
  have hu24 := Try.underlying24
  have hu40 := Try.underlying40
  have hu39 := Try.underlying39
  have HR0 := Aside0.mk hr0
  have HC0 := Aside0.mk hc0
  clear hr0 hc0
  unfold script_Encode.f at h
  by_cases hsz : l0.length ≤ 1000000
  · rw [if_pos hsz] at h
    have HR := Aside0.mk (Option.some.inj h)
    clear h
    go_enter Try.func7, Try.ntmps7
    go_wp2
    go_loopw [4, 10] (fun v4 v10 wr => ∃ i : Nat, i ≤ l0.length ∧ v10 = .int .i64 i ∧ Aside0 ((l0.take i).all (isB 64) = true) ∧ Aside0 (Kd.R (Kd.int .u8) 5 wr w.heap.size (fun _ => True) v4 (flat3 (l0.take i))) ∧ Aside0 (Below w.heap.size w wr)) (fun _ v10 _ => l0.length - (intOf v10).toNat)
    case atStart => exact ⟨0, Nat.zero_le _, rfl, ⟨rfl⟩, ⟨Kd.R_nil _ _ _ _ _⟩, ⟨Below.refl _ _⟩⟩
    case round =>
      obtain ⟨i, hi, rfl, HA, HO, HB⟩ := hrel
      by_cases hlt : i < l0.length
      · have hq : (i : Int) < (l0.length : Int) := by omega
        have hq0 : (0 : Int) ≤ (i : Int) := Int.natCast_nonneg _
        obtain ⟨ad, e, hx0, hx1, hx2⟩ := at_T24 HR0.out (i : Int) hq0 hq
        cases e
        have hrd : rd_T24 l0 (i : Int) = l0[i] := by simp [rd_T24, hlt]
        have hI := isF 64 l0[i]
        have ht1 := all_take (isB 64) l0 i hlt
        have ht2 : flat3 (l0.take (i + 1)) = flat3 (l0.take i) ++ [l0[i].f0, l0[i].f1, l0[i].f2] := by rw [List.take_succ_eq_append_getElem hlt, flat3_app]; rfl
        have hbs : isB 64 l0[i] = true → (0 ≤ l0[i].f0 ∧ l0[i].f0 < 256) ∧ (0 ≤ l0[i].f1 ∧ l0[i].f1 < 256) ∧ (0 ≤ l0[i].f2 ∧ l0[i].f2 < 256) := by
          intro h
          simp only [isB, Bool.and_eq_true, decide_eq_true_eq] at h
          have h3 : mx 1 (mn 64 64) = 64 := rfl
          omega
        have hbad : isB 64 l0[i] = false → l0.all (isB 64) = false := fun h => List.all_eq_false.mpr ⟨l0[i], List.getElem_mem hlt, by rw [h]; decide⟩
        rw [hrd] at hx0 hx1 hx2
        simp only [Int.toNat_natCast] at hx0 hx1 hx2
        clear hrd
        obtain ⟨b, hb⟩ : ∃ b, isB 64 l0[i] = b := ⟨_, rfl⟩
        rw [hb] at hI ht1 hbs hbad
        rw [HA.out] at ht1
        generalize l0[i].f0 = x0 at *
        generalize l0[i].f1 = x1 at *
        generalize l0[i].f2 = x2 at *
        have HI := Aside0.mk hI
        have HT1 := Aside0.mk ht1
        have HT2 := Aside0.mk ht2
        clear hI ht1 ht2 hb
        replace hx0 := (HB.out.cell (World.block_lt_of_cell? w _ hx0)).trans hx0
        replace hx1 := (HB.out.cell (World.block_lt_of_cell? w _ hx1)).trans hx1
        replace hx2 := (HB.out.cell (World.block_lt_of_cell? w _ hx2)).trans hx2
        have BX := Aside0.mk (heap_alloc_new wr (.cells #[.int .i64 x0, .int .i64 x1, .int .i64 x2] 24 (0, 0)))
        have HO2 := Aside0.mk (Kd.R_alloc (Kd.R_mono (ok' := fun k_ => k_ ≠ wr.heap.size) (Kd.R_bound HO.out) (fun k_ hk => Nat.ne_of_lt hk.2.2.1)) (.cells #[.int .i64 x0, .int .i64 x1, .int .i64 x2] 24 (0, 0)))
        have G : Aside0 (w.heap.size ≤ wr.heap.size) := ⟨HB.out.size⟩
        replace HB := Aside0.mk (below_alloc HB.out (.cells #[.int .i64 x0, .int .i64 x1, .int .i64 x2] 24 (0, 0)))
        replace HO := HO2
        clear HO2
        cases b with
        | false =>
          have HE := hbad rfl
          clear hbad hbs
          obtain ⟨rfl, rfl⟩ : ((⟨#[]⟩ : ByteArray) = r1) ∧ (1 : Int) = r2 := by have := HR.out; unfold encodeL at this; rw [HE] at this; simpa using this
          clear HE
          go_wp2_with (first | ((with_reducible refine gate_callee (f := 12) rfl ?_); refine goesL_ (some 15) rfl rfl Try.func12 (by kernel_rfl) rfl #[.int .i64 64, .agg #[.int .i64 x0, .int .i64 x1, .int .i64 x2]] rfl (by (try simp only [List.map_toArray, List.map_cons, List.map_nil]); first | done | rfl) ?_; (with_reducible refine (script_Is.calls 64 x0 x1 x2 false _ HI.out).mono ?_); rintro e w7 ⟨rfl, hb⟩; refine ⟨_, rfl, ?_⟩; have n0_ := Aside0.mk (Kd.R_below HO.out hb); have n1_ := Aside0.mk (below_step HB.out hb); have n2_ := Aside0.mk (blk_below BX.out hb); clear HO HB BX; have HO := n0_; have HB := n1_; have BX := n2_; clear n0_ n1_ n2_; clear hb))
          go_ret2
          exact ⟨rfl, HB.out⟩
        | true =>
          obtain ⟨⟨p0, q0⟩, ⟨p1, q1⟩, ⟨p2, q2⟩⟩ := hbs rfl
          clear hbad
          have hu0 : IntKind.u8.wrap x0 = x0 := by have h8 : IntKind.u8.bits = 8 := rfl; have hs8 : IntKind.u8.signed = false := rfl; unfold IntKind.wrap; simp [h8, hs8]; omega
          have hu1 : IntKind.u8.wrap x1 = x1 := by have h8 : IntKind.u8.bits = 8 := rfl; have hs8 : IntKind.u8.signed = false := rfl; unfold IntKind.wrap; simp [h8, hs8]; omega
          have hu2 : IntKind.u8.wrap x2 = x2 := by have h8 : IntKind.u8.bits = 8 := rfl; have hs8 : IntKind.u8.signed = false := rfl; unfold IntKind.wrap; simp [h8, hs8]; omega
          have hv0 : x0 % 256 = x0 := by omega
          have hv1 : x1 % 256 = x1 := by omega
          have hv2 : x2 % 256 = x2 := by omega
          have LEN : Aside0 ((flat3 (l0.take i)).length ≤ 3000000) := ⟨by rw [flat3_length, List.length_take]; omega⟩
          clear p0 q0 p1 q1 p2 q2
          go_wp2_with (first | ((with_reducible refine gate_callee (f := 12) rfl ?_); refine goesL_ (some 15) rfl rfl Try.func12 (by kernel_rfl) rfl #[.int .i64 64, .agg #[.int .i64 x0, .int .i64 x1, .int .i64 x2]] rfl (by (try simp only [List.map_toArray, List.map_cons, List.map_nil]); first | done | rfl) ?_; (with_reducible refine (script_Is.calls 64 x0 x1 x2 true _ HI.out).mono ?_); rintro e w7 ⟨rfl, hb⟩; refine ⟨_, rfl, ?_⟩; have n0_ := Aside0.mk (Kd.R_below HO.out hb); have n1_ := Aside0.mk (below_step HB.out hb); have n2_ := Aside0.mk (blk_below BX.out hb); clear HO HB BX; have HO := n0_; have HB := n1_; have BX := n2_; clear n0_ n1_ n2_; clear hb; have hc0 : w7.cell? ⟨wr.heap.size, 0, none⟩ = some (.int .i64 x0) := (blk_cell BX.out 0).trans rfl; have hc1 : w7.cell? ⟨wr.heap.size, 1, none⟩ = some (.int .i64 x1) := (blk_cell BX.out 1).trans rfl; have hc2 : w7.cell? ⟨wr.heap.size, 2, none⟩ = some (.int .i64 x2) := (blk_cell BX.out 2).trans rfl; have BY := Aside0.mk (heap_alloc_new w7 (.cells #[.int .u8 x0, .int .u8 x1, .int .u8 x2] 40 (0, 0))); have n0_ := Aside0.mk (Kd.R_alloc (Kd.R_mono (ok' := fun _ => True) HO.out (fun _ _ => trivial)) (.cells #[.int .u8 x0, .int .u8 x1, .int .u8 x2] 40 (0, 0))); have n1_ := Aside0.mk (below_alloc HB.out (.cells #[.int .u8 x0, .int .u8 x1, .int .u8 x2] 40 (0, 0))); clear HO HB BX; have HO := n0_; have HB := n1_; clear n0_ n1_) | ((with_reducible refine gate_builtin (b := .append) (xs := #[.tmp 27, .tmp 28]) rfl ?_); at_builtin; refine Kd.R_append_rows (Kd.int .u8) (w0 := w) w.heap.size (by rfl) (.tmp 27) (.tmp 28) 39 5 (.int .u8 0) 1 rfl Try.underlying39 info5 rfl (by decide) (by omega) u4 (flat3 (l0.take i)) [x0, x1, x2] _ _ _ (fun _ => True) (fun _ => False) rfl rfl HO.out (reads_blk3 BY.out) (fun _ _ h => h) (fun _ h => h.elim) (fun _ _ => trivial) HB.out (below_size HB.out) (by have := LEN.out; omega) ?_; intro v1 w8 ho hb hgr hat; clear HO HB BY hgr hat; have HO := Aside0.mk ho; have HB := Aside0.mk hb; clear ho hb))
          go_roundw
          case rel => exact ⟨i + 1, by omega, by go_num, HT1, ⟨by rw [HT2.out]; exact HO.out⟩, HB⟩
          case measure => simp [intOf]; omega
      · have hq : ¬ (i : Int) < (l0.length : Int) := by omega
        have hie : i = l0.length := by omega
        obtain ⟨rfl, rfl⟩ : (strOfNums (flat3 l0) = r1) ∧ (0 : Int) = r2 := by
          have := HR.out
          have ha := HA.out
          rw [List.take_of_length_le (by omega)] at ha
          unfold encodeL at this; rw [ha] at this; simpa using this
        have HO2 : Aside0 (Kd.R (Kd.int .u8) 5 wr w.heap.size (fun _ => True) u4 (flat3 l0)) := ⟨by have := HO.out; rwa [List.take_of_length_le (by omega)] at this⟩
        clear hie HO HA
        have hcv14 := own_string (P := Try.prog) Try.underlying39 Try.underlying5 Try.underlying9 (Kd.own_of_R HO2.out)
        go_wp2
        go_ret2
        exact ⟨by first | rfl | (simp [errW_none, errW_some] <;> rfl) | (simp [*, errW_none, errW_some] <;> rfl), HB.out⟩
  · rw [if_neg hsz] at h
    exact absurd h (by simp)

/-! ### pacemakerref30_Same: function 9 -/
def pacemakerref30_Same.l0 : Nat → List (S24) → List (S24) → Int → Option (Bool)
  | 0, _, _, _ => none
  | k + 1, x0, x1, x5 => if x5 < (x0.length : Int) then (if 0 ≤ x5 then (if x5 < (x1.length : Int) then (if (!(((rd_T24 x0 x5).f0) == ((rd_T24 x1 x5).f0)) || (!(((rd_T24 x0 x5).f1) == ((rd_T24 x1 x5).f1)) || (!(((rd_T24 x0 x5).f2) == ((rd_T24 x1 x5).f2))))) = true then (some false) else (pacemakerref30_Same.l0 k x0 x1 (wrap64 (x5 + 1)))) else (none)) else (none)) else (some true)
def pacemakerref30_Same.f (k : Nat) (l0 : List (S24)) (l1 : List (S24)) : Option (Bool) := if (l0.length : Int) = (l1.length : Int) then (pacemakerref30_Same.l0 k l0 l1 0) else (some false)
theorem pacemakerref30_Same.mono_l : ∀ k, (∀ y0 y1 y2, LeO (pacemakerref30_Same.l0 k y0 y1 y2) (pacemakerref30_Same.l0 (k + 1) y0 y1 y2))
  | 0 => fun _ _ _ r h => by simp [pacemakerref30_Same.l0] at h
  | k + 1 => by
    have ih0 := pacemakerref30_Same.mono_l k
    · intro y0 y1 y2
      unfold pacemakerref30_Same.l0
      repeat' first
      | (with_reducible exact ih0 _ _ _)
      | (with_reducible exact LeO.refl _)
      | (with_reducible exact LeO.none _)
      | (with_reducible refine LeO.ite ?_ ?_)
      | (with_reducible refine LeO.bind ?_ (fun _ => ?_))
      | exact ih0 _ _ _
      | exact LeO.none _
      | refine LeO.ite ?_ ?_
      | refine LeO.bind ?_ (fun _ => ?_)
theorem pacemakerref30_Same.mono : ∀ a0 a1 k, LeO (pacemakerref30_Same.f k a0 a1) (pacemakerref30_Same.f (k + 1) a0 a1) := by
  intro a0 a1 k
  have ih0 := pacemakerref30_Same.mono_l k
  unfold pacemakerref30_Same.f
  repeat' first
      | (with_reducible exact ih0 _ _ _)
      | (with_reducible exact LeO.refl _)
      | (with_reducible exact LeO.none _)
      | (with_reducible refine LeO.ite ?_ ?_)
      | (with_reducible refine LeO.bind ?_ (fun _ => ?_))
      | exact ih0 _ _ _
      | exact LeO.none _
      | refine LeO.ite ?_ ?_
      | refine LeO.bind ?_ (fun _ => ?_)
set_option maxHeartbeats 8000000 in
set_option maxRecDepth 100000 in
theorem pacemakerref30_Same.calls (k : Nat) (A0 : Option Addr) (c0 : Nat) (l0 : List (S24)) (A1 : Option Addr) (c1 : Nat) (l1 : List (S24)) (r : Bool) (w : World) (hr0 : Kd.C k24 w A0 l0.length l0) (hc0 : l0.length ≤ c0) (hr1 : Kd.C k24 w A1 l1.length l1) (hc1 : l1.length ≤ c1) (h : pacemakerref30_Same.f k l0 l1 = some r) :
    Calls Try.prog 9 #[.slice A0 l0.length c0, .slice A1 l1.length c1] w fun e w' => e = .returned (.bool r) ∧ Drawn0 w w' := by
  have hu24 := Try.underlying24
  have HR0 := Aside0.mk hr0
  have HC0 := Aside0.mk hc0
  clear hr0 hc0
  have HR1 := Aside0.mk hr1
  have HC1 := Aside0.mk hc1
  clear hr1 hc1
  have H : (if (l0.length : Int) = (l1.length : Int) then (pacemakerref30_Same.l0 k l0 l1 0) else (some false)) = some r := h
  clear h
  by_cases c3 : (l0.length : Int) = (l1.length : Int)
  · rw [if_pos c3] at H
    have c3b0 : ((l0.length : Int) == (l1.length : Int)) = true := beq_iff_eq.mpr c3
    have c3b1 : ((l0.length : Int) != (l1.length : Int)) = false := bne_eq_false_iff_eq.mpr c3
    have c3b2 : (l0.length == l1.length) = true := by first | simpa using c3 | (simp at c3 ⊢; omega)
    clear c3
    have H' := Aside0.mk H
    clear H
    go_enter Try.func9, Try.ntmps9
    go_wp2
    repeat (go_quiet (fail); try go_wp2)
    go_loopg [5] k (fun kq v5 w' => ∃ (x5_1 : Int), v5 = .int .i64 x5_1 ∧ Aside0 (pacemakerref30_Same.l0 kq l0 l1 x5_1 = some r) ∧ Aside0 (kq ≤ k) ∧ Drawn0 w w')
    case atStart => exact ⟨(0), (by first | rfl | (simp; done) | (simp [*]; done)), H', ⟨Nat.le_refl _⟩, by repeat (first | exact Drawn0.refl _ | apply Drawn0.step)⟩
    case round =>
      clear H'
      try clear c1
      try clear p2
      try clear c3
      try clear c3b0
      try clear c3b1
      try clear c3b2
      obtain ⟨x5_1, rfl, HA, HK1, ⟨m1, rfl⟩⟩ := hrel
      cases gk with
      | zero => exact absurd HA.out (by simp [pacemakerref30_Same.l0])
      | succ k1 =>
        have H := HA.out
        clear HA
        simp only [pacemakerref30_Same.l0] at H
        by_cases c4 : x5_1 < (l0.length : Int)
        · rw [if_pos c4] at H
          have c4b0 : decide (x5_1 < (l0.length : Int)) = true := decide_eq_true c4
          clear c4
          by_cases c5 : 0 ≤ x5_1
          · rw [if_pos c5] at H
            have c5b0 : decide (0 ≤ x5_1) = true := decide_eq_true c5
            clear c5
            by_cases c6 : x5_1 < (l1.length : Int)
            · rw [if_pos c6] at H
              have c6b0 : decide (x5_1 < (l1.length : Int)) = true := decide_eq_true c6
              clear c6
              by_cases c7 : (!(((rd_T24 l0 x5_1).f0) == ((rd_T24 l1 x5_1).f0)) || (!(((rd_T24 l0 x5_1).f1) == ((rd_T24 l1 x5_1).f1)) || (!(((rd_T24 l0 x5_1).f2) == ((rd_T24 l1 x5_1).f2))))) = true
              · rw [if_pos c7] at H
                have c7b0 : (!(((rd_T24 l0 x5_1).f0) == ((rd_T24 l1 x5_1).f0)) || (!(((rd_T24 l0 x5_1).f1) == ((rd_T24 l1 x5_1).f1)) || (!(((rd_T24 l0 x5_1).f2) == ((rd_T24 l1 x5_1).f2))))) = true := c7
                clear c7
                obtain rfl := Option.some.inj H
                have p103 : 0 ≤ (x5_1 : Int) := of_decide_eq_true (by first | (with_reducible assumption) | assumption)
                have q103 : x5_1 < (l0.length : Int) := of_decide_eq_true (by first | (with_reducible assumption) | assumption)
                obtain ⟨ad103, e103, hx103_0, hx103_1, hx103_2⟩ := at_T24 HR0.out x5_1 p103 q103
                cases e103
                replace p103 := eq_true p103
                replace q103 := eq_true q103
                have p104 : 0 ≤ (x5_1 : Int) := of_decide_eq_true (by first | (with_reducible assumption) | assumption)
                have q104 : x5_1 < (l1.length : Int) := of_decide_eq_true (by first | (with_reducible assumption) | assumption)
                obtain ⟨ad104, e104, hx104_0, hx104_1, hx104_2⟩ := at_T24 HR1.out x5_1 p104 q104
                cases e104
                replace p104 := eq_true p104
                replace q104 := eq_true q104
                go_wp2
                repeat (go_quiet (fail); try go_wp2)
                go_ret
                exact ⟨by first | rfl | (simp; done) | (simp [*]; done), by repeat (first | exact Drawn0.refl _ | apply Drawn0.step)⟩
              · rw [if_neg c7] at H
                have c7b0 : (!(((rd_T24 l0 x5_1).f0) == ((rd_T24 l1 x5_1).f0)) || (!(((rd_T24 l0 x5_1).f1) == ((rd_T24 l1 x5_1).f1)) || (!(((rd_T24 l0 x5_1).f2) == ((rd_T24 l1 x5_1).f2))))) = false := by simpa using c7
                clear c7
                have H' := Aside0.mk H
                clear H
                have p103 : 0 ≤ (x5_1 : Int) := of_decide_eq_true (by first | (with_reducible assumption) | assumption)
                have q103 : x5_1 < (l0.length : Int) := of_decide_eq_true (by first | (with_reducible assumption) | assumption)
                obtain ⟨ad103, e103, hx103_0, hx103_1, hx103_2⟩ := at_T24 HR0.out x5_1 p103 q103
                cases e103
                replace p103 := eq_true p103
                replace q103 := eq_true q103
                have p104 : 0 ≤ (x5_1 : Int) := of_decide_eq_true (by first | (with_reducible assumption) | assumption)
                have q104 : x5_1 < (l1.length : Int) := of_decide_eq_true (by first | (with_reducible assumption) | assumption)
                obtain ⟨ad104, e104, hx104_0, hx104_1, hx104_2⟩ := at_T24 HR1.out x5_1 p104 q104
                cases e104
                replace p104 := eq_true p104
                replace q104 := eq_true q104
                go_wp2
                repeat (go_quiet (fail); try go_wp2)
                go_roundg k1
                case measure => have := HK1.out; omega
                case rel => exact ⟨(wrap64 (x5_1 + 1)), (by first | rfl | (simp; done) | (simp [*]; done)), H', ⟨by have := HK1.out; omega⟩, by repeat (first | exact Drawn0.refl _ | apply Drawn0.step)⟩
            · rw [if_neg c6] at H
              exact absurd H (by simp)
          · rw [if_neg c5] at H
            exact absurd H (by simp)
        · rw [if_neg c4] at H
          have c4b0 : decide (x5_1 < (l0.length : Int)) = false := decide_eq_false c4
          clear c4
          obtain rfl := Option.some.inj H
          go_wp2
          repeat (go_quiet (fail); try go_wp2)
          go_ret
          exact ⟨by first | rfl | (simp; done) | (simp [*]; done), by repeat (first | exact Drawn0.refl _ | apply Drawn0.step)⟩
  · rw [if_neg c3] at H
    have c3b0 : ((l0.length : Int) == (l1.length : Int)) = false := beq_eq_false_iff_ne.mpr c3
    have c3b1 : ((l0.length : Int) != (l1.length : Int)) = true := bne_iff_ne.mpr c3
    have c3b2 : (l0.length == l1.length) = false := by first | simpa using c3 | (simp at c3 ⊢; omega)
    obtain rfl := Option.some.inj H
    go_enter Try.func9, Try.ntmps9
    go_wp2
    repeat (go_quiet (fail); try go_wp2)
    go_ret
    exact ⟨by first | rfl | (simp; done) | (simp [*]; done), by repeat (first | exact Drawn0.refl _ | apply Drawn0.step)⟩

end Go.Proofs.Ytlnjehknkkfpcaa.P
