-- Printed by wip/tools/myprint.py (this session's driver over the kit's printer, with functions proved by hand). Not trusted: Lean checks it.
import Derived.Test.YtlnjehknkkfpcaaPx0
namespace Go.Proofs.Ytlnjehknkkfpcaa.P
open Go.RowKit Go.Proofs.YtlnjehknkkfpcaaW.PrintWords Go.Proofs.YtlnjehknkkfpcaaW.PrintLast Go.Proofs.YtlnjehknkkfpcaaW.PrintMore
attribute [local go_sem] max2_int min2_int max_two min_two max_three min_three max_four min_four   -- for this text's walks alone
attribute [local go_sem] Go.Proofs.YtlnjehknkkfpcaaS.cell_set_map Go.Proofs.YtlnjehknkkfpcaaS.setCell_drewN
set_option linter.unusedVariables false
set_option linter.unusedSimpArgs false

/-! ### script_Decode: function 10 -/
theorem k24_info : (Try.prog.info? 24).map (fun i => (i.zero, i.size, i.bytes)) = some (some (.agg #[(.int .i64 0), (.int .i64 0), (.int .i64 0)]), 3, 24) := by kernel_rfl
/-- How many threes: one for what is left. -/
def threes (n : Nat) : Nat := (n + 2) / 3
/-- The steps of bytes, of so many senders. -/
def decodeL (m : Int) (s : ByteArray) : List S24 := (List.range (threes s.size)).map fun i => ⟨bt s (3 * i : Nat) % 8, bt s (3 * i + 1 : Nat) % m, bt s (3 * i + 2 : Nat)⟩
theorem decodeL_length (m : Int) (s : ByteArray) : (decodeL m s).length = threes s.size := by simp [decodeL]
theorem decodeL_take (m : Int) (s : ByteArray) (i : Nat) (h : i < threes s.size) : (decodeL m s).take (i + 1) = (decodeL m s).take i ++ [⟨bt s (3 * i : Nat) % 8, bt s (3 * i + 1 : Nat) % m, bt s (3 * i + 2 : Nat)⟩] := by
  rw [List.take_succ_eq_append_getElem (by rw [decodeL_length]; exact h)]
  simp [decodeL]
theorem bt_extract (s : ByteArray) (k j : Nat) (hk : k ≤ s.size) : bt (s.extract k s.size) (j : Nat) = bt s (k + j : Nat) := by
  unfold bt
  simp only [Int.toNat_natCast, ByteArray.size_extract]
  by_cases h : k + j < s.size
  · rw [dif_pos (by omega), dif_pos h]
    congr 2
    exact ByteArray.getElem_extract _
  · rw [dif_neg (by omega), dif_neg h]
theorem bt_cells (s : ByteArray) : ((List.take (min s.size 3) (List.map (fun b : UInt8 => Value.int IntKind.u8 (b.toNat : Int)) s.data.toList)) ++ ([Value.int .u8 0, .int .u8 0, .int .u8 0] : List Value).drop (min s.size 3)) = [Value.int .u8 (bt s 0), .int .u8 (bt s 1), .int .u8 (bt s 2)] := by
  have h : ∀ j : Nat, bt s (j : Nat) = (s.data.toList.map fun b : UInt8 => (b.toNat : Int)).getD j 0 := by
    intro j
    have := rd_bytesOf s (j : Int)
    unfold rd bytesOf at this
    rw [← this, Int.toNat_natCast]
  have hs : s.size = s.data.toList.length := (data_length s).symm
  have h0 : bt s 0 = _ := h 0
  have h1 : bt s 1 = _ := h 1
  have h2 : bt s 2 = _ := h 2
  rw [h0, h1, h2, hs]
  match s.data.toList with
  | [] => rfl
  | [a] => rfl
  | [a, b] => rfl
  | a :: b :: c :: r =>
    have : min (a :: b :: c :: r).length 3 = 3 := by simp [List.length_cons]
    rw [this]
    rfl
/-- copy of a string into an array of three bytes that is new, as one step of a region. -/
theorem step_copy3 {ops : Array Oper} {o : Oper} {a : Act} {w : World} {K : Act → World → Prop} {Q : Exit → Act → World → Prop} {E : Prop} (hgd : o.guard = none) (d x : Operand) (dT sT : TypeId)
    (hop : o.op = Op.call { callee := Callee.builtin Builtin.copy, args := #[d, x], argTypes := #[dT, sT] }) (elem : TypeId) (hu : Try.prog.underlying dT = some (.slice elem)) (hs : (Try.prog.info? elem).map (·.size) = some 1)
    (g t c : Nat) (hd : a.eval d = .slice (some ⟨g, 0, none⟩) 3 c) (s : ByteArray) (hx : a.eval x = .string s) (hg : w.heap[g]? = some (.cells #[.int .u8 0, .int .u8 0, .int .u8 0] t (0, 0)))
    (h : ∀ w', w'.heap[g]? = some (.cells #[.int .u8 (bt s 0), .int .u8 (bt s 1), .int .u8 (bt s 2)] t (0, 0)) → KeepBut w w' g none → (∀ B w0, B ≤ g → Below B w0 w → Below B w0 w') → K (a.put o.dst (goInt ((min s.size 3 : Nat) : Int))) w') :
    if Region.wanted o (yielded ops a.tmps) = true then Oper.wp Try.prog o a w K Q else E := by
  have hw : Region.wanted o (yielded ops a.tmps) = true := by simp [Region.wanted, hgd]
  rw [if_pos hw]
  have hl : (List.take (min s.size 3) (List.map (fun b : UInt8 => Value.int IntKind.u8 (b.toNat : Int)) s.data.toList)).length = min s.size 3 := by
    rw [List.length_take, List.length_map, data_length]; omega
  have hst := run_storeCells_at (P := Try.prog) g 0 t (List.take (min s.size 3) (List.map (fun b : UInt8 => Value.int IntKind.u8 (b.toNat : Int)) s.data.toList)) 0 #[.int .u8 0, .int .u8 0, .int .u8 0] w hg (by rw [hl]; simp; omega) (by
    intro v hv
    have hv := List.mem_of_mem_take hv
    obtain ⟨b, _, rfl⟩ := List.mem_map.1 hv
    rfl)
  rw [hl] at hst
  simp only [Nat.zero_add, List.take_zero, List.nil_append] at hst
  rw [bt_cells] at hst
  have hrun : (Builtin.copy_ #[dT, sT] o.type #[.slice (some ⟨g, 0, none⟩) 3 c, .string s]).run Try.prog w = .ok (goInt ((min s.size 3 : Nat) : Int)) (w.setRow g #[.int .u8 (bt s 0), .int .u8 (bt s 1), .int .u8 (bt s 2)]) := by
    have hmin : Nat.min s.size 3 = min s.size 3 := rfl
    cases hq : Try.prog.info? elem with
    | none => simp [hq] at hs
    | some i =>
      have hi : i.size = 1 := by simpa [hq] using hs
      simp only [Builtin.copy_, List.getElem?_toArray, List.getElem?_cons_zero, List.getElem?_cons_succ, Sem.run_bind, run_underlying hu, Result.andThen_ok, Builtin.lenOf, Sem.run_pure, hmin, Builtin.firstCells, sizeOf, typeInfo, hq]
      simp [hi, hmin, hst, Result.andThen, Builtin.firstCells, Builtin.lenOf, sizeOf, typeInfo, hq]
  unfold Oper.wp
  simp only [execOp, hop, resolve, invoke, builtin, List.map_toArray, List.map_cons, List.map_nil, hd, hx, Sem.run_bind, Sem.run_pure, Result.andThen_ok]
  rw [hrun]
  exact h _ (setRow_heap w g _ _ t _ hg) ⟨by simp, fun i _ hi _ => setRow_other w g i _ hi⟩ (fun B w0 hB hb => below_setRow hb hB _)
set_option maxHeartbeats 1000000 in
theorem senders_same (a0 : Int) (w : World) : Calls Try.prog 21 #[.int .i64 a0] w fun e w' => e = .returned (.int .i64 (mx 1 (mn a0 64))) ∧ w = w' := by
  go_enter Try.func21, Try.ntmps21
  go_wp2
  all_goals
    go_ret
    refine ⟨?_, rfl⟩
    show Ending.returned (.int .i64 _) = _
    congr 2
    unfold mx mn
    (repeat' split) <;> omega

def script_Decode.f (a0 : Int) (a1 : ByteArray) : Option (List S24) := if a1.size ≤ 1000000 then some (decodeL (mx 1 (mn a0 64)) a1) else none
set_option maxHeartbeats 4000000 in
set_option maxRecDepth 100000 in
theorem script_Decode.calls (a0 : Int) (a1 : ByteArray) (r : List S24) (w : World) (h : script_Decode.f a0 a1 = some r) :
    Calls Try.prog 10 #[.int .i64 a0, .string a1] w fun e w' => ∃ v0_ : Value, e = .returned (v0_) ∧ Kd.R k24 24 w' w.heap.size (fun _ => True) v0_ r ∧ Below w.heap.size w w' := by
  have hu24 := Try.underlying24
  have hu40 := Try.underlying40
  unfold script_Decode.f at h
  by_cases hsz : a1.size ≤ 1000000
  · rw [if_pos hsz] at h
    have HR := Aside0.mk (Option.some.inj h)
    clear h
    have hsz' : (a1.size : Int) ≤ 1000000 := by omega
    obtain ⟨m, hm⟩ : ∃ m, mx 1 (mn a0 64) = m := ⟨_, rfl⟩
    have HS : Aside0 (∀ W : World, Calls Try.prog 21 #[.int .i64 a0] W fun e w' => e = .returned (.int .i64 m) ∧ W = w') := ⟨fun W => by rw [← hm]; exact senders_same a0 W⟩
    have hm1 : 1 ≤ m := by rw [← hm]; unfold mx; split <;> omega
    have hm2 : m ≤ 64 := by rw [← hm]; unfold mx mn; (repeat' split) <;> omega
    have hm0 : (m == 0) = false := beq_eq_false_iff_ne.mpr (by omega)
    have hm0' : ¬ m = 0 := by omega
    rw [hm] at HR
    clear hm
    go_enter Try.func10, Try.ntmps10
    go_wp2
    go_loopw [5, 13] (fun v5 v13 wr => ∃ i : Nat, i ≤ threes a1.size ∧ v13 = .int .i64 i ∧ Aside0 (Kd.R k24 24 wr w.heap.size (fun _ => True) v5 ((decodeL m a1).take i)) ∧ Aside0 (Below w.heap.size w wr)) (fun _ v13 _ => threes a1.size - (intOf v13).toNat)
    case atStart => exact ⟨0, Nat.zero_le _, rfl, ⟨Kd.R_nil _ _ _ _ _⟩, ⟨Below.refl _ _⟩⟩
    case round =>
      obtain ⟨i, hi, rfl, HO, HB⟩ := hrel
      by_cases hlt : i < threes a1.size
      · have hq : (i : Int) < ((a1.size : Int) + 3 - 1) / 3 := by unfold threes at hlt; omega
        have hi3 : (i : Int) * 3 ≤ (a1.size : Int) := by unfold threes at hlt; omega
        have hi0 : (0 : Int) ≤ (i : Int) * 3 := by omega
        have hw3 : IntKind.i64.wrap ((i : Int) * 3) = (i : Int) * 3 := IntWalk.i64_in _ ⟨by omega, by omega⟩
        have ht3 : ((i : Int) * 3).toNat = i * 3 := by omega
        have LEN : Aside0 (((decodeL m a1).take i).length ≤ 400000) := ⟨by rw [List.length_take, decodeL_length]; unfold threes; omega⟩
        have BX := Aside0.mk (heap_alloc_new wr (.cells #[.int .u8 0, .int .u8 0, .int .u8 0] 40 (0, 0)))
        have HO2 := Aside0.mk (Kd.R_alloc (Kd.R_mono (ok' := fun k_ => k_ ≠ wr.heap.size) (Kd.R_bound HO.out) (fun k_ hk => Nat.ne_of_lt hk.2.2.1)) (.cells #[.int .u8 0, .int .u8 0, .int .u8 0] 40 (0, 0)))
        have G : Aside0 (w.heap.size ≤ wr.heap.size) := ⟨HB.out.size⟩
        replace HB := Aside0.mk (below_alloc HB.out (.cells #[.int .u8 0, .int .u8 0, .int .u8 0] 40 (0, 0)))
        replace HO := HO2
        clear HO2
        go_wp2_with fail
        generalize wr.alloc (.cells #[.int .u8 0, .int .u8 0, .int .u8 0] 40 (0, 0)) = Wx at BX HO HB ⊢
        generalize wr.heap.size = gx at BX HO G ⊢
        refine start_ (n := 6) (S := fun w' => True) (ds := []) #[false, false, false, false, false, false] (by kernel_rfl) rfl rfl trivial (fun hHeld => ?_)
        replace BX := Aside0.mk (blk_drew BX.out)
        replace HO := Aside0.mk (Kd.R_drew HO.out)
        replace HB := Aside0.mk (below_drew1 HB.out)
        generalize Wx.drew = W1 at BX HO HB hHeld ⊢
        refine pure_ (i := 0) (N := (some 16)) (v := ?_) (a' := ?_) #[true, false, false, false, false, false] rfl rfl (by kernel_rfl) (fun _ _ _ h => h) (Or.inl ⟨by rfl, ?_⟩) ?_ ?_
        rotate_left
        · intro w'
          go_simp
          with_reducible rfl
        rotate_left
        · simp only [Act.put, List.setIfInBounds_toArray, List.set_cons_zero, List.set_cons_succ, i64_w, i32_w]
          rfl
        refine pure_ (i := 1) (N := (some 17)) (v := ?_) (a' := ?_) #[true, true, false, false, false, false] rfl rfl (by kernel_rfl) (fun _ _ _ h => h) (Or.inl ⟨by rfl, ?_⟩) ?_ ?_
        rotate_left
        · intro w'
          go_simp
          with_reducible rfl
        rotate_left
        · simp only [Act.put, List.setIfInBounds_toArray, List.set_cons_zero, List.set_cons_succ, i64_w, i32_w]
          rfl
        refine pure_ (i := 2) (N := (some 18)) (v := ?_) (a' := ?_) #[true, true, true, false, false, false] rfl rfl (by kernel_rfl) (fun _ _ _ h => h) (Or.inl ⟨by rfl, ?_⟩) ?_ ?_
        rotate_left
        · intro w'
          go_simp
          with_reducible rfl
        rotate_left
        · simp only [Act.put, List.setIfInBounds_toArray, List.set_cons_zero, List.set_cons_succ, i64_w, i32_w]
          rfl
        refine pure_ (i := 3) (N := (some 19)) (v := ?_) (a' := ?_) #[true, true, true, true, false, false] rfl rfl (by kernel_rfl) (fun _ _ _ h => h) (Or.inl ⟨by rfl, ?_⟩) ?_ ?_
        rotate_left
        · intro w'
          go_simp
          with_reducible rfl
        rotate_left
        · simp only [Act.put, List.setIfInBounds_toArray, List.set_cons_zero, List.set_cons_succ, i64_w, i32_w]
          rfl
        refine pure_ (i := 4) (N := (some 20)) (v := ?_) (a' := ?_) #[true, true, true, true, true, false] rfl rfl (by kernel_rfl) (fun _ _ _ h => h) (Or.inl ⟨by rfl, ?_⟩) ?_ ?_
        rotate_left
        · intro w'
          go_simp
          with_reducible rfl
        rotate_left
        · simp only [Act.put, List.setIfInBounds_toArray, List.set_cons_zero, List.set_cons_succ, i64_w, i32_w]
          rfl
        refine one_ (i := 5) (N := (some 21)) #[true, true, true, true, true, true] rfl rfl (by kernel_rfl) (by decide) (fun K hK => ?_)
        refine step_copy3 (by rfl) (.tmp 16) (.tmp 20) 39 9 rfl 5 Try.underlying39 (by kernel_rfl) gx 40 3 rfl (a1.extract (i * 3) a1.size) rfl BX.out (fun W2 BX2 HK2 HB2 => ?_)
        replace BX := Aside0.mk BX2
        replace HO := Aside0.mk (Kd.R_keep HO.out HK2 (fun k_ hk => hk))
        replace HB := Aside0.mk (HB2 _ _ G.out HB.out)
        clear BX2 HK2 HB2
        refine hK.out _ _ trivial (fun hHeld => ?_)
        clear hK K
        refine norm_ (a' := ?_) ?_ ?_
        rotate_left
        · show Act.put _ (some 21) _ = _
          simp only [Act.put, List.setIfInBounds_toArray, List.set_cons_zero, List.set_cons_succ, i64_w, i32_w]
          rfl
        refine done_ (by kernel_rfl) ?_
        try go_wp2_with fail
        have e0 : bt (a1.extract (i * 3) a1.size) 0 = bt a1 (3 * i : Nat) := by have := bt_extract a1 (i * 3) 0 (by omega); rw [show i * 3 + 0 = 3 * i by omega] at this; exact this
        have e1 : bt (a1.extract (i * 3) a1.size) 1 = bt a1 (3 * i + 1 : Nat) := by have := bt_extract a1 (i * 3) 1 (by omega); rw [show i * 3 + 1 = 3 * i + 1 by omega] at this; exact this
        have e2 : bt (a1.extract (i * 3) a1.size) 2 = bt a1 (3 * i + 2 : Nat) := by have := bt_extract a1 (i * 3) 2 (by omega); rw [show i * 3 + 2 = 3 * i + 2 by omega] at this; exact this
        rw [e0, e1, e2] at BX
        clear e0 e1 e2
        have ET := Aside0.mk (decodeL_take m a1 i hlt)
        have bd0 := bt_range a1 (3 * i : Nat)
        have bd1 := bt_range a1 (3 * i + 1 : Nat)
        have bd2 := bt_range a1 (3 * i + 2 : Nat)
        generalize bt a1 (3 * i : Nat) = y0 at BX ET bd0
        generalize bt a1 (3 * i + 1 : Nat) = y1 at BX ET bd1
        generalize bt a1 (3 * i + 2 : Nat) = y2 at BX ET bd2
        obtain ⟨bd0, bd0'⟩ := bd0
        obtain ⟨bd1, bd1'⟩ := bd1
        obtain ⟨bd2, bd2'⟩ := bd2
        clear hw3 ht3
        have hy0 : IntKind.i64.wrap y0 = y0 := IntWalk.i64_in _ ⟨by omega, by omega⟩
        have hy1 : IntKind.i64.wrap y1 = y1 := IntWalk.i64_in _ ⟨by omega, by omega⟩
        have hy2 : IntKind.i64.wrap y2 = y2 := IntWalk.i64_in _ ⟨by omega, by omega⟩
        have ht0 : y0.tmod 8 = y0 % 8 := Int.tmod_eq_emod_of_nonneg bd0
        have ht1 : y1.tmod m = y1 % m := Int.tmod_eq_emod_of_nonneg bd1
        refine start_ (n := 18) (S := fun w' => w'.cell? ⟨gx, 0, none⟩ = some (.int .u8 y0) ∧ w'.cell? ⟨gx, 1, none⟩ = some (.int .u8 y1) ∧ w'.cell? ⟨gx, 2, none⟩ = some (.int .u8 y2)) (ds := []) #[false, false, false, false, false, false, false, false, false, false, false, false, false, false, false, false, false, false] (by kernel_rfl) rfl rfl ⟨(blk_cell BX.out 0).trans rfl, (blk_cell BX.out 1).trans rfl, (blk_cell BX.out 2).trans rfl⟩ (fun hHeld => ?_)
        replace BX := Aside0.mk (blk_drew BX.out)
        replace HO := Aside0.mk (Kd.R_drew HO.out)
        replace HB := Aside0.mk (below_drew1 HB.out)
        generalize W2.drew = W3 at BX HO HB hHeld ⊢
        refine pure_ (i := 0) (N := (some 22)) (v := ?_) (a' := ?_) #[true, false, false, false, false, false, false, false, false, false, false, false, false, false, false, false, false, false] rfl rfl (by kernel_rfl) (fun _ _ _ h => h) (Or.inl ⟨by rfl, ?_⟩) ?_ ?_
        rotate_left
        · intro w'
          go_simp
          with_reducible rfl
        rotate_left
        · simp only [Act.put, List.setIfInBounds_toArray, List.set_cons_zero, List.set_cons_succ, i64_w, i32_w]
          rfl
        refine pure_ (i := 1) (N := (some 23)) (v := ?_) (a' := ?_) #[true, true, false, false, false, false, false, false, false, false, false, false, false, false, false, false, false, false] rfl rfl (by kernel_rfl) (fun _ _ _ h => h) (Or.inl ⟨by rfl, ?_⟩) ?_ ?_
        rotate_left
        · intro w'
          go_simp
          with_reducible rfl
        rotate_left
        · simp only [Act.put, List.setIfInBounds_toArray, List.set_cons_zero, List.set_cons_succ, i64_w, i32_w]
          rfl
        refine take_ (i := 2) (N := (some 24)) (v := ?_) (a' := ?_) #[true, true, true, false, false, false, false, false, false, false, false, false, false, false, false, false, false, false] rfl rfl (by kernel_rfl) (fun _ _ _ h => h) (Or.inl ⟨by rfl, ?_⟩) hHeld ?_ ?_
        rotate_left
        · rintro w' ⟨s0, s1, s2⟩
          go_simp
          with_reducible rfl
        rotate_left
        · simp only [Act.put, List.setIfInBounds_toArray, List.set_cons_zero, List.set_cons_succ, i64_w, i32_w]
          rfl
        refine pure_ (i := 3) (N := (some 25)) (v := ?_) (a' := ?_) #[true, true, true, true, false, false, false, false, false, false, false, false, false, false, false, false, false, false] rfl rfl (by kernel_rfl) (fun _ _ _ h => h) (Or.inl ⟨by rfl, ?_⟩) ?_ ?_
        rotate_left
        · intro w'
          go_simp
          with_reducible rfl
        rotate_left
        · simp only [Act.put, List.setIfInBounds_toArray, List.set_cons_zero, List.set_cons_succ, i64_w, i32_w]
          rfl
        refine pure_ (i := 4) (N := (some 26)) (v := ?_) (a' := ?_) #[true, true, true, true, true, false, false, false, false, false, false, false, false, false, false, false, false, false] rfl rfl (by kernel_rfl) (fun _ _ _ h => h) (Or.inl ⟨by rfl, ?_⟩) ?_ ?_
        rotate_left
        · intro w'
          go_simp
          with_reducible rfl
        rotate_left
        · simp only [Act.put, List.setIfInBounds_toArray, List.set_cons_zero, List.set_cons_succ, i64_w, i32_w]
          rfl
        refine pure_ (i := 5) (N := (some 27)) (v := ?_) (a' := ?_) #[true, true, true, true, true, true, false, false, false, false, false, false, false, false, false, false, false, false] rfl rfl (by kernel_rfl) (fun _ _ _ h => h) (Or.inl ⟨by rfl, ?_⟩) ?_ ?_
        rotate_left
        · intro w'
          go_simp
          with_reducible rfl
        rotate_left
        · simp only [Act.put, List.setIfInBounds_toArray, List.set_cons_zero, List.set_cons_succ, i64_w, i32_w]
          rfl
        refine take_ (i := 6) (N := (some 28)) (v := ?_) (a' := ?_) #[true, true, true, true, true, true, true, false, false, false, false, false, false, false, false, false, false, false] rfl rfl (by kernel_rfl) (fun _ _ _ h => h) (Or.inl ⟨by rfl, ?_⟩) hHeld ?_ ?_
        rotate_left
        · rintro w' ⟨s0, s1, s2⟩
          go_simp
          with_reducible rfl
        rotate_left
        · simp only [Act.put, List.setIfInBounds_toArray, List.set_cons_zero, List.set_cons_succ, i64_w, i32_w]
          rfl
        refine pure_ (i := 7) (N := (some 29)) (v := ?_) (a' := ?_) #[true, true, true, true, true, true, true, true, false, false, false, false, false, false, false, false, false, false] rfl rfl (by kernel_rfl) (fun _ _ _ h => h) (Or.inl ⟨by rfl, ?_⟩) ?_ ?_
        rotate_left
        · intro w'
          go_simp
          with_reducible rfl
        rotate_left
        · simp only [Act.put, List.setIfInBounds_toArray, List.set_cons_zero, List.set_cons_succ, i64_w, i32_w]
          rfl
        refine pure_ (i := 8) (N := (some 30)) (v := ?_) (a' := ?_) #[true, true, true, true, true, true, true, true, true, false, false, false, false, false, false, false, false, false] rfl rfl (by kernel_rfl) (fun _ _ _ h => h) (Or.inl ⟨by rfl, ?_⟩) ?_ ?_
        rotate_left
        · intro w'
          go_simp
          with_reducible rfl
        rotate_left
        · simp only [Act.put, List.setIfInBounds_toArray, List.set_cons_zero, List.set_cons_succ, i64_w, i32_w]
          rfl
        refine pure_ (i := 11) (N := (some 33)) (v := ?_) (a' := ?_) #[true, true, true, true, true, true, true, true, true, false, false, true, false, false, false, false, false, false] rfl rfl (by kernel_rfl) (fun _ _ _ h => h) (Or.inl ⟨by rfl, ?_⟩) ?_ ?_
        rotate_left
        · intro w'
          go_simp
          with_reducible rfl
        rotate_left
        · simp only [Act.put, List.setIfInBounds_toArray, List.set_cons_zero, List.set_cons_succ, i64_w, i32_w]
          rfl
        refine take_ (i := 12) (N := (some 34)) (v := ?_) (a' := ?_) #[true, true, true, true, true, true, true, true, true, false, false, true, true, false, false, false, false, false] rfl rfl (by kernel_rfl) (fun _ _ _ h => h) (Or.inl ⟨by rfl, ?_⟩) hHeld ?_ ?_
        rotate_left
        · rintro w' ⟨s0, s1, s2⟩
          go_simp
          with_reducible rfl
        rotate_left
        · simp only [Act.put, List.setIfInBounds_toArray, List.set_cons_zero, List.set_cons_succ, i64_w, i32_w]
          rfl
        refine pure_ (i := 13) (N := (some 35)) (v := ?_) (a' := ?_) #[true, true, true, true, true, true, true, true, true, false, false, true, true, true, false, false, false, false] rfl rfl (by kernel_rfl) (fun _ _ _ h => h) (Or.inl ⟨by rfl, ?_⟩) ?_ ?_
        rotate_left
        · intro w'
          go_simp
          with_reducible rfl
        rotate_left
        · simp only [Act.put, List.setIfInBounds_toArray, List.set_cons_zero, List.set_cons_succ, i64_w, i32_w]
          rfl
        refine one_ (i := 9) (N := (some 31)) #[true, true, true, true, true, true, true, true, true, true, false, true, true, true, false, false, false, false] rfl rfl (by kernel_rfl) (by decide) (fun K hK => ?_)
        refine goes_ Try.func21 (by kernel_rfl) rfl #[.int .i64 a0] (by rfl) rfl rfl (by (try simp only [List.map_toArray, List.map_cons, List.map_nil]); first | done | rfl) ?_
        refine (HS.out W3).mono ?_
        rintro e w' ⟨rfl, rfl⟩
        refine ⟨_, rfl, ?_⟩
        refine hK.out _ _ hHeld (fun hHeld => ?_)
        clear hK K
        refine norm_ (a' := ?_) ?_ ?_
        rotate_left
        · show Act.put _ (some 31) _ = _
          simp only [Act.put, List.setIfInBounds_toArray, List.set_cons_zero, List.set_cons_succ, i64_w, i32_w]
          rfl
        refine pure_ (i := 10) (N := (some 32)) (v := ?_) (a' := ?_) #[true, true, true, true, true, true, true, true, true, true, true, true, true, true, false, false, false, false] rfl rfl (by kernel_rfl) (fun _ _ _ h => h) (Or.inl ⟨by rfl, ?_⟩) ?_ ?_
        rotate_left
        · intro w'
          go_simp
          with_reducible rfl
        rotate_left
        · simp only [Act.put, List.setIfInBounds_toArray, List.set_cons_zero, List.set_cons_succ, i64_w, i32_w]
          rfl
        refine pure_ (i := 14) (N := (some 36)) (v := ?_) (a' := ?_) #[true, true, true, true, true, true, true, true, true, true, true, true, true, true, true, false, false, false] rfl rfl (by kernel_rfl) (fun _ _ _ h => h) (Or.inl ⟨by rfl, ?_⟩) ?_ ?_
        rotate_left
        · intro w'
          go_simp
          with_reducible rfl
        rotate_left
        · simp only [Act.put, List.setIfInBounds_toArray, List.set_cons_zero, List.set_cons_succ, i64_w, i32_w]
          rfl
        refine one_ (i := 15) (N := (some 37)) #[true, true, true, true, true, true, true, true, true, true, true, true, true, true, true, true, false, false] rfl rfl (by kernel_rfl) (by decide) (fun K hK => ?_)
        refine value_ (w1 := ?_) (v := ?_) (by rfl) rfl ?_ ?_
        rotate_left 2
        · go_simp
          constructor
          · rfl
          · rfl
        refine hK.out _ _ ⟨(blk_cell (blk_alloc BX.out _) 0).trans rfl, (blk_cell (blk_alloc BX.out _) 1).trans rfl, (blk_cell (blk_alloc BX.out _) 2).trans rfl⟩ (fun hHeld => ?_)
        clear hK K
        refine norm_ (a' := ?_) ?_ ?_
        rotate_left
        · show Act.put _ (some 37) _ = _
          simp only [Act.put, List.setIfInBounds_toArray, List.set_cons_zero, List.set_cons_succ, i64_w, i32_w]
          rfl
        refine one_ (i := 16) (N := (some 38)) #[true, true, true, true, true, true, true, true, true, true, true, true, true, true, true, true, true, false] rfl rfl (by kernel_rfl) (by decide) (fun K hK => ?_)
        refine Kd.R_append_step k24 (w0 := w) w.heap.size (by rfl) (.tmp 22) (.tmp 37) 22 24 (.agg #[(.int .i64 0), (.int .i64 0), (.int .i64 0)]) 24 rfl Try.underlying22 k24_info rfl (by decide) (by omega) u5 ((decodeL m a1).take i) (⟨y0 % 8, y1 % m, y2⟩ : S24) [.int .i64 (y0 % 8), .int .i64 (y1 % m), .int .i64 y2] (fun k_ => k_ ≠ gx) (fun _ => False) rfl rfl (k24_mkM _ _ _ (⟨y0 % 8, y1 % m, y2⟩ : S24)) (fun _ hk => hk.elim) (fun k_ hk e => by have := blk_lt BX.out; omega) HO.out HB.out (below_size HB.out) (by have h1 := LEN.out; omega) ?_
        intro v6 w4 ho hb hgr hat
        have ngr : some gx ≠ u5.ownBlock := fun e => HO.out.1 gx e.symm rfl
        replace BX := Aside0.mk (blk_grown BX.out hgr ngr)
        replace HO := Aside0.mk ho
        replace HB := Aside0.mk hb
        clear ho hb
        refine hK.out _ _ ⟨(blk_cell BX.out 0).trans rfl, (blk_cell BX.out 1).trans rfl, (blk_cell BX.out 2).trans rfl⟩ (fun hHeld => ?_)
        clear hK K
        refine norm_ (a' := ?_) ?_ ?_
        rotate_left
        · show Act.put _ (some 38) _ = _
          simp only [Act.put, List.setIfInBounds_toArray, List.set_cons_zero, List.set_cons_succ, i64_w, i32_w]
          rfl
        refine pure_ (i := 17) (N := (some 5)) (v := ?_) (a' := ?_) #[true, true, true, true, true, true, true, true, true, true, true, true, true, true, true, true, true, true] rfl rfl (by kernel_rfl) (fun _ _ _ h => h) (Or.inl ⟨by rfl, ?_⟩) ?_ ?_
        rotate_left
        · intro w'
          go_simp
          with_reducible rfl
        rotate_left
        · simp only [Act.put, List.setIfInBounds_toArray, List.set_cons_zero, List.set_cons_succ, i64_w, i32_w]
          rfl
        refine done_ (by kernel_rfl) ?_
        clear hy0 hy1 hy2 ht0 ht1
        try go_wp2
        go_roundw
        case rel => exact ⟨i + 1, by omega, by go_num, ⟨by rw [ET.out]; exact Kd.R_mono HO.out (fun _ _ => trivial)⟩, HB⟩
        case measure => simp [intOf]; omega
      · have hq : ¬ (i : Int) < ((a1.size : Int) + 3 - 1) / 3 := by unfold threes at *; omega
        have hie : i = threes a1.size := by omega
        have HO2 : Aside0 (Kd.R k24 24 wr w.heap.size (fun _ => True) u5 r) := ⟨by rw [← HR.out]; have := HO.out; rwa [List.take_of_length_le (by rw [decodeL_length]; omega)] at this⟩
        clear hie HO
        go_wp2
        go_ret
        exact ⟨u5, rfl, HO2.out, HB.out⟩
  · rw [if_neg hsz] at h
    exact absurd h (by simp)

end Go.Proofs.Ytlnjehknkkfpcaa.P
