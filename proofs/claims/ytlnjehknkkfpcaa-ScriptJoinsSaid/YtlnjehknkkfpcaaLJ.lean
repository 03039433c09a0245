/- The law ScriptJoins, walked by hand. -/
import Derived.Test.YtlnjehknkkfpcaaPx4
import Derived.Test.YtlnjehknkkfpcaaPx5
import Derived.Test.YtlnjehknkkfpcaaPx7
import Derived.Outline
namespace Go.Proofs.Ytlnjehknkkfpcaa.P
open Go.RowKit Go.Proofs.YtlnjehknkkfpcaaW.PrintWords Go.Proofs.YtlnjehknkkfpcaaW.PrintLast Go.Proofs.YtlnjehknkkfpcaaW.PrintMore
attribute [local go_sem] max2_int min2_int max_two min_two max_three min_three max_four min_four
attribute [local go_sem] Go.Proofs.YtlnjehknkkfpcaaS.cell_set_map Go.Proofs.YtlnjehknkkfpcaaS.setCell_drewN
set_option linter.unusedVariables false
set_option linter.unusedSimpArgs false
theorem count8 (A0 : Option Addr) (c0 : Nat) (l0 : List (S24)) (w : World) (hr0 : Kd.C k24 w A0 l0.length l0) (hc0 : l0.length ≤ c0) (hsz : l0.length ≤ 1000000) :
    Calls Try.prog 19 #[.slice A0 l0.length c0] w fun e w' => e = .returned (.agg #[.int .i64 (cnt 0 l0), .int .i64 (cnt 1 l0), .int .i64 (cnt 2 l0), .int .i64 (cnt 3 l0), .int .i64 (cnt 4 l0), .int .i64 (cnt 5 l0), .int .i64 (cnt 6 l0), .int .i64 (cnt 7 l0)]) ∧ Below w.heap.size w w' := script_Count_calls A0 c0 l0 w hr0 hc0 hsz
/-- The sum of the first ones. -/
def psum (z : Nat → Int) : Nat → Int | 0 => 0 | n + 1 => psum z n + z n
theorem cell8 (l : List S24) : ∀ i : Nat, i < 8 → (#[(.int .i64 (cnt 0 l) : Value), (.int .i64 (cnt 1 l) : Value), (.int .i64 (cnt 2 l) : Value), (.int .i64 (cnt 3 l) : Value), (.int .i64 (cnt 4 l) : Value), (.int .i64 (cnt 5 l) : Value), (.int .i64 (cnt 6 l) : Value), (.int .i64 (cnt 7 l) : Value)] : Array Value)[i]? = some (.int .i64 (cnt i l))
  | 0, _ => rfl
  | 1, _ => rfl
  | 2, _ => rfl
  | 3, _ => rfl
  | 4, _ => rfl
  | 5, _ => rfl
  | 6, _ => rfl
  | 7, _ => rfl
  | n + 8, h => absurd h (by omega)
set_option maxHeartbeats 8000000 in
set_option maxRecDepth 100000 in
theorem joins_walk (k : Nat) (a0 : Int) (a1 a2 : ByteArray) (La Lb L : List S24) (hLL : La ++ Lb = L) (w : World) (h1 : a1.size ≤ 2000) (h2 : a2.size ≤ 2000) (h3 : a1.size % 3 = 0)
    (hLa : script_Decode.f a0 a1 = some La) (hLb : script_Decode.f a0 a2 = some Lb) (hLab : script_Decode.f a0 (a1 ++ a2) = some L) (hna : La.length ≤ 1000) (hnb : Lb.length ≤ 1000) (hSm : pacemakerref30_Same.f k L L = some true)
    (hsum : psum (fun n => cnt n L) 8 = (L.length : Int)) :
    Calls Try.prog 6 #[.int .i64 a0, .string a1, .string a2] w fun ee w' => ee = .returned (.bool true) ∧ Below w.heap.size w w' := by
  have hu24 := Try.underlying24
  have hu33 := Try.underlying33
  have g1 : ¬ (a1.size : Int) > 2000 := by omega
  have g2 : ¬ (a2.size : Int) > 2000 := by omega
  have g3 : (a1.size : Int).tmod 3 = 0 := by rw [Int.tmod_eq_emod_of_nonneg (by omega)]; omega
  have g1d : decide ((a1.size : Int) > 2000) = false := decide_eq_false g1
  have g2d : decide ((a2.size : Int) > 2000) = false := decide_eq_false g2
  have LNa : Aside0 (La.length ≤ 1000000) := ⟨by omega⟩
  have LNb : Aside0 (Lb.length ≤ 1000000) := ⟨by omega⟩
  have LNl : Aside0 (L.length ≤ 1000000) := ⟨by rw [← hLL, List.length_append]; omega⟩
  have LM : Aside0 (L.length ≤ 2000) := ⟨by rw [← hLL, List.length_append]; omega⟩
  have HLa := Aside0.mk hLa
  have HLb := Aside0.mk hLb
  have HLab := Aside0.mk hLab
  have HSm := Aside0.mk hSm
  have HSum := Aside0.mk hsum
  have HLL := Aside0.mk hLL
  clear hLL
  clear h1 h2 h3 hLa hLb hLab hna hnb hSm hsum
  have HO : Aside0 (Kd.R k24 24 w w.heap.size (fun _ => True) (.slice none 0 0) []) := ⟨Kd.R_nil _ _ _ _ _⟩
  have HB := Aside0.mk (Below.refl w.heap.size w)
  go_enter Try.func6, Try.ntmps6
  go_wp2_with (first | ((with_reducible refine gate_callee (f := 10) rfl ?_); refine goesL_ (some 31) rfl rfl Try.func10 (by kernel_rfl) rfl #[.int .i64 a0, .string a1] rfl (by (try simp only [List.map_toArray, List.map_cons, List.map_nil]); first | done | rfl) ?_; (refine (script_Decode.calls a0 a1 La _ HLa.out).mono ?_); rintro ee w1 ⟨v1, rfl, hR, hb⟩; obtain ⟨AD, cD, rfl, hlD, hrD⟩ := Kd.R_reads hR; have LD := Aside0.mk hlD; clear hR hlD; have mHO_ := Aside0.mk (Kd.R_below HO.out hb); clear HO; have HO := mHO_; clear mHO_; have n1_ := Aside0.mk (below_step HB.out hb); clear HB; have HB := n1_; clear n1_ hb; have RD := Aside0.mk hrD; clear hrD; refine ⟨_, rfl, ?_⟩) | ((with_reducible refine gate_builtin (b := .append) (xs := #[.tmp 28, .tmp 31]) rfl ?_); at_builtin; refine Kd.R_append_rows k24 (w0 := w) w.heap.size (by rfl) (.tmp 28) (.tmp 31) 22 24 (.agg #[(.int .i64 0), (.int .i64 0), (.int .i64 0)]) 24 rfl Try.underlying22 k24_info rfl (by decide) (by omega) (.slice none 0 0) [] La _ _ _ (fun _ => True) (fun _ => False) rfl rfl HO.out RD.out (fun x cs h => by obtain rfl := k24_open h; exact k24_mkM _ _ _ _) (fun _ h => h.elim) (fun _ _ => trivial) HB.out (below_size HB.out) (by have h1 := LNa.out; have h2 := LNb.out; simp; omega) ?_; intro v2 w2 ho hb hgr hat; clear RD LD HO HB hgr hat; have HB := Aside0.mk hb; clear hb; have HO := Aside0.mk ho; clear ho) | ((with_reducible refine gate_callee (f := 10) rfl ?_); refine goesL_ (some 36) rfl rfl Try.func10 (by kernel_rfl) rfl #[.int .i64 a0, .string a2] rfl (by (try simp only [List.map_toArray, List.map_cons, List.map_nil]); first | done | rfl) ?_; (refine (script_Decode.calls a0 a2 Lb _ HLb.out).mono ?_); rintro ee w3 ⟨v3, rfl, hR, hb⟩; obtain ⟨AD, cD, rfl, hlD, hrD⟩ := Kd.R_reads hR; have LD := Aside0.mk hlD; clear hR hlD; have mHO_ := Aside0.mk (Kd.R_below HO.out hb); clear HO; have HO := mHO_; clear mHO_; have n1_ := Aside0.mk (below_step HB.out hb); clear HB; have HB := n1_; clear n1_ hb; have RD := Aside0.mk hrD; clear hrD; refine ⟨_, rfl, ?_⟩) | ((with_reducible refine gate_builtin (b := .append) (xs := #[.tmp 33, .tmp 36]) rfl ?_); at_builtin; refine Kd.R_append_rows k24 (w0 := w) w.heap.size (by rfl) (.tmp 33) (.tmp 36) 22 24 (.agg #[(.int .i64 0), (.int .i64 0), (.int .i64 0)]) 24 rfl Try.underlying22 k24_info rfl (by decide) (by omega) v2 La Lb _ _ _ (fun _ => True) (fun _ => False) rfl rfl HO.out RD.out (fun x cs h => by obtain rfl := k24_open h; exact k24_mkM _ _ _ _) (fun _ h => h.elim) (fun _ _ => trivial) HB.out (below_size HB.out) (by have h1 := LNa.out; have h2 := LNb.out; simp; omega) ?_; intro v4 w4 ho hb hgr hat; clear RD LD HO HB hgr hat; have HB := Aside0.mk hb; clear hb; rw [HLL.out] at ho; obtain ⟨AL, cL, rfl, hlL, hrL⟩ := Kd.R_reads ho; have LL := Aside0.mk hlL; have RL := Aside0.mk hrL; clear ho hlL hrL) | ((with_reducible refine gate_callee (f := 10) rfl ?_); refine goesL_ (some 40) rfl rfl Try.func10 (by kernel_rfl) rfl #[.int .i64 a0, .string a1] rfl (by (try simp only [List.map_toArray, List.map_cons, List.map_nil]); first | done | rfl) ?_; (refine (script_Decode.calls a0 a1 La _ HLa.out).mono ?_); rintro ee w5 ⟨v5, rfl, hR, hb⟩; obtain ⟨AD, cD, rfl, hlD, hrD⟩ := Kd.R_reads hR; have LD := Aside0.mk hlD; clear hR hlD; have mRL_ := Aside0.mk (Kd.C_below RL.out hb); clear RL; have RL := mRL_; clear mRL_; have n1_ := Aside0.mk (below_step HB.out hb); clear HB; have HB := n1_; clear n1_ hb; have RD := Aside0.mk hrD; clear hrD; refine ⟨_, rfl, ?_⟩) | ((with_reducible refine gate_callee (f := 19) rfl ?_); refine goesL_ (some 41) rfl rfl Try.func19 (by kernel_rfl) rfl #[.slice AD La.length cD] rfl (by (try simp only [List.map_toArray, List.map_cons, List.map_nil]); first | done | rfl) ?_; (refine (count8 AD cD La _ RD.out LD.out LNa.out).mono ?_); rintro ee w6 ⟨rfl, hb⟩; refine ⟨_, rfl, ?_⟩; have mRL_ := Aside0.mk (Kd.C_below RL.out hb); clear RL; have RL := Aside0.mk (Kd.C_alloc mRL_.out (.cells #[.int .i64 (cnt 0 La), .int .i64 (cnt 1 La), .int .i64 (cnt 2 La), .int .i64 (cnt 3 La), .int .i64 (cnt 4 La), .int .i64 (cnt 5 La), .int .i64 (cnt 6 La), .int .i64 (cnt 7 La)] 33 (0, 0))); clear mRL_; have B8 := Aside0.mk (blk_new w6 (.cells #[.int .i64 (cnt 0 La), .int .i64 (cnt 1 La), .int .i64 (cnt 2 La), .int .i64 (cnt 3 La), .int .i64 (cnt 4 La), .int .i64 (cnt 5 La), .int .i64 (cnt 6 La), .int .i64 (cnt 7 La)] 33 (0, 0))); have n1_ := Aside0.mk (below_alloc (below_step HB.out hb) (.cells #[.int .i64 (cnt 0 La), .int .i64 (cnt 1 La), .int .i64 (cnt 2 La), .int .i64 (cnt 3 La), .int .i64 (cnt 4 La), .int .i64 (cnt 5 La), .int .i64 (cnt 6 La), .int .i64 (cnt 7 La)] 33 (0, 0))); clear HB; have HB := n1_; clear n1_ hb; (try clear RD LD)) | ((with_reducible refine gate_callee (f := 10) rfl ?_); refine goesL_ (some 44) rfl rfl Try.func10 (by kernel_rfl) rfl #[.int .i64 a0, .string a2] rfl (by (try simp only [List.map_toArray, List.map_cons, List.map_nil]); first | done | rfl) ?_; (refine (script_Decode.calls a0 a2 Lb _ HLb.out).mono ?_); rintro ee w7 ⟨v7, rfl, hR, hb⟩; obtain ⟨AD, cD, rfl, hlD, hrD⟩ := Kd.R_reads hR; have LD := Aside0.mk hlD; clear hR hlD; have mRL_ := Aside0.mk (Kd.C_below RL.out hb); clear RL; have RL := mRL_; clear mRL_; have mB8_ := Aside0.mk (blk_below B8.out hb); clear B8; have B8 := mB8_; clear mB8_; have n1_ := Aside0.mk (below_step HB.out hb); clear HB; have HB := n1_; clear n1_ hb; have RD := Aside0.mk hrD; clear hrD; refine ⟨_, rfl, ?_⟩) | ((with_reducible refine gate_callee (f := 19) rfl ?_); refine goesL_ (some 45) rfl rfl Try.func19 (by kernel_rfl) rfl #[.slice AD Lb.length cD] rfl (by (try simp only [List.map_toArray, List.map_cons, List.map_nil]); first | done | rfl) ?_; (refine (count8 AD cD Lb _ RD.out LD.out LNb.out).mono ?_); rintro ee w8 ⟨rfl, hb⟩; refine ⟨_, rfl, ?_⟩; have mRL_ := Aside0.mk (Kd.C_below RL.out hb); clear RL; have RL := Aside0.mk (Kd.C_alloc mRL_.out (.cells #[.int .i64 (cnt 0 Lb), .int .i64 (cnt 1 Lb), .int .i64 (cnt 2 Lb), .int .i64 (cnt 3 Lb), .int .i64 (cnt 4 Lb), .int .i64 (cnt 5 Lb), .int .i64 (cnt 6 Lb), .int .i64 (cnt 7 Lb)] 33 (0, 0))); clear mRL_; have mB8_ := Aside0.mk (blk_below B8.out hb); clear B8; have B8 := Aside0.mk (blk_alloc mB8_.out (.cells #[.int .i64 (cnt 0 Lb), .int .i64 (cnt 1 Lb), .int .i64 (cnt 2 Lb), .int .i64 (cnt 3 Lb), .int .i64 (cnt 4 Lb), .int .i64 (cnt 5 Lb), .int .i64 (cnt 6 Lb), .int .i64 (cnt 7 Lb)] 33 (0, 0))); clear mB8_; have B9 := Aside0.mk (blk_new w8 (.cells #[.int .i64 (cnt 0 Lb), .int .i64 (cnt 1 Lb), .int .i64 (cnt 2 Lb), .int .i64 (cnt 3 Lb), .int .i64 (cnt 4 Lb), .int .i64 (cnt 5 Lb), .int .i64 (cnt 6 Lb), .int .i64 (cnt 7 Lb)] 33 (0, 0))); have n1_ := Aside0.mk (below_alloc (below_step HB.out hb) (.cells #[.int .i64 (cnt 0 Lb), .int .i64 (cnt 1 Lb), .int .i64 (cnt 2 Lb), .int .i64 (cnt 3 Lb), .int .i64 (cnt 4 Lb), .int .i64 (cnt 5 Lb), .int .i64 (cnt 6 Lb), .int .i64 (cnt 7 Lb)] 33 (0, 0))); clear HB; have HB := n1_; clear n1_ hb; (try clear RD LD)) | ((with_reducible refine gate_callee (f := 19) rfl ?_); refine goesL_ (some 47) rfl rfl Try.func19 (by kernel_rfl) rfl #[.slice AL L.length cL] rfl (by (try simp only [List.map_toArray, List.map_cons, List.map_nil]); first | done | rfl) ?_; (refine (count8 AL cL L _ RL.out LL.out LNl.out).mono ?_); rintro ee w9 ⟨rfl, hb⟩; refine ⟨_, rfl, ?_⟩; have mRL_ := Aside0.mk (Kd.C_below RL.out hb); clear RL; have RL := Aside0.mk (Kd.C_alloc mRL_.out (.cells #[.int .i64 (cnt 0 L), .int .i64 (cnt 1 L), .int .i64 (cnt 2 L), .int .i64 (cnt 3 L), .int .i64 (cnt 4 L), .int .i64 (cnt 5 L), .int .i64 (cnt 6 L), .int .i64 (cnt 7 L)] 33 (0, 0))); clear mRL_; have mB8_ := Aside0.mk (blk_below B8.out hb); clear B8; have B8 := Aside0.mk (blk_alloc mB8_.out (.cells #[.int .i64 (cnt 0 L), .int .i64 (cnt 1 L), .int .i64 (cnt 2 L), .int .i64 (cnt 3 L), .int .i64 (cnt 4 L), .int .i64 (cnt 5 L), .int .i64 (cnt 6 L), .int .i64 (cnt 7 L)] 33 (0, 0))); clear mB8_; have mB9_ := Aside0.mk (blk_below B9.out hb); clear B9; have B9 := Aside0.mk (blk_alloc mB9_.out (.cells #[.int .i64 (cnt 0 L), .int .i64 (cnt 1 L), .int .i64 (cnt 2 L), .int .i64 (cnt 3 L), .int .i64 (cnt 4 L), .int .i64 (cnt 5 L), .int .i64 (cnt 6 L), .int .i64 (cnt 7 L)] 33 (0, 0))); clear mB9_; have B10 := Aside0.mk (blk_new w9 (.cells #[.int .i64 (cnt 0 L), .int .i64 (cnt 1 L), .int .i64 (cnt 2 L), .int .i64 (cnt 3 L), .int .i64 (cnt 4 L), .int .i64 (cnt 5 L), .int .i64 (cnt 6 L), .int .i64 (cnt 7 L)] 33 (0, 0))); have n1_ := Aside0.mk (below_alloc (below_step HB.out hb) (.cells #[.int .i64 (cnt 0 L), .int .i64 (cnt 1 L), .int .i64 (cnt 2 L), .int .i64 (cnt 3 L), .int .i64 (cnt 4 L), .int .i64 (cnt 5 L), .int .i64 (cnt 6 L), .int .i64 (cnt 7 L)] 33 (0, 0))); clear HB; have HB := n1_; clear n1_ hb; (try clear RD LD)))
  generalize w6.heap.size = g8 at B8 ⊢
  generalize w8.heap.size = g9 at B9 ⊢
  generalize w9.heap.size = g10 at B10 ⊢
  generalize w9.alloc _ = Wz at B8 B9 B10 RL HB ⊢
  go_loopw [11, 12] (fun v11 v12 wr => ∃ i : Nat, i ≤ 8 ∧ v11 = .int .i64 (psum (fun n => cnt n L) i) ∧ v12 = .int .i64 i ∧ Aside0 (0 ≤ psum (fun n => cnt n L) i ∧ psum (fun n => cnt n L) i ≤ 2000 * i) ∧ Aside0 (wr.heap[g8]? = some (.cells #[.int .i64 (cnt 0 La), .int .i64 (cnt 1 La), .int .i64 (cnt 2 La), .int .i64 (cnt 3 La), .int .i64 (cnt 4 La), .int .i64 (cnt 5 La), .int .i64 (cnt 6 La), .int .i64 (cnt 7 La)] 33 (0, 0))) ∧ Aside0 (wr.heap[g9]? = some (.cells #[.int .i64 (cnt 0 Lb), .int .i64 (cnt 1 Lb), .int .i64 (cnt 2 Lb), .int .i64 (cnt 3 Lb), .int .i64 (cnt 4 Lb), .int .i64 (cnt 5 Lb), .int .i64 (cnt 6 Lb), .int .i64 (cnt 7 Lb)] 33 (0, 0))) ∧ Aside0 (wr.heap[g10]? = some (.cells #[.int .i64 (cnt 0 L), .int .i64 (cnt 1 L), .int .i64 (cnt 2 L), .int .i64 (cnt 3 L), .int .i64 (cnt 4 L), .int .i64 (cnt 5 L), .int .i64 (cnt 6 L), .int .i64 (cnt 7 L)] 33 (0, 0))) ∧ Aside0 (Kd.C k24 wr AL L.length L) ∧ Aside0 (Below w.heap.size w wr)) (fun _ v12 _ => 8 - (intOf v12).toNat)
  case atStart => exact ⟨0, by omega, rfl, rfl, ⟨by simp [psum]⟩, B8, B9, B10, RL, HB⟩
  case round =>
    clear B8 B9 B10 RL HB
    obtain ⟨i, hi, rfl, rfl, HP, B8, B9, B10, RL, HB⟩ := hrel
    by_cases hlt : i < 8
    · have hq : (i : Int) < 8 := by omega
      have hq0 : (0 : Int) ≤ (i : Int) := Int.natCast_nonneg _
      have e8 : wr.cell? ⟨g8, i, none⟩ = some (.int .i64 (cnt i La)) := (blk_cell B8.out i).trans (cell8 La i hlt)
      have e9 : wr.cell? ⟨g9, i, none⟩ = some (.int .i64 (cnt i Lb)) := (blk_cell B9.out i).trans (cell8 Lb i hlt)
      have e10 : wr.cell? ⟨g10, i, none⟩ = some (.int .i64 (cnt i La + cnt i Lb)) := by rw [← cnt_app, HLL.out]; exact (blk_cell B10.out i).trans (cell8 _ i hlt)
      have bz := cnt_le (i : Int) L
      have bx := cnt_le (i : Int) La
      have by_ := cnt_le (i : Int) Lb
      have hlm := LM.out
      have hps : psum (fun n => cnt n L) (i + 1) = psum (fun n => cnt n L) i + (cnt i La + cnt i Lb) := by rw [← cnt_app, HLL.out]; rfl
      have ea := cnt_app (i : Int) La Lb
      rw [HLL.out] at ea
      rw [ea] at bz
      clear ea
      obtain ⟨hp0, hp1⟩ := HP.out
      generalize hpp : psum (fun n => cnt n L) i = p at *
      generalize cnt (i : Int) La = x at *
      generalize cnt (i : Int) Lb = y at *
      have hwx : IntKind.i64.wrap (x + y) = x + y := IntWalk.i64_in _ ⟨by omega, by omega⟩
      have hwp : IntKind.i64.wrap (p + (x + y)) = p + (x + y) := IntWalk.i64_in _ ⟨by omega, by omega⟩
      have HP2 : Aside0 (0 ≤ psum (fun n => cnt n L) (i + 1) ∧ psum (fun n => cnt n L) (i + 1) ≤ 2000 * ((i + 1 : Nat) : Int)) := ⟨by rw [hps]; omega⟩
      have HPS := Aside0.mk hps
      clear hps bz bx by_ hlm hp0 hp1 HP
      go_wp2_with fail
      refine start_ (n := 11) (S := fun w' => w'.cell? ⟨g8, i, none⟩ = some (.int .i64 x) ∧ w'.cell? ⟨g9, i, none⟩ = some (.int .i64 y) ∧ w'.cell? ⟨g10, i, none⟩ = some (.int .i64 (x + y))) (ds := []) #[false, false, false, false, false, false, false, false, false, false, false] (by kernel_rfl) rfl rfl ⟨e8, e9, e10⟩ (fun hHeld => ?_)
      replace B8 := Aside0.mk (blk_drew B8.out)
      replace B9 := Aside0.mk (blk_drew B9.out)
      replace B10 := Aside0.mk (blk_drew B10.out)
      replace RL := Aside0.mk (Kd.C_drew RL.out)
      replace HB := Aside0.mk (below_drew1 HB.out)
      replace e8 : wr.drew.cell? ⟨g8, i, none⟩ = some (.int .i64 x) := e8
      replace e9 : wr.drew.cell? ⟨g9, i, none⟩ = some (.int .i64 y) := e9
      replace e10 : wr.drew.cell? ⟨g10, i, none⟩ = some (.int .i64 (x + y)) := e10
      generalize wr.drew = W1 at B8 B9 B10 RL HB e8 e9 e10 hHeld ⊢
      refine pure_ (i := 0) (N := (some 52)) (v := ?_) (a' := ?_) #[true, false, false, false, false, false, false, false, false, false, false] rfl rfl (by kernel_rfl) (fun _ _ _ h => h) (Or.inl ⟨by rfl, ?_⟩) ?_ ?_
      rotate_left
      · intro w'
        go_simp
        with_reducible rfl
      rotate_left
      · simp only [Act.put, List.setIfInBounds_toArray, List.set_cons_zero, List.set_cons_succ, i64_w, i32_w]
        rfl
      refine pure_ (i := 3) (N := (some 55)) (v := ?_) (a' := ?_) #[true, false, false, true, false, false, false, false, false, false, false] rfl rfl (by kernel_rfl) (fun _ _ _ h => h) (Or.inl ⟨by rfl, ?_⟩) ?_ ?_
      rotate_left
      · intro w'
        go_simp
        with_reducible rfl
      rotate_left
      · simp only [Act.put, List.setIfInBounds_toArray, List.set_cons_zero, List.set_cons_succ, i64_w, i32_w]
        rfl
      refine pure_ (i := 7) (N := (some 59)) (v := ?_) (a' := ?_) #[true, false, false, true, false, false, false, true, false, false, false] rfl rfl (by kernel_rfl) (fun _ _ _ h => h) (Or.inl ⟨by rfl, ?_⟩) ?_ ?_
      rotate_left
      · intro w'
        go_simp
        with_reducible rfl
      rotate_left
      · simp only [Act.put, List.setIfInBounds_toArray, List.set_cons_zero, List.set_cons_succ, i64_w, i32_w]
        rfl
      refine pure_ (i := 1) (N := (some 53)) (v := ?_) (a' := ?_) #[true, true, false, true, false, false, false, true, false, false, false] rfl rfl (by kernel_rfl) (fun _ _ _ h => h) (Or.inl ⟨by rfl, ?_⟩) ?_ ?_
      rotate_left
      · intro w'
        go_simp
        with_reducible rfl
      rotate_left
      · simp only [Act.put, List.setIfInBounds_toArray, List.set_cons_zero, List.set_cons_succ, i64_w, i32_w]
        rfl
      refine pure_ (i := 4) (N := (some 56)) (v := ?_) (a' := ?_) #[true, true, false, true, true, false, false, true, false, false, false] rfl rfl (by kernel_rfl) (fun _ _ _ h => h) (Or.inl ⟨by rfl, ?_⟩) ?_ ?_
      rotate_left
      · intro w'
        go_simp
        with_reducible rfl
      rotate_left
      · simp only [Act.put, List.setIfInBounds_toArray, List.set_cons_zero, List.set_cons_succ, i64_w, i32_w]
        rfl
      refine pure_ (i := 8) (N := (some 60)) (v := ?_) (a' := ?_) #[true, true, false, true, true, false, false, true, true, false, false] rfl rfl (by kernel_rfl) (fun _ _ _ h => h) (Or.inl ⟨by rfl, ?_⟩) ?_ ?_
      rotate_left
      · intro w'
        go_simp
        with_reducible rfl
      rotate_left
      · simp only [Act.put, List.setIfInBounds_toArray, List.set_cons_zero, List.set_cons_succ, i64_w, i32_w]
        rfl
      refine take_ (i := 2) (N := (some 54)) (v := ?_) (a' := ?_) #[true, true, true, true, true, false, false, true, true, false, false] rfl rfl (by kernel_rfl) (fun _ _ _ h => h) (Or.inl ⟨by rfl, ?_⟩) hHeld ?_ ?_
      rotate_left
      · rintro w' ⟨s0, s1, s2⟩
        go_simp
        with_reducible rfl
      rotate_left
      · simp only [Act.put, List.setIfInBounds_toArray, List.set_cons_zero, List.set_cons_succ, i64_w, i32_w]
        rfl
      refine take_ (i := 5) (N := (some 57)) (v := ?_) (a' := ?_) #[true, true, true, true, true, true, false, true, true, false, false] rfl rfl (by kernel_rfl) (fun _ _ _ h => h) (Or.inl ⟨by rfl, ?_⟩) hHeld ?_ ?_
      rotate_left
      · rintro w' ⟨s0, s1, s2⟩
        go_simp
        with_reducible rfl
      rotate_left
      · simp only [Act.put, List.setIfInBounds_toArray, List.set_cons_zero, List.set_cons_succ, i64_w, i32_w]
        rfl
      refine take_ (i := 9) (N := (some 61)) (v := ?_) (a' := ?_) #[true, true, true, true, true, true, false, true, true, true, false] rfl rfl (by kernel_rfl) (fun _ _ _ h => h) (Or.inl ⟨by rfl, ?_⟩) hHeld ?_ ?_
      rotate_left
      · rintro w' ⟨s0, s1, s2⟩
        go_simp
        with_reducible rfl
      rotate_left
      · simp only [Act.put, List.setIfInBounds_toArray, List.set_cons_zero, List.set_cons_succ, i64_w, i32_w]
        rfl
      refine pure_ (i := 6) (N := (some 58)) (v := ?_) (a' := ?_) #[true, true, true, true, true, true, true, true, true, true, false] rfl rfl (by kernel_rfl) (fun _ _ _ h => h) (Or.inl ⟨by rfl, ?_⟩) ?_ ?_
      rotate_left
      · intro w'
        go_simp
        with_reducible rfl
      rotate_left
      · simp only [Act.put, List.setIfInBounds_toArray, List.set_cons_zero, List.set_cons_succ, i64_w, i32_w]
        rfl
      refine pure_ (i := 10) (N := (some 62)) (v := ?_) (a' := ?_) #[true, true, true, true, true, true, true, true, true, true, true] rfl rfl (by kernel_rfl) (fun _ _ _ h => h) (Or.inl ⟨by rfl, ?_⟩) ?_ ?_
      rotate_left
      · intro w'
        go_simp
        with_reducible rfl
      rotate_left
      · simp only [Act.put, List.setIfInBounds_toArray, List.set_cons_zero, List.set_cons_succ, i64_w, i32_w]
        rfl
      refine done_ (by kernel_rfl) ?_
      try go_wp2
      go_roundw
      case rel => exact ⟨i + 1, by omega, by rw [HPS.out], by go_num, HP2, B8, B9, B10, RL, HB⟩
      case measure => simp [intOf]; omega
    · have hq : ¬ (i : Int) < 8 := by omega
      have hie : i = 8 := by omega
      subst hie
      have hsm := HSum.out
      rw [hsm]
      go_wp2_with (first | ((with_reducible refine gate_callee (f := 14) rfl ?_); refine goesL_ (some 68) rfl rfl Try.func14 (by kernel_rfl) rfl #[] rfl (by (try simp only [List.map_toArray, List.map_cons, List.map_nil]); first | done | rfl) ?_; (refine (pacemakerlaw30_scripted.calls true _ rfl).mono ?_); rintro ee w10 ⟨rfl, hb⟩; refine ⟨_, rfl, ?_⟩; have mRL_ := Aside0.mk (Kd.C_below RL.out hb); clear RL; have RL := mRL_; clear mRL_; have n1_ := Aside0.mk (below_step HB.out hb); clear HB; have HB := n1_; clear n1_ hb) | ((with_reducible refine gate_callee (f := 10) rfl ?_); refine gate_guard (by rfl) ?_; refine goesL_ (some 74) rfl rfl Try.func10 (by kernel_rfl) rfl #[.int .i64 a0, .string (a1 ++ a2)] rfl (by (try simp only [List.map_toArray, List.map_cons, List.map_nil]); first | done | rfl) ?_; (refine (script_Decode.calls a0 (a1 ++ a2) L _ HLab.out).mono ?_); rintro ee w11 ⟨v11, rfl, hR, hb⟩; obtain ⟨AD, cD, rfl, hlD, hrD⟩ := Kd.R_reads hR; have LD := Aside0.mk hlD; clear hR hlD; have mRL_ := Aside0.mk (Kd.C_below RL.out hb); clear RL; have RL := mRL_; clear mRL_; have n1_ := Aside0.mk (below_step HB.out hb); clear HB; have HB := n1_; clear n1_ hb; have RD := Aside0.mk hrD; clear hrD; refine ⟨_, rfl, ?_⟩) | ((with_reducible refine gate_callee (f := 9) rfl ?_); refine gate_guard (by rfl) ?_; refine goesL_ (some 76) rfl rfl Try.func9 (by kernel_rfl) rfl #[.slice AD L.length cD, .slice AL L.length cL] rfl (by (try simp only [List.map_toArray, List.map_cons, List.map_nil]); first | done | rfl) ?_; (refine (pacemakerref30_Same.calls k AD cD L AL cL L true _ RD.out LD.out RL.out LL.out HSm.out).mono ?_); rintro ee w12 ⟨rfl, hb9⟩; have hb := hb9.below; clear hb9 RD LD RL; have n1_ := Aside0.mk (below_step HB.out hb); clear HB; have HB := n1_; clear n1_ hb; refine ⟨_, rfl, ?_⟩))
      go_ret
      exact ⟨rfl, HB.out⟩
open Classical in
/-- The law ScriptJoins, as the walk needs it. -/
noncomputable def pacemakerlaw30_ScriptJoins.f (k : Nat) (a0 : Int) (a1 a2 : ByteArray) : Option Bool :=
  if a1.size ≤ 2000 ∧ a2.size ≤ 2000 ∧ a1.size % 3 = 0 ∧ (∃ La Lb, script_Decode.f a0 a1 = some La ∧ script_Decode.f a0 a2 = some Lb ∧ script_Decode.f a0 (a1 ++ a2) = some (La ++ Lb) ∧ La.length ≤ 1000 ∧ Lb.length ≤ 1000 ∧ pacemakerref30_Same.f k (La ++ Lb) (La ++ Lb) = some true ∧ psum (fun n => cnt n (La ++ Lb)) 8 = ((La ++ Lb).length : Int))
    then some true else if (a1.size : Int) > 2000 ∨ (a2.size : Int) > 2000 ∨ ¬ (a1.size : Int).tmod 3 = 0 then some true else none
set_option maxHeartbeats 1000000 in
theorem pacemakerlaw30_ScriptJoins.calls (k : Nat) (a0 : Int) (a1 a2 : ByteArray) (r : Bool) (w : World) (HT : Aside0 (r = true)) (h : pacemakerlaw30_ScriptJoins.f k a0 a1 a2 = some r) :
    Calls Try.prog 6 #[.int .i64 a0, .string a1, .string a2] w fun e w' => e = .returned (.bool r) ∧ Below w.heap.size w w' := by
  obtain rfl := HT.out
  clear HT
  unfold pacemakerlaw30_ScriptJoins.f at h
  split at h
  · rename_i H
    obtain ⟨h1, h2, h3, La, Lb, hLa, hLb, hLab, hna, hnb, hSm, hsum⟩ := H
    exact joins_walk k a0 a1 a2 La Lb _ rfl w h1 h2 h3 hLa hLb hLab hna hnb hSm hsum
  · split at h
    · rename_i H
      clear h
      have hu24 := Try.underlying24
      have HB := Aside0.mk (Below.refl w.heap.size w)
      by_cases g1 : (a1.size : Int) > 2000
      · have g1d : decide ((a1.size : Int) > 2000) = true := decide_eq_true g1
        go_enter Try.func6, Try.ntmps6
        go_wp2_with (first | ((with_reducible refine gate_callee (f := 14) rfl ?_); refine goesL_ (some 27) rfl rfl Try.func14 (by kernel_rfl) rfl #[] rfl (by (try simp only [List.map_toArray, List.map_cons, List.map_nil]); first | done | rfl) ?_; (refine (pacemakerlaw30_scripted.calls true _ rfl).mono ?_); rintro ee w1 ⟨rfl, hb⟩; refine ⟨_, rfl, ?_⟩; have n1_ := Aside0.mk (below_step HB.out hb); clear HB; have HB := n1_; clear n1_ hb))
        go_ret
        exact ⟨rfl, HB.out⟩
      · have g1d : decide ((a1.size : Int) > 2000) = false := decide_eq_false g1
        by_cases g2 : (a2.size : Int) > 2000
        · have g2d : decide ((a2.size : Int) > 2000) = true := decide_eq_true g2
          go_enter Try.func6, Try.ntmps6
          go_wp2_with (first | ((with_reducible refine gate_callee (f := 14) rfl ?_); refine goesL_ (some 27) rfl rfl Try.func14 (by kernel_rfl) rfl #[] rfl (by (try simp only [List.map_toArray, List.map_cons, List.map_nil]); first | done | rfl) ?_; (refine (pacemakerlaw30_scripted.calls true _ rfl).mono ?_); rintro ee w1 ⟨rfl, hb⟩; refine ⟨_, rfl, ?_⟩; have n1_ := Aside0.mk (below_step HB.out hb); clear HB; have HB := n1_; clear n1_ hb))
          go_ret
          exact ⟨rfl, HB.out⟩
        · have g2d : decide ((a2.size : Int) > 2000) = false := decide_eq_false g2
          have g3 : ¬ (a1.size : Int).tmod 3 = 0 := (H.resolve_left g1).resolve_left g2
          rw [Int.tmod_eq_emod_of_nonneg (by omega)] at g3
          have g3d : ((a1.size : Int) % 3 != 0) = true := bne_iff_ne.mpr g3
          have g3e : decide ((a1.size : Int) % 3 = 0) = false := decide_eq_false g3
          go_enter Try.func6, Try.ntmps6
          go_wp2_with (first | ((with_reducible refine gate_callee (f := 14) rfl ?_); refine goesL_ (some 27) rfl rfl Try.func14 (by kernel_rfl) rfl #[] rfl (by (try simp only [List.map_toArray, List.map_cons, List.map_nil]); first | done | rfl) ?_; (refine (pacemakerlaw30_scripted.calls true _ rfl).mono ?_); rintro ee w1 ⟨rfl, hb⟩; refine ⟨_, rfl, ?_⟩; have n1_ := Aside0.mk (below_step HB.out hb); clear HB; have HB := n1_; clear n1_ hb))
          go_ret
          exact ⟨rfl, HB.out⟩
    · exact absurd h (by simp)
end Go.Proofs.Ytlnjehknkkfpcaa.P
