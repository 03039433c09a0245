/- Walks of this seat's functions, laid together: each says what a function computes. -/
import Derived.Test.YtjiogchafnpkhaaProg
import Derived.Test.YtjiogchafnpkhaaS0
import Derived.Below
import Derived.Deep.Draws
import Derived.Deep.AppendLies
import Derived.Maps.AppendAt
import Derived.OwnWalk
import Derived.Laws.BytesArg
import Derived.Laws.MakeOwn
import Derived.Laws.OwnMore
import Derived.Deep.OwnRows
import Derived.Tactics
import Derived.Lib.ConvBytes
import Derived.Laws.Slices
import Derived.WalkKit
import Derived.KernelRfl
import Derived.RowKit3
import Derived.Deep.LoopGhost
import Derived.Deep.QuietTactic
import Derived.BigQuiet
import Derived.WideLaws
import Derived.Deep.DeepCutAuto
import Derived.Deep.CutBlock
import Derived.Deep.RegionHeld3
import Derived.Laws.Rows
import Derived.Lib.AppendStr
import Derived.ArgAppend
import Derived.Laws.IdiomCopy
import Derived.OrdersHeld
import Derived.Laws.BitsLemmas
import Derived.RowKit
import Derived.Outline
import Derived.Laws.CopyRow
import Derived.Laws.CopyOwn
import Derived.ChangeKeysEq
import Derived.Test.YtjiogchafnpkhaaWWords
import Derived.Test.YtjiogchafnpkhaaWLast
import Derived.Test.YtjiogchafnpkhaaWTab
import Derived.Test.YtjiogchafnpkhaaWFour
import Derived.Test.YtjiogchafnpkhaaWQPut
import Derived.Test.YtjiogchafnpkhaaWApart
import Derived.Test.YtjiogchafnpkhaaWArr
import Derived.Test.YtjiogchafnpkhaaWZeros
import Derived.Test.YtjiogchafnpkhaaWFoot
import Derived.Test.YtjiogchafnpkhaaWKept
import Derived.Test.YtjiogchafnpkhaaWShare
import Derived.Test.YtjiogchafnpkhaaWN
import Derived.Test.YtjiogchafnpkhaaWFootNe
import Derived.Test.YtjiogchafnpkhaaWAt
import Derived.Test.YtjiogchafnpkhaaWEqStruct
import Derived.Test.YtjiogchafnpkhaaWRepsOne
import Derived.Test.YtjiogchafnpkhaaWInv
import Derived.Test.YtjiogchafnpkhaaWInvWords
import Derived.Test.YtjiogchafnpkhaaWGuard
import Derived.Test.YtjiogchafnpkhaaWNEv
import Derived.Test.YtjiogchafnpkhaaWMore
import Derived.Test.YtjiogchafnpkhaaDx3
namespace Go.Proofs.Ytjiogchafnpkhaa.D
section
open Go.RowKit Go.Proofs.YtjiogchafnpkhaaW.PrintWords Go.Proofs.YtjiogchafnpkhaaW.PrintLast Go.Proofs.YtjiogchafnpkhaaW.PrintMore
attribute [local go_sem] max2_int min2_int max_two min_two max_three min_three max_four min_four
attribute [local go_sem] Go.Proofs.YtjiogchafnpkhaaS.cell_set_map Go.Proofs.YtjiogchafnpkhaaS.setCell_drewN
set_option linter.unusedVariables false
set_option linter.unusedSimpArgs false
/-- x turned by k places. -/
def rotC (k : Int) : Int := IntKind.u64.wrap k % 32
def rotF (x k : Int) : Int := bits .or .u32 (IntKind.u32.wrap (x * 2 ^ (rotC k).toNat)) (x / 2 ^ (32 - rotC k).toNat)
theorem and31 (a : Int) (h0 : 0 ≤ a) (h1 : a < 18446744073709551616) : bits .and .u64 a 31 = a % 32 := by
  rw [u64_and a 31 h0 h1 (by omega) (by omega)]
  have : a.toNat &&& (31 : Int).toNat = a.toNat % 32 := Nat.and_two_pow_sub_one_eq_mod a.toNat 5
  rw [this]
  omega
theorem u64_range (k : Int) : 0 ≤ IntKind.u64.wrap k ∧ IntKind.u64.wrap k < 18446744073709551616 := by
  simp [IntKind.wrap, IntKind.bits, IntKind.signed]
  omega
set_option maxHeartbeats 2000000 in
theorem rot_calls (x k : Int) (w : World) : Calls Try.prog 60 #[.int .u32 x, .int .i64 k] w fun e w' => e = .returned (.int .u32 (rotF x k)) ∧ w = w' := by
  have hr := u64_range k
  have hc : bits BinOp.and IntKind.u64 (IntKind.u64.wrap k) 31 = rotC k := and31 _ hr.1 hr.2
  have h0 : 0 ≤ rotC k := by unfold rotC; omega
  have h1 : rotC k ≤ 32 := by unfold rotC; omega
  have h2 : 0 ≤ 32 - rotC k := by omega
  have h3 : 32 - rotC k ≤ 32 := by omega
  have hw : IntKind.u64.wrap (32 - rotC k) = 32 - rotC k := by simp [IntKind.wrap, IntKind.bits, IntKind.signed]; omega
  clear hr
  unfold rotF
  generalize rotC k = c at *
  go_enter Try.func60, Try.ntmps60
  go_wp2
  go_ret
  exact ⟨rfl, rfl⟩
set_option maxHeartbeats 2000000 in
theorem of_calls (k st ic at_ : Int) (A : Option Addr) (n c : Nat) (w : World) : Calls Try.prog 41 #[.agg #[.int .i64 k, .int .u64 st, .int .u64 ic, .slice A n c, .int .i64 at_]] w fun e w' => e = .returned (.iface (if k = 1 then 70 else if k = 2 then 71 else 72) (.agg #[.int .i64 k, .int .u64 st, .int .u64 ic, .slice A n c, .int .i64 at_])) ∧ Below w.heap.size w w' := by
  have hu25 := Try.underlying25
  have HB := Aside0.mk (below_alloc (Below.refl w.heap.size w) (.cells #[.int .i64 k, .int .u64 st, .int .u64 ic, .slice A n c, .int .i64 at_] 25 (0, 0)))
  by_cases e1 : k = 1
  · subst e1
    go_enter Try.func41, Try.ntmps41
    go_wp2
    go_ret
    exact ⟨rfl, HB.out⟩
  · have e1b : (k == 1) = false := beq_eq_false_iff_ne.mpr e1
    rw [if_neg e1]
    clear e1
    by_cases e2 : k = 2
    · subst e2
      go_enter Try.func41, Try.ntmps41
      go_wp2
      go_ret
      exact ⟨rfl, HB.out⟩
    · have e2b : (k == 2) = false := beq_eq_false_iff_ne.mpr e2
      rw [if_neg e2]
      clear e2
      go_enter Try.func41, Try.ntmps41
      go_wp2
      go_ret
      exact ⟨rfl, HB.out⟩
end
section
open Go.RowKit Go.Proofs.YtjiogchafnpkhaaW.PrintWords Go.Proofs.YtjiogchafnpkhaaW.PrintLast Go.Proofs.YtjiogchafnpkhaaW.PrintMore
attribute [local go_sem] max2_int min2_int max_two min_two max_three min_three max_four min_four
attribute [local go_sem] Go.Proofs.YtjiogchafnpkhaaS.cell_set_map Go.Proofs.YtjiogchafnpkhaaS.setCell_drewN
set_option linter.unusedVariables false
set_option linter.unusedSimpArgs false
set_option maxHeartbeats 4000000 in
set_option maxRecDepth 100000 in
theorem none_calls (k st ic at_ : Int) (A : Option Addr) (n c : Nat) (w : World) : Calls Try.prog 62 #[.agg #[.int .i64 k, .int .u64 st, .int .u64 ic, .slice A n c, .int .i64 at_]] w fun e w' => e = .returned (.tuple #[.int .u32 0, .agg #[.int .i64 k, .int .u64 st, .int .u64 ic, .slice A n c, .int .i64 at_]]) ∧ Below w.heap.size w w' := by
  have hu25 := Try.underlying25
  have hu72 := Try.underlying72
  have B1 := Aside0.mk (blk_alloc (blk_new w (.cells #[.int .i64 k, .int .u64 st, .int .u64 ic, .slice A n c, .int .i64 at_] 72 (0, 0))) (.cells #[.int .i64 0, .int .u64 0, .int .u64 0, .slice none 0 0, .int .i64 0] 25 (0, 0)))
  have B3 := Aside0.mk (blk_new (w.alloc (.cells #[.int .i64 k, .int .u64 st, .int .u64 ic, .slice A n c, .int .i64 at_] 72 (0, 0))) (.cells #[.int .i64 0, .int .u64 0, .int .u64 0, .slice none 0 0, .int .i64 0] 25 (0, 0)))
  have E3 := Aside0.mk (Go.Proofs.YtjiogchafnpkhaaS.size_alloc w (.cells #[.int .i64 k, .int .u64 st, .int .u64 ic, .slice A n c, .int .i64 at_] 72 (0, 0)))
  have HB := Aside0.mk (below_alloc (below_alloc (Below.refl w.heap.size w) (.cells #[.int .i64 k, .int .u64 st, .int .u64 ic, .slice A n c, .int .i64 at_] 72 (0, 0))) (.cells #[.int .i64 0, .int .u64 0, .int .u64 0, .slice none 0 0, .int .i64 0] 25 (0, 0)))
  go_enter Try.func62, Try.ntmps62
  go_wp2
  simp only [Go.Proofs.YtjiogchafnpkhaaS.size_alloc] at *
  generalize hg1 : w.heap.size = g1 at *
  generalize hg3 : g1 + 1 = g3 at *
  have NG : Aside0 (g1 < g3) := ⟨by omega⟩
  have GE1 : Aside0 (w.heap.size ≤ g1) := ⟨by omega⟩
  have GE3 : Aside0 (w.heap.size ≤ g3) := ⟨by omega⟩
  clear hg3 E3
  generalize (w.alloc (.cells #[.int .i64 k, .int .u64 st, .int .u64 ic, .slice A n c, .int .i64 at_] 72 (0, 0))).alloc (.cells #[.int .i64 0, .int .u64 0, .int .u64 0, .slice none 0 0, .int .i64 0] 25 (0, 0)) = W0 at *
  replace HB : Aside0 (Below w.heap.size w W0) := by rw [hg1]; exact HB
  refine start_ (n := 4) (S := fun w' => w'.cell? ⟨g1, 0, none⟩ = some (.int .i64 k) ∧ w'.cell? ⟨g1, 1, none⟩ = some (.int .u64 st) ∧ w'.cell? ⟨g1, 2, none⟩ = some (.int .u64 ic) ∧ w'.cell? ⟨g1, 3, none⟩ = some (.slice A n c) ∧ w'.cell? ⟨g1, 4, none⟩ = some (.int .i64 at_)) (ds := [3]) #[false, false, false, false] (by kernel_rfl) rfl rfl ⟨(blk_cell B1.out 0).trans rfl, (blk_cell B1.out 1).trans rfl, (blk_cell B1.out 2).trans rfl, (blk_cell B1.out 3).trans rfl, (blk_cell B1.out 4).trans rfl⟩ (fun hHeld => ?_)
  replace B1 := Aside0.mk (blk_drew B1.out)
  replace B3 := Aside0.mk (blk_drew B3.out)
  replace HB := Aside0.mk (below_drew1 HB.out)
  generalize W0.drew = W1 at B1 B3 HB hHeld ⊢
  refine pure_ (i := 0) (N := (some 4)) (v := ?_) (a' := ?_) #[true, false, false, false] rfl rfl (by kernel_rfl) (fun _ _ _ h => h) (Or.inl ⟨by rfl, ?_⟩) ?_ ?_
  rotate_left
  · intro w'
    go_simp
    with_reducible rfl
  rotate_left
  · simp only [Act.put, List.setIfInBounds_toArray, List.set_cons_zero, List.set_cons_succ, i64_w, i32_w]
    rfl
  refine take_ (i := 1) (N := (some 5)) (v := ?_) (a' := ?_) #[true, true, false, false] rfl rfl (by kernel_rfl) (fun _ _ _ h => h) (Or.inl ⟨by rfl, ?_⟩) hHeld ?_ ?_
  rotate_left
  · rintro w' ⟨s0, s1, s2, s3, s4⟩
    go_simp
    with_reducible rfl
  rotate_left
  · simp only [Act.put, List.setIfInBounds_toArray, List.set_cons_zero, List.set_cons_succ, i64_w, i32_w]
    rfl
  refine pure_ (i := 2) (N := (some 2)) (v := ?_) (a' := ?_) #[true, true, true, false] rfl rfl (by kernel_rfl) (fun _ _ _ h => h) (Or.inl ⟨by rfl, ?_⟩) ?_ ?_
  rotate_left
  · intro w'
    go_simp
    with_reducible rfl
  rotate_left
  · simp only [Act.put, List.setIfInBounds_toArray, List.set_cons_zero, List.set_cons_succ, i64_w, i32_w]
    rfl
  refine last_ (i := 3) (N := none) #[true, true, true, true] rfl rfl (by kernel_rfl) (by decide) (fun K hK => ?_)
  have hs0 : W1.cell? ⟨g3, 0, none⟩ = some (.int .i64 0) := (blk_cell B3.out 0).trans rfl
  have hf0 := blk_frozen B3.out 0
  have hs1 : W1.cell? ⟨g3, 1, none⟩ = some (.int .u64 0) := (blk_cell B3.out 1).trans rfl
  have hf1 := blk_frozen B3.out 1
  have hs2 : W1.cell? ⟨g3, 2, none⟩ = some (.int .u64 0) := (blk_cell B3.out 2).trans rfl
  have hf2 := blk_frozen B3.out 2
  have hs3 : W1.cell? ⟨g3, 3, none⟩ = some (.slice none 0 0) := (blk_cell B3.out 3).trans rfl
  have hf3 := blk_frozen B3.out 3
  have hs4 : W1.cell? ⟨g3, 4, none⟩ = some (.int .i64 0) := (blk_cell B3.out 4).trans rfl
  have hf4 := blk_frozen B3.out 4
  refine skip_ (w1 := ?_) (by rfl) rfl ?_ ?_
  rotate_left
  · go_simp
    rfl
  refine hK.out _ _ ?_
  clear hK K
  refine done_ (by kernel_rfl) ?_
  try go_wp2
  have q0 := blk_set B3.out 0 (.int .i64 k)
  have q1 := blk_set q0 1 (.int .u64 st)
  have q2 := blk_set q1 2 (.int .u64 ic)
  have q3 := blk_set q2 3 (.slice A n c)
  have q4 := blk_set q3 4 (.int .i64 at_)
  (try simp only [Exit.inBlock, Exit.then])
  refine bodyPost_ret (results_list (rs := [.tmp 2, .cell 3 25]) rfl (by simp) (.tmp (.cell g3 25 #[.int .i64 k, .int .u64 st, .int .u64 ic, .slice A n c, .int .i64 at_] (0, 0) _ rfl (q4.trans (by rfl)) Try.underlying25 rfl (by kernel_rfl) .nil))) rfl ⟨rfl, ?_⟩
  have fin := below_set (j := 4) (v := (.int .i64 at_)) (below_set (j := 3) (v := (.slice A n c)) (below_set (j := 2) (v := (.int .u64 ic)) (below_set (j := 1) (v := (.int .u64 st)) (below_set (j := 0) (v := (.int .i64 k)) HB.out GE3.out) GE3.out) GE3.out) GE3.out) GE3.out
  first | exact fin | (rw [hg1] at fin; exact fin)
end
section
open Go.RowKit Go.Proofs.YtjiogchafnpkhaaW.PrintWords Go.Proofs.YtjiogchafnpkhaaW.PrintLast Go.Proofs.YtjiogchafnpkhaaW.PrintMore
attribute [local go_sem] max2_int min2_int max_two min_two max_three min_three max_four min_four
attribute [local go_sem] Go.Proofs.YtjiogchafnpkhaaS.cell_set_map Go.Proofs.YtjiogchafnpkhaaS.setCell_drewN
set_option linter.unusedVariables false
set_option linter.unusedSimpArgs false
/-- The state behind a draw, and the draw. -/
def pcgSt (st ic : Int) : Int := IntKind.u64.wrap (IntKind.u64.wrap (st * 6364136223846793005) + ic)
def pcgX (st : Int) : Int := rotF (IntKind.u32.wrap (bits .xor .u64 (st / 262144) st / 134217728)) (wrap64 (-wrap64 (st / 576460752303423488)))
set_option maxHeartbeats 4000000 in
set_option maxRecDepth 100000 in
theorem pcg_calls (k st ic at_ : Int) (A : Option Addr) (n c : Nat) (w : World) : Calls Try.prog 59 #[.agg #[.int .i64 k, .int .u64 st, .int .u64 ic, .slice A n c, .int .i64 at_]] w fun e w' => e = .returned (.tuple #[.int .u32 (pcgX st), .agg #[.int .i64 k, .int .u64 (pcgSt st ic), .int .u64 ic, .slice A n c, .int .i64 at_]]) ∧ Below w.heap.size w w' := by
  have hu25 := Try.underlying25
  have hu70 := Try.underlying70
  have B1 := Aside0.mk (blk_alloc (blk_new w (.cells #[.int .i64 k, .int .u64 st, .int .u64 ic, .slice A n c, .int .i64 at_] 70 (0, 0))) (.cells #[.int .i64 0, .int .u64 0, .int .u64 0, .slice none 0 0, .int .i64 0] 25 (0, 0)))
  have B3 := Aside0.mk (blk_new (w.alloc (.cells #[.int .i64 k, .int .u64 st, .int .u64 ic, .slice A n c, .int .i64 at_] 70 (0, 0))) (.cells #[.int .i64 0, .int .u64 0, .int .u64 0, .slice none 0 0, .int .i64 0] 25 (0, 0)))
  have E3 := Aside0.mk (Go.Proofs.YtjiogchafnpkhaaS.size_alloc w (.cells #[.int .i64 k, .int .u64 st, .int .u64 ic, .slice A n c, .int .i64 at_] 70 (0, 0)))
  have HB := Aside0.mk (below_alloc (below_alloc (Below.refl w.heap.size w) (.cells #[.int .i64 k, .int .u64 st, .int .u64 ic, .slice A n c, .int .i64 at_] 70 (0, 0))) (.cells #[.int .i64 0, .int .u64 0, .int .u64 0, .slice none 0 0, .int .i64 0] 25 (0, 0)))
  have hc0 : ((w.alloc (.cells #[.int .i64 k, .int .u64 st, .int .u64 ic, .slice A n c, .int .i64 at_] 70 (0, 0))).alloc (.cells #[.int .i64 0, .int .u64 0, .int .u64 0, .slice none 0 0, .int .i64 0] 25 (0, 0))).cell? ⟨w.heap.size, 0, none⟩ = some (.int .i64 k) := (blk_cell B1.out 0).trans rfl
  have hk0 := blk_frozen B1.out 0
  have hc1 : ((w.alloc (.cells #[.int .i64 k, .int .u64 st, .int .u64 ic, .slice A n c, .int .i64 at_] 70 (0, 0))).alloc (.cells #[.int .i64 0, .int .u64 0, .int .u64 0, .slice none 0 0, .int .i64 0] 25 (0, 0))).cell? ⟨w.heap.size, 1, none⟩ = some (.int .u64 st) := (blk_cell B1.out 1).trans rfl
  have hk1 := blk_frozen B1.out 1
  have hc2 : ((w.alloc (.cells #[.int .i64 k, .int .u64 st, .int .u64 ic, .slice A n c, .int .i64 at_] 70 (0, 0))).alloc (.cells #[.int .i64 0, .int .u64 0, .int .u64 0, .slice none 0 0, .int .i64 0] 25 (0, 0))).cell? ⟨w.heap.size, 2, none⟩ = some (.int .u64 ic) := (blk_cell B1.out 2).trans rfl
  have hk2 := blk_frozen B1.out 2
  have hc3 : ((w.alloc (.cells #[.int .i64 k, .int .u64 st, .int .u64 ic, .slice A n c, .int .i64 at_] 70 (0, 0))).alloc (.cells #[.int .i64 0, .int .u64 0, .int .u64 0, .slice none 0 0, .int .i64 0] 25 (0, 0))).cell? ⟨w.heap.size, 3, none⟩ = some (.slice A n c) := (blk_cell B1.out 3).trans rfl
  have hk3 := blk_frozen B1.out 3
  have hc4 : ((w.alloc (.cells #[.int .i64 k, .int .u64 st, .int .u64 ic, .slice A n c, .int .i64 at_] 70 (0, 0))).alloc (.cells #[.int .i64 0, .int .u64 0, .int .u64 0, .slice none 0 0, .int .i64 0] 25 (0, 0))).cell? ⟨w.heap.size, 4, none⟩ = some (.int .i64 at_) := (blk_cell B1.out 4).trans rfl
  have hk4 := blk_frozen B1.out 4
  clear B1 B3 E3 HB
  have B1 := Aside0.mk (blk_alloc (blk_new w (.cells #[.int .i64 k, .int .u64 (pcgSt st ic), .int .u64 ic, .slice A n c, .int .i64 at_] 70 (0, 0))) (.cells #[.int .i64 0, .int .u64 0, .int .u64 0, .slice none 0 0, .int .i64 0] 25 (0, 0)))
  have B3 := Aside0.mk (blk_new (w.alloc (.cells #[.int .i64 k, .int .u64 (pcgSt st ic), .int .u64 ic, .slice A n c, .int .i64 at_] 70 (0, 0))) (.cells #[.int .i64 0, .int .u64 0, .int .u64 0, .slice none 0 0, .int .i64 0] 25 (0, 0)))
  have E3 := Aside0.mk (Go.Proofs.YtjiogchafnpkhaaS.size_alloc w (.cells #[.int .i64 k, .int .u64 (pcgSt st ic), .int .u64 ic, .slice A n c, .int .i64 at_] 70 (0, 0)))
  have HB := Aside0.mk (below_alloc (below_alloc (Below.refl w.heap.size w) (.cells #[.int .i64 k, .int .u64 (pcgSt st ic), .int .u64 ic, .slice A n c, .int .i64 at_] 70 (0, 0))) (.cells #[.int .i64 0, .int .u64 0, .int .u64 0, .slice none 0 0, .int .i64 0] 25 (0, 0)))
  go_enter Try.func59, Try.ntmps59
  go_wp2
  clear hc0 hk0 hc1 hk1 hc2 hk2 hc3 hk3 hc4 hk4
  have hst : IntKind.u64.wrap (IntKind.u64.wrap (st * 6364136223846793005) + ic) = pcgSt st ic := rfl
  rw [hst]
  clear hst
  simp only [Go.Proofs.YtjiogchafnpkhaaS.size_alloc] at *
  generalize hg1 : w.heap.size = g1 at *
  generalize hg3 : g1 + 1 = g3 at *
  have NG : Aside0 (g1 < g3) := ⟨by omega⟩
  have GE1 : Aside0 (w.heap.size ≤ g1) := ⟨by omega⟩
  have GE3 : Aside0 (w.heap.size ≤ g3) := ⟨by omega⟩
  clear hg3 E3
  generalize (w.alloc (.cells #[.int .i64 k, .int .u64 (pcgSt st ic), .int .u64 ic, .slice A n c, .int .i64 at_] 70 (0, 0))).alloc (.cells #[.int .i64 0, .int .u64 0, .int .u64 0, .slice none 0 0, .int .i64 0] 25 (0, 0)) = W0 at *
  replace HB : Aside0 (Below w.heap.size w W0) := by rw [hg1]; exact HB
  refine start_ (n := 15) (S := fun w' => w'.cell? ⟨g1, 0, none⟩ = some (.int .i64 k) ∧ w'.cell? ⟨g1, 1, none⟩ = some (.int .u64 (pcgSt st ic)) ∧ w'.cell? ⟨g1, 2, none⟩ = some (.int .u64 ic) ∧ w'.cell? ⟨g1, 3, none⟩ = some (.slice A n c) ∧ w'.cell? ⟨g1, 4, none⟩ = some (.int .i64 at_)) (ds := [14]) #[false, false, false, false, false, false, false, false, false, false, false, false, false, false, false] (by kernel_rfl) rfl rfl ⟨(blk_cell B1.out 0).trans rfl, (blk_cell B1.out 1).trans rfl, (blk_cell B1.out 2).trans rfl, (blk_cell B1.out 3).trans rfl, (blk_cell B1.out 4).trans rfl⟩ (fun hHeld => ?_)
  replace B1 := Aside0.mk (blk_drew B1.out)
  replace B3 := Aside0.mk (blk_drew B3.out)
  replace HB := Aside0.mk (below_drew1 HB.out)
  generalize W0.drew = W3 at B1 B3 HB hHeld ⊢
  refine pure_ (i := 0) (N := (some 16)) (v := ?_) (a' := ?_) #[true, false, false, false, false, false, false, false, false, false, false, false, false, false, false] rfl rfl (by kernel_rfl) (fun _ _ _ h => h) (Or.inl ⟨by rfl, ?_⟩) ?_ ?_
  rotate_left
  · intro w'
    go_simp
    with_reducible rfl
  rotate_left
  · simp only [Act.put, List.setIfInBounds_toArray, List.set_cons_zero, List.set_cons_succ, i64_w, i32_w]
    rfl
  refine pure_ (i := 1) (N := (some 17)) (v := ?_) (a' := ?_) #[true, true, false, false, false, false, false, false, false, false, false, false, false, false, false] rfl rfl (by kernel_rfl) (fun _ _ _ h => h) (Or.inl ⟨by rfl, ?_⟩) ?_ ?_
  rotate_left
  · intro w'
    go_simp
    with_reducible rfl
  rotate_left
  · simp only [Act.put, List.setIfInBounds_toArray, List.set_cons_zero, List.set_cons_succ, i64_w, i32_w]
    rfl
  refine pure_ (i := 2) (N := (some 18)) (v := ?_) (a' := ?_) #[true, true, true, false, false, false, false, false, false, false, false, false, false, false, false] rfl rfl (by kernel_rfl) (fun _ _ _ h => h) (Or.inl ⟨by rfl, ?_⟩) ?_ ?_
  rotate_left
  · intro w'
    go_simp
    with_reducible rfl
  rotate_left
  · simp only [Act.put, List.setIfInBounds_toArray, List.set_cons_zero, List.set_cons_succ, i64_w, i32_w]
    rfl
  refine pure_ (i := 3) (N := (some 19)) (v := ?_) (a' := ?_) #[true, true, true, true, false, false, false, false, false, false, false, false, false, false, false] rfl rfl (by kernel_rfl) (fun _ _ _ h => h) (Or.inl ⟨by rfl, ?_⟩) ?_ ?_
  rotate_left
  · intro w'
    go_simp
    with_reducible rfl
  rotate_left
  · simp only [Act.put, List.setIfInBounds_toArray, List.set_cons_zero, List.set_cons_succ, i64_w, i32_w]
    rfl
  refine pure_ (i := 4) (N := (some 20)) (v := ?_) (a' := ?_) #[true, true, true, true, true, false, false, false, false, false, false, false, false, false, false] rfl rfl (by kernel_rfl) (fun _ _ _ h => h) (Or.inl ⟨by rfl, ?_⟩) ?_ ?_
  rotate_left
  · intro w'
    go_simp
    with_reducible rfl
  rotate_left
  · simp only [Act.put, List.setIfInBounds_toArray, List.set_cons_zero, List.set_cons_succ, i64_w, i32_w]
    rfl
  refine pure_ (i := 5) (N := (some 21)) (v := ?_) (a' := ?_) #[true, true, true, true, true, true, false, false, false, false, false, false, false, false, false] rfl rfl (by kernel_rfl) (fun _ _ _ h => h) (Or.inl ⟨by rfl, ?_⟩) ?_ ?_
  rotate_left
  · intro w'
    go_simp
    with_reducible rfl
  rotate_left
  · simp only [Act.put, List.setIfInBounds_toArray, List.set_cons_zero, List.set_cons_succ, i64_w, i32_w]
    rfl
  refine pure_ (i := 6) (N := (some 22)) (v := ?_) (a' := ?_) #[true, true, true, true, true, true, true, false, false, false, false, false, false, false, false] rfl rfl (by kernel_rfl) (fun _ _ _ h => h) (Or.inl ⟨by rfl, ?_⟩) ?_ ?_
  rotate_left
  · intro w'
    go_simp
    with_reducible rfl
  rotate_left
  · simp only [Act.put, List.setIfInBounds_toArray, List.set_cons_zero, List.set_cons_succ, i64_w, i32_w]
    rfl
  refine pure_ (i := 7) (N := (some 23)) (v := ?_) (a' := ?_) #[true, true, true, true, true, true, true, true, false, false, false, false, false, false, false] rfl rfl (by kernel_rfl) (fun _ _ _ h => h) (Or.inl ⟨by rfl, ?_⟩) ?_ ?_
  rotate_left
  · intro w'
    go_simp
    with_reducible rfl
  rotate_left
  · simp only [Act.put, List.setIfInBounds_toArray, List.set_cons_zero, List.set_cons_succ, i64_w, i32_w]
    rfl
  refine pure_ (i := 8) (N := (some 24)) (v := ?_) (a' := ?_) #[true, true, true, true, true, true, true, true, true, false, false, false, false, false, false] rfl rfl (by kernel_rfl) (fun _ _ _ h => h) (Or.inl ⟨by rfl, ?_⟩) ?_ ?_
  rotate_left
  · intro w'
    go_simp
    with_reducible rfl
  rotate_left
  · simp only [Act.put, List.setIfInBounds_toArray, List.set_cons_zero, List.set_cons_succ, i64_w, i32_w]
    rfl
  refine pure_ (i := 9) (N := (some 25)) (v := ?_) (a' := ?_) #[true, true, true, true, true, true, true, true, true, true, false, false, false, false, false] rfl rfl (by kernel_rfl) (fun _ _ _ h => h) (Or.inl ⟨by rfl, ?_⟩) ?_ ?_
  rotate_left
  · intro w'
    go_simp
    with_reducible rfl
  rotate_left
  · simp only [Act.put, List.setIfInBounds_toArray, List.set_cons_zero, List.set_cons_succ, i64_w, i32_w]
    rfl
  refine pure_ (i := 11) (N := (some 27)) (v := ?_) (a' := ?_) #[true, true, true, true, true, true, true, true, true, true, false, true, false, false, false] rfl rfl (by kernel_rfl) (fun _ _ _ h => h) (Or.inl ⟨by rfl, ?_⟩) ?_ ?_
  rotate_left
  · intro w'
    go_simp
    with_reducible rfl
  rotate_left
  · simp only [Act.put, List.setIfInBounds_toArray, List.set_cons_zero, List.set_cons_succ, i64_w, i32_w]
    rfl
  refine take_ (i := 12) (N := (some 28)) (v := ?_) (a' := ?_) #[true, true, true, true, true, true, true, true, true, true, false, true, true, false, false] rfl rfl (by kernel_rfl) (fun _ _ _ h => h) (Or.inl ⟨by rfl, ?_⟩) hHeld ?_ ?_
  rotate_left
  · rintro w' ⟨s0, s1, s2, s3, s4⟩
    go_simp
    with_reducible rfl
  rotate_left
  · simp only [Act.put, List.setIfInBounds_toArray, List.set_cons_zero, List.set_cons_succ, i64_w, i32_w]
    rfl
  refine one_ (i := 10) (N := (some 26)) #[true, true, true, true, true, true, true, true, true, true, true, true, true, false, false] rfl rfl (by kernel_rfl) (by decide) (fun K hK => ?_)
  refine goes_ Try.func60 (by kernel_rfl) rfl #[.int .u32 _, .int .i64 _] (by rfl) rfl rfl (by (try simp only [List.map_toArray, List.map_cons, List.map_nil]); first | done | rfl) ?_
  refine (rot_calls _ _ _).mono ?_
  rintro e w' ⟨rfl, rfl⟩
  refine ⟨_, rfl, ?_⟩
  refine hK.out _ _ hHeld (fun hHeld => ?_)
  clear hK K
  refine norm_ (a' := ?_) ?_ ?_
  rotate_left
  · show Act.put _ (some 26) _ = _
    simp only [Act.put, List.setIfInBounds_toArray, List.set_cons_zero, List.set_cons_succ, i64_w, i32_w]
    rfl
  refine pure_ (i := 13) (N := (some 2)) (v := ?_) (a' := ?_) #[true, true, true, true, true, true, true, true, true, true, true, true, true, true, false] rfl rfl (by kernel_rfl) (fun _ _ _ h => h) (Or.inl ⟨by rfl, ?_⟩) ?_ ?_
  rotate_left
  · intro w'
    go_simp
    with_reducible rfl
  rotate_left
  · simp only [Act.put, List.setIfInBounds_toArray, List.set_cons_zero, List.set_cons_succ, i64_w, i32_w]
    rfl
  refine last_ (i := 14) (N := none) #[true, true, true, true, true, true, true, true, true, true, true, true, true, true, true] rfl rfl (by kernel_rfl) (by decide) (fun K hK => ?_)
  have hs0 : W3.cell? ⟨g3, 0, none⟩ = some (.int .i64 0) := (blk_cell B3.out 0).trans rfl
  have hf0 := blk_frozen B3.out 0
  have hs1 : W3.cell? ⟨g3, 1, none⟩ = some (.int .u64 0) := (blk_cell B3.out 1).trans rfl
  have hf1 := blk_frozen B3.out 1
  have hs2 : W3.cell? ⟨g3, 2, none⟩ = some (.int .u64 0) := (blk_cell B3.out 2).trans rfl
  have hf2 := blk_frozen B3.out 2
  have hs3 : W3.cell? ⟨g3, 3, none⟩ = some (.slice none 0 0) := (blk_cell B3.out 3).trans rfl
  have hf3 := blk_frozen B3.out 3
  have hs4 : W3.cell? ⟨g3, 4, none⟩ = some (.int .i64 0) := (blk_cell B3.out 4).trans rfl
  have hf4 := blk_frozen B3.out 4
  refine skip_ (w1 := ?_) (by rfl) rfl ?_ ?_
  rotate_left
  · go_simp
    rfl
  refine hK.out _ _ ?_
  clear hK K
  refine done_ (by kernel_rfl) ?_
  try go_wp2
  have q0 := blk_set B3.out 0 (.int .i64 k)
  have q1 := blk_set q0 1 (.int .u64 (pcgSt st ic))
  have q2 := blk_set q1 2 (.int .u64 ic)
  have q3 := blk_set q2 3 (.slice A n c)
  have q4 := blk_set q3 4 (.int .i64 at_)
  (try simp only [Exit.inBlock, Exit.then])
  refine bodyPost_ret (results_list (rs := [.tmp 2, .cell 3 25]) rfl (by simp) (.tmp (.cell g3 25 #[.int .i64 k, .int .u64 (pcgSt st ic), .int .u64 ic, .slice A n c, .int .i64 at_] (0, 0) _ rfl (q4.trans (by rfl)) Try.underlying25 rfl (by kernel_rfl) .nil))) rfl ⟨rfl, ?_⟩
  have fin := below_set (j := 4) (v := (.int .i64 at_)) (below_set (j := 3) (v := (.slice A n c)) (below_set (j := 2) (v := (.int .u64 ic)) (below_set (j := 1) (v := (.int .u64 (pcgSt st ic))) (below_set (j := 0) (v := (.int .i64 k)) HB.out GE3.out) GE3.out) GE3.out) GE3.out) GE3.out
  first | exact fin | (rw [hg1] at fin; exact fin)
end
section
open Go.RowKit Go.Proofs.YtjiogchafnpkhaaW.PrintWords Go.Proofs.YtjiogchafnpkhaaW.PrintLast Go.Proofs.YtjiogchafnpkhaaW.PrintMore
attribute [local go_sem] max2_int min2_int max_two min_two max_three min_three max_four min_four
attribute [local go_sem] Go.Proofs.YtjiogchafnpkhaaS.cell_set_map Go.Proofs.YtjiogchafnpkhaaS.setCell_drewN
set_option linter.unusedVariables false
set_option linter.unusedSimpArgs false
/-- A tape's draw, and its place behind it. -/
def tapeX (l : List Int) (at_ : Int) : Int := if 0 ≤ at_ ∧ at_ < l.length then rdOf 0 l at_ % 4294967296 else 0
def tapeAt (l : List Int) (at_ : Int) : Int := if 0 ≤ at_ ∧ at_ < l.length then at_ + 1 else at_
set_option maxHeartbeats 4000000 in
set_option maxRecDepth 100000 in
theorem tape_calls (k st ic at_ : Int) (A : Option Addr) (c : Nat) (l : List Int) (w : World) (hr : Kd.C (Kd.int .u64) w A l.length l) : Calls Try.prog 61 #[.agg #[.int .i64 k, .int .u64 st, .int .u64 ic, .slice A l.length c, .int .i64 at_]] w fun e w' => e = .returned (.tuple #[.int .u32 (tapeX l at_), .agg #[.int .i64 k, .int .u64 st, .int .u64 ic, .slice A l.length c, .int .i64 (tapeAt l at_)]]) ∧ Below w.heap.size w w' := by
  have hu25 := Try.underlying25
  have hu71 := Try.underlying71
  have hu23 := Try.underlying23
  have hmx : l.length ≤ 9223372036854775807 := hr.2.1
  have HRI := Aside0.mk (Kd.reads_of_C (d := (0 : Int)) hr)
  clear hr
  by_cases h1 : at_ < 0
  · have e1 : tapeX l at_ = 0 := if_neg (by omega)
    have e2 : tapeAt l at_ = at_ := if_neg (by omega)
    rw [e1, e2]
    clear e1 e2
    have c1 : decide (at_ < 0) = true := decide_eq_true h1
    have B1 := Aside0.mk (blk_alloc (blk_new w (.cells #[.int .i64 k, .int .u64 st, .int .u64 ic, .slice A l.length c, .int .i64 at_] 71 (0, 0))) (.cells #[.int .i64 0, .int .u64 0, .int .u64 0, .slice none 0 0, .int .i64 0] 25 (0, 0)))
    have B3 := Aside0.mk (blk_new (w.alloc (.cells #[.int .i64 k, .int .u64 st, .int .u64 ic, .slice A l.length c, .int .i64 at_] 71 (0, 0))) (.cells #[.int .i64 0, .int .u64 0, .int .u64 0, .slice none 0 0, .int .i64 0] 25 (0, 0)))
    have E3 := Aside0.mk (Go.Proofs.YtjiogchafnpkhaaS.size_alloc w (.cells #[.int .i64 k, .int .u64 st, .int .u64 ic, .slice A l.length c, .int .i64 at_] 71 (0, 0)))
    have HB := Aside0.mk (below_alloc (below_alloc (Below.refl w.heap.size w) (.cells #[.int .i64 k, .int .u64 st, .int .u64 ic, .slice A l.length c, .int .i64 at_] 71 (0, 0))) (.cells #[.int .i64 0, .int .u64 0, .int .u64 0, .slice none 0 0, .int .i64 0] 25 (0, 0)))
    have hc0 : ((w.alloc (.cells #[.int .i64 k, .int .u64 st, .int .u64 ic, .slice A l.length c, .int .i64 at_] 71 (0, 0))).alloc (.cells #[.int .i64 0, .int .u64 0, .int .u64 0, .slice none 0 0, .int .i64 0] 25 (0, 0))).cell? ⟨w.heap.size, 0, none⟩ = some (.int .i64 k) := (blk_cell B1.out 0).trans rfl
    have hk0 := blk_frozen B1.out 0
    have hc1 : ((w.alloc (.cells #[.int .i64 k, .int .u64 st, .int .u64 ic, .slice A l.length c, .int .i64 at_] 71 (0, 0))).alloc (.cells #[.int .i64 0, .int .u64 0, .int .u64 0, .slice none 0 0, .int .i64 0] 25 (0, 0))).cell? ⟨w.heap.size, 1, none⟩ = some (.int .u64 st) := (blk_cell B1.out 1).trans rfl
    have hk1 := blk_frozen B1.out 1
    have hc2 : ((w.alloc (.cells #[.int .i64 k, .int .u64 st, .int .u64 ic, .slice A l.length c, .int .i64 at_] 71 (0, 0))).alloc (.cells #[.int .i64 0, .int .u64 0, .int .u64 0, .slice none 0 0, .int .i64 0] 25 (0, 0))).cell? ⟨w.heap.size, 2, none⟩ = some (.int .u64 ic) := (blk_cell B1.out 2).trans rfl
    have hk2 := blk_frozen B1.out 2
    have hc3 : ((w.alloc (.cells #[.int .i64 k, .int .u64 st, .int .u64 ic, .slice A l.length c, .int .i64 at_] 71 (0, 0))).alloc (.cells #[.int .i64 0, .int .u64 0, .int .u64 0, .slice none 0 0, .int .i64 0] 25 (0, 0))).cell? ⟨w.heap.size, 3, none⟩ = some (.slice A l.length c) := (blk_cell B1.out 3).trans rfl
    have hk3 := blk_frozen B1.out 3
    have hc4 : ((w.alloc (.cells #[.int .i64 k, .int .u64 st, .int .u64 ic, .slice A l.length c, .int .i64 at_] 71 (0, 0))).alloc (.cells #[.int .i64 0, .int .u64 0, .int .u64 0, .slice none 0 0, .int .i64 0] 25 (0, 0))).cell? ⟨w.heap.size, 4, none⟩ = some (.int .i64 at_) := (blk_cell B1.out 4).trans rfl
    have hk4 := blk_frozen B1.out 4
    go_enter Try.func61, Try.ntmps61
    go_wp2_with fail
    clear hc0 hk0 hc1 hk1 hc2 hk2 hc3 hk3 hc4 hk4
    simp only [Go.Proofs.YtjiogchafnpkhaaS.size_alloc] at *
    generalize hg1 : w.heap.size = g1 at *
    generalize hg3 : g1 + 1 = g3 at *
    have NG : Aside0 (g1 < g3) := ⟨by omega⟩
    have GE1 : Aside0 (w.heap.size ≤ g1) := ⟨by omega⟩
    have GE3 : Aside0 (w.heap.size ≤ g3) := ⟨by omega⟩
    clear hg3 E3
    generalize (w.alloc (.cells #[.int .i64 k, .int .u64 st, .int .u64 ic, .slice A l.length c, .int .i64 at_] 71 (0, 0))).alloc (.cells #[.int .i64 0, .int .u64 0, .int .u64 0, .slice none 0 0, .int .i64 0] 25 (0, 0)) = W0 at *
    replace HB : Aside0 (Below w.heap.size w W0) := by rw [hg1]; exact HB
    refine start_ (n := 4) (S := fun w' => w'.cell? ⟨g1, 0, none⟩ = some (.int .i64 k) ∧ w'.cell? ⟨g1, 1, none⟩ = some (.int .u64 st) ∧ w'.cell? ⟨g1, 2, none⟩ = some (.int .u64 ic) ∧ w'.cell? ⟨g1, 3, none⟩ = some (.slice A l.length c) ∧ w'.cell? ⟨g1, 4, none⟩ = some (.int .i64 at_)) (ds := [3]) #[false, false, false, false] (by kernel_rfl) rfl rfl ⟨(blk_cell B1.out 0).trans rfl, (blk_cell B1.out 1).trans rfl, (blk_cell B1.out 2).trans rfl, (blk_cell B1.out 3).trans rfl, (blk_cell B1.out 4).trans rfl⟩ (fun hHeld => ?_)
    replace B1 := Aside0.mk (blk_drew B1.out)
    replace B3 := Aside0.mk (blk_drew B3.out)
    replace HB := Aside0.mk (below_drew1 HB.out)
    generalize W0.drew = W1 at B1 B3 HB hHeld ⊢
    refine pure_ (i := 0) (N := (some 19)) (v := ?_) (a' := ?_) #[true, false, false, false] rfl rfl (by kernel_rfl) (fun _ _ _ h => h) (Or.inl ⟨by rfl, ?_⟩) ?_ ?_
    rotate_left
    · intro w'
      go_simp
      with_reducible rfl
    rotate_left
    · simp only [Act.put, List.setIfInBounds_toArray, List.set_cons_zero, List.set_cons_succ, i64_w, i32_w]
      rfl
    refine take_ (i := 1) (N := (some 20)) (v := ?_) (a' := ?_) #[true, true, false, false] rfl rfl (by kernel_rfl) (fun _ _ _ h => h) (Or.inl ⟨by rfl, ?_⟩) hHeld ?_ ?_
    rotate_left
    · rintro w' ⟨s0, s1, s2, s3, s4⟩
      go_simp
      with_reducible rfl
    rotate_left
    · simp only [Act.put, List.setIfInBounds_toArray, List.set_cons_zero, List.set_cons_succ, i64_w, i32_w]
      rfl
    refine pure_ (i := 2) (N := (some 2)) (v := ?_) (a' := ?_) #[true, true, true, false] rfl rfl (by kernel_rfl) (fun _ _ _ h => h) (Or.inl ⟨by rfl, ?_⟩) ?_ ?_
    rotate_left
    · intro w'
      go_simp
      with_reducible rfl
    rotate_left
    · simp only [Act.put, List.setIfInBounds_toArray, List.set_cons_zero, List.set_cons_succ, i64_w, i32_w]
      rfl
    refine last_ (i := 3) (N := none) #[true, true, true, true] rfl rfl (by kernel_rfl) (by decide) (fun K hK => ?_)
    have hs0 : W1.cell? ⟨g3, 0, none⟩ = some (.int .i64 0) := (blk_cell B3.out 0).trans rfl
    have hf0 := blk_frozen B3.out 0
    have hs1 : W1.cell? ⟨g3, 1, none⟩ = some (.int .u64 0) := (blk_cell B3.out 1).trans rfl
    have hf1 := blk_frozen B3.out 1
    have hs2 : W1.cell? ⟨g3, 2, none⟩ = some (.int .u64 0) := (blk_cell B3.out 2).trans rfl
    have hf2 := blk_frozen B3.out 2
    have hs3 : W1.cell? ⟨g3, 3, none⟩ = some (.slice none 0 0) := (blk_cell B3.out 3).trans rfl
    have hf3 := blk_frozen B3.out 3
    have hs4 : W1.cell? ⟨g3, 4, none⟩ = some (.int .i64 0) := (blk_cell B3.out 4).trans rfl
    have hf4 := blk_frozen B3.out 4
    refine skip_ (w1 := ?_) (by rfl) rfl ?_ ?_
    rotate_left
    · go_simp
      rfl
    refine hK.out _ _ ?_
    clear hK K
    refine done_ (by kernel_rfl) ?_
    try go_wp2
    have q0 := blk_set B3.out 0 (.int .i64 k)
    have q1 := blk_set q0 1 (.int .u64 st)
    have q2 := blk_set q1 2 (.int .u64 ic)
    have q3 := blk_set q2 3 (.slice A l.length c)
    have q4 := blk_set q3 4 (.int .i64 at_)
    (try simp only [Exit.inBlock, Exit.then])
    refine bodyPost_ret (results_list (rs := [.tmp 2, .cell 3 25]) rfl (by simp) (.tmp (.cell g3 25 #[.int .i64 k, .int .u64 st, .int .u64 ic, .slice A l.length c, .int .i64 at_] (0, 0) _ rfl (q4.trans (by rfl)) Try.underlying25 rfl (by kernel_rfl) .nil))) rfl ⟨rfl, ?_⟩
    have fin := below_set (j := 4) (v := (.int .i64 at_)) (below_set (j := 3) (v := (.slice A l.length c)) (below_set (j := 2) (v := (.int .u64 ic)) (below_set (j := 1) (v := (.int .u64 st)) (below_set (j := 0) (v := (.int .i64 k)) HB.out GE3.out) GE3.out) GE3.out) GE3.out) GE3.out
    first | exact fin | (rw [hg1] at fin; exact fin)
  · have c1 : decide (at_ < 0) = false := decide_eq_false h1
    by_cases h2 : (l.length : Int) ≤ at_
    · have e1 : tapeX l at_ = 0 := if_neg (by omega)
      have e2 : tapeAt l at_ = at_ := if_neg (by omega)
      rw [e1, e2]
      clear e1 e2
      have c2 : decide ((l.length : Int) ≤ at_) = true := decide_eq_true h2
      have B1 := Aside0.mk (blk_alloc (blk_new w (.cells #[.int .i64 k, .int .u64 st, .int .u64 ic, .slice A l.length c, .int .i64 at_] 71 (0, 0))) (.cells #[.int .i64 0, .int .u64 0, .int .u64 0, .slice none 0 0, .int .i64 0] 25 (0, 0)))
      have B3 := Aside0.mk (blk_new (w.alloc (.cells #[.int .i64 k, .int .u64 st, .int .u64 ic, .slice A l.length c, .int .i64 at_] 71 (0, 0))) (.cells #[.int .i64 0, .int .u64 0, .int .u64 0, .slice none 0 0, .int .i64 0] 25 (0, 0)))
      have E3 := Aside0.mk (Go.Proofs.YtjiogchafnpkhaaS.size_alloc w (.cells #[.int .i64 k, .int .u64 st, .int .u64 ic, .slice A l.length c, .int .i64 at_] 71 (0, 0)))
      have HB := Aside0.mk (below_alloc (below_alloc (Below.refl w.heap.size w) (.cells #[.int .i64 k, .int .u64 st, .int .u64 ic, .slice A l.length c, .int .i64 at_] 71 (0, 0))) (.cells #[.int .i64 0, .int .u64 0, .int .u64 0, .slice none 0 0, .int .i64 0] 25 (0, 0)))
      have hc0 : ((w.alloc (.cells #[.int .i64 k, .int .u64 st, .int .u64 ic, .slice A l.length c, .int .i64 at_] 71 (0, 0))).alloc (.cells #[.int .i64 0, .int .u64 0, .int .u64 0, .slice none 0 0, .int .i64 0] 25 (0, 0))).cell? ⟨w.heap.size, 0, none⟩ = some (.int .i64 k) := (blk_cell B1.out 0).trans rfl
      have hk0 := blk_frozen B1.out 0
      have hc1 : ((w.alloc (.cells #[.int .i64 k, .int .u64 st, .int .u64 ic, .slice A l.length c, .int .i64 at_] 71 (0, 0))).alloc (.cells #[.int .i64 0, .int .u64 0, .int .u64 0, .slice none 0 0, .int .i64 0] 25 (0, 0))).cell? ⟨w.heap.size, 1, none⟩ = some (.int .u64 st) := (blk_cell B1.out 1).trans rfl
      have hk1 := blk_frozen B1.out 1
      have hc2 : ((w.alloc (.cells #[.int .i64 k, .int .u64 st, .int .u64 ic, .slice A l.length c, .int .i64 at_] 71 (0, 0))).alloc (.cells #[.int .i64 0, .int .u64 0, .int .u64 0, .slice none 0 0, .int .i64 0] 25 (0, 0))).cell? ⟨w.heap.size, 2, none⟩ = some (.int .u64 ic) := (blk_cell B1.out 2).trans rfl
      have hk2 := blk_frozen B1.out 2
      have hc3 : ((w.alloc (.cells #[.int .i64 k, .int .u64 st, .int .u64 ic, .slice A l.length c, .int .i64 at_] 71 (0, 0))).alloc (.cells #[.int .i64 0, .int .u64 0, .int .u64 0, .slice none 0 0, .int .i64 0] 25 (0, 0))).cell? ⟨w.heap.size, 3, none⟩ = some (.slice A l.length c) := (blk_cell B1.out 3).trans rfl
      have hk3 := blk_frozen B1.out 3
      have hc4 : ((w.alloc (.cells #[.int .i64 k, .int .u64 st, .int .u64 ic, .slice A l.length c, .int .i64 at_] 71 (0, 0))).alloc (.cells #[.int .i64 0, .int .u64 0, .int .u64 0, .slice none 0 0, .int .i64 0] 25 (0, 0))).cell? ⟨w.heap.size, 4, none⟩ = some (.int .i64 at_) := (blk_cell B1.out 4).trans rfl
      have hk4 := blk_frozen B1.out 4
      go_enter Try.func61, Try.ntmps61
      go_wp2_with fail
      clear hc0 hk0 hc1 hk1 hc2 hk2 hc3 hk3 hc4 hk4
      simp only [Go.Proofs.YtjiogchafnpkhaaS.size_alloc] at *
      generalize hg1 : w.heap.size = g1 at *
      generalize hg3 : g1 + 1 = g3 at *
      have NG : Aside0 (g1 < g3) := ⟨by omega⟩
      have GE1 : Aside0 (w.heap.size ≤ g1) := ⟨by omega⟩
      have GE3 : Aside0 (w.heap.size ≤ g3) := ⟨by omega⟩
      clear hg3 E3
      generalize (w.alloc (.cells #[.int .i64 k, .int .u64 st, .int .u64 ic, .slice A l.length c, .int .i64 at_] 71 (0, 0))).alloc (.cells #[.int .i64 0, .int .u64 0, .int .u64 0, .slice none 0 0, .int .i64 0] 25 (0, 0)) = W0 at *
      replace HB : Aside0 (Below w.heap.size w W0) := by rw [hg1]; exact HB
      refine start_ (n := 4) (S := fun w' => w'.cell? ⟨g1, 0, none⟩ = some (.int .i64 k) ∧ w'.cell? ⟨g1, 1, none⟩ = some (.int .u64 st) ∧ w'.cell? ⟨g1, 2, none⟩ = some (.int .u64 ic) ∧ w'.cell? ⟨g1, 3, none⟩ = some (.slice A l.length c) ∧ w'.cell? ⟨g1, 4, none⟩ = some (.int .i64 at_)) (ds := [3]) #[false, false, false, false] (by kernel_rfl) rfl rfl ⟨(blk_cell B1.out 0).trans rfl, (blk_cell B1.out 1).trans rfl, (blk_cell B1.out 2).trans rfl, (blk_cell B1.out 3).trans rfl, (blk_cell B1.out 4).trans rfl⟩ (fun hHeld => ?_)
      replace B1 := Aside0.mk (blk_drew B1.out)
      replace B3 := Aside0.mk (blk_drew B3.out)
      replace HB := Aside0.mk (below_drew1 HB.out)
      generalize W0.drew = W1 at B1 B3 HB hHeld ⊢
      refine pure_ (i := 0) (N := (some 19)) (v := ?_) (a' := ?_) #[true, false, false, false] rfl rfl (by kernel_rfl) (fun _ _ _ h => h) (Or.inl ⟨by rfl, ?_⟩) ?_ ?_
      rotate_left
      · intro w'
        go_simp
        with_reducible rfl
      rotate_left
      · simp only [Act.put, List.setIfInBounds_toArray, List.set_cons_zero, List.set_cons_succ, i64_w, i32_w]
        rfl
      refine take_ (i := 1) (N := (some 20)) (v := ?_) (a' := ?_) #[true, true, false, false] rfl rfl (by kernel_rfl) (fun _ _ _ h => h) (Or.inl ⟨by rfl, ?_⟩) hHeld ?_ ?_
      rotate_left
      · rintro w' ⟨s0, s1, s2, s3, s4⟩
        go_simp
        with_reducible rfl
      rotate_left
      · simp only [Act.put, List.setIfInBounds_toArray, List.set_cons_zero, List.set_cons_succ, i64_w, i32_w]
        rfl
      refine pure_ (i := 2) (N := (some 2)) (v := ?_) (a' := ?_) #[true, true, true, false] rfl rfl (by kernel_rfl) (fun _ _ _ h => h) (Or.inl ⟨by rfl, ?_⟩) ?_ ?_
      rotate_left
      · intro w'
        go_simp
        with_reducible rfl
      rotate_left
      · simp only [Act.put, List.setIfInBounds_toArray, List.set_cons_zero, List.set_cons_succ, i64_w, i32_w]
        rfl
      refine last_ (i := 3) (N := none) #[true, true, true, true] rfl rfl (by kernel_rfl) (by decide) (fun K hK => ?_)
      have hs0 : W1.cell? ⟨g3, 0, none⟩ = some (.int .i64 0) := (blk_cell B3.out 0).trans rfl
      have hf0 := blk_frozen B3.out 0
      have hs1 : W1.cell? ⟨g3, 1, none⟩ = some (.int .u64 0) := (blk_cell B3.out 1).trans rfl
      have hf1 := blk_frozen B3.out 1
      have hs2 : W1.cell? ⟨g3, 2, none⟩ = some (.int .u64 0) := (blk_cell B3.out 2).trans rfl
      have hf2 := blk_frozen B3.out 2
      have hs3 : W1.cell? ⟨g3, 3, none⟩ = some (.slice none 0 0) := (blk_cell B3.out 3).trans rfl
      have hf3 := blk_frozen B3.out 3
      have hs4 : W1.cell? ⟨g3, 4, none⟩ = some (.int .i64 0) := (blk_cell B3.out 4).trans rfl
      have hf4 := blk_frozen B3.out 4
      refine skip_ (w1 := ?_) (by rfl) rfl ?_ ?_
      rotate_left
      · go_simp
        rfl
      refine hK.out _ _ ?_
      clear hK K
      refine done_ (by kernel_rfl) ?_
      try go_wp2
      have q0 := blk_set B3.out 0 (.int .i64 k)
      have q1 := blk_set q0 1 (.int .u64 st)
      have q2 := blk_set q1 2 (.int .u64 ic)
      have q3 := blk_set q2 3 (.slice A l.length c)
      have q4 := blk_set q3 4 (.int .i64 at_)
      (try simp only [Exit.inBlock, Exit.then])
      refine bodyPost_ret (results_list (rs := [.tmp 2, .cell 3 25]) rfl (by simp) (.tmp (.cell g3 25 #[.int .i64 k, .int .u64 st, .int .u64 ic, .slice A l.length c, .int .i64 at_] (0, 0) _ rfl (q4.trans (by rfl)) Try.underlying25 rfl (by kernel_rfl) .nil))) rfl ⟨rfl, ?_⟩
      have fin := below_set (j := 4) (v := (.int .i64 at_)) (below_set (j := 3) (v := (.slice A l.length c)) (below_set (j := 2) (v := (.int .u64 ic)) (below_set (j := 1) (v := (.int .u64 st)) (below_set (j := 0) (v := (.int .i64 k)) HB.out GE3.out) GE3.out) GE3.out) GE3.out) GE3.out
      first | exact fin | (rw [hg1] at fin; exact fin)
    · have c2 : decide ((l.length : Int) ≤ at_) = false := decide_eq_false h2
      obtain ⟨j, rfl⟩ : ∃ j : Nat, at_ = (j : Int) := ⟨at_.toNat, by omega⟩
      have e1 : tapeX l (j : Int) = rdOf 0 l (j : Int) % 4294967296 := if_pos (by omega)
      have e2 : tapeAt l (j : Int) = (j : Int) + 1 := if_pos (by omega)
      rw [e1, e2]
      clear e1 e2
      have hj0 : (0 : Int) ≤ (j : Int) := by omega
      have hj1 : (j : Int) < (l.length : Int) := by omega
      have hw : IntKind.i64.wrap ((j : Int) + 1) = (j : Int) + 1 := IntWalk.i64_in _ ⟨by omega, by omega⟩
      obtain ⟨ad, e, hx⟩ := HRI.out.at_ (j : Int) hj0 hj1
      rw [Int.toNat_natCast] at hx
      generalize rdOf 0 l (j : Int) = x at *
      subst e
      have B1 := Aside0.mk (blk_alloc (blk_new w (.cells #[.int .i64 k, .int .u64 st, .int .u64 ic, .slice (some ad) l.length c, .int .i64 (j : Int)] 71 (0, 0))) (.cells #[.int .i64 0, .int .u64 0, .int .u64 0, .slice none 0 0, .int .i64 0] 25 (0, 0)))
      have B3 := Aside0.mk (blk_new (w.alloc (.cells #[.int .i64 k, .int .u64 st, .int .u64 ic, .slice (some ad) l.length c, .int .i64 (j : Int)] 71 (0, 0))) (.cells #[.int .i64 0, .int .u64 0, .int .u64 0, .slice none 0 0, .int .i64 0] 25 (0, 0)))
      have E3 := Aside0.mk (Go.Proofs.YtjiogchafnpkhaaS.size_alloc w (.cells #[.int .i64 k, .int .u64 st, .int .u64 ic, .slice (some ad) l.length c, .int .i64 (j : Int)] 71 (0, 0)))
      have HB := Aside0.mk (below_alloc (below_alloc (Below.refl w.heap.size w) (.cells #[.int .i64 k, .int .u64 st, .int .u64 ic, .slice (some ad) l.length c, .int .i64 (j : Int)] 71 (0, 0))) (.cells #[.int .i64 0, .int .u64 0, .int .u64 0, .slice none 0 0, .int .i64 0] 25 (0, 0)))
      have hc0 : ((w.alloc (.cells #[.int .i64 k, .int .u64 st, .int .u64 ic, .slice (some ad) l.length c, .int .i64 (j : Int)] 71 (0, 0))).alloc (.cells #[.int .i64 0, .int .u64 0, .int .u64 0, .slice none 0 0, .int .i64 0] 25 (0, 0))).cell? ⟨w.heap.size, 0, none⟩ = some (.int .i64 k) := (blk_cell B1.out 0).trans rfl
      have hk0 := blk_frozen B1.out 0
      have hc1 : ((w.alloc (.cells #[.int .i64 k, .int .u64 st, .int .u64 ic, .slice (some ad) l.length c, .int .i64 (j : Int)] 71 (0, 0))).alloc (.cells #[.int .i64 0, .int .u64 0, .int .u64 0, .slice none 0 0, .int .i64 0] 25 (0, 0))).cell? ⟨w.heap.size, 1, none⟩ = some (.int .u64 st) := (blk_cell B1.out 1).trans rfl
      have hk1 := blk_frozen B1.out 1
      have hc2 : ((w.alloc (.cells #[.int .i64 k, .int .u64 st, .int .u64 ic, .slice (some ad) l.length c, .int .i64 (j : Int)] 71 (0, 0))).alloc (.cells #[.int .i64 0, .int .u64 0, .int .u64 0, .slice none 0 0, .int .i64 0] 25 (0, 0))).cell? ⟨w.heap.size, 2, none⟩ = some (.int .u64 ic) := (blk_cell B1.out 2).trans rfl
      have hk2 := blk_frozen B1.out 2
      have hc3 : ((w.alloc (.cells #[.int .i64 k, .int .u64 st, .int .u64 ic, .slice (some ad) l.length c, .int .i64 (j : Int)] 71 (0, 0))).alloc (.cells #[.int .i64 0, .int .u64 0, .int .u64 0, .slice none 0 0, .int .i64 0] 25 (0, 0))).cell? ⟨w.heap.size, 3, none⟩ = some (.slice (some ad) l.length c) := (blk_cell B1.out 3).trans rfl
      have hk3 := blk_frozen B1.out 3
      have hc4 : ((w.alloc (.cells #[.int .i64 k, .int .u64 st, .int .u64 ic, .slice (some ad) l.length c, .int .i64 (j : Int)] 71 (0, 0))).alloc (.cells #[.int .i64 0, .int .u64 0, .int .u64 0, .slice none 0 0, .int .i64 0] 25 (0, 0))).cell? ⟨w.heap.size, 4, none⟩ = some (.int .i64 (j : Int)) := (blk_cell B1.out 4).trans rfl
      have hk4 := blk_frozen B1.out 4
      replace hx := (HB.out.cell (World.block_lt_of_cell? w _ hx)).trans hx
      clear B1 B3 E3 HB
      have B1 := Aside0.mk (blk_alloc (blk_new w (.cells #[.int .i64 k, .int .u64 st, .int .u64 ic, .slice (some ad) l.length c, .int .i64 ((j : Int) + 1)] 71 (0, 0))) (.cells #[.int .i64 0, .int .u64 0, .int .u64 0, .slice none 0 0, .int .i64 0] 25 (0, 0)))
      have B3 := Aside0.mk (blk_new (w.alloc (.cells #[.int .i64 k, .int .u64 st, .int .u64 ic, .slice (some ad) l.length c, .int .i64 ((j : Int) + 1)] 71 (0, 0))) (.cells #[.int .i64 0, .int .u64 0, .int .u64 0, .slice none 0 0, .int .i64 0] 25 (0, 0)))
      have E3 := Aside0.mk (Go.Proofs.YtjiogchafnpkhaaS.size_alloc w (.cells #[.int .i64 k, .int .u64 st, .int .u64 ic, .slice (some ad) l.length c, .int .i64 ((j : Int) + 1)] 71 (0, 0)))
      have HB := Aside0.mk (below_alloc (below_alloc (Below.refl w.heap.size w) (.cells #[.int .i64 k, .int .u64 st, .int .u64 ic, .slice (some ad) l.length c, .int .i64 ((j : Int) + 1)] 71 (0, 0))) (.cells #[.int .i64 0, .int .u64 0, .int .u64 0, .slice none 0 0, .int .i64 0] 25 (0, 0)))
      go_enter Try.func61, Try.ntmps61
      go_wp2_with fail
      clear hc0 hk0 hc1 hk1 hc2 hk2 hc3 hk3 hc4 hk4
      clear hx
      simp only [Go.Proofs.YtjiogchafnpkhaaS.size_alloc] at *
      generalize hg1 : w.heap.size = g1 at *
      generalize hg3 : g1 + 1 = g3 at *
      have NG : Aside0 (g1 < g3) := ⟨by omega⟩
      have GE1 : Aside0 (w.heap.size ≤ g1) := ⟨by omega⟩
      have GE3 : Aside0 (w.heap.size ≤ g3) := ⟨by omega⟩
      clear hg3 E3
      generalize (w.alloc (.cells #[.int .i64 k, .int .u64 st, .int .u64 ic, .slice (some ad) l.length c, .int .i64 ((j : Int) + 1)] 71 (0, 0))).alloc (.cells #[.int .i64 0, .int .u64 0, .int .u64 0, .slice none 0 0, .int .i64 0] 25 (0, 0)) = W0 at *
      replace HB : Aside0 (Below w.heap.size w W0) := by rw [hg1]; exact HB
      refine start_ (n := 5) (S := fun w' => w'.cell? ⟨g1, 0, none⟩ = some (.int .i64 k) ∧ w'.cell? ⟨g1, 1, none⟩ = some (.int .u64 st) ∧ w'.cell? ⟨g1, 2, none⟩ = some (.int .u64 ic) ∧ w'.cell? ⟨g1, 3, none⟩ = some (.slice (some ad) l.length c) ∧ w'.cell? ⟨g1, 4, none⟩ = some (.int .i64 ((j : Int) + 1))) (ds := [4]) #[false, false, false, false, false] (by kernel_rfl) rfl rfl ⟨(blk_cell B1.out 0).trans rfl, (blk_cell B1.out 1).trans rfl, (blk_cell B1.out 2).trans rfl, (blk_cell B1.out 3).trans rfl, (blk_cell B1.out 4).trans rfl⟩ (fun hHeld => ?_)
      replace B1 := Aside0.mk (blk_drew B1.out)
      replace B3 := Aside0.mk (blk_drew B3.out)
      replace HB := Aside0.mk (below_drew1 HB.out)
      generalize W0.drew = W1 at B1 B3 HB hHeld ⊢
      refine pure_ (i := 0) (N := (some 36)) (v := ?_) (a' := ?_) #[true, false, false, false, false] rfl rfl (by kernel_rfl) (fun _ _ _ h => h) (Or.inl ⟨by rfl, ?_⟩) ?_ ?_
      rotate_left
      · intro w'
        go_simp
        with_reducible rfl
      rotate_left
      · simp only [Act.put, List.setIfInBounds_toArray, List.set_cons_zero, List.set_cons_succ, i64_w, i32_w]
        rfl
      refine pure_ (i := 1) (N := (some 37)) (v := ?_) (a' := ?_) #[true, true, false, false, false] rfl rfl (by kernel_rfl) (fun _ _ _ h => h) (Or.inl ⟨by rfl, ?_⟩) ?_ ?_
      rotate_left
      · intro w'
        go_simp
        with_reducible rfl
      rotate_left
      · simp only [Act.put, List.setIfInBounds_toArray, List.set_cons_zero, List.set_cons_succ, i64_w, i32_w]
        rfl
      refine take_ (i := 2) (N := (some 38)) (v := ?_) (a' := ?_) #[true, true, true, false, false] rfl rfl (by kernel_rfl) (fun _ _ _ h => h) (Or.inl ⟨by rfl, ?_⟩) hHeld ?_ ?_
      rotate_left
      · rintro w' ⟨s0, s1, s2, s3, s4⟩
        go_simp
        with_reducible rfl
      rotate_left
      · simp only [Act.put, List.setIfInBounds_toArray, List.set_cons_zero, List.set_cons_succ, i64_w, i32_w]
        rfl
      refine pure_ (i := 3) (N := (some 2)) (v := ?_) (a' := ?_) #[true, true, true, true, false] rfl rfl (by kernel_rfl) (fun _ _ _ h => h) (Or.inl ⟨by rfl, ?_⟩) ?_ ?_
      rotate_left
      · intro w'
        go_simp
        with_reducible rfl
      rotate_left
      · simp only [Act.put, List.setIfInBounds_toArray, List.set_cons_zero, List.set_cons_succ, i64_w, i32_w]
        rfl
      refine last_ (i := 4) (N := none) #[true, true, true, true, true] rfl rfl (by kernel_rfl) (by decide) (fun K hK => ?_)
      have hs0 : W1.cell? ⟨g3, 0, none⟩ = some (.int .i64 0) := (blk_cell B3.out 0).trans rfl
      have hf0 := blk_frozen B3.out 0
      have hs1 : W1.cell? ⟨g3, 1, none⟩ = some (.int .u64 0) := (blk_cell B3.out 1).trans rfl
      have hf1 := blk_frozen B3.out 1
      have hs2 : W1.cell? ⟨g3, 2, none⟩ = some (.int .u64 0) := (blk_cell B3.out 2).trans rfl
      have hf2 := blk_frozen B3.out 2
      have hs3 : W1.cell? ⟨g3, 3, none⟩ = some (.slice none 0 0) := (blk_cell B3.out 3).trans rfl
      have hf3 := blk_frozen B3.out 3
      have hs4 : W1.cell? ⟨g3, 4, none⟩ = some (.int .i64 0) := (blk_cell B3.out 4).trans rfl
      have hf4 := blk_frozen B3.out 4
      refine skip_ (w1 := ?_) (by rfl) rfl ?_ ?_
      rotate_left
      · go_simp
        rfl
      refine hK.out _ _ ?_
      clear hK K
      refine done_ (by kernel_rfl) ?_
      try go_wp2
      have q0 := blk_set B3.out 0 (.int .i64 k)
      have q1 := blk_set q0 1 (.int .u64 st)
      have q2 := blk_set q1 2 (.int .u64 ic)
      have q3 := blk_set q2 3 (.slice (some ad) l.length c)
      have q4 := blk_set q3 4 (.int .i64 ((j : Int) + 1))
      (try simp only [Exit.inBlock, Exit.then])
      refine bodyPost_ret (results_list (rs := [.tmp 2, .cell 3 25]) rfl (by simp) (.tmp (.cell g3 25 #[.int .i64 k, .int .u64 st, .int .u64 ic, .slice (some ad) l.length c, .int .i64 ((j : Int) + 1)] (0, 0) _ rfl (q4.trans (by rfl)) Try.underlying25 rfl (by kernel_rfl) .nil))) rfl ⟨rfl, ?_⟩
      have fin := below_set (j := 4) (v := (.int .i64 ((j : Int) + 1))) (below_set (j := 3) (v := (.slice (some ad) l.length c)) (below_set (j := 2) (v := (.int .u64 ic)) (below_set (j := 1) (v := (.int .u64 st)) (below_set (j := 0) (v := (.int .i64 k)) HB.out GE3.out) GE3.out) GE3.out) GE3.out) GE3.out
      first | exact fin | (rw [hg1] at fin; exact fin)
end
section
open Go.RowKit Go.Proofs.YtjiogchafnpkhaaW.PrintWords Go.Proofs.YtjiogchafnpkhaaW.PrintLast Go.Proofs.YtjiogchafnpkhaaW.PrintMore
attribute [local go_sem] max2_int min2_int max_two min_two max_three min_three max_four min_four
attribute [local go_sem] Go.Proofs.YtjiogchafnpkhaaS.cell_set_map Go.Proofs.YtjiogchafnpkhaaS.setCell_drewN
set_option linter.unusedVariables false
set_option linter.unusedSimpArgs false
theorem meth70 (cs : Array Value) (w : World) : (Go.method 190 70 (.agg cs) "pacemaker/draw.next").run Try.prog w = .ok (59, .agg cs) w := by kernel_rfl
theorem meth71 (cs : Array Value) (w : World) : (Go.method 190 71 (.agg cs) "pacemaker/draw.next").run Try.prog w = .ok (61, .agg cs) w := by kernel_rfl
theorem meth72 (cs : Array Value) (w : World) : (Go.method 190 72 (.agg cs) "pacemaker/draw.next").run Try.prog w = .ok (62, .agg cs) w := by kernel_rfl
theorem enter59 (args : Array Value) (w : World) : (callFunc 59 args).run Try.prog w = .ok (.enter 59 args) w := by kernel_rfl
theorem enter61 (args : Array Value) (w : World) : (callFunc 61 args).run Try.prog w = .ok (.enter 61 args) w := by kernel_rfl
theorem enter62 (args : Array Value) (w : World) : (callFunc 62 args).run Try.prog w = .ok (.enter 62 args) w := by kernel_rfl
attribute [local go_sem] meth70 meth71 meth72 enter59 enter61 enter62
/-- A call through an interface, once it is known where it goes. -/
theorem goesI_ {P : Program} {ops : Array Oper} {Q : Exit → Act → World → Prop} {rest : List Oper} {oi : Oper} {a : Act} {w : World} (N : Option Tmp) (hd : oi.dst = N) (hg : oi.guard = none) (f : FuncId) (args : Array Value) (hrun : (execOp a.eval oi).run P w = .ok (.enter f args) w)
    (h : Calls P f args w fun e w' => ∃ v, e = .returned v ∧ wpList P ops Q rest (a.put N v) w') : wpList P ops Q (oi :: rest) a w := by
  refine wpList_plain hg fun K hK => ?_
  unfold Oper.wp
  rw [hrun, Oper.upon_enter]
  refine h.mono fun e w'' hh => ?_
  obtain ⟨v, rfl, hk⟩ := hh
  subst hd
  exact hK _ _ hk
theorem of_none (k st ic at_ : Int) (A : Option Addr) (n c : Nat) (w : World) (h1 : k ≠ 1) (h2 : k ≠ 2) : Calls Try.prog 41 #[.agg #[.int .i64 k, .int .u64 st, .int .u64 ic, .slice A n c, .int .i64 at_]] w fun e w' => e = .returned (.iface 72 (.agg #[.int .i64 k, .int .u64 st, .int .u64 ic, .slice A n c, .int .i64 at_])) ∧ Below w.heap.size w w' := by
  have := of_calls k st ic at_ A n c w
  rwa [if_neg h1, if_neg h2] at this
set_option maxHeartbeats 4000000 in
set_option maxRecDepth 100000 in
theorem next_pcg (st ic at_ : Int) (A : Option Addr) (n c : Nat) (w : World) : Calls Try.prog 13 #[.agg #[.int .i64 1, .int .u64 st, .int .u64 ic, .slice A n c, .int .i64 at_]] w fun e w' => e = .returned (.tuple #[.int .i64 (wrap64 (pcgX st)), .agg #[.int .i64 1, .int .u64 (pcgSt st ic), .int .u64 ic, .slice A n c, .int .i64 at_]]) ∧ Below w.heap.size w w' := by
  have hu25 := Try.underlying25
  have B1 := Aside0.mk (blk_alloc (blk_new w (.cells #[.int .i64 1, .int .u64 st, .int .u64 ic, .slice A n c, .int .i64 at_] 25 (0, 0))) (.cells #[.int .i64 0, .int .u64 0, .int .u64 0, .slice none 0 0, .int .i64 0] 25 (0, 0)))
  have B3 := Aside0.mk (blk_new (w.alloc (.cells #[.int .i64 1, .int .u64 st, .int .u64 ic, .slice A n c, .int .i64 at_] 25 (0, 0))) (.cells #[.int .i64 0, .int .u64 0, .int .u64 0, .slice none 0 0, .int .i64 0] 25 (0, 0)))
  have E3 := Aside0.mk (Go.Proofs.YtjiogchafnpkhaaS.size_alloc w (.cells #[.int .i64 1, .int .u64 st, .int .u64 ic, .slice A n c, .int .i64 at_] 25 (0, 0)))
  have HB := Aside0.mk (below_alloc (below_alloc (Below.refl w.heap.size w) (.cells #[.int .i64 1, .int .u64 st, .int .u64 ic, .slice A n c, .int .i64 at_] 25 (0, 0))) (.cells #[.int .i64 0, .int .u64 0, .int .u64 0, .slice none 0 0, .int .i64 0] 25 (0, 0)))
  clear B1
  replace B3 := Aside0.mk (show (((w.alloc (.cells #[.int .i64 1, .int .u64 st, .int .u64 ic, .slice A n c, .int .i64 at_] 25 (0, 0))).alloc (.cells #[.int .i64 0, .int .u64 0, .int .u64 0, .slice none 0 0, .int .i64 0] 25 (0, 0))).heap[w.heap.size + 1]? = some (.cells #[.int .i64 0, .int .u64 0, .int .u64 0, .slice none 0 0, .int .i64 0] 25 (0, 0))) by have := B3.out; rwa [Go.Proofs.YtjiogchafnpkhaaS.size_alloc] at this)
  have GE3 : Aside0 (w.heap.size ≤ w.heap.size + 1) := ⟨by omega⟩
  clear E3
  go_enter Try.func13, Try.ntmps13
  go_wp2_with (first | ((with_reducible refine gate_callee (f := 41) rfl ?_); refine goesL_ (some 8) rfl rfl Try.func41 (by kernel_rfl) rfl #[.agg #[.int .i64 1, .int .u64 st, .int .u64 ic, .slice A n c, .int .i64 at_]] rfl (by (try simp only [List.map_toArray, List.map_cons, List.map_nil]); first | done | rfl) ?_; (refine (of_calls 1 st ic at_ A n c _).mono ?_); rintro e w1 ⟨rfl, hb⟩; refine ⟨_, rfl, ?_⟩; have n1_ := Aside0.mk (below_step HB.out hb); have n2_ := Aside0.mk (blk_below B3.out hb); clear HB B3 hb; have HB := n1_; have B3 := n2_; clear n1_ n2_) | ((with_reducible refine gate_dst (N := 9) rfl ?_); refine goesI_ (some 9) rfl rfl 59 #[.agg #[.int .i64 1, .int .u64 st, .int .u64 ic, .slice A n c, .int .i64 at_]] ?hr ?_; (case hr => (first | (go_simp; done) | (go_simp; rfl))); (refine (pcg_calls 1 st ic at_ A n c _).mono ?_); rintro e w2 ⟨rfl, hb⟩; refine ⟨_, rfl, ?_⟩; have n1_ := Aside0.mk (below_alloc (below_step HB.out hb) (.cells #[.int .i64 1, .int .u64 (pcgSt st ic), .int .u64 ic, .slice A n c, .int .i64 at_] 25 (0, 0))); have n2_ := Aside0.mk (blk_alloc (blk_below B3.out hb) (.cells #[.int .i64 1, .int .u64 (pcgSt st ic), .int .u64 ic, .slice A n c, .int .i64 at_] 25 (0, 0))); have B5 := Aside0.mk (blk_new w2 (.cells #[.int .i64 1, .int .u64 (pcgSt st ic), .int .u64 ic, .slice A n c, .int .i64 at_] 25 (0, 0))); clear HB B3 hb; have HB := n1_; have B3 := n2_; clear n1_ n2_))
  generalize w2.heap.size = g5 at *
  generalize w2.alloc (.cells #[.int .i64 1, .int .u64 (pcgSt st ic), .int .u64 ic, .slice A n c, .int .i64 at_] 25 (0, 0)) = W5 at *
  refine start_ (n := 5) (S := fun w' => w'.cell? ⟨g5, 0, none⟩ = some (.int .i64 1) ∧ w'.cell? ⟨g5, 1, none⟩ = some (.int .u64 (pcgSt st ic)) ∧ w'.cell? ⟨g5, 2, none⟩ = some (.int .u64 ic) ∧ w'.cell? ⟨g5, 3, none⟩ = some (.slice A n c) ∧ w'.cell? ⟨g5, 4, none⟩ = some (.int .i64 at_)) (ds := [4]) #[false, false, false, false, false] (by kernel_rfl) rfl rfl ⟨(blk_cell B5.out 0).trans rfl, (blk_cell B5.out 1).trans rfl, (blk_cell B5.out 2).trans rfl, (blk_cell B5.out 3).trans rfl, (blk_cell B5.out 4).trans rfl⟩ (fun hHeld => ?_)
  replace B5 := Aside0.mk (blk_drew B5.out)
  replace B3 := Aside0.mk (blk_drew B3.out)
  replace HB := Aside0.mk (below_drew1 HB.out)
  generalize W5.drew = W6 at B5 B3 HB hHeld ⊢
  refine pure_ (i := 0) (N := (some 12)) (v := ?_) (a' := ?_) #[true, false, false, false, false] rfl rfl (by kernel_rfl) (fun _ _ _ h => h) (Or.inl ⟨by rfl, ?_⟩) ?_ ?_
  rotate_left
  · intro w'
    go_simp
    with_reducible rfl
  rotate_left
  · simp only [Act.put, List.setIfInBounds_toArray, List.set_cons_zero, List.set_cons_succ, i64_w, i32_w]
    rfl
  refine pure_ (i := 1) (N := (some 13)) (v := ?_) (a' := ?_) #[true, true, false, false, false] rfl rfl (by kernel_rfl) (fun _ _ _ h => h) (Or.inl ⟨by rfl, ?_⟩) ?_ ?_
  rotate_left
  · intro w'
    go_simp
    with_reducible rfl
  rotate_left
  · simp only [Act.put, List.setIfInBounds_toArray, List.set_cons_zero, List.set_cons_succ, i64_w, i32_w]
    rfl
  refine take_ (i := 2) (N := (some 14)) (v := ?_) (a' := ?_) #[true, true, true, false, false] rfl rfl (by kernel_rfl) (fun _ _ _ h => h) (Or.inl ⟨by rfl, ?_⟩) hHeld ?_ ?_
  rotate_left
  · rintro w' ⟨s0, s1, s2, s3, s4⟩
    go_simp
    with_reducible rfl
  rotate_left
  · simp only [Act.put, List.setIfInBounds_toArray, List.set_cons_zero, List.set_cons_succ, i64_w, i32_w]
    rfl
  refine pure_ (i := 3) (N := (some 2)) (v := ?_) (a' := ?_) #[true, true, true, true, false] rfl rfl (by kernel_rfl) (fun _ _ _ h => h) (Or.inl ⟨by rfl, ?_⟩) ?_ ?_
  rotate_left
  · intro w'
    go_simp
    with_reducible rfl
  rotate_left
  · simp only [Act.put, List.setIfInBounds_toArray, List.set_cons_zero, List.set_cons_succ, i64_w, i32_w]
    rfl
  refine last_ (i := 4) (N := none) #[true, true, true, true, true] rfl rfl (by kernel_rfl) (by decide) (fun K hK => ?_)
  have hs0 : W6.cell? ⟨w.heap.size + 1, 0, none⟩ = some (.int .i64 0) := (blk_cell B3.out 0).trans rfl
  have hf0 := blk_frozen B3.out 0
  have hs1 : W6.cell? ⟨w.heap.size + 1, 1, none⟩ = some (.int .u64 0) := (blk_cell B3.out 1).trans rfl
  have hf1 := blk_frozen B3.out 1
  have hs2 : W6.cell? ⟨w.heap.size + 1, 2, none⟩ = some (.int .u64 0) := (blk_cell B3.out 2).trans rfl
  have hf2 := blk_frozen B3.out 2
  have hs3 : W6.cell? ⟨w.heap.size + 1, 3, none⟩ = some (.slice none 0 0) := (blk_cell B3.out 3).trans rfl
  have hf3 := blk_frozen B3.out 3
  have hs4 : W6.cell? ⟨w.heap.size + 1, 4, none⟩ = some (.int .i64 0) := (blk_cell B3.out 4).trans rfl
  have hf4 := blk_frozen B3.out 4
  refine skip_ (w1 := ?_) (by rfl) rfl ?_ ?_
  rotate_left
  · go_simp
    rfl
  refine hK.out _ _ ?_
  clear hK K
  refine done_ (by kernel_rfl) ?_
  try go_wp2
  have q0 := blk_set B3.out 0 (.int .i64 1)
  have q1 := blk_set q0 1 (.int .u64 (pcgSt st ic))
  have q2 := blk_set q1 2 (.int .u64 ic)
  have q3 := blk_set q2 3 (.slice A n c)
  have q4 := blk_set q3 4 (.int .i64 at_)
  (try simp only [Exit.inBlock, Exit.then])
  refine bodyPost_ret (results_list (rs := [.tmp 2, .cell 3 25]) rfl (by simp) (.tmp (.cell (w.heap.size + 1) 25 #[.int .i64 1, .int .u64 (pcgSt st ic), .int .u64 ic, .slice A n c, .int .i64 at_] (0, 0) _ rfl (q4.trans (by rfl)) Try.underlying25 rfl (by kernel_rfl) .nil))) rfl ⟨rfl, ?_⟩
  have fin := below_set (j := 4) (v := (.int .i64 at_)) (below_set (j := 3) (v := (.slice A n c)) (below_set (j := 2) (v := (.int .u64 ic)) (below_set (j := 1) (v := (.int .u64 (pcgSt st ic))) (below_set (j := 0) (v := (.int .i64 1)) HB.out GE3.out) GE3.out) GE3.out) GE3.out) GE3.out
  first | exact fin | exact fin
set_option maxHeartbeats 4000000 in
set_option maxRecDepth 100000 in
theorem next_tape (st ic at_ : Int) (A : Option Addr) (c : Nat) (l : List Int) (w : World) (hr : Kd.C (Kd.int .u64) w A l.length l) : Calls Try.prog 13 #[.agg #[.int .i64 2, .int .u64 st, .int .u64 ic, .slice A l.length c, .int .i64 at_]] w fun e w' => e = .returned (.tuple #[.int .i64 (wrap64 (tapeX l at_)), .agg #[.int .i64 2, .int .u64 st, .int .u64 ic, .slice A l.length c, .int .i64 (tapeAt l at_)]]) ∧ Below w.heap.size w w' := by
  have hu25 := Try.underlying25
  have HR := Aside0.mk hr
  clear hr
  have B1 := Aside0.mk (blk_alloc (blk_new w (.cells #[.int .i64 2, .int .u64 st, .int .u64 ic, .slice A l.length c, .int .i64 at_] 25 (0, 0))) (.cells #[.int .i64 0, .int .u64 0, .int .u64 0, .slice none 0 0, .int .i64 0] 25 (0, 0)))
  have B3 := Aside0.mk (blk_new (w.alloc (.cells #[.int .i64 2, .int .u64 st, .int .u64 ic, .slice A l.length c, .int .i64 at_] 25 (0, 0))) (.cells #[.int .i64 0, .int .u64 0, .int .u64 0, .slice none 0 0, .int .i64 0] 25 (0, 0)))
  have E3 := Aside0.mk (Go.Proofs.YtjiogchafnpkhaaS.size_alloc w (.cells #[.int .i64 2, .int .u64 st, .int .u64 ic, .slice A l.length c, .int .i64 at_] 25 (0, 0)))
  have HB := Aside0.mk (below_alloc (below_alloc (Below.refl w.heap.size w) (.cells #[.int .i64 2, .int .u64 st, .int .u64 ic, .slice A l.length c, .int .i64 at_] 25 (0, 0))) (.cells #[.int .i64 0, .int .u64 0, .int .u64 0, .slice none 0 0, .int .i64 0] 25 (0, 0)))
  clear B1
  replace B3 := Aside0.mk (show (((w.alloc (.cells #[.int .i64 2, .int .u64 st, .int .u64 ic, .slice A l.length c, .int .i64 at_] 25 (0, 0))).alloc (.cells #[.int .i64 0, .int .u64 0, .int .u64 0, .slice none 0 0, .int .i64 0] 25 (0, 0))).heap[w.heap.size + 1]? = some (.cells #[.int .i64 0, .int .u64 0, .int .u64 0, .slice none 0 0, .int .i64 0] 25 (0, 0))) by have := B3.out; rwa [Go.Proofs.YtjiogchafnpkhaaS.size_alloc] at this)
  have GE3 : Aside0 (w.heap.size ≤ w.heap.size + 1) := ⟨by omega⟩
  clear E3
  go_enter Try.func13, Try.ntmps13
  go_wp2_with (first | ((with_reducible refine gate_callee (f := 41) rfl ?_); refine goesL_ (some 8) rfl rfl Try.func41 (by kernel_rfl) rfl #[.agg #[.int .i64 2, .int .u64 st, .int .u64 ic, .slice A l.length c, .int .i64 at_]] rfl (by (try simp only [List.map_toArray, List.map_cons, List.map_nil]); first | done | rfl) ?_; (refine (of_calls 2 st ic at_ A l.length c _).mono ?_); rintro e w1 ⟨rfl, hb⟩; refine ⟨_, rfl, ?_⟩; have n1_ := Aside0.mk (below_step HB.out hb); have n2_ := Aside0.mk (blk_below B3.out hb); clear HB B3 hb; have HB := n1_; have B3 := n2_; clear n1_ n2_) | ((with_reducible refine gate_dst (N := 9) rfl ?_); refine goesI_ (some 9) rfl rfl 61 #[.agg #[.int .i64 2, .int .u64 st, .int .u64 ic, .slice A l.length c, .int .i64 at_]] ?hr ?_; (case hr => (first | (go_simp; done) | (go_simp; rfl))); (refine (tape_calls 2 st ic at_ A c l _ (Kd.C_below HR.out HB.out)).mono ?_); rintro e w2 ⟨rfl, hb⟩; refine ⟨_, rfl, ?_⟩; have n1_ := Aside0.mk (below_alloc (below_step HB.out hb) (.cells #[.int .i64 2, .int .u64 st, .int .u64 ic, .slice A l.length c, .int .i64 (tapeAt l at_)] 25 (0, 0))); have n2_ := Aside0.mk (blk_alloc (blk_below B3.out hb) (.cells #[.int .i64 2, .int .u64 st, .int .u64 ic, .slice A l.length c, .int .i64 (tapeAt l at_)] 25 (0, 0))); have B5 := Aside0.mk (blk_new w2 (.cells #[.int .i64 2, .int .u64 st, .int .u64 ic, .slice A l.length c, .int .i64 (tapeAt l at_)] 25 (0, 0))); clear HB B3 hb; have HB := n1_; have B3 := n2_; clear n1_ n2_))
  generalize w2.heap.size = g5 at *
  generalize w2.alloc (.cells #[.int .i64 2, .int .u64 st, .int .u64 ic, .slice A l.length c, .int .i64 (tapeAt l at_)] 25 (0, 0)) = W5 at *
  refine start_ (n := 5) (S := fun w' => w'.cell? ⟨g5, 0, none⟩ = some (.int .i64 2) ∧ w'.cell? ⟨g5, 1, none⟩ = some (.int .u64 st) ∧ w'.cell? ⟨g5, 2, none⟩ = some (.int .u64 ic) ∧ w'.cell? ⟨g5, 3, none⟩ = some (.slice A l.length c) ∧ w'.cell? ⟨g5, 4, none⟩ = some (.int .i64 (tapeAt l at_))) (ds := [4]) #[false, false, false, false, false] (by kernel_rfl) rfl rfl ⟨(blk_cell B5.out 0).trans rfl, (blk_cell B5.out 1).trans rfl, (blk_cell B5.out 2).trans rfl, (blk_cell B5.out 3).trans rfl, (blk_cell B5.out 4).trans rfl⟩ (fun hHeld => ?_)
  replace B5 := Aside0.mk (blk_drew B5.out)
  replace B3 := Aside0.mk (blk_drew B3.out)
  replace HB := Aside0.mk (below_drew1 HB.out)
  generalize W5.drew = W6 at B5 B3 HB hHeld ⊢
  refine pure_ (i := 0) (N := (some 12)) (v := ?_) (a' := ?_) #[true, false, false, false, false] rfl rfl (by kernel_rfl) (fun _ _ _ h => h) (Or.inl ⟨by rfl, ?_⟩) ?_ ?_
  rotate_left
  · intro w'
    go_simp
    with_reducible rfl
  rotate_left
  · simp only [Act.put, List.setIfInBounds_toArray, List.set_cons_zero, List.set_cons_succ, i64_w, i32_w]
    rfl
  refine pure_ (i := 1) (N := (some 13)) (v := ?_) (a' := ?_) #[true, true, false, false, false] rfl rfl (by kernel_rfl) (fun _ _ _ h => h) (Or.inl ⟨by rfl, ?_⟩) ?_ ?_
  rotate_left
  · intro w'
    go_simp
    with_reducible rfl
  rotate_left
  · simp only [Act.put, List.setIfInBounds_toArray, List.set_cons_zero, List.set_cons_succ, i64_w, i32_w]
    rfl
  refine take_ (i := 2) (N := (some 14)) (v := ?_) (a' := ?_) #[true, true, true, false, false] rfl rfl (by kernel_rfl) (fun _ _ _ h => h) (Or.inl ⟨by rfl, ?_⟩) hHeld ?_ ?_
  rotate_left
  · rintro w' ⟨s0, s1, s2, s3, s4⟩
    go_simp
    with_reducible rfl
  rotate_left
  · simp only [Act.put, List.setIfInBounds_toArray, List.set_cons_zero, List.set_cons_succ, i64_w, i32_w]
    rfl
  refine pure_ (i := 3) (N := (some 2)) (v := ?_) (a' := ?_) #[true, true, true, true, false] rfl rfl (by kernel_rfl) (fun _ _ _ h => h) (Or.inl ⟨by rfl, ?_⟩) ?_ ?_
  rotate_left
  · intro w'
    go_simp
    with_reducible rfl
  rotate_left
  · simp only [Act.put, List.setIfInBounds_toArray, List.set_cons_zero, List.set_cons_succ, i64_w, i32_w]
    rfl
  refine last_ (i := 4) (N := none) #[true, true, true, true, true] rfl rfl (by kernel_rfl) (by decide) (fun K hK => ?_)
  have hs0 : W6.cell? ⟨w.heap.size + 1, 0, none⟩ = some (.int .i64 0) := (blk_cell B3.out 0).trans rfl
  have hf0 := blk_frozen B3.out 0
  have hs1 : W6.cell? ⟨w.heap.size + 1, 1, none⟩ = some (.int .u64 0) := (blk_cell B3.out 1).trans rfl
  have hf1 := blk_frozen B3.out 1
  have hs2 : W6.cell? ⟨w.heap.size + 1, 2, none⟩ = some (.int .u64 0) := (blk_cell B3.out 2).trans rfl
  have hf2 := blk_frozen B3.out 2
  have hs3 : W6.cell? ⟨w.heap.size + 1, 3, none⟩ = some (.slice none 0 0) := (blk_cell B3.out 3).trans rfl
  have hf3 := blk_frozen B3.out 3
  have hs4 : W6.cell? ⟨w.heap.size + 1, 4, none⟩ = some (.int .i64 0) := (blk_cell B3.out 4).trans rfl
  have hf4 := blk_frozen B3.out 4
  refine skip_ (w1 := ?_) (by rfl) rfl ?_ ?_
  rotate_left
  · go_simp
    rfl
  refine hK.out _ _ ?_
  clear hK K
  refine done_ (by kernel_rfl) ?_
  try go_wp2
  have q0 := blk_set B3.out 0 (.int .i64 2)
  have q1 := blk_set q0 1 (.int .u64 st)
  have q2 := blk_set q1 2 (.int .u64 ic)
  have q3 := blk_set q2 3 (.slice A l.length c)
  have q4 := blk_set q3 4 (.int .i64 (tapeAt l at_))
  (try simp only [Exit.inBlock, Exit.then])
  refine bodyPost_ret (results_list (rs := [.tmp 2, .cell 3 25]) rfl (by simp) (.tmp (.cell (w.heap.size + 1) 25 #[.int .i64 2, .int .u64 st, .int .u64 ic, .slice A l.length c, .int .i64 (tapeAt l at_)] (0, 0) _ rfl (q4.trans (by rfl)) Try.underlying25 rfl (by kernel_rfl) .nil))) rfl ⟨rfl, ?_⟩
  have fin := below_set (j := 4) (v := (.int .i64 (tapeAt l at_))) (below_set (j := 3) (v := (.slice A l.length c)) (below_set (j := 2) (v := (.int .u64 ic)) (below_set (j := 1) (v := (.int .u64 st)) (below_set (j := 0) (v := (.int .i64 2)) HB.out GE3.out) GE3.out) GE3.out) GE3.out) GE3.out
  first | exact fin | exact fin
set_option maxHeartbeats 4000000 in
set_option maxRecDepth 100000 in
theorem next_none (k st ic at_ : Int) (A : Option Addr) (n c : Nat) (w : World) (h1 : k ≠ 1) (h2 : k ≠ 2) : Calls Try.prog 13 #[.agg #[.int .i64 k, .int .u64 st, .int .u64 ic, .slice A n c, .int .i64 at_]] w fun e w' => e = .returned (.tuple #[.int .i64 (wrap64 0), .agg #[.int .i64 k, .int .u64 st, .int .u64 ic, .slice A n c, .int .i64 at_]]) ∧ Below w.heap.size w w' := by
  have hu25 := Try.underlying25
  have H1 := Aside0.mk h1
  have H2 := Aside0.mk h2
  clear h1 h2
  have B1 := Aside0.mk (blk_alloc (blk_new w (.cells #[.int .i64 k, .int .u64 st, .int .u64 ic, .slice A n c, .int .i64 at_] 25 (0, 0))) (.cells #[.int .i64 0, .int .u64 0, .int .u64 0, .slice none 0 0, .int .i64 0] 25 (0, 0)))
  have B3 := Aside0.mk (blk_new (w.alloc (.cells #[.int .i64 k, .int .u64 st, .int .u64 ic, .slice A n c, .int .i64 at_] 25 (0, 0))) (.cells #[.int .i64 0, .int .u64 0, .int .u64 0, .slice none 0 0, .int .i64 0] 25 (0, 0)))
  have E3 := Aside0.mk (Go.Proofs.YtjiogchafnpkhaaS.size_alloc w (.cells #[.int .i64 k, .int .u64 st, .int .u64 ic, .slice A n c, .int .i64 at_] 25 (0, 0)))
  have HB := Aside0.mk (below_alloc (below_alloc (Below.refl w.heap.size w) (.cells #[.int .i64 k, .int .u64 st, .int .u64 ic, .slice A n c, .int .i64 at_] 25 (0, 0))) (.cells #[.int .i64 0, .int .u64 0, .int .u64 0, .slice none 0 0, .int .i64 0] 25 (0, 0)))
  clear B1
  replace B3 := Aside0.mk (show (((w.alloc (.cells #[.int .i64 k, .int .u64 st, .int .u64 ic, .slice A n c, .int .i64 at_] 25 (0, 0))).alloc (.cells #[.int .i64 0, .int .u64 0, .int .u64 0, .slice none 0 0, .int .i64 0] 25 (0, 0))).heap[w.heap.size + 1]? = some (.cells #[.int .i64 0, .int .u64 0, .int .u64 0, .slice none 0 0, .int .i64 0] 25 (0, 0))) by have := B3.out; rwa [Go.Proofs.YtjiogchafnpkhaaS.size_alloc] at this)
  have GE3 : Aside0 (w.heap.size ≤ w.heap.size + 1) := ⟨by omega⟩
  clear E3
  go_enter Try.func13, Try.ntmps13
  go_wp2_with (first | ((with_reducible refine gate_callee (f := 41) rfl ?_); refine goesL_ (some 8) rfl rfl Try.func41 (by kernel_rfl) rfl #[.agg #[.int .i64 k, .int .u64 st, .int .u64 ic, .slice A n c, .int .i64 at_]] rfl (by (try simp only [List.map_toArray, List.map_cons, List.map_nil]); first | done | rfl) ?_; (refine (of_none k st ic at_ A n c _ H1.out H2.out).mono ?_); rintro e w1 ⟨rfl, hb⟩; refine ⟨_, rfl, ?_⟩; have n1_ := Aside0.mk (below_step HB.out hb); have n2_ := Aside0.mk (blk_below B3.out hb); clear HB B3 hb; have HB := n1_; have B3 := n2_; clear n1_ n2_) | ((with_reducible refine gate_dst (N := 9) rfl ?_); refine goesI_ (some 9) rfl rfl 62 #[.agg #[.int .i64 k, .int .u64 st, .int .u64 ic, .slice A n c, .int .i64 at_]] ?hr ?_; (case hr => (first | (go_simp; done) | (go_simp; rfl))); (refine (none_calls k st ic at_ A n c _).mono ?_); rintro e w2 ⟨rfl, hb⟩; refine ⟨_, rfl, ?_⟩; have n1_ := Aside0.mk (below_alloc (below_step HB.out hb) (.cells #[.int .i64 k, .int .u64 st, .int .u64 ic, .slice A n c, .int .i64 at_] 25 (0, 0))); have n2_ := Aside0.mk (blk_alloc (blk_below B3.out hb) (.cells #[.int .i64 k, .int .u64 st, .int .u64 ic, .slice A n c, .int .i64 at_] 25 (0, 0))); have B5 := Aside0.mk (blk_new w2 (.cells #[.int .i64 k, .int .u64 st, .int .u64 ic, .slice A n c, .int .i64 at_] 25 (0, 0))); clear HB B3 hb; have HB := n1_; have B3 := n2_; clear n1_ n2_))
  generalize w2.heap.size = g5 at *
  generalize w2.alloc (.cells #[.int .i64 k, .int .u64 st, .int .u64 ic, .slice A n c, .int .i64 at_] 25 (0, 0)) = W5 at *
  refine start_ (n := 5) (S := fun w' => w'.cell? ⟨g5, 0, none⟩ = some (.int .i64 k) ∧ w'.cell? ⟨g5, 1, none⟩ = some (.int .u64 st) ∧ w'.cell? ⟨g5, 2, none⟩ = some (.int .u64 ic) ∧ w'.cell? ⟨g5, 3, none⟩ = some (.slice A n c) ∧ w'.cell? ⟨g5, 4, none⟩ = some (.int .i64 at_)) (ds := [4]) #[false, false, false, false, false] (by kernel_rfl) rfl rfl ⟨(blk_cell B5.out 0).trans rfl, (blk_cell B5.out 1).trans rfl, (blk_cell B5.out 2).trans rfl, (blk_cell B5.out 3).trans rfl, (blk_cell B5.out 4).trans rfl⟩ (fun hHeld => ?_)
  replace B5 := Aside0.mk (blk_drew B5.out)
  replace B3 := Aside0.mk (blk_drew B3.out)
  replace HB := Aside0.mk (below_drew1 HB.out)
  generalize W5.drew = W6 at B5 B3 HB hHeld ⊢
  refine pure_ (i := 0) (N := (some 12)) (v := ?_) (a' := ?_) #[true, false, false, false, false] rfl rfl (by kernel_rfl) (fun _ _ _ h => h) (Or.inl ⟨by rfl, ?_⟩) ?_ ?_
  rotate_left
  · intro w'
    go_simp
    with_reducible rfl
  rotate_left
  · simp only [Act.put, List.setIfInBounds_toArray, List.set_cons_zero, List.set_cons_succ, i64_w, i32_w]
    rfl
  refine pure_ (i := 1) (N := (some 13)) (v := ?_) (a' := ?_) #[true, true, false, false, false] rfl rfl (by kernel_rfl) (fun _ _ _ h => h) (Or.inl ⟨by rfl, ?_⟩) ?_ ?_
  rotate_left
  · intro w'
    go_simp
    with_reducible rfl
  rotate_left
  · simp only [Act.put, List.setIfInBounds_toArray, List.set_cons_zero, List.set_cons_succ, i64_w, i32_w]
    rfl
  refine take_ (i := 2) (N := (some 14)) (v := ?_) (a' := ?_) #[true, true, true, false, false] rfl rfl (by kernel_rfl) (fun _ _ _ h => h) (Or.inl ⟨by rfl, ?_⟩) hHeld ?_ ?_
  rotate_left
  · rintro w' ⟨s0, s1, s2, s3, s4⟩
    go_simp
    with_reducible rfl
  rotate_left
  · simp only [Act.put, List.setIfInBounds_toArray, List.set_cons_zero, List.set_cons_succ, i64_w, i32_w]
    rfl
  refine pure_ (i := 3) (N := (some 2)) (v := ?_) (a' := ?_) #[true, true, true, true, false] rfl rfl (by kernel_rfl) (fun _ _ _ h => h) (Or.inl ⟨by rfl, ?_⟩) ?_ ?_
  rotate_left
  · intro w'
    go_simp
    with_reducible rfl
  rotate_left
  · simp only [Act.put, List.setIfInBounds_toArray, List.set_cons_zero, List.set_cons_succ, i64_w, i32_w]
    rfl
  refine last_ (i := 4) (N := none) #[true, true, true, true, true] rfl rfl (by kernel_rfl) (by decide) (fun K hK => ?_)
  have hs0 : W6.cell? ⟨w.heap.size + 1, 0, none⟩ = some (.int .i64 0) := (blk_cell B3.out 0).trans rfl
  have hf0 := blk_frozen B3.out 0
  have hs1 : W6.cell? ⟨w.heap.size + 1, 1, none⟩ = some (.int .u64 0) := (blk_cell B3.out 1).trans rfl
  have hf1 := blk_frozen B3.out 1
  have hs2 : W6.cell? ⟨w.heap.size + 1, 2, none⟩ = some (.int .u64 0) := (blk_cell B3.out 2).trans rfl
  have hf2 := blk_frozen B3.out 2
  have hs3 : W6.cell? ⟨w.heap.size + 1, 3, none⟩ = some (.slice none 0 0) := (blk_cell B3.out 3).trans rfl
  have hf3 := blk_frozen B3.out 3
  have hs4 : W6.cell? ⟨w.heap.size + 1, 4, none⟩ = some (.int .i64 0) := (blk_cell B3.out 4).trans rfl
  have hf4 := blk_frozen B3.out 4
  refine skip_ (w1 := ?_) (by rfl) rfl ?_ ?_
  rotate_left
  · go_simp
    rfl
  refine hK.out _ _ ?_
  clear hK K
  refine done_ (by kernel_rfl) ?_
  try go_wp2
  have q0 := blk_set B3.out 0 (.int .i64 k)
  have q1 := blk_set q0 1 (.int .u64 st)
  have q2 := blk_set q1 2 (.int .u64 ic)
  have q3 := blk_set q2 3 (.slice A n c)
  have q4 := blk_set q3 4 (.int .i64 at_)
  (try simp only [Exit.inBlock, Exit.then])
  refine bodyPost_ret (results_list (rs := [.tmp 2, .cell 3 25]) rfl (by simp) (.tmp (.cell (w.heap.size + 1) 25 #[.int .i64 k, .int .u64 st, .int .u64 ic, .slice A n c, .int .i64 at_] (0, 0) _ rfl (q4.trans (by rfl)) Try.underlying25 rfl (by kernel_rfl) .nil))) rfl ⟨rfl, ?_⟩
  have fin := below_set (j := 4) (v := (.int .i64 at_)) (below_set (j := 3) (v := (.slice A n c)) (below_set (j := 2) (v := (.int .u64 ic)) (below_set (j := 1) (v := (.int .u64 st)) (below_set (j := 0) (v := (.int .i64 k)) HB.out GE3.out) GE3.out) GE3.out) GE3.out) GE3.out
  first | exact fin | exact fin
/-- A source's draw; its state and its place behind it. -/
def nextX (k st : Int) (l : List Int) (at_ : Int) : Int := if k = 1 then wrap64 (pcgX st) else if k = 2 then wrap64 (tapeX l at_) else wrap64 0
def nextSt (k st ic : Int) : Int := if k = 1 then pcgSt st ic else st
def nextAt (k : Int) (l : List Int) (at_ : Int) : Int := if k = 2 then tapeAt l at_ else at_
theorem draw_Next_calls (k st ic at_ : Int) (A : Option Addr) (c : Nat) (l : List Int) (w : World) (hr : Kd.C (Kd.int .u64) w A l.length l) : Calls Try.prog 13 #[.agg #[.int .i64 k, .int .u64 st, .int .u64 ic, .slice A l.length c, .int .i64 at_]] w fun e w' => e = .returned (.tuple #[.int .i64 (nextX k st l at_), .agg #[.int .i64 k, .int .u64 (nextSt k st ic), .int .u64 ic, .slice A l.length c, .int .i64 (nextAt k l at_)]]) ∧ Below w.heap.size w w' := by
  by_cases h1 : k = 1
  · subst h1
    have e1 : nextX 1 st l at_ = wrap64 (pcgX st) := by unfold nextX; rw [if_pos rfl]
    have e2 : nextSt 1 st ic = pcgSt st ic := by unfold nextSt; rw [if_pos rfl]
    have e3 : nextAt 1 l at_ = at_ := by unfold nextAt; rw [if_neg (by decide)]
    rw [e1, e2, e3]
    exact next_pcg st ic at_ A l.length c w
  · by_cases h2 : k = 2
    · subst h2
      have e1 : nextX 2 st l at_ = wrap64 (tapeX l at_) := by unfold nextX; rw [if_neg (by decide), if_pos rfl]
      have e2 : nextSt 2 st ic = st := by unfold nextSt; rw [if_neg (by decide)]
      have e3 : nextAt 2 l at_ = tapeAt l at_ := by unfold nextAt; rw [if_pos rfl]
      rw [e1, e2, e3]
      exact next_tape st ic at_ A c l w hr
    · have e1 : nextX k st l at_ = wrap64 0 := by unfold nextX; rw [if_neg h1, if_neg h2]
      have e2 : nextSt k st ic = st := by unfold nextSt; rw [if_neg h1]
      have e3 : nextAt k l at_ = at_ := by unfold nextAt; rw [if_neg h2]
      rw [e1, e2, e3]
      exact next_none k st ic at_ A l.length c w h1 h2
end
section
open Go.RowKit Go.Proofs.YtjiogchafnpkhaaW.PrintWords Go.Proofs.YtjiogchafnpkhaaW.PrintLast Go.Proofs.YtjiogchafnpkhaaW.PrintMore
attribute [local go_sem] max2_int min2_int max_two min_two max_three min_three max_four min_four
attribute [local go_sem] Go.Proofs.YtjiogchafnpkhaaS.cell_set_map Go.Proofs.YtjiogchafnpkhaaS.setCell_drewN
set_option linter.unusedVariables false
set_option linter.unusedSimpArgs false
/-- A draw below n. -/
def belowX (k st : Int) (l : List Int) (at_ n : Int) : Int := if n ≤ 0 then 0 else Int.tmod (nextX k st l at_) n
def belowSt (k st ic n : Int) : Int := if n ≤ 0 then st else nextSt k st ic
def belowAt (k : Int) (l : List Int) (at_ n : Int) : Int := if n ≤ 0 then at_ else nextAt k l at_
set_option maxHeartbeats 4000000 in
set_option maxRecDepth 100000 in
theorem draw_Below_calls (k st ic at_ : Int) (A : Option Addr) (c : Nat) (l : List Int) (n : Int) (w : World) (hr : Kd.C (Kd.int .u64) w A l.length l) : Calls Try.prog 23 #[.agg #[.int .i64 k, .int .u64 st, .int .u64 ic, .slice A l.length c, .int .i64 at_], .int .i64 n] w fun e w' => e = .returned (.tuple #[.int .i64 (belowX k st l at_ n), .agg #[.int .i64 k, .int .u64 (belowSt k st ic n), .int .u64 ic, .slice A l.length c, .int .i64 (belowAt k l at_ n)]]) ∧ Below w.heap.size w w' := by
  have hu25 := Try.underlying25
  have HR := Aside0.mk hr
  clear hr
  have B1 := Aside0.mk (blk_alloc (blk_new w (.cells #[.int .i64 k, .int .u64 st, .int .u64 ic, .slice A l.length c, .int .i64 at_] 25 (0, 0))) (.cells #[.int .i64 0, .int .u64 0, .int .u64 0, .slice none 0 0, .int .i64 0] 25 (0, 0)))
  have B3 := Aside0.mk (show (((w.alloc (.cells #[.int .i64 k, .int .u64 st, .int .u64 ic, .slice A l.length c, .int .i64 at_] 25 (0, 0))).alloc (.cells #[.int .i64 0, .int .u64 0, .int .u64 0, .slice none 0 0, .int .i64 0] 25 (0, 0))).heap[w.heap.size + 1]? = some (.cells #[.int .i64 0, .int .u64 0, .int .u64 0, .slice none 0 0, .int .i64 0] 25 (0, 0))) by have := blk_new (w.alloc (.cells #[.int .i64 k, .int .u64 st, .int .u64 ic, .slice A l.length c, .int .i64 at_] 25 (0, 0))) (.cells #[.int .i64 0, .int .u64 0, .int .u64 0, .slice none 0 0, .int .i64 0] 25 (0, 0)); rwa [Go.Proofs.YtjiogchafnpkhaaS.size_alloc] at this)
  have HB := Aside0.mk (below_alloc (below_alloc (Below.refl w.heap.size w) (.cells #[.int .i64 k, .int .u64 st, .int .u64 ic, .slice A l.length c, .int .i64 at_] 25 (0, 0))) (.cells #[.int .i64 0, .int .u64 0, .int .u64 0, .slice none 0 0, .int .i64 0] 25 (0, 0)))
  have GE3 : Aside0 (w.heap.size ≤ w.heap.size + 1) := ⟨by omega⟩
  by_cases h1 : n ≤ 0
  · have e1 : belowX k st l at_ n = 0 := if_pos h1
    have e2 : belowSt k st ic n = st := if_pos h1
    have e3 : belowAt k l at_ n = at_ := if_pos h1
    rw [e1, e2, e3]
    clear e1 e2 e3
    go_enter Try.func23, Try.ntmps23
    go_wp2_with fail
    generalize ((w.alloc (.cells #[.int .i64 k, .int .u64 st, .int .u64 ic, .slice A l.length c, .int .i64 at_] 25 (0, 0))).alloc (.cells #[.int .i64 0, .int .u64 0, .int .u64 0, .slice none 0 0, .int .i64 0] 25 (0, 0))) = W0 at *
    refine start_ (n := 3) (S := fun w' => w'.cell? ⟨w.heap.size, 0, none⟩ = some (.int .i64 k) ∧ w'.cell? ⟨w.heap.size, 1, none⟩ = some (.int .u64 st) ∧ w'.cell? ⟨w.heap.size, 2, none⟩ = some (.int .u64 ic) ∧ w'.cell? ⟨w.heap.size, 3, none⟩ = some (.slice A l.length c) ∧ w'.cell? ⟨w.heap.size, 4, none⟩ = some (.int .i64 at_)) (ds := [2]) #[false, false, false] (by kernel_rfl) rfl rfl ⟨(blk_cell B1.out 0).trans rfl, (blk_cell B1.out 1).trans rfl, (blk_cell B1.out 2).trans rfl, (blk_cell B1.out 3).trans rfl, (blk_cell B1.out 4).trans rfl⟩ (fun hHeld => ?_)
    replace B1 := Aside0.mk (blk_drew B1.out)
    replace B3 := Aside0.mk (blk_drew B3.out)
    replace HB := Aside0.mk (below_drew1 HB.out)
    generalize W0.drew = W6 at B1 B3 HB hHeld ⊢
    refine take_ (i := 0) (N := (some 10)) (v := ?_) (a' := ?_) #[true, false, false] rfl rfl (by kernel_rfl) (fun _ _ _ h => h) (Or.inl ⟨by rfl, ?_⟩) hHeld ?_ ?_
    rotate_left
    · rintro w' ⟨s0, s1, s2, s3, s4⟩
      go_simp
      with_reducible rfl
    rotate_left
    · simp only [Act.put, List.setIfInBounds_toArray, List.set_cons_zero, List.set_cons_succ, i64_w, i32_w]
      rfl
    refine pure_ (i := 1) (N := (some 4)) (v := ?_) (a' := ?_) #[true, true, false] rfl rfl (by kernel_rfl) (fun _ _ _ h => h) (Or.inl ⟨by rfl, ?_⟩) ?_ ?_
    rotate_left
    · intro w'
      go_simp
      with_reducible rfl
    rotate_left
    · simp only [Act.put, List.setIfInBounds_toArray, List.set_cons_zero, List.set_cons_succ, i64_w, i32_w]
      rfl
    refine last_ (i := 2) (N := none) #[true, true, true] rfl rfl (by kernel_rfl) (by decide) (fun K hK => ?_)
    have hs0 : W6.cell? ⟨w.heap.size + 1, 0, none⟩ = some (.int .i64 0) := (blk_cell B3.out 0).trans rfl
    have hf0 := blk_frozen B3.out 0
    have hs1 : W6.cell? ⟨w.heap.size + 1, 1, none⟩ = some (.int .u64 0) := (blk_cell B3.out 1).trans rfl
    have hf1 := blk_frozen B3.out 1
    have hs2 : W6.cell? ⟨w.heap.size + 1, 2, none⟩ = some (.int .u64 0) := (blk_cell B3.out 2).trans rfl
    have hf2 := blk_frozen B3.out 2
    have hs3 : W6.cell? ⟨w.heap.size + 1, 3, none⟩ = some (.slice none 0 0) := (blk_cell B3.out 3).trans rfl
    have hf3 := blk_frozen B3.out 3
    have hs4 : W6.cell? ⟨w.heap.size + 1, 4, none⟩ = some (.int .i64 0) := (blk_cell B3.out 4).trans rfl
    have hf4 := blk_frozen B3.out 4
    refine skip_ (w1 := ?_) (by rfl) rfl ?_ ?_
    rotate_left
    · go_simp
      rfl
    refine hK.out _ _ ?_
    clear hK K
    refine done_ (by kernel_rfl) ?_
    try go_wp2
    have q0 := blk_set B3.out 0 (.int .i64 k)
    have q1 := blk_set q0 1 (.int .u64 st)
    have q2 := blk_set q1 2 (.int .u64 ic)
    have q3 := blk_set q2 3 (.slice A l.length c)
    have q4 := blk_set q3 4 (.int .i64 at_)
    (try simp only [Exit.inBlock, Exit.then])
    refine bodyPost_ret (results_list (rs := [.tmp 4, .cell 5 25]) rfl (by simp) (.tmp (.cell (w.heap.size + 1) 25 #[.int .i64 k, .int .u64 st, .int .u64 ic, .slice A l.length c, .int .i64 at_] (0, 0) _ rfl (q4.trans (by rfl)) Try.underlying25 rfl (by kernel_rfl) .nil))) rfl ⟨rfl, ?_⟩
    exact below_set (j := 4) (v := (.int .i64 at_)) (below_set (j := 3) (v := (.slice A l.length c)) (below_set (j := 2) (v := (.int .u64 ic)) (below_set (j := 1) (v := (.int .u64 st)) (below_set (j := 0) (v := (.int .i64 k)) HB.out GE3.out) GE3.out) GE3.out) GE3.out) GE3.out
  · have e1 : belowX k st l at_ n = Int.tmod (nextX k st l at_) n := if_neg h1
    have e2 : belowSt k st ic n = nextSt k st ic := if_neg h1
    have e3 : belowAt k l at_ n = nextAt k l at_ := if_neg h1
    rw [e1, e2, e3]
    clear e1 e2 e3
    have hn0 : ¬ n = 0 := by omega
    go_enter Try.func23, Try.ntmps23
    go_wp2_with (first | ((with_reducible refine gate_callee (f := 13) rfl ?_); refine goesL_ (some 13) rfl rfl Try.func13 (by kernel_rfl) rfl #[.agg #[.int .i64 k, .int .u64 st, .int .u64 ic, .slice A l.length c, .int .i64 at_]] rfl (by (try simp only [List.map_toArray, List.map_cons, List.map_nil]); first | done | rfl) ?_; (refine (draw_Next_calls k st ic at_ A c l _ (Kd.C_below HR.out HB.out)).mono ?_); rintro e w1 ⟨rfl, hb⟩; refine ⟨_, rfl, ?_⟩; have n1_ := Aside0.mk (below_alloc (below_step HB.out hb) (.cells #[.int .i64 k, .int .u64 (nextSt k st ic), .int .u64 ic, .slice A l.length c, .int .i64 (nextAt k l at_)] 25 (0, 0))); have n2_ := Aside0.mk (blk_alloc (blk_below B3.out hb) (.cells #[.int .i64 k, .int .u64 (nextSt k st ic), .int .u64 ic, .slice A l.length c, .int .i64 (nextAt k l at_)] 25 (0, 0))); have B7 := Aside0.mk (blk_new w1 (.cells #[.int .i64 k, .int .u64 (nextSt k st ic), .int .u64 ic, .slice A l.length c, .int .i64 (nextAt k l at_)] 25 (0, 0))); clear HB B3 B1 hb; have HB := n1_; have B3 := n2_; clear n1_ n2_))
    generalize w1.heap.size = g7 at *
    generalize w1.alloc (.cells #[.int .i64 k, .int .u64 (nextSt k st ic), .int .u64 ic, .slice A l.length c, .int .i64 (nextAt k l at_)] 25 (0, 0)) = W5 at *
    refine start_ (n := 6) (S := fun w' => w'.cell? ⟨g7, 0, none⟩ = some (.int .i64 k) ∧ w'.cell? ⟨g7, 1, none⟩ = some (.int .u64 (nextSt k st ic)) ∧ w'.cell? ⟨g7, 2, none⟩ = some (.int .u64 ic) ∧ w'.cell? ⟨g7, 3, none⟩ = some (.slice A l.length c) ∧ w'.cell? ⟨g7, 4, none⟩ = some (.int .i64 (nextAt k l at_))) (ds := [5]) #[false, false, false, false, false, false] (by kernel_rfl) rfl rfl ⟨(blk_cell B7.out 0).trans rfl, (blk_cell B7.out 1).trans rfl, (blk_cell B7.out 2).trans rfl, (blk_cell B7.out 3).trans rfl, (blk_cell B7.out 4).trans rfl⟩ (fun hHeld => ?_)
    replace B7 := Aside0.mk (blk_drew B7.out)
    replace B3 := Aside0.mk (blk_drew B3.out)
    replace HB := Aside0.mk (below_drew1 HB.out)
    generalize W5.drew = W6 at B7 B3 HB hHeld ⊢
    refine pure_ (i := 0) (N := (some 16)) (v := ?_) (a' := ?_) #[true, false, false, false, false, false] rfl rfl (by kernel_rfl) (fun _ _ _ h => h) (Or.inl ⟨by rfl, ?_⟩) ?_ ?_
    rotate_left
    · intro w'
      go_simp
      with_reducible rfl
    rotate_left
    · simp only [Act.put, List.setIfInBounds_toArray, List.set_cons_zero, List.set_cons_succ, i64_w, i32_w]
      rfl
    refine pure_ (i := 1) (N := (some 17)) (v := ?_) (a' := ?_) #[true, true, false, false, false, false] rfl rfl (by kernel_rfl) (fun _ _ _ h => h) (Or.inl ⟨by rfl, ?_⟩) ?_ ?_
    rotate_left
    · intro w'
      go_simp
      with_reducible rfl
    rotate_left
    · simp only [Act.put, List.setIfInBounds_toArray, List.set_cons_zero, List.set_cons_succ, i64_w, i32_w]
      rfl
    refine pure_ (i := 2) (N := (some 18)) (v := ?_) (a' := ?_) #[true, true, true, false, false, false] rfl rfl (by kernel_rfl) (fun _ _ _ h => h) (Or.inl ⟨by rfl, ?_⟩) ?_ ?_
    rotate_left
    · intro w'
      go_simp
      with_reducible rfl
    rotate_left
    · simp only [Act.put, List.setIfInBounds_toArray, List.set_cons_zero, List.set_cons_succ, i64_w, i32_w]
      rfl
    refine take_ (i := 3) (N := (some 19)) (v := ?_) (a' := ?_) #[true, true, true, true, false, false] rfl rfl (by kernel_rfl) (fun _ _ _ h => h) (Or.inl ⟨by rfl, ?_⟩) hHeld ?_ ?_
    rotate_left
    · rintro w' ⟨s0, s1, s2, s3, s4⟩
      go_simp
      with_reducible rfl
    rotate_left
    · simp only [Act.put, List.setIfInBounds_toArray, List.set_cons_zero, List.set_cons_succ, i64_w, i32_w]
      rfl
    refine pure_ (i := 4) (N := (some 4)) (v := ?_) (a' := ?_) #[true, true, true, true, true, false] rfl rfl (by kernel_rfl) (fun _ _ _ h => h) (Or.inl ⟨by rfl, ?_⟩) ?_ ?_
    rotate_left
    · intro w'
      go_simp
      with_reducible rfl
    rotate_left
    · simp only [Act.put, List.setIfInBounds_toArray, List.set_cons_zero, List.set_cons_succ, i64_w, i32_w]
      rfl
    refine last_ (i := 5) (N := none) #[true, true, true, true, true, true] rfl rfl (by kernel_rfl) (by decide) (fun K hK => ?_)
    have hs0 : W6.cell? ⟨w.heap.size + 1, 0, none⟩ = some (.int .i64 0) := (blk_cell B3.out 0).trans rfl
    have hf0 := blk_frozen B3.out 0
    have hs1 : W6.cell? ⟨w.heap.size + 1, 1, none⟩ = some (.int .u64 0) := (blk_cell B3.out 1).trans rfl
    have hf1 := blk_frozen B3.out 1
    have hs2 : W6.cell? ⟨w.heap.size + 1, 2, none⟩ = some (.int .u64 0) := (blk_cell B3.out 2).trans rfl
    have hf2 := blk_frozen B3.out 2
    have hs3 : W6.cell? ⟨w.heap.size + 1, 3, none⟩ = some (.slice none 0 0) := (blk_cell B3.out 3).trans rfl
    have hf3 := blk_frozen B3.out 3
    have hs4 : W6.cell? ⟨w.heap.size + 1, 4, none⟩ = some (.int .i64 0) := (blk_cell B3.out 4).trans rfl
    have hf4 := blk_frozen B3.out 4
    refine skip_ (w1 := ?_) (by rfl) rfl ?_ ?_
    rotate_left
    · go_simp
      rfl
    refine hK.out _ _ ?_
    clear hK K
    refine done_ (by kernel_rfl) ?_
    try go_wp2
    have q0 := blk_set B3.out 0 (.int .i64 k)
    have q1 := blk_set q0 1 (.int .u64 (nextSt k st ic))
    have q2 := blk_set q1 2 (.int .u64 ic)
    have q3 := blk_set q2 3 (.slice A l.length c)
    have q4 := blk_set q3 4 (.int .i64 (nextAt k l at_))
    (try simp only [Exit.inBlock, Exit.then])
    refine bodyPost_ret (results_list (rs := [.tmp 4, .cell 5 25]) rfl (by simp) (.tmp (.cell (w.heap.size + 1) 25 #[.int .i64 k, .int .u64 (nextSt k st ic), .int .u64 ic, .slice A l.length c, .int .i64 (nextAt k l at_)] (0, 0) _ rfl (q4.trans (by rfl)) Try.underlying25 rfl (by kernel_rfl) .nil))) rfl ⟨rfl, ?_⟩
    exact below_set (j := 4) (v := (.int .i64 (nextAt k l at_))) (below_set (j := 3) (v := (.slice A l.length c)) (below_set (j := 2) (v := (.int .u64 ic)) (below_set (j := 1) (v := (.int .u64 (nextSt k st ic))) (below_set (j := 0) (v := (.int .i64 k)) HB.out GE3.out) GE3.out) GE3.out) GE3.out) GE3.out
end
section
open Go.RowKit Go.Proofs.YtjiogchafnpkhaaW.PrintWords Go.Proofs.YtjiogchafnpkhaaW.PrintLast Go.Proofs.YtjiogchafnpkhaaW.PrintMore
attribute [local go_sem] max2_int min2_int max_two min_two max_three min_three max_four min_four
attribute [local go_sem] Go.Proofs.YtjiogchafnpkhaaS.cell_set_map Go.Proofs.YtjiogchafnpkhaaS.setCell_drewN
set_option linter.unusedVariables false
set_option linter.unusedSimpArgs false
/-- A draw between two. -/
def wideU (lo hi : Int) : Int := IntKind.u64.wrap (IntKind.u64.wrap hi - IntKind.u64.wrap lo)
def betN (lo hi : Int) : Int := IntKind.i64.wrap (IntKind.i64.wrap (hi - lo) + 1)
def betX (k st : Int) (l : List Int) (at_ lo hi : Int) : Int := if hi ≤ lo ∨ 4294967295 ≤ wideU lo hi then lo else IntKind.i64.wrap (lo + belowX k st l at_ (betN lo hi))
def betSt (k st ic lo hi : Int) : Int := if hi ≤ lo ∨ 4294967295 ≤ wideU lo hi then st else belowSt k st ic (betN lo hi)
def betAt (k : Int) (l : List Int) (at_ lo hi : Int) : Int := if hi ≤ lo ∨ 4294967295 ≤ wideU lo hi then at_ else belowAt k l at_ (betN lo hi)
set_option maxHeartbeats 4000000 in
set_option maxRecDepth 100000 in
theorem draw_Between_calls (k st ic at_ : Int) (A : Option Addr) (c : Nat) (l : List Int) (lo hi : Int) (w : World) (hr : Kd.C (Kd.int .u64) w A l.length l) : Calls Try.prog 24 #[.agg #[.int .i64 k, .int .u64 st, .int .u64 ic, .slice A l.length c, .int .i64 at_], .int .i64 lo, .int .i64 hi] w fun e w' => e = .returned (.tuple #[.int .i64 (betX k st l at_ lo hi), .agg #[.int .i64 k, .int .u64 (betSt k st ic lo hi), .int .u64 ic, .slice A l.length c, .int .i64 (betAt k l at_ lo hi)]]) ∧ Below w.heap.size w w' := by
  have hu25 := Try.underlying25
  have HR := Aside0.mk hr
  clear hr
  have B1 := Aside0.mk (blk_alloc (blk_new w (.cells #[.int .i64 k, .int .u64 st, .int .u64 ic, .slice A l.length c, .int .i64 at_] 25 (0, 0))) (.cells #[.int .i64 0, .int .u64 0, .int .u64 0, .slice none 0 0, .int .i64 0] 25 (0, 0)))
  have B3 := Aside0.mk (show (((w.alloc (.cells #[.int .i64 k, .int .u64 st, .int .u64 ic, .slice A l.length c, .int .i64 at_] 25 (0, 0))).alloc (.cells #[.int .i64 0, .int .u64 0, .int .u64 0, .slice none 0 0, .int .i64 0] 25 (0, 0))).heap[w.heap.size + 1]? = some (.cells #[.int .i64 0, .int .u64 0, .int .u64 0, .slice none 0 0, .int .i64 0] 25 (0, 0))) by have := blk_new (w.alloc (.cells #[.int .i64 k, .int .u64 st, .int .u64 ic, .slice A l.length c, .int .i64 at_] 25 (0, 0))) (.cells #[.int .i64 0, .int .u64 0, .int .u64 0, .slice none 0 0, .int .i64 0] 25 (0, 0)); rwa [Go.Proofs.YtjiogchafnpkhaaS.size_alloc] at this)
  have HB := Aside0.mk (below_alloc (below_alloc (Below.refl w.heap.size w) (.cells #[.int .i64 k, .int .u64 st, .int .u64 ic, .slice A l.length c, .int .i64 at_] 25 (0, 0))) (.cells #[.int .i64 0, .int .u64 0, .int .u64 0, .slice none 0 0, .int .i64 0] 25 (0, 0)))
  have GE3 : Aside0 (w.heap.size ≤ w.heap.size + 1) := ⟨by omega⟩
  by_cases h1 : hi ≤ lo
  · have e1 : betX k st l at_ lo hi = lo := if_pos (.inl h1)
    have e2 : betSt k st ic lo hi = st := if_pos (.inl h1)
    have e3 : betAt k l at_ lo hi = at_ := if_pos (.inl h1)
    rw [e1, e2, e3]
    clear e1 e2 e3
    have c1 : decide (hi ≤ lo) = true := decide_eq_true h1
    go_enter Try.func24, Try.ntmps24
    go_wp2_with fail
    generalize ((w.alloc (.cells #[.int .i64 k, .int .u64 st, .int .u64 ic, .slice A l.length c, .int .i64 at_] 25 (0, 0))).alloc (.cells #[.int .i64 0, .int .u64 0, .int .u64 0, .slice none 0 0, .int .i64 0] 25 (0, 0))) = W0 at *
    refine start_ (n := 4) (S := fun w' => w'.cell? ⟨w.heap.size, 0, none⟩ = some (.int .i64 k) ∧ w'.cell? ⟨w.heap.size, 1, none⟩ = some (.int .u64 st) ∧ w'.cell? ⟨w.heap.size, 2, none⟩ = some (.int .u64 ic) ∧ w'.cell? ⟨w.heap.size, 3, none⟩ = some (.slice A l.length c) ∧ w'.cell? ⟨w.heap.size, 4, none⟩ = some (.int .i64 at_)) (ds := [3]) #[false, false, false, false] (by kernel_rfl) rfl rfl ⟨(blk_cell B1.out 0).trans rfl, (blk_cell B1.out 1).trans rfl, (blk_cell B1.out 2).trans rfl, (blk_cell B1.out 3).trans rfl, (blk_cell B1.out 4).trans rfl⟩ (fun hHeld => ?_)
    replace B1 := Aside0.mk (blk_drew B1.out)
    replace B3 := Aside0.mk (blk_drew B3.out)
    replace HB := Aside0.mk (below_drew1 HB.out)
    generalize W0.drew = W6 at B1 B3 HB hHeld ⊢
    refine pure_ (i := 0) (N := (some 21)) (v := ?_) (a' := ?_) #[true, false, false, false] rfl rfl (by kernel_rfl) (fun _ _ _ h => h) (Or.inl ⟨by rfl, ?_⟩) ?_ ?_
    rotate_left
    · intro w'
      go_simp
      with_reducible rfl
    rotate_left
    · simp only [Act.put, List.setIfInBounds_toArray, List.set_cons_zero, List.set_cons_succ, i64_w, i32_w]
      rfl
    refine take_ (i := 1) (N := (some 22)) (v := ?_) (a' := ?_) #[true, true, false, false] rfl rfl (by kernel_rfl) (fun _ _ _ h => h) (Or.inl ⟨by rfl, ?_⟩) hHeld ?_ ?_
    rotate_left
    · rintro w' ⟨s0, s1, s2, s3, s4⟩
      go_simp
      with_reducible rfl
    rotate_left
    · simp only [Act.put, List.setIfInBounds_toArray, List.set_cons_zero, List.set_cons_succ, i64_w, i32_w]
      rfl
    refine pure_ (i := 2) (N := (some 6)) (v := ?_) (a' := ?_) #[true, true, true, false] rfl rfl (by kernel_rfl) (fun _ _ _ h => h) (Or.inl ⟨by rfl, ?_⟩) ?_ ?_
    rotate_left
    · intro w'
      go_simp
      with_reducible rfl
    rotate_left
    · simp only [Act.put, List.setIfInBounds_toArray, List.set_cons_zero, List.set_cons_succ, i64_w, i32_w]
      rfl
    refine last_ (i := 3) (N := none) #[true, true, true, true] rfl rfl (by kernel_rfl) (by decide) (fun K hK => ?_)
    have hs0 : W6.cell? ⟨w.heap.size + 1, 0, none⟩ = some (.int .i64 0) := (blk_cell B3.out 0).trans rfl
    have hf0 := blk_frozen B3.out 0
    have hs1 : W6.cell? ⟨w.heap.size + 1, 1, none⟩ = some (.int .u64 0) := (blk_cell B3.out 1).trans rfl
    have hf1 := blk_frozen B3.out 1
    have hs2 : W6.cell? ⟨w.heap.size + 1, 2, none⟩ = some (.int .u64 0) := (blk_cell B3.out 2).trans rfl
    have hf2 := blk_frozen B3.out 2
    have hs3 : W6.cell? ⟨w.heap.size + 1, 3, none⟩ = some (.slice none 0 0) := (blk_cell B3.out 3).trans rfl
    have hf3 := blk_frozen B3.out 3
    have hs4 : W6.cell? ⟨w.heap.size + 1, 4, none⟩ = some (.int .i64 0) := (blk_cell B3.out 4).trans rfl
    have hf4 := blk_frozen B3.out 4
    refine skip_ (w1 := ?_) (by rfl) rfl ?_ ?_
    rotate_left
    · go_simp
      rfl
    refine hK.out _ _ ?_
    clear hK K
    refine done_ (by kernel_rfl) ?_
    try go_wp2
    have q0 := blk_set B3.out 0 (.int .i64 k)
    have q1 := blk_set q0 1 (.int .u64 st)
    have q2 := blk_set q1 2 (.int .u64 ic)
    have q3 := blk_set q2 3 (.slice A l.length c)
    have q4 := blk_set q3 4 (.int .i64 at_)
    (try simp only [Exit.inBlock, Exit.then])
    refine bodyPost_ret (results_list (rs := [.tmp 6, .cell 7 25]) rfl (by simp) (.tmp (.cell (w.heap.size + 1) 25 #[.int .i64 k, .int .u64 st, .int .u64 ic, .slice A l.length c, .int .i64 at_] (0, 0) _ rfl (q4.trans (by rfl)) Try.underlying25 rfl (by kernel_rfl) .nil))) rfl ⟨rfl, ?_⟩
    exact below_set (j := 4) (v := (.int .i64 at_)) (below_set (j := 3) (v := (.slice A l.length c)) (below_set (j := 2) (v := (.int .u64 ic)) (below_set (j := 1) (v := (.int .u64 st)) (below_set (j := 0) (v := (.int .i64 k)) HB.out GE3.out) GE3.out) GE3.out) GE3.out) GE3.out
  · have c1 : decide (hi ≤ lo) = false := decide_eq_false h1
    by_cases h2 : 4294967295 ≤ wideU lo hi
    · have e1 : betX k st l at_ lo hi = lo := if_pos (.inr h2)
      have e2 : betSt k st ic lo hi = st := if_pos (.inr h2)
      have e3 : betAt k l at_ lo hi = at_ := if_pos (.inr h2)
      rw [e1, e2, e3]
      clear e1 e2 e3
      unfold wideU at h2
      have c2 : decide (4294967295 ≤ IntKind.u64.wrap (IntKind.u64.wrap hi - IntKind.u64.wrap lo)) = true := decide_eq_true h2
      go_enter Try.func24, Try.ntmps24
      go_wp2_with fail
      generalize ((w.alloc (.cells #[.int .i64 k, .int .u64 st, .int .u64 ic, .slice A l.length c, .int .i64 at_] 25 (0, 0))).alloc (.cells #[.int .i64 0, .int .u64 0, .int .u64 0, .slice none 0 0, .int .i64 0] 25 (0, 0))) = W0 at *
      refine start_ (n := 4) (S := fun w' => w'.cell? ⟨w.heap.size, 0, none⟩ = some (.int .i64 k) ∧ w'.cell? ⟨w.heap.size, 1, none⟩ = some (.int .u64 st) ∧ w'.cell? ⟨w.heap.size, 2, none⟩ = some (.int .u64 ic) ∧ w'.cell? ⟨w.heap.size, 3, none⟩ = some (.slice A l.length c) ∧ w'.cell? ⟨w.heap.size, 4, none⟩ = some (.int .i64 at_)) (ds := [3]) #[false, false, false, false] (by kernel_rfl) rfl rfl ⟨(blk_cell B1.out 0).trans rfl, (blk_cell B1.out 1).trans rfl, (blk_cell B1.out 2).trans rfl, (blk_cell B1.out 3).trans rfl, (blk_cell B1.out 4).trans rfl⟩ (fun hHeld => ?_)
      replace B1 := Aside0.mk (blk_drew B1.out)
      replace B3 := Aside0.mk (blk_drew B3.out)
      replace HB := Aside0.mk (below_drew1 HB.out)
      generalize W0.drew = W6 at B1 B3 HB hHeld ⊢
      refine pure_ (i := 0) (N := (some 21)) (v := ?_) (a' := ?_) #[true, false, false, false] rfl rfl (by kernel_rfl) (fun _ _ _ h => h) (Or.inl ⟨by rfl, ?_⟩) ?_ ?_
      rotate_left
      · intro w'
        go_simp
        with_reducible rfl
      rotate_left
      · simp only [Act.put, List.setIfInBounds_toArray, List.set_cons_zero, List.set_cons_succ, i64_w, i32_w]
        rfl
      refine take_ (i := 1) (N := (some 22)) (v := ?_) (a' := ?_) #[true, true, false, false] rfl rfl (by kernel_rfl) (fun _ _ _ h => h) (Or.inl ⟨by rfl, ?_⟩) hHeld ?_ ?_
      rotate_left
      · rintro w' ⟨s0, s1, s2, s3, s4⟩
        go_simp
        with_reducible rfl
      rotate_left
      · simp only [Act.put, List.setIfInBounds_toArray, List.set_cons_zero, List.set_cons_succ, i64_w, i32_w]
        rfl
      refine pure_ (i := 2) (N := (some 6)) (v := ?_) (a' := ?_) #[true, true, true, false] rfl rfl (by kernel_rfl) (fun _ _ _ h => h) (Or.inl ⟨by rfl, ?_⟩) ?_ ?_
      rotate_left
      · intro w'
        go_simp
        with_reducible rfl
      rotate_left
      · simp only [Act.put, List.setIfInBounds_toArray, List.set_cons_zero, List.set_cons_succ, i64_w, i32_w]
        rfl
      refine last_ (i := 3) (N := none) #[true, true, true, true] rfl rfl (by kernel_rfl) (by decide) (fun K hK => ?_)
      have hs0 : W6.cell? ⟨w.heap.size + 1, 0, none⟩ = some (.int .i64 0) := (blk_cell B3.out 0).trans rfl
      have hf0 := blk_frozen B3.out 0
      have hs1 : W6.cell? ⟨w.heap.size + 1, 1, none⟩ = some (.int .u64 0) := (blk_cell B3.out 1).trans rfl
      have hf1 := blk_frozen B3.out 1
      have hs2 : W6.cell? ⟨w.heap.size + 1, 2, none⟩ = some (.int .u64 0) := (blk_cell B3.out 2).trans rfl
      have hf2 := blk_frozen B3.out 2
      have hs3 : W6.cell? ⟨w.heap.size + 1, 3, none⟩ = some (.slice none 0 0) := (blk_cell B3.out 3).trans rfl
      have hf3 := blk_frozen B3.out 3
      have hs4 : W6.cell? ⟨w.heap.size + 1, 4, none⟩ = some (.int .i64 0) := (blk_cell B3.out 4).trans rfl
      have hf4 := blk_frozen B3.out 4
      refine skip_ (w1 := ?_) (by rfl) rfl ?_ ?_
      rotate_left
      · go_simp
        rfl
      refine hK.out _ _ ?_
      clear hK K
      refine done_ (by kernel_rfl) ?_
      try go_wp2
      have q0 := blk_set B3.out 0 (.int .i64 k)
      have q1 := blk_set q0 1 (.int .u64 st)
      have q2 := blk_set q1 2 (.int .u64 ic)
      have q3 := blk_set q2 3 (.slice A l.length c)
      have q4 := blk_set q3 4 (.int .i64 at_)
      (try simp only [Exit.inBlock, Exit.then])
      refine bodyPost_ret (results_list (rs := [.tmp 6, .cell 7 25]) rfl (by simp) (.tmp (.cell (w.heap.size + 1) 25 #[.int .i64 k, .int .u64 st, .int .u64 ic, .slice A l.length c, .int .i64 at_] (0, 0) _ rfl (q4.trans (by rfl)) Try.underlying25 rfl (by kernel_rfl) .nil))) rfl ⟨rfl, ?_⟩
      exact below_set (j := 4) (v := (.int .i64 at_)) (below_set (j := 3) (v := (.slice A l.length c)) (below_set (j := 2) (v := (.int .u64 ic)) (below_set (j := 1) (v := (.int .u64 st)) (below_set (j := 0) (v := (.int .i64 k)) HB.out GE3.out) GE3.out) GE3.out) GE3.out) GE3.out
    · have e1 : betX k st l at_ lo hi = IntKind.i64.wrap (lo + belowX k st l at_ (betN lo hi)) := if_neg (fun h => h.elim h1 h2)
      have e2 : betSt k st ic lo hi = belowSt k st ic (betN lo hi) := if_neg (fun h => h.elim h1 h2)
      have e3 : betAt k l at_ lo hi = belowAt k l at_ (betN lo hi) := if_neg (fun h => h.elim h1 h2)
      rw [e1, e2, e3]
      clear e1 e2 e3
      unfold wideU at h2
      have c2 : decide (4294967295 ≤ IntKind.u64.wrap (IntKind.u64.wrap hi - IntKind.u64.wrap lo)) = false := decide_eq_false h2
      unfold betN
      obtain ⟨dd, hd⟩ : ∃ dd, IntKind.i64.wrap (hi - lo) = dd := ⟨_, rfl⟩
      rw [hd]
      obtain ⟨m, hm⟩ : ∃ m, IntKind.i64.wrap (dd + 1) = m := ⟨_, rfl⟩
      rw [hm]
      obtain ⟨y, hy⟩ : ∃ y, IntKind.i64.wrap (lo + belowX k st l at_ m) = y := ⟨_, rfl⟩
      rw [hy]
      go_enter Try.func24, Try.ntmps24
      go_wp2_with (first | ((with_reducible refine gate_callee (f := 23) rfl ?_); refine goesL_ (some 29) rfl rfl Try.func23 (by kernel_rfl) rfl #[.agg #[.int .i64 k, .int .u64 st, .int .u64 ic, .slice A l.length c, .int .i64 at_], .int .i64 m] rfl (by (try simp only [List.map_toArray, List.map_cons, List.map_nil]); first | done | rfl) ?_; (refine (draw_Below_calls k st ic at_ A c l m _ (Kd.C_below HR.out HB.out)).mono ?_); rintro e w1 ⟨rfl, hb⟩; refine ⟨_, rfl, ?_⟩; have n1_ := Aside0.mk (below_alloc (below_step HB.out hb) (.cells #[.int .i64 k, .int .u64 (belowSt k st ic m), .int .u64 ic, .slice A l.length c, .int .i64 (belowAt k l at_ m)] 25 (0, 0))); have n2_ := Aside0.mk (blk_alloc (blk_below B3.out hb) (.cells #[.int .i64 k, .int .u64 (belowSt k st ic m), .int .u64 ic, .slice A l.length c, .int .i64 (belowAt k l at_ m)] 25 (0, 0))); have B7 := Aside0.mk (blk_new w1 (.cells #[.int .i64 k, .int .u64 (belowSt k st ic m), .int .u64 ic, .slice A l.length c, .int .i64 (belowAt k l at_ m)] 25 (0, 0))); clear HB B3 B1 hb; have HB := n1_; have B3 := n2_; clear n1_ n2_))
      generalize w1.heap.size = g7 at *
      generalize w1.alloc (.cells #[.int .i64 k, .int .u64 (belowSt k st ic m), .int .u64 ic, .slice A l.length c, .int .i64 (belowAt k l at_ m)] 25 (0, 0)) = W5 at *
      refine start_ (n := 6) (S := fun w' => w'.cell? ⟨g7, 0, none⟩ = some (.int .i64 k) ∧ w'.cell? ⟨g7, 1, none⟩ = some (.int .u64 (belowSt k st ic m)) ∧ w'.cell? ⟨g7, 2, none⟩ = some (.int .u64 ic) ∧ w'.cell? ⟨g7, 3, none⟩ = some (.slice A l.length c) ∧ w'.cell? ⟨g7, 4, none⟩ = some (.int .i64 (belowAt k l at_ m))) (ds := [5]) #[false, false, false, false, false, false] (by kernel_rfl) rfl rfl ⟨(blk_cell B7.out 0).trans rfl, (blk_cell B7.out 1).trans rfl, (blk_cell B7.out 2).trans rfl, (blk_cell B7.out 3).trans rfl, (blk_cell B7.out 4).trans rfl⟩ (fun hHeld => ?_)
      replace B7 := Aside0.mk (blk_drew B7.out)
      replace B3 := Aside0.mk (blk_drew B3.out)
      replace HB := Aside0.mk (below_drew1 HB.out)
      generalize W5.drew = W6 at B7 B3 HB hHeld ⊢
      refine pure_ (i := 0) (N := (some 32)) (v := ?_) (a' := ?_) #[true, false, false, false, false, false] rfl rfl (by kernel_rfl) (fun _ _ _ h => h) (Or.inl ⟨by rfl, ?_⟩) ?_ ?_
      rotate_left
      · intro w'
        go_simp
        with_reducible rfl
      rotate_left
      · simp only [Act.put, List.setIfInBounds_toArray, List.set_cons_zero, List.set_cons_succ, i64_w, i32_w]
        rfl
      refine pure_ (i := 1) (N := (some 33)) (v := ?_) (a' := ?_) #[true, true, false, false, false, false] rfl rfl (by kernel_rfl) (fun _ _ _ h => h) (Or.inl ⟨by rfl, ?_⟩) ?_ ?_
      rotate_left
      · intro w'
        go_simp
        with_reducible rfl
      rotate_left
      · simp only [Act.put, List.setIfInBounds_toArray, List.set_cons_zero, List.set_cons_succ, i64_w, i32_w]
        rfl
      refine pure_ (i := 2) (N := (some 34)) (v := ?_) (a' := ?_) #[true, true, true, false, false, false] rfl rfl (by kernel_rfl) (fun _ _ _ h => h) (Or.inl ⟨by rfl, ?_⟩) ?_ ?_
      rotate_left
      · intro w'
        go_simp
        with_reducible rfl
      rotate_left
      · simp only [Act.put, List.setIfInBounds_toArray, List.set_cons_zero, List.set_cons_succ, i64_w, i32_w]
        rfl
      refine take_ (i := 3) (N := (some 35)) (v := ?_) (a' := ?_) #[true, true, true, true, false, false] rfl rfl (by kernel_rfl) (fun _ _ _ h => h) (Or.inl ⟨by rfl, ?_⟩) hHeld ?_ ?_
      rotate_left
      · rintro w' ⟨s0, s1, s2, s3, s4⟩
        go_simp
        with_reducible rfl
      rotate_left
      · simp only [Act.put, List.setIfInBounds_toArray, List.set_cons_zero, List.set_cons_succ, i64_w, i32_w]
        rfl
      refine pure_ (i := 4) (N := (some 6)) (v := ?_) (a' := ?_) #[true, true, true, true, true, false] rfl rfl (by kernel_rfl) (fun _ _ _ h => h) (Or.inl ⟨by rfl, ?_⟩) ?_ ?_
      rotate_left
      · intro w'
        go_simp
        with_reducible rfl
      rotate_left
      · simp only [Act.put, List.setIfInBounds_toArray, List.set_cons_zero, List.set_cons_succ, i64_w, i32_w]
        rfl
      refine last_ (i := 5) (N := none) #[true, true, true, true, true, true] rfl rfl (by kernel_rfl) (by decide) (fun K hK => ?_)
      have hs0 : W6.cell? ⟨w.heap.size + 1, 0, none⟩ = some (.int .i64 0) := (blk_cell B3.out 0).trans rfl
      have hf0 := blk_frozen B3.out 0
      have hs1 : W6.cell? ⟨w.heap.size + 1, 1, none⟩ = some (.int .u64 0) := (blk_cell B3.out 1).trans rfl
      have hf1 := blk_frozen B3.out 1
      have hs2 : W6.cell? ⟨w.heap.size + 1, 2, none⟩ = some (.int .u64 0) := (blk_cell B3.out 2).trans rfl
      have hf2 := blk_frozen B3.out 2
      have hs3 : W6.cell? ⟨w.heap.size + 1, 3, none⟩ = some (.slice none 0 0) := (blk_cell B3.out 3).trans rfl
      have hf3 := blk_frozen B3.out 3
      have hs4 : W6.cell? ⟨w.heap.size + 1, 4, none⟩ = some (.int .i64 0) := (blk_cell B3.out 4).trans rfl
      have hf4 := blk_frozen B3.out 4
      refine skip_ (w1 := ?_) (by rfl) rfl ?_ ?_
      rotate_left
      · go_simp
        rfl
      refine hK.out _ _ ?_
      clear hK K
      refine done_ (by kernel_rfl) ?_
      try go_wp2
      have q0 := blk_set B3.out 0 (.int .i64 k)
      have q1 := blk_set q0 1 (.int .u64 (belowSt k st ic m))
      have q2 := blk_set q1 2 (.int .u64 ic)
      have q3 := blk_set q2 3 (.slice A l.length c)
      have q4 := blk_set q3 4 (.int .i64 (belowAt k l at_ m))
      (try simp only [Exit.inBlock, Exit.then])
      refine bodyPost_ret (results_list (rs := [.tmp 6, .cell 7 25]) rfl (by simp) (.tmp (.cell (w.heap.size + 1) 25 #[.int .i64 k, .int .u64 (belowSt k st ic m), .int .u64 ic, .slice A l.length c, .int .i64 (belowAt k l at_ m)] (0, 0) _ rfl (q4.trans (by rfl)) Try.underlying25 rfl (by kernel_rfl) .nil))) rfl ⟨rfl, ?_⟩
      exact below_set (j := 4) (v := (.int .i64 (belowAt k l at_ m))) (below_set (j := 3) (v := (.slice A l.length c)) (below_set (j := 2) (v := (.int .u64 ic)) (below_set (j := 1) (v := (.int .u64 (belowSt k st ic m))) (below_set (j := 0) (v := (.int .i64 k)) HB.out GE3.out) GE3.out) GE3.out) GE3.out) GE3.out
end
section
open Go.RowKit Go.Proofs.YtjiogchafnpkhaaW.PrintWords Go.Proofs.YtjiogchafnpkhaaW.PrintLast Go.Proofs.YtjiogchafnpkhaaW.PrintMore
attribute [local go_sem] max2_int min2_int max_two min_two max_three min_three max_four min_four
attribute [local go_sem] Go.Proofs.YtjiogchafnpkhaaS.cell_set_map Go.Proofs.YtjiogchafnpkhaaS.setCell_drewN
set_option linter.unusedVariables false
set_option linter.unusedSimpArgs false
theorem size_setCell (w : World) (a : Addr) (v : Value) : (w.setCell a v).heap.size = w.heap.size := by simp [World.setCell]
/-- A seeded source's increment and state. -/
def pcgInc (stream : Int) : Int := bits .or .u64 (IntKind.u64.wrap (stream * 2)) 1
def pcgNew (seed ic : Int) : Int := pcgSt (IntKind.u64.wrap (pcgSt 0 ic + seed)) ic
set_option maxHeartbeats 4000000 in
set_option maxRecDepth 100000 in
theorem draw_Pcg_calls (seed stream : Int) (w : World) : Calls Try.prog 17 #[.int .u64 seed, .int .u64 stream] w fun e w' => e = .returned (.agg #[.int .i64 1, .int .u64 (pcgNew seed (pcgInc stream)), .int .u64 (pcgInc stream), .slice none 0 0, .int .i64 0]) ∧ Below w.heap.size w w' := by
  have hu25 := Try.underlying25
  have hs : IntKind.u64.wrap (stream * 2) = IntKind.u64.wrap (stream * 2) := rfl
  have hic : bits .or .u64 (IntKind.u64.wrap (stream * 2)) 1 = pcgInc stream := rfl
  unfold pcgNew
  generalize pcgInc stream = ic at *
  clear hs
  obtain ⟨t1, ht1⟩ : ∃ t1, IntKind.u64.wrap (pcgSt 0 ic + seed) = t1 := ⟨_, rfl⟩
  rw [ht1]
  have B4 := Aside0.mk (blk_alloc (blk_new w (.cells #[.int .i64 0, .int .u64 0, .int .u64 0, .slice none 0 0, .int .i64 0] 25 (0, 0))) (.cells #[.int .i64 1, .int .u64 0, .int .u64 ic, .slice none 0 0, .int .i64 0] 25 (0, 0)))
  have B5 := Aside0.mk (show ((w.alloc (.cells #[.int .i64 0, .int .u64 0, .int .u64 0, .slice none 0 0, .int .i64 0] 25 (0, 0))).alloc (.cells #[.int .i64 1, .int .u64 0, .int .u64 ic, .slice none 0 0, .int .i64 0] 25 (0, 0))).heap[w.heap.size + 1]? = some (.cells #[.int .i64 1, .int .u64 0, .int .u64 ic, .slice none 0 0, .int .i64 0] 25 (0, 0)) by have := blk_new (w.alloc (.cells #[.int .i64 0, .int .u64 0, .int .u64 0, .slice none 0 0, .int .i64 0] 25 (0, 0))) (.cells #[.int .i64 1, .int .u64 0, .int .u64 ic, .slice none 0 0, .int .i64 0] 25 (0, 0)); rwa [Go.Proofs.YtjiogchafnpkhaaS.size_alloc] at this)
  have HB := Aside0.mk (below_alloc (below_alloc (Below.refl w.heap.size w) (.cells #[.int .i64 0, .int .u64 0, .int .u64 0, .slice none 0 0, .int .i64 0] 25 (0, 0))) (.cells #[.int .i64 1, .int .u64 0, .int .u64 ic, .slice none 0 0, .int .i64 0] 25 (0, 0)))
  have GE5 : Aside0 (w.heap.size ≤ w.heap.size + 1) := ⟨by omega⟩
  have NE : Aside0 (w.heap.size ≠ w.heap.size + 1) := ⟨by omega⟩
  go_enter Try.func17, Try.ntmps17
  go_wp2_with (first | ((with_reducible refine gate_callee (f := 13) rfl ?_); refine goesL_ (some 12) rfl rfl Try.func13 (by kernel_rfl) rfl #[.agg #[.int .i64 1, .int .u64 0, .int .u64 ic, .slice none 0 0, .int .i64 0]] rfl (by (try simp only [List.map_toArray, List.map_cons, List.map_nil]); first | done | rfl) ?_; (refine (next_pcg 0 ic 0 none 0 0 _).mono ?_); rintro e w1 ⟨rfl, hb⟩; refine ⟨_, rfl, ?_⟩; have n1_ := Aside0.mk (below_step HB.out hb); have n2_ := Aside0.mk (blk_below B5.out hb); have n3_ := Aside0.mk (blk_below B4.out hb); clear HB B5 B4 hb; have HB := n1_; have B5 := n2_; have B4 := n3_; clear n1_ n2_ n3_; have ha0 : w1.cell? ⟨w.heap.size + 1, 0, none⟩ = some (.int .i64 1) := (blk_cell B5.out 0).trans rfl; have fa0 := blk_frozen B5.out 0; have ha1 : w1.cell? ⟨w.heap.size + 1, 1, none⟩ = some (.int .u64 0) := (blk_cell B5.out 1).trans rfl; have fa1 := blk_frozen B5.out 1; have ha2 : w1.cell? ⟨w.heap.size + 1, 2, none⟩ = some (.int .u64 ic) := (blk_cell B5.out 2).trans rfl; have fa2 := blk_frozen B5.out 2; have ha3 : w1.cell? ⟨w.heap.size + 1, 3, none⟩ = some (.slice none 0 0) := (blk_cell B5.out 3).trans rfl; have fa3 := blk_frozen B5.out 3; have ha4 : w1.cell? ⟨w.heap.size + 1, 4, none⟩ = some (.int .i64 0) := (blk_cell B5.out 4).trans rfl; have fa4 := blk_frozen B5.out 4) | ((with_reducible refine gate_callee (f := 13) rfl ?_); clear ha0 fa0 ha1 fa1 ha2 fa2 ha3 fa3 ha4 fa4; refine goesL_ (some 22) rfl rfl Try.func13 (by kernel_rfl) rfl #[.agg #[.int .i64 1, .int .u64 t1, .int .u64 ic, .slice none 0 0, .int .i64 0]] rfl (by (try simp only [List.map_toArray, List.map_cons, List.map_nil]); first | done | rfl) ?_; (refine (next_pcg t1 ic 0 none 0 0 _).mono ?_); rintro e w2 ⟨rfl, hb⟩; refine ⟨_, rfl, ?_⟩; have n1_ := Aside0.mk (below_step (below_set (j := 1) (v := (.int .u64 t1)) (below_set (j := 4) (v := (.int .i64 0)) (below_set (j := 3) (v := (.slice none 0 0)) (below_set (j := 2) (v := (.int .u64 ic)) (below_set (j := 1) (v := (.int .u64 (pcgSt 0 ic))) (below_set (j := 0) (v := (.int .i64 1)) HB.out GE5.out) GE5.out) GE5.out) GE5.out) GE5.out) GE5.out) hb); have n2_ : Aside0 (w2.heap[w.heap.size + 1]? = some (.cells #[.int .i64 1, .int .u64 t1, .int .u64 ic, .slice none 0 0, .int .i64 0] 25 (0, 0))) := ⟨(blk_below (blk_set (blk_set (blk_set (blk_set (blk_set (blk_set B5.out 0 (.int .i64 1)) 1 (.int .u64 (pcgSt 0 ic))) 2 (.int .u64 ic)) 3 (.slice none 0 0)) 4 (.int .i64 0)) 1 (.int .u64 t1)) hb).trans (by rfl)⟩; have n3_ := Aside0.mk (blk_below (blk_far (blk_far (blk_far (blk_far (blk_far (blk_far B4.out (p := ⟨w.heap.size + 1, 0, none⟩) NE.out (.int .i64 1)) (p := ⟨w.heap.size + 1, 1, none⟩) NE.out (.int .u64 (pcgSt 0 ic))) (p := ⟨w.heap.size + 1, 2, none⟩) NE.out (.int .u64 ic)) (p := ⟨w.heap.size + 1, 3, none⟩) NE.out (.slice none 0 0)) (p := ⟨w.heap.size + 1, 4, none⟩) NE.out (.int .i64 0)) (p := ⟨w.heap.size + 1, 1, none⟩) NE.out (.int .u64 t1)) hb); clear HB B5 B4 hb; have HB := n1_; have B5 := n2_; have B4 := n3_; clear n1_ n2_ n3_; have hb0 : w2.cell? ⟨w.heap.size + 1, 0, none⟩ = some (.int .i64 1) := (blk_cell B5.out 0).trans rfl; have fb0 := blk_frozen B5.out 0; have hb1 : w2.cell? ⟨w.heap.size + 1, 1, none⟩ = some (.int .u64 t1) := (blk_cell B5.out 1).trans rfl; have fb1 := blk_frozen B5.out 1; have hb2 : w2.cell? ⟨w.heap.size + 1, 2, none⟩ = some (.int .u64 ic) := (blk_cell B5.out 2).trans rfl; have fb2 := blk_frozen B5.out 2; have hb3 : w2.cell? ⟨w.heap.size + 1, 3, none⟩ = some (.slice none 0 0) := (blk_cell B5.out 3).trans rfl; have fb3 := blk_frozen B5.out 3; have hb4 : w2.cell? ⟨w.heap.size + 1, 4, none⟩ = some (.int .i64 0) := (blk_cell B5.out 4).trans rfl; have fb4 := blk_frozen B5.out 4; have hc0 : w2.cell? ⟨w.heap.size, 0, none⟩ = some (.int .i64 0) := (blk_cell B4.out 0).trans rfl; have fc0 := blk_frozen B4.out 0; have hc1 : w2.cell? ⟨w.heap.size, 1, none⟩ = some (.int .u64 0) := (blk_cell B4.out 1).trans rfl; have fc1 := blk_frozen B4.out 1; have hc2 : w2.cell? ⟨w.heap.size, 2, none⟩ = some (.int .u64 0) := (blk_cell B4.out 2).trans rfl; have fc2 := blk_frozen B4.out 2; have hc3 : w2.cell? ⟨w.heap.size, 3, none⟩ = some (.slice none 0 0) := (blk_cell B4.out 3).trans rfl; have fc3 := blk_frozen B4.out 3; have hc4 : w2.cell? ⟨w.heap.size, 4, none⟩ = some (.int .i64 0) := (blk_cell B4.out 4).trans rfl; have fc4 := blk_frozen B4.out 4))
  have q5 : Aside0 ((w2).heap[w.heap.size]? = some (.cells #[.int .i64 0, .int .u64 0, .int .u64 0, .slice none 0 0, .int .i64 0] 25 (0, 0))) := ⟨B4.out⟩
  have b4 := (blk_set (blk_set (blk_set (blk_set (blk_set (blk_far (blk_far (blk_far (blk_far (blk_far B4.out (p := ⟨w.heap.size + 1, 0, none⟩) NE.out (.int .i64 1)) (p := ⟨w.heap.size + 1, 1, none⟩) NE.out (.int .u64 (pcgSt t1 ic))) (p := ⟨w.heap.size + 1, 2, none⟩) NE.out (.int .u64 ic)) (p := ⟨w.heap.size + 1, 3, none⟩) NE.out (.slice none 0 0)) (p := ⟨w.heap.size + 1, 4, none⟩) NE.out (.int .i64 0)) 0 (.int .i64 1)) 1 (.int .u64 (pcgSt t1 ic))) 2 (.int .u64 ic)) 3 (.slice none 0 0)) 4 (.int .i64 0))
  (try simp only [Exit.inBlock, Exit.then])
  refine bodyPost_ret (results_cell_row rfl _ _ w.heap.size 25 #[.int .i64 1, .int .u64 (pcgSt t1 ic), .int .u64 ic, .slice none 0 0, .int .i64 0] (0, 0) _ rfl (b4.trans (by rfl)) Try.underlying25 rfl (by kernel_rfl)) rfl ⟨rfl, ?_⟩
  exact (below_set (j := 4) (v := (.int .i64 0)) (below_set (j := 3) (v := (.slice none 0 0)) (below_set (j := 2) (v := (.int .u64 ic)) (below_set (j := 1) (v := (.int .u64 (pcgSt t1 ic))) (below_set (j := 0) (v := (.int .i64 1)) (below_set (j := 4) (v := (.int .i64 0)) (below_set (j := 3) (v := (.slice none 0 0)) (below_set (j := 2) (v := (.int .u64 ic)) (below_set (j := 1) (v := (.int .u64 (pcgSt t1 ic))) (below_set (j := 0) (v := (.int .i64 1)) HB.out GE5.out) GE5.out) GE5.out) GE5.out) GE5.out) (Nat.le_refl _)) (Nat.le_refl _)) (Nat.le_refl _)) (Nat.le_refl _)) (Nat.le_refl _))
end
section
open Go.RowKit Go.Proofs.YtjiogchafnpkhaaW.PrintWords Go.Proofs.YtjiogchafnpkhaaW.PrintLast Go.Proofs.YtjiogchafnpkhaaW.PrintMore
attribute [local go_sem] max2_int min2_int max_two min_two max_three min_three max_four min_four
attribute [local go_sem] Go.Proofs.YtjiogchafnpkhaaS.cell_set_map Go.Proofs.YtjiogchafnpkhaaS.setCell_drewN
set_option linter.unusedVariables false
set_option linter.unusedSimpArgs false
/-- The state and the place behind so many draws, and the draws. -/
def stI (k ic st : Int) : Nat → Int | 0 => st | i + 1 => nextSt k (stI k ic st i) ic
def atI (k : Int) (l : List Int) (at_ : Int) : Nat → Int | 0 => at_ | i + 1 => nextAt k l (atI k l at_ i)
def outI (k ic st : Int) (l : List Int) (at_ : Int) (n : Nat) : List Int := (List.range n).map fun i => nextX k (stI k ic st i) l (atI k l at_ i)
theorem outI_length (k ic st : Int) (l : List Int) (at_ : Int) (n : Nat) : (outI k ic st l at_ n).length = n := by simp [outI]
theorem outI_succ (k ic st : Int) (l : List Int) (at_ : Int) (n : Nat) : outI k ic st l at_ (n + 1) = outI k ic st l at_ n ++ [nextX k (stI k ic st n) l (atI k l at_ n)] := by simp [outI, List.range_succ]
theorem reads_blk1 {w : World} {g t : Nat} {y : Int} (h : w.heap[g]? = some (.cells #[.int .i64 y] t (0, 0))) : ReadsRow (fun (x : Int) cs => cs = [Value.int .i64 x]) 1 w (some ⟨g, 0, none⟩) 1 [y] := by
  refine ⟨rfl, by omega, fun _ => ⟨_, rfl, fun j p hp => ⟨[.int .i64 p], rfl, rfl, fun i u hu => ?_⟩⟩⟩
  match i, hu with
  | 0, hu =>
    simp at hu
    subst hu
    match j, hp with
    | 0, hp => simp at hp; subst hp; exact (blk_cell h 0).trans rfl
set_option maxHeartbeats 8000000 in
set_option maxRecDepth 100000 in
theorem draw_Many_calls (k st ic at_ : Int) (A : Option Addr) (c : Nat) (l : List Int) (n : Int) (w : World) (hr : Kd.C (Kd.int .u64) w A l.length l) (m : Nat) (hm : mx 0 (mn n 1000) = (m : Int)) : Calls Try.prog 21 #[.agg #[.int .i64 k, .int .u64 st, .int .u64 ic, .slice A l.length c, .int .i64 at_], .int .i64 n] w fun e w' => ∃ v0_ : Value, e = .returned (.tuple #[v0_, .agg #[.int .i64 k, .int .u64 (stI k ic st m), .int .u64 ic, .slice A l.length c, .int .i64 (atI k l at_ m)]]) ∧ Kd.R (Kd.int .i64) 3 w' w.heap.size (fun _ => True) v0_ (outI k ic st l at_ m) ∧ Below w.heap.size w w' := by
  have hu25 := Try.underlying25
  have HR := Aside0.mk hr
  clear hr
  have B2 := Aside0.mk (blk_alloc (blk_new w (.cells #[.int .i64 k, .int .u64 st, .int .u64 ic, .slice A l.length c, .int .i64 at_] 25 (0, 0))) (.cells #[.int .i64 0, .int .u64 0, .int .u64 0, .slice none 0 0, .int .i64 0] 25 (0, 0)))
  have B5 := Aside0.mk (show (((w.alloc (.cells #[.int .i64 k, .int .u64 st, .int .u64 ic, .slice A l.length c, .int .i64 at_] 25 (0, 0))).alloc (.cells #[.int .i64 0, .int .u64 0, .int .u64 0, .slice none 0 0, .int .i64 0] 25 (0, 0))).heap[w.heap.size + 1]? = some (.cells #[.int .i64 0, .int .u64 0, .int .u64 0, .slice none 0 0, .int .i64 0] 25 (0, 0))) by have := blk_new (w.alloc (.cells #[.int .i64 k, .int .u64 st, .int .u64 ic, .slice A l.length c, .int .i64 at_] 25 (0, 0))) (.cells #[.int .i64 0, .int .u64 0, .int .u64 0, .slice none 0 0, .int .i64 0] 25 (0, 0)); rwa [Go.Proofs.YtjiogchafnpkhaaS.size_alloc] at this)
  have HB := Aside0.mk (below_alloc (below_alloc (Below.refl w.heap.size w) (.cells #[.int .i64 k, .int .u64 st, .int .u64 ic, .slice A l.length c, .int .i64 at_] 25 (0, 0))) (.cells #[.int .i64 0, .int .u64 0, .int .u64 0, .slice none 0 0, .int .i64 0] 25 (0, 0)))
  have GE5 : Aside0 (w.heap.size ≤ w.heap.size + 1) := ⟨by omega⟩
  have NE : Aside0 (w.heap.size + 1 ≠ w.heap.size) := ⟨by omega⟩
  have hE : ∀ q, q ∈ 3 :: (Kd.int .i64).E → q ≠ 25 := by
    intro q hq
    have : q = 3 := by simpa [Kd.int, Kd.scalar] using hq
    omega
  have hm1 : m ≤ 1000 := by unfold mx mn at hm; (repeat' split at hm) <;> omega
  obtain ⟨q, hq⟩ : ∃ q, mn n 1000 = q := ⟨_, rfl⟩
  have f1 : (if (1000 : Int) < n then (1000 : Int) else n) = q := hq
  rw [hq] at hm
  have f2 : (if (0 : Int) < q then q else 0) = (m : Int) := hm
  clear hm hq
  go_enter Try.func21, Try.ntmps21
  go_wp2
  go_loopw [6, 11] (fun v6 v11 wr => ∃ i : Nat, i ≤ m ∧ v11 = .int .i64 i ∧ Aside0 (wr.heap[w.heap.size]? = some (.cells #[.int .i64 k, .int .u64 (stI k ic st i), .int .u64 ic, .slice A l.length c, .int .i64 (atI k l at_ i)] 25 (0, 0))) ∧ Aside0 (wr.heap[w.heap.size + 1]? = some (.cells #[.int .i64 0, .int .u64 0, .int .u64 0, .slice none 0 0, .int .i64 0] 25 (0, 0))) ∧ Aside0 (Kd.R (Kd.int .i64) 3 wr w.heap.size (fun k_ => k_ ≠ w.heap.size ∧ k_ ≠ w.heap.size + 1) v6 (outI k ic st l at_ i)) ∧ Aside0 (Below w.heap.size w wr)) (fun _ v11 _ => m - (intOf v11).toNat)
  case atStart => exact ⟨0, Nat.zero_le _, rfl, B2, B5, ⟨Kd.R_nil _ _ _ _ _⟩, HB⟩
  case round =>
    clear B2 B5 HB
    obtain ⟨i, hi, rfl, B2, B5, HO, HB⟩ := hrel
    by_cases hlt : i < m
    · have hq : (i : Int) < (m : Int) := by omega
      obtain ⟨x, hx⟩ : ∃ x, nextX k (stI k ic st i) l (atI k l at_ i) = x := ⟨_, rfl⟩
      have HU : Aside0 (outI k ic st l at_ (i + 1) = outI k ic st l at_ i ++ [x]) := ⟨by rw [outI_succ, hx]⟩
      have hs : nextSt k (stI k ic st i) ic = stI k ic st (i + 1) := rfl
      have ha : nextAt k l (atI k l at_ i) = atI k l at_ (i + 1) := rfl
      obtain ⟨st1, hst1⟩ : ∃ z, stI k ic st (i + 1) = z := ⟨_, rfl⟩
      obtain ⟨at1, hat1⟩ : ∃ z, atI k l at_ (i + 1) = z := ⟨_, rfl⟩
      rw [hst1] at hs
      rw [hat1] at ha
      generalize stI k ic st i = st0 at *
      generalize atI k l at_ i = at0 at *
      have HX := Aside0.mk hx
      have HS := Aside0.mk hs
      have HA := Aside0.mk ha
      have HST1 := Aside0.mk hst1
      have HAT1 := Aside0.mk hat1
      clear hs ha hst1 hat1
      have LEN : Aside0 ((outI k ic st l at_ i).length ≤ 1000) := ⟨by rw [outI_length]; omega⟩
      clear hx
      have ha0 : wr.cell? ⟨w.heap.size, 0, none⟩ = some (.int .i64 k) := (blk_cell B2.out 0).trans rfl
      have fa0 := blk_frozen B2.out 0
      have ha1 : wr.cell? ⟨w.heap.size, 1, none⟩ = some (.int .u64 st0) := (blk_cell B2.out 1).trans rfl
      have fa1 := blk_frozen B2.out 1
      have ha2 : wr.cell? ⟨w.heap.size, 2, none⟩ = some (.int .u64 ic) := (blk_cell B2.out 2).trans rfl
      have fa2 := blk_frozen B2.out 2
      have ha3 : wr.cell? ⟨w.heap.size, 3, none⟩ = some (.slice A l.length c) := (blk_cell B2.out 3).trans rfl
      have fa3 := blk_frozen B2.out 3
      have ha4 : wr.cell? ⟨w.heap.size, 4, none⟩ = some (.int .i64 at0) := (blk_cell B2.out 4).trans rfl
      have fa4 := blk_frozen B2.out 4
      go_wp2_with (first | ((with_reducible refine gate_callee (f := 13) rfl ?_); refine goesL_ (some 15) rfl rfl Try.func13 (by kernel_rfl) rfl #[.agg #[.int .i64 k, .int .u64 st0, .int .u64 ic, .slice A l.length c, .int .i64 at0]] rfl (by (try simp only [List.map_toArray, List.map_cons, List.map_nil]); first | done | rfl) ?_; (refine (draw_Next_calls k st0 ic at0 A c l _ (Kd.C_below HR.out HB.out)).mono ?_); rintro e w1 ⟨rfl, hb⟩; rw [HX.out, HS.out, HA.out]; refine ⟨_, rfl, ?_⟩; have n1_ := Aside0.mk (below_step HB.out hb); have n2_ := Aside0.mk (blk_below B2.out hb); have n3_ := Aside0.mk (blk_below B5.out hb); have n4_ := Aside0.mk (Kd.R_below HO.out hb); clear HB B2 B5 HO hb; clear ha0 fa0 ha1 fa1 ha2 fa2 ha3 fa3 ha4 fa4; have ha0 : w1.cell? ⟨w.heap.size, 0, none⟩ = some (.int .i64 k) := (blk_cell n2_.out 0).trans rfl; have fa0 := blk_frozen n2_.out 0; have ha1 : w1.cell? ⟨w.heap.size, 1, none⟩ = some (.int .u64 st0) := (blk_cell n2_.out 1).trans rfl; have fa1 := blk_frozen n2_.out 1; have ha2 : w1.cell? ⟨w.heap.size, 2, none⟩ = some (.int .u64 ic) := (blk_cell n2_.out 2).trans rfl; have fa2 := blk_frozen n2_.out 2; have ha3 : w1.cell? ⟨w.heap.size, 3, none⟩ = some (.slice A l.length c) := (blk_cell n2_.out 3).trans rfl; have fa3 := blk_frozen n2_.out 3; have ha4 : w1.cell? ⟨w.heap.size, 4, none⟩ = some (.int .i64 at0) := (blk_cell n2_.out 4).trans rfl; have fa4 := blk_frozen n2_.out 4; have HO := Aside0.mk (Kd.R_alloc (Kd.R_set (Kd.R_set (Kd.R_set (Kd.R_set (Kd.R_set n4_.out (g := w.heap.size) n2_.out hE 0 (.int .i64 k)) (g := w.heap.size) (blk_set n2_.out 0 (.int .i64 k)) hE 1 (.int .u64 st1)) (g := w.heap.size) (blk_set (blk_set n2_.out 0 (.int .i64 k)) 1 (.int .u64 st1)) hE 2 (.int .u64 ic)) (g := w.heap.size) (blk_set (blk_set (blk_set n2_.out 0 (.int .i64 k)) 1 (.int .u64 st1)) 2 (.int .u64 ic)) hE 3 (.slice A l.length c)) (g := w.heap.size) (blk_set (blk_set (blk_set (blk_set n2_.out 0 (.int .i64 k)) 1 (.int .u64 st1)) 2 (.int .u64 ic)) 3 (.slice A l.length c)) hE 4 (.int .i64 at1)) (.cells #[.int .i64 x] 3 (0, 0))); have B5 := Aside0.mk (blk_alloc (blk_far (blk_far (blk_far (blk_far (blk_far n3_.out (p := ⟨w.heap.size, 0, none⟩) NE.out (.int .i64 k)) (p := ⟨w.heap.size, 1, none⟩) NE.out (.int .u64 st1)) (p := ⟨w.heap.size, 2, none⟩) NE.out (.int .u64 ic)) (p := ⟨w.heap.size, 3, none⟩) NE.out (.slice A l.length c)) (p := ⟨w.heap.size, 4, none⟩) NE.out (.int .i64 at1)) (.cells #[.int .i64 x] 3 (0, 0))); have B2 : Aside0 (((((((w1.setCell ⟨w.heap.size, 0, none⟩ (.int .i64 k)).setCell ⟨w.heap.size, 1, none⟩ (.int .u64 st1)).setCell ⟨w.heap.size, 2, none⟩ (.int .u64 ic)).setCell ⟨w.heap.size, 3, none⟩ (.slice A l.length c)).setCell ⟨w.heap.size, 4, none⟩ (.int .i64 at1)).alloc (.cells #[.int .i64 x] 3 (0, 0))).heap[w.heap.size]? = some (.cells #[.int .i64 k, .int .u64 st1, .int .u64 ic, .slice A l.length c, .int .i64 at1] 25 (0, 0))) := ⟨blk_alloc ((blk_set (blk_set (blk_set (blk_set (blk_set n2_.out 0 (.int .i64 k)) 1 (.int .u64 st1)) 2 (.int .u64 ic)) 3 (.slice A l.length c)) 4 (.int .i64 at1)).trans (by rfl)) (.cells #[.int .i64 x] 3 (0, 0))⟩; have HB := Aside0.mk (below_alloc (below_set (j := 4) (v := (.int .i64 at1)) (below_set (j := 3) (v := (.slice A l.length c)) (below_set (j := 2) (v := (.int .u64 ic)) (below_set (j := 1) (v := (.int .u64 st1)) (below_set (j := 0) (v := (.int .i64 k)) n1_.out (Nat.le_refl _)) (Nat.le_refl _)) (Nat.le_refl _)) (Nat.le_refl _)) (Nat.le_refl _)) (.cells #[.int .i64 x] 3 (0, 0))); have BN : Aside0 (((((((w1.setCell ⟨w.heap.size, 0, none⟩ (.int .i64 k)).setCell ⟨w.heap.size, 1, none⟩ (.int .u64 st1)).setCell ⟨w.heap.size, 2, none⟩ (.int .u64 ic)).setCell ⟨w.heap.size, 3, none⟩ (.slice A l.length c)).setCell ⟨w.heap.size, 4, none⟩ (.int .i64 at1)).alloc (.cells #[.int .i64 x] 3 (0, 0))).heap[w1.heap.size]? = some (.cells #[.int .i64 x] 3 (0, 0))) := ⟨by have h_ := blk_new (((((w1.setCell ⟨w.heap.size, 0, none⟩ (.int .i64 k)).setCell ⟨w.heap.size, 1, none⟩ (.int .u64 st1)).setCell ⟨w.heap.size, 2, none⟩ (.int .u64 ic)).setCell ⟨w.heap.size, 3, none⟩ (.slice A l.length c)).setCell ⟨w.heap.size, 4, none⟩ (.int .i64 at1)) (.cells #[.int .i64 x] 3 (0, 0)); rwa [show (((((w1.setCell ⟨w.heap.size, 0, none⟩ (.int .i64 k)).setCell ⟨w.heap.size, 1, none⟩ (.int .u64 st1)).setCell ⟨w.heap.size, 2, none⟩ (.int .u64 ic)).setCell ⟨w.heap.size, 3, none⟩ (.slice A l.length c)).setCell ⟨w.heap.size, 4, none⟩ (.int .i64 at1)).heap.size = w1.heap.size by simp only [size_setCell]] at h_⟩; clear n1_ n2_ n3_ n4_) | ((with_reducible refine gate_builtin (b := .append) (xs := #[.tmp 18, .tmp 20]) rfl ?_); at_builtin; refine Kd.R_append_rows (Kd.int .i64) (w0 := w) w.heap.size (by rfl) (.tmp 18) (.tmp 20) 34 3 (.int .i64 0) 8 rfl Try.underlying34 info3 rfl (by decide) (by omega) u6 (outI k ic st l at_ i) [x] _ _ _ (fun k_ => k_ ≠ w.heap.size ∧ k_ ≠ w.heap.size + 1) (fun _ => False) rfl rfl HO.out (reads_blk1 BN.out) (fun _ _ h => h) (fun _ h => h.elim) (fun k_ hk => by have h1 := blk_lt B2.out; have h2 := blk_lt B5.out; exact ⟨by omega, by omega⟩) HB.out (below_size HB.out) (by have := LEN.out; simp; omega) ?_; intro v1 w3 ho hb hgr hat; have ngr : some w.heap.size ≠ u6.ownBlock := fun e => (HO.out.1 _ e.symm).1 rfl; have n2_ := Aside0.mk (blk_grown B2.out hgr ngr); have n3_ := Aside0.mk (blk_grown B5.out hgr (fun e => (HO.out.1 _ e.symm).2 rfl)); clear HO HB B2 B5 BN hgr hat ngr; have HO := Aside0.mk ho; have HB := Aside0.mk hb; have B2 := n2_; have B5 := n3_; clear ho hb n2_ n3_))
      go_roundw
      case rel => exact ⟨i + 1, by omega, by go_num, by rw [HST1.out, HAT1.out]; exact B2, B5, ⟨by rw [HU.out]; exact HO.out⟩, HB⟩
      case measure => simp [intOf]; omega
    · have hq : ¬ (i : Int) < (m : Int) := by omega
      obtain rfl : i = m := by omega
      generalize hst0 : stI k ic st i = st0 at *
      generalize hat0 : atI k l at_ i = at0 at *
      have HST := Aside0.mk hst0
      have HAT := Aside0.mk hat0
      clear hst0 hat0
      have B3 := B5
      clear B5
      have GE3 := GE5
      clear f1 f2
      go_wp2_with fail
      refine start_ (n := 4) (S := fun w' => w'.cell? ⟨w.heap.size, 0, none⟩ = some (.int .i64 k) ∧ w'.cell? ⟨w.heap.size, 1, none⟩ = some (.int .u64 st0) ∧ w'.cell? ⟨w.heap.size, 2, none⟩ = some (.int .u64 ic) ∧ w'.cell? ⟨w.heap.size, 3, none⟩ = some (.slice A l.length c) ∧ w'.cell? ⟨w.heap.size, 4, none⟩ = some (.int .i64 at0)) (ds := [3]) #[false, false, false, false] (by kernel_rfl) rfl rfl ⟨(blk_cell B2.out 0).trans rfl, (blk_cell B2.out 1).trans rfl, (blk_cell B2.out 2).trans rfl, (blk_cell B2.out 3).trans rfl, (blk_cell B2.out 4).trans rfl⟩ (fun hHeld => ?_)
      replace B2 := Aside0.mk (blk_drew B2.out)
      replace B3 := Aside0.mk (blk_drew B3.out)
      replace HB := Aside0.mk (below_drew1 HB.out)
      replace HO := Aside0.mk (Kd.R_drew HO.out)
      generalize wr.drew = W6 at B2 B3 HB HO hHeld ⊢
      refine pure_ (i := 0) (N := (some 23)) (v := ?_) (a' := ?_) #[true, false, false, false] rfl rfl (by kernel_rfl) (fun _ _ _ h => h) (Or.inl ⟨by rfl, ?_⟩) ?_ ?_
      rotate_left
      · intro w'
        go_simp
        with_reducible rfl
      rotate_left
      · simp only [Act.put, List.setIfInBounds_toArray, List.set_cons_zero, List.set_cons_succ, i64_w, i32_w]
        rfl
      refine take_ (i := 1) (N := (some 24)) (v := ?_) (a' := ?_) #[true, true, false, false] rfl rfl (by kernel_rfl) (fun _ _ _ h => h) (Or.inl ⟨by rfl, ?_⟩) hHeld ?_ ?_
      rotate_left
      · rintro w' ⟨s0, s1, s2, s3, s4⟩
        go_simp
        with_reducible rfl
      rotate_left
      · simp only [Act.put, List.setIfInBounds_toArray, List.set_cons_zero, List.set_cons_succ, i64_w, i32_w]
        rfl
      refine pure_ (i := 2) (N := (some 4)) (v := ?_) (a' := ?_) #[true, true, true, false] rfl rfl (by kernel_rfl) (fun _ _ _ h => h) (Or.inl ⟨by rfl, ?_⟩) ?_ ?_
      rotate_left
      · intro w'
        go_simp
        with_reducible rfl
      rotate_left
      · simp only [Act.put, List.setIfInBounds_toArray, List.set_cons_zero, List.set_cons_succ, i64_w, i32_w]
        rfl
      refine last_ (i := 3) (N := none) #[true, true, true, true] rfl rfl (by kernel_rfl) (by decide) (fun K hK => ?_)
      have hs0 : W6.cell? ⟨w.heap.size + 1, 0, none⟩ = some (.int .i64 0) := (blk_cell B3.out 0).trans rfl
      have hf0 := blk_frozen B3.out 0
      have hs1 : W6.cell? ⟨w.heap.size + 1, 1, none⟩ = some (.int .u64 0) := (blk_cell B3.out 1).trans rfl
      have hf1 := blk_frozen B3.out 1
      have hs2 : W6.cell? ⟨w.heap.size + 1, 2, none⟩ = some (.int .u64 0) := (blk_cell B3.out 2).trans rfl
      have hf2 := blk_frozen B3.out 2
      have hs3 : W6.cell? ⟨w.heap.size + 1, 3, none⟩ = some (.slice none 0 0) := (blk_cell B3.out 3).trans rfl
      have hf3 := blk_frozen B3.out 3
      have hs4 : W6.cell? ⟨w.heap.size + 1, 4, none⟩ = some (.int .i64 0) := (blk_cell B3.out 4).trans rfl
      have hf4 := blk_frozen B3.out 4
      refine skip_ (w1 := ?_) (by rfl) rfl ?_ ?_
      rotate_left
      · go_simp
        rfl
      refine hK.out _ _ ?_
      clear hK K
      refine done_ (by kernel_rfl) ?_
      try go_wp2
      have q0 := blk_set B3.out 0 (.int .i64 k)
      have q1 := blk_set q0 1 (.int .u64 st0)
      have q2 := blk_set q1 2 (.int .u64 ic)
      have q3 := blk_set q2 3 (.slice A l.length c)
      have q4 := blk_set q3 4 (.int .i64 at0)
      (try simp only [Exit.inBlock, Exit.then])
      refine bodyPost_ret (results_list (rs := [.tmp 4, .cell 5 25]) rfl (by simp) (.tmp (.cell (w.heap.size + 1) 25 #[.int .i64 k, .int .u64 st0, .int .u64 ic, .slice A l.length c, .int .i64 at0] (0, 0) _ rfl (q4.trans (by rfl)) Try.underlying25 rfl (by kernel_rfl) .nil))) rfl ⟨_, (by rw [HST.out, HAT.out]), ?_, ?_⟩
      · exact Kd.R_mono (Kd.R_set (Kd.R_set (Kd.R_set (Kd.R_set (Kd.R_set HO.out (g := (w.heap.size + 1)) B3.out hE 0 (.int .i64 k)) (g := (w.heap.size + 1)) (blk_set B3.out 0 (.int .i64 k)) hE 1 (.int .u64 st0)) (g := (w.heap.size + 1)) (blk_set (blk_set B3.out 0 (.int .i64 k)) 1 (.int .u64 st0)) hE 2 (.int .u64 ic)) (g := (w.heap.size + 1)) (blk_set (blk_set (blk_set B3.out 0 (.int .i64 k)) 1 (.int .u64 st0)) 2 (.int .u64 ic)) hE 3 (.slice A l.length c)) (g := (w.heap.size + 1)) (blk_set (blk_set (blk_set (blk_set B3.out 0 (.int .i64 k)) 1 (.int .u64 st0)) 2 (.int .u64 ic)) 3 (.slice A l.length c)) hE 4 (.int .i64 at0)) (fun _ _ => trivial)
      · exact (below_set (j := 4) (v := (.int .i64 at0)) (below_set (j := 3) (v := (.slice A l.length c)) (below_set (j := 2) (v := (.int .u64 ic)) (below_set (j := 1) (v := (.int .u64 st0)) (below_set (j := 0) (v := (.int .i64 k)) HB.out GE3.out) GE3.out) GE3.out) GE3.out) GE3.out)
end
section
open Go.RowKit Go.Proofs.YtjiogchafnpkhaaW.PrintWords Go.Proofs.YtjiogchafnpkhaaW.PrintLast Go.Proofs.YtjiogchafnpkhaaW.PrintMore
attribute [local go_sem] max2_int min2_int max_two min_two max_three min_three max_four min_four
attribute [local go_sem] Go.Proofs.YtjiogchafnpkhaaS.cell_set_map Go.Proofs.YtjiogchafnpkhaaS.setCell_drewN
set_option linter.unusedVariables false
set_option linter.unusedSimpArgs false
set_option maxHeartbeats 2000000 in
theorem draw_Tape_calls (A : Option Addr) (c : Nat) (l : List Int) (w : World) (hc : l.length ≤ c) (hmx : l.length ≤ 9223372036854775807) (hA : A = none → l.length = 0) : Calls Try.prog 19 #[.slice A l.length c] w fun e w' => e = .returned (.agg #[.int .i64 2, .int .u64 0, .int .u64 0, .slice A l.length l.length, .int .i64 0]) ∧ Below w.heap.size w w' := by
  have hu25 := Try.underlying25
  have hu23 := Try.underlying23
  have B1 := Aside0.mk (blk_new w (.cells #[.int .i64 2, .int .u64 0, .int .u64 0, .slice A l.length l.length, .int .i64 0] 25 (0, 0)))
  have HB := Aside0.mk (below_alloc (Below.refl w.heap.size w) (.cells #[.int .i64 2, .int .u64 0, .int .u64 0, .slice A l.length l.length, .int .i64 0] 25 (0, 0)))
  have h0 : (0 : Int) ≤ (l.length : Int) := by omega
  have h1 : (l.length : Int) ≤ (c : Int) := by omega
  cases A with
  | none =>
    have e1 := hA rfl
    go_enter Try.func19, Try.ntmps19
    go_wp2
    (try simp only [Exit.inBlock, Exit.then])
    refine bodyPost_ret (results_cell_row rfl _ _ w.heap.size 25 _ (0, 0) _ rfl (blk_new w _) Try.underlying25 rfl (by kernel_rfl)) rfl ⟨rfl, below_alloc (Below.refl _ _) _⟩
  | some ad =>
    clear hA
    go_enter Try.func19, Try.ntmps19
    go_wp2
    (try simp only [Exit.inBlock, Exit.then])
    refine bodyPost_ret (results_cell_row rfl _ _ w.heap.size 25 _ (0, 0) _ rfl (blk_new w _) Try.underlying25 rfl (by kernel_rfl)) rfl ⟨rfl, below_alloc (Below.refl _ _) _⟩
end
section
open Go.RowKit Go.Proofs.YtjiogchafnpkhaaW.PrintWords Go.Proofs.YtjiogchafnpkhaaW.PrintLast Go.Proofs.YtjiogchafnpkhaaW.PrintMore
attribute [local go_sem] max2_int min2_int max_two min_two max_three min_three max_four min_four
attribute [local go_sem] Go.Proofs.YtjiogchafnpkhaaS.cell_set_map Go.Proofs.YtjiogchafnpkhaaS.setCell_drewN
set_option linter.unusedVariables false
set_option linter.unusedSimpArgs false
theorem doc6 : outI 1 (pcgInc 54) (pcgNew 42 (pcgInc 54)) [] 0 6 = [2707161783, 2068313097, 3122475824, 2211639955, 3215226955, 3421331566] := by kernel_rfl
theorem doc3 : outI 2 0 0 [7, 4294967297] 0 3 = [7, 1, 0] := by kernel_rfl
theorem ints6 : pacemakerref06_Ints.f 9 [2707161783, 2068313097, 3122475824, 2211639955, 3215226955, 3421331566] [2707161783, 2068313097, 3122475824, 2211639955, 3215226955, 3421331566] = some true := by kernel_rfl
theorem ints3 : pacemakerref06_Ints.f 9 [7, 1, 0] [7, 1, 0] = some true := by kernel_rfl
theorem C_ints {w : World} {g t : Nat} (k : IntKind) (xs : List Int) (hl : xs.length ≤ 9223372036854775807) (h : w.heap[g]? = some (.cells (xs.map fun x => Value.int k x).toArray t (0, 0))) : Kd.C (Kd.int k) w (some ⟨g, 0, none⟩) xs.length xs := by
  refine ⟨rfl, hl, fun _ => ⟨_, rfl, fun j p hp => ⟨[.int k p], rfl, rfl, fun i u hu => ?_⟩⟩⟩
  match i, hu with
  | 0, hu =>
    simp at hu
    subst hu
    have := blk_cell h j
    simp only [List.getElem?_toArray, List.getElem?_map, hp, Option.map_some] at this
    show w.cell? (Addr.add ⟨g, 0, none⟩ (j * 1 + 0)) = _
    cases j with
    | zero => simpa [Addr.add] using this
    | succ j => simpa [Addr.add] using this
set_option maxHeartbeats 4000000 in
set_option maxRecDepth 100000 in
theorem drawn_calls (w : World) : Calls Try.prog 15 #[] w fun e w' => e = .returned (.bool true) ∧ Below w.heap.size w w' := by
  have hu25 := Try.underlying25
  have hu23 := Try.underlying23
  have hu34 := Try.underlying34
  have HB := Aside0.mk (Below.refl w.heap.size w)
  go_enter Try.func15, Try.ntmps15
  go_wp2_with (first | ((with_reducible refine gate_callee (f := 17) rfl ?_); refine goesL_ (some 6) rfl rfl Try.func17 (by kernel_rfl) rfl #[.int .u64 42, .int .u64 54] rfl (by (try simp only [List.map_toArray, List.map_cons, List.map_nil]); first | done | rfl) ?_; (refine (draw_Pcg_calls 42 54 _).mono ?_); rintro e w1 ⟨rfl, hb⟩; refine ⟨_, rfl, ?_⟩; have mH_ := Aside0.mk (below_step HB.out hb); clear HB hb; have HB := mH_; clear mH_; ) | ((with_reducible refine gate_callee (f := 21) rfl ?_); refine goesL_ (some 7) rfl rfl Try.func21 (by kernel_rfl) rfl #[.agg #[.int .i64 1, .int .u64 (pcgNew 42 (pcgInc 54)), .int .u64 (pcgInc 54), .slice none 0 0, .int .i64 0], .int .i64 6] rfl (by (try simp only [List.map_toArray, List.map_cons, List.map_nil]); first | done | rfl) ?_; (refine (draw_Many_calls 1 (pcgNew 42 (pcgInc 54)) (pcgInc 54) 0 none 0 [] 6 _ (Kd.C_nil _ _) 6 rfl).mono ?_); rintro e w2 ⟨v2, rfl, hR, hb⟩; rw [doc6] at hR; obtain ⟨A1, c1, rfl, hl1, hr1⟩ := Kd.R_reads hR; clear hR; refine ⟨_, rfl, ?_⟩; have mH_ := Aside0.mk (below_alloc (below_step HB.out hb) (.cells #[.int .i64 1, .int .u64 (stI 1 (pcgInc 54) (pcgNew 42 (pcgInc 54)) 6), .int .u64 (pcgInc 54), .slice none 0 0, .int .i64 (atI 1 [] 0 6)] 25 (0, 0))); clear HB hb; have HB := mH_; clear mH_; have HB2 := Aside0.mk (below_alloc HB.out (.cells #[.int .u64 7, .int .u64 4294967297] 22 (0, 0))); clear HB; have HB := HB2; clear HB2; have R1 := Aside0.mk (Kd.C_alloc (Kd.C_alloc hr1 (.cells #[.int .i64 1, .int .u64 (stI 1 (pcgInc 54) (pcgNew 42 (pcgInc 54)) 6), .int .u64 (pcgInc 54), .slice none 0 0, .int .i64 (atI 1 [] 0 6)] 25 (0, 0))) (.cells #[.int .u64 7, .int .u64 4294967297] 22 (0, 0))); have L1 := Aside0.mk hl1; have BT : Aside0 (((w2.alloc (.cells #[.int .i64 1, .int .u64 (stI 1 (pcgInc 54) (pcgNew 42 (pcgInc 54)) 6), .int .u64 (pcgInc 54), .slice none 0 0, .int .i64 (atI 1 [] 0 6)] 25 (0, 0))).alloc (.cells #[.int .u64 7, .int .u64 4294967297] 22 (0, 0))).heap[w2.heap.size + 1]? = some (.cells #[.int .u64 7, .int .u64 4294967297] 22 (0, 0))) := ⟨by have h_ := blk_new (w2.alloc (.cells #[.int .i64 1, .int .u64 (stI 1 (pcgInc 54) (pcgNew 42 (pcgInc 54)) 6), .int .u64 (pcgInc 54), .slice none 0 0, .int .i64 (atI 1 [] 0 6)] 25 (0, 0))) (.cells #[.int .u64 7, .int .u64 4294967297] 22 (0, 0)); rwa [Go.Proofs.YtjiogchafnpkhaaS.size_alloc] at h_⟩; clear hr1 hl1) | ((with_reducible refine gate_callee (f := 19) rfl ?_); refine goesL_ (some 12) rfl rfl Try.func19 (by kernel_rfl) rfl #[.slice (some ⟨w2.heap.size + 1, 0, none⟩) 2 2] rfl (by (try simp only [List.map_toArray, List.map_cons, List.map_nil]); first | done | rfl) ?_; (refine (draw_Tape_calls (some ⟨w2.heap.size + 1, 0, none⟩) 2 [7, 4294967297] _ (by decide) (by decide) (by simp)).mono ?_); rintro e w3 ⟨rfl, hb⟩; refine ⟨_, rfl, ?_⟩; have mR1_ := Aside0.mk (Kd.C_below R1.out hb); clear R1; have R1 := mR1_; clear mR1_; have mBT_ := Aside0.mk (blk_below BT.out hb); clear BT; have BT := mBT_; clear mBT_; have mH_ := Aside0.mk (below_step HB.out hb); clear HB hb; have HB := mH_; clear mH_; ) | ((with_reducible refine gate_callee (f := 21) rfl ?_); refine goesL_ (some 13) rfl rfl Try.func21 (by kernel_rfl) rfl #[.agg #[.int .i64 2, .int .u64 0, .int .u64 0, .slice (some ⟨w2.heap.size + 1, 0, none⟩) 2 2, .int .i64 0], .int .i64 3] rfl (by (try simp only [List.map_toArray, List.map_cons, List.map_nil]); first | done | rfl) ?_; (refine (draw_Many_calls 2 0 0 0 (some ⟨w2.heap.size + 1, 0, none⟩) 2 [7, 4294967297] 3 _ (C_ints .u64 [7, 4294967297] (by decide) BT.out) 3 rfl).mono ?_); rintro e w4 ⟨v4, rfl, hR, hb⟩; rw [doc3] at hR; obtain ⟨A2, c2, rfl, hl2, hr2⟩ := Kd.R_reads hR; clear hR BT; refine ⟨_, rfl, ?_⟩; have mR1_ := Aside0.mk (Kd.C_alloc (Kd.C_alloc (Kd.C_below R1.out hb) (.cells #[.int .i64 2, .int .u64 (stI 2 0 0 3), .int .u64 0, .slice (some ⟨w2.heap.size + 1, 0, none⟩) 2 2, .int .i64 (atI 2 [7, 4294967297] 0 3)] 25 (0, 0))) (.cells #[.int .i64 2707161783, .int .i64 2068313097, .int .i64 3122475824, .int .i64 2211639955, .int .i64 3215226955, .int .i64 3421331566] 3 (0, 0))); clear R1; have R1 := mR1_; clear mR1_; have mH_ := Aside0.mk (below_alloc (below_step HB.out hb) (.cells #[.int .i64 2, .int .u64 (stI 2 0 0 3), .int .u64 0, .slice (some ⟨w2.heap.size + 1, 0, none⟩) 2 2, .int .i64 (atI 2 [7, 4294967297] 0 3)] 25 (0, 0))); clear HB hb; have HB := mH_; clear mH_; have HB2 := Aside0.mk (below_alloc HB.out (.cells #[.int .i64 2707161783, .int .i64 2068313097, .int .i64 3122475824, .int .i64 2211639955, .int .i64 3215226955, .int .i64 3421331566] 3 (0, 0))); clear HB; have HB := HB2; clear HB2; have R2 := Aside0.mk (Kd.C_alloc (Kd.C_alloc hr2 (.cells #[.int .i64 2, .int .u64 (stI 2 0 0 3), .int .u64 0, .slice (some ⟨w2.heap.size + 1, 0, none⟩) 2 2, .int .i64 (atI 2 [7, 4294967297] 0 3)] 25 (0, 0))) (.cells #[.int .i64 2707161783, .int .i64 2068313097, .int .i64 3122475824, .int .i64 2211639955, .int .i64 3215226955, .int .i64 3421331566] 3 (0, 0))); have L2 := Aside0.mk hl2; have B6 : Aside0 (((w4.alloc (.cells #[.int .i64 2, .int .u64 (stI 2 0 0 3), .int .u64 0, .slice (some ⟨w2.heap.size + 1, 0, none⟩) 2 2, .int .i64 (atI 2 [7, 4294967297] 0 3)] 25 (0, 0))).alloc (.cells #[.int .i64 2707161783, .int .i64 2068313097, .int .i64 3122475824, .int .i64 2211639955, .int .i64 3215226955, .int .i64 3421331566] 3 (0, 0))).heap[w4.heap.size + 1]? = some (.cells #[.int .i64 2707161783, .int .i64 2068313097, .int .i64 3122475824, .int .i64 2211639955, .int .i64 3215226955, .int .i64 3421331566] 3 (0, 0))) := ⟨by have h_ := blk_new (w4.alloc (.cells #[.int .i64 2, .int .u64 (stI 2 0 0 3), .int .u64 0, .slice (some ⟨w2.heap.size + 1, 0, none⟩) 2 2, .int .i64 (atI 2 [7, 4294967297] 0 3)] 25 (0, 0))) (.cells #[.int .i64 2707161783, .int .i64 2068313097, .int .i64 3122475824, .int .i64 2211639955, .int .i64 3215226955, .int .i64 3421331566] 3 (0, 0)); rwa [Go.Proofs.YtjiogchafnpkhaaS.size_alloc] at h_⟩; clear hr2 hl2) | ((with_reducible refine gate_callee (f := 22) rfl ?_); refine goesL_ (some 18) rfl rfl Try.func22 (by kernel_rfl) rfl #[.slice A1 6 c1, .slice (some ⟨w4.heap.size + 1, 0, none⟩) 6 6] rfl (by (try simp only [List.map_toArray, List.map_cons, List.map_nil]); first | done | rfl) ?_; (refine (pacemakerref06_Ints.calls 9 A1 c1 [2707161783, 2068313097, 3122475824, 2211639955, 3215226955, 3421331566] (some ⟨w4.heap.size + 1, 0, none⟩) 6 [2707161783, 2068313097, 3122475824, 2211639955, 3215226955, 3421331566] true _ R1.out L1.out (C_ints .i64 [2707161783, 2068313097, 3122475824, 2211639955, 3215226955, 3421331566] (by decide) B6.out) (by decide) ints6).mono ?_); rintro e w5 ⟨rfl, hb9⟩; have hb := hb9.below; clear hb9 R1 B6; refine ⟨_, rfl, ?_⟩; have mR2_ := Aside0.mk (Kd.C_alloc (Kd.C_below R2.out hb) (.cells #[.int .i64 7, .int .i64 1, .int .i64 0] 3 (0, 0))); clear R2; have R2 := mR2_; clear mR2_; have B3 := Aside0.mk (blk_new w5 (.cells #[.int .i64 7, .int .i64 1, .int .i64 0] 3 (0, 0))); have mH_ := Aside0.mk (below_alloc (below_step HB.out hb) (.cells #[.int .i64 7, .int .i64 1, .int .i64 0] 3 (0, 0))); clear HB hb; have HB := mH_; clear mH_; ) | ((with_reducible refine gate_callee (f := 22) rfl ?_); refine gate_guard (by rfl) ?_; refine goesL_ (some 22) rfl rfl Try.func22 (by kernel_rfl) rfl #[.slice A2 3 c2, .slice (some ⟨w5.heap.size, 0, none⟩) 3 3] rfl (by (try simp only [List.map_toArray, List.map_cons, List.map_nil]); first | done | rfl) ?_; (refine (pacemakerref06_Ints.calls 9 A2 c2 [7, 1, 0] (some ⟨w5.heap.size, 0, none⟩) 3 [7, 1, 0] true _ R2.out L2.out (C_ints .i64 [7, 1, 0] (by decide) B3.out) (by decide) ints3).mono ?_); rintro e w6 ⟨rfl, hb9⟩; have hb := hb9.below; clear hb9 R2 B3; refine ⟨_, rfl, ?_⟩; have mH_ := Aside0.mk (below_step HB.out hb); clear HB hb; have HB := mH_; clear mH_; ))
  go_ret
  exact ⟨rfl, HB.out⟩
end
end Go.Proofs.Ytjiogchafnpkhaa.D
