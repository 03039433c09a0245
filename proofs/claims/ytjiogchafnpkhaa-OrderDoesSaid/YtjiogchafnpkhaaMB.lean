/- Walks of this seat's functions, laid together: each says what a function computes. -/
import Derived.Test.YtjiogchafnpkhaaMA
import Derived.Laws.BitsAllLaws
import Derived.Test.YtjiogchafnpkhaaProg
import Derived.Test.YtjiogchafnpkhaaS0
import Derived.Below
import Derived.Deep.Draws
import Derived.Deep.AppendLies
import Derived.Maps.AppendAt
import Derived.OwnWalk
import Derived.Laws.BytesArg
import Derived.Laws.MakeOwn
import Derived.Laws.OwnMore
import Derived.Deep.OwnRows
import Derived.Tactics
import Derived.Lib.ConvBytes
import Derived.Laws.Slices
import Derived.WalkKit
import Derived.KernelRfl
import Derived.RowKit3
import Derived.Deep.LoopGhost
import Derived.Deep.QuietTactic
import Derived.BigQuiet
import Derived.WideLaws
import Derived.Deep.DeepCutAuto
import Derived.Deep.CutBlock
import Derived.Deep.RegionHeld3
import Derived.Laws.Rows
import Derived.Lib.AppendStr
import Derived.ArgAppend
import Derived.Laws.IdiomCopy
import Derived.OrdersHeld
import Derived.Laws.BitsLemmas
import Derived.RowKit
import Derived.Outline
import Derived.Laws.CopyRow
import Derived.Laws.CopyOwn
import Derived.ChangeKeysEq
import Derived.Test.YtjiogchafnpkhaaWWords
import Derived.Test.YtjiogchafnpkhaaWLast
import Derived.Test.YtjiogchafnpkhaaWTab
import Derived.Test.YtjiogchafnpkhaaWFour
import Derived.Test.YtjiogchafnpkhaaWQPut
import Derived.Test.YtjiogchafnpkhaaWApart
import Derived.Test.YtjiogchafnpkhaaWArr
import Derived.Test.YtjiogchafnpkhaaWZeros
import Derived.Test.YtjiogchafnpkhaaWFoot
import Derived.Test.YtjiogchafnpkhaaWKept
import Derived.Test.YtjiogchafnpkhaaWShare
import Derived.Test.YtjiogchafnpkhaaWN
import Derived.Test.YtjiogchafnpkhaaWFootNe
import Derived.Test.YtjiogchafnpkhaaWAt
import Derived.Test.YtjiogchafnpkhaaWEqStruct
import Derived.Test.YtjiogchafnpkhaaWRepsOne
import Derived.Test.YtjiogchafnpkhaaWInv
import Derived.Test.YtjiogchafnpkhaaWInvWords
import Derived.Test.YtjiogchafnpkhaaWGuard
import Derived.Test.YtjiogchafnpkhaaWNEv
import Derived.Test.YtjiogchafnpkhaaWMore
import Derived.Test.YtjiogchafnpkhaaDx1
import Derived.Test.YtjiogchafnpkhaaDx3
import Derived.Test.YtjiogchafnpkhaaDx4
namespace Go.Proofs.Ytjiogchafnpkhaa.D
section
open Go.RowKit Go.Proofs.YtjiogchafnpkhaaW.PrintWords Go.Proofs.YtjiogchafnpkhaaW.PrintLast Go.Proofs.YtjiogchafnpkhaaW.PrintMore
theorem u64_w (n : Int) : IntKind.u64.wrap n = n % 18446744073709551616 := by simp [IntKind.wrap, IntKind.bits, IntKind.signed]
/-- x turned by i places to the right. -/
def rotI (x : Int) (i : Nat) : Int := x / 2 ^ i + x % 2 ^ i * 2 ^ (32 - i)
theorem below32 {i : Nat} (h : i < 32) : i = 0 ∨ i = 1 ∨ i = 2 ∨ i = 3 ∨ i = 4 ∨ i = 5 ∨ i = 6 ∨ i = 7 ∨ i = 8 ∨ i = 9 ∨ i = 10 ∨ i = 11 ∨ i = 12 ∨ i = 13 ∨ i = 14 ∨ i = 15 ∨ i = 16 ∨ i = 17 ∨ i = 18 ∨ i = 19 ∨ i = 20 ∨ i = 21 ∨ i = 22 ∨ i = 23 ∨ i = 24 ∨ i = 25 ∨ i = 26 ∨ i = 27 ∨ i = 28 ∨ i = 29 ∨ i = 30 ∨ i = 31 := by omega
theorem rotI_range (x : Int) (h0 : 0 ≤ x) (h1 : x < 4294967296) (i : Nat) (hi : i < 32) : 0 ≤ rotI x i ∧ rotI x i < 4294967296 := by
  unfold rotI
  rcases below32 hi with rfl | rfl | rfl | rfl | rfl | rfl | rfl | rfl | rfl | rfl | rfl | rfl | rfl | rfl | rfl | rfl | rfl | rfl | rfl | rfl | rfl | rfl | rfl | rfl | rfl | rfl | rfl | rfl | rfl | rfl | rfl | rfl <;> simp only [Nat.reduceSub, Int.reducePow, Nat.sub_zero] <;> omega
theorem rotI_step (x : Int) (h0 : 0 ≤ x) (h1 : x < 4294967296) (i : Nat) (hi : i < 31) : rotI x i / 2 + rotI x i % 2 * 2147483648 = rotI x (i + 1) := by
  unfold rotI
  rcases below32 (show i < 32 by omega) with rfl | rfl | rfl | rfl | rfl | rfl | rfl | rfl | rfl | rfl | rfl | rfl | rfl | rfl | rfl | rfl | rfl | rfl | rfl | rfl | rfl | rfl | rfl | rfl | rfl | rfl | rfl | rfl | rfl | rfl | rfl | rfl <;> simp only [Nat.reduceSub, Nat.reduceAdd, Int.reducePow, Nat.sub_zero] <;> omega
theorem rotI_zero (x : Int) : rotI x 0 = x := by unfold rotI; omega
theorem or_split (x : Int) (h0 : 0 ≤ x) (h1 : x < 4294967296) (i : Nat) (hi : i < 32) (hp : 0 < i) : bits .or .u32 (IntKind.u32.wrap (x * 2 ^ (32 - i))) (x / 2 ^ i) = rotI x i := by
  have e1 : IntKind.u32.wrap (x * 2 ^ (32 - i)) = x % 2 ^ i * 2 ^ (32 - i) := by
    rw [IntKind.wrap_u32]
    rcases below32 hi with rfl | rfl | rfl | rfl | rfl | rfl | rfl | rfl | rfl | rfl | rfl | rfl | rfl | rfl | rfl | rfl | rfl | rfl | rfl | rfl | rfl | rfl | rfl | rfl | rfl | rfl | rfl | rfl | rfl | rfl | rfl | rfl <;> simp only [Nat.reduceSub, Int.reducePow, Nat.sub_zero] <;> omega
  have r1 : 0 ≤ x % 2 ^ i * 2 ^ (32 - i) ∧ x % 2 ^ i * 2 ^ (32 - i) < 4294967296 ∧ 0 ≤ x / 2 ^ i ∧ x / 2 ^ i < 2 ^ (32 - i) := by
    rcases below32 hi with rfl | rfl | rfl | rfl | rfl | rfl | rfl | rfl | rfl | rfl | rfl | rfl | rfl | rfl | rfl | rfl | rfl | rfl | rfl | rfl | rfl | rfl | rfl | rfl | rfl | rfl | rfl | rfl | rfl | rfl | rfl | rfl <;> simp only [Nat.reduceSub, Int.reducePow, Nat.sub_zero] <;> omega
  have r2 : x / 2 ^ i < 4294967296 := Int.lt_of_le_of_lt (Int.ediv_le_self _ h0) h1
  rw [e1, u32_or _ _ r1.1 r1.2.1 r1.2.2.1 r2]
  unfold rotI
  have m0 : 0 ≤ x % 2 ^ i := Int.emod_nonneg _ (by have : (0 : Int) < 2 ^ i := Int.pow_pos (by omega); omega)
  obtain ⟨a, ha⟩ : ∃ a : Nat, x % 2 ^ i = (a : Int) := ⟨(x % 2 ^ i).toNat, by omega⟩
  obtain ⟨b, hb⟩ : ∃ b : Nat, x / 2 ^ i = (b : Int) := ⟨(x / 2 ^ i).toNat, by omega⟩
  rw [ha, hb]
  have hb2 : b < 2 ^ (32 - i) := by
    have := r1.2.2.2
    have e : ((2 ^ (32 - i) : Nat) : Int) = (2 : Int) ^ (32 - i) := by simp
    rw [← e, hb] at this
    exact Int.ofNat_lt.mp this
  have e2 : ((a : Int) * 2 ^ (32 - i)).toNat = a <<< (32 - i) := by
    rw [Nat.shiftLeft_eq]
    have e : ((a * 2 ^ (32 - i) : Nat) : Int) = (a : Int) * (2 : Int) ^ (32 - i) := by simp
    rw [← e]
    rfl
  rw [e2, Int.toNat_natCast, ← Nat.shiftLeft_add_eq_or_of_lt hb2, Nat.shiftLeft_eq]
  simp
  omega
theorem rotF_right (x : Int) (h0 : 0 ≤ x) (h1 : x < 4294967296) (st : Int) (s0 : 0 ≤ st) (s1 : st < 18446744073709551616) : rotF x (wrap64 (-wrap64 (st / 576460752303423488))) = rotI x (st / 576460752303423488).toNat := by
  obtain ⟨r, hr⟩ : ∃ r : Nat, st / 576460752303423488 = (r : Int) := ⟨(st / 576460752303423488).toNat, by omega⟩
  have hr2 : r < 32 := by omega
  rw [hr, Int.toNat_natCast]
  have e1 : wrap64 (-wrap64 (r : Int)) = -(r : Int) := by unfold wrap64; omega
  rw [e1]
  have e2 : rotC (-(r : Int)) = (32 - (r : Int)) % 32 := by
    unfold rotC
    rw [u64_w]
    omega
  unfold rotF
  rw [e2]
  rcases Nat.eq_zero_or_pos r with h | h
  · subst h
    have e3 : x / 4294967296 = 0 := by omega
    simp only [rotI_zero]
    show bits .or .u32 (IntKind.u32.wrap (x * 2 ^ (0 : Nat))) (x / 2 ^ (32 : Nat)) = x
    have e4 : x * 2 ^ (0 : Nat) = x := by omega
    have e5 : x / 2 ^ (32 : Nat) = 0 := by omega
    have e6 : IntKind.u32.wrap x = x := by rw [IntKind.wrap_u32]; omega
    rw [e4, e5, e6, u32_or x 0 h0 h1 (by omega) (by omega)]
    simp
    omega
  · rw [show (32 - (r : Int)) % 32 = 32 - (r : Int) by omega, show (32 - (r : Int)).toNat = 32 - r by omega, show (32 - (32 - (r : Int))).toNat = r by omega]
    exact or_split x h0 h1 r hr2 h
theorem pcgX_rot (st : Int) (s0 : 0 ≤ st) (s1 : st < 18446744073709551616) : pcgX st = rotI (IntKind.u32.wrap (bits .xor .u64 (st / 262144) st / 134217728)) (st / 576460752303423488).toNat := by
  unfold pcgX
  have h := show 0 ≤ IntKind.u32.wrap (bits .xor .u64 (st / 262144) st / 134217728) ∧ IntKind.u32.wrap (bits .xor .u64 (st / 262144) st / 134217728) < 4294967296 by rw [IntKind.wrap_u32]; omega
  exact rotF_right _ h.1 h.2 st s0 s1
end
section
open Go.RowKit Go.Proofs.YtjiogchafnpkhaaW.PrintWords Go.Proofs.YtjiogchafnpkhaaW.PrintLast Go.Proofs.YtjiogchafnpkhaaW.PrintMore
attribute [local go_sem] max2_int min2_int max_two min_two max_three min_three max_four min_four
attribute [local go_sem] Go.Proofs.YtjiogchafnpkhaaS.cell_set_map Go.Proofs.YtjiogchafnpkhaaS.setCell_drewN
set_option linter.unusedVariables false
set_option linter.unusedSimpArgs false
theorem w64_in {x : Int} (h0 : 0 ≤ x) (h1 : x < 9223372036854775807) : wrap64 x = x := by unfold wrap64; omega
theorem ints_from (l : List Int) (hl : l.length < 9223372036854775807) : ∀ (d i : Nat), i + d = l.length → pacemakerref06_Ints.l0 (d + 1) l l (i : Int) = some true
  | 0, i, h => by
    unfold pacemakerref06_Ints.l0
    rw [if_neg (by omega)]
  | d + 1, i, h => by
    unfold pacemakerref06_Ints.l0
    rw [if_pos (by omega), if_pos (by omega), if_pos (by omega), if_pos rfl, w64_in (by omega) (by omega)]
    exact ints_from l hl d (i + 1) (by omega)
theorem ints_self (l : List Int) (hl : l.length < 9223372036854775807) : pacemakerref06_Ints.f (l.length + 1) l l = some true := by
  unfold pacemakerref06_Ints.f
  rw [if_pos rfl]
  exact ints_from l hl l.length 0 (by omega)
theorem same_from (a b c e : Int) (l : List Int) (hl : l.length < 9223372036854775807) : ∀ (d i : Nat), i + d = l.length → pacemakerref06_Same.l0 (d + 1) (i : Int) a b c l e a b c l e = some true
  | 0, i, h => by
    unfold pacemakerref06_Same.l0
    rw [if_neg (by omega)]
  | d + 1, i, h => by
    unfold pacemakerref06_Same.l0
    rw [if_pos (by omega), if_pos (by omega), if_pos (by omega), if_pos rfl, w64_in (by omega) (by omega)]
    exact same_from a b c e l hl d (i + 1) (by omega)
theorem same_self (a b c e : Int) (l : List Int) (hl : l.length < 9223372036854775807) : pacemakerref06_Same.f (l.length + 2) a b c l e a b c l e = some true := by
  unfold pacemakerref06_Same.f
  rw [if_pos rfl, if_pos rfl, if_pos rfl, if_pos rfl]
  rw [pacemakerref06_Same.j0, if_neg (by simp)]
  exact same_from a b c e l hl l.length 0 (by omega)
/-- Two sources of the same fields, wherever their tapes lie, are the same. -/
theorem same_calls (a b c e : Int) (l : List Int) (A B : Option Addr) (cA cB : Nat) (w : World) (ha : Kd.C (Kd.int .u64) w A l.length l) (hca : l.length ≤ cA) (hb : Kd.C (Kd.int .u64) w B l.length l) (hcb : l.length ≤ cB) (hl : l.length < 9223372036854775807) :
    Calls Try.prog 16 #[.agg #[.int .i64 a, .int .u64 b, .int .u64 c, .slice A l.length cA, .int .i64 e], .agg #[.int .i64 a, .int .u64 b, .int .u64 c, .slice B l.length cB, .int .i64 e]] w fun e w' => e = .returned (.bool true) ∧ Below w.heap.size w w' :=
  pacemakerref06_Same.calls (l.length + 2) a b c A cA l e a b c B cB l e true w ha hca hb hcb (same_self a b c e l hl)
theorem ints_calls (l : List Int) (A B : Option Addr) (n m cA cB : Nat) (w : World) (hn : l.length = n) (hm : l.length = m) (ha : Kd.C (Kd.int .i64) w A n l) (hca : n ≤ cA) (hb : Kd.C (Kd.int .i64) w B m l) (hcb : m ≤ cB) (hl : l.length < 9223372036854775807) :
    Calls Try.prog 22 #[.slice A n cA, .slice B m cB] w fun e w' => e = .returned (.bool true) ∧ Below w.heap.size w w' := by
  subst hn
  subst hm
  exact (pacemakerref06_Ints.calls (l.length + 1) A cA l B cB l true w ha hca hb hcb (ints_self l hl)).mono fun e w' h => ⟨h.1, h.2.below⟩
theorem big_calls (a b c e : Int) (l : List Int) (A : Option Addr) (cA : Nat) (w : World) (ha : Kd.C (Kd.int .u64) w A l.length l) (hca : l.length ≤ cA) (t : Bool) (ht : decide ((l.length : Int) > 2000) = t) :
    Calls Try.prog 12 #[.agg #[.int .i64 a, .int .u64 b, .int .u64 c, .slice A l.length cA, .int .i64 e]] w fun e w' => e = .returned (.bool t) ∧ Below w.heap.size w w' :=
  pacemakerref06_Big.calls a b c A cA l e t w ha hca (by unfold pacemakerref06_Big.f; rw [ht])
end
section
open Go.RowKit Go.Proofs.YtjiogchafnpkhaaW.PrintWords Go.Proofs.YtjiogchafnpkhaaW.PrintLast Go.Proofs.YtjiogchafnpkhaaW.PrintMore
attribute [local go_sem] max2_int min2_int max_two min_two max_three min_three max_four min_four
attribute [local go_sem] Go.Proofs.YtjiogchafnpkhaaS.cell_set_map Go.Proofs.YtjiogchafnpkhaaS.setCell_drewN
set_option linter.unusedVariables false
set_option linter.unusedSimpArgs false
set_option maxHeartbeats 4000000 in
set_option maxRecDepth 100000 in
theorem ref_step_calls (k st ic at_ : Int) (A : Option Addr) (c : Nat) (l : List Int) (w : World) : Calls Try.prog 42 #[.agg #[.int .i64 k, .int .u64 st, .int .u64 ic, .slice A l.length c, .int .i64 at_]] w fun e w' => e = .returned (.agg #[.int .i64 k, .int .u64 (pcgSt st ic), .int .u64 ic, .slice A l.length c, .int .i64 at_]) ∧ Below w.heap.size w w' := by
  have hu25 := Try.underlying25
  have hst : IntKind.u64.wrap (IntKind.u64.wrap (6364136223846793005 * st) + ic) = pcgSt st ic := by unfold pcgSt; rw [Int.mul_comm]
  obtain ⟨s1, hs1⟩ : ∃ s1, pcgSt st ic = s1 := ⟨_, rfl⟩
  rw [hs1] at hst ⊢
  clear hs1
  go_enter Try.func42, Try.ntmps42
  go_wp2
  (try simp only [Exit.inBlock, Exit.then])
  refine bodyPost_ret (results_cell_row rfl _ _ (w.heap.size + 1) 25 #[.int .i64 k, .int .u64 s1, .int .u64 ic, .slice A l.length c, .int .i64 at_] (0, 0) _ rfl (by have h_ := blk_new (w.alloc (.cells #[.int .i64 k, .int .u64 s1, .int .u64 ic, .slice A l.length c, .int .i64 at_] 25 (0, 0))) (.cells #[.int .i64 k, .int .u64 s1, .int .u64 ic, .slice A l.length c, .int .i64 at_] 25 (0, 0)); rwa [Go.Proofs.YtjiogchafnpkhaaS.size_alloc] at h_) Try.underlying25 rfl (by kernel_rfl)) rfl ⟨rfl, ?_⟩
  exact below_alloc (below_alloc (Below.refl w.heap.size w) _) _
end
section
open Go.RowKit Go.Proofs.YtjiogchafnpkhaaW.PrintWords Go.Proofs.YtjiogchafnpkhaaW.PrintLast Go.Proofs.YtjiogchafnpkhaaW.PrintMore
attribute [local go_sem] max2_int min2_int max_two min_two max_three min_three max_four min_four
attribute [local go_sem] Go.Proofs.YtjiogchafnpkhaaS.cell_set_map Go.Proofs.YtjiogchafnpkhaaS.setCell_drewN
set_option linter.unusedVariables false
set_option linter.unusedSimpArgs false
theorem rd_range {l : List Int} (hu : ∀ y ∈ l, 0 ≤ y) (j : Nat) : 0 ≤ rdOf 0 l (j : Int) := by
  unfold rdOf
  simp only [Int.toNat_natCast]
  by_cases hi : j < l.length
  · have := hu l[j] (List.getElem_mem hi)
    simpa [List.getD_eq_getElem?_getD, hi] using this
  · simp [List.getD_eq_getElem?_getD, hi]
theorem w64_0 : wrap64 0 = 0 := by unfold wrap64; omega
theorem tape_val (x : Int) (h : 0 ≤ x) : Int.tmod x 4294967296 = x % 4294967296 := Int.tmod_eq_emod_of_nonneg h
set_option maxHeartbeats 4000000 in
set_option maxRecDepth 100000 in
theorem ref_next_tape (st ic at_ : Int) (A : Option Addr) (c : Nat) (l : List Int) (w : World) (hr : Kd.C (Kd.int .u64) w A l.length l) (hu : ∀ y ∈ l, 0 ≤ y) : Calls Try.prog 14 #[.agg #[.int .i64 2, .int .u64 st, .int .u64 ic, .slice A l.length c, .int .i64 at_]] w fun e w' => e = .returned (.tuple #[.int .i64 (wrap64 (tapeX l at_)), .agg #[.int .i64 2, .int .u64 st, .int .u64 ic, .slice A l.length c, .int .i64 (tapeAt l at_)]]) ∧ Below w.heap.size w w' := by
  have hu25 := Try.underlying25
  have hu23 := Try.underlying23
  have hmx : l.length ≤ 9223372036854775807 := hr.2.1
  have HRI := Aside0.mk (Kd.reads_of_C (d := (0 : Int)) hr)
  clear hr
  by_cases h1 : at_ < 0
  · have e1 : tapeX l at_ = 0 := if_neg (by omega)
    have e2 : tapeAt l at_ = at_ := if_neg (by omega)
    rw [e1, e2, w64_0]
    clear e1 e2
    have c1 : decide (at_ < 0) = true := decide_eq_true h1
    have B1 := Aside0.mk (blk_alloc (blk_new w (.cells #[.int .i64 2, .int .u64 st, .int .u64 ic, .slice A l.length c, .int .i64 at_] 25 (0, 0))) (.cells #[.int .i64 0, .int .u64 0, .int .u64 0, .slice none 0 0, .int .i64 0] 25 (0, 0)))
    have B3 := Aside0.mk (show (((w.alloc (.cells #[.int .i64 2, .int .u64 st, .int .u64 ic, .slice A l.length c, .int .i64 at_] 25 (0, 0))).alloc (.cells #[.int .i64 0, .int .u64 0, .int .u64 0, .slice none 0 0, .int .i64 0] 25 (0, 0))).heap[w.heap.size + 1]? = some (.cells #[.int .i64 0, .int .u64 0, .int .u64 0, .slice none 0 0, .int .i64 0] 25 (0, 0))) by have := blk_new (w.alloc (.cells #[.int .i64 2, .int .u64 st, .int .u64 ic, .slice A l.length c, .int .i64 at_] 25 (0, 0))) (.cells #[.int .i64 0, .int .u64 0, .int .u64 0, .slice none 0 0, .int .i64 0] 25 (0, 0)); rwa [Go.Proofs.YtjiogchafnpkhaaS.size_alloc] at this)
    have HB := Aside0.mk (below_alloc (below_alloc (Below.refl w.heap.size w) (.cells #[.int .i64 2, .int .u64 st, .int .u64 ic, .slice A l.length c, .int .i64 at_] 25 (0, 0))) (.cells #[.int .i64 0, .int .u64 0, .int .u64 0, .slice none 0 0, .int .i64 0] 25 (0, 0)))
    have GE3 : Aside0 (w.heap.size ≤ w.heap.size + 1) := ⟨by omega⟩
    have hz0 : ((w.alloc (.cells #[.int .i64 2, .int .u64 st, .int .u64 ic, .slice A l.length c, .int .i64 at_] 25 (0, 0))).alloc (.cells #[.int .i64 0, .int .u64 0, .int .u64 0, .slice none 0 0, .int .i64 0] 25 (0, 0))).cell? ⟨w.heap.size, 0, none⟩ = some (.int .i64 2) := (blk_cell B1.out 0).trans rfl
    have hz1 : ((w.alloc (.cells #[.int .i64 2, .int .u64 st, .int .u64 ic, .slice A l.length c, .int .i64 at_] 25 (0, 0))).alloc (.cells #[.int .i64 0, .int .u64 0, .int .u64 0, .slice none 0 0, .int .i64 0] 25 (0, 0))).cell? ⟨w.heap.size, 1, none⟩ = some (.int .u64 st) := (blk_cell B1.out 1).trans rfl
    have hz2 : ((w.alloc (.cells #[.int .i64 2, .int .u64 st, .int .u64 ic, .slice A l.length c, .int .i64 at_] 25 (0, 0))).alloc (.cells #[.int .i64 0, .int .u64 0, .int .u64 0, .slice none 0 0, .int .i64 0] 25 (0, 0))).cell? ⟨w.heap.size, 2, none⟩ = some (.int .u64 ic) := (blk_cell B1.out 2).trans rfl
    have hz3 : ((w.alloc (.cells #[.int .i64 2, .int .u64 st, .int .u64 ic, .slice A l.length c, .int .i64 at_] 25 (0, 0))).alloc (.cells #[.int .i64 0, .int .u64 0, .int .u64 0, .slice none 0 0, .int .i64 0] 25 (0, 0))).cell? ⟨w.heap.size, 3, none⟩ = some (.slice A l.length c) := (blk_cell B1.out 3).trans rfl
    have hz4 : ((w.alloc (.cells #[.int .i64 2, .int .u64 st, .int .u64 ic, .slice A l.length c, .int .i64 at_] 25 (0, 0))).alloc (.cells #[.int .i64 0, .int .u64 0, .int .u64 0, .slice none 0 0, .int .i64 0] 25 (0, 0))).cell? ⟨w.heap.size, 4, none⟩ = some (.int .i64 at_) := (blk_cell B1.out 4).trans rfl
    go_enter Try.func14, Try.ntmps14
    go_wp2_with fail
    clear hz0 hz1 hz2 hz3 hz4
    generalize ((w.alloc (.cells #[.int .i64 2, .int .u64 st, .int .u64 ic, .slice A l.length c, .int .i64 at_] 25 (0, 0))).alloc (.cells #[.int .i64 0, .int .u64 0, .int .u64 0, .slice none 0 0, .int .i64 0] 25 (0, 0))) = W0 at *
    refine start_ (n := 3) (S := fun w' => w'.cell? ⟨w.heap.size, 0, none⟩ = some (.int .i64 2) ∧ w'.cell? ⟨w.heap.size, 1, none⟩ = some (.int .u64 st) ∧ w'.cell? ⟨w.heap.size, 2, none⟩ = some (.int .u64 ic) ∧ w'.cell? ⟨w.heap.size, 3, none⟩ = some (.slice A l.length c) ∧ w'.cell? ⟨w.heap.size, 4, none⟩ = some (.int .i64 at_)) (ds := [2]) #[false, false, false] (by kernel_rfl) rfl rfl ⟨(blk_cell B1.out 0).trans rfl, (blk_cell B1.out 1).trans rfl, (blk_cell B1.out 2).trans rfl, (blk_cell B1.out 3).trans rfl, (blk_cell B1.out 4).trans rfl⟩ (fun hHeld => ?_)
    replace B1 := Aside0.mk (blk_drew B1.out)
    replace B3 := Aside0.mk (blk_drew B3.out)
    replace HB := Aside0.mk (below_drew1 HB.out)
    generalize W0.drew = W6 at B1 B3 HB hHeld ⊢
    refine take_ (i := 0) (N := (some 22)) (v := ?_) (a' := ?_) #[true, false, false] rfl rfl (by kernel_rfl) (fun _ _ _ h => h) (Or.inl ⟨by rfl, ?_⟩) hHeld ?_ ?_
    rotate_left
    · rintro w' ⟨s0, s1, s2, s3, s4⟩
      go_simp
      with_reducible rfl
    rotate_left
    · simp only [Act.put, List.setIfInBounds_toArray, List.set_cons_zero, List.set_cons_succ, i64_w, i32_w]
      rfl
    refine pure_ (i := 1) (N := (some 2)) (v := ?_) (a' := ?_) #[true, true, false] rfl rfl (by kernel_rfl) (fun _ _ _ h => h) (Or.inl ⟨by rfl, ?_⟩) ?_ ?_
    rotate_left
    · intro w'
      go_simp
      with_reducible rfl
    rotate_left
    · simp only [Act.put, List.setIfInBounds_toArray, List.set_cons_zero, List.set_cons_succ, i64_w, i32_w]
      rfl
    refine last_ (i := 2) (N := none) #[true, true, true] rfl rfl (by kernel_rfl) (by decide) (fun K hK => ?_)
    have hs0 : W6.cell? ⟨w.heap.size + 1, 0, none⟩ = some (.int .i64 0) := (blk_cell B3.out 0).trans rfl
    have hf0 := blk_frozen B3.out 0
    have hs1 : W6.cell? ⟨w.heap.size + 1, 1, none⟩ = some (.int .u64 0) := (blk_cell B3.out 1).trans rfl
    have hf1 := blk_frozen B3.out 1
    have hs2 : W6.cell? ⟨w.heap.size + 1, 2, none⟩ = some (.int .u64 0) := (blk_cell B3.out 2).trans rfl
    have hf2 := blk_frozen B3.out 2
    have hs3 : W6.cell? ⟨w.heap.size + 1, 3, none⟩ = some (.slice none 0 0) := (blk_cell B3.out 3).trans rfl
    have hf3 := blk_frozen B3.out 3
    have hs4 : W6.cell? ⟨w.heap.size + 1, 4, none⟩ = some (.int .i64 0) := (blk_cell B3.out 4).trans rfl
    have hf4 := blk_frozen B3.out 4
    refine skip_ (w1 := ?_) (by rfl) rfl ?_ ?_
    rotate_left
    · go_simp
      rfl
    refine hK.out _ _ ?_
    clear hK K
    refine done_ (by kernel_rfl) ?_
    try go_wp2
    have q0 := blk_set B3.out 0 (.int .i64 2)
    have q1 := blk_set q0 1 (.int .u64 st)
    have q2 := blk_set q1 2 (.int .u64 ic)
    have q3 := blk_set q2 3 (.slice A l.length c)
    have q4 := blk_set q3 4 (.int .i64 at_)
    (try simp only [Exit.inBlock, Exit.then])
    refine bodyPost_ret (results_list (rs := [.tmp 2, .cell 3 25]) rfl (by simp) (.tmp (.cell (w.heap.size + 1) 25 #[.int .i64 2, .int .u64 st, .int .u64 ic, .slice A l.length c, .int .i64 at_] (0, 0) _ rfl (q4.trans (by rfl)) Try.underlying25 rfl (by kernel_rfl) .nil))) rfl ⟨rfl, ?_⟩
    exact below_set (j := 4) (v := (.int .i64 at_)) (below_set (j := 3) (v := (.slice A l.length c)) (below_set (j := 2) (v := (.int .u64 ic)) (below_set (j := 1) (v := (.int .u64 st)) (below_set (j := 0) (v := (.int .i64 2)) HB.out GE3.out) GE3.out) GE3.out) GE3.out) GE3.out
  · have c1 : decide (at_ < 0) = false := decide_eq_false h1
    by_cases h2 : (l.length : Int) ≤ at_
    · have e1 : tapeX l at_ = 0 := if_neg (by omega)
      have e2 : tapeAt l at_ = at_ := if_neg (by omega)
      rw [e1, e2, w64_0]
      clear e1 e2
      have c2 : decide ((l.length : Int) ≤ at_) = true := decide_eq_true h2
      have B1 := Aside0.mk (blk_alloc (blk_new w (.cells #[.int .i64 2, .int .u64 st, .int .u64 ic, .slice A l.length c, .int .i64 at_] 25 (0, 0))) (.cells #[.int .i64 0, .int .u64 0, .int .u64 0, .slice none 0 0, .int .i64 0] 25 (0, 0)))
      have B3 := Aside0.mk (show (((w.alloc (.cells #[.int .i64 2, .int .u64 st, .int .u64 ic, .slice A l.length c, .int .i64 at_] 25 (0, 0))).alloc (.cells #[.int .i64 0, .int .u64 0, .int .u64 0, .slice none 0 0, .int .i64 0] 25 (0, 0))).heap[w.heap.size + 1]? = some (.cells #[.int .i64 0, .int .u64 0, .int .u64 0, .slice none 0 0, .int .i64 0] 25 (0, 0))) by have := blk_new (w.alloc (.cells #[.int .i64 2, .int .u64 st, .int .u64 ic, .slice A l.length c, .int .i64 at_] 25 (0, 0))) (.cells #[.int .i64 0, .int .u64 0, .int .u64 0, .slice none 0 0, .int .i64 0] 25 (0, 0)); rwa [Go.Proofs.YtjiogchafnpkhaaS.size_alloc] at this)
      have HB := Aside0.mk (below_alloc (below_alloc (Below.refl w.heap.size w) (.cells #[.int .i64 2, .int .u64 st, .int .u64 ic, .slice A l.length c, .int .i64 at_] 25 (0, 0))) (.cells #[.int .i64 0, .int .u64 0, .int .u64 0, .slice none 0 0, .int .i64 0] 25 (0, 0)))
      have GE3 : Aside0 (w.heap.size ≤ w.heap.size + 1) := ⟨by omega⟩
      have hz0 : ((w.alloc (.cells #[.int .i64 2, .int .u64 st, .int .u64 ic, .slice A l.length c, .int .i64 at_] 25 (0, 0))).alloc (.cells #[.int .i64 0, .int .u64 0, .int .u64 0, .slice none 0 0, .int .i64 0] 25 (0, 0))).cell? ⟨w.heap.size, 0, none⟩ = some (.int .i64 2) := (blk_cell B1.out 0).trans rfl
      have hz1 : ((w.alloc (.cells #[.int .i64 2, .int .u64 st, .int .u64 ic, .slice A l.length c, .int .i64 at_] 25 (0, 0))).alloc (.cells #[.int .i64 0, .int .u64 0, .int .u64 0, .slice none 0 0, .int .i64 0] 25 (0, 0))).cell? ⟨w.heap.size, 1, none⟩ = some (.int .u64 st) := (blk_cell B1.out 1).trans rfl
      have hz2 : ((w.alloc (.cells #[.int .i64 2, .int .u64 st, .int .u64 ic, .slice A l.length c, .int .i64 at_] 25 (0, 0))).alloc (.cells #[.int .i64 0, .int .u64 0, .int .u64 0, .slice none 0 0, .int .i64 0] 25 (0, 0))).cell? ⟨w.heap.size, 2, none⟩ = some (.int .u64 ic) := (blk_cell B1.out 2).trans rfl
      have hz3 : ((w.alloc (.cells #[.int .i64 2, .int .u64 st, .int .u64 ic, .slice A l.length c, .int .i64 at_] 25 (0, 0))).alloc (.cells #[.int .i64 0, .int .u64 0, .int .u64 0, .slice none 0 0, .int .i64 0] 25 (0, 0))).cell? ⟨w.heap.size, 3, none⟩ = some (.slice A l.length c) := (blk_cell B1.out 3).trans rfl
      have hz4 : ((w.alloc (.cells #[.int .i64 2, .int .u64 st, .int .u64 ic, .slice A l.length c, .int .i64 at_] 25 (0, 0))).alloc (.cells #[.int .i64 0, .int .u64 0, .int .u64 0, .slice none 0 0, .int .i64 0] 25 (0, 0))).cell? ⟨w.heap.size, 4, none⟩ = some (.int .i64 at_) := (blk_cell B1.out 4).trans rfl
      go_enter Try.func14, Try.ntmps14
      go_wp2_with fail
      clear hz0 hz1 hz2 hz3 hz4
      generalize ((w.alloc (.cells #[.int .i64 2, .int .u64 st, .int .u64 ic, .slice A l.length c, .int .i64 at_] 25 (0, 0))).alloc (.cells #[.int .i64 0, .int .u64 0, .int .u64 0, .slice none 0 0, .int .i64 0] 25 (0, 0))) = W0 at *
      refine start_ (n := 3) (S := fun w' => w'.cell? ⟨w.heap.size, 0, none⟩ = some (.int .i64 2) ∧ w'.cell? ⟨w.heap.size, 1, none⟩ = some (.int .u64 st) ∧ w'.cell? ⟨w.heap.size, 2, none⟩ = some (.int .u64 ic) ∧ w'.cell? ⟨w.heap.size, 3, none⟩ = some (.slice A l.length c) ∧ w'.cell? ⟨w.heap.size, 4, none⟩ = some (.int .i64 at_)) (ds := [2]) #[false, false, false] (by kernel_rfl) rfl rfl ⟨(blk_cell B1.out 0).trans rfl, (blk_cell B1.out 1).trans rfl, (blk_cell B1.out 2).trans rfl, (blk_cell B1.out 3).trans rfl, (blk_cell B1.out 4).trans rfl⟩ (fun hHeld => ?_)
      replace B1 := Aside0.mk (blk_drew B1.out)
      replace B3 := Aside0.mk (blk_drew B3.out)
      replace HB := Aside0.mk (below_drew1 HB.out)
      generalize W0.drew = W6 at B1 B3 HB hHeld ⊢
      refine take_ (i := 0) (N := (some 22)) (v := ?_) (a' := ?_) #[true, false, false] rfl rfl (by kernel_rfl) (fun _ _ _ h => h) (Or.inl ⟨by rfl, ?_⟩) hHeld ?_ ?_
      rotate_left
      · rintro w' ⟨s0, s1, s2, s3, s4⟩
        go_simp
        with_reducible rfl
      rotate_left
      · simp only [Act.put, List.setIfInBounds_toArray, List.set_cons_zero, List.set_cons_succ, i64_w, i32_w]
        rfl
      refine pure_ (i := 1) (N := (some 2)) (v := ?_) (a' := ?_) #[true, true, false] rfl rfl (by kernel_rfl) (fun _ _ _ h => h) (Or.inl ⟨by rfl, ?_⟩) ?_ ?_
      rotate_left
      · intro w'
        go_simp
        with_reducible rfl
      rotate_left
      · simp only [Act.put, List.setIfInBounds_toArray, List.set_cons_zero, List.set_cons_succ, i64_w, i32_w]
        rfl
      refine last_ (i := 2) (N := none) #[true, true, true] rfl rfl (by kernel_rfl) (by decide) (fun K hK => ?_)
      have hs0 : W6.cell? ⟨w.heap.size + 1, 0, none⟩ = some (.int .i64 0) := (blk_cell B3.out 0).trans rfl
      have hf0 := blk_frozen B3.out 0
      have hs1 : W6.cell? ⟨w.heap.size + 1, 1, none⟩ = some (.int .u64 0) := (blk_cell B3.out 1).trans rfl
      have hf1 := blk_frozen B3.out 1
      have hs2 : W6.cell? ⟨w.heap.size + 1, 2, none⟩ = some (.int .u64 0) := (blk_cell B3.out 2).trans rfl
      have hf2 := blk_frozen B3.out 2
      have hs3 : W6.cell? ⟨w.heap.size + 1, 3, none⟩ = some (.slice none 0 0) := (blk_cell B3.out 3).trans rfl
      have hf3 := blk_frozen B3.out 3
      have hs4 : W6.cell? ⟨w.heap.size + 1, 4, none⟩ = some (.int .i64 0) := (blk_cell B3.out 4).trans rfl
      have hf4 := blk_frozen B3.out 4
      refine skip_ (w1 := ?_) (by rfl) rfl ?_ ?_
      rotate_left
      · go_simp
        rfl
      refine hK.out _ _ ?_
      clear hK K
      refine done_ (by kernel_rfl) ?_
      try go_wp2
      have q0 := blk_set B3.out 0 (.int .i64 2)
      have q1 := blk_set q0 1 (.int .u64 st)
      have q2 := blk_set q1 2 (.int .u64 ic)
      have q3 := blk_set q2 3 (.slice A l.length c)
      have q4 := blk_set q3 4 (.int .i64 at_)
      (try simp only [Exit.inBlock, Exit.then])
      refine bodyPost_ret (results_list (rs := [.tmp 2, .cell 3 25]) rfl (by simp) (.tmp (.cell (w.heap.size + 1) 25 #[.int .i64 2, .int .u64 st, .int .u64 ic, .slice A l.length c, .int .i64 at_] (0, 0) _ rfl (q4.trans (by rfl)) Try.underlying25 rfl (by kernel_rfl) .nil))) rfl ⟨rfl, ?_⟩
      exact below_set (j := 4) (v := (.int .i64 at_)) (below_set (j := 3) (v := (.slice A l.length c)) (below_set (j := 2) (v := (.int .u64 ic)) (below_set (j := 1) (v := (.int .u64 st)) (below_set (j := 0) (v := (.int .i64 2)) HB.out GE3.out) GE3.out) GE3.out) GE3.out) GE3.out
    · have c2 : decide ((l.length : Int) ≤ at_) = false := decide_eq_false h2
      obtain ⟨j, rfl⟩ : ∃ j : Nat, at_ = (j : Int) := ⟨at_.toNat, by omega⟩
      have e1 : tapeX l (j : Int) = rdOf 0 l (j : Int) % 4294967296 := if_pos (by omega)
      have e2 : tapeAt l (j : Int) = (j : Int) + 1 := if_pos (by omega)
      rw [e1, e2]
      clear e1 e2
      have hj0 : (0 : Int) ≤ (j : Int) := by omega
      have hj1 : (j : Int) < (l.length : Int) := by omega
      have hw : IntKind.i64.wrap ((j : Int) + 1) = (j : Int) + 1 := IntWalk.i64_in _ ⟨by omega, by omega⟩
      obtain ⟨ad, e, hx⟩ := HRI.out.at_ (j : Int) hj0 hj1
      rw [Int.toNat_natCast] at hx
      have hx0 := tape_val _ (rd_range hu j)
      generalize rdOf 0 l (j : Int) = x at *
      subst e
      obtain ⟨xw, hxw⟩ : ∃ xw, wrap64 (x % 4294967296) = xw := ⟨_, rfl⟩
      rw [hxw]
      have B1 := Aside0.mk (blk_alloc (blk_new w (.cells #[.int .i64 2, .int .u64 st, .int .u64 ic, .slice (some ad) l.length c, .int .i64 (j : Int)] 25 (0, 0))) (.cells #[.int .i64 0, .int .u64 0, .int .u64 0, .slice none 0 0, .int .i64 0] 25 (0, 0)))
      have B3 := Aside0.mk (show (((w.alloc (.cells #[.int .i64 2, .int .u64 st, .int .u64 ic, .slice (some ad) l.length c, .int .i64 (j : Int)] 25 (0, 0))).alloc (.cells #[.int .i64 0, .int .u64 0, .int .u64 0, .slice none 0 0, .int .i64 0] 25 (0, 0))).heap[w.heap.size + 1]? = some (.cells #[.int .i64 0, .int .u64 0, .int .u64 0, .slice none 0 0, .int .i64 0] 25 (0, 0))) by have := blk_new (w.alloc (.cells #[.int .i64 2, .int .u64 st, .int .u64 ic, .slice (some ad) l.length c, .int .i64 (j : Int)] 25 (0, 0))) (.cells #[.int .i64 0, .int .u64 0, .int .u64 0, .slice none 0 0, .int .i64 0] 25 (0, 0)); rwa [Go.Proofs.YtjiogchafnpkhaaS.size_alloc] at this)
      have HB := Aside0.mk (below_alloc (below_alloc (Below.refl w.heap.size w) (.cells #[.int .i64 2, .int .u64 st, .int .u64 ic, .slice (some ad) l.length c, .int .i64 (j : Int)] 25 (0, 0))) (.cells #[.int .i64 0, .int .u64 0, .int .u64 0, .slice none 0 0, .int .i64 0] 25 (0, 0)))
      have GE3 : Aside0 (w.heap.size ≤ w.heap.size + 1) := ⟨by omega⟩
      have hz0 : ((w.alloc (.cells #[.int .i64 2, .int .u64 st, .int .u64 ic, .slice (some ad) l.length c, .int .i64 (j : Int)] 25 (0, 0))).alloc (.cells #[.int .i64 0, .int .u64 0, .int .u64 0, .slice none 0 0, .int .i64 0] 25 (0, 0))).cell? ⟨w.heap.size, 0, none⟩ = some (.int .i64 2) := (blk_cell B1.out 0).trans rfl
      have hz1 : ((w.alloc (.cells #[.int .i64 2, .int .u64 st, .int .u64 ic, .slice (some ad) l.length c, .int .i64 (j : Int)] 25 (0, 0))).alloc (.cells #[.int .i64 0, .int .u64 0, .int .u64 0, .slice none 0 0, .int .i64 0] 25 (0, 0))).cell? ⟨w.heap.size, 1, none⟩ = some (.int .u64 st) := (blk_cell B1.out 1).trans rfl
      have hz2 : ((w.alloc (.cells #[.int .i64 2, .int .u64 st, .int .u64 ic, .slice (some ad) l.length c, .int .i64 (j : Int)] 25 (0, 0))).alloc (.cells #[.int .i64 0, .int .u64 0, .int .u64 0, .slice none 0 0, .int .i64 0] 25 (0, 0))).cell? ⟨w.heap.size, 2, none⟩ = some (.int .u64 ic) := (blk_cell B1.out 2).trans rfl
      have hz3 : ((w.alloc (.cells #[.int .i64 2, .int .u64 st, .int .u64 ic, .slice (some ad) l.length c, .int .i64 (j : Int)] 25 (0, 0))).alloc (.cells #[.int .i64 0, .int .u64 0, .int .u64 0, .slice none 0 0, .int .i64 0] 25 (0, 0))).cell? ⟨w.heap.size, 3, none⟩ = some (.slice (some ad) l.length c) := (blk_cell B1.out 3).trans rfl
      have hz4 : ((w.alloc (.cells #[.int .i64 2, .int .u64 st, .int .u64 ic, .slice (some ad) l.length c, .int .i64 (j : Int)] 25 (0, 0))).alloc (.cells #[.int .i64 0, .int .u64 0, .int .u64 0, .slice none 0 0, .int .i64 0] 25 (0, 0))).cell? ⟨w.heap.size, 4, none⟩ = some (.int .i64 (j : Int)) := (blk_cell B1.out 4).trans rfl
      replace hx := (HB.out.cell (World.block_lt_of_cell? w _ hx)).trans hx
      clear B1 B3 HB GE3
      have B1 := Aside0.mk (blk_alloc (blk_new w (.cells #[.int .i64 2, .int .u64 st, .int .u64 ic, .slice (some ad) l.length c, .int .i64 ((j : Int) + 1)] 25 (0, 0))) (.cells #[.int .i64 0, .int .u64 0, .int .u64 0, .slice none 0 0, .int .i64 0] 25 (0, 0)))
      have B3 := Aside0.mk (show (((w.alloc (.cells #[.int .i64 2, .int .u64 st, .int .u64 ic, .slice (some ad) l.length c, .int .i64 ((j : Int) + 1)] 25 (0, 0))).alloc (.cells #[.int .i64 0, .int .u64 0, .int .u64 0, .slice none 0 0, .int .i64 0] 25 (0, 0))).heap[w.heap.size + 1]? = some (.cells #[.int .i64 0, .int .u64 0, .int .u64 0, .slice none 0 0, .int .i64 0] 25 (0, 0))) by have := blk_new (w.alloc (.cells #[.int .i64 2, .int .u64 st, .int .u64 ic, .slice (some ad) l.length c, .int .i64 ((j : Int) + 1)] 25 (0, 0))) (.cells #[.int .i64 0, .int .u64 0, .int .u64 0, .slice none 0 0, .int .i64 0] 25 (0, 0)); rwa [Go.Proofs.YtjiogchafnpkhaaS.size_alloc] at this)
      have HB := Aside0.mk (below_alloc (below_alloc (Below.refl w.heap.size w) (.cells #[.int .i64 2, .int .u64 st, .int .u64 ic, .slice (some ad) l.length c, .int .i64 ((j : Int) + 1)] 25 (0, 0))) (.cells #[.int .i64 0, .int .u64 0, .int .u64 0, .slice none 0 0, .int .i64 0] 25 (0, 0)))
      have GE3 : Aside0 (w.heap.size ≤ w.heap.size + 1) := ⟨by omega⟩
      go_enter Try.func14, Try.ntmps14
      go_wp2_with fail
      clear hz0 hz1 hz2 hz3 hz4
      clear hx
      generalize ((w.alloc (.cells #[.int .i64 2, .int .u64 st, .int .u64 ic, .slice (some ad) l.length c, .int .i64 ((j : Int) + 1)] 25 (0, 0))).alloc (.cells #[.int .i64 0, .int .u64 0, .int .u64 0, .slice none 0 0, .int .i64 0] 25 (0, 0))) = W0 at *
      refine start_ (n := 5) (S := fun w' => w'.cell? ⟨w.heap.size, 0, none⟩ = some (.int .i64 2) ∧ w'.cell? ⟨w.heap.size, 1, none⟩ = some (.int .u64 st) ∧ w'.cell? ⟨w.heap.size, 2, none⟩ = some (.int .u64 ic) ∧ w'.cell? ⟨w.heap.size, 3, none⟩ = some (.slice (some ad) l.length c) ∧ w'.cell? ⟨w.heap.size, 4, none⟩ = some (.int .i64 ((j : Int) + 1))) (ds := [4]) #[false, false, false, false, false] (by kernel_rfl) rfl rfl ⟨(blk_cell B1.out 0).trans rfl, (blk_cell B1.out 1).trans rfl, (blk_cell B1.out 2).trans rfl, (blk_cell B1.out 3).trans rfl, (blk_cell B1.out 4).trans rfl⟩ (fun hHeld => ?_)
      replace B1 := Aside0.mk (blk_drew B1.out)
      replace B3 := Aside0.mk (blk_drew B3.out)
      replace HB := Aside0.mk (below_drew1 HB.out)
      generalize W0.drew = W6 at B1 B3 HB hHeld ⊢
      refine pure_ (i := 0) (N := (some 34)) (v := ?_) (a' := ?_) #[true, false, false, false, false] rfl rfl (by kernel_rfl) (fun _ _ _ h => h) (Or.inl ⟨by rfl, ?_⟩) ?_ ?_
      rotate_left
      · intro w'
        go_simp
        with_reducible rfl
      rotate_left
      · simp only [Act.put, List.setIfInBounds_toArray, List.set_cons_zero, List.set_cons_succ, i64_w, i32_w]
        rfl
      refine pure_ (i := 1) (N := (some 35)) (v := ?_) (a' := ?_) #[true, true, false, false, false] rfl rfl (by kernel_rfl) (fun _ _ _ h => h) (Or.inl ⟨by rfl, ?_⟩) ?_ ?_
      rotate_left
      · intro w'
        go_simp
        with_reducible rfl
      rotate_left
      · simp only [Act.put, List.setIfInBounds_toArray, List.set_cons_zero, List.set_cons_succ, i64_w, i32_w]
        rfl
      refine take_ (i := 2) (N := (some 36)) (v := ?_) (a' := ?_) #[true, true, true, false, false] rfl rfl (by kernel_rfl) (fun _ _ _ h => h) (Or.inl ⟨by rfl, ?_⟩) hHeld ?_ ?_
      rotate_left
      · rintro w' ⟨s0, s1, s2, s3, s4⟩
        go_simp
        with_reducible rfl
      rotate_left
      · simp only [Act.put, List.setIfInBounds_toArray, List.set_cons_zero, List.set_cons_succ, i64_w, i32_w]
        rfl
      refine pure_ (i := 3) (N := (some 2)) (v := ?_) (a' := ?_) #[true, true, true, true, false] rfl rfl (by kernel_rfl) (fun _ _ _ h => h) (Or.inl ⟨by rfl, ?_⟩) ?_ ?_
      rotate_left
      · intro w'
        go_simp
        with_reducible rfl
      rotate_left
      · simp only [Act.put, List.setIfInBounds_toArray, List.set_cons_zero, List.set_cons_succ, i64_w, i32_w]
        rfl
      refine last_ (i := 4) (N := none) #[true, true, true, true, true] rfl rfl (by kernel_rfl) (by decide) (fun K hK => ?_)
      have hs0 : W6.cell? ⟨w.heap.size + 1, 0, none⟩ = some (.int .i64 0) := (blk_cell B3.out 0).trans rfl
      have hf0 := blk_frozen B3.out 0
      have hs1 : W6.cell? ⟨w.heap.size + 1, 1, none⟩ = some (.int .u64 0) := (blk_cell B3.out 1).trans rfl
      have hf1 := blk_frozen B3.out 1
      have hs2 : W6.cell? ⟨w.heap.size + 1, 2, none⟩ = some (.int .u64 0) := (blk_cell B3.out 2).trans rfl
      have hf2 := blk_frozen B3.out 2
      have hs3 : W6.cell? ⟨w.heap.size + 1, 3, none⟩ = some (.slice none 0 0) := (blk_cell B3.out 3).trans rfl
      have hf3 := blk_frozen B3.out 3
      have hs4 : W6.cell? ⟨w.heap.size + 1, 4, none⟩ = some (.int .i64 0) := (blk_cell B3.out 4).trans rfl
      have hf4 := blk_frozen B3.out 4
      refine skip_ (w1 := ?_) (by rfl) rfl ?_ ?_
      rotate_left
      · go_simp
        rfl
      refine hK.out _ _ ?_
      clear hK K
      refine done_ (by kernel_rfl) ?_
      try go_wp2
      have q0 := blk_set B3.out 0 (.int .i64 2)
      have q1 := blk_set q0 1 (.int .u64 st)
      have q2 := blk_set q1 2 (.int .u64 ic)
      have q3 := blk_set q2 3 (.slice (some ad) l.length c)
      have q4 := blk_set q3 4 (.int .i64 ((j : Int) + 1))
      (try simp only [Exit.inBlock, Exit.then])
      refine bodyPost_ret (results_list (rs := [.tmp 2, .cell 3 25]) rfl (by simp) (.tmp (.cell (w.heap.size + 1) 25 #[.int .i64 2, .int .u64 st, .int .u64 ic, .slice (some ad) l.length c, .int .i64 ((j : Int) + 1)] (0, 0) _ rfl (q4.trans (by rfl)) Try.underlying25 rfl (by kernel_rfl) .nil))) rfl ⟨rfl, ?_⟩
      exact below_set (j := 4) (v := (.int .i64 ((j : Int) + 1))) (below_set (j := 3) (v := (.slice (some ad) l.length c)) (below_set (j := 2) (v := (.int .u64 ic)) (below_set (j := 1) (v := (.int .u64 st)) (below_set (j := 0) (v := (.int .i64 2)) HB.out GE3.out) GE3.out) GE3.out) GE3.out) GE3.out

set_option maxHeartbeats 4000000 in
set_option maxRecDepth 100000 in
theorem ref_next_none (k st ic at_ : Int) (A : Option Addr) (c : Nat) (l : List Int) (w : World) (h1 : k ≠ 1) (h2 : k ≠ 2) : Calls Try.prog 14 #[.agg #[.int .i64 k, .int .u64 st, .int .u64 ic, .slice A l.length c, .int .i64 at_]] w fun e w' => e = .returned (.tuple #[.int .i64 0, .agg #[.int .i64 k, .int .u64 st, .int .u64 ic, .slice A l.length c, .int .i64 at_]]) ∧ Below w.heap.size w w' := by
  have hu25 := Try.underlying25
  have e1 : (k == 2) = false := beq_eq_false_iff_ne.mpr h2
  have e2 : (k == 1) = false := beq_eq_false_iff_ne.mpr h1
  clear h1 h2
  have B1 := Aside0.mk (blk_alloc (blk_new w (.cells #[.int .i64 k, .int .u64 st, .int .u64 ic, .slice A l.length c, .int .i64 at_] 25 (0, 0))) (.cells #[.int .i64 0, .int .u64 0, .int .u64 0, .slice none 0 0, .int .i64 0] 25 (0, 0)))
  have B3 := Aside0.mk (show (((w.alloc (.cells #[.int .i64 k, .int .u64 st, .int .u64 ic, .slice A l.length c, .int .i64 at_] 25 (0, 0))).alloc (.cells #[.int .i64 0, .int .u64 0, .int .u64 0, .slice none 0 0, .int .i64 0] 25 (0, 0))).heap[w.heap.size + 1]? = some (.cells #[.int .i64 0, .int .u64 0, .int .u64 0, .slice none 0 0, .int .i64 0] 25 (0, 0))) by have := blk_new (w.alloc (.cells #[.int .i64 k, .int .u64 st, .int .u64 ic, .slice A l.length c, .int .i64 at_] 25 (0, 0))) (.cells #[.int .i64 0, .int .u64 0, .int .u64 0, .slice none 0 0, .int .i64 0] 25 (0, 0)); rwa [Go.Proofs.YtjiogchafnpkhaaS.size_alloc] at this)
  have HB := Aside0.mk (below_alloc (below_alloc (Below.refl w.heap.size w) (.cells #[.int .i64 k, .int .u64 st, .int .u64 ic, .slice A l.length c, .int .i64 at_] 25 (0, 0))) (.cells #[.int .i64 0, .int .u64 0, .int .u64 0, .slice none 0 0, .int .i64 0] 25 (0, 0)))
  have GE3 : Aside0 (w.heap.size ≤ w.heap.size + 1) := ⟨by omega⟩
  have hz0 : ((w.alloc (.cells #[.int .i64 k, .int .u64 st, .int .u64 ic, .slice A l.length c, .int .i64 at_] 25 (0, 0))).alloc (.cells #[.int .i64 0, .int .u64 0, .int .u64 0, .slice none 0 0, .int .i64 0] 25 (0, 0))).cell? ⟨w.heap.size, 0, none⟩ = some (.int .i64 k) := (blk_cell B1.out 0).trans rfl
  have hz1 : ((w.alloc (.cells #[.int .i64 k, .int .u64 st, .int .u64 ic, .slice A l.length c, .int .i64 at_] 25 (0, 0))).alloc (.cells #[.int .i64 0, .int .u64 0, .int .u64 0, .slice none 0 0, .int .i64 0] 25 (0, 0))).cell? ⟨w.heap.size, 1, none⟩ = some (.int .u64 st) := (blk_cell B1.out 1).trans rfl
  have hz2 : ((w.alloc (.cells #[.int .i64 k, .int .u64 st, .int .u64 ic, .slice A l.length c, .int .i64 at_] 25 (0, 0))).alloc (.cells #[.int .i64 0, .int .u64 0, .int .u64 0, .slice none 0 0, .int .i64 0] 25 (0, 0))).cell? ⟨w.heap.size, 2, none⟩ = some (.int .u64 ic) := (blk_cell B1.out 2).trans rfl
  have hz3 : ((w.alloc (.cells #[.int .i64 k, .int .u64 st, .int .u64 ic, .slice A l.length c, .int .i64 at_] 25 (0, 0))).alloc (.cells #[.int .i64 0, .int .u64 0, .int .u64 0, .slice none 0 0, .int .i64 0] 25 (0, 0))).cell? ⟨w.heap.size, 3, none⟩ = some (.slice A l.length c) := (blk_cell B1.out 3).trans rfl
  have hz4 : ((w.alloc (.cells #[.int .i64 k, .int .u64 st, .int .u64 ic, .slice A l.length c, .int .i64 at_] 25 (0, 0))).alloc (.cells #[.int .i64 0, .int .u64 0, .int .u64 0, .slice none 0 0, .int .i64 0] 25 (0, 0))).cell? ⟨w.heap.size, 4, none⟩ = some (.int .i64 at_) := (blk_cell B1.out 4).trans rfl
  go_enter Try.func14, Try.ntmps14
  go_wp2_with fail
  clear hz0 hz1 hz2 hz3 hz4
  generalize ((w.alloc (.cells #[.int .i64 k, .int .u64 st, .int .u64 ic, .slice A l.length c, .int .i64 at_] 25 (0, 0))).alloc (.cells #[.int .i64 0, .int .u64 0, .int .u64 0, .slice none 0 0, .int .i64 0] 25 (0, 0))) = W0 at *
  refine start_ (n := 3) (S := fun w' => w'.cell? ⟨w.heap.size, 0, none⟩ = some (.int .i64 k) ∧ w'.cell? ⟨w.heap.size, 1, none⟩ = some (.int .u64 st) ∧ w'.cell? ⟨w.heap.size, 2, none⟩ = some (.int .u64 ic) ∧ w'.cell? ⟨w.heap.size, 3, none⟩ = some (.slice A l.length c) ∧ w'.cell? ⟨w.heap.size, 4, none⟩ = some (.int .i64 at_)) (ds := [2]) #[false, false, false] (by kernel_rfl) rfl rfl ⟨(blk_cell B1.out 0).trans rfl, (blk_cell B1.out 1).trans rfl, (blk_cell B1.out 2).trans rfl, (blk_cell B1.out 3).trans rfl, (blk_cell B1.out 4).trans rfl⟩ (fun hHeld => ?_)
  replace B1 := Aside0.mk (blk_drew B1.out)
  replace B3 := Aside0.mk (blk_drew B3.out)
  replace HB := Aside0.mk (below_drew1 HB.out)
  generalize W0.drew = W6 at B1 B3 HB hHeld ⊢
  refine take_ (i := 0) (N := (some 40)) (v := ?_) (a' := ?_) #[true, false, false] rfl rfl (by kernel_rfl) (fun _ _ _ h => h) (Or.inl ⟨by rfl, ?_⟩) hHeld ?_ ?_
  rotate_left
  · rintro w' ⟨s0, s1, s2, s3, s4⟩
    go_simp
    with_reducible rfl
  rotate_left
  · simp only [Act.put, List.setIfInBounds_toArray, List.set_cons_zero, List.set_cons_succ, i64_w, i32_w]
    rfl
  refine pure_ (i := 1) (N := (some 2)) (v := ?_) (a' := ?_) #[true, true, false] rfl rfl (by kernel_rfl) (fun _ _ _ h => h) (Or.inl ⟨by rfl, ?_⟩) ?_ ?_
  rotate_left
  · intro w'
    go_simp
    with_reducible rfl
  rotate_left
  · simp only [Act.put, List.setIfInBounds_toArray, List.set_cons_zero, List.set_cons_succ, i64_w, i32_w]
    rfl
  refine last_ (i := 2) (N := none) #[true, true, true] rfl rfl (by kernel_rfl) (by decide) (fun K hK => ?_)
  have hs0 : W6.cell? ⟨w.heap.size + 1, 0, none⟩ = some (.int .i64 0) := (blk_cell B3.out 0).trans rfl
  have hf0 := blk_frozen B3.out 0
  have hs1 : W6.cell? ⟨w.heap.size + 1, 1, none⟩ = some (.int .u64 0) := (blk_cell B3.out 1).trans rfl
  have hf1 := blk_frozen B3.out 1
  have hs2 : W6.cell? ⟨w.heap.size + 1, 2, none⟩ = some (.int .u64 0) := (blk_cell B3.out 2).trans rfl
  have hf2 := blk_frozen B3.out 2
  have hs3 : W6.cell? ⟨w.heap.size + 1, 3, none⟩ = some (.slice none 0 0) := (blk_cell B3.out 3).trans rfl
  have hf3 := blk_frozen B3.out 3
  have hs4 : W6.cell? ⟨w.heap.size + 1, 4, none⟩ = some (.int .i64 0) := (blk_cell B3.out 4).trans rfl
  have hf4 := blk_frozen B3.out 4
  refine skip_ (w1 := ?_) (by rfl) rfl ?_ ?_
  rotate_left
  · go_simp
    rfl
  refine hK.out _ _ ?_
  clear hK K
  refine done_ (by kernel_rfl) ?_
  try go_wp2
  have q0 := blk_set B3.out 0 (.int .i64 k)
  have q1 := blk_set q0 1 (.int .u64 st)
  have q2 := blk_set q1 2 (.int .u64 ic)
  have q3 := blk_set q2 3 (.slice A l.length c)
  have q4 := blk_set q3 4 (.int .i64 at_)
  (try simp only [Exit.inBlock, Exit.then])
  refine bodyPost_ret (results_list (rs := [.tmp 2, .cell 3 25]) rfl (by simp) (.tmp (.cell (w.heap.size + 1) 25 #[.int .i64 k, .int .u64 st, .int .u64 ic, .slice A l.length c, .int .i64 at_] (0, 0) _ rfl (q4.trans (by rfl)) Try.underlying25 rfl (by kernel_rfl) .nil))) rfl ⟨rfl, ?_⟩
  exact below_set (j := 4) (v := (.int .i64 at_)) (below_set (j := 3) (v := (.slice A l.length c)) (below_set (j := 2) (v := (.int .u64 ic)) (below_set (j := 1) (v := (.int .u64 st)) (below_set (j := 0) (v := (.int .i64 k)) HB.out GE3.out) GE3.out) GE3.out) GE3.out) GE3.out
end
section
open Go.RowKit Go.Proofs.YtjiogchafnpkhaaW.PrintWords Go.Proofs.YtjiogchafnpkhaaW.PrintLast Go.Proofs.YtjiogchafnpkhaaW.PrintMore
attribute [local go_sem] max2_int min2_int max_two min_two max_three min_three max_four min_four
attribute [local go_sem] Go.Proofs.YtjiogchafnpkhaaS.cell_set_map Go.Proofs.YtjiogchafnpkhaaS.setCell_drewN
set_option linter.unusedVariables false
set_option linter.unusedSimpArgs false
theorem quo_val (x : Int) (h : 0 ≤ x) : Int.tdiv x 2 = x / 2 := Int.tdiv_eq_ediv_of_nonneg h
theorem rem_val (x : Int) (h : 0 ≤ x) : Int.tmod x 2 = x % 2 := Int.tmod_eq_emod_of_nonneg h
theorem u64_in (x : Int) (h0 : 0 ≤ x) (h1 : x < 18446744073709551616) : IntKind.u64.wrap x = x := by rw [u64_w]; omega
theorem xor_range (a b : Int) (a0 : 0 ≤ a) (a1 : a < 18446744073709551616) (b0 : 0 ≤ b) (b1 : b < 18446744073709551616) : 0 ≤ bits .xor .u64 a b ∧ bits .xor .u64 a b < 18446744073709551616 := by
  rw [u64_xor a b a0 a1 b0 b1]
  have := Nat.xor_lt_two_pow (n := 64) (show a.toNat < 2 ^ 64 by omega) (show b.toNat < 2 ^ 64 by omega)
  omega
set_option maxHeartbeats 8000000 in
set_option maxRecDepth 100000 in
theorem ref_next_pcg (st ic at_ : Int) (A : Option Addr) (c : Nat) (l : List Int) (w : World) (s0 : 0 ≤ st) (s1 : st < 18446744073709551616) : Calls Try.prog 14 #[.agg #[.int .i64 1, .int .u64 st, .int .u64 ic, .slice A l.length c, .int .i64 at_]] w fun e w' => e = .returned (.tuple #[.int .i64 (wrap64 (pcgX st)), .agg #[.int .i64 1, .int .u64 (pcgSt st ic), .int .u64 ic, .slice A l.length c, .int .i64 at_]]) ∧ Below w.heap.size w w' := by
  have hu25 := Try.underlying25
  have hR := pcgX_rot st s0 s1
  rw [hR]
  clear hR
  have hx := xor_range (st / 262144) st (by omega) (by omega) s0 s1
  obtain ⟨y, hy⟩ : ∃ y, bits .xor .u64 (st / 262144) st = y := ⟨_, rfl⟩
  rw [hy] at hx
  obtain ⟨x0, hx0⟩ : ∃ x0, IntKind.u32.wrap (y / 134217728) = x0 := ⟨_, rfl⟩
  rw [hy, hx0]
  have hx1 : Int.tmod (y / 134217728) 4294967296 = x0 := by rw [← hx0, IntKind.wrap_u32]; exact Int.tmod_eq_emod_of_nonneg (by omega)
  have r0 : 0 ≤ x0 ∧ x0 < 4294967296 := by rw [← hx0, IntKind.wrap_u32]; omega
  clear hx0
  obtain ⟨r, hr⟩ : ∃ r : Nat, st / 576460752303423488 = (r : Int) := ⟨(st / 576460752303423488).toNat, by omega⟩
  have hr2 : r < 32 := by omega
  rw [hr, Int.toNat_natCast]
  have HT := fun i hi => rotI_step x0 r0.1 r0.2 i hi
  have HG := fun i hi => rotI_range x0 r0.1 r0.2 i hi
  have HZ := rotI_zero x0
  replace HT := Aside0.mk HT
  replace HG := Aside0.mk HG
  replace HZ := Aside0.mk HZ
  obtain ⟨xr, hxr⟩ : ∃ xr, wrap64 (rotI x0 r) = xr := ⟨_, rfl⟩
  rw [hxr]
  have hxr1 : IntKind.i64.wrap (rotI x0 r) = xr := by rw [i64_w]; exact hxr
  replace hxr := Aside0.mk hxr1
  clear hxr1 hx r0 s0 s1
  have B1 := Aside0.mk (blk_alloc (blk_new w (.cells #[.int .i64 1, .int .u64 st, .int .u64 ic, .slice A l.length c, .int .i64 at_] 25 (0, 0))) (.cells #[.int .i64 0, .int .u64 0, .int .u64 0, .slice none 0 0, .int .i64 0] 25 (0, 0)))
  have B3 := Aside0.mk (show (((w.alloc (.cells #[.int .i64 1, .int .u64 st, .int .u64 ic, .slice A l.length c, .int .i64 at_] 25 (0, 0))).alloc (.cells #[.int .i64 0, .int .u64 0, .int .u64 0, .slice none 0 0, .int .i64 0] 25 (0, 0))).heap[w.heap.size + 1]? = some (.cells #[.int .i64 0, .int .u64 0, .int .u64 0, .slice none 0 0, .int .i64 0] 25 (0, 0))) by have := blk_new (w.alloc (.cells #[.int .i64 1, .int .u64 st, .int .u64 ic, .slice A l.length c, .int .i64 at_] 25 (0, 0))) (.cells #[.int .i64 0, .int .u64 0, .int .u64 0, .slice none 0 0, .int .i64 0] 25 (0, 0)); rwa [Go.Proofs.YtjiogchafnpkhaaS.size_alloc] at this)
  have HB := Aside0.mk (below_alloc (below_alloc (Below.refl w.heap.size w) (.cells #[.int .i64 1, .int .u64 st, .int .u64 ic, .slice A l.length c, .int .i64 at_] 25 (0, 0))) (.cells #[.int .i64 0, .int .u64 0, .int .u64 0, .slice none 0 0, .int .i64 0] 25 (0, 0)))
  have GE3 : Aside0 (w.heap.size ≤ w.heap.size + 1) := ⟨by omega⟩
  have hz0 : ((w.alloc (.cells #[.int .i64 1, .int .u64 st, .int .u64 ic, .slice A l.length c, .int .i64 at_] 25 (0, 0))).alloc (.cells #[.int .i64 0, .int .u64 0, .int .u64 0, .slice none 0 0, .int .i64 0] 25 (0, 0))).cell? ⟨w.heap.size, 0, none⟩ = some (.int .i64 1) := (blk_cell B1.out 0).trans rfl
  have hz1 : ((w.alloc (.cells #[.int .i64 1, .int .u64 st, .int .u64 ic, .slice A l.length c, .int .i64 at_] 25 (0, 0))).alloc (.cells #[.int .i64 0, .int .u64 0, .int .u64 0, .slice none 0 0, .int .i64 0] 25 (0, 0))).cell? ⟨w.heap.size, 1, none⟩ = some (.int .u64 st) := (blk_cell B1.out 1).trans rfl
  have hz2 : ((w.alloc (.cells #[.int .i64 1, .int .u64 st, .int .u64 ic, .slice A l.length c, .int .i64 at_] 25 (0, 0))).alloc (.cells #[.int .i64 0, .int .u64 0, .int .u64 0, .slice none 0 0, .int .i64 0] 25 (0, 0))).cell? ⟨w.heap.size, 2, none⟩ = some (.int .u64 ic) := (blk_cell B1.out 2).trans rfl
  have hz3 : ((w.alloc (.cells #[.int .i64 1, .int .u64 st, .int .u64 ic, .slice A l.length c, .int .i64 at_] 25 (0, 0))).alloc (.cells #[.int .i64 0, .int .u64 0, .int .u64 0, .slice none 0 0, .int .i64 0] 25 (0, 0))).cell? ⟨w.heap.size, 3, none⟩ = some (.slice A l.length c) := (blk_cell B1.out 3).trans rfl
  have hz4 : ((w.alloc (.cells #[.int .i64 1, .int .u64 st, .int .u64 ic, .slice A l.length c, .int .i64 at_] 25 (0, 0))).alloc (.cells #[.int .i64 0, .int .u64 0, .int .u64 0, .slice none 0 0, .int .i64 0] 25 (0, 0))).cell? ⟨w.heap.size, 4, none⟩ = some (.int .i64 at_) := (blk_cell B1.out 4).trans rfl
  go_enter Try.func14, Try.ntmps14
  go_wp2
  clear hz0 hz1 hz2 hz3 hz4
  generalize ((w.alloc (.cells #[.int .i64 1, .int .u64 st, .int .u64 ic, .slice A l.length c, .int .i64 at_] 25 (0, 0))).alloc (.cells #[.int .i64 0, .int .u64 0, .int .u64 0, .slice none 0 0, .int .i64 0] 25 (0, 0))) = W0 at *
  clear hx1 hy
  go_loop [5, 7] (fun v5 v7 => ∃ i : Nat, i ≤ r ∧ v7 = .int .u64 i ∧ v5 = .int .u64 (rotI x0 i)) (fun _ v7 => r - (intOf v7).toNat)
  case atStart => exact ⟨0, Nat.zero_le _, rfl, by rw [HZ.out]⟩
  case round =>
    obtain ⟨i, hi, rfl, rfl⟩ := hrel
    by_cases hlt : i < r
    · have hq : (i : Int) < (r : Int) := by omega
      have t1 := HT.out i (by omega)
      have g1 := HG.out i (by omega)
      have g2 := HG.out (i + 1) (by omega)
      obtain ⟨z, hz⟩ : ∃ z, rotI x0 (i + 1) = z := ⟨_, rfl⟩
      rw [hz] at t1 g2
      generalize rotI x0 i = y0 at *
      have a1 := quo_val y0 g1.1
      have a2 := rem_val y0 g1.1
      have a6 : IntKind.u64.wrap (y0 / 2) = y0 / 2 := u64_in _ (by omega) (by omega)
      have a3 : IntKind.u64.wrap (y0 % 2 * 2147483648) = y0 % 2 * 2147483648 := u64_in _ (by omega) (by omega)
      have a4 : IntKind.u64.wrap (y0 / 2 + y0 % 2 * 2147483648) = z := by rw [t1]; exact u64_in _ (by omega) (by omega)
      have a5 : IntKind.u64.wrap ((i : Int) + 1) = (i : Int) + 1 := u64_in _ (by omega) (by omega)
      have hz2 := Aside0.mk hz
      clear hz t1 g1 g2
      go_wp2
      go_round
      case rel => exact ⟨i + 1, by omega, by go_num, by rw [hz2.out]⟩
      case measure => simp [intOf]; omega
    · have hq : ¬ (i : Int) < (r : Int) := by omega
      obtain rfl : i = r := by omega
      have hxr1 := hxr.out
      clear hxr
      generalize rotI x0 i = xi at *
      clear hr
      have ha0 : W0.cell? ⟨w.heap.size, 0, none⟩ = some (.int .i64 1) := (blk_cell B1.out 0).trans rfl; have fa0 := blk_frozen B1.out 0; have ha1 : W0.cell? ⟨w.heap.size, 1, none⟩ = some (.int .u64 st) := (blk_cell B1.out 1).trans rfl; have fa1 := blk_frozen B1.out 1; have ha2 : W0.cell? ⟨w.heap.size, 2, none⟩ = some (.int .u64 ic) := (blk_cell B1.out 2).trans rfl; have fa2 := blk_frozen B1.out 2; have ha3 : W0.cell? ⟨w.heap.size, 3, none⟩ = some (.slice A l.length c) := (blk_cell B1.out 3).trans rfl; have fa3 := blk_frozen B1.out 3; have ha4 : W0.cell? ⟨w.heap.size, 4, none⟩ = some (.int .i64 at_) := (blk_cell B1.out 4).trans rfl; have fa4 := blk_frozen B1.out 4
      go_wp2_with (first | ((with_reducible refine gate_callee (f := 42) rfl ?_); refine goesL_ (some 66) rfl rfl Try.func42 (by kernel_rfl) rfl #[.agg #[.int .i64 1, .int .u64 st, .int .u64 ic, .slice A l.length c, .int .i64 at_]] rfl (by (try simp only [List.map_toArray, List.map_cons, List.map_nil]); first | done | rfl) ?_; (refine (ref_step_calls 1 st ic at_ A c l _).mono ?_); rintro e w1 ⟨rfl, hb⟩; refine ⟨_, rfl, ?_⟩; have n1_ := Aside0.mk (blk_below B1.out hb); have n2_ := Aside0.mk (blk_below B3.out hb); have n3_ := Aside0.mk (below_step HB.out hb); clear B1 B3 HB hb; have B1 := n1_; have B3 := n2_; have HB := n3_; clear n1_ n2_ n3_; have hs0 : w1.cell? ⟨w.heap.size + 1, 0, none⟩ = some (.int .i64 0) := (blk_cell B3.out 0).trans rfl; have fs0 := blk_frozen B3.out 0; have hs1 : w1.cell? ⟨w.heap.size + 1, 1, none⟩ = some (.int .u64 0) := (blk_cell B3.out 1).trans rfl; have fs1 := blk_frozen B3.out 1; have hs2 : w1.cell? ⟨w.heap.size + 1, 2, none⟩ = some (.int .u64 0) := (blk_cell B3.out 2).trans rfl; have fs2 := blk_frozen B3.out 2; have hs3 : w1.cell? ⟨w.heap.size + 1, 3, none⟩ = some (.slice none 0 0) := (blk_cell B3.out 3).trans rfl; have fs3 := blk_frozen B3.out 3; have hs4 : w1.cell? ⟨w.heap.size + 1, 4, none⟩ = some (.int .i64 0) := (blk_cell B3.out 4).trans rfl; have fs4 := blk_frozen B3.out 4))
      have q0 := blk_set B3.out 0 (.int .i64 1)
      have q1 := blk_set q0 1 (.int .u64 (pcgSt st ic))
      have q2 := blk_set q1 2 (.int .u64 ic)
      have q3 := blk_set q2 3 (.slice A l.length c)
      have q4 := blk_set q3 4 (.int .i64 at_)
      (try simp only [Exit.inBlock, Exit.then])
      refine bodyPost_ret (results_list (rs := [.tmp 2, .cell 3 25]) rfl (by simp) (.tmp (.cell (w.heap.size + 1) 25 #[.int .i64 1, .int .u64 (pcgSt st ic), .int .u64 ic, .slice A l.length c, .int .i64 at_] (0, 0) _ rfl (q4.trans (by rfl)) Try.underlying25 rfl (by kernel_rfl) .nil))) rfl ⟨rfl, ?_⟩
      exact below_set (j := 4) (v := (.int .i64 at_)) (below_set (j := 3) (v := (.slice A l.length c)) (below_set (j := 2) (v := (.int .u64 ic)) (below_set (j := 1) (v := (.int .u64 (pcgSt st ic))) (below_set (j := 0) (v := (.int .i64 1)) HB.out GE3.out) GE3.out) GE3.out) GE3.out) GE3.out

theorem ref_Next_calls (k st ic at_ : Int) (A : Option Addr) (c : Nat) (l : List Int) (w : World) (hr : Kd.C (Kd.int .u64) w A l.length l) (hu : ∀ y ∈ l, 0 ≤ y) (hs : 0 ≤ st ∧ st < 18446744073709551616) : Calls Try.prog 14 #[.agg #[.int .i64 k, .int .u64 st, .int .u64 ic, .slice A l.length c, .int .i64 at_]] w fun e w' => e = .returned (.tuple #[.int .i64 (nextX k st l at_), .agg #[.int .i64 k, .int .u64 (nextSt k st ic), .int .u64 ic, .slice A l.length c, .int .i64 (nextAt k l at_)]]) ∧ Below w.heap.size w w' := by
  by_cases h1 : k = 1
  · subst h1
    have e1 : nextX 1 st l at_ = wrap64 (pcgX st) := by unfold nextX; rw [if_pos rfl]
    have e2 : nextSt 1 st ic = pcgSt st ic := by unfold nextSt; rw [if_pos rfl]
    have e3 : nextAt 1 l at_ = at_ := by unfold nextAt; rw [if_neg (by decide)]
    rw [e1, e2, e3]
    exact ref_next_pcg st ic at_ A c l w hs.1 hs.2
  · by_cases h2 : k = 2
    · subst h2
      have e1 : nextX 2 st l at_ = wrap64 (tapeX l at_) := by unfold nextX; rw [if_neg (by decide), if_pos rfl]
      have e2 : nextSt 2 st ic = st := by unfold nextSt; rw [if_neg (by decide)]
      have e3 : nextAt 2 l at_ = tapeAt l at_ := by unfold nextAt; rw [if_pos rfl]
      rw [e1, e2, e3]
      exact ref_next_tape st ic at_ A c l w hr hu
    · have e1 : nextX k st l at_ = 0 := by unfold nextX; rw [if_neg h1, if_neg h2, w64_0]
      have e2 : nextSt k st ic = st := by unfold nextSt; rw [if_neg h1]
      have e3 : nextAt k l at_ = at_ := by unfold nextAt; rw [if_neg h2]
      rw [e1, e2, e3]
      exact ref_next_none k st ic at_ A c l w h1 h2
end
section
open Go.RowKit Go.Proofs.YtjiogchafnpkhaaW.PrintWords Go.Proofs.YtjiogchafnpkhaaW.PrintLast Go.Proofs.YtjiogchafnpkhaaW.PrintMore
attribute [local go_sem] max2_int min2_int max_two min_two max_three min_three max_four min_four
attribute [local go_sem] Go.Proofs.YtjiogchafnpkhaaS.cell_set_map Go.Proofs.YtjiogchafnpkhaaS.setCell_drewN
set_option linter.unusedVariables false
set_option linter.unusedSimpArgs false
set_option maxHeartbeats 4000000 in
set_option maxRecDepth 100000 in
theorem ref_Below_calls (k st ic at_ : Int) (A : Option Addr) (c : Nat) (l : List Int) (n : Int) (w : World) (hr : Kd.C (Kd.int .u64) w A l.length l) (hu : ∀ y ∈ l, 0 ≤ y) (hs : 0 ≤ st ∧ st < 18446744073709551616) : Calls Try.prog 26 #[.agg #[.int .i64 k, .int .u64 st, .int .u64 ic, .slice A l.length c, .int .i64 at_], .int .i64 n] w fun e w' => e = .returned (.tuple #[.int .i64 (belowX k st l at_ n), .agg #[.int .i64 k, .int .u64 (belowSt k st ic n), .int .u64 ic, .slice A l.length c, .int .i64 (belowAt k l at_ n)]]) ∧ Below w.heap.size w w' := by
  have hu25 := Try.underlying25
  have HR := Aside0.mk hr
  clear hr
  have B1 := Aside0.mk (blk_alloc (blk_new w (.cells #[.int .i64 k, .int .u64 st, .int .u64 ic, .slice A l.length c, .int .i64 at_] 25 (0, 0))) (.cells #[.int .i64 0, .int .u64 0, .int .u64 0, .slice none 0 0, .int .i64 0] 25 (0, 0)))
  have B3 := Aside0.mk (show (((w.alloc (.cells #[.int .i64 k, .int .u64 st, .int .u64 ic, .slice A l.length c, .int .i64 at_] 25 (0, 0))).alloc (.cells #[.int .i64 0, .int .u64 0, .int .u64 0, .slice none 0 0, .int .i64 0] 25 (0, 0))).heap[w.heap.size + 1]? = some (.cells #[.int .i64 0, .int .u64 0, .int .u64 0, .slice none 0 0, .int .i64 0] 25 (0, 0))) by have := blk_new (w.alloc (.cells #[.int .i64 k, .int .u64 st, .int .u64 ic, .slice A l.length c, .int .i64 at_] 25 (0, 0))) (.cells #[.int .i64 0, .int .u64 0, .int .u64 0, .slice none 0 0, .int .i64 0] 25 (0, 0)); rwa [Go.Proofs.YtjiogchafnpkhaaS.size_alloc] at this)
  have HB := Aside0.mk (below_alloc (below_alloc (Below.refl w.heap.size w) (.cells #[.int .i64 k, .int .u64 st, .int .u64 ic, .slice A l.length c, .int .i64 at_] 25 (0, 0))) (.cells #[.int .i64 0, .int .u64 0, .int .u64 0, .slice none 0 0, .int .i64 0] 25 (0, 0)))
  have GE3 : Aside0 (w.heap.size ≤ w.heap.size + 1) := ⟨by omega⟩
  have HU := Aside0.mk hu
  have HS := Aside0.mk hs
  clear hu hs
  by_cases h1 : n ≤ 0
  · have e1 : belowX k st l at_ n = 0 := if_pos h1
    have e2 : belowSt k st ic n = st := if_pos h1
    have e3 : belowAt k l at_ n = at_ := if_pos h1
    rw [e1, e2, e3]
    clear e1 e2 e3
    go_enter Try.func26, Try.ntmps26
    go_wp2_with fail
    generalize ((w.alloc (.cells #[.int .i64 k, .int .u64 st, .int .u64 ic, .slice A l.length c, .int .i64 at_] 25 (0, 0))).alloc (.cells #[.int .i64 0, .int .u64 0, .int .u64 0, .slice none 0 0, .int .i64 0] 25 (0, 0))) = W0 at *
    refine start_ (n := 3) (S := fun w' => w'.cell? ⟨w.heap.size, 0, none⟩ = some (.int .i64 k) ∧ w'.cell? ⟨w.heap.size, 1, none⟩ = some (.int .u64 st) ∧ w'.cell? ⟨w.heap.size, 2, none⟩ = some (.int .u64 ic) ∧ w'.cell? ⟨w.heap.size, 3, none⟩ = some (.slice A l.length c) ∧ w'.cell? ⟨w.heap.size, 4, none⟩ = some (.int .i64 at_)) (ds := [2]) #[false, false, false] (by kernel_rfl) rfl rfl ⟨(blk_cell B1.out 0).trans rfl, (blk_cell B1.out 1).trans rfl, (blk_cell B1.out 2).trans rfl, (blk_cell B1.out 3).trans rfl, (blk_cell B1.out 4).trans rfl⟩ (fun hHeld => ?_)
    replace B1 := Aside0.mk (blk_drew B1.out)
    replace B3 := Aside0.mk (blk_drew B3.out)
    replace HB := Aside0.mk (below_drew1 HB.out)
    generalize W0.drew = W6 at B1 B3 HB hHeld ⊢
    refine take_ (i := 0) (N := (some 10)) (v := ?_) (a' := ?_) #[true, false, false] rfl rfl (by kernel_rfl) (fun _ _ _ h => h) (Or.inl ⟨by rfl, ?_⟩) hHeld ?_ ?_
    rotate_left
    · rintro w' ⟨s0, s1, s2, s3, s4⟩
      go_simp
      with_reducible rfl
    rotate_left
    · simp only [Act.put, List.setIfInBounds_toArray, List.set_cons_zero, List.set_cons_succ, i64_w, i32_w]
      rfl
    refine pure_ (i := 1) (N := (some 4)) (v := ?_) (a' := ?_) #[true, true, false] rfl rfl (by kernel_rfl) (fun _ _ _ h => h) (Or.inl ⟨by rfl, ?_⟩) ?_ ?_
    rotate_left
    · intro w'
      go_simp
      with_reducible rfl
    rotate_left
    · simp only [Act.put, List.setIfInBounds_toArray, List.set_cons_zero, List.set_cons_succ, i64_w, i32_w]
      rfl
    refine last_ (i := 2) (N := none) #[true, true, true] rfl rfl (by kernel_rfl) (by decide) (fun K hK => ?_)
    have hs0 : W6.cell? ⟨w.heap.size + 1, 0, none⟩ = some (.int .i64 0) := (blk_cell B3.out 0).trans rfl
    have hf0 := blk_frozen B3.out 0
    have hs1 : W6.cell? ⟨w.heap.size + 1, 1, none⟩ = some (.int .u64 0) := (blk_cell B3.out 1).trans rfl
    have hf1 := blk_frozen B3.out 1
    have hs2 : W6.cell? ⟨w.heap.size + 1, 2, none⟩ = some (.int .u64 0) := (blk_cell B3.out 2).trans rfl
    have hf2 := blk_frozen B3.out 2
    have hs3 : W6.cell? ⟨w.heap.size + 1, 3, none⟩ = some (.slice none 0 0) := (blk_cell B3.out 3).trans rfl
    have hf3 := blk_frozen B3.out 3
    have hs4 : W6.cell? ⟨w.heap.size + 1, 4, none⟩ = some (.int .i64 0) := (blk_cell B3.out 4).trans rfl
    have hf4 := blk_frozen B3.out 4
    refine skip_ (w1 := ?_) (by rfl) rfl ?_ ?_
    rotate_left
    · go_simp
      rfl
    refine hK.out _ _ ?_
    clear hK K
    refine done_ (by kernel_rfl) ?_
    try go_wp2
    have q0 := blk_set B3.out 0 (.int .i64 k)
    have q1 := blk_set q0 1 (.int .u64 st)
    have q2 := blk_set q1 2 (.int .u64 ic)
    have q3 := blk_set q2 3 (.slice A l.length c)
    have q4 := blk_set q3 4 (.int .i64 at_)
    (try simp only [Exit.inBlock, Exit.then])
    refine bodyPost_ret (results_list (rs := [.tmp 4, .cell 5 25]) rfl (by simp) (.tmp (.cell (w.heap.size + 1) 25 #[.int .i64 k, .int .u64 st, .int .u64 ic, .slice A l.length c, .int .i64 at_] (0, 0) _ rfl (q4.trans (by rfl)) Try.underlying25 rfl (by kernel_rfl) .nil))) rfl ⟨rfl, ?_⟩
    exact below_set (j := 4) (v := (.int .i64 at_)) (below_set (j := 3) (v := (.slice A l.length c)) (below_set (j := 2) (v := (.int .u64 ic)) (below_set (j := 1) (v := (.int .u64 st)) (below_set (j := 0) (v := (.int .i64 k)) HB.out GE3.out) GE3.out) GE3.out) GE3.out) GE3.out
  · have e1 : belowX k st l at_ n = Int.tmod (nextX k st l at_) n := if_neg h1
    have e2 : belowSt k st ic n = nextSt k st ic := if_neg h1
    have e3 : belowAt k l at_ n = nextAt k l at_ := if_neg h1
    rw [e1, e2, e3]
    clear e1 e2 e3
    have hn0 : ¬ n = 0 := by omega
    go_enter Try.func26, Try.ntmps26
    go_wp2_with (first | ((with_reducible refine gate_callee (f := 14) rfl ?_); refine goesL_ (some 13) rfl rfl Try.func14 (by kernel_rfl) rfl #[.agg #[.int .i64 k, .int .u64 st, .int .u64 ic, .slice A l.length c, .int .i64 at_]] rfl (by (try simp only [List.map_toArray, List.map_cons, List.map_nil]); first | done | rfl) ?_; (refine (ref_Next_calls k st ic at_ A c l _ (Kd.C_below HR.out HB.out) HU.out HS.out).mono ?_); rintro e w1 ⟨rfl, hb⟩; refine ⟨_, rfl, ?_⟩; have n1_ := Aside0.mk (below_alloc (below_step HB.out hb) (.cells #[.int .i64 k, .int .u64 (nextSt k st ic), .int .u64 ic, .slice A l.length c, .int .i64 (nextAt k l at_)] 25 (0, 0))); have n2_ := Aside0.mk (blk_alloc (blk_below B3.out hb) (.cells #[.int .i64 k, .int .u64 (nextSt k st ic), .int .u64 ic, .slice A l.length c, .int .i64 (nextAt k l at_)] 25 (0, 0))); have B7 := Aside0.mk (blk_new w1 (.cells #[.int .i64 k, .int .u64 (nextSt k st ic), .int .u64 ic, .slice A l.length c, .int .i64 (nextAt k l at_)] 25 (0, 0))); clear HB B3 B1 hb; have HB := n1_; have B3 := n2_; clear n1_ n2_))
    generalize w1.heap.size = g7 at *
    generalize w1.alloc (.cells #[.int .i64 k, .int .u64 (nextSt k st ic), .int .u64 ic, .slice A l.length c, .int .i64 (nextAt k l at_)] 25 (0, 0)) = W5 at *
    refine start_ (n := 6) (S := fun w' => w'.cell? ⟨g7, 0, none⟩ = some (.int .i64 k) ∧ w'.cell? ⟨g7, 1, none⟩ = some (.int .u64 (nextSt k st ic)) ∧ w'.cell? ⟨g7, 2, none⟩ = some (.int .u64 ic) ∧ w'.cell? ⟨g7, 3, none⟩ = some (.slice A l.length c) ∧ w'.cell? ⟨g7, 4, none⟩ = some (.int .i64 (nextAt k l at_))) (ds := [5]) #[false, false, false, false, false, false] (by kernel_rfl) rfl rfl ⟨(blk_cell B7.out 0).trans rfl, (blk_cell B7.out 1).trans rfl, (blk_cell B7.out 2).trans rfl, (blk_cell B7.out 3).trans rfl, (blk_cell B7.out 4).trans rfl⟩ (fun hHeld => ?_)
    replace B7 := Aside0.mk (blk_drew B7.out)
    replace B3 := Aside0.mk (blk_drew B3.out)
    replace HB := Aside0.mk (below_drew1 HB.out)
    generalize W5.drew = W6 at B7 B3 HB hHeld ⊢
    refine pure_ (i := 0) (N := (some 16)) (v := ?_) (a' := ?_) #[true, false, false, false, false, false] rfl rfl (by kernel_rfl) (fun _ _ _ h => h) (Or.inl ⟨by rfl, ?_⟩) ?_ ?_
    rotate_left
    · intro w'
      go_simp
      with_reducible rfl
    rotate_left
    · simp only [Act.put, List.setIfInBounds_toArray, List.set_cons_zero, List.set_cons_succ, i64_w, i32_w]
      rfl
    refine pure_ (i := 1) (N := (some 17)) (v := ?_) (a' := ?_) #[true, true, false, false, false, false] rfl rfl (by kernel_rfl) (fun _ _ _ h => h) (Or.inl ⟨by rfl, ?_⟩) ?_ ?_
    rotate_left
    · intro w'
      go_simp
      with_reducible rfl
    rotate_left
    · simp only [Act.put, List.setIfInBounds_toArray, List.set_cons_zero, List.set_cons_succ, i64_w, i32_w]
      rfl
    refine pure_ (i := 2) (N := (some 18)) (v := ?_) (a' := ?_) #[true, true, true, false, false, false] rfl rfl (by kernel_rfl) (fun _ _ _ h => h) (Or.inl ⟨by rfl, ?_⟩) ?_ ?_
    rotate_left
    · intro w'
      go_simp
      with_reducible rfl
    rotate_left
    · simp only [Act.put, List.setIfInBounds_toArray, List.set_cons_zero, List.set_cons_succ, i64_w, i32_w]
      rfl
    refine take_ (i := 3) (N := (some 19)) (v := ?_) (a' := ?_) #[true, true, true, true, false, false] rfl rfl (by kernel_rfl) (fun _ _ _ h => h) (Or.inl ⟨by rfl, ?_⟩) hHeld ?_ ?_
    rotate_left
    · rintro w' ⟨s0, s1, s2, s3, s4⟩
      go_simp
      with_reducible rfl
    rotate_left
    · simp only [Act.put, List.setIfInBounds_toArray, List.set_cons_zero, List.set_cons_succ, i64_w, i32_w]
      rfl
    refine pure_ (i := 4) (N := (some 4)) (v := ?_) (a' := ?_) #[true, true, true, true, true, false] rfl rfl (by kernel_rfl) (fun _ _ _ h => h) (Or.inl ⟨by rfl, ?_⟩) ?_ ?_
    rotate_left
    · intro w'
      go_simp
      with_reducible rfl
    rotate_left
    · simp only [Act.put, List.setIfInBounds_toArray, List.set_cons_zero, List.set_cons_succ, i64_w, i32_w]
      rfl
    refine last_ (i := 5) (N := none) #[true, true, true, true, true, true] rfl rfl (by kernel_rfl) (by decide) (fun K hK => ?_)
    have hs0 : W6.cell? ⟨w.heap.size + 1, 0, none⟩ = some (.int .i64 0) := (blk_cell B3.out 0).trans rfl
    have hf0 := blk_frozen B3.out 0
    have hs1 : W6.cell? ⟨w.heap.size + 1, 1, none⟩ = some (.int .u64 0) := (blk_cell B3.out 1).trans rfl
    have hf1 := blk_frozen B3.out 1
    have hs2 : W6.cell? ⟨w.heap.size + 1, 2, none⟩ = some (.int .u64 0) := (blk_cell B3.out 2).trans rfl
    have hf2 := blk_frozen B3.out 2
    have hs3 : W6.cell? ⟨w.heap.size + 1, 3, none⟩ = some (.slice none 0 0) := (blk_cell B3.out 3).trans rfl
    have hf3 := blk_frozen B3.out 3
    have hs4 : W6.cell? ⟨w.heap.size + 1, 4, none⟩ = some (.int .i64 0) := (blk_cell B3.out 4).trans rfl
    have hf4 := blk_frozen B3.out 4
    refine skip_ (w1 := ?_) (by rfl) rfl ?_ ?_
    rotate_left
    · go_simp
      rfl
    refine hK.out _ _ ?_
    clear hK K
    refine done_ (by kernel_rfl) ?_
    try go_wp2
    have q0 := blk_set B3.out 0 (.int .i64 k)
    have q1 := blk_set q0 1 (.int .u64 (nextSt k st ic))
    have q2 := blk_set q1 2 (.int .u64 ic)
    have q3 := blk_set q2 3 (.slice A l.length c)
    have q4 := blk_set q3 4 (.int .i64 (nextAt k l at_))
    (try simp only [Exit.inBlock, Exit.then])
    refine bodyPost_ret (results_list (rs := [.tmp 4, .cell 5 25]) rfl (by simp) (.tmp (.cell (w.heap.size + 1) 25 #[.int .i64 k, .int .u64 (nextSt k st ic), .int .u64 ic, .slice A l.length c, .int .i64 (nextAt k l at_)] (0, 0) _ rfl (q4.trans (by rfl)) Try.underlying25 rfl (by kernel_rfl) .nil))) rfl ⟨rfl, ?_⟩
    exact below_set (j := 4) (v := (.int .i64 (nextAt k l at_))) (below_set (j := 3) (v := (.slice A l.length c)) (below_set (j := 2) (v := (.int .u64 ic)) (below_set (j := 1) (v := (.int .u64 (nextSt k st ic))) (below_set (j := 0) (v := (.int .i64 k)) HB.out GE3.out) GE3.out) GE3.out) GE3.out) GE3.out
set_option maxHeartbeats 4000000 in
set_option maxRecDepth 100000 in
theorem ref_Between_calls (k st ic at_ : Int) (A : Option Addr) (c : Nat) (l : List Int) (lo hi : Int) (w : World) (hr : Kd.C (Kd.int .u64) w A l.length l) (hu : ∀ y ∈ l, 0 ≤ y) (hs : 0 ≤ st ∧ st < 18446744073709551616) : Calls Try.prog 27 #[.agg #[.int .i64 k, .int .u64 st, .int .u64 ic, .slice A l.length c, .int .i64 at_], .int .i64 lo, .int .i64 hi] w fun e w' => e = .returned (.tuple #[.int .i64 (betX k st l at_ lo hi), .agg #[.int .i64 k, .int .u64 (betSt k st ic lo hi), .int .u64 ic, .slice A l.length c, .int .i64 (betAt k l at_ lo hi)]]) ∧ Below w.heap.size w w' := by
  have hu25 := Try.underlying25
  have HR := Aside0.mk hr
  clear hr
  have B1 := Aside0.mk (blk_alloc (blk_new w (.cells #[.int .i64 k, .int .u64 st, .int .u64 ic, .slice A l.length c, .int .i64 at_] 25 (0, 0))) (.cells #[.int .i64 0, .int .u64 0, .int .u64 0, .slice none 0 0, .int .i64 0] 25 (0, 0)))
  have B3 := Aside0.mk (show (((w.alloc (.cells #[.int .i64 k, .int .u64 st, .int .u64 ic, .slice A l.length c, .int .i64 at_] 25 (0, 0))).alloc (.cells #[.int .i64 0, .int .u64 0, .int .u64 0, .slice none 0 0, .int .i64 0] 25 (0, 0))).heap[w.heap.size + 1]? = some (.cells #[.int .i64 0, .int .u64 0, .int .u64 0, .slice none 0 0, .int .i64 0] 25 (0, 0))) by have := blk_new (w.alloc (.cells #[.int .i64 k, .int .u64 st, .int .u64 ic, .slice A l.length c, .int .i64 at_] 25 (0, 0))) (.cells #[.int .i64 0, .int .u64 0, .int .u64 0, .slice none 0 0, .int .i64 0] 25 (0, 0)); rwa [Go.Proofs.YtjiogchafnpkhaaS.size_alloc] at this)
  have HB := Aside0.mk (below_alloc (below_alloc (Below.refl w.heap.size w) (.cells #[.int .i64 k, .int .u64 st, .int .u64 ic, .slice A l.length c, .int .i64 at_] 25 (0, 0))) (.cells #[.int .i64 0, .int .u64 0, .int .u64 0, .slice none 0 0, .int .i64 0] 25 (0, 0)))
  have GE3 : Aside0 (w.heap.size ≤ w.heap.size + 1) := ⟨by omega⟩
  have HU := Aside0.mk hu
  have HS := Aside0.mk hs
  clear hu hs
  by_cases h1 : hi ≤ lo
  · have e1 : betX k st l at_ lo hi = lo := if_pos (.inl h1)
    have e2 : betSt k st ic lo hi = st := if_pos (.inl h1)
    have e3 : betAt k l at_ lo hi = at_ := if_pos (.inl h1)
    rw [e1, e2, e3]
    clear e1 e2 e3
    have c1 : decide (hi ≤ lo) = true := decide_eq_true h1
    go_enter Try.func27, Try.ntmps27
    go_wp2_with fail
    generalize ((w.alloc (.cells #[.int .i64 k, .int .u64 st, .int .u64 ic, .slice A l.length c, .int .i64 at_] 25 (0, 0))).alloc (.cells #[.int .i64 0, .int .u64 0, .int .u64 0, .slice none 0 0, .int .i64 0] 25 (0, 0))) = W0 at *
    refine start_ (n := 4) (S := fun w' => w'.cell? ⟨w.heap.size, 0, none⟩ = some (.int .i64 k) ∧ w'.cell? ⟨w.heap.size, 1, none⟩ = some (.int .u64 st) ∧ w'.cell? ⟨w.heap.size, 2, none⟩ = some (.int .u64 ic) ∧ w'.cell? ⟨w.heap.size, 3, none⟩ = some (.slice A l.length c) ∧ w'.cell? ⟨w.heap.size, 4, none⟩ = some (.int .i64 at_)) (ds := [3]) #[false, false, false, false] (by kernel_rfl) rfl rfl ⟨(blk_cell B1.out 0).trans rfl, (blk_cell B1.out 1).trans rfl, (blk_cell B1.out 2).trans rfl, (blk_cell B1.out 3).trans rfl, (blk_cell B1.out 4).trans rfl⟩ (fun hHeld => ?_)
    replace B1 := Aside0.mk (blk_drew B1.out)
    replace B3 := Aside0.mk (blk_drew B3.out)
    replace HB := Aside0.mk (below_drew1 HB.out)
    generalize W0.drew = W6 at B1 B3 HB hHeld ⊢
    refine pure_ (i := 0) (N := (some 21)) (v := ?_) (a' := ?_) #[true, false, false, false] rfl rfl (by kernel_rfl) (fun _ _ _ h => h) (Or.inl ⟨by rfl, ?_⟩) ?_ ?_
    rotate_left
    · intro w'
      go_simp
      with_reducible rfl
    rotate_left
    · simp only [Act.put, List.setIfInBounds_toArray, List.set_cons_zero, List.set_cons_succ, i64_w, i32_w]
      rfl
    refine take_ (i := 1) (N := (some 22)) (v := ?_) (a' := ?_) #[true, true, false, false] rfl rfl (by kernel_rfl) (fun _ _ _ h => h) (Or.inl ⟨by rfl, ?_⟩) hHeld ?_ ?_
    rotate_left
    · rintro w' ⟨s0, s1, s2, s3, s4⟩
      go_simp
      with_reducible rfl
    rotate_left
    · simp only [Act.put, List.setIfInBounds_toArray, List.set_cons_zero, List.set_cons_succ, i64_w, i32_w]
      rfl
    refine pure_ (i := 2) (N := (some 6)) (v := ?_) (a' := ?_) #[true, true, true, false] rfl rfl (by kernel_rfl) (fun _ _ _ h => h) (Or.inl ⟨by rfl, ?_⟩) ?_ ?_
    rotate_left
    · intro w'
      go_simp
      with_reducible rfl
    rotate_left
    · simp only [Act.put, List.setIfInBounds_toArray, List.set_cons_zero, List.set_cons_succ, i64_w, i32_w]
      rfl
    refine last_ (i := 3) (N := none) #[true, true, true, true] rfl rfl (by kernel_rfl) (by decide) (fun K hK => ?_)
    have hs0 : W6.cell? ⟨w.heap.size + 1, 0, none⟩ = some (.int .i64 0) := (blk_cell B3.out 0).trans rfl
    have hf0 := blk_frozen B3.out 0
    have hs1 : W6.cell? ⟨w.heap.size + 1, 1, none⟩ = some (.int .u64 0) := (blk_cell B3.out 1).trans rfl
    have hf1 := blk_frozen B3.out 1
    have hs2 : W6.cell? ⟨w.heap.size + 1, 2, none⟩ = some (.int .u64 0) := (blk_cell B3.out 2).trans rfl
    have hf2 := blk_frozen B3.out 2
    have hs3 : W6.cell? ⟨w.heap.size + 1, 3, none⟩ = some (.slice none 0 0) := (blk_cell B3.out 3).trans rfl
    have hf3 := blk_frozen B3.out 3
    have hs4 : W6.cell? ⟨w.heap.size + 1, 4, none⟩ = some (.int .i64 0) := (blk_cell B3.out 4).trans rfl
    have hf4 := blk_frozen B3.out 4
    refine skip_ (w1 := ?_) (by rfl) rfl ?_ ?_
    rotate_left
    · go_simp
      rfl
    refine hK.out _ _ ?_
    clear hK K
    refine done_ (by kernel_rfl) ?_
    try go_wp2
    have q0 := blk_set B3.out 0 (.int .i64 k)
    have q1 := blk_set q0 1 (.int .u64 st)
    have q2 := blk_set q1 2 (.int .u64 ic)
    have q3 := blk_set q2 3 (.slice A l.length c)
    have q4 := blk_set q3 4 (.int .i64 at_)
    (try simp only [Exit.inBlock, Exit.then])
    refine bodyPost_ret (results_list (rs := [.tmp 6, .cell 7 25]) rfl (by simp) (.tmp (.cell (w.heap.size + 1) 25 #[.int .i64 k, .int .u64 st, .int .u64 ic, .slice A l.length c, .int .i64 at_] (0, 0) _ rfl (q4.trans (by rfl)) Try.underlying25 rfl (by kernel_rfl) .nil))) rfl ⟨rfl, ?_⟩
    exact below_set (j := 4) (v := (.int .i64 at_)) (below_set (j := 3) (v := (.slice A l.length c)) (below_set (j := 2) (v := (.int .u64 ic)) (below_set (j := 1) (v := (.int .u64 st)) (below_set (j := 0) (v := (.int .i64 k)) HB.out GE3.out) GE3.out) GE3.out) GE3.out) GE3.out
  · have c1 : decide (hi ≤ lo) = false := decide_eq_false h1
    by_cases h2 : 4294967295 ≤ wideU lo hi
    · have e1 : betX k st l at_ lo hi = lo := if_pos (.inr h2)
      have e2 : betSt k st ic lo hi = st := if_pos (.inr h2)
      have e3 : betAt k l at_ lo hi = at_ := if_pos (.inr h2)
      rw [e1, e2, e3]
      clear e1 e2 e3
      unfold wideU at h2
      have c2 : decide (4294967295 ≤ IntKind.u64.wrap (IntKind.u64.wrap hi - IntKind.u64.wrap lo)) = true := decide_eq_true h2
      go_enter Try.func27, Try.ntmps27
      go_wp2_with fail
      generalize ((w.alloc (.cells #[.int .i64 k, .int .u64 st, .int .u64 ic, .slice A l.length c, .int .i64 at_] 25 (0, 0))).alloc (.cells #[.int .i64 0, .int .u64 0, .int .u64 0, .slice none 0 0, .int .i64 0] 25 (0, 0))) = W0 at *
      refine start_ (n := 4) (S := fun w' => w'.cell? ⟨w.heap.size, 0, none⟩ = some (.int .i64 k) ∧ w'.cell? ⟨w.heap.size, 1, none⟩ = some (.int .u64 st) ∧ w'.cell? ⟨w.heap.size, 2, none⟩ = some (.int .u64 ic) ∧ w'.cell? ⟨w.heap.size, 3, none⟩ = some (.slice A l.length c) ∧ w'.cell? ⟨w.heap.size, 4, none⟩ = some (.int .i64 at_)) (ds := [3]) #[false, false, false, false] (by kernel_rfl) rfl rfl ⟨(blk_cell B1.out 0).trans rfl, (blk_cell B1.out 1).trans rfl, (blk_cell B1.out 2).trans rfl, (blk_cell B1.out 3).trans rfl, (blk_cell B1.out 4).trans rfl⟩ (fun hHeld => ?_)
      replace B1 := Aside0.mk (blk_drew B1.out)
      replace B3 := Aside0.mk (blk_drew B3.out)
      replace HB := Aside0.mk (below_drew1 HB.out)
      generalize W0.drew = W6 at B1 B3 HB hHeld ⊢
      refine pure_ (i := 0) (N := (some 21)) (v := ?_) (a' := ?_) #[true, false, false, false] rfl rfl (by kernel_rfl) (fun _ _ _ h => h) (Or.inl ⟨by rfl, ?_⟩) ?_ ?_
      rotate_left
      · intro w'
        go_simp
        with_reducible rfl
      rotate_left
      · simp only [Act.put, List.setIfInBounds_toArray, List.set_cons_zero, List.set_cons_succ, i64_w, i32_w]
        rfl
      refine take_ (i := 1) (N := (some 22)) (v := ?_) (a' := ?_) #[true, true, false, false] rfl rfl (by kernel_rfl) (fun _ _ _ h => h) (Or.inl ⟨by rfl, ?_⟩) hHeld ?_ ?_
      rotate_left
      · rintro w' ⟨s0, s1, s2, s3, s4⟩
        go_simp
        with_reducible rfl
      rotate_left
      · simp only [Act.put, List.setIfInBounds_toArray, List.set_cons_zero, List.set_cons_succ, i64_w, i32_w]
        rfl
      refine pure_ (i := 2) (N := (some 6)) (v := ?_) (a' := ?_) #[true, true, true, false] rfl rfl (by kernel_rfl) (fun _ _ _ h => h) (Or.inl ⟨by rfl, ?_⟩) ?_ ?_
      rotate_left
      · intro w'
        go_simp
        with_reducible rfl
      rotate_left
      · simp only [Act.put, List.setIfInBounds_toArray, List.set_cons_zero, List.set_cons_succ, i64_w, i32_w]
        rfl
      refine last_ (i := 3) (N := none) #[true, true, true, true] rfl rfl (by kernel_rfl) (by decide) (fun K hK => ?_)
      have hs0 : W6.cell? ⟨w.heap.size + 1, 0, none⟩ = some (.int .i64 0) := (blk_cell B3.out 0).trans rfl
      have hf0 := blk_frozen B3.out 0
      have hs1 : W6.cell? ⟨w.heap.size + 1, 1, none⟩ = some (.int .u64 0) := (blk_cell B3.out 1).trans rfl
      have hf1 := blk_frozen B3.out 1
      have hs2 : W6.cell? ⟨w.heap.size + 1, 2, none⟩ = some (.int .u64 0) := (blk_cell B3.out 2).trans rfl
      have hf2 := blk_frozen B3.out 2
      have hs3 : W6.cell? ⟨w.heap.size + 1, 3, none⟩ = some (.slice none 0 0) := (blk_cell B3.out 3).trans rfl
      have hf3 := blk_frozen B3.out 3
      have hs4 : W6.cell? ⟨w.heap.size + 1, 4, none⟩ = some (.int .i64 0) := (blk_cell B3.out 4).trans rfl
      have hf4 := blk_frozen B3.out 4
      refine skip_ (w1 := ?_) (by rfl) rfl ?_ ?_
      rotate_left
      · go_simp
        rfl
      refine hK.out _ _ ?_
      clear hK K
      refine done_ (by kernel_rfl) ?_
      try go_wp2
      have q0 := blk_set B3.out 0 (.int .i64 k)
      have q1 := blk_set q0 1 (.int .u64 st)
      have q2 := blk_set q1 2 (.int .u64 ic)
      have q3 := blk_set q2 3 (.slice A l.length c)
      have q4 := blk_set q3 4 (.int .i64 at_)
      (try simp only [Exit.inBlock, Exit.then])
      refine bodyPost_ret (results_list (rs := [.tmp 6, .cell 7 25]) rfl (by simp) (.tmp (.cell (w.heap.size + 1) 25 #[.int .i64 k, .int .u64 st, .int .u64 ic, .slice A l.length c, .int .i64 at_] (0, 0) _ rfl (q4.trans (by rfl)) Try.underlying25 rfl (by kernel_rfl) .nil))) rfl ⟨rfl, ?_⟩
      exact below_set (j := 4) (v := (.int .i64 at_)) (below_set (j := 3) (v := (.slice A l.length c)) (below_set (j := 2) (v := (.int .u64 ic)) (below_set (j := 1) (v := (.int .u64 st)) (below_set (j := 0) (v := (.int .i64 k)) HB.out GE3.out) GE3.out) GE3.out) GE3.out) GE3.out
    · have e1 : betX k st l at_ lo hi = IntKind.i64.wrap (lo + belowX k st l at_ (betN lo hi)) := if_neg (fun h => h.elim h1 h2)
      have e2 : betSt k st ic lo hi = belowSt k st ic (betN lo hi) := if_neg (fun h => h.elim h1 h2)
      have e3 : betAt k l at_ lo hi = belowAt k l at_ (betN lo hi) := if_neg (fun h => h.elim h1 h2)
      rw [e1, e2, e3]
      clear e1 e2 e3
      unfold wideU at h2
      have c2 : decide (4294967295 ≤ IntKind.u64.wrap (IntKind.u64.wrap hi - IntKind.u64.wrap lo)) = false := decide_eq_false h2
      unfold betN
      obtain ⟨dd, hd⟩ : ∃ dd, IntKind.i64.wrap (hi - lo) = dd := ⟨_, rfl⟩
      rw [hd]
      obtain ⟨m, hm⟩ : ∃ m, IntKind.i64.wrap (dd + 1) = m := ⟨_, rfl⟩
      rw [hm]
      obtain ⟨y, hy⟩ : ∃ y, IntKind.i64.wrap (lo + belowX k st l at_ m) = y := ⟨_, rfl⟩
      rw [hy]
      go_enter Try.func27, Try.ntmps27
      go_wp2_with (first | ((with_reducible refine gate_callee (f := 26) rfl ?_); refine goesL_ (some 29) rfl rfl Try.func26 (by kernel_rfl) rfl #[.agg #[.int .i64 k, .int .u64 st, .int .u64 ic, .slice A l.length c, .int .i64 at_], .int .i64 m] rfl (by (try simp only [List.map_toArray, List.map_cons, List.map_nil]); first | done | rfl) ?_; (refine (ref_Below_calls k st ic at_ A c l m _ (Kd.C_below HR.out HB.out) HU.out HS.out).mono ?_); rintro e w1 ⟨rfl, hb⟩; refine ⟨_, rfl, ?_⟩; have n1_ := Aside0.mk (below_alloc (below_step HB.out hb) (.cells #[.int .i64 k, .int .u64 (belowSt k st ic m), .int .u64 ic, .slice A l.length c, .int .i64 (belowAt k l at_ m)] 25 (0, 0))); have n2_ := Aside0.mk (blk_alloc (blk_below B3.out hb) (.cells #[.int .i64 k, .int .u64 (belowSt k st ic m), .int .u64 ic, .slice A l.length c, .int .i64 (belowAt k l at_ m)] 25 (0, 0))); have B7 := Aside0.mk (blk_new w1 (.cells #[.int .i64 k, .int .u64 (belowSt k st ic m), .int .u64 ic, .slice A l.length c, .int .i64 (belowAt k l at_ m)] 25 (0, 0))); clear HB B3 B1 hb; have HB := n1_; have B3 := n2_; clear n1_ n2_))
      generalize w1.heap.size = g7 at *
      generalize w1.alloc (.cells #[.int .i64 k, .int .u64 (belowSt k st ic m), .int .u64 ic, .slice A l.length c, .int .i64 (belowAt k l at_ m)] 25 (0, 0)) = W5 at *
      refine start_ (n := 6) (S := fun w' => w'.cell? ⟨g7, 0, none⟩ = some (.int .i64 k) ∧ w'.cell? ⟨g7, 1, none⟩ = some (.int .u64 (belowSt k st ic m)) ∧ w'.cell? ⟨g7, 2, none⟩ = some (.int .u64 ic) ∧ w'.cell? ⟨g7, 3, none⟩ = some (.slice A l.length c) ∧ w'.cell? ⟨g7, 4, none⟩ = some (.int .i64 (belowAt k l at_ m))) (ds := [5]) #[false, false, false, false, false, false] (by kernel_rfl) rfl rfl ⟨(blk_cell B7.out 0).trans rfl, (blk_cell B7.out 1).trans rfl, (blk_cell B7.out 2).trans rfl, (blk_cell B7.out 3).trans rfl, (blk_cell B7.out 4).trans rfl⟩ (fun hHeld => ?_)
      replace B7 := Aside0.mk (blk_drew B7.out)
      replace B3 := Aside0.mk (blk_drew B3.out)
      replace HB := Aside0.mk (below_drew1 HB.out)
      generalize W5.drew = W6 at B7 B3 HB hHeld ⊢
      refine pure_ (i := 0) (N := (some 32)) (v := ?_) (a' := ?_) #[true, false, false, false, false, false] rfl rfl (by kernel_rfl) (fun _ _ _ h => h) (Or.inl ⟨by rfl, ?_⟩) ?_ ?_
      rotate_left
      · intro w'
        go_simp
        with_reducible rfl
      rotate_left
      · simp only [Act.put, List.setIfInBounds_toArray, List.set_cons_zero, List.set_cons_succ, i64_w, i32_w]
        rfl
      refine pure_ (i := 1) (N := (some 33)) (v := ?_) (a' := ?_) #[true, true, false, false, false, false] rfl rfl (by kernel_rfl) (fun _ _ _ h => h) (Or.inl ⟨by rfl, ?_⟩) ?_ ?_
      rotate_left
      · intro w'
        go_simp
        with_reducible rfl
      rotate_left
      · simp only [Act.put, List.setIfInBounds_toArray, List.set_cons_zero, List.set_cons_succ, i64_w, i32_w]
        rfl
      refine pure_ (i := 2) (N := (some 34)) (v := ?_) (a' := ?_) #[true, true, true, false, false, false] rfl rfl (by kernel_rfl) (fun _ _ _ h => h) (Or.inl ⟨by rfl, ?_⟩) ?_ ?_
      rotate_left
      · intro w'
        go_simp
        with_reducible rfl
      rotate_left
      · simp only [Act.put, List.setIfInBounds_toArray, List.set_cons_zero, List.set_cons_succ, i64_w, i32_w]
        rfl
      refine take_ (i := 3) (N := (some 35)) (v := ?_) (a' := ?_) #[true, true, true, true, false, false] rfl rfl (by kernel_rfl) (fun _ _ _ h => h) (Or.inl ⟨by rfl, ?_⟩) hHeld ?_ ?_
      rotate_left
      · rintro w' ⟨s0, s1, s2, s3, s4⟩
        go_simp
        with_reducible rfl
      rotate_left
      · simp only [Act.put, List.setIfInBounds_toArray, List.set_cons_zero, List.set_cons_succ, i64_w, i32_w]
        rfl
      refine pure_ (i := 4) (N := (some 6)) (v := ?_) (a' := ?_) #[true, true, true, true, true, false] rfl rfl (by kernel_rfl) (fun _ _ _ h => h) (Or.inl ⟨by rfl, ?_⟩) ?_ ?_
      rotate_left
      · intro w'
        go_simp
        with_reducible rfl
      rotate_left
      · simp only [Act.put, List.setIfInBounds_toArray, List.set_cons_zero, List.set_cons_succ, i64_w, i32_w]
        rfl
      refine last_ (i := 5) (N := none) #[true, true, true, true, true, true] rfl rfl (by kernel_rfl) (by decide) (fun K hK => ?_)
      have hs0 : W6.cell? ⟨w.heap.size + 1, 0, none⟩ = some (.int .i64 0) := (blk_cell B3.out 0).trans rfl
      have hf0 := blk_frozen B3.out 0
      have hs1 : W6.cell? ⟨w.heap.size + 1, 1, none⟩ = some (.int .u64 0) := (blk_cell B3.out 1).trans rfl
      have hf1 := blk_frozen B3.out 1
      have hs2 : W6.cell? ⟨w.heap.size + 1, 2, none⟩ = some (.int .u64 0) := (blk_cell B3.out 2).trans rfl
      have hf2 := blk_frozen B3.out 2
      have hs3 : W6.cell? ⟨w.heap.size + 1, 3, none⟩ = some (.slice none 0 0) := (blk_cell B3.out 3).trans rfl
      have hf3 := blk_frozen B3.out 3
      have hs4 : W6.cell? ⟨w.heap.size + 1, 4, none⟩ = some (.int .i64 0) := (blk_cell B3.out 4).trans rfl
      have hf4 := blk_frozen B3.out 4
      refine skip_ (w1 := ?_) (by rfl) rfl ?_ ?_
      rotate_left
      · go_simp
        rfl
      refine hK.out _ _ ?_
      clear hK K
      refine done_ (by kernel_rfl) ?_
      try go_wp2
      have q0 := blk_set B3.out 0 (.int .i64 k)
      have q1 := blk_set q0 1 (.int .u64 (belowSt k st ic m))
      have q2 := blk_set q1 2 (.int .u64 ic)
      have q3 := blk_set q2 3 (.slice A l.length c)
      have q4 := blk_set q3 4 (.int .i64 (belowAt k l at_ m))
      (try simp only [Exit.inBlock, Exit.then])
      refine bodyPost_ret (results_list (rs := [.tmp 6, .cell 7 25]) rfl (by simp) (.tmp (.cell (w.heap.size + 1) 25 #[.int .i64 k, .int .u64 (belowSt k st ic m), .int .u64 ic, .slice A l.length c, .int .i64 (belowAt k l at_ m)] (0, 0) _ rfl (q4.trans (by rfl)) Try.underlying25 rfl (by kernel_rfl) .nil))) rfl ⟨rfl, ?_⟩
      exact below_set (j := 4) (v := (.int .i64 (belowAt k l at_ m))) (below_set (j := 3) (v := (.slice A l.length c)) (below_set (j := 2) (v := (.int .u64 ic)) (below_set (j := 1) (v := (.int .u64 (belowSt k st ic m))) (below_set (j := 0) (v := (.int .i64 k)) HB.out GE3.out) GE3.out) GE3.out) GE3.out) GE3.out
end
section
open Go.RowKit Go.Proofs.YtjiogchafnpkhaaW.PrintWords Go.Proofs.YtjiogchafnpkhaaW.PrintLast Go.Proofs.YtjiogchafnpkhaaW.PrintMore
attribute [local go_sem] max2_int min2_int max_two min_two max_three min_three max_four min_four
attribute [local go_sem] Go.Proofs.YtjiogchafnpkhaaS.cell_set_map Go.Proofs.YtjiogchafnpkhaaS.setCell_drewN
set_option linter.unusedVariables false
set_option linter.unusedSimpArgs false
set_option maxHeartbeats 4000000 in
set_option maxRecDepth 100000 in
theorem draw_Flip_calls (k st ic at_ : Int) (A : Option Addr) (c : Nat) (l : List Int) (w : World) (hr : Kd.C (Kd.int .u64) w A l.length l) : Calls Try.prog 28 #[.agg #[.int .i64 k, .int .u64 st, .int .u64 ic, .slice A l.length c, .int .i64 at_]] w fun e w' => e = .returned (.tuple #[.bool (decide (2147483648 ≤ (nextX k st l at_))), .agg #[.int .i64 k, .int .u64 (nextSt k st ic), .int .u64 ic, .slice A l.length c, .int .i64 (nextAt k l at_)]]) ∧ Below w.heap.size w w' := by
  have hu25 := Try.underlying25
  have HR := Aside0.mk hr
  clear hr
  have B1 := Aside0.mk (blk_alloc (blk_new w (.cells #[.int .i64 k, .int .u64 st, .int .u64 ic, .slice A l.length c, .int .i64 at_] 25 (0, 0))) (.cells #[.int .i64 0, .int .u64 0, .int .u64 0, .slice none 0 0, .int .i64 0] 25 (0, 0)))
  have B3 := Aside0.mk (show (((w.alloc (.cells #[.int .i64 k, .int .u64 st, .int .u64 ic, .slice A l.length c, .int .i64 at_] 25 (0, 0))).alloc (.cells #[.int .i64 0, .int .u64 0, .int .u64 0, .slice none 0 0, .int .i64 0] 25 (0, 0))).heap[w.heap.size + 1]? = some (.cells #[.int .i64 0, .int .u64 0, .int .u64 0, .slice none 0 0, .int .i64 0] 25 (0, 0))) by have := blk_new (w.alloc (.cells #[.int .i64 k, .int .u64 st, .int .u64 ic, .slice A l.length c, .int .i64 at_] 25 (0, 0))) (.cells #[.int .i64 0, .int .u64 0, .int .u64 0, .slice none 0 0, .int .i64 0] 25 (0, 0)); rwa [Go.Proofs.YtjiogchafnpkhaaS.size_alloc] at this)
  have HB := Aside0.mk (below_alloc (below_alloc (Below.refl w.heap.size w) (.cells #[.int .i64 k, .int .u64 st, .int .u64 ic, .slice A l.length c, .int .i64 at_] 25 (0, 0))) (.cells #[.int .i64 0, .int .u64 0, .int .u64 0, .slice none 0 0, .int .i64 0] 25 (0, 0)))
  have GE3 : Aside0 (w.heap.size ≤ w.heap.size + 1) := ⟨by omega⟩
  obtain ⟨x, hx⟩ : ∃ x, (nextX k st l at_) = x := ⟨_, rfl⟩
  rw [hx]
  replace hx := Aside0.mk hx
  obtain ⟨b, hb9⟩ : ∃ b, decide (2147483648 ≤ x) = b := ⟨_, rfl⟩
  rw [hb9]
  go_enter Try.func28, Try.ntmps28
  go_wp2_with (first | ((with_reducible refine gate_callee (f := 13) rfl ?_); refine goesL_ (some 8) rfl rfl Try.func13 (by kernel_rfl) rfl #[.agg #[.int .i64 k, .int .u64 st, .int .u64 ic, .slice A l.length c, .int .i64 at_]] rfl (by (try simp only [List.map_toArray, List.map_cons, List.map_nil]); first | done | rfl) ?_; (refine (draw_Next_calls k st ic at_ A c l _ (Kd.C_below HR.out HB.out)).mono ?_); rintro e w1 ⟨rfl, hb⟩; rw [hx.out]; refine ⟨_, rfl, ?_⟩; have n1_ := Aside0.mk (below_alloc (below_step HB.out hb) (.cells #[.int .i64 k, .int .u64 (nextSt k st ic), .int .u64 ic, .slice A l.length c, .int .i64 (nextAt k l at_)] 25 (0, 0))); have n2_ := Aside0.mk (blk_alloc (blk_below B3.out hb) (.cells #[.int .i64 k, .int .u64 (nextSt k st ic), .int .u64 ic, .slice A l.length c, .int .i64 (nextAt k l at_)] 25 (0, 0))); have B7 := Aside0.mk (blk_new w1 (.cells #[.int .i64 k, .int .u64 (nextSt k st ic), .int .u64 ic, .slice A l.length c, .int .i64 (nextAt k l at_)] 25 (0, 0))); clear HB B3 B1 hb; have HB := n1_; have B3 := n2_; clear n1_ n2_))
  generalize w1.heap.size = g7 at *
  generalize w1.alloc (.cells #[.int .i64 k, .int .u64 (nextSt k st ic), .int .u64 ic, .slice A l.length c, .int .i64 (nextAt k l at_)] 25 (0, 0)) = W5 at *
  refine start_ (n := 5) (S := fun w' => w'.cell? ⟨g7, 0, none⟩ = some (.int .i64 k) ∧ w'.cell? ⟨g7, 1, none⟩ = some (.int .u64 (nextSt k st ic)) ∧ w'.cell? ⟨g7, 2, none⟩ = some (.int .u64 ic) ∧ w'.cell? ⟨g7, 3, none⟩ = some (.slice A l.length c) ∧ w'.cell? ⟨g7, 4, none⟩ = some (.int .i64 (nextAt k l at_))) (ds := [4]) #[false, false, false, false, false] (by kernel_rfl) rfl rfl ⟨(blk_cell B7.out 0).trans rfl, (blk_cell B7.out 1).trans rfl, (blk_cell B7.out 2).trans rfl, (blk_cell B7.out 3).trans rfl, (blk_cell B7.out 4).trans rfl⟩ (fun hHeld => ?_)
  replace B7 := Aside0.mk (blk_drew B7.out)
  replace B3 := Aside0.mk (blk_drew B3.out)
  replace HB := Aside0.mk (below_drew1 HB.out)
  generalize W5.drew = W6 at B7 B3 HB hHeld ⊢
  refine pure_ (i := 0) (N := (some 11)) (v := ?_) (a' := ?_) #[true, false, false, false, false] rfl rfl (by kernel_rfl) (fun _ _ _ h => h) (Or.inl ⟨by rfl, ?_⟩) ?_ ?_
  rotate_left
  · intro w'
    go_simp
    with_reducible rfl
  rotate_left
  · simp only [Act.put, List.setIfInBounds_toArray, List.set_cons_zero, List.set_cons_succ, i64_w, i32_w]
    rfl
  refine pure_ (i := 1) (N := (some 12)) (v := ?_) (a' := ?_) #[true, true, false, false, false] rfl rfl (by kernel_rfl) (fun _ _ _ h => h) (Or.inl ⟨by rfl, ?_⟩) ?_ ?_
  rotate_left
  · intro w'
    go_simp
    with_reducible rfl
  rotate_left
  · simp only [Act.put, List.setIfInBounds_toArray, List.set_cons_zero, List.set_cons_succ, i64_w, i32_w]
    rfl
  refine take_ (i := 2) (N := (some 13)) (v := ?_) (a' := ?_) #[true, true, true, false, false] rfl rfl (by kernel_rfl) (fun _ _ _ h => h) (Or.inl ⟨by rfl, ?_⟩) hHeld ?_ ?_
  rotate_left
  · rintro w' ⟨s0, s1, s2, s3, s4⟩
    go_simp
    with_reducible rfl
  rotate_left
  · simp only [Act.put, List.setIfInBounds_toArray, List.set_cons_zero, List.set_cons_succ, i64_w, i32_w]
    rfl
  refine pure_ (i := 3) (N := (some 2)) (v := ?_) (a' := ?_) #[true, true, true, true, false] rfl rfl (by kernel_rfl) (fun _ _ _ h => h) (Or.inl ⟨by rfl, ?_⟩) ?_ ?_
  rotate_left
  · intro w'
    go_simp
    with_reducible rfl
  rotate_left
  · simp only [Act.put, List.setIfInBounds_toArray, List.set_cons_zero, List.set_cons_succ, i64_w, i32_w]
    rfl
  refine last_ (i := 4) (N := none) #[true, true, true, true, true] rfl rfl (by kernel_rfl) (by decide) (fun K hK => ?_)
  have hs0 : W6.cell? ⟨w.heap.size + 1, 0, none⟩ = some (.int .i64 0) := (blk_cell B3.out 0).trans rfl
  have hf0 := blk_frozen B3.out 0
  have hs1 : W6.cell? ⟨w.heap.size + 1, 1, none⟩ = some (.int .u64 0) := (blk_cell B3.out 1).trans rfl
  have hf1 := blk_frozen B3.out 1
  have hs2 : W6.cell? ⟨w.heap.size + 1, 2, none⟩ = some (.int .u64 0) := (blk_cell B3.out 2).trans rfl
  have hf2 := blk_frozen B3.out 2
  have hs3 : W6.cell? ⟨w.heap.size + 1, 3, none⟩ = some (.slice none 0 0) := (blk_cell B3.out 3).trans rfl
  have hf3 := blk_frozen B3.out 3
  have hs4 : W6.cell? ⟨w.heap.size + 1, 4, none⟩ = some (.int .i64 0) := (blk_cell B3.out 4).trans rfl
  have hf4 := blk_frozen B3.out 4
  refine skip_ (w1 := ?_) (by rfl) rfl ?_ ?_
  rotate_left
  · go_simp
    rfl
  refine hK.out _ _ ?_
  clear hK K
  refine done_ (by kernel_rfl) ?_
  try go_wp2
  have q0 := blk_set B3.out 0 (.int .i64 k)
  have q1 := blk_set q0 1 (.int .u64 (nextSt k st ic))
  have q2 := blk_set q1 2 (.int .u64 ic)
  have q3 := blk_set q2 3 (.slice A l.length c)
  have q4 := blk_set q3 4 (.int .i64 (nextAt k l at_))
  (try simp only [Exit.inBlock, Exit.then])
  refine bodyPost_ret (results_list (rs := [.tmp 2, .cell 3 25]) rfl (by simp) (.tmp (.cell (w.heap.size + 1) 25 #[.int .i64 k, .int .u64 (nextSt k st ic), .int .u64 ic, .slice A l.length c, .int .i64 (nextAt k l at_)] (0, 0) _ rfl (q4.trans (by rfl)) Try.underlying25 rfl (by kernel_rfl) .nil))) rfl ⟨rfl, ?_⟩
  exact below_set (j := 4) (v := (.int .i64 (nextAt k l at_))) (below_set (j := 3) (v := (.slice A l.length c)) (below_set (j := 2) (v := (.int .u64 ic)) (below_set (j := 1) (v := (.int .u64 (nextSt k st ic))) (below_set (j := 0) (v := (.int .i64 k)) HB.out GE3.out) GE3.out) GE3.out) GE3.out) GE3.out
set_option maxHeartbeats 4000000 in
set_option maxRecDepth 100000 in
theorem ref_Flip_calls (k st ic at_ : Int) (A : Option Addr) (c : Nat) (l : List Int) (w : World) (hr : Kd.C (Kd.int .u64) w A l.length l) (hu : ∀ y ∈ l, 0 ≤ y) (hs : 0 ≤ st ∧ st < 18446744073709551616) : Calls Try.prog 29 #[.agg #[.int .i64 k, .int .u64 st, .int .u64 ic, .slice A l.length c, .int .i64 at_]] w fun e w' => e = .returned (.tuple #[.bool (decide (2147483648 ≤ (nextX k st l at_))), .agg #[.int .i64 k, .int .u64 (nextSt k st ic), .int .u64 ic, .slice A l.length c, .int .i64 (nextAt k l at_)]]) ∧ Below w.heap.size w w' := by
  have hu25 := Try.underlying25
  have HR := Aside0.mk hr
  clear hr
  have B1 := Aside0.mk (blk_alloc (blk_new w (.cells #[.int .i64 k, .int .u64 st, .int .u64 ic, .slice A l.length c, .int .i64 at_] 25 (0, 0))) (.cells #[.int .i64 0, .int .u64 0, .int .u64 0, .slice none 0 0, .int .i64 0] 25 (0, 0)))
  have B3 := Aside0.mk (show (((w.alloc (.cells #[.int .i64 k, .int .u64 st, .int .u64 ic, .slice A l.length c, .int .i64 at_] 25 (0, 0))).alloc (.cells #[.int .i64 0, .int .u64 0, .int .u64 0, .slice none 0 0, .int .i64 0] 25 (0, 0))).heap[w.heap.size + 1]? = some (.cells #[.int .i64 0, .int .u64 0, .int .u64 0, .slice none 0 0, .int .i64 0] 25 (0, 0))) by have := blk_new (w.alloc (.cells #[.int .i64 k, .int .u64 st, .int .u64 ic, .slice A l.length c, .int .i64 at_] 25 (0, 0))) (.cells #[.int .i64 0, .int .u64 0, .int .u64 0, .slice none 0 0, .int .i64 0] 25 (0, 0)); rwa [Go.Proofs.YtjiogchafnpkhaaS.size_alloc] at this)
  have HB := Aside0.mk (below_alloc (below_alloc (Below.refl w.heap.size w) (.cells #[.int .i64 k, .int .u64 st, .int .u64 ic, .slice A l.length c, .int .i64 at_] 25 (0, 0))) (.cells #[.int .i64 0, .int .u64 0, .int .u64 0, .slice none 0 0, .int .i64 0] 25 (0, 0)))
  have GE3 : Aside0 (w.heap.size ≤ w.heap.size + 1) := ⟨by omega⟩
  have HU := Aside0.mk hu
  have HS := Aside0.mk hs
  clear hu hs
  obtain ⟨x, hx⟩ : ∃ x, (nextX k st l at_) = x := ⟨_, rfl⟩
  rw [hx]
  replace hx := Aside0.mk hx
  obtain ⟨b, hb9⟩ : ∃ b, decide (2147483648 ≤ x) = b := ⟨_, rfl⟩
  rw [hb9]
  go_enter Try.func29, Try.ntmps29
  go_wp2_with (first | ((with_reducible refine gate_callee (f := 14) rfl ?_); refine goesL_ (some 8) rfl rfl Try.func14 (by kernel_rfl) rfl #[.agg #[.int .i64 k, .int .u64 st, .int .u64 ic, .slice A l.length c, .int .i64 at_]] rfl (by (try simp only [List.map_toArray, List.map_cons, List.map_nil]); first | done | rfl) ?_; (refine (ref_Next_calls k st ic at_ A c l _ (Kd.C_below HR.out HB.out) HU.out HS.out).mono ?_); rintro e w1 ⟨rfl, hb⟩; rw [hx.out]; refine ⟨_, rfl, ?_⟩; have n1_ := Aside0.mk (below_alloc (below_step HB.out hb) (.cells #[.int .i64 k, .int .u64 (nextSt k st ic), .int .u64 ic, .slice A l.length c, .int .i64 (nextAt k l at_)] 25 (0, 0))); have n2_ := Aside0.mk (blk_alloc (blk_below B3.out hb) (.cells #[.int .i64 k, .int .u64 (nextSt k st ic), .int .u64 ic, .slice A l.length c, .int .i64 (nextAt k l at_)] 25 (0, 0))); have B7 := Aside0.mk (blk_new w1 (.cells #[.int .i64 k, .int .u64 (nextSt k st ic), .int .u64 ic, .slice A l.length c, .int .i64 (nextAt k l at_)] 25 (0, 0))); clear HB B3 B1 hb; have HB := n1_; have B3 := n2_; clear n1_ n2_))
  generalize w1.heap.size = g7 at *
  generalize w1.alloc (.cells #[.int .i64 k, .int .u64 (nextSt k st ic), .int .u64 ic, .slice A l.length c, .int .i64 (nextAt k l at_)] 25 (0, 0)) = W5 at *
  refine start_ (n := 5) (S := fun w' => w'.cell? ⟨g7, 0, none⟩ = some (.int .i64 k) ∧ w'.cell? ⟨g7, 1, none⟩ = some (.int .u64 (nextSt k st ic)) ∧ w'.cell? ⟨g7, 2, none⟩ = some (.int .u64 ic) ∧ w'.cell? ⟨g7, 3, none⟩ = some (.slice A l.length c) ∧ w'.cell? ⟨g7, 4, none⟩ = some (.int .i64 (nextAt k l at_))) (ds := [4]) #[false, false, false, false, false] (by kernel_rfl) rfl rfl ⟨(blk_cell B7.out 0).trans rfl, (blk_cell B7.out 1).trans rfl, (blk_cell B7.out 2).trans rfl, (blk_cell B7.out 3).trans rfl, (blk_cell B7.out 4).trans rfl⟩ (fun hHeld => ?_)
  replace B7 := Aside0.mk (blk_drew B7.out)
  replace B3 := Aside0.mk (blk_drew B3.out)
  replace HB := Aside0.mk (below_drew1 HB.out)
  generalize W5.drew = W6 at B7 B3 HB hHeld ⊢
  refine pure_ (i := 0) (N := (some 11)) (v := ?_) (a' := ?_) #[true, false, false, false, false] rfl rfl (by kernel_rfl) (fun _ _ _ h => h) (Or.inl ⟨by rfl, ?_⟩) ?_ ?_
  rotate_left
  · intro w'
    go_simp
    with_reducible rfl
  rotate_left
  · simp only [Act.put, List.setIfInBounds_toArray, List.set_cons_zero, List.set_cons_succ, i64_w, i32_w]
    rfl
  refine pure_ (i := 1) (N := (some 12)) (v := ?_) (a' := ?_) #[true, true, false, false, false] rfl rfl (by kernel_rfl) (fun _ _ _ h => h) (Or.inl ⟨by rfl, ?_⟩) ?_ ?_
  rotate_left
  · intro w'
    go_simp
    with_reducible rfl
  rotate_left
  · simp only [Act.put, List.setIfInBounds_toArray, List.set_cons_zero, List.set_cons_succ, i64_w, i32_w]
    rfl
  refine take_ (i := 2) (N := (some 13)) (v := ?_) (a' := ?_) #[true, true, true, false, false] rfl rfl (by kernel_rfl) (fun _ _ _ h => h) (Or.inl ⟨by rfl, ?_⟩) hHeld ?_ ?_
  rotate_left
  · rintro w' ⟨s0, s1, s2, s3, s4⟩
    go_simp
    with_reducible rfl
  rotate_left
  · simp only [Act.put, List.setIfInBounds_toArray, List.set_cons_zero, List.set_cons_succ, i64_w, i32_w]
    rfl
  refine pure_ (i := 3) (N := (some 2)) (v := ?_) (a' := ?_) #[true, true, true, true, false] rfl rfl (by kernel_rfl) (fun _ _ _ h => h) (Or.inl ⟨by rfl, ?_⟩) ?_ ?_
  rotate_left
  · intro w'
    go_simp
    with_reducible rfl
  rotate_left
  · simp only [Act.put, List.setIfInBounds_toArray, List.set_cons_zero, List.set_cons_succ, i64_w, i32_w]
    rfl
  refine last_ (i := 4) (N := none) #[true, true, true, true, true] rfl rfl (by kernel_rfl) (by decide) (fun K hK => ?_)
  have hs0 : W6.cell? ⟨w.heap.size + 1, 0, none⟩ = some (.int .i64 0) := (blk_cell B3.out 0).trans rfl
  have hf0 := blk_frozen B3.out 0
  have hs1 : W6.cell? ⟨w.heap.size + 1, 1, none⟩ = some (.int .u64 0) := (blk_cell B3.out 1).trans rfl
  have hf1 := blk_frozen B3.out 1
  have hs2 : W6.cell? ⟨w.heap.size + 1, 2, none⟩ = some (.int .u64 0) := (blk_cell B3.out 2).trans rfl
  have hf2 := blk_frozen B3.out 2
  have hs3 : W6.cell? ⟨w.heap.size + 1, 3, none⟩ = some (.slice none 0 0) := (blk_cell B3.out 3).trans rfl
  have hf3 := blk_frozen B3.out 3
  have hs4 : W6.cell? ⟨w.heap.size + 1, 4, none⟩ = some (.int .i64 0) := (blk_cell B3.out 4).trans rfl
  have hf4 := blk_frozen B3.out 4
  refine skip_ (w1 := ?_) (by rfl) rfl ?_ ?_
  rotate_left
  · go_simp
    rfl
  refine hK.out _ _ ?_
  clear hK K
  refine done_ (by kernel_rfl) ?_
  try go_wp2
  have q0 := blk_set B3.out 0 (.int .i64 k)
  have q1 := blk_set q0 1 (.int .u64 (nextSt k st ic))
  have q2 := blk_set q1 2 (.int .u64 ic)
  have q3 := blk_set q2 3 (.slice A l.length c)
  have q4 := blk_set q3 4 (.int .i64 (nextAt k l at_))
  (try simp only [Exit.inBlock, Exit.then])
  refine bodyPost_ret (results_list (rs := [.tmp 2, .cell 3 25]) rfl (by simp) (.tmp (.cell (w.heap.size + 1) 25 #[.int .i64 k, .int .u64 (nextSt k st ic), .int .u64 ic, .slice A l.length c, .int .i64 (nextAt k l at_)] (0, 0) _ rfl (q4.trans (by rfl)) Try.underlying25 rfl (by kernel_rfl) .nil))) rfl ⟨rfl, ?_⟩
  exact below_set (j := 4) (v := (.int .i64 (nextAt k l at_))) (below_set (j := 3) (v := (.slice A l.length c)) (below_set (j := 2) (v := (.int .u64 ic)) (below_set (j := 1) (v := (.int .u64 (nextSt k st ic))) (below_set (j := 0) (v := (.int .i64 k)) HB.out GE3.out) GE3.out) GE3.out) GE3.out) GE3.out
end
section
open Go.RowKit Go.Proofs.YtjiogchafnpkhaaW.PrintWords Go.Proofs.YtjiogchafnpkhaaW.PrintLast Go.Proofs.YtjiogchafnpkhaaW.PrintMore
attribute [local go_sem] max2_int min2_int max_two min_two max_three min_three max_four min_four
attribute [local go_sem] Go.Proofs.YtjiogchafnpkhaaS.cell_set_map Go.Proofs.YtjiogchafnpkhaaS.setCell_drewN
set_option linter.unusedVariables false
set_option linter.unusedSimpArgs false
theorem or_one (a : Int) (h0 : 0 ≤ a) (h1 : a < 18446744073709551616) (h2 : a % 2 = 0) : bits .or .u64 a 1 = a + 1 := by
  rw [u64_or a 1 h0 h1 (by omega) (by omega)]
  obtain ⟨b, rfl⟩ : ∃ b : Nat, a = 2 * (b : Int) := ⟨(a / 2).toNat, by omega⟩
  have e1 : (2 * (b : Int)).toNat = b <<< 1 := by rw [Nat.shiftLeft_eq]; omega
  have e2 : b <<< 1 + 1 = b <<< 1 ||| 1 := Nat.shiftLeft_add_eq_or_of_lt (by decide) b
  rw [e1]
  show ((b <<< 1 ||| 1 : Nat) : Int) = _
  rw [← e2, Nat.shiftLeft_eq]
  omega
theorem pcgInc_ref (stream : Int) : IntKind.u64.wrap (IntKind.u64.wrap (2 * stream) + 1) = pcgInc stream := by
  unfold pcgInc
  rw [Int.mul_comm 2 stream, u64_w, u64_w]
  rw [or_one _ (by omega) (by omega) (by omega)]
  omega
theorem step0 (st ic : Int) (w : World) : Calls Try.prog 42 #[.agg #[.int .i64 1, .int .u64 st, .int .u64 ic, .slice none 0 0, .int .i64 0]] w fun e w' => e = .returned (.agg #[.int .i64 1, .int .u64 (pcgSt st ic), .int .u64 ic, .slice none 0 0, .int .i64 0]) ∧ Below w.heap.size w w' := ref_step_calls 1 st ic 0 none 0 [] w
set_option maxHeartbeats 4000000 in
set_option maxRecDepth 100000 in
theorem ref_Pcg_calls (seed stream : Int) (w : World) : Calls Try.prog 18 #[.int .u64 seed, .int .u64 stream] w fun e w' => e = .returned (.agg #[.int .i64 1, .int .u64 (pcgNew seed (pcgInc stream)), .int .u64 (pcgInc stream), .slice none 0 0, .int .i64 0]) ∧ Below w.heap.size w w' := by
  have hu25 := Try.underlying25
  have hic := pcgInc_ref stream
  unfold pcgNew
  generalize pcgInc stream = ic at *
  obtain ⟨t1, ht1⟩ : ∃ t1, IntKind.u64.wrap (pcgSt 0 ic + seed) = t1 := ⟨_, rfl⟩
  rw [ht1]
  have B4 := Aside0.mk (blk_alloc (blk_new w (.cells #[.int .i64 0, .int .u64 0, .int .u64 0, .slice none 0 0, .int .i64 0] 25 (0, 0))) (.cells #[.int .i64 1, .int .u64 0, .int .u64 ic, .slice none 0 0, .int .i64 0] 25 (0, 0)))
  have B5 := Aside0.mk (show ((w.alloc (.cells #[.int .i64 0, .int .u64 0, .int .u64 0, .slice none 0 0, .int .i64 0] 25 (0, 0))).alloc (.cells #[.int .i64 1, .int .u64 0, .int .u64 ic, .slice none 0 0, .int .i64 0] 25 (0, 0))).heap[w.heap.size + 1]? = some (.cells #[.int .i64 1, .int .u64 0, .int .u64 ic, .slice none 0 0, .int .i64 0] 25 (0, 0)) by have := blk_new (w.alloc (.cells #[.int .i64 0, .int .u64 0, .int .u64 0, .slice none 0 0, .int .i64 0] 25 (0, 0))) (.cells #[.int .i64 1, .int .u64 0, .int .u64 ic, .slice none 0 0, .int .i64 0] 25 (0, 0)); rwa [Go.Proofs.YtjiogchafnpkhaaS.size_alloc] at this)
  have HB := Aside0.mk (below_alloc (below_alloc (Below.refl w.heap.size w) (.cells #[.int .i64 0, .int .u64 0, .int .u64 0, .slice none 0 0, .int .i64 0] 25 (0, 0))) (.cells #[.int .i64 1, .int .u64 0, .int .u64 ic, .slice none 0 0, .int .i64 0] 25 (0, 0)))
  have GE5 : Aside0 (w.heap.size ≤ w.heap.size + 1) := ⟨by omega⟩
  have NE : Aside0 (w.heap.size ≠ w.heap.size + 1) := ⟨by omega⟩
  go_enter Try.func18, Try.ntmps18
  go_wp2_with (first | ((with_reducible refine gate_callee (f := 42) rfl ?_); refine goesL_ (some 11) rfl rfl Try.func42 (by kernel_rfl) rfl #[.agg #[.int .i64 1, .int .u64 0, .int .u64 ic, .slice none 0 0, .int .i64 0]] rfl (by (try simp only [List.map_toArray, List.map_cons, List.map_nil]); first | done | rfl) ?_; (refine (step0 0 ic _).mono ?_); rintro e w1 ⟨rfl, hb⟩; refine ⟨_, rfl, ?_⟩; have n1_ := Aside0.mk (below_step HB.out hb); have n2_ := Aside0.mk (blk_below B5.out hb); have n3_ := Aside0.mk (blk_below B4.out hb); clear HB B5 B4 hb; have HB := n1_; have B5 := n2_; have B4 := n3_; clear n1_ n2_ n3_; have ha0 : w1.cell? ⟨w.heap.size + 1, 0, none⟩ = some (.int .i64 1) := (blk_cell B5.out 0).trans rfl; have fa0 := blk_frozen B5.out 0; have ha1 : w1.cell? ⟨w.heap.size + 1, 1, none⟩ = some (.int .u64 0) := (blk_cell B5.out 1).trans rfl; have fa1 := blk_frozen B5.out 1; have ha2 : w1.cell? ⟨w.heap.size + 1, 2, none⟩ = some (.int .u64 ic) := (blk_cell B5.out 2).trans rfl; have fa2 := blk_frozen B5.out 2; have ha3 : w1.cell? ⟨w.heap.size + 1, 3, none⟩ = some (.slice none 0 0) := (blk_cell B5.out 3).trans rfl; have fa3 := blk_frozen B5.out 3; have ha4 : w1.cell? ⟨w.heap.size + 1, 4, none⟩ = some (.int .i64 0) := (blk_cell B5.out 4).trans rfl; have fa4 := blk_frozen B5.out 4) | ((with_reducible refine gate_callee (f := 42) rfl ?_); clear ha0 fa0 ha1 fa1 ha2 fa2 ha3 fa3 ha4 fa4; refine goesL_ (some 18) rfl rfl Try.func42 (by kernel_rfl) rfl #[.agg #[.int .i64 1, .int .u64 t1, .int .u64 ic, .slice none 0 0, .int .i64 0]] rfl (by (try simp only [List.map_toArray, List.map_cons, List.map_nil]); first | done | rfl) ?_; (refine (step0 t1 ic _).mono ?_); rintro e w2 ⟨rfl, hb⟩; refine ⟨_, rfl, ?_⟩; have n1_ := Aside0.mk (below_step (below_set (j := 1) (v := (.int .u64 t1)) (below_set (j := 4) (v := (.int .i64 0)) (below_set (j := 3) (v := (.slice none 0 0)) (below_set (j := 2) (v := (.int .u64 ic)) (below_set (j := 1) (v := (.int .u64 (pcgSt 0 ic))) (below_set (j := 0) (v := (.int .i64 1)) HB.out GE5.out) GE5.out) GE5.out) GE5.out) GE5.out) GE5.out) hb); have n3_ := Aside0.mk (blk_below (blk_far (blk_far (blk_far (blk_far (blk_far (blk_far B4.out (p := ⟨w.heap.size + 1, 0, none⟩) NE.out (.int .i64 1)) (p := ⟨w.heap.size + 1, 1, none⟩) NE.out (.int .u64 (pcgSt 0 ic))) (p := ⟨w.heap.size + 1, 2, none⟩) NE.out (.int .u64 ic)) (p := ⟨w.heap.size + 1, 3, none⟩) NE.out (.slice none 0 0)) (p := ⟨w.heap.size + 1, 4, none⟩) NE.out (.int .i64 0)) (p := ⟨w.heap.size + 1, 1, none⟩) NE.out (.int .u64 t1)) hb); clear HB B5 B4 hb; have HB := n1_; have B4 := n3_; clear n1_ n3_; have hc0 : w2.cell? ⟨w.heap.size, 0, none⟩ = some (.int .i64 0) := (blk_cell B4.out 0).trans rfl; have fc0 := blk_frozen B4.out 0; have hc1 : w2.cell? ⟨w.heap.size, 1, none⟩ = some (.int .u64 0) := (blk_cell B4.out 1).trans rfl; have fc1 := blk_frozen B4.out 1; have hc2 : w2.cell? ⟨w.heap.size, 2, none⟩ = some (.int .u64 0) := (blk_cell B4.out 2).trans rfl; have fc2 := blk_frozen B4.out 2; have hc3 : w2.cell? ⟨w.heap.size, 3, none⟩ = some (.slice none 0 0) := (blk_cell B4.out 3).trans rfl; have fc3 := blk_frozen B4.out 3; have hc4 : w2.cell? ⟨w.heap.size, 4, none⟩ = some (.int .i64 0) := (blk_cell B4.out 4).trans rfl; have fc4 := blk_frozen B4.out 4))
  have b4 := (blk_set (blk_set (blk_set (blk_set (blk_set B4.out 0 (.int .i64 1)) 1 (.int .u64 (pcgSt t1 ic))) 2 (.int .u64 ic)) 3 (.slice none 0 0)) 4 (.int .i64 0))
  (try simp only [Exit.inBlock, Exit.then])
  refine bodyPost_ret (results_cell_row rfl _ _ w.heap.size 25 #[.int .i64 1, .int .u64 (pcgSt t1 ic), .int .u64 ic, .slice none 0 0, .int .i64 0] (0, 0) _ rfl (b4.trans (by rfl)) Try.underlying25 rfl (by kernel_rfl)) rfl ⟨rfl, ?_⟩
  exact (below_set (j := 4) (v := (.int .i64 0)) (below_set (j := 3) (v := (.slice none 0 0)) (below_set (j := 2) (v := (.int .u64 ic)) (below_set (j := 1) (v := (.int .u64 (pcgSt t1 ic))) (below_set (j := 0) (v := (.int .i64 1)) HB.out (Nat.le_refl _)) (Nat.le_refl _)) (Nat.le_refl _)) (Nat.le_refl _)) (Nat.le_refl _))
set_option maxHeartbeats 2000000 in
theorem ref_Tape_calls (A : Option Addr) (c : Nat) (l : List Int) (w : World) : Calls Try.prog 20 #[.slice A l.length c] w fun e w' => e = .returned (.agg #[.int .i64 2, .int .u64 0, .int .u64 0, .slice A l.length c, .int .i64 0]) ∧ Below w.heap.size w w' := by
  have hu25 := Try.underlying25
  have hu23 := Try.underlying23
  go_enter Try.func20, Try.ntmps20
  go_wp2
  (try simp only [Exit.inBlock, Exit.then])
  refine bodyPost_ret (results_cell_row rfl _ _ w.heap.size 25 _ (0, 0) _ rfl (blk_new w _) Try.underlying25 rfl (by kernel_rfl)) rfl ⟨rfl, below_alloc (Below.refl _ _) _⟩
end
section
open Go.RowKit Go.Proofs.YtjiogchafnpkhaaW.PrintWords Go.Proofs.YtjiogchafnpkhaaW.PrintLast Go.Proofs.YtjiogchafnpkhaaW.PrintMore
attribute [local go_sem] max2_int min2_int max_two min_two max_three min_three max_four min_four
attribute [local go_sem] Go.Proofs.YtjiogchafnpkhaaS.cell_set_map Go.Proofs.YtjiogchafnpkhaaS.setCell_drewN
set_option linter.unusedVariables false
set_option linter.unusedSimpArgs false
theorem stI_range (k ic st : Int) (h : 0 ≤ st ∧ st < 18446744073709551616) : ∀ i, 0 ≤ stI k ic st i ∧ stI k ic st i < 18446744073709551616
  | 0 => h
  | i + 1 => by
    show 0 ≤ nextSt k (stI k ic st i) ic ∧ _
    have := stI_range k ic st h i
    show 0 ≤ nextSt k (stI k ic st i) ic ∧ nextSt k (stI k ic st i) ic < 18446744073709551616
    unfold nextSt pcgSt
    split
    · rw [u64_w (_ + ic)]
      omega
    · exact this
set_option maxHeartbeats 8000000 in
set_option maxRecDepth 100000 in
theorem ref_Many_calls (k st ic at_ : Int) (A : Option Addr) (c : Nat) (l : List Int) (n : Int) (w : World) (hr : Kd.C (Kd.int .u64) w A l.length l) (hu : ∀ y ∈ l, 0 ≤ y) (hs : 0 ≤ st ∧ st < 18446744073709551616) (m : Nat) (hm : mx 0 (mn n 1000) = (m : Int)) : Calls Try.prog 25 #[.agg #[.int .i64 k, .int .u64 st, .int .u64 ic, .slice A l.length c, .int .i64 at_], .int .i64 n] w fun e w' => ∃ v0_ : Value, e = .returned (.tuple #[v0_, .agg #[.int .i64 k, .int .u64 (stI k ic st m), .int .u64 ic, .slice A l.length c, .int .i64 (atI k l at_ m)]]) ∧ Kd.R (Kd.int .i64) 3 w' w.heap.size (fun _ => True) v0_ (outI k ic st l at_ m) ∧ Below w.heap.size w w' := by
  have hu25 := Try.underlying25
  have HR := Aside0.mk hr
  clear hr
  have B2 := Aside0.mk (blk_alloc (blk_new w (.cells #[.int .i64 k, .int .u64 st, .int .u64 ic, .slice A l.length c, .int .i64 at_] 25 (0, 0))) (.cells #[.int .i64 0, .int .u64 0, .int .u64 0, .slice none 0 0, .int .i64 0] 25 (0, 0)))
  have B5 := Aside0.mk (show (((w.alloc (.cells #[.int .i64 k, .int .u64 st, .int .u64 ic, .slice A l.length c, .int .i64 at_] 25 (0, 0))).alloc (.cells #[.int .i64 0, .int .u64 0, .int .u64 0, .slice none 0 0, .int .i64 0] 25 (0, 0))).heap[w.heap.size + 1]? = some (.cells #[.int .i64 0, .int .u64 0, .int .u64 0, .slice none 0 0, .int .i64 0] 25 (0, 0))) by have := blk_new (w.alloc (.cells #[.int .i64 k, .int .u64 st, .int .u64 ic, .slice A l.length c, .int .i64 at_] 25 (0, 0))) (.cells #[.int .i64 0, .int .u64 0, .int .u64 0, .slice none 0 0, .int .i64 0] 25 (0, 0)); rwa [Go.Proofs.YtjiogchafnpkhaaS.size_alloc] at this)
  have HB := Aside0.mk (below_alloc (below_alloc (Below.refl w.heap.size w) (.cells #[.int .i64 k, .int .u64 st, .int .u64 ic, .slice A l.length c, .int .i64 at_] 25 (0, 0))) (.cells #[.int .i64 0, .int .u64 0, .int .u64 0, .slice none 0 0, .int .i64 0] 25 (0, 0)))
  have GE5 : Aside0 (w.heap.size ≤ w.heap.size + 1) := ⟨by omega⟩
  have HU := Aside0.mk hu
  have HSI := Aside0.mk (stI_range k ic st hs)
  clear hu hs
  have NE : Aside0 (w.heap.size + 1 ≠ w.heap.size) := ⟨by omega⟩
  have hE : ∀ q, q ∈ 3 :: (Kd.int .i64).E → q ≠ 25 := by
    intro q hq
    have : q = 3 := by simpa [Kd.int, Kd.scalar] using hq
    omega
  have hm1 : m ≤ 1000 := by unfold mx mn at hm; (repeat' split at hm) <;> omega
  have hmn : ∀ i : Nat, i ≤ m → ((i : Int) < n ∧ (i : Int) < 1000 ∧ i < m) ∨ (¬ ((i : Int) < n ∧ (i : Int) < 1000) ∧ i = m) := by
    intro i hi
    unfold mx mn at hm
    (repeat' split at hm) <;> omega
  replace hmn := Aside0.mk hmn
  clear hm
  go_enter Try.func25, Try.ntmps25
  go_wp2
  go_loopw [6, 7] (fun v6 v11 wr => ∃ i : Nat, i ≤ m ∧ v11 = .int .i64 i ∧ Aside0 (wr.heap[w.heap.size]? = some (.cells #[.int .i64 k, .int .u64 (stI k ic st i), .int .u64 ic, .slice A l.length c, .int .i64 (atI k l at_ i)] 25 (0, 0))) ∧ Aside0 (wr.heap[w.heap.size + 1]? = some (.cells #[.int .i64 0, .int .u64 0, .int .u64 0, .slice none 0 0, .int .i64 0] 25 (0, 0))) ∧ Aside0 (Kd.R (Kd.int .i64) 3 wr w.heap.size (fun k_ => k_ ≠ w.heap.size ∧ k_ ≠ w.heap.size + 1) v6 (outI k ic st l at_ i)) ∧ Aside0 (Below w.heap.size w wr)) (fun _ v11 _ => m - (intOf v11).toNat)
  case atStart => exact ⟨0, Nat.zero_le _, rfl, B2, B5, ⟨Kd.R_nil _ _ _ _ _⟩, HB⟩
  case round =>
    clear B2 B5 HB
    obtain ⟨i, hi, rfl, B2, B5, HO, HB⟩ := hrel
    rcases hmn.out i hi with ⟨hq, hq2, hlt⟩ | ⟨hq, hlt⟩
    · have HS0 := Aside0.mk (HSI.out i)
      obtain ⟨x, hx⟩ : ∃ x, nextX k (stI k ic st i) l (atI k l at_ i) = x := ⟨_, rfl⟩
      have HU2 : Aside0 (outI k ic st l at_ (i + 1) = outI k ic st l at_ i ++ [x]) := ⟨by rw [outI_succ, hx]⟩
      have hs : nextSt k (stI k ic st i) ic = stI k ic st (i + 1) := rfl
      have ha : nextAt k l (atI k l at_ i) = atI k l at_ (i + 1) := rfl
      obtain ⟨st1, hst1⟩ : ∃ z, stI k ic st (i + 1) = z := ⟨_, rfl⟩
      obtain ⟨at1, hat1⟩ : ∃ z, atI k l at_ (i + 1) = z := ⟨_, rfl⟩
      rw [hst1] at hs
      rw [hat1] at ha
      generalize stI k ic st i = st0 at *
      generalize atI k l at_ i = at0 at *
      have HX := Aside0.mk hx
      have HS := Aside0.mk hs
      have HA := Aside0.mk ha
      have HST1 := Aside0.mk hst1
      have HAT1 := Aside0.mk hat1
      clear hs ha hst1 hat1
      have LEN : Aside0 ((outI k ic st l at_ i).length ≤ 1000) := ⟨by rw [outI_length]; omega⟩
      clear hx
      have ha0 : wr.cell? ⟨w.heap.size, 0, none⟩ = some (.int .i64 k) := (blk_cell B2.out 0).trans rfl
      have fa0 := blk_frozen B2.out 0
      have ha1 : wr.cell? ⟨w.heap.size, 1, none⟩ = some (.int .u64 st0) := (blk_cell B2.out 1).trans rfl
      have fa1 := blk_frozen B2.out 1
      have ha2 : wr.cell? ⟨w.heap.size, 2, none⟩ = some (.int .u64 ic) := (blk_cell B2.out 2).trans rfl
      have fa2 := blk_frozen B2.out 2
      have ha3 : wr.cell? ⟨w.heap.size, 3, none⟩ = some (.slice A l.length c) := (blk_cell B2.out 3).trans rfl
      have fa3 := blk_frozen B2.out 3
      have ha4 : wr.cell? ⟨w.heap.size, 4, none⟩ = some (.int .i64 at0) := (blk_cell B2.out 4).trans rfl
      have fa4 := blk_frozen B2.out 4
      go_wp2_with (first | ((with_reducible refine gate_callee (f := 14) rfl ?_); refine goesL_ (some 21) rfl rfl Try.func14 (by kernel_rfl) rfl #[.agg #[.int .i64 k, .int .u64 st0, .int .u64 ic, .slice A l.length c, .int .i64 at0]] rfl (by (try simp only [List.map_toArray, List.map_cons, List.map_nil]); first | done | rfl) ?_; (refine (ref_Next_calls k st0 ic at0 A c l _ (Kd.C_below HR.out HB.out) HU.out HS0.out).mono ?_); rintro e w1 ⟨rfl, hb⟩; rw [HX.out, HS.out, HA.out]; refine ⟨_, rfl, ?_⟩; have n1_ := Aside0.mk (below_step HB.out hb); have n2_ := Aside0.mk (blk_below B2.out hb); have n3_ := Aside0.mk (blk_below B5.out hb); have n4_ := Aside0.mk (Kd.R_below HO.out hb); clear HB B2 B5 HO hb; clear ha0 fa0 ha1 fa1 ha2 fa2 ha3 fa3 ha4 fa4; have HO : Aside0 (Kd.R (Kd.int .i64) 3 ((w1.alloc (.cells #[.int .i64 k, .int .u64 st1, .int .u64 ic, .slice A l.length c, .int .i64 at1] 25 (0, 0))).alloc (.cells #[.int .i64 x] 3 (0, 0))) w.heap.size (fun k_ => k_ ≠ w.heap.size ∧ k_ ≠ w.heap.size + 1) u6 (outI k ic st l at_ i)) := ⟨Kd.R_alloc (Kd.R_alloc n4_.out (.cells #[.int .i64 k, .int .u64 st1, .int .u64 ic, .slice A l.length c, .int .i64 at1] 25 (0, 0))) (.cells #[.int .i64 x] 3 (0, 0))⟩; have B5 := Aside0.mk (blk_alloc (blk_alloc n3_.out (.cells #[.int .i64 k, .int .u64 st1, .int .u64 ic, .slice A l.length c, .int .i64 at1] 25 (0, 0))) (.cells #[.int .i64 x] 3 (0, 0))); have B2 := Aside0.mk (blk_alloc (blk_alloc n2_.out (.cells #[.int .i64 k, .int .u64 st1, .int .u64 ic, .slice A l.length c, .int .i64 at1] 25 (0, 0))) (.cells #[.int .i64 x] 3 (0, 0))); have HB := Aside0.mk (below_alloc (below_alloc n1_.out (.cells #[.int .i64 k, .int .u64 st1, .int .u64 ic, .slice A l.length c, .int .i64 at1] 25 (0, 0))) (.cells #[.int .i64 x] 3 (0, 0))); have B9 := Aside0.mk (blk_alloc (blk_new w1 (.cells #[.int .i64 k, .int .u64 st1, .int .u64 ic, .slice A l.length c, .int .i64 at1] 25 (0, 0))) (.cells #[.int .i64 x] 3 (0, 0))); have BN : Aside0 (((w1.alloc (.cells #[.int .i64 k, .int .u64 st1, .int .u64 ic, .slice A l.length c, .int .i64 at1] 25 (0, 0))).alloc (.cells #[.int .i64 x] 3 (0, 0))).heap[w1.heap.size + 1]? = some (.cells #[.int .i64 x] 3 (0, 0))) := ⟨by have h_ := blk_new (w1.alloc (.cells #[.int .i64 k, .int .u64 st1, .int .u64 ic, .slice A l.length c, .int .i64 at1] 25 (0, 0))) (.cells #[.int .i64 x] 3 (0, 0)); rwa [Go.Proofs.YtjiogchafnpkhaaS.size_alloc] at h_⟩; clear n1_ n2_ n3_ n4_) | ((with_reducible refine gate_builtin (b := .append) (xs := #[.tmp 24, .tmp 26]) rfl ?_); at_builtin; refine Kd.R_append_rows (Kd.int .i64) (w0 := w) w.heap.size (by rfl) (.tmp 24) (.tmp 26) 34 3 (.int .i64 0) 8 rfl Try.underlying34 info3 rfl (by decide) (by omega) u6 (outI k ic st l at_ i) [x] _ _ _ (fun k_ => k_ ≠ w.heap.size ∧ k_ ≠ w.heap.size + 1) (fun _ => False) rfl rfl HO.out (reads_blk1 BN.out) (fun _ _ h => h) (fun _ h => h.elim) (fun k_ hk => by have h1 := blk_lt B2.out; have h2 := blk_lt B5.out; exact ⟨by omega, by omega⟩) HB.out (below_size HB.out) (by have := LEN.out; simp; omega) ?_; intro v1 w3 ho hb hgr hat; have n2_ := Aside0.mk (blk_grown B2.out hgr (Kd.R_ne HO.out B2.out (by decide))); have n3_ := Aside0.mk (blk_grown B5.out hgr (Kd.R_ne HO.out B5.out (by decide))); have n4_ := Aside0.mk (blk_grown B9.out hgr (Kd.R_ne HO.out B9.out (by decide))); clear HO HB B2 B5 BN B9 hgr hat; have HO := Aside0.mk ho; have HB := Aside0.mk hb; have B2 := n2_; have B5 := n3_; have B9 := n4_; clear ho hb n2_ n3_ n4_; have ha0 : w3.cell? ⟨w.heap.size, 0, none⟩ = some (.int .i64 k) := (blk_cell B2.out 0).trans rfl; have fa0 := blk_frozen B2.out 0; have ha1 : w3.cell? ⟨w.heap.size, 1, none⟩ = some (.int .u64 st0) := (blk_cell B2.out 1).trans rfl; have fa1 := blk_frozen B2.out 1; have ha2 : w3.cell? ⟨w.heap.size, 2, none⟩ = some (.int .u64 ic) := (blk_cell B2.out 2).trans rfl; have fa2 := blk_frozen B2.out 2; have ha3 : w3.cell? ⟨w.heap.size, 3, none⟩ = some (.slice A l.length c) := (blk_cell B2.out 3).trans rfl; have fa3 := blk_frozen B2.out 3; have ha4 : w3.cell? ⟨w.heap.size, 4, none⟩ = some (.int .i64 at0) := (blk_cell B2.out 4).trans rfl; have fa4 := blk_frozen B2.out 4; have hb0 : w3.cell? ⟨w1.heap.size, 0, none⟩ = some (.int .i64 k) := (blk_cell B9.out 0).trans rfl; have fb0 := blk_frozen B9.out 0; have hb1 : w3.cell? ⟨w1.heap.size, 1, none⟩ = some (.int .u64 st1) := (blk_cell B9.out 1).trans rfl; have fb1 := blk_frozen B9.out 1; have hb2 : w3.cell? ⟨w1.heap.size, 2, none⟩ = some (.int .u64 ic) := (blk_cell B9.out 2).trans rfl; have fb2 := blk_frozen B9.out 2; have hb3 : w3.cell? ⟨w1.heap.size, 3, none⟩ = some (.slice A l.length c) := (blk_cell B9.out 3).trans rfl; have fb3 := blk_frozen B9.out 3; have hb4 : w3.cell? ⟨w1.heap.size, 4, none⟩ = some (.int .i64 at1) := (blk_cell B9.out 4).trans rfl; have fb4 := blk_frozen B9.out 4))
      go_roundw
      case rel => exact ⟨i + 1, by omega, by go_num, by rw [HST1.out, HAT1.out]; exact ⟨((blk_set (blk_set (blk_set (blk_set (blk_set B2.out 0 (.int .i64 k)) 1 (.int .u64 st1)) 2 (.int .u64 ic)) 3 (.slice A l.length c)) 4 (.int .i64 at1))).trans (by rfl)⟩, ⟨(blk_far (blk_far (blk_far (blk_far (blk_far B5.out (p := ⟨w.heap.size, 0, none⟩) NE.out (.int .i64 k)) (p := ⟨w.heap.size, 1, none⟩) NE.out (.int .u64 st1)) (p := ⟨w.heap.size, 2, none⟩) NE.out (.int .u64 ic)) (p := ⟨w.heap.size, 3, none⟩) NE.out (.slice A l.length c)) (p := ⟨w.heap.size, 4, none⟩) NE.out (.int .i64 at1))⟩, ⟨by rw [HU2.out]; exact (Kd.R_set (Kd.R_set (Kd.R_set (Kd.R_set (Kd.R_set HO.out (g := w.heap.size) B2.out hE 0 (.int .i64 k)) (g := w.heap.size) (blk_set B2.out 0 (.int .i64 k)) hE 1 (.int .u64 st1)) (g := w.heap.size) (blk_set (blk_set B2.out 0 (.int .i64 k)) 1 (.int .u64 st1)) hE 2 (.int .u64 ic)) (g := w.heap.size) (blk_set (blk_set (blk_set B2.out 0 (.int .i64 k)) 1 (.int .u64 st1)) 2 (.int .u64 ic)) hE 3 (.slice A l.length c)) (g := w.heap.size) (blk_set (blk_set (blk_set (blk_set B2.out 0 (.int .i64 k)) 1 (.int .u64 st1)) 2 (.int .u64 ic)) 3 (.slice A l.length c)) hE 4 (.int .i64 at1))⟩, ⟨(below_set (j := 4) (v := (.int .i64 at1)) (below_set (j := 3) (v := (.slice A l.length c)) (below_set (j := 2) (v := (.int .u64 ic)) (below_set (j := 1) (v := (.int .u64 st1)) (below_set (j := 0) (v := (.int .i64 k)) HB.out (Nat.le_refl _)) (Nat.le_refl _)) (Nat.le_refl _)) (Nat.le_refl _)) (Nat.le_refl _))⟩⟩
      case measure => simp [intOf]; omega
    · subst hlt
      have hq2 : (i : Int) < n → ¬ (i : Int) < 1000 := fun h1 h2 => hq ⟨h1, h2⟩
      generalize hst0 : stI k ic st i = st0 at *
      generalize hat0 : atI k l at_ i = at0 at *
      have HST := Aside0.mk hst0
      have HAT := Aside0.mk hat0
      clear hst0 hat0
      have B3 := B5
      clear B5
      have GE3 := GE5
      have c3 : decide ((i : Int) < n) = false ∨ (decide ((i : Int) < n) = true ∧ decide ((i : Int) < 1000) = false) := by
        by_cases h : (i : Int) < n
        · exact .inr ⟨decide_eq_true h, decide_eq_false (hq2 h)⟩
        · exact .inl (decide_eq_false h)
      clear hq hq2
      rcases c3 with c3 | ⟨c3, c4⟩
      all_goals
        go_wp2_with fail
        refine start_ (n := 4) (S := fun w' => w'.cell? ⟨w.heap.size, 0, none⟩ = some (.int .i64 k) ∧ w'.cell? ⟨w.heap.size, 1, none⟩ = some (.int .u64 st0) ∧ w'.cell? ⟨w.heap.size, 2, none⟩ = some (.int .u64 ic) ∧ w'.cell? ⟨w.heap.size, 3, none⟩ = some (.slice A l.length c) ∧ w'.cell? ⟨w.heap.size, 4, none⟩ = some (.int .i64 at0)) (ds := [3]) #[false, false, false, false] (by kernel_rfl) rfl rfl ⟨(blk_cell B2.out 0).trans rfl, (blk_cell B2.out 1).trans rfl, (blk_cell B2.out 2).trans rfl, (blk_cell B2.out 3).trans rfl, (blk_cell B2.out 4).trans rfl⟩ (fun hHeld => ?_)
        replace B2 := Aside0.mk (blk_drew B2.out)
        replace B3 := Aside0.mk (blk_drew B3.out)
        replace HB := Aside0.mk (below_drew1 HB.out)
        replace HO := Aside0.mk (Kd.R_drew HO.out)
        generalize wr.drew = W6 at B2 B3 HB HO hHeld ⊢
        refine pure_ (i := 0) (N := (some 29)) (v := ?_) (a' := ?_) #[true, false, false, false] rfl rfl (by kernel_rfl) (fun _ _ _ h => h) (Or.inl ⟨by rfl, ?_⟩) ?_ ?_
        rotate_left
        · intro w'
          go_simp
          with_reducible rfl
        rotate_left
        · simp only [Act.put, List.setIfInBounds_toArray, List.set_cons_zero, List.set_cons_succ, i64_w, i32_w]
          rfl
        refine take_ (i := 1) (N := (some 30)) (v := ?_) (a' := ?_) #[true, true, false, false] rfl rfl (by kernel_rfl) (fun _ _ _ h => h) (Or.inl ⟨by rfl, ?_⟩) hHeld ?_ ?_
        rotate_left
        · rintro w' ⟨s0, s1, s2, s3, s4⟩
          go_simp
          with_reducible rfl
        rotate_left
        · simp only [Act.put, List.setIfInBounds_toArray, List.set_cons_zero, List.set_cons_succ, i64_w, i32_w]
          rfl
        refine pure_ (i := 2) (N := (some 4)) (v := ?_) (a' := ?_) #[true, true, true, false] rfl rfl (by kernel_rfl) (fun _ _ _ h => h) (Or.inl ⟨by rfl, ?_⟩) ?_ ?_
        rotate_left
        · intro w'
          go_simp
          with_reducible rfl
        rotate_left
        · simp only [Act.put, List.setIfInBounds_toArray, List.set_cons_zero, List.set_cons_succ, i64_w, i32_w]
          rfl
        refine last_ (i := 3) (N := none) #[true, true, true, true] rfl rfl (by kernel_rfl) (by decide) (fun K hK => ?_)
        have hs0 : W6.cell? ⟨w.heap.size + 1, 0, none⟩ = some (.int .i64 0) := (blk_cell B3.out 0).trans rfl
        have hf0 := blk_frozen B3.out 0
        have hs1 : W6.cell? ⟨w.heap.size + 1, 1, none⟩ = some (.int .u64 0) := (blk_cell B3.out 1).trans rfl
        have hf1 := blk_frozen B3.out 1
        have hs2 : W6.cell? ⟨w.heap.size + 1, 2, none⟩ = some (.int .u64 0) := (blk_cell B3.out 2).trans rfl
        have hf2 := blk_frozen B3.out 2
        have hs3 : W6.cell? ⟨w.heap.size + 1, 3, none⟩ = some (.slice none 0 0) := (blk_cell B3.out 3).trans rfl
        have hf3 := blk_frozen B3.out 3
        have hs4 : W6.cell? ⟨w.heap.size + 1, 4, none⟩ = some (.int .i64 0) := (blk_cell B3.out 4).trans rfl
        have hf4 := blk_frozen B3.out 4
        refine skip_ (w1 := ?_) (by rfl) rfl ?_ ?_
        rotate_left
        · go_simp
          rfl
        refine hK.out _ _ ?_
        clear hK K
        refine done_ (by kernel_rfl) ?_
        try go_wp2
        have q0 := blk_set B3.out 0 (.int .i64 k)
        have q1 := blk_set q0 1 (.int .u64 st0)
        have q2 := blk_set q1 2 (.int .u64 ic)
        have q3 := blk_set q2 3 (.slice A l.length c)
        have q4 := blk_set q3 4 (.int .i64 at0)
        (try simp only [Exit.inBlock, Exit.then])
        refine bodyPost_ret (results_list (rs := [.tmp 4, .cell 5 25]) rfl (by simp) (.tmp (.cell (w.heap.size + 1) 25 #[.int .i64 k, .int .u64 st0, .int .u64 ic, .slice A l.length c, .int .i64 at0] (0, 0) _ rfl (q4.trans (by rfl)) Try.underlying25 rfl (by kernel_rfl) .nil))) rfl ⟨_, (by rw [HST.out, HAT.out]), ?_, ?_⟩
        · exact Kd.R_mono (Kd.R_set (Kd.R_set (Kd.R_set (Kd.R_set (Kd.R_set HO.out (g := (w.heap.size + 1)) B3.out hE 0 (.int .i64 k)) (g := (w.heap.size + 1)) (blk_set B3.out 0 (.int .i64 k)) hE 1 (.int .u64 st0)) (g := (w.heap.size + 1)) (blk_set (blk_set B3.out 0 (.int .i64 k)) 1 (.int .u64 st0)) hE 2 (.int .u64 ic)) (g := (w.heap.size + 1)) (blk_set (blk_set (blk_set B3.out 0 (.int .i64 k)) 1 (.int .u64 st0)) 2 (.int .u64 ic)) hE 3 (.slice A l.length c)) (g := (w.heap.size + 1)) (blk_set (blk_set (blk_set (blk_set B3.out 0 (.int .i64 k)) 1 (.int .u64 st0)) 2 (.int .u64 ic)) 3 (.slice A l.length c)) hE 4 (.int .i64 at0)) (fun _ _ => trivial)
        · exact (below_set (j := 4) (v := (.int .i64 at0)) (below_set (j := 3) (v := (.slice A l.length c)) (below_set (j := 2) (v := (.int .u64 ic)) (below_set (j := 1) (v := (.int .u64 st0)) (below_set (j := 0) (v := (.int .i64 k)) HB.out GE3.out) GE3.out) GE3.out) GE3.out) GE3.out)
end
section
open Go.RowKit Go.Proofs.YtjiogchafnpkhaaW.PrintWords Go.Proofs.YtjiogchafnpkhaaW.PrintLast Go.Proofs.YtjiogchafnpkhaaW.PrintMore
attribute [local go_sem] max2_int min2_int max_two min_two max_three min_three max_four min_four
attribute [local go_sem] Go.Proofs.YtjiogchafnpkhaaS.cell_set_map Go.Proofs.YtjiogchafnpkhaaS.setCell_drewN
set_option linter.unusedVariables false
set_option linter.unusedSimpArgs false
theorem draw_Many_v (k st ic at_ : Int) (A : Option Addr) (c : Nat) (l : List Int) (n : Int) (w : World) (hr : Kd.C (Kd.int .u64) w A l.length l) (m : Nat) (hm : mx 0 (mn n 1000) = (m : Int)) (o : List Int) (st9 at9 : Int) (ho : outI k ic st l at_ m = o) (h1 : stI k ic st m = st9) (h2 : atI k l at_ m = at9) : Calls Try.prog 21 #[.agg #[.int .i64 k, .int .u64 st, .int .u64 ic, .slice A l.length c, .int .i64 at_], .int .i64 n] w fun e w' => ∃ (A1 : Option Addr) (c1 : Nat), e = .returned (.tuple #[.slice A1 m c1, .agg #[.int .i64 k, .int .u64 st9, .int .u64 ic, .slice A l.length c, .int .i64 at9]]) ∧ m ≤ c1 ∧ Kd.C (Kd.int .i64) w' A1 m o ∧ Below w.heap.size w w' := by
  refine (draw_Many_calls k st ic at_ A c l n w hr m hm).mono ?_
  rintro e w' ⟨v, rfl, hR, hb⟩
  obtain ⟨A1, c1, rfl, hl1, hr1⟩ := Kd.R_reads hR
  have e := outI_length k ic st l at_ m
  rw [ho] at hr1 hl1 e
  rw [ho, h1, h2]
  rw [e] at hr1 hl1 ⊢
  exact ⟨A1, c1, rfl, hl1, hr1, hb⟩
theorem ref_Many_v (k st ic at_ : Int) (A : Option Addr) (c : Nat) (l : List Int) (n : Int) (w : World) (hr : Kd.C (Kd.int .u64) w A l.length l) (hu : ∀ y ∈ l, 0 ≤ y) (hs : 0 ≤ st ∧ st < 18446744073709551616) (m : Nat) (hm : mx 0 (mn n 1000) = (m : Int)) (o : List Int) (st9 at9 : Int) (ho : outI k ic st l at_ m = o) (h1 : stI k ic st m = st9) (h2 : atI k l at_ m = at9) : Calls Try.prog 25 #[.agg #[.int .i64 k, .int .u64 st, .int .u64 ic, .slice A l.length c, .int .i64 at_], .int .i64 n] w fun e w' => ∃ (A1 : Option Addr) (c1 : Nat), e = .returned (.tuple #[.slice A1 m c1, .agg #[.int .i64 k, .int .u64 st9, .int .u64 ic, .slice A l.length c, .int .i64 at9]]) ∧ m ≤ c1 ∧ Kd.C (Kd.int .i64) w' A1 m o ∧ Below w.heap.size w w' := by
  refine (ref_Many_calls k st ic at_ A c l n w hr hu hs m hm).mono ?_
  rintro e w' ⟨v, rfl, hR, hb⟩
  obtain ⟨A1, c1, rfl, hl1, hr1⟩ := Kd.R_reads hR
  have e := outI_length k ic st l at_ m
  rw [ho] at hr1 hl1 e
  rw [ho, h1, h2]
  rw [e] at hr1 hl1 ⊢
  exact ⟨A1, c1, rfl, hl1, hr1, hb⟩
theorem m_of (n : Int) : ∃ m : Nat, mx 0 (mn n 1000) = (m : Int) ∧ m ≤ 1000 := by
  refine ⟨(mx 0 (mn n 1000)).toNat, ?_, ?_⟩ <;> unfold mx mn <;> (repeat' split) <;> omega
end
end Go.Proofs.Ytjiogchafnpkhaa.D
