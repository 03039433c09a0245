import Derived.Test.YtjiogchafnpkhaaProg
import Derived.Test.YtjiogchafnpkhaaS0
import Derived.Below
import Derived.Deep.Draws
import Derived.Deep.AppendLies
import Derived.Maps.AppendAt
import Derived.OwnWalk
import Derived.Laws.BytesArg
import Derived.Laws.MakeOwn
import Derived.Laws.OwnMore
import Derived.Deep.OwnRows
import Derived.Tactics
import Derived.Lib.ConvBytes
import Derived.Laws.Slices
import Derived.WalkKit
import Derived.KernelRfl
import Derived.RowKit3
import Derived.Deep.LoopGhost
import Derived.Deep.QuietTactic
import Derived.BigQuiet
import Derived.WideLaws
import Derived.Deep.DeepCutAuto
import Derived.Deep.CutBlock
import Derived.Deep.RegionHeld3
import Derived.Laws.Rows
import Derived.Lib.AppendStr
import Derived.ArgAppend
import Derived.Laws.IdiomCopy
import Derived.OrdersHeld
import Derived.Laws.BitsLemmas
import Derived.RowKit
import Derived.Outline
import Derived.Laws.CopyRow
import Derived.Laws.CopyOwn
import Derived.ChangeKeysEq
import Derived.Test.YtjiogchafnpkhaaWWords
import Derived.Test.YtjiogchafnpkhaaWLast
import Derived.Test.YtjiogchafnpkhaaWTab
import Derived.Test.YtjiogchafnpkhaaWFour
import Derived.Test.YtjiogchafnpkhaaWQPut
import Derived.Test.YtjiogchafnpkhaaWApart
import Derived.Test.YtjiogchafnpkhaaWArr
import Derived.Test.YtjiogchafnpkhaaWZeros
import Derived.Test.YtjiogchafnpkhaaWFoot
import Derived.Test.YtjiogchafnpkhaaWKept
import Derived.Test.YtjiogchafnpkhaaWShare
import Derived.Test.YtjiogchafnpkhaaWN
import Derived.Test.YtjiogchafnpkhaaWFootNe
import Derived.Test.YtjiogchafnpkhaaWAt
import Derived.Test.YtjiogchafnpkhaaWEqStruct
import Derived.Test.YtjiogchafnpkhaaWRepsOne
import Derived.Test.YtjiogchafnpkhaaWInv
import Derived.Test.YtjiogchafnpkhaaWInvWords
import Derived.Test.YtjiogchafnpkhaaWGuard
import Derived.Test.YtjiogchafnpkhaaWNEv
import Derived.Test.YtjiogchafnpkhaaWMore
namespace Go.Proofs.Ytjiogchafnpkhaa.D
open Go.RowKit Go.Proofs.YtjiogchafnpkhaaW.PrintWords Go.Proofs.YtjiogchafnpkhaaW.PrintLast Go.Proofs.YtjiogchafnpkhaaW.PrintMore
attribute [local go_sem] max2_int min2_int max_two min_two max_three min_three max_four min_four
attribute [local go_sem] Go.Proofs.YtjiogchafnpkhaaS.cell_set_map Go.Proofs.YtjiogchafnpkhaaS.setCell_drewN
set_option linter.unusedVariables false
set_option linter.unusedSimpArgs false
/-- x turned by k places. -/
def rotC (k : Int) : Int := IntKind.u64.wrap k % 32
def rotF (x k : Int) : Int := bits .or .u32 (IntKind.u32.wrap (x * 2 ^ (rotC k).toNat)) (x / 2 ^ (32 - rotC k).toNat)
theorem and31 (a : Int) (h0 : 0 ≤ a) (h1 : a < 18446744073709551616) : bits .and .u64 a 31 = a % 32 := by
  rw [u64_and a 31 h0 h1 (by omega) (by omega)]
  have : a.toNat &&& (31 : Int).toNat = a.toNat % 32 := Nat.and_two_pow_sub_one_eq_mod a.toNat 5
  rw [this]
  omega
theorem u64_range (k : Int) : 0 ≤ IntKind.u64.wrap k ∧ IntKind.u64.wrap k < 18446744073709551616 := by
  simp [IntKind.wrap, IntKind.bits, IntKind.signed]
  omega
set_option maxHeartbeats 2000000 in
theorem rot_calls (x k : Int) (w : World) : Calls Try.prog 60 #[.int .u32 x, .int .i64 k] w fun e w' => e = .returned (.int .u32 (rotF x k)) ∧ w = w' := by
  have hr := u64_range k
  have hc : bits BinOp.and IntKind.u64 (IntKind.u64.wrap k) 31 = rotC k := and31 _ hr.1 hr.2
  have h0 : 0 ≤ rotC k := by unfold rotC; omega
  have h1 : rotC k ≤ 32 := by unfold rotC; omega
  have h2 : 0 ≤ 32 - rotC k := by omega
  have h3 : 32 - rotC k ≤ 32 := by omega
  have hw : IntKind.u64.wrap (32 - rotC k) = 32 - rotC k := by simp [IntKind.wrap, IntKind.bits, IntKind.signed]; omega
  clear hr
  unfold rotF
  generalize rotC k = c at *
  go_enter Try.func60, Try.ntmps60
  go_wp2
  go_ret
  exact ⟨rfl, rfl⟩
set_option maxHeartbeats 2000000 in
theorem of_calls (k st ic at_ : Int) (A : Option Addr) (n c : Nat) (w : World) : Calls Try.prog 41 #[.agg #[.int .i64 k, .int .u64 st, .int .u64 ic, .slice A n c, .int .i64 at_]] w fun e w' => e = .returned (.iface (if k = 1 then 70 else if k = 2 then 71 else 72) (.agg #[.int .i64 k, .int .u64 st, .int .u64 ic, .slice A n c, .int .i64 at_])) ∧ Below w.heap.size w w' := by
  have hu25 := Try.underlying25
  have HB := Aside0.mk (below_alloc (Below.refl w.heap.size w) (.cells #[.int .i64 k, .int .u64 st, .int .u64 ic, .slice A n c, .int .i64 at_] 25 (0, 0)))
  by_cases e1 : k = 1
  · subst e1
    go_enter Try.func41, Try.ntmps41
    go_wp2
    go_ret
    exact ⟨rfl, HB.out⟩
  · have e1b : (k == 1) = false := beq_eq_false_iff_ne.mpr e1
    rw [if_neg e1]
    clear e1
    by_cases e2 : k = 2
    · subst e2
      go_enter Try.func41, Try.ntmps41
      go_wp2
      go_ret
      exact ⟨rfl, HB.out⟩
    · have e2b : (k == 2) = false := beq_eq_false_iff_ne.mpr e2
      rw [if_neg e2]
      clear e2
      go_enter Try.func41, Try.ntmps41
      go_wp2
      go_ret
      exact ⟨rfl, HB.out⟩
end Go.Proofs.Ytjiogchafnpkhaa.D
