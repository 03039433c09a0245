import Derived.Test.YtjiogchafnpkhaaProg
import Derived.Test.YtjiogchafnpkhaaS0
import Derived.Below
import Derived.Deep.Draws
import Derived.Deep.AppendLies
import Derived.Maps.AppendAt
import Derived.OwnWalk
import Derived.Laws.BytesArg
import Derived.Laws.MakeOwn
import Derived.Laws.OwnMore
import Derived.Deep.OwnRows
import Derived.Tactics
import Derived.Lib.ConvBytes
import Derived.Laws.Slices
import Derived.WalkKit
import Derived.KernelRfl
import Derived.RowKit3
import Derived.Deep.LoopGhost
import Derived.Deep.QuietTactic
import Derived.BigQuiet
import Derived.WideLaws
import Derived.Deep.DeepCutAuto
import Derived.Deep.CutBlock
import Derived.Deep.RegionHeld3
import Derived.Laws.Rows
import Derived.Lib.AppendStr
import Derived.ArgAppend
import Derived.Laws.IdiomCopy
import Derived.OrdersHeld
import Derived.Laws.BitsLemmas
import Derived.RowKit
import Derived.Outline
import Derived.Laws.CopyRow
import Derived.Laws.CopyOwn
import Derived.ChangeKeysEq
import Derived.Test.YtjiogchafnpkhaaWWords
import Derived.Test.YtjiogchafnpkhaaWLast
import Derived.Test.YtjiogchafnpkhaaWTab
import Derived.Test.YtjiogchafnpkhaaWFour
import Derived.Test.YtjiogchafnpkhaaWQPut
import Derived.Test.YtjiogchafnpkhaaWApart
import Derived.Test.YtjiogchafnpkhaaWArr
import Derived.Test.YtjiogchafnpkhaaWZeros
import Derived.Test.YtjiogchafnpkhaaWFoot
import Derived.Test.YtjiogchafnpkhaaWKept
import Derived.Test.YtjiogchafnpkhaaWShare
import Derived.Test.YtjiogchafnpkhaaWN
import Derived.Test.YtjiogchafnpkhaaWFootNe
import Derived.Test.YtjiogchafnpkhaaWAt
import Derived.Test.YtjiogchafnpkhaaWEqStruct
import Derived.Test.YtjiogchafnpkhaaWRepsOne
import Derived.Test.YtjiogchafnpkhaaWInv
import Derived.Test.YtjiogchafnpkhaaWInvWords
import Derived.Test.YtjiogchafnpkhaaWGuard
import Derived.Test.YtjiogchafnpkhaaWNEv
import Derived.Test.YtjiogchafnpkhaaWMore
import Derived.Test.YtjiogchafnpkhaaDx1
import Derived.Test.YtjiogchafnpkhaaDx3
import Derived.Test.YtjiogchafnpkhaaDx4
namespace Go.Proofs.Ytjiogchafnpkhaa.D
open Go.RowKit Go.Proofs.YtjiogchafnpkhaaW.PrintWords Go.Proofs.YtjiogchafnpkhaaW.PrintLast Go.Proofs.YtjiogchafnpkhaaW.PrintMore
attribute [local go_sem] max2_int min2_int max_two min_two max_three min_three max_four min_four
attribute [local go_sem] Go.Proofs.YtjiogchafnpkhaaS.cell_set_map Go.Proofs.YtjiogchafnpkhaaS.setCell_drewN
set_option linter.unusedVariables false
set_option linter.unusedSimpArgs false
theorem w64_in {x : Int} (h0 : 0 ≤ x) (h1 : x < 9223372036854775807) : wrap64 x = x := by unfold wrap64; omega
theorem ints_from (l : List Int) (hl : l.length < 9223372036854775807) : ∀ (d i : Nat), i + d = l.length → pacemakerref06_Ints.l0 (d + 1) l l (i : Int) = some true
  | 0, i, h => by
    unfold pacemakerref06_Ints.l0
    rw [if_neg (by omega)]
  | d + 1, i, h => by
    unfold pacemakerref06_Ints.l0
    rw [if_pos (by omega), if_pos (by omega), if_pos (by omega), if_pos rfl, w64_in (by omega) (by omega)]
    exact ints_from l hl d (i + 1) (by omega)
theorem ints_self (l : List Int) (hl : l.length < 9223372036854775807) : pacemakerref06_Ints.f (l.length + 1) l l = some true := by
  unfold pacemakerref06_Ints.f
  rw [if_pos rfl]
  exact ints_from l hl l.length 0 (by omega)
theorem same_from (a b c e : Int) (l : List Int) (hl : l.length < 9223372036854775807) : ∀ (d i : Nat), i + d = l.length → pacemakerref06_Same.l0 (d + 1) (i : Int) a b c l e a b c l e = some true
  | 0, i, h => by
    unfold pacemakerref06_Same.l0
    rw [if_neg (by omega)]
  | d + 1, i, h => by
    unfold pacemakerref06_Same.l0
    rw [if_pos (by omega), if_pos (by omega), if_pos (by omega), if_pos rfl, w64_in (by omega) (by omega)]
    exact same_from a b c e l hl d (i + 1) (by omega)
theorem same_self (a b c e : Int) (l : List Int) (hl : l.length < 9223372036854775807) : pacemakerref06_Same.f (l.length + 2) a b c l e a b c l e = some true := by
  unfold pacemakerref06_Same.f
  rw [if_pos rfl, if_pos rfl, if_pos rfl, if_pos rfl]
  rw [pacemakerref06_Same.j0, if_neg (by simp)]
  exact same_from a b c e l hl l.length 0 (by omega)
/-- Two sources of the same fields, wherever their tapes lie, are the same. -/
theorem same_calls (a b c e : Int) (l : List Int) (A B : Option Addr) (cA cB : Nat) (w : World) (ha : Kd.C (Kd.int .u64) w A l.length l) (hca : l.length ≤ cA) (hb : Kd.C (Kd.int .u64) w B l.length l) (hcb : l.length ≤ cB) (hl : l.length < 9223372036854775807) :
    Calls Try.prog 16 #[.agg #[.int .i64 a, .int .u64 b, .int .u64 c, .slice A l.length cA, .int .i64 e], .agg #[.int .i64 a, .int .u64 b, .int .u64 c, .slice B l.length cB, .int .i64 e]] w fun e w' => e = .returned (.bool true) ∧ Below w.heap.size w w' :=
  pacemakerref06_Same.calls (l.length + 2) a b c A cA l e a b c B cB l e true w ha hca hb hcb (same_self a b c e l hl)
theorem ints_calls (l : List Int) (A B : Option Addr) (n m cA cB : Nat) (w : World) (hn : l.length = n) (hm : l.length = m) (ha : Kd.C (Kd.int .i64) w A n l) (hca : n ≤ cA) (hb : Kd.C (Kd.int .i64) w B m l) (hcb : m ≤ cB) (hl : l.length < 9223372036854775807) :
    Calls Try.prog 22 #[.slice A n cA, .slice B m cB] w fun e w' => e = .returned (.bool true) ∧ Below w.heap.size w w' := by
  subst hn
  subst hm
  exact (pacemakerref06_Ints.calls (l.length + 1) A cA l B cB l true w ha hca hb hcb (ints_self l hl)).mono fun e w' h => ⟨h.1, h.2.below⟩
theorem big_calls (a b c e : Int) (l : List Int) (A : Option Addr) (cA : Nat) (w : World) (ha : Kd.C (Kd.int .u64) w A l.length l) (hca : l.length ≤ cA) (t : Bool) (ht : decide ((l.length : Int) > 2000) = t) :
    Calls Try.prog 12 #[.agg #[.int .i64 a, .int .u64 b, .int .u64 c, .slice A l.length cA, .int .i64 e]] w fun e w' => e = .returned (.bool t) ∧ Below w.heap.size w w' :=
  pacemakerref06_Big.calls a b c A cA l e t w ha hca (by unfold pacemakerref06_Big.f; rw [ht])
end Go.Proofs.Ytjiogchafnpkhaa.D
