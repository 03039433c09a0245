-- Printed by wip/tools/myprint.py (this session's driver over the kit's printer, with functions proved by hand). Not trusted: Lean checks it.
import Derived.Test.YtjiogchafnpkhaaProg
import Derived.Test.YtjiogchafnpkhaaS0
import Derived.Below
import Derived.Deep.Draws
import Derived.Deep.AppendLies
import Derived.Maps.AppendAt
import Derived.OwnWalk
import Derived.Laws.BytesArg
import Derived.Laws.MakeOwn
import Derived.Laws.OwnMore
import Derived.Deep.OwnRows
import Derived.Tactics
import Derived.Lib.ConvBytes
import Derived.Laws.Slices
import Derived.WalkKit
import Derived.KernelRfl
import Derived.RowKit3
import Derived.Deep.LoopGhost
import Derived.Deep.QuietTactic
import Derived.BigQuiet
import Derived.WideLaws
import Derived.Deep.DeepCutAuto
import Derived.Deep.CutBlock
import Derived.Deep.RegionHeld3
import Derived.Laws.Rows
import Derived.Lib.AppendStr
import Derived.ArgAppend
import Derived.Laws.IdiomCopy
import Derived.OrdersHeld
import Derived.Laws.BitsLemmas
import Derived.RowKit
import Derived.Outline
import Derived.Laws.CopyRow
import Derived.Laws.CopyOwn
import Derived.Laws.Rows
import Derived.ChangeKeysEq
import Derived.Test.YtjiogchafnpkhaaWWords
import Derived.Test.YtjiogchafnpkhaaWLast
import Derived.Test.YtjiogchafnpkhaaWTab
import Derived.Test.YtjiogchafnpkhaaWFour
import Derived.Test.YtjiogchafnpkhaaWQPut
import Derived.Test.YtjiogchafnpkhaaWApart
import Derived.Test.YtjiogchafnpkhaaWArr
import Derived.Test.YtjiogchafnpkhaaWZeros
import Derived.Test.YtjiogchafnpkhaaWFoot
import Derived.Test.YtjiogchafnpkhaaWKept
import Derived.Test.YtjiogchafnpkhaaWShare
import Derived.Test.YtjiogchafnpkhaaWN
import Derived.Test.YtjiogchafnpkhaaWFootNe
import Derived.Test.YtjiogchafnpkhaaWAt
import Derived.Test.YtjiogchafnpkhaaWEqStruct
import Derived.Test.YtjiogchafnpkhaaWRepsOne
import Derived.Test.YtjiogchafnpkhaaWInv
import Derived.Test.YtjiogchafnpkhaaWInvWords
import Derived.Test.YtjiogchafnpkhaaWGuard
import Derived.Test.YtjiogchafnpkhaaWNEv
import Derived.Test.YtjiogchafnpkhaaWMore
namespace Go.Proofs.Ytjiogchafnpkhaa.D
open Go.RowKit Go.Proofs.YtjiogchafnpkhaaW.PrintWords Go.Proofs.YtjiogchafnpkhaaW.PrintLast Go.Proofs.YtjiogchafnpkhaaW.PrintMore
attribute [local go_sem] max2_int min2_int max_two min_two max_three min_three max_four min_four   -- for this text's walks alone
attribute [local go_sem] Go.Proofs.YtjiogchafnpkhaaS.cell_set_map Go.Proofs.YtjiogchafnpkhaaS.setCell_drewN
set_option linter.unusedVariables false
set_option linter.unusedSimpArgs false



def errW : Option Int → Value
  | none => .nilIface
  | some c => .iface 0 (.int .i64 c)
theorem errW_none : errW none = .nilIface := rfl
theorem errW_some (c : Int) : errW (some c) = .iface 0 (.int .i64 c) := rfl

theorem info3 : (Try.prog.info? 3).map (fun i => (i.zero, i.size, i.bytes)) = some (some (.int .i64 0), 1, 8) := by kernel_rfl
-- the values' own types

end Go.Proofs.Ytjiogchafnpkhaa.D
