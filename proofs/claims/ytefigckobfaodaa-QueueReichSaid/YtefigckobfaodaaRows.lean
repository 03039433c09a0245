/-
  No cell of these rows narrows 'for every input' (looked for: loops, veiled, ifaces, maps, wideKeys, modest, calm, conditions, laid).
  DERIVED. THE GIVEN ROWS OF THIS SEAT. 5 by the template 'for every input the law returns true; each argument reads behind the call as it read before'; 0 by the template 'total and deterministic' (their statements: YtefigckobfaodaaTotals.lean).
  GIVEN WITH THE SEED: the statements are not yours to turn. If you find one false, say at which input.
  Laid BY PROGRAM, IN A SANDBOX (cutbox-rows.mjs): the forced cells as the released guide's own fill.sh prints them over the translation 3d3592ad7328cdad… (all of the seat's roots in one cut). By AI agents, Wed Nov 11 2026. No macro, syntax, notation, axiom, sorry.
-/
import Derived.Test.YtefigckobfaodaaChecked
import GoSem.Claim
import GoSem.ClaimJoined
import GoSem.ClaimMapViews
import Derived.JoinedTies
import Derived.KernelRfl
namespace Go.Proofs.Ytefigckobfaodaa
/- THE CELL 'sum', in the pinned program and in every row, IS THE sha256 OF THE DUMP (.gsa) THAT YtefigckobfaodaaProg.lean LOADS. Nothing in Lean hashes anything: it is a label: what it is worth is what the hold of that sum in a sandbox is worth. -/
noncomputable def Try.pinned : Pinned := { name := "ytefigckobfaodaa", sum := "3d3592ad7328cdad9b8fec248061b6cd7f441e56057eaee3c087f8d9a2ef8d1b", checked := Try.checked }
namespace Rows
def none {H : Type} : Left H := { results := [], args := [] }

/-- 'pacemakerlaw28.QueueDoes': WHATEVER THE INPUT: true; the input reads as it did. -/
def queueDoesSpec : ChangeSpec := { name := "queueDoes", fn := fun _ => fun
  | [d1, d2, d3, d4, d5] => { results := [.lit (.bool true)], args := [d1, d2, d3, d4, d5] }
  | _ => none }
def queueDoesRow : OpenClaim := { program := "ytefigckobfaodaa", sum := "3d3592ad7328cdad9b8fec248061b6cd7f441e56057eaee3c087f8d9a2ef8d1b", func := "pacemaker/pacemakerlaw28.QueueDoes", spec := "queueDoes", apart := false }
def QueueDoesSaid : Prop := queueDoesRow.holds Try.pinned (OpenSpec.ofChange queueDoesSpec)

/-- ITS FALSE NEIGHBOUR: 'it returns false'. Refute it at one input. -/
def queueDoesWrong : ChangeSpec := { name := "queueDoes", fn := fun _ => fun
  | [d1, d2, d3, d4, d5] => { results := [.lit (.bool false)], args := [d1, d2, d3, d4, d5] }
  | _ => none }
def QueueDoesWrongFalsely : Prop := queueDoesRow.holds Try.pinned (OpenSpec.ofChange queueDoesWrong)

/-- 'pacemakerlaw28.QueueOrder': WHATEVER THE INPUT: true; the input reads as it did. -/
def queueOrderSpec : ChangeSpec := { name := "queueOrder", fn := fun _ => fun
  | [d1, d2, d3] => { results := [.lit (.bool true)], args := [d1, d2, d3] }
  | _ => none }
def queueOrderRow : OpenClaim := { program := "ytefigckobfaodaa", sum := "3d3592ad7328cdad9b8fec248061b6cd7f441e56057eaee3c087f8d9a2ef8d1b", func := "pacemaker/pacemakerlaw28.QueueOrder", spec := "queueOrder", apart := false }
def QueueOrderSaid : Prop := queueOrderRow.holds Try.pinned (OpenSpec.ofChange queueOrderSpec)

/-- ITS FALSE NEIGHBOUR: 'it returns false'. Refute it at one input. -/
def queueOrderWrong : ChangeSpec := { name := "queueOrder", fn := fun _ => fun
  | [d1, d2, d3] => { results := [.lit (.bool false)], args := [d1, d2, d3] }
  | _ => none }
def QueueOrderWrongFalsely : Prop := queueOrderRow.holds Try.pinned (OpenSpec.ofChange queueOrderWrong)

/-- 'pacemakerlaw28.QueueReich': WHATEVER THE INPUT: true; the input reads as it did. -/
def queueReichSpec : ChangeSpec := { name := "queueReich", fn := fun _ => fun
  | [d1, d2, d3, d4] => { results := [.lit (.bool true)], args := [d1, d2, d3, d4] }
  | _ => none }
def queueReichRow : OpenClaim := { program := "ytefigckobfaodaa", sum := "3d3592ad7328cdad9b8fec248061b6cd7f441e56057eaee3c087f8d9a2ef8d1b", func := "pacemaker/pacemakerlaw28.QueueReich", spec := "queueReich", apart := false }
def QueueReichSaid : Prop := queueReichRow.holds Try.pinned (OpenSpec.ofChange queueReichSpec)

/-- ITS FALSE NEIGHBOUR: 'it returns false'. Refute it at one input. -/
def queueReichWrong : ChangeSpec := { name := "queueReich", fn := fun _ => fun
  | [d1, d2, d3, d4] => { results := [.lit (.bool false)], args := [d1, d2, d3, d4] }
  | _ => none }
def QueueReichWrongFalsely : Prop := queueReichRow.holds Try.pinned (OpenSpec.ofChange queueReichWrong)

/-- 'pacemakerlaw28.QueueSplits': WHATEVER THE INPUT: true; the input reads as it did. -/
def queueSplitsSpec : ChangeSpec := { name := "queueSplits", fn := fun _ => fun
  | [d1, d2, d3, d4, d5] => { results := [.lit (.bool true)], args := [d1, d2, d3, d4, d5] }
  | _ => none }
def queueSplitsRow : OpenClaim := { program := "ytefigckobfaodaa", sum := "3d3592ad7328cdad9b8fec248061b6cd7f441e56057eaee3c087f8d9a2ef8d1b", func := "pacemaker/pacemakerlaw28.QueueSplits", spec := "queueSplits", apart := false }
def QueueSplitsSaid : Prop := queueSplitsRow.holds Try.pinned (OpenSpec.ofChange queueSplitsSpec)

/-- ITS FALSE NEIGHBOUR: 'it returns false'. Refute it at one input. -/
def queueSplitsWrong : ChangeSpec := { name := "queueSplits", fn := fun _ => fun
  | [d1, d2, d3, d4, d5] => { results := [.lit (.bool false)], args := [d1, d2, d3, d4, d5] }
  | _ => none }
def QueueSplitsWrongFalsely : Prop := queueSplitsRow.holds Try.pinned (OpenSpec.ofChange queueSplitsWrong)

/-- 'pacemakerlaw28.QueueTakes': WHATEVER THE INPUT: true; the input reads as it did. -/
def queueTakesSpec : ChangeSpec := { name := "queueTakes", fn := fun _ => fun
  | [d1, d2, d3, d4] => { results := [.lit (.bool true)], args := [d1, d2, d3, d4] }
  | _ => none }
def queueTakesRow : OpenClaim := { program := "ytefigckobfaodaa", sum := "3d3592ad7328cdad9b8fec248061b6cd7f441e56057eaee3c087f8d9a2ef8d1b", func := "pacemaker/pacemakerlaw28.QueueTakes", spec := "queueTakes", apart := false }
def QueueTakesSaid : Prop := queueTakesRow.holds Try.pinned (OpenSpec.ofChange queueTakesSpec)

/-- ITS FALSE NEIGHBOUR: 'it returns false'. Refute it at one input. -/
def queueTakesWrong : ChangeSpec := { name := "queueTakes", fn := fun _ => fun
  | [d1, d2, d3, d4] => { results := [.lit (.bool false)], args := [d1, d2, d3, d4] }
  | _ => none }
def QueueTakesWrongFalsely : Prop := queueTakesRow.holds Try.pinned (OpenSpec.ofChange queueTakesWrong)

/- THE SECOND FORM. 'bulk': how many values and letters a reading holds, each counted each time it is reached (what is shared counts as often as it is met; a slice's spare places count too). A statement '..UptoSaid' is the law's where the arguments, and the package variables that the reading takes, are together of bulk at most 1048576: NARROWER than '..Said'. Prove '..Said' where nothing that the law and all that it calls make is longer than what came in: it says more and counts as full. Else prove '..UptoSaid'. A law counts once. -/
mutual
def uptoBulk {H : Type} : DataW H → Nat
  | .lit (.string bytes) => bytes.length + 1
  | .lit _ => 1
  | .nil => 1
  | .ptr d => uptoBulk d + 1
  | .slice elems spare => uptoBulkAll elems + uptoBulkAll spare + 1
  | .agg parts => uptoBulkAll parts + 1
  | .iface _ d => uptoBulk d + 1
  | .map entries => uptoBulkEntries entries + 1
  | .held _ => 1
def uptoBulkAll {H : Type} : List (DataW H) → Nat
  | [] => 0
  | d :: r => uptoBulk d + uptoBulkAll r
def uptoBulkEntries {H : Type} : List (Lit × DataW H) → Nat
  | [] => 0
  | x :: r => uptoBulkEntry x + uptoBulkEntries r
def uptoBulkEntry {H : Type} : Lit × DataW H → Nat
  | (.string bytes, d) => bytes.length + uptoBulk d + 1
  | (_, d) => uptoBulk d + 1
 end
def uptoSmall : (H : Type) → List (DataW H) → Bool := fun _ ds => decide (uptoBulkAll ds ≤ 1048576)
def OpenSpec.upto (s : _root_.Go.ChangeSpec) : _root_.Go.OpenSpec := { _root_.Go.OpenSpec.ofChange s with cond := some uptoSmall }

/-- 'pacemakerlaw28.QueueDoes', WHERE WHAT IT READS IS OF BULK AT MOST 1048576: true; the input reads as it did. -/
def queueDoesUptoRow : OpenClaim := { program := "ytefigckobfaodaa", sum := "3d3592ad7328cdad9b8fec248061b6cd7f441e56057eaee3c087f8d9a2ef8d1b", func := "pacemaker/pacemakerlaw28.QueueDoes", spec := "queueDoes", apart := false, narrowed := true }
def QueueDoesUptoSaid : Prop := queueDoesUptoRow.holds Try.pinned (OpenSpec.upto queueDoesSpec)

/-- 'pacemakerlaw28.QueueOrder', WHERE WHAT IT READS IS OF BULK AT MOST 1048576: true; the input reads as it did. -/
def queueOrderUptoRow : OpenClaim := { program := "ytefigckobfaodaa", sum := "3d3592ad7328cdad9b8fec248061b6cd7f441e56057eaee3c087f8d9a2ef8d1b", func := "pacemaker/pacemakerlaw28.QueueOrder", spec := "queueOrder", apart := false, narrowed := true }
def QueueOrderUptoSaid : Prop := queueOrderUptoRow.holds Try.pinned (OpenSpec.upto queueOrderSpec)

/-- 'pacemakerlaw28.QueueReich', WHERE WHAT IT READS IS OF BULK AT MOST 1048576: true; the input reads as it did. -/
def queueReichUptoRow : OpenClaim := { program := "ytefigckobfaodaa", sum := "3d3592ad7328cdad9b8fec248061b6cd7f441e56057eaee3c087f8d9a2ef8d1b", func := "pacemaker/pacemakerlaw28.QueueReich", spec := "queueReich", apart := false, narrowed := true }
def QueueReichUptoSaid : Prop := queueReichUptoRow.holds Try.pinned (OpenSpec.upto queueReichSpec)

/-- 'pacemakerlaw28.QueueSplits', WHERE WHAT IT READS IS OF BULK AT MOST 1048576: true; the input reads as it did. -/
def queueSplitsUptoRow : OpenClaim := { program := "ytefigckobfaodaa", sum := "3d3592ad7328cdad9b8fec248061b6cd7f441e56057eaee3c087f8d9a2ef8d1b", func := "pacemaker/pacemakerlaw28.QueueSplits", spec := "queueSplits", apart := false, narrowed := true }
def QueueSplitsUptoSaid : Prop := queueSplitsUptoRow.holds Try.pinned (OpenSpec.upto queueSplitsSpec)

/-- 'pacemakerlaw28.QueueTakes', WHERE WHAT IT READS IS OF BULK AT MOST 1048576: true; the input reads as it did. -/
def queueTakesUptoRow : OpenClaim := { program := "ytefigckobfaodaa", sum := "3d3592ad7328cdad9b8fec248061b6cd7f441e56057eaee3c087f8d9a2ef8d1b", func := "pacemaker/pacemakerlaw28.QueueTakes", spec := "queueTakes", apart := false, narrowed := true }
def QueueTakesUptoSaid : Prop := queueTakesUptoRow.holds Try.pinned (OpenSpec.upto queueTakesSpec)

end Rows
end Go.Proofs.Ytefigckobfaodaa
