/-
  No cell of these rows narrows 'for every input' (looked for: loops, veiled, ifaces, maps, wideKeys, modest, calm, conditions, laid).
  DERIVED. THE GIVEN ROWS OF THIS SEAT. 4 by the template 'for every input the law returns true; each argument reads behind the call as it read before'; 0 by the template 'total and deterministic' (their statements: YtocdpfdnnijdkaaTotals.lean).
  GIVEN WITH THE SEED: the statements are not yours to turn. If you find one false, say at which input.
  Laid BY PROGRAM, IN A SANDBOX (cutbox-rows.mjs): the forced cells as the released guide's own fill.sh prints them over the translation c42ddda79c752d42… (all of the seat's roots in one cut). By AI agents, Wed Nov 11 2026. No macro, syntax, notation, axiom, sorry.
-/
import Derived.Test.YtocdpfdnnijdkaaChecked
import GoSem.Claim
import GoSem.ClaimJoined
import GoSem.ClaimMapViews
import Derived.JoinedTies
import Derived.KernelRfl
namespace Go.Proofs.Ytocdpfdnnijdkaa
/- THE CELL 'sum', in the pinned program and in every row, IS THE sha256 OF THE DUMP (.gsa) THAT YtocdpfdnnijdkaaProg.lean LOADS. Nothing in Lean hashes anything: it is a label: what it is worth is what the hold of that sum in a sandbox is worth. -/
noncomputable def Try.pinned : Pinned := { name := "ytocdpfdnnijdkaa", sum := "c42ddda79c752d42a05972348e6054a6f1e0109cd58ec25cf0fdfa01397b855c", checked := Try.checked }
namespace Rows
def none {H : Type} : Left H := { results := [], args := [] }

/-- 'pacemakerlaw29.AgendaFull': WHATEVER THE INPUT: true; the input reads as it did. -/
def agendaFullSpec : ChangeSpec := { name := "agendaFull", fn := fun _ => fun
  | [d1, d2] => { results := [.lit (.bool true)], args := [d1, d2] }
  | _ => none }
def agendaFullRow : OpenClaim := { program := "ytocdpfdnnijdkaa", sum := "c42ddda79c752d42a05972348e6054a6f1e0109cd58ec25cf0fdfa01397b855c", func := "pacemaker/pacemakerlaw29.AgendaFull", spec := "agendaFull", unfollowed := true, recurses := true, apart := false }
def AgendaFullSaid : Prop := agendaFullRow.holds Try.pinned (OpenSpec.ofChange agendaFullSpec)

/-- ITS FALSE NEIGHBOUR: 'it returns false'. Refute it at one input. -/
def agendaFullWrong : ChangeSpec := { name := "agendaFull", fn := fun _ => fun
  | [d1, d2] => { results := [.lit (.bool false)], args := [d1, d2] }
  | _ => none }
def AgendaFullWrongFalsely : Prop := agendaFullRow.holds Try.pinned (OpenSpec.ofChange agendaFullWrong)

/-- 'pacemakerlaw29.AgendaDoes': WHATEVER THE INPUT: true; the input reads as it did. -/
def agendaDoesSpec : ChangeSpec := { name := "agendaDoes", fn := fun _ => fun
  | [d1, d2] => { results := [.lit (.bool true)], args := [d1, d2] }
  | _ => none }
def agendaDoesRow : OpenClaim := { program := "ytocdpfdnnijdkaa", sum := "c42ddda79c752d42a05972348e6054a6f1e0109cd58ec25cf0fdfa01397b855c", func := "pacemaker/pacemakerlaw29.AgendaDoes", spec := "agendaDoes", unfollowed := true, recurses := true, apart := false }
def AgendaDoesSaid : Prop := agendaDoesRow.holds Try.pinned (OpenSpec.ofChange agendaDoesSpec)

/-- ITS FALSE NEIGHBOUR: 'it returns false'. Refute it at one input. -/
def agendaDoesWrong : ChangeSpec := { name := "agendaDoes", fn := fun _ => fun
  | [d1, d2] => { results := [.lit (.bool false)], args := [d1, d2] }
  | _ => none }
def AgendaDoesWrongFalsely : Prop := agendaDoesRow.holds Try.pinned (OpenSpec.ofChange agendaDoesWrong)

/-- 'pacemakerlaw29.AgendaSorts': WHATEVER THE INPUT: true; the input reads as it did. -/
def agendaSortsSpec : ChangeSpec := { name := "agendaSorts", fn := fun _ => fun
  | [d] => { results := [.lit (.bool true)], args := [d] }
  | _ => none }
def agendaSortsRow : OpenClaim := { program := "ytocdpfdnnijdkaa", sum := "c42ddda79c752d42a05972348e6054a6f1e0109cd58ec25cf0fdfa01397b855c", func := "pacemaker/pacemakerlaw29.AgendaSorts", spec := "agendaSorts", unfollowed := true, recurses := true, apart := false }
def AgendaSortsSaid : Prop := agendaSortsRow.holds Try.pinned (OpenSpec.ofChange agendaSortsSpec)

/-- ITS FALSE NEIGHBOUR: 'it returns false'. Refute it at one input. -/
def agendaSortsWrong : ChangeSpec := { name := "agendaSorts", fn := fun _ => fun
  | [d] => { results := [.lit (.bool false)], args := [d] }
  | _ => none }
def AgendaSortsWrongFalsely : Prop := agendaSortsRow.holds Try.pinned (OpenSpec.ofChange agendaSortsWrong)

/-- 'pacemakerlaw29.AgendaTill': WHATEVER THE INPUT: true; the input reads as it did. -/
def agendaTillSpec : ChangeSpec := { name := "agendaTill", fn := fun _ => fun
  | [d1, d2] => { results := [.lit (.bool true)], args := [d1, d2] }
  | _ => none }
def agendaTillRow : OpenClaim := { program := "ytocdpfdnnijdkaa", sum := "c42ddda79c752d42a05972348e6054a6f1e0109cd58ec25cf0fdfa01397b855c", func := "pacemaker/pacemakerlaw29.AgendaTill", spec := "agendaTill", unfollowed := true, recurses := true, apart := false }
def AgendaTillSaid : Prop := agendaTillRow.holds Try.pinned (OpenSpec.ofChange agendaTillSpec)

/-- ITS FALSE NEIGHBOUR: 'it returns false'. Refute it at one input. -/
def agendaTillWrong : ChangeSpec := { name := "agendaTill", fn := fun _ => fun
  | [d1, d2] => { results := [.lit (.bool false)], args := [d1, d2] }
  | _ => none }
def AgendaTillWrongFalsely : Prop := agendaTillRow.holds Try.pinned (OpenSpec.ofChange agendaTillWrong)

/- THE SECOND FORM. 'bulk': how many values and letters a reading holds, each counted each time it is reached (what is shared counts as often as it is met; a slice's spare places count too). A statement '..UptoSaid' is the law's where the arguments, and the package variables that the reading takes, are together of bulk at most 1048576: NARROWER than '..Said'. Prove '..Said' where nothing that the law and all that it calls make is longer than what came in: it says more and counts as full. Else prove '..UptoSaid'. A law counts once. -/
mutual
def uptoBulk {H : Type} : DataW H → Nat
  | .lit (.string bytes) => bytes.length + 1
  | .lit _ => 1
  | .nil => 1
  | .ptr d => uptoBulk d + 1
  | .slice elems spare => uptoBulkAll elems + uptoBulkAll spare + 1
  | .agg parts => uptoBulkAll parts + 1
  | .iface _ d => uptoBulk d + 1
  | .map entries => uptoBulkEntries entries + 1
  | .held _ => 1
def uptoBulkAll {H : Type} : List (DataW H) → Nat
  | [] => 0
  | d :: r => uptoBulk d + uptoBulkAll r
def uptoBulkEntries {H : Type} : List (Lit × DataW H) → Nat
  | [] => 0
  | x :: r => uptoBulkEntry x + uptoBulkEntries r
def uptoBulkEntry {H : Type} : Lit × DataW H → Nat
  | (.string bytes, d) => bytes.length + uptoBulk d + 1
  | (_, d) => uptoBulk d + 1
 end
def uptoSmall : (H : Type) → List (DataW H) → Bool := fun _ ds => decide (uptoBulkAll ds ≤ 1048576)
def OpenSpec.upto (s : _root_.Go.ChangeSpec) : _root_.Go.OpenSpec := { _root_.Go.OpenSpec.ofChange s with cond := some uptoSmall }

/-- 'pacemakerlaw29.AgendaFull', WHERE WHAT IT READS IS OF BULK AT MOST 1048576: true; the input reads as it did. -/
def agendaFullUptoRow : OpenClaim := { program := "ytocdpfdnnijdkaa", sum := "c42ddda79c752d42a05972348e6054a6f1e0109cd58ec25cf0fdfa01397b855c", func := "pacemaker/pacemakerlaw29.AgendaFull", spec := "agendaFull", unfollowed := true, recurses := true, apart := false, narrowed := true }
def AgendaFullUptoSaid : Prop := agendaFullUptoRow.holds Try.pinned (OpenSpec.upto agendaFullSpec)

/-- 'pacemakerlaw29.AgendaDoes', WHERE WHAT IT READS IS OF BULK AT MOST 1048576: true; the input reads as it did. -/
def agendaDoesUptoRow : OpenClaim := { program := "ytocdpfdnnijdkaa", sum := "c42ddda79c752d42a05972348e6054a6f1e0109cd58ec25cf0fdfa01397b855c", func := "pacemaker/pacemakerlaw29.AgendaDoes", spec := "agendaDoes", unfollowed := true, recurses := true, apart := false, narrowed := true }
def AgendaDoesUptoSaid : Prop := agendaDoesUptoRow.holds Try.pinned (OpenSpec.upto agendaDoesSpec)

/-- 'pacemakerlaw29.AgendaSorts', WHERE WHAT IT READS IS OF BULK AT MOST 1048576: true; the input reads as it did. -/
def agendaSortsUptoRow : OpenClaim := { program := "ytocdpfdnnijdkaa", sum := "c42ddda79c752d42a05972348e6054a6f1e0109cd58ec25cf0fdfa01397b855c", func := "pacemaker/pacemakerlaw29.AgendaSorts", spec := "agendaSorts", unfollowed := true, recurses := true, apart := false, narrowed := true }
def AgendaSortsUptoSaid : Prop := agendaSortsUptoRow.holds Try.pinned (OpenSpec.upto agendaSortsSpec)

/-- 'pacemakerlaw29.AgendaTill', WHERE WHAT IT READS IS OF BULK AT MOST 1048576: true; the input reads as it did. -/
def agendaTillUptoRow : OpenClaim := { program := "ytocdpfdnnijdkaa", sum := "c42ddda79c752d42a05972348e6054a6f1e0109cd58ec25cf0fdfa01397b855c", func := "pacemaker/pacemakerlaw29.AgendaTill", spec := "agendaTill", unfollowed := true, recurses := true, apart := false, narrowed := true }
def AgendaTillUptoSaid : Prop := agendaTillUptoRow.holds Try.pinned (OpenSpec.upto agendaTillSpec)

end Rows
end Go.Proofs.Ytocdpfdnnijdkaa
