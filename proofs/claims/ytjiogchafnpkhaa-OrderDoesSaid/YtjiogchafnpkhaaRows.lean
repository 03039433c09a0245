/-
  No cell of these rows narrows 'for every input' (looked for: loops, veiled, ifaces, maps, wideKeys, modest, calm, conditions, laid).
  DERIVED. THE GIVEN ROWS OF THIS SEAT. 9 by the template 'for every input the law returns true; each argument reads behind the call as it read before'; 0 by the template 'total and deterministic' (their statements: YtjiogchafnpkhaaTotals.lean).
  GIVEN WITH THE SEED: the statements are not yours to turn. If you find one false, say at which input.
  Laid BY PROGRAM, IN A SANDBOX (cutbox-rows.mjs): the forced cells as the released guide's own fill.sh prints them over the translation ab5b9bbbc51f56c6… (all of the seat's roots in one cut). By AI agents, Wed Nov 11 2026. No macro, syntax, notation, axiom, sorry.
-/
import Derived.Test.YtjiogchafnpkhaaChecked
import GoSem.Claim
import GoSem.ClaimJoined
import GoSem.ClaimMapViews
import Derived.JoinedTies
import Derived.KernelRfl
namespace Go.Proofs.Ytjiogchafnpkhaa
/- THE CELL 'sum', in the pinned program and in every row, IS THE sha256 OF THE DUMP (.gsa) THAT YtjiogchafnpkhaaProg.lean LOADS. Nothing in Lean hashes anything: it is a label: what it is worth is what the hold of that sum in a sandbox is worth. -/
noncomputable def Try.pinned : Pinned := { name := "ytjiogchafnpkhaa", sum := "ab5b9bbbc51f56c6f9721afa211699dd18e7304505f91b43ef2285625b3dbead", checked := Try.checked }
namespace Rows
def none {H : Type} : Left H := { results := [], args := [] }

/-- 'pacemakerlaw06.DrawDoes': WHATEVER THE INPUT: true; the input reads as it did. -/
def drawDoesSpec : ChangeSpec := { name := "drawDoes", fn := fun _ => fun
  | [d1, d2, d3] => { results := [.lit (.bool true)], args := [d1, d2, d3] }
  | _ => none }
def drawDoesRow : OpenClaim := { program := "ytjiogchafnpkhaa", sum := "ab5b9bbbc51f56c6f9721afa211699dd18e7304505f91b43ef2285625b3dbead", func := "pacemaker/pacemakerlaw06.DrawDoes", spec := "drawDoes", unfollowed := true, recurses := true, apart := false }
def DrawDoesSaid : Prop := drawDoesRow.holds Try.pinned (OpenSpec.ofChange drawDoesSpec)

/-- ITS FALSE NEIGHBOUR: 'it returns false'. Refute it at one input. -/
def drawDoesWrong : ChangeSpec := { name := "drawDoes", fn := fun _ => fun
  | [d1, d2, d3] => { results := [.lit (.bool false)], args := [d1, d2, d3] }
  | _ => none }
def DrawDoesWrongFalsely : Prop := drawDoesRow.holds Try.pinned (OpenSpec.ofChange drawDoesWrong)

/-- 'pacemakerlaw06.DrawTapes': WHATEVER THE INPUT: true; the input reads as it did. -/
def drawTapesSpec : ChangeSpec := { name := "drawTapes", fn := fun _ => fun
  | [d1, d2] => { results := [.lit (.bool true)], args := [d1, d2] }
  | _ => none }
def drawTapesRow : OpenClaim := { program := "ytjiogchafnpkhaa", sum := "ab5b9bbbc51f56c6f9721afa211699dd18e7304505f91b43ef2285625b3dbead", func := "pacemaker/pacemakerlaw06.DrawTapes", spec := "drawTapes", unfollowed := true, recurses := true, apart := false }
def DrawTapesSaid : Prop := drawTapesRow.holds Try.pinned (OpenSpec.ofChange drawTapesSpec)

/-- ITS FALSE NEIGHBOUR: 'it returns false'. Refute it at one input. -/
def drawTapesWrong : ChangeSpec := { name := "drawTapes", fn := fun _ => fun
  | [d1, d2] => { results := [.lit (.bool false)], args := [d1, d2] }
  | _ => none }
def DrawTapesWrongFalsely : Prop := drawTapesRow.holds Try.pinned (OpenSpec.ofChange drawTapesWrong)

/-- 'pacemakerlaw06.DrawJoins': WHATEVER THE INPUT: true; the input reads as it did. -/
def drawJoinsSpec : ChangeSpec := { name := "drawJoins", fn := fun _ => fun
  | [d1, d2, d3] => { results := [.lit (.bool true)], args := [d1, d2, d3] }
  | _ => none }
def drawJoinsRow : OpenClaim := { program := "ytjiogchafnpkhaa", sum := "ab5b9bbbc51f56c6f9721afa211699dd18e7304505f91b43ef2285625b3dbead", func := "pacemaker/pacemakerlaw06.DrawJoins", spec := "drawJoins", unfollowed := true, recurses := true, apart := false }
def DrawJoinsSaid : Prop := drawJoinsRow.holds Try.pinned (OpenSpec.ofChange drawJoinsSpec)

/-- ITS FALSE NEIGHBOUR: 'it returns false'. Refute it at one input. -/
def drawJoinsWrong : ChangeSpec := { name := "drawJoins", fn := fun _ => fun
  | [d1, d2, d3] => { results := [.lit (.bool false)], args := [d1, d2, d3] }
  | _ => none }
def DrawJoinsWrongFalsely : Prop := drawJoinsRow.holds Try.pinned (OpenSpec.ofChange drawJoinsWrong)

/-- 'pacemakerlaw06.DrawWithin': WHATEVER THE INPUT: true; the input reads as it did. -/
def drawWithinSpec : ChangeSpec := { name := "drawWithin", fn := fun _ => fun
  | [d1, d2, d3, d4] => { results := [.lit (.bool true)], args := [d1, d2, d3, d4] }
  | _ => none }
def drawWithinRow : OpenClaim := { program := "ytjiogchafnpkhaa", sum := "ab5b9bbbc51f56c6f9721afa211699dd18e7304505f91b43ef2285625b3dbead", func := "pacemaker/pacemakerlaw06.DrawWithin", spec := "drawWithin", unfollowed := true, recurses := true, apart := false }
def DrawWithinSaid : Prop := drawWithinRow.holds Try.pinned (OpenSpec.ofChange drawWithinSpec)

/-- ITS FALSE NEIGHBOUR: 'it returns false'. Refute it at one input. -/
def drawWithinWrong : ChangeSpec := { name := "drawWithin", fn := fun _ => fun
  | [d1, d2, d3, d4] => { results := [.lit (.bool false)], args := [d1, d2, d3, d4] }
  | _ => none }
def DrawWithinWrongFalsely : Prop := drawWithinRow.holds Try.pinned (OpenSpec.ofChange drawWithinWrong)

/-- 'pacemakerlaw06.DrawMany': WHATEVER THE INPUT: true; the input reads as it did. -/
def drawManySpec : ChangeSpec := { name := "drawMany", fn := fun _ => fun
  | [d1, d2, d3, d4] => { results := [.lit (.bool true)], args := [d1, d2, d3, d4] }
  | _ => none }
def drawManyRow : OpenClaim := { program := "ytjiogchafnpkhaa", sum := "ab5b9bbbc51f56c6f9721afa211699dd18e7304505f91b43ef2285625b3dbead", func := "pacemaker/pacemakerlaw06.DrawMany", spec := "drawMany", unfollowed := true, recurses := true, apart := false }
def DrawManySaid : Prop := drawManyRow.holds Try.pinned (OpenSpec.ofChange drawManySpec)

/-- ITS FALSE NEIGHBOUR: 'it returns false'. Refute it at one input. -/
def drawManyWrong : ChangeSpec := { name := "drawMany", fn := fun _ => fun
  | [d1, d2, d3, d4] => { results := [.lit (.bool false)], args := [d1, d2, d3, d4] }
  | _ => none }
def DrawManyWrongFalsely : Prop := drawManyRow.holds Try.pinned (OpenSpec.ofChange drawManyWrong)

/-- 'pacemakerlaw07.OrderBack': WHATEVER THE INPUT: true; the input reads as it did. -/
def orderBackSpec : ChangeSpec := { name := "orderBack", fn := fun _ => fun
  | [d1, d2, d3] => { results := [.lit (.bool true)], args := [d1, d2, d3] }
  | _ => none }
def orderBackRow : OpenClaim := { program := "ytjiogchafnpkhaa", sum := "ab5b9bbbc51f56c6f9721afa211699dd18e7304505f91b43ef2285625b3dbead", func := "pacemaker/pacemakerlaw07.OrderBack", spec := "orderBack", unfollowed := true, recurses := true, apart := false }
def OrderBackSaid : Prop := orderBackRow.holds Try.pinned (OpenSpec.ofChange orderBackSpec)

/-- ITS FALSE NEIGHBOUR: 'it returns false'. Refute it at one input. -/
def orderBackWrong : ChangeSpec := { name := "orderBack", fn := fun _ => fun
  | [d1, d2, d3] => { results := [.lit (.bool false)], args := [d1, d2, d3] }
  | _ => none }
def OrderBackWrongFalsely : Prop := orderBackRow.holds Try.pinned (OpenSpec.ofChange orderBackWrong)

/-- 'pacemakerlaw07.OrderPlaces': WHATEVER THE INPUT: true; the input reads as it did. -/
def orderPlacesSpec : ChangeSpec := { name := "orderPlaces", fn := fun _ => fun
  | [d1, d2] => { results := [.lit (.bool true)], args := [d1, d2] }
  | _ => none }
def orderPlacesRow : OpenClaim := { program := "ytjiogchafnpkhaa", sum := "ab5b9bbbc51f56c6f9721afa211699dd18e7304505f91b43ef2285625b3dbead", func := "pacemaker/pacemakerlaw07.OrderPlaces", spec := "orderPlaces", unfollowed := true, recurses := true, apart := false }
def OrderPlacesSaid : Prop := orderPlacesRow.holds Try.pinned (OpenSpec.ofChange orderPlacesSpec)

/-- ITS FALSE NEIGHBOUR: 'it returns false'. Refute it at one input. -/
def orderPlacesWrong : ChangeSpec := { name := "orderPlaces", fn := fun _ => fun
  | [d1, d2] => { results := [.lit (.bool false)], args := [d1, d2] }
  | _ => none }
def OrderPlacesWrongFalsely : Prop := orderPlacesRow.holds Try.pinned (OpenSpec.ofChange orderPlacesWrong)

/-- 'pacemakerlaw07.OrderDoes': WHATEVER THE INPUT: true; the input reads as it did. -/
def orderDoesSpec : ChangeSpec := { name := "orderDoes", fn := fun _ => fun
  | [d1, d2, d3, d4] => { results := [.lit (.bool true)], args := [d1, d2, d3, d4] }
  | _ => none }
def orderDoesRow : OpenClaim := { program := "ytjiogchafnpkhaa", sum := "ab5b9bbbc51f56c6f9721afa211699dd18e7304505f91b43ef2285625b3dbead", func := "pacemaker/pacemakerlaw07.OrderDoes", spec := "orderDoes", unfollowed := true, recurses := true, apart := false }
def OrderDoesSaid : Prop := orderDoesRow.holds Try.pinned (OpenSpec.ofChange orderDoesSpec)

/-- ITS FALSE NEIGHBOUR: 'it returns false'. Refute it at one input. -/
def orderDoesWrong : ChangeSpec := { name := "orderDoes", fn := fun _ => fun
  | [d1, d2, d3, d4] => { results := [.lit (.bool false)], args := [d1, d2, d3, d4] }
  | _ => none }
def OrderDoesWrongFalsely : Prop := orderDoesRow.holds Try.pinned (OpenSpec.ofChange orderDoesWrong)

/-- 'pacemakerlaw07.OrderHalves': WHATEVER THE INPUT: true; the input reads as it did. -/
def orderHalvesSpec : ChangeSpec := { name := "orderHalves", fn := fun _ => fun
  | [d] => { results := [.lit (.bool true)], args := [d] }
  | _ => none }
def orderHalvesRow : OpenClaim := { program := "ytjiogchafnpkhaa", sum := "ab5b9bbbc51f56c6f9721afa211699dd18e7304505f91b43ef2285625b3dbead", func := "pacemaker/pacemakerlaw07.OrderHalves", spec := "orderHalves", unfollowed := true, recurses := true, apart := false }
def OrderHalvesSaid : Prop := orderHalvesRow.holds Try.pinned (OpenSpec.ofChange orderHalvesSpec)

/-- ITS FALSE NEIGHBOUR: 'it returns false'. Refute it at one input. -/
def orderHalvesWrong : ChangeSpec := { name := "orderHalves", fn := fun _ => fun
  | [d] => { results := [.lit (.bool false)], args := [d] }
  | _ => none }
def OrderHalvesWrongFalsely : Prop := orderHalvesRow.holds Try.pinned (OpenSpec.ofChange orderHalvesWrong)

/- THE SECOND FORM. 'bulk': how many values and letters a reading holds, each counted each time it is reached (what is shared counts as often as it is met; a slice's spare places count too). A statement '..UptoSaid' is the law's where the arguments, and the package variables that the reading takes, are together of bulk at most 1048576: NARROWER than '..Said'. Prove '..Said' where nothing that the law and all that it calls make is longer than what came in: it says more and counts as full. Else prove '..UptoSaid'. A law counts once. -/
mutual
def uptoBulk {H : Type} : DataW H → Nat
  | .lit (.string bytes) => bytes.length + 1
  | .lit _ => 1
  | .nil => 1
  | .ptr d => uptoBulk d + 1
  | .slice elems spare => uptoBulkAll elems + uptoBulkAll spare + 1
  | .agg parts => uptoBulkAll parts + 1
  | .iface _ d => uptoBulk d + 1
  | .map entries => uptoBulkEntries entries + 1
  | .held _ => 1
def uptoBulkAll {H : Type} : List (DataW H) → Nat
  | [] => 0
  | d :: r => uptoBulk d + uptoBulkAll r
def uptoBulkEntries {H : Type} : List (Lit × DataW H) → Nat
  | [] => 0
  | x :: r => uptoBulkEntry x + uptoBulkEntries r
def uptoBulkEntry {H : Type} : Lit × DataW H → Nat
  | (.string bytes, d) => bytes.length + uptoBulk d + 1
  | (_, d) => uptoBulk d + 1
 end
def uptoSmall : (H : Type) → List (DataW H) → Bool := fun _ ds => decide (uptoBulkAll ds ≤ 1048576)
def OpenSpec.upto (s : _root_.Go.ChangeSpec) : _root_.Go.OpenSpec := { _root_.Go.OpenSpec.ofChange s with cond := some uptoSmall }

/-- 'pacemakerlaw06.DrawDoes', WHERE WHAT IT READS IS OF BULK AT MOST 1048576: true; the input reads as it did. -/
def drawDoesUptoRow : OpenClaim := { program := "ytjiogchafnpkhaa", sum := "ab5b9bbbc51f56c6f9721afa211699dd18e7304505f91b43ef2285625b3dbead", func := "pacemaker/pacemakerlaw06.DrawDoes", spec := "drawDoes", unfollowed := true, recurses := true, apart := false, narrowed := true }
def DrawDoesUptoSaid : Prop := drawDoesUptoRow.holds Try.pinned (OpenSpec.upto drawDoesSpec)

/-- 'pacemakerlaw06.DrawTapes', WHERE WHAT IT READS IS OF BULK AT MOST 1048576: true; the input reads as it did. -/
def drawTapesUptoRow : OpenClaim := { program := "ytjiogchafnpkhaa", sum := "ab5b9bbbc51f56c6f9721afa211699dd18e7304505f91b43ef2285625b3dbead", func := "pacemaker/pacemakerlaw06.DrawTapes", spec := "drawTapes", unfollowed := true, recurses := true, apart := false, narrowed := true }
def DrawTapesUptoSaid : Prop := drawTapesUptoRow.holds Try.pinned (OpenSpec.upto drawTapesSpec)

/-- 'pacemakerlaw06.DrawJoins', WHERE WHAT IT READS IS OF BULK AT MOST 1048576: true; the input reads as it did. -/
def drawJoinsUptoRow : OpenClaim := { program := "ytjiogchafnpkhaa", sum := "ab5b9bbbc51f56c6f9721afa211699dd18e7304505f91b43ef2285625b3dbead", func := "pacemaker/pacemakerlaw06.DrawJoins", spec := "drawJoins", unfollowed := true, recurses := true, apart := false, narrowed := true }
def DrawJoinsUptoSaid : Prop := drawJoinsUptoRow.holds Try.pinned (OpenSpec.upto drawJoinsSpec)

/-- 'pacemakerlaw06.DrawWithin', WHERE WHAT IT READS IS OF BULK AT MOST 1048576: true; the input reads as it did. -/
def drawWithinUptoRow : OpenClaim := { program := "ytjiogchafnpkhaa", sum := "ab5b9bbbc51f56c6f9721afa211699dd18e7304505f91b43ef2285625b3dbead", func := "pacemaker/pacemakerlaw06.DrawWithin", spec := "drawWithin", unfollowed := true, recurses := true, apart := false, narrowed := true }
def DrawWithinUptoSaid : Prop := drawWithinUptoRow.holds Try.pinned (OpenSpec.upto drawWithinSpec)

/-- 'pacemakerlaw06.DrawMany', WHERE WHAT IT READS IS OF BULK AT MOST 1048576: true; the input reads as it did. -/
def drawManyUptoRow : OpenClaim := { program := "ytjiogchafnpkhaa", sum := "ab5b9bbbc51f56c6f9721afa211699dd18e7304505f91b43ef2285625b3dbead", func := "pacemaker/pacemakerlaw06.DrawMany", spec := "drawMany", unfollowed := true, recurses := true, apart := false, narrowed := true }
def DrawManyUptoSaid : Prop := drawManyUptoRow.holds Try.pinned (OpenSpec.upto drawManySpec)

/-- 'pacemakerlaw07.OrderBack', WHERE WHAT IT READS IS OF BULK AT MOST 1048576: true; the input reads as it did. -/
def orderBackUptoRow : OpenClaim := { program := "ytjiogchafnpkhaa", sum := "ab5b9bbbc51f56c6f9721afa211699dd18e7304505f91b43ef2285625b3dbead", func := "pacemaker/pacemakerlaw07.OrderBack", spec := "orderBack", unfollowed := true, recurses := true, apart := false, narrowed := true }
def OrderBackUptoSaid : Prop := orderBackUptoRow.holds Try.pinned (OpenSpec.upto orderBackSpec)

/-- 'pacemakerlaw07.OrderPlaces', WHERE WHAT IT READS IS OF BULK AT MOST 1048576: true; the input reads as it did. -/
def orderPlacesUptoRow : OpenClaim := { program := "ytjiogchafnpkhaa", sum := "ab5b9bbbc51f56c6f9721afa211699dd18e7304505f91b43ef2285625b3dbead", func := "pacemaker/pacemakerlaw07.OrderPlaces", spec := "orderPlaces", unfollowed := true, recurses := true, apart := false, narrowed := true }
def OrderPlacesUptoSaid : Prop := orderPlacesUptoRow.holds Try.pinned (OpenSpec.upto orderPlacesSpec)

/-- 'pacemakerlaw07.OrderDoes', WHERE WHAT IT READS IS OF BULK AT MOST 1048576: true; the input reads as it did. -/
def orderDoesUptoRow : OpenClaim := { program := "ytjiogchafnpkhaa", sum := "ab5b9bbbc51f56c6f9721afa211699dd18e7304505f91b43ef2285625b3dbead", func := "pacemaker/pacemakerlaw07.OrderDoes", spec := "orderDoes", unfollowed := true, recurses := true, apart := false, narrowed := true }
def OrderDoesUptoSaid : Prop := orderDoesUptoRow.holds Try.pinned (OpenSpec.upto orderDoesSpec)

/-- 'pacemakerlaw07.OrderHalves', WHERE WHAT IT READS IS OF BULK AT MOST 1048576: true; the input reads as it did. -/
def orderHalvesUptoRow : OpenClaim := { program := "ytjiogchafnpkhaa", sum := "ab5b9bbbc51f56c6f9721afa211699dd18e7304505f91b43ef2285625b3dbead", func := "pacemaker/pacemakerlaw07.OrderHalves", spec := "orderHalves", unfollowed := true, recurses := true, apart := false, narrowed := true }
def OrderHalvesUptoSaid : Prop := orderHalvesUptoRow.holds Try.pinned (OpenSpec.upto orderHalvesSpec)

end Rows
end Go.Proofs.Ytjiogchafnpkhaa
