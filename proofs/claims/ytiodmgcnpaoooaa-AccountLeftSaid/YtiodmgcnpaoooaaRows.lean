/-
  No cell of these rows narrows 'for every input' (looked for: loops, veiled, ifaces, maps, wideKeys, modest, calm, conditions, laid).
  DERIVED. THE GIVEN ROWS OF THIS SEAT. 4 by the template 'for every input the law returns true; each argument reads behind the call as it read before'; 0 by the template 'total and deterministic' (their statements: YtiodmgcnpaoooaaTotals.lean).
  GIVEN WITH THE SEED: the statements are not yours to turn. If you find one false, say at which input.
  Laid BY PROGRAM, IN A SANDBOX (cutbox-rows.mjs): the forced cells as the released guide's own fill.sh prints them over the translation 4acc7a8090904794… (all of the seat's roots in one cut). By AI agents, Wed Nov 11 2026. No macro, syntax, notation, axiom, sorry.
-/
import Derived.Test.YtiodmgcnpaoooaaChecked
import GoSem.Claim
import GoSem.ClaimJoined
import GoSem.ClaimMapViews
import Derived.JoinedTies
import Derived.KernelRfl
namespace Go.Proofs.Ytiodmgcnpaoooaa
/- THE CELL 'sum', in the pinned program and in every row, IS THE sha256 OF THE DUMP (.gsa) THAT YtiodmgcnpaoooaaProg.lean LOADS. Nothing in Lean hashes anything: it is a label: what it is worth is what the hold of that sum in a sandbox is worth. -/
noncomputable def Try.pinned : Pinned := { name := "ytiodmgcnpaoooaa", sum := "4acc7a8090904794dc28a31cd9725e0512ea13d81c2b63e8c03c1ea312ae6ffd", checked := Try.checked }
namespace Rows
def none {H : Type} : Left H := { results := [], args := [] }

/-- 'pacemakerlaw09.AccountDoes': WHATEVER THE INPUT: true; the input reads as it did. -/
def accountDoesSpec : ChangeSpec := { name := "accountDoes", fn := fun _ => fun
  | [d1, d2, d3, d4] => { results := [.lit (.bool true)], args := [d1, d2, d3, d4] }
  | _ => none }
def accountDoesRow : OpenClaim := { program := "ytiodmgcnpaoooaa", sum := "4acc7a8090904794dc28a31cd9725e0512ea13d81c2b63e8c03c1ea312ae6ffd", func := "pacemaker/pacemakerlaw09.AccountDoes", spec := "accountDoes", unfollowed := true, recurses := true, apart := false }
def AccountDoesSaid : Prop := accountDoesRow.holds Try.pinned (OpenSpec.ofChange accountDoesSpec)

/-- ITS FALSE NEIGHBOUR: 'it returns false'. Refute it at one input. -/
def accountDoesWrong : ChangeSpec := { name := "accountDoes", fn := fun _ => fun
  | [d1, d2, d3, d4] => { results := [.lit (.bool false)], args := [d1, d2, d3, d4] }
  | _ => none }
def AccountDoesWrongFalsely : Prop := accountDoesRow.holds Try.pinned (OpenSpec.ofChange accountDoesWrong)

/-- 'pacemakerlaw09.AccountSums': WHATEVER THE INPUT: true; the input reads as it did. -/
def accountSumsSpec : ChangeSpec := { name := "accountSums", fn := fun _ => fun
  | [d1, d2, d3] => { results := [.lit (.bool true)], args := [d1, d2, d3] }
  | _ => none }
def accountSumsRow : OpenClaim := { program := "ytiodmgcnpaoooaa", sum := "4acc7a8090904794dc28a31cd9725e0512ea13d81c2b63e8c03c1ea312ae6ffd", func := "pacemaker/pacemakerlaw09.AccountSums", spec := "accountSums", unfollowed := true, recurses := true, apart := false }
def AccountSumsSaid : Prop := accountSumsRow.holds Try.pinned (OpenSpec.ofChange accountSumsSpec)

/-- ITS FALSE NEIGHBOUR: 'it returns false'. Refute it at one input. -/
def accountSumsWrong : ChangeSpec := { name := "accountSums", fn := fun _ => fun
  | [d1, d2, d3] => { results := [.lit (.bool false)], args := [d1, d2, d3] }
  | _ => none }
def AccountSumsWrongFalsely : Prop := accountSumsRow.holds Try.pinned (OpenSpec.ofChange accountSumsWrong)

/-- 'pacemakerlaw09.AccountOrder': WHATEVER THE INPUT: true; the input reads as it did. -/
def accountOrderSpec : ChangeSpec := { name := "accountOrder", fn := fun _ => fun
  | [d1, d2, d3] => { results := [.lit (.bool true)], args := [d1, d2, d3] }
  | _ => none }
def accountOrderRow : OpenClaim := { program := "ytiodmgcnpaoooaa", sum := "4acc7a8090904794dc28a31cd9725e0512ea13d81c2b63e8c03c1ea312ae6ffd", func := "pacemaker/pacemakerlaw09.AccountOrder", spec := "accountOrder", unfollowed := true, recurses := true, apart := false }
def AccountOrderSaid : Prop := accountOrderRow.holds Try.pinned (OpenSpec.ofChange accountOrderSpec)

/-- ITS FALSE NEIGHBOUR: 'it returns false'. Refute it at one input. -/
def accountOrderWrong : ChangeSpec := { name := "accountOrder", fn := fun _ => fun
  | [d1, d2, d3] => { results := [.lit (.bool false)], args := [d1, d2, d3] }
  | _ => none }
def AccountOrderWrongFalsely : Prop := accountOrderRow.holds Try.pinned (OpenSpec.ofChange accountOrderWrong)

/-- 'pacemakerlaw09.AccountLeft': WHATEVER THE INPUT: true; the input reads as it did. -/
def accountLeftSpec : ChangeSpec := { name := "accountLeft", fn := fun _ => fun
  | [d1, d2] => { results := [.lit (.bool true)], args := [d1, d2] }
  | _ => none }
def accountLeftRow : OpenClaim := { program := "ytiodmgcnpaoooaa", sum := "4acc7a8090904794dc28a31cd9725e0512ea13d81c2b63e8c03c1ea312ae6ffd", func := "pacemaker/pacemakerlaw09.AccountLeft", spec := "accountLeft", unfollowed := true, recurses := true, apart := false }
def AccountLeftSaid : Prop := accountLeftRow.holds Try.pinned (OpenSpec.ofChange accountLeftSpec)

/-- ITS FALSE NEIGHBOUR: 'it returns false'. Refute it at one input. -/
def accountLeftWrong : ChangeSpec := { name := "accountLeft", fn := fun _ => fun
  | [d1, d2] => { results := [.lit (.bool false)], args := [d1, d2] }
  | _ => none }
def AccountLeftWrongFalsely : Prop := accountLeftRow.holds Try.pinned (OpenSpec.ofChange accountLeftWrong)

/- THE SECOND FORM. 'bulk': how many values and letters a reading holds, each counted each time it is reached (what is shared counts as often as it is met; a slice's spare places count too). A statement '..UptoSaid' is the law's where the arguments, and the package variables that the reading takes, are together of bulk at most 1048576: NARROWER than '..Said'. Prove '..Said' where nothing that the law and all that it calls make is longer than what came in: it says more and counts as full. Else prove '..UptoSaid'. A law counts once. -/
mutual
def uptoBulk {H : Type} : DataW H → Nat
  | .lit (.string bytes) => bytes.length + 1
  | .lit _ => 1
  | .nil => 1
  | .ptr d => uptoBulk d + 1
  | .slice elems spare => uptoBulkAll elems + uptoBulkAll spare + 1
  | .agg parts => uptoBulkAll parts + 1
  | .iface _ d => uptoBulk d + 1
  | .map entries => uptoBulkEntries entries + 1
  | .held _ => 1
def uptoBulkAll {H : Type} : List (DataW H) → Nat
  | [] => 0
  | d :: r => uptoBulk d + uptoBulkAll r
def uptoBulkEntries {H : Type} : List (Lit × DataW H) → Nat
  | [] => 0
  | x :: r => uptoBulkEntry x + uptoBulkEntries r
def uptoBulkEntry {H : Type} : Lit × DataW H → Nat
  | (.string bytes, d) => bytes.length + uptoBulk d + 1
  | (_, d) => uptoBulk d + 1
 end
def uptoSmall : (H : Type) → List (DataW H) → Bool := fun _ ds => decide (uptoBulkAll ds ≤ 1048576)
def OpenSpec.upto (s : _root_.Go.ChangeSpec) : _root_.Go.OpenSpec := { _root_.Go.OpenSpec.ofChange s with cond := some uptoSmall }

/-- 'pacemakerlaw09.AccountDoes', WHERE WHAT IT READS IS OF BULK AT MOST 1048576: true; the input reads as it did. -/
def accountDoesUptoRow : OpenClaim := { program := "ytiodmgcnpaoooaa", sum := "4acc7a8090904794dc28a31cd9725e0512ea13d81c2b63e8c03c1ea312ae6ffd", func := "pacemaker/pacemakerlaw09.AccountDoes", spec := "accountDoes", unfollowed := true, recurses := true, apart := false, narrowed := true }
def AccountDoesUptoSaid : Prop := accountDoesUptoRow.holds Try.pinned (OpenSpec.upto accountDoesSpec)

/-- 'pacemakerlaw09.AccountSums', WHERE WHAT IT READS IS OF BULK AT MOST 1048576: true; the input reads as it did. -/
def accountSumsUptoRow : OpenClaim := { program := "ytiodmgcnpaoooaa", sum := "4acc7a8090904794dc28a31cd9725e0512ea13d81c2b63e8c03c1ea312ae6ffd", func := "pacemaker/pacemakerlaw09.AccountSums", spec := "accountSums", unfollowed := true, recurses := true, apart := false, narrowed := true }
def AccountSumsUptoSaid : Prop := accountSumsUptoRow.holds Try.pinned (OpenSpec.upto accountSumsSpec)

/-- 'pacemakerlaw09.AccountOrder', WHERE WHAT IT READS IS OF BULK AT MOST 1048576: true; the input reads as it did. -/
def accountOrderUptoRow : OpenClaim := { program := "ytiodmgcnpaoooaa", sum := "4acc7a8090904794dc28a31cd9725e0512ea13d81c2b63e8c03c1ea312ae6ffd", func := "pacemaker/pacemakerlaw09.AccountOrder", spec := "accountOrder", unfollowed := true, recurses := true, apart := false, narrowed := true }
def AccountOrderUptoSaid : Prop := accountOrderUptoRow.holds Try.pinned (OpenSpec.upto accountOrderSpec)

/-- 'pacemakerlaw09.AccountLeft', WHERE WHAT IT READS IS OF BULK AT MOST 1048576: true; the input reads as it did. -/
def accountLeftUptoRow : OpenClaim := { program := "ytiodmgcnpaoooaa", sum := "4acc7a8090904794dc28a31cd9725e0512ea13d81c2b63e8c03c1ea312ae6ffd", func := "pacemaker/pacemakerlaw09.AccountLeft", spec := "accountLeft", unfollowed := true, recurses := true, apart := false, narrowed := true }
def AccountLeftUptoSaid : Prop := accountLeftUptoRow.holds Try.pinned (OpenSpec.upto accountLeftSpec)

end Rows
end Go.Proofs.Ytiodmgcnpaoooaa
