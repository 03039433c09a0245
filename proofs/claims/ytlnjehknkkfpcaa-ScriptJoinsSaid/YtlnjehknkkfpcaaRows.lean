/-
  No cell of these rows narrows 'for every input' (looked for: loops, veiled, ifaces, maps, wideKeys, modest, calm, conditions, laid).
  DERIVED. THE GIVEN ROWS OF THIS SEAT. 4 by the template 'for every input the law returns true; each argument reads behind the call as it read before'; 0 by the template 'total and deterministic' (their statements: YtlnjehknkkfpcaaTotals.lean).
  GIVEN WITH THE SEED: the statements are not yours to turn. If you find one false, say at which input.
  Laid BY PROGRAM, IN A SANDBOX (cutbox-rows.mjs): the forced cells as the released guide's own fill.sh prints them over the translation ea236b0580e3bcac… (all of the seat's roots in one cut). By AI agents, Wed Nov 11 2026. No macro, syntax, notation, axiom, sorry.
-/
import Derived.Test.YtlnjehknkkfpcaaChecked
import GoSem.Claim
import GoSem.ClaimJoined
import GoSem.ClaimMapViews
import Derived.JoinedTies
import Derived.KernelRfl
namespace Go.Proofs.Ytlnjehknkkfpcaa
/- THE CELL 'sum', in the pinned program and in every row, IS THE sha256 OF THE DUMP (.gsa) THAT YtlnjehknkkfpcaaProg.lean LOADS. Nothing in Lean hashes anything: it is a label: what it is worth is what the hold of that sum in a sandbox is worth. -/
noncomputable def Try.pinned : Pinned := { name := "ytlnjehknkkfpcaa", sum := "ea236b0580e3bcacc8e6795d0714f9c8406f075ba6b568f865c4578ce9f0b846", checked := Try.checked }
namespace Rows
def none {H : Type} : Left H := { results := [], args := [] }

/-- 'pacemakerlaw30.ScriptDoes': WHATEVER THE INPUT: true; the input reads as it did. -/
def scriptDoesSpec : ChangeSpec := { name := "scriptDoes", fn := fun _ => fun
  | [d1, d2, d3, d4] => { results := [.lit (.bool true)], args := [d1, d2, d3, d4] }
  | _ => none }
def scriptDoesRow : OpenClaim := { program := "ytlnjehknkkfpcaa", sum := "ea236b0580e3bcacc8e6795d0714f9c8406f075ba6b568f865c4578ce9f0b846", func := "pacemaker/pacemakerlaw30.ScriptDoes", spec := "scriptDoes", apart := false }
def ScriptDoesSaid : Prop := scriptDoesRow.holds Try.pinned (OpenSpec.ofChange scriptDoesSpec)

/-- ITS FALSE NEIGHBOUR: 'it returns false'. Refute it at one input. -/
def scriptDoesWrong : ChangeSpec := { name := "scriptDoes", fn := fun _ => fun
  | [d1, d2, d3, d4] => { results := [.lit (.bool false)], args := [d1, d2, d3, d4] }
  | _ => none }
def ScriptDoesWrongFalsely : Prop := scriptDoesRow.holds Try.pinned (OpenSpec.ofChange scriptDoesWrong)

/-- 'pacemakerlaw30.ScriptTotal': WHATEVER THE INPUT: true; the input reads as it did. -/
def scriptTotalSpec : ChangeSpec := { name := "scriptTotal", fn := fun _ => fun
  | [d1, d2] => { results := [.lit (.bool true)], args := [d1, d2] }
  | _ => none }
def scriptTotalRow : OpenClaim := { program := "ytlnjehknkkfpcaa", sum := "ea236b0580e3bcacc8e6795d0714f9c8406f075ba6b568f865c4578ce9f0b846", func := "pacemaker/pacemakerlaw30.ScriptTotal", spec := "scriptTotal", apart := false }
def ScriptTotalSaid : Prop := scriptTotalRow.holds Try.pinned (OpenSpec.ofChange scriptTotalSpec)

/-- ITS FALSE NEIGHBOUR: 'it returns false'. Refute it at one input. -/
def scriptTotalWrong : ChangeSpec := { name := "scriptTotal", fn := fun _ => fun
  | [d1, d2] => { results := [.lit (.bool false)], args := [d1, d2] }
  | _ => none }
def ScriptTotalWrongFalsely : Prop := scriptTotalRow.holds Try.pinned (OpenSpec.ofChange scriptTotalWrong)

/-- 'pacemakerlaw30.ScriptBack': WHATEVER THE INPUT: true; the input reads as it did. -/
def scriptBackSpec : ChangeSpec := { name := "scriptBack", fn := fun _ => fun
  | [d1, d2, d3] => { results := [.lit (.bool true)], args := [d1, d2, d3] }
  | _ => none }
def scriptBackRow : OpenClaim := { program := "ytlnjehknkkfpcaa", sum := "ea236b0580e3bcacc8e6795d0714f9c8406f075ba6b568f865c4578ce9f0b846", func := "pacemaker/pacemakerlaw30.ScriptBack", spec := "scriptBack", apart := false }
def ScriptBackSaid : Prop := scriptBackRow.holds Try.pinned (OpenSpec.ofChange scriptBackSpec)

/-- ITS FALSE NEIGHBOUR: 'it returns false'. Refute it at one input. -/
def scriptBackWrong : ChangeSpec := { name := "scriptBack", fn := fun _ => fun
  | [d1, d2, d3] => { results := [.lit (.bool false)], args := [d1, d2, d3] }
  | _ => none }
def ScriptBackWrongFalsely : Prop := scriptBackRow.holds Try.pinned (OpenSpec.ofChange scriptBackWrong)

/-- 'pacemakerlaw30.ScriptJoins': WHATEVER THE INPUT: true; the input reads as it did. -/
def scriptJoinsSpec : ChangeSpec := { name := "scriptJoins", fn := fun _ => fun
  | [d1, d2, d3] => { results := [.lit (.bool true)], args := [d1, d2, d3] }
  | _ => none }
def scriptJoinsRow : OpenClaim := { program := "ytlnjehknkkfpcaa", sum := "ea236b0580e3bcacc8e6795d0714f9c8406f075ba6b568f865c4578ce9f0b846", func := "pacemaker/pacemakerlaw30.ScriptJoins", spec := "scriptJoins", apart := false }
def ScriptJoinsSaid : Prop := scriptJoinsRow.holds Try.pinned (OpenSpec.ofChange scriptJoinsSpec)

/-- ITS FALSE NEIGHBOUR: 'it returns false'. Refute it at one input. -/
def scriptJoinsWrong : ChangeSpec := { name := "scriptJoins", fn := fun _ => fun
  | [d1, d2, d3] => { results := [.lit (.bool false)], args := [d1, d2, d3] }
  | _ => none }
def ScriptJoinsWrongFalsely : Prop := scriptJoinsRow.holds Try.pinned (OpenSpec.ofChange scriptJoinsWrong)

/- THE SECOND FORM. 'bulk': how many values and letters a reading holds, each counted each time it is reached (what is shared counts as often as it is met; a slice's spare places count too). A statement '..UptoSaid' is the law's where the arguments, and the package variables that the reading takes, are together of bulk at most 1048576: NARROWER than '..Said'. Prove '..Said' where nothing that the law and all that it calls make is longer than what came in: it says more and counts as full. Else prove '..UptoSaid'. A law counts once. -/
mutual
def uptoBulk {H : Type} : DataW H → Nat
  | .lit (.string bytes) => bytes.length + 1
  | .lit _ => 1
  | .nil => 1
  | .ptr d => uptoBulk d + 1
  | .slice elems spare => uptoBulkAll elems + uptoBulkAll spare + 1
  | .agg parts => uptoBulkAll parts + 1
  | .iface _ d => uptoBulk d + 1
  | .map entries => uptoBulkEntries entries + 1
  | .held _ => 1
def uptoBulkAll {H : Type} : List (DataW H) → Nat
  | [] => 0
  | d :: r => uptoBulk d + uptoBulkAll r
def uptoBulkEntries {H : Type} : List (Lit × DataW H) → Nat
  | [] => 0
  | x :: r => uptoBulkEntry x + uptoBulkEntries r
def uptoBulkEntry {H : Type} : Lit × DataW H → Nat
  | (.string bytes, d) => bytes.length + uptoBulk d + 1
  | (_, d) => uptoBulk d + 1
 end
def uptoSmall : (H : Type) → List (DataW H) → Bool := fun _ ds => decide (uptoBulkAll ds ≤ 1048576)
def OpenSpec.upto (s : _root_.Go.ChangeSpec) : _root_.Go.OpenSpec := { _root_.Go.OpenSpec.ofChange s with cond := some uptoSmall }

/-- 'pacemakerlaw30.ScriptDoes', WHERE WHAT IT READS IS OF BULK AT MOST 1048576: true; the input reads as it did. -/
def scriptDoesUptoRow : OpenClaim := { program := "ytlnjehknkkfpcaa", sum := "ea236b0580e3bcacc8e6795d0714f9c8406f075ba6b568f865c4578ce9f0b846", func := "pacemaker/pacemakerlaw30.ScriptDoes", spec := "scriptDoes", apart := false, narrowed := true }
def ScriptDoesUptoSaid : Prop := scriptDoesUptoRow.holds Try.pinned (OpenSpec.upto scriptDoesSpec)

/-- 'pacemakerlaw30.ScriptTotal', WHERE WHAT IT READS IS OF BULK AT MOST 1048576: true; the input reads as it did. -/
def scriptTotalUptoRow : OpenClaim := { program := "ytlnjehknkkfpcaa", sum := "ea236b0580e3bcacc8e6795d0714f9c8406f075ba6b568f865c4578ce9f0b846", func := "pacemaker/pacemakerlaw30.ScriptTotal", spec := "scriptTotal", apart := false, narrowed := true }
def ScriptTotalUptoSaid : Prop := scriptTotalUptoRow.holds Try.pinned (OpenSpec.upto scriptTotalSpec)

/-- 'pacemakerlaw30.ScriptBack', WHERE WHAT IT READS IS OF BULK AT MOST 1048576: true; the input reads as it did. -/
def scriptBackUptoRow : OpenClaim := { program := "ytlnjehknkkfpcaa", sum := "ea236b0580e3bcacc8e6795d0714f9c8406f075ba6b568f865c4578ce9f0b846", func := "pacemaker/pacemakerlaw30.ScriptBack", spec := "scriptBack", apart := false, narrowed := true }
def ScriptBackUptoSaid : Prop := scriptBackUptoRow.holds Try.pinned (OpenSpec.upto scriptBackSpec)

/-- 'pacemakerlaw30.ScriptJoins', WHERE WHAT IT READS IS OF BULK AT MOST 1048576: true; the input reads as it did. -/
def scriptJoinsUptoRow : OpenClaim := { program := "ytlnjehknkkfpcaa", sum := "ea236b0580e3bcacc8e6795d0714f9c8406f075ba6b568f865c4578ce9f0b846", func := "pacemaker/pacemakerlaw30.ScriptJoins", spec := "scriptJoins", apart := false, narrowed := true }
def ScriptJoinsUptoSaid : Prop := scriptJoinsUptoRow.holds Try.pinned (OpenSpec.upto scriptJoinsSpec)

end Rows
end Go.Proofs.Ytlnjehknkkfpcaa
