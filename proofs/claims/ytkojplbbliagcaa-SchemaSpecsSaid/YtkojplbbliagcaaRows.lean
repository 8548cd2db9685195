/-
  No cell of these rows narrows 'for every input' (looked for: loops, veiled, ifaces, maps, wideKeys, modest, calm, conditions, laid).
  DERIVED. THE GIVEN ROWS OF THIS SEAT. 4 by the template 'for every input the law returns true; each argument reads behind the call as it read before'; 0 by the template 'total and deterministic' (their statements: YtkojplbbliagcaaTotals.lean).
  GIVEN WITH THE SEED: the statements are not yours to turn. If you find one false, say at which input.
  Laid BY PROGRAM, IN A SANDBOX (cutbox-rows.mjs): the forced cells as the released guide's own fill.sh prints them over the translation 3daa1d4d180e397a… (all of the seat's roots in one cut). By AI agents, Wed Nov 11 2026. No macro, syntax, notation, axiom, sorry.
-/
import Derived.Test.YtkojplbbliagcaaChecked
import GoSem.Claim
import GoSem.ClaimJoined
import GoSem.ClaimMapViews
import Derived.JoinedTies
import Derived.KernelRfl
namespace Go.Proofs.Ytkojplbbliagcaa
/- THE CELL 'sum', in the pinned program and in every row, IS THE sha256 OF THE DUMP (.gsa) THAT YtkojplbbliagcaaProg.lean LOADS. Nothing in Lean hashes anything: it is a label: what it is worth is what the hold of that sum in a sandbox is worth. -/
noncomputable def Try.pinned : Pinned := { name := "ytkojplbbliagcaa", sum := "3daa1d4d180e397a4c36a8b429ef84483f88a469ccc7d34fe88dddae00f6ace2", checked := Try.checked }
namespace Rows
def none {H : Type} : Left H := { results := [], args := [] }

/-- 'dioramalaw07.SchemaSpecs': WHATEVER THE INPUT: true; the input reads as it did. -/
def schemaSpecsSpec : ChangeSpec := { name := "schemaSpecs", fn := fun _ => fun
  | [d] => { results := [.lit (.bool true)], args := [d] }
  | _ => none }
def schemaSpecsRow : OpenClaim := { program := "ytkojplbbliagcaa", sum := "3daa1d4d180e397a4c36a8b429ef84483f88a469ccc7d34fe88dddae00f6ace2", func := "diorama/dioramalaw07.SchemaSpecs", spec := "schemaSpecs", apart := false }
def SchemaSpecsSaid : Prop := schemaSpecsRow.holds Try.pinned (OpenSpec.ofChange schemaSpecsSpec)

/-- ITS FALSE NEIGHBOUR: 'it returns false'. Refute it at one input. -/
def schemaSpecsWrong : ChangeSpec := { name := "schemaSpecs", fn := fun _ => fun
  | [d] => { results := [.lit (.bool false)], args := [d] }
  | _ => none }
def SchemaSpecsWrongFalsely : Prop := schemaSpecsRow.holds Try.pinned (OpenSpec.ofChange schemaSpecsWrong)

/-- 'dioramalaw07.SchemaClasses': WHATEVER THE INPUT: true; the input reads as it did. -/
def schemaClassesSpec : ChangeSpec := { name := "schemaClasses", fn := fun _ => fun
  | [d1, d2] => { results := [.lit (.bool true)], args := [d1, d2] }
  | _ => none }
def schemaClassesRow : OpenClaim := { program := "ytkojplbbliagcaa", sum := "3daa1d4d180e397a4c36a8b429ef84483f88a469ccc7d34fe88dddae00f6ace2", func := "diorama/dioramalaw07.SchemaClasses", spec := "schemaClasses", apart := false }
def SchemaClassesSaid : Prop := schemaClassesRow.holds Try.pinned (OpenSpec.ofChange schemaClassesSpec)

/-- ITS FALSE NEIGHBOUR: 'it returns false'. Refute it at one input. -/
def schemaClassesWrong : ChangeSpec := { name := "schemaClasses", fn := fun _ => fun
  | [d1, d2] => { results := [.lit (.bool false)], args := [d1, d2] }
  | _ => none }
def SchemaClassesWrongFalsely : Prop := schemaClassesRow.holds Try.pinned (OpenSpec.ofChange schemaClassesWrong)

/-- 'dioramalaw07.SchemaNested': WHATEVER THE INPUT: true; the input reads as it did. -/
def schemaNestedSpec : ChangeSpec := { name := "schemaNested", fn := fun _ => fun
  | [d] => { results := [.lit (.bool true)], args := [d] }
  | _ => none }
def schemaNestedRow : OpenClaim := { program := "ytkojplbbliagcaa", sum := "3daa1d4d180e397a4c36a8b429ef84483f88a469ccc7d34fe88dddae00f6ace2", func := "diorama/dioramalaw07.SchemaNested", spec := "schemaNested", apart := false }
def SchemaNestedSaid : Prop := schemaNestedRow.holds Try.pinned (OpenSpec.ofChange schemaNestedSpec)

/-- ITS FALSE NEIGHBOUR: 'it returns false'. Refute it at one input. -/
def schemaNestedWrong : ChangeSpec := { name := "schemaNested", fn := fun _ => fun
  | [d] => { results := [.lit (.bool false)], args := [d] }
  | _ => none }
def SchemaNestedWrongFalsely : Prop := schemaNestedRow.holds Try.pinned (OpenSpec.ofChange schemaNestedWrong)

/-- 'dioramalaw07.SchemaNames': WHATEVER THE INPUT: true; the input reads as it did. -/
def schemaNamesSpec : ChangeSpec := { name := "schemaNames", fn := fun _ => fun
  | [d1, d2] => { results := [.lit (.bool true)], args := [d1, d2] }
  | _ => none }
def schemaNamesRow : OpenClaim := { program := "ytkojplbbliagcaa", sum := "3daa1d4d180e397a4c36a8b429ef84483f88a469ccc7d34fe88dddae00f6ace2", func := "diorama/dioramalaw07.SchemaNames", spec := "schemaNames", apart := false }
def SchemaNamesSaid : Prop := schemaNamesRow.holds Try.pinned (OpenSpec.ofChange schemaNamesSpec)

/-- ITS FALSE NEIGHBOUR: 'it returns false'. Refute it at one input. -/
def schemaNamesWrong : ChangeSpec := { name := "schemaNames", fn := fun _ => fun
  | [d1, d2] => { results := [.lit (.bool false)], args := [d1, d2] }
  | _ => none }
def SchemaNamesWrongFalsely : Prop := schemaNamesRow.holds Try.pinned (OpenSpec.ofChange schemaNamesWrong)

/- THE SECOND FORM. 'bulk': how many values and letters a reading holds, each counted each time it is reached (what is shared counts as often as it is met; a slice's spare places count too). A statement '..UptoSaid' is the law's where the arguments, and the package variables that the reading takes, are together of bulk at most 1048576: NARROWER than '..Said'. Prove '..Said' where nothing that the law and all that it calls make is longer than what came in: it says more and counts as full. Else prove '..UptoSaid'. A law counts once. -/
mutual
def uptoBulk {H : Type} : DataW H → Nat
  | .lit (.string bytes) => bytes.length + 1
  | .lit _ => 1
  | .nil => 1
  | .ptr d => uptoBulk d + 1
  | .slice elems spare => uptoBulkAll elems + uptoBulkAll spare + 1
  | .agg parts => uptoBulkAll parts + 1
  | .iface _ d => uptoBulk d + 1
  | .map entries => uptoBulkEntries entries + 1
  | .held _ => 1
def uptoBulkAll {H : Type} : List (DataW H) → Nat
  | [] => 0
  | d :: r => uptoBulk d + uptoBulkAll r
def uptoBulkEntries {H : Type} : List (Lit × DataW H) → Nat
  | [] => 0
  | x :: r => uptoBulkEntry x + uptoBulkEntries r
def uptoBulkEntry {H : Type} : Lit × DataW H → Nat
  | (.string bytes, d) => bytes.length + uptoBulk d + 1
  | (_, d) => uptoBulk d + 1
 end
def uptoSmall : (H : Type) → List (DataW H) → Bool := fun _ ds => decide (uptoBulkAll ds ≤ 1048576)
def OpenSpec.upto (s : _root_.Go.ChangeSpec) : _root_.Go.OpenSpec := { _root_.Go.OpenSpec.ofChange s with cond := some uptoSmall }

/-- 'dioramalaw07.SchemaSpecs', WHERE WHAT IT READS IS OF BULK AT MOST 1048576: true; the input reads as it did. -/
def schemaSpecsUptoRow : OpenClaim := { program := "ytkojplbbliagcaa", sum := "3daa1d4d180e397a4c36a8b429ef84483f88a469ccc7d34fe88dddae00f6ace2", func := "diorama/dioramalaw07.SchemaSpecs", spec := "schemaSpecs", apart := false, narrowed := true }
def SchemaSpecsUptoSaid : Prop := schemaSpecsUptoRow.holds Try.pinned (OpenSpec.upto schemaSpecsSpec)

/-- 'dioramalaw07.SchemaClasses', WHERE WHAT IT READS IS OF BULK AT MOST 1048576: true; the input reads as it did. -/
def schemaClassesUptoRow : OpenClaim := { program := "ytkojplbbliagcaa", sum := "3daa1d4d180e397a4c36a8b429ef84483f88a469ccc7d34fe88dddae00f6ace2", func := "diorama/dioramalaw07.SchemaClasses", spec := "schemaClasses", apart := false, narrowed := true }
def SchemaClassesUptoSaid : Prop := schemaClassesUptoRow.holds Try.pinned (OpenSpec.upto schemaClassesSpec)

/-- 'dioramalaw07.SchemaNested', WHERE WHAT IT READS IS OF BULK AT MOST 1048576: true; the input reads as it did. -/
def schemaNestedUptoRow : OpenClaim := { program := "ytkojplbbliagcaa", sum := "3daa1d4d180e397a4c36a8b429ef84483f88a469ccc7d34fe88dddae00f6ace2", func := "diorama/dioramalaw07.SchemaNested", spec := "schemaNested", apart := false, narrowed := true }
def SchemaNestedUptoSaid : Prop := schemaNestedUptoRow.holds Try.pinned (OpenSpec.upto schemaNestedSpec)

/-- 'dioramalaw07.SchemaNames', WHERE WHAT IT READS IS OF BULK AT MOST 1048576: true; the input reads as it did. -/
def schemaNamesUptoRow : OpenClaim := { program := "ytkojplbbliagcaa", sum := "3daa1d4d180e397a4c36a8b429ef84483f88a469ccc7d34fe88dddae00f6ace2", func := "diorama/dioramalaw07.SchemaNames", spec := "schemaNames", apart := false, narrowed := true }
def SchemaNamesUptoSaid : Prop := schemaNamesUptoRow.holds Try.pinned (OpenSpec.upto schemaNamesSpec)

end Rows
end Go.Proofs.Ytkojplbbliagcaa
