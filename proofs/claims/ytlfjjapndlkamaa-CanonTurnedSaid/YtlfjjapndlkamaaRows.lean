/-
  No cell of these rows narrows 'for every input' (looked for: loops, veiled, ifaces, maps, wideKeys, modest, calm, conditions, laid).
  DERIVED. THE GIVEN ROWS OF THIS SEAT. 11 by the template 'for every input the law returns true; each argument reads behind the call as it read before'; 0 by the template 'total and deterministic' (their statements: YtlfjjapndlkamaaTotals.lean).
  GIVEN WITH THE SEED: the statements are not yours to turn. If you find one false, say at which input.
  Laid BY PROGRAM, IN A SANDBOX (cutbox-rows.mjs): the forced cells as the released guide's own fill.sh prints them over the translation 2e77468ed26473fc… (all of the seat's roots in one cut). By AI agents, Wed Nov 11 2026. No macro, syntax, notation, axiom, sorry.
-/
import Derived.Test.YtlfjjapndlkamaaChecked
import GoSem.Claim
import GoSem.ClaimJoined
import GoSem.ClaimMapViews
import Derived.JoinedTies
import Derived.KernelRfl
namespace Go.Proofs.Ytlfjjapndlkamaa
/- THE CELL 'sum', in the pinned program and in every row, IS THE sha256 OF THE DUMP (.gsa) THAT YtlfjjapndlkamaaProg.lean LOADS. Nothing in Lean hashes anything: it is a label: what it is worth is what the hold of that sum in a sandbox is worth. -/
noncomputable def Try.pinned : Pinned := { name := "ytlfjjapndlkamaa", sum := "2e77468ed26473fc8972ff5c42f0d33bd8cfb3495498c10022585b8cb62aeda6", checked := Try.checked }
namespace Rows
def none {H : Type} : Left H := { results := [], args := [] }

/-- 'dioramalaw10.CanonMakes': WHATEVER THE INPUT: true; the input reads as it did. -/
def canonMakesSpec : ChangeSpec := { name := "canonMakes", fn := fun _ => fun
  | [d] => { results := [.lit (.bool true)], args := [d] }
  | _ => none }
def canonMakesRow : OpenClaim := { program := "ytlfjjapndlkamaa", sum := "2e77468ed26473fc8972ff5c42f0d33bd8cfb3495498c10022585b8cb62aeda6", func := "diorama/dioramalaw10.CanonMakes", spec := "canonMakes", unfollowed := true, recurses := true, apart := false }
def CanonMakesSaid : Prop := canonMakesRow.holds Try.pinned (OpenSpec.ofChange canonMakesSpec)

/-- ITS FALSE NEIGHBOUR: 'it returns false'. Refute it at one input. -/
def canonMakesWrong : ChangeSpec := { name := "canonMakes", fn := fun _ => fun
  | [d] => { results := [.lit (.bool false)], args := [d] }
  | _ => none }
def CanonMakesWrongFalsely : Prop := canonMakesRow.holds Try.pinned (OpenSpec.ofChange canonMakesWrong)

/-- 'dioramalaw10.CanonTells': WHATEVER THE INPUT: true; the input reads as it did. -/
def canonTellsSpec : ChangeSpec := { name := "canonTells", fn := fun _ => fun
  | [d] => { results := [.lit (.bool true)], args := [d] }
  | _ => none }
def canonTellsRow : OpenClaim := { program := "ytlfjjapndlkamaa", sum := "2e77468ed26473fc8972ff5c42f0d33bd8cfb3495498c10022585b8cb62aeda6", func := "diorama/dioramalaw10.CanonTells", spec := "canonTells", unfollowed := true, recurses := true, apart := false }
def CanonTellsSaid : Prop := canonTellsRow.holds Try.pinned (OpenSpec.ofChange canonTellsSpec)

/-- ITS FALSE NEIGHBOUR: 'it returns false'. Refute it at one input. -/
def canonTellsWrong : ChangeSpec := { name := "canonTells", fn := fun _ => fun
  | [d] => { results := [.lit (.bool false)], args := [d] }
  | _ => none }
def CanonTellsWrongFalsely : Prop := canonTellsRow.holds Try.pinned (OpenSpec.ofChange canonTellsWrong)

/-- 'dioramalaw10.CanonOnce': WHATEVER THE INPUT: true; the input reads as it did. -/
def canonOnceSpec : ChangeSpec := { name := "canonOnce", fn := fun _ => fun
  | [d] => { results := [.lit (.bool true)], args := [d] }
  | _ => none }
def canonOnceRow : OpenClaim := { program := "ytlfjjapndlkamaa", sum := "2e77468ed26473fc8972ff5c42f0d33bd8cfb3495498c10022585b8cb62aeda6", func := "diorama/dioramalaw10.CanonOnce", spec := "canonOnce", unfollowed := true, recurses := true, apart := false }
def CanonOnceSaid : Prop := canonOnceRow.holds Try.pinned (OpenSpec.ofChange canonOnceSpec)

/-- ITS FALSE NEIGHBOUR: 'it returns false'. Refute it at one input. -/
def canonOnceWrong : ChangeSpec := { name := "canonOnce", fn := fun _ => fun
  | [d] => { results := [.lit (.bool false)], args := [d] }
  | _ => none }
def CanonOnceWrongFalsely : Prop := canonOnceRow.holds Try.pinned (OpenSpec.ofChange canonOnceWrong)

/-- 'dioramalaw10.CanonTurned': WHATEVER THE INPUT: true; the input reads as it did. -/
def canonTurnedSpec : ChangeSpec := { name := "canonTurned", fn := fun _ => fun
  | [d1, d2, d3] => { results := [.lit (.bool true)], args := [d1, d2, d3] }
  | _ => none }
def canonTurnedRow : OpenClaim := { program := "ytlfjjapndlkamaa", sum := "2e77468ed26473fc8972ff5c42f0d33bd8cfb3495498c10022585b8cb62aeda6", func := "diorama/dioramalaw10.CanonTurned", spec := "canonTurned", unfollowed := true, recurses := true, apart := false }
def CanonTurnedSaid : Prop := canonTurnedRow.holds Try.pinned (OpenSpec.ofChange canonTurnedSpec)

/-- ITS FALSE NEIGHBOUR: 'it returns false'. Refute it at one input. -/
def canonTurnedWrong : ChangeSpec := { name := "canonTurned", fn := fun _ => fun
  | [d1, d2, d3] => { results := [.lit (.bool false)], args := [d1, d2, d3] }
  | _ => none }
def CanonTurnedWrongFalsely : Prop := canonTurnedRow.holds Try.pinned (OpenSpec.ofChange canonTurnedWrong)

/-- 'dioramalaw10.CanonApart': WHATEVER THE INPUT: true; the input reads as it did. -/
def canonApartSpec : ChangeSpec := { name := "canonApart", fn := fun _ => fun
  | [d1, d2, d3] => { results := [.lit (.bool true)], args := [d1, d2, d3] }
  | _ => none }
def canonApartRow : OpenClaim := { program := "ytlfjjapndlkamaa", sum := "2e77468ed26473fc8972ff5c42f0d33bd8cfb3495498c10022585b8cb62aeda6", func := "diorama/dioramalaw10.CanonApart", spec := "canonApart", unfollowed := true, recurses := true, apart := false }
def CanonApartSaid : Prop := canonApartRow.holds Try.pinned (OpenSpec.ofChange canonApartSpec)

/-- ITS FALSE NEIGHBOUR: 'it returns false'. Refute it at one input. -/
def canonApartWrong : ChangeSpec := { name := "canonApart", fn := fun _ => fun
  | [d1, d2, d3] => { results := [.lit (.bool false)], args := [d1, d2, d3] }
  | _ => none }
def CanonApartWrongFalsely : Prop := canonApartRow.holds Try.pinned (OpenSpec.ofChange canonApartWrong)

/-- 'dioramalaw10.CanonKeeps': WHATEVER THE INPUT: true; the input reads as it did. -/
def canonKeepsSpec : ChangeSpec := { name := "canonKeeps", fn := fun _ => fun
  | [d] => { results := [.lit (.bool true)], args := [d] }
  | _ => none }
def canonKeepsRow : OpenClaim := { program := "ytlfjjapndlkamaa", sum := "2e77468ed26473fc8972ff5c42f0d33bd8cfb3495498c10022585b8cb62aeda6", func := "diorama/dioramalaw10.CanonKeeps", spec := "canonKeeps", unfollowed := true, recurses := true, apart := false }
def CanonKeepsSaid : Prop := canonKeepsRow.holds Try.pinned (OpenSpec.ofChange canonKeepsSpec)

/-- ITS FALSE NEIGHBOUR: 'it returns false'. Refute it at one input. -/
def canonKeepsWrong : ChangeSpec := { name := "canonKeeps", fn := fun _ => fun
  | [d] => { results := [.lit (.bool false)], args := [d] }
  | _ => none }
def CanonKeepsWrongFalsely : Prop := canonKeepsRow.holds Try.pinned (OpenSpec.ofChange canonKeepsWrong)

/-- 'dioramalaw09.GraphChecks': WHATEVER THE INPUT: true; the input reads as it did. -/
def graphChecksSpec : ChangeSpec := { name := "graphChecks", fn := fun _ => fun
  | [d] => { results := [.lit (.bool true)], args := [d] }
  | _ => none }
def graphChecksRow : OpenClaim := { program := "ytlfjjapndlkamaa", sum := "2e77468ed26473fc8972ff5c42f0d33bd8cfb3495498c10022585b8cb62aeda6", func := "diorama/dioramalaw09.GraphChecks", spec := "graphChecks", unfollowed := true, recurses := true, apart := false }
def GraphChecksSaid : Prop := graphChecksRow.holds Try.pinned (OpenSpec.ofChange graphChecksSpec)

/-- ITS FALSE NEIGHBOUR: 'it returns false'. Refute it at one input. -/
def graphChecksWrong : ChangeSpec := { name := "graphChecks", fn := fun _ => fun
  | [d] => { results := [.lit (.bool false)], args := [d] }
  | _ => none }
def GraphChecksWrongFalsely : Prop := graphChecksRow.holds Try.pinned (OpenSpec.ofChange graphChecksWrong)

/-- 'dioramalaw09.GraphBelow': WHATEVER THE INPUT: true; the input reads as it did. -/
def graphBelowSpec : ChangeSpec := { name := "graphBelow", fn := fun _ => fun
  | [d1, d2] => { results := [.lit (.bool true)], args := [d1, d2] }
  | _ => none }
def graphBelowRow : OpenClaim := { program := "ytlfjjapndlkamaa", sum := "2e77468ed26473fc8972ff5c42f0d33bd8cfb3495498c10022585b8cb62aeda6", func := "diorama/dioramalaw09.GraphBelow", spec := "graphBelow", unfollowed := true, recurses := true, apart := false }
def GraphBelowSaid : Prop := graphBelowRow.holds Try.pinned (OpenSpec.ofChange graphBelowSpec)

/-- ITS FALSE NEIGHBOUR: 'it returns false'. Refute it at one input. -/
def graphBelowWrong : ChangeSpec := { name := "graphBelow", fn := fun _ => fun
  | [d1, d2] => { results := [.lit (.bool false)], args := [d1, d2] }
  | _ => none }
def GraphBelowWrongFalsely : Prop := graphBelowRow.holds Try.pinned (OpenSpec.ofChange graphBelowWrong)

/-- 'dioramalaw09.GraphDepth': WHATEVER THE INPUT: true; the input reads as it did. -/
def graphDepthSpec : ChangeSpec := { name := "graphDepth", fn := fun _ => fun
  | [d] => { results := [.lit (.bool true)], args := [d] }
  | _ => none }
def graphDepthRow : OpenClaim := { program := "ytlfjjapndlkamaa", sum := "2e77468ed26473fc8972ff5c42f0d33bd8cfb3495498c10022585b8cb62aeda6", func := "diorama/dioramalaw09.GraphDepth", spec := "graphDepth", unfollowed := true, recurses := true, apart := false }
def GraphDepthSaid : Prop := graphDepthRow.holds Try.pinned (OpenSpec.ofChange graphDepthSpec)

/-- ITS FALSE NEIGHBOUR: 'it returns false'. Refute it at one input. -/
def graphDepthWrong : ChangeSpec := { name := "graphDepth", fn := fun _ => fun
  | [d] => { results := [.lit (.bool false)], args := [d] }
  | _ => none }
def GraphDepthWrongFalsely : Prop := graphDepthRow.holds Try.pinned (OpenSpec.ofChange graphDepthWrong)

/-- 'dioramalaw09.GraphLoose': WHATEVER THE INPUT: true; the input reads as it did. -/
def graphLooseSpec : ChangeSpec := { name := "graphLoose", fn := fun _ => fun
  | [d1, d2] => { results := [.lit (.bool true)], args := [d1, d2] }
  | _ => none }
def graphLooseRow : OpenClaim := { program := "ytlfjjapndlkamaa", sum := "2e77468ed26473fc8972ff5c42f0d33bd8cfb3495498c10022585b8cb62aeda6", func := "diorama/dioramalaw09.GraphLoose", spec := "graphLoose", unfollowed := true, recurses := true, apart := false }
def GraphLooseSaid : Prop := graphLooseRow.holds Try.pinned (OpenSpec.ofChange graphLooseSpec)

/-- ITS FALSE NEIGHBOUR: 'it returns false'. Refute it at one input. -/
def graphLooseWrong : ChangeSpec := { name := "graphLoose", fn := fun _ => fun
  | [d1, d2] => { results := [.lit (.bool false)], args := [d1, d2] }
  | _ => none }
def GraphLooseWrongFalsely : Prop := graphLooseRow.holds Try.pinned (OpenSpec.ofChange graphLooseWrong)

/-- 'dioramalaw09.GraphTurned': WHATEVER THE INPUT: true; the input reads as it did. -/
def graphTurnedSpec : ChangeSpec := { name := "graphTurned", fn := fun _ => fun
  | [d] => { results := [.lit (.bool true)], args := [d] }
  | _ => none }
def graphTurnedRow : OpenClaim := { program := "ytlfjjapndlkamaa", sum := "2e77468ed26473fc8972ff5c42f0d33bd8cfb3495498c10022585b8cb62aeda6", func := "diorama/dioramalaw09.GraphTurned", spec := "graphTurned", unfollowed := true, recurses := true, apart := false }
def GraphTurnedSaid : Prop := graphTurnedRow.holds Try.pinned (OpenSpec.ofChange graphTurnedSpec)

/-- ITS FALSE NEIGHBOUR: 'it returns false'. Refute it at one input. -/
def graphTurnedWrong : ChangeSpec := { name := "graphTurned", fn := fun _ => fun
  | [d] => { results := [.lit (.bool false)], args := [d] }
  | _ => none }
def GraphTurnedWrongFalsely : Prop := graphTurnedRow.holds Try.pinned (OpenSpec.ofChange graphTurnedWrong)

/- THE SECOND FORM. 'bulk': how many values and letters a reading holds, each counted each time it is reached (what is shared counts as often as it is met; a slice's spare places count too). A statement '..UptoSaid' is the law's where the arguments, and the package variables that the reading takes, are together of bulk at most 1048576: NARROWER than '..Said'. Prove '..Said' where nothing that the law and all that it calls make is longer than what came in: it says more and counts as full. Else prove '..UptoSaid'. A law counts once. -/
mutual
def uptoBulk {H : Type} : DataW H → Nat
  | .lit (.string bytes) => bytes.length + 1
  | .lit _ => 1
  | .nil => 1
  | .ptr d => uptoBulk d + 1
  | .slice elems spare => uptoBulkAll elems + uptoBulkAll spare + 1
  | .agg parts => uptoBulkAll parts + 1
  | .iface _ d => uptoBulk d + 1
  | .map entries => uptoBulkEntries entries + 1
  | .held _ => 1
def uptoBulkAll {H : Type} : List (DataW H) → Nat
  | [] => 0
  | d :: r => uptoBulk d + uptoBulkAll r
def uptoBulkEntries {H : Type} : List (Lit × DataW H) → Nat
  | [] => 0
  | x :: r => uptoBulkEntry x + uptoBulkEntries r
def uptoBulkEntry {H : Type} : Lit × DataW H → Nat
  | (.string bytes, d) => bytes.length + uptoBulk d + 1
  | (_, d) => uptoBulk d + 1
 end
def uptoSmall : (H : Type) → List (DataW H) → Bool := fun _ ds => decide (uptoBulkAll ds ≤ 1048576)
def OpenSpec.upto (s : _root_.Go.ChangeSpec) : _root_.Go.OpenSpec := { _root_.Go.OpenSpec.ofChange s with cond := some uptoSmall }

/-- 'dioramalaw10.CanonMakes', WHERE WHAT IT READS IS OF BULK AT MOST 1048576: true; the input reads as it did. -/
def canonMakesUptoRow : OpenClaim := { program := "ytlfjjapndlkamaa", sum := "2e77468ed26473fc8972ff5c42f0d33bd8cfb3495498c10022585b8cb62aeda6", func := "diorama/dioramalaw10.CanonMakes", spec := "canonMakes", unfollowed := true, recurses := true, apart := false, narrowed := true }
def CanonMakesUptoSaid : Prop := canonMakesUptoRow.holds Try.pinned (OpenSpec.upto canonMakesSpec)

/-- 'dioramalaw10.CanonTells', WHERE WHAT IT READS IS OF BULK AT MOST 1048576: true; the input reads as it did. -/
def canonTellsUptoRow : OpenClaim := { program := "ytlfjjapndlkamaa", sum := "2e77468ed26473fc8972ff5c42f0d33bd8cfb3495498c10022585b8cb62aeda6", func := "diorama/dioramalaw10.CanonTells", spec := "canonTells", unfollowed := true, recurses := true, apart := false, narrowed := true }
def CanonTellsUptoSaid : Prop := canonTellsUptoRow.holds Try.pinned (OpenSpec.upto canonTellsSpec)

/-- 'dioramalaw10.CanonOnce', WHERE WHAT IT READS IS OF BULK AT MOST 1048576: true; the input reads as it did. -/
def canonOnceUptoRow : OpenClaim := { program := "ytlfjjapndlkamaa", sum := "2e77468ed26473fc8972ff5c42f0d33bd8cfb3495498c10022585b8cb62aeda6", func := "diorama/dioramalaw10.CanonOnce", spec := "canonOnce", unfollowed := true, recurses := true, apart := false, narrowed := true }
def CanonOnceUptoSaid : Prop := canonOnceUptoRow.holds Try.pinned (OpenSpec.upto canonOnceSpec)

/-- 'dioramalaw10.CanonTurned', WHERE WHAT IT READS IS OF BULK AT MOST 1048576: true; the input reads as it did. -/
def canonTurnedUptoRow : OpenClaim := { program := "ytlfjjapndlkamaa", sum := "2e77468ed26473fc8972ff5c42f0d33bd8cfb3495498c10022585b8cb62aeda6", func := "diorama/dioramalaw10.CanonTurned", spec := "canonTurned", unfollowed := true, recurses := true, apart := false, narrowed := true }
def CanonTurnedUptoSaid : Prop := canonTurnedUptoRow.holds Try.pinned (OpenSpec.upto canonTurnedSpec)

/-- 'dioramalaw10.CanonApart', WHERE WHAT IT READS IS OF BULK AT MOST 1048576: true; the input reads as it did. -/
def canonApartUptoRow : OpenClaim := { program := "ytlfjjapndlkamaa", sum := "2e77468ed26473fc8972ff5c42f0d33bd8cfb3495498c10022585b8cb62aeda6", func := "diorama/dioramalaw10.CanonApart", spec := "canonApart", unfollowed := true, recurses := true, apart := false, narrowed := true }
def CanonApartUptoSaid : Prop := canonApartUptoRow.holds Try.pinned (OpenSpec.upto canonApartSpec)

/-- 'dioramalaw10.CanonKeeps', WHERE WHAT IT READS IS OF BULK AT MOST 1048576: true; the input reads as it did. -/
def canonKeepsUptoRow : OpenClaim := { program := "ytlfjjapndlkamaa", sum := "2e77468ed26473fc8972ff5c42f0d33bd8cfb3495498c10022585b8cb62aeda6", func := "diorama/dioramalaw10.CanonKeeps", spec := "canonKeeps", unfollowed := true, recurses := true, apart := false, narrowed := true }
def CanonKeepsUptoSaid : Prop := canonKeepsUptoRow.holds Try.pinned (OpenSpec.upto canonKeepsSpec)

/-- 'dioramalaw09.GraphChecks', WHERE WHAT IT READS IS OF BULK AT MOST 1048576: true; the input reads as it did. -/
def graphChecksUptoRow : OpenClaim := { program := "ytlfjjapndlkamaa", sum := "2e77468ed26473fc8972ff5c42f0d33bd8cfb3495498c10022585b8cb62aeda6", func := "diorama/dioramalaw09.GraphChecks", spec := "graphChecks", unfollowed := true, recurses := true, apart := false, narrowed := true }
def GraphChecksUptoSaid : Prop := graphChecksUptoRow.holds Try.pinned (OpenSpec.upto graphChecksSpec)

/-- 'dioramalaw09.GraphBelow', WHERE WHAT IT READS IS OF BULK AT MOST 1048576: true; the input reads as it did. -/
def graphBelowUptoRow : OpenClaim := { program := "ytlfjjapndlkamaa", sum := "2e77468ed26473fc8972ff5c42f0d33bd8cfb3495498c10022585b8cb62aeda6", func := "diorama/dioramalaw09.GraphBelow", spec := "graphBelow", unfollowed := true, recurses := true, apart := false, narrowed := true }
def GraphBelowUptoSaid : Prop := graphBelowUptoRow.holds Try.pinned (OpenSpec.upto graphBelowSpec)

/-- 'dioramalaw09.GraphDepth', WHERE WHAT IT READS IS OF BULK AT MOST 1048576: true; the input reads as it did. -/
def graphDepthUptoRow : OpenClaim := { program := "ytlfjjapndlkamaa", sum := "2e77468ed26473fc8972ff5c42f0d33bd8cfb3495498c10022585b8cb62aeda6", func := "diorama/dioramalaw09.GraphDepth", spec := "graphDepth", unfollowed := true, recurses := true, apart := false, narrowed := true }
def GraphDepthUptoSaid : Prop := graphDepthUptoRow.holds Try.pinned (OpenSpec.upto graphDepthSpec)

/-- 'dioramalaw09.GraphLoose', WHERE WHAT IT READS IS OF BULK AT MOST 1048576: true; the input reads as it did. -/
def graphLooseUptoRow : OpenClaim := { program := "ytlfjjapndlkamaa", sum := "2e77468ed26473fc8972ff5c42f0d33bd8cfb3495498c10022585b8cb62aeda6", func := "diorama/dioramalaw09.GraphLoose", spec := "graphLoose", unfollowed := true, recurses := true, apart := false, narrowed := true }
def GraphLooseUptoSaid : Prop := graphLooseUptoRow.holds Try.pinned (OpenSpec.upto graphLooseSpec)

/-- 'dioramalaw09.GraphTurned', WHERE WHAT IT READS IS OF BULK AT MOST 1048576: true; the input reads as it did. -/
def graphTurnedUptoRow : OpenClaim := { program := "ytlfjjapndlkamaa", sum := "2e77468ed26473fc8972ff5c42f0d33bd8cfb3495498c10022585b8cb62aeda6", func := "diorama/dioramalaw09.GraphTurned", spec := "graphTurned", unfollowed := true, recurses := true, apart := false, narrowed := true }
def GraphTurnedUptoSaid : Prop := graphTurnedUptoRow.holds Try.pinned (OpenSpec.upto graphTurnedSpec)

end Rows
end Go.Proofs.Ytlfjjapndlkamaa
