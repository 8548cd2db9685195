/-
  NARROWER THAN 'FOR EVERY INPUT', by the rows' own cells (each row's printed sentence says how): FieldChecks: laid · FieldSets: laid · FieldDiffs: laid · FieldLeast: laid · FieldOld: laid · StrtabPuts: laid · StrtabGets: laid · StrtabBack: laid · StrtabOne: laid · StrtabAgain: laid.
  DERIVED. THE GIVEN ROWS OF THIS SEAT. 10 by the template 'for every input the law returns true; each argument reads behind the call as it read before'; 0 by the template 'total and deterministic' (their statements: YtmglknchklgokaaDoorTotals.lean).
  GIVEN WITH THE SEED: the statements are not yours to turn. If you find one false, say at which input.
  Laid BY PROGRAM, IN A SANDBOX (cutbox-rows.mjs): the forced cells as the released guide's own fill.sh prints them over the translation 716c28b68709ddae… (all of the seat's roots in one cut). By AI agents, Wed Nov 11 2026. No macro, syntax, notation, axiom, sorry.
-/
import Derived.Test.YtmglknchklgokaaDoorChecked
import GoSem.PinnedTables
import GoSem.Claim
import GoSem.ClaimJoined
import GoSem.ClaimMapViews
import Derived.JoinedTies
import Derived.KernelRfl
namespace Go.Proofs.YtmglknchklgokaaDoor
/- THE CELL 'sum', in the pinned program and in every row, IS THE sha256 OF THE DUMP (.gsa) THAT YtmglknchklgokaaDoorProg.lean LOADS. Nothing in Lean hashes anything: it is a label: what it is worth is what the hold of that sum in a sandbox is worth. -/
noncomputable def Tryd.pinned : Pinned := { name := "ytmglknchklgokaadoor", sum := "716c28b68709ddae5e21ee9138462c9a589140d0851e6ddc9bdd88fa1fdc60c2", checked := Tryd.checked }
namespace Rows
def none {H : Type} : Left H := { results := [], args := [] }

/- WHAT THE LISTED PACKAGE-LEVEL VARIABLES READ AS WHEN THE CALL BEGINS. Each datum BY PROGRAM (the guide's laid-datum.mjs) off the statement by which the dump's own 'gosem.cut.vars' lays the variable. In a bare row this is a premise. The card (YtmglknchklgokaaDoorCards.lean) ties it to the program's text. -/
def laid_unicode_utf8_acceptRanges {H : Type} : DataW H := .agg [.agg [.lit (.int .u8 128), .lit (.int .u8 191)], .agg [.lit (.int .u8 160), .lit (.int .u8 191)], .agg [.lit (.int .u8 128), .lit (.int .u8 159)], .agg [.lit (.int .u8 144), .lit (.int .u8 191)], .agg [.lit (.int .u8 128), .lit (.int .u8 143)], .agg [.lit (.int .u8 0), .lit (.int .u8 0)], .agg [.lit (.int .u8 0), .lit (.int .u8 0)], .agg [.lit (.int .u8 0), .lit (.int .u8 0)], .agg [.lit (.int .u8 0), .lit (.int .u8 0)], .agg [.lit (.int .u8 0), .lit (.int .u8 0)], .agg [.lit (.int .u8 0), .lit (.int .u8 0)], .agg [.lit (.int .u8 0), .lit (.int .u8 0)], .agg [.lit (.int .u8 0), .lit (.int .u8 0)], .agg [.lit (.int .u8 0), .lit (.int .u8 0)], .agg [.lit (.int .u8 0), .lit (.int .u8 0)], .agg [.lit (.int .u8 0), .lit (.int .u8 0)]]
/-- One of Go's own tables, pinned by name: the form's constant. -/
def laid_unicode_utf8_first : DataW Unit := Go.Pinned.utf8First

/-- 'dioramalaw08.FieldChecks': WHATEVER THE INPUT: true; the input reads as it did. -/
def fieldChecksSpec : ChangeSpec := { name := "fieldChecks", fn := fun _ => fun
  | [d1, d2] => { results := [.lit (.bool true)], args := [d1, d2] }
  | _ => none }
def fieldChecksRow : OpenClaim := { program := "ytmglknchklgokaadoor", sum := "716c28b68709ddae5e21ee9138462c9a589140d0851e6ddc9bdd88fa1fdc60c2", func := "diorama/dioramalaw08.FieldChecks", spec := "fieldChecks", unfollowed := true, recurses := true, named := ["unicode/utf8.first", "unicode/utf8.acceptRanges"], apart := false, laid := [("unicode/utf8.acceptRanges", laid_unicode_utf8_acceptRanges), ("unicode/utf8.first", laid_unicode_utf8_first)] }
def FieldChecksSaid : Prop := fieldChecksRow.holds Tryd.pinned (OpenSpec.ofChange fieldChecksSpec)

/-- ITS FALSE NEIGHBOUR: 'it returns false'. Refute it at one input. -/
def fieldChecksWrong : ChangeSpec := { name := "fieldChecks", fn := fun _ => fun
  | [d1, d2] => { results := [.lit (.bool false)], args := [d1, d2] }
  | _ => none }
def FieldChecksWrongFalsely : Prop := fieldChecksRow.holds Tryd.pinned (OpenSpec.ofChange fieldChecksWrong)

/-- 'dioramalaw08.FieldSets': WHATEVER THE INPUT: true; the input reads as it did. -/
def fieldSetsSpec : ChangeSpec := { name := "fieldSets", fn := fun _ => fun
  | [d1, d2] => { results := [.lit (.bool true)], args := [d1, d2] }
  | _ => none }
def fieldSetsRow : OpenClaim := { program := "ytmglknchklgokaadoor", sum := "716c28b68709ddae5e21ee9138462c9a589140d0851e6ddc9bdd88fa1fdc60c2", func := "diorama/dioramalaw08.FieldSets", spec := "fieldSets", unfollowed := true, recurses := true, named := ["unicode/utf8.first", "unicode/utf8.acceptRanges"], apart := false, laid := [("unicode/utf8.acceptRanges", laid_unicode_utf8_acceptRanges), ("unicode/utf8.first", laid_unicode_utf8_first)] }
def FieldSetsSaid : Prop := fieldSetsRow.holds Tryd.pinned (OpenSpec.ofChange fieldSetsSpec)

/-- ITS FALSE NEIGHBOUR: 'it returns false'. Refute it at one input. -/
def fieldSetsWrong : ChangeSpec := { name := "fieldSets", fn := fun _ => fun
  | [d1, d2] => { results := [.lit (.bool false)], args := [d1, d2] }
  | _ => none }
def FieldSetsWrongFalsely : Prop := fieldSetsRow.holds Tryd.pinned (OpenSpec.ofChange fieldSetsWrong)

/-- 'dioramalaw08.FieldDiffs': WHATEVER THE INPUT: true; the input reads as it did. -/
def fieldDiffsSpec : ChangeSpec := { name := "fieldDiffs", fn := fun _ => fun
  | [d1, d2] => { results := [.lit (.bool true)], args := [d1, d2] }
  | _ => none }
def fieldDiffsRow : OpenClaim := { program := "ytmglknchklgokaadoor", sum := "716c28b68709ddae5e21ee9138462c9a589140d0851e6ddc9bdd88fa1fdc60c2", func := "diorama/dioramalaw08.FieldDiffs", spec := "fieldDiffs", unfollowed := true, recurses := true, named := ["unicode/utf8.first", "unicode/utf8.acceptRanges"], apart := false, laid := [("unicode/utf8.acceptRanges", laid_unicode_utf8_acceptRanges), ("unicode/utf8.first", laid_unicode_utf8_first)] }
def FieldDiffsSaid : Prop := fieldDiffsRow.holds Tryd.pinned (OpenSpec.ofChange fieldDiffsSpec)

/-- ITS FALSE NEIGHBOUR: 'it returns false'. Refute it at one input. -/
def fieldDiffsWrong : ChangeSpec := { name := "fieldDiffs", fn := fun _ => fun
  | [d1, d2] => { results := [.lit (.bool false)], args := [d1, d2] }
  | _ => none }
def FieldDiffsWrongFalsely : Prop := fieldDiffsRow.holds Tryd.pinned (OpenSpec.ofChange fieldDiffsWrong)

/-- 'dioramalaw08.FieldLeast': WHATEVER THE INPUT: true; the input reads as it did. -/
def fieldLeastSpec : ChangeSpec := { name := "fieldLeast", fn := fun _ => fun
  | [d1, d2, d3] => { results := [.lit (.bool true)], args := [d1, d2, d3] }
  | _ => none }
def fieldLeastRow : OpenClaim := { program := "ytmglknchklgokaadoor", sum := "716c28b68709ddae5e21ee9138462c9a589140d0851e6ddc9bdd88fa1fdc60c2", func := "diorama/dioramalaw08.FieldLeast", spec := "fieldLeast", unfollowed := true, recurses := true, named := ["unicode/utf8.first", "unicode/utf8.acceptRanges"], apart := false, laid := [("unicode/utf8.acceptRanges", laid_unicode_utf8_acceptRanges), ("unicode/utf8.first", laid_unicode_utf8_first)] }
def FieldLeastSaid : Prop := fieldLeastRow.holds Tryd.pinned (OpenSpec.ofChange fieldLeastSpec)

/-- ITS FALSE NEIGHBOUR: 'it returns false'. Refute it at one input. -/
def fieldLeastWrong : ChangeSpec := { name := "fieldLeast", fn := fun _ => fun
  | [d1, d2, d3] => { results := [.lit (.bool false)], args := [d1, d2, d3] }
  | _ => none }
def FieldLeastWrongFalsely : Prop := fieldLeastRow.holds Tryd.pinned (OpenSpec.ofChange fieldLeastWrong)

/-- 'dioramalaw08.FieldOld': WHATEVER THE INPUT: true; the input reads as it did. -/
def fieldOldSpec : ChangeSpec := { name := "fieldOld", fn := fun _ => fun
  | [d1, d2] => { results := [.lit (.bool true)], args := [d1, d2] }
  | _ => none }
def fieldOldRow : OpenClaim := { program := "ytmglknchklgokaadoor", sum := "716c28b68709ddae5e21ee9138462c9a589140d0851e6ddc9bdd88fa1fdc60c2", func := "diorama/dioramalaw08.FieldOld", spec := "fieldOld", unfollowed := true, recurses := true, named := ["unicode/utf8.first", "unicode/utf8.acceptRanges"], apart := false, laid := [("unicode/utf8.acceptRanges", laid_unicode_utf8_acceptRanges), ("unicode/utf8.first", laid_unicode_utf8_first)] }
def FieldOldSaid : Prop := fieldOldRow.holds Tryd.pinned (OpenSpec.ofChange fieldOldSpec)

/-- ITS FALSE NEIGHBOUR: 'it returns false'. Refute it at one input. -/
def fieldOldWrong : ChangeSpec := { name := "fieldOld", fn := fun _ => fun
  | [d1, d2] => { results := [.lit (.bool false)], args := [d1, d2] }
  | _ => none }
def FieldOldWrongFalsely : Prop := fieldOldRow.holds Tryd.pinned (OpenSpec.ofChange fieldOldWrong)

/-- 'dioramalaw06.StrtabPuts': WHATEVER THE INPUT: true; the input reads as it did. -/
def strtabPutsSpec : ChangeSpec := { name := "strtabPuts", fn := fun _ => fun
  | [d1, d2] => { results := [.lit (.bool true)], args := [d1, d2] }
  | _ => none }
def strtabPutsRow : OpenClaim := { program := "ytmglknchklgokaadoor", sum := "716c28b68709ddae5e21ee9138462c9a589140d0851e6ddc9bdd88fa1fdc60c2", func := "diorama/dioramalaw06.StrtabPuts", spec := "strtabPuts", inPlace := ["internal/abi.NoEscape"], recurses := true, named := ["unicode/utf8.first", "unicode/utf8.acceptRanges"], apart := false, laid := [("unicode/utf8.acceptRanges", laid_unicode_utf8_acceptRanges), ("unicode/utf8.first", laid_unicode_utf8_first)] }
def StrtabPutsSaid : Prop := strtabPutsRow.holds Tryd.pinned (OpenSpec.ofChange strtabPutsSpec)

/-- ITS FALSE NEIGHBOUR: 'it returns false'. Refute it at one input. -/
def strtabPutsWrong : ChangeSpec := { name := "strtabPuts", fn := fun _ => fun
  | [d1, d2] => { results := [.lit (.bool false)], args := [d1, d2] }
  | _ => none }
def StrtabPutsWrongFalsely : Prop := strtabPutsRow.holds Tryd.pinned (OpenSpec.ofChange strtabPutsWrong)

/-- 'dioramalaw06.StrtabGets': WHATEVER THE INPUT: true; the input reads as it did. -/
def strtabGetsSpec : ChangeSpec := { name := "strtabGets", fn := fun _ => fun
  | [d1, d2, d3] => { results := [.lit (.bool true)], args := [d1, d2, d3] }
  | _ => none }
def strtabGetsRow : OpenClaim := { program := "ytmglknchklgokaadoor", sum := "716c28b68709ddae5e21ee9138462c9a589140d0851e6ddc9bdd88fa1fdc60c2", func := "diorama/dioramalaw06.StrtabGets", spec := "strtabGets", inPlace := ["internal/abi.NoEscape"], named := ["unicode/utf8.first", "unicode/utf8.acceptRanges"], apart := false, laid := [("unicode/utf8.acceptRanges", laid_unicode_utf8_acceptRanges), ("unicode/utf8.first", laid_unicode_utf8_first)] }
def StrtabGetsSaid : Prop := strtabGetsRow.holds Tryd.pinned (OpenSpec.ofChange strtabGetsSpec)

/-- ITS FALSE NEIGHBOUR: 'it returns false'. Refute it at one input. -/
def strtabGetsWrong : ChangeSpec := { name := "strtabGets", fn := fun _ => fun
  | [d1, d2, d3] => { results := [.lit (.bool false)], args := [d1, d2, d3] }
  | _ => none }
def StrtabGetsWrongFalsely : Prop := strtabGetsRow.holds Tryd.pinned (OpenSpec.ofChange strtabGetsWrong)

/-- 'dioramalaw06.StrtabBack': WHATEVER THE INPUT: true; the input reads as it did. -/
def strtabBackSpec : ChangeSpec := { name := "strtabBack", fn := fun _ => fun
  | [d] => { results := [.lit (.bool true)], args := [d] }
  | _ => none }
def strtabBackRow : OpenClaim := { program := "ytmglknchklgokaadoor", sum := "716c28b68709ddae5e21ee9138462c9a589140d0851e6ddc9bdd88fa1fdc60c2", func := "diorama/dioramalaw06.StrtabBack", spec := "strtabBack", inPlace := ["internal/abi.NoEscape"], named := ["unicode/utf8.first", "unicode/utf8.acceptRanges"], apart := false, laid := [("unicode/utf8.acceptRanges", laid_unicode_utf8_acceptRanges), ("unicode/utf8.first", laid_unicode_utf8_first)] }
def StrtabBackSaid : Prop := strtabBackRow.holds Tryd.pinned (OpenSpec.ofChange strtabBackSpec)

/-- ITS FALSE NEIGHBOUR: 'it returns false'. Refute it at one input. -/
def strtabBackWrong : ChangeSpec := { name := "strtabBack", fn := fun _ => fun
  | [d] => { results := [.lit (.bool false)], args := [d] }
  | _ => none }
def StrtabBackWrongFalsely : Prop := strtabBackRow.holds Tryd.pinned (OpenSpec.ofChange strtabBackWrong)

/-- 'dioramalaw06.StrtabOne': WHATEVER THE INPUT: true; the input reads as it did. -/
def strtabOneSpec : ChangeSpec := { name := "strtabOne", fn := fun _ => fun
  | [d1, d2] => { results := [.lit (.bool true)], args := [d1, d2] }
  | _ => none }
def strtabOneRow : OpenClaim := { program := "ytmglknchklgokaadoor", sum := "716c28b68709ddae5e21ee9138462c9a589140d0851e6ddc9bdd88fa1fdc60c2", func := "diorama/dioramalaw06.StrtabOne", spec := "strtabOne", inPlace := ["internal/abi.NoEscape"], named := ["unicode/utf8.first", "unicode/utf8.acceptRanges"], apart := false, laid := [("unicode/utf8.acceptRanges", laid_unicode_utf8_acceptRanges), ("unicode/utf8.first", laid_unicode_utf8_first)] }
def StrtabOneSaid : Prop := strtabOneRow.holds Tryd.pinned (OpenSpec.ofChange strtabOneSpec)

/-- ITS FALSE NEIGHBOUR: 'it returns false'. Refute it at one input. -/
def strtabOneWrong : ChangeSpec := { name := "strtabOne", fn := fun _ => fun
  | [d1, d2] => { results := [.lit (.bool false)], args := [d1, d2] }
  | _ => none }
def StrtabOneWrongFalsely : Prop := strtabOneRow.holds Tryd.pinned (OpenSpec.ofChange strtabOneWrong)

/-- 'dioramalaw06.StrtabAgain': WHATEVER THE INPUT: true; the input reads as it did. -/
def strtabAgainSpec : ChangeSpec := { name := "strtabAgain", fn := fun _ => fun
  | [d1, d2] => { results := [.lit (.bool true)], args := [d1, d2] }
  | _ => none }
def strtabAgainRow : OpenClaim := { program := "ytmglknchklgokaadoor", sum := "716c28b68709ddae5e21ee9138462c9a589140d0851e6ddc9bdd88fa1fdc60c2", func := "diorama/dioramalaw06.StrtabAgain", spec := "strtabAgain", inPlace := ["internal/abi.NoEscape"], named := ["unicode/utf8.first", "unicode/utf8.acceptRanges"], apart := false, laid := [("unicode/utf8.acceptRanges", laid_unicode_utf8_acceptRanges), ("unicode/utf8.first", laid_unicode_utf8_first)] }
def StrtabAgainSaid : Prop := strtabAgainRow.holds Tryd.pinned (OpenSpec.ofChange strtabAgainSpec)

/-- ITS FALSE NEIGHBOUR: 'it returns false'. Refute it at one input. -/
def strtabAgainWrong : ChangeSpec := { name := "strtabAgain", fn := fun _ => fun
  | [d1, d2] => { results := [.lit (.bool false)], args := [d1, d2] }
  | _ => none }
def StrtabAgainWrongFalsely : Prop := strtabAgainRow.holds Tryd.pinned (OpenSpec.ofChange strtabAgainWrong)

/- THE SECOND FORM. 'bulk': how many values and letters a reading holds, each counted each time it is reached (what is shared counts as often as it is met; a slice's spare places count too). A statement '..UptoSaid' is the law's where the arguments, and the package variables that the reading takes, are together of bulk at most 1048576: NARROWER than '..Said'. Prove '..Said' where nothing that the law and all that it calls make is longer than what came in: it says more and counts as full. Else prove '..UptoSaid'. A law counts once. -/
mutual
def uptoBulk {H : Type} : DataW H → Nat
  | .lit (.string bytes) => bytes.length + 1
  | .lit _ => 1
  | .nil => 1
  | .ptr d => uptoBulk d + 1
  | .slice elems spare => uptoBulkAll elems + uptoBulkAll spare + 1
  | .agg parts => uptoBulkAll parts + 1
  | .iface _ d => uptoBulk d + 1
  | .map entries => uptoBulkEntries entries + 1
  | .held _ => 1
def uptoBulkAll {H : Type} : List (DataW H) → Nat
  | [] => 0
  | d :: r => uptoBulk d + uptoBulkAll r
def uptoBulkEntries {H : Type} : List (Lit × DataW H) → Nat
  | [] => 0
  | x :: r => uptoBulkEntry x + uptoBulkEntries r
def uptoBulkEntry {H : Type} : Lit × DataW H → Nat
  | (.string bytes, d) => bytes.length + uptoBulk d + 1
  | (_, d) => uptoBulk d + 1
 end
def uptoSmall : (H : Type) → List (DataW H) → Bool := fun _ ds => decide (uptoBulkAll ds ≤ 1048576)
def OpenSpec.upto (s : _root_.Go.ChangeSpec) : _root_.Go.OpenSpec := { _root_.Go.OpenSpec.ofChange s with cond := some uptoSmall }

/-- 'dioramalaw08.FieldChecks', WHERE WHAT IT READS IS OF BULK AT MOST 1048576: true; the input reads as it did. -/
def fieldChecksUptoRow : OpenClaim := { program := "ytmglknchklgokaadoor", sum := "716c28b68709ddae5e21ee9138462c9a589140d0851e6ddc9bdd88fa1fdc60c2", func := "diorama/dioramalaw08.FieldChecks", spec := "fieldChecks", unfollowed := true, recurses := true, named := ["unicode/utf8.first", "unicode/utf8.acceptRanges"], apart := false, laid := [("unicode/utf8.acceptRanges", laid_unicode_utf8_acceptRanges), ("unicode/utf8.first", laid_unicode_utf8_first)], narrowed := true }
def FieldChecksUptoSaid : Prop := fieldChecksUptoRow.holds Tryd.pinned (OpenSpec.upto fieldChecksSpec)

/-- 'dioramalaw08.FieldSets', WHERE WHAT IT READS IS OF BULK AT MOST 1048576: true; the input reads as it did. -/
def fieldSetsUptoRow : OpenClaim := { program := "ytmglknchklgokaadoor", sum := "716c28b68709ddae5e21ee9138462c9a589140d0851e6ddc9bdd88fa1fdc60c2", func := "diorama/dioramalaw08.FieldSets", spec := "fieldSets", unfollowed := true, recurses := true, named := ["unicode/utf8.first", "unicode/utf8.acceptRanges"], apart := false, laid := [("unicode/utf8.acceptRanges", laid_unicode_utf8_acceptRanges), ("unicode/utf8.first", laid_unicode_utf8_first)], narrowed := true }
def FieldSetsUptoSaid : Prop := fieldSetsUptoRow.holds Tryd.pinned (OpenSpec.upto fieldSetsSpec)

/-- 'dioramalaw08.FieldDiffs', WHERE WHAT IT READS IS OF BULK AT MOST 1048576: true; the input reads as it did. -/
def fieldDiffsUptoRow : OpenClaim := { program := "ytmglknchklgokaadoor", sum := "716c28b68709ddae5e21ee9138462c9a589140d0851e6ddc9bdd88fa1fdc60c2", func := "diorama/dioramalaw08.FieldDiffs", spec := "fieldDiffs", unfollowed := true, recurses := true, named := ["unicode/utf8.first", "unicode/utf8.acceptRanges"], apart := false, laid := [("unicode/utf8.acceptRanges", laid_unicode_utf8_acceptRanges), ("unicode/utf8.first", laid_unicode_utf8_first)], narrowed := true }
def FieldDiffsUptoSaid : Prop := fieldDiffsUptoRow.holds Tryd.pinned (OpenSpec.upto fieldDiffsSpec)

/-- 'dioramalaw08.FieldLeast', WHERE WHAT IT READS IS OF BULK AT MOST 1048576: true; the input reads as it did. -/
def fieldLeastUptoRow : OpenClaim := { program := "ytmglknchklgokaadoor", sum := "716c28b68709ddae5e21ee9138462c9a589140d0851e6ddc9bdd88fa1fdc60c2", func := "diorama/dioramalaw08.FieldLeast", spec := "fieldLeast", unfollowed := true, recurses := true, named := ["unicode/utf8.first", "unicode/utf8.acceptRanges"], apart := false, laid := [("unicode/utf8.acceptRanges", laid_unicode_utf8_acceptRanges), ("unicode/utf8.first", laid_unicode_utf8_first)], narrowed := true }
def FieldLeastUptoSaid : Prop := fieldLeastUptoRow.holds Tryd.pinned (OpenSpec.upto fieldLeastSpec)

/-- 'dioramalaw08.FieldOld', WHERE WHAT IT READS IS OF BULK AT MOST 1048576: true; the input reads as it did. -/
def fieldOldUptoRow : OpenClaim := { program := "ytmglknchklgokaadoor", sum := "716c28b68709ddae5e21ee9138462c9a589140d0851e6ddc9bdd88fa1fdc60c2", func := "diorama/dioramalaw08.FieldOld", spec := "fieldOld", unfollowed := true, recurses := true, named := ["unicode/utf8.first", "unicode/utf8.acceptRanges"], apart := false, laid := [("unicode/utf8.acceptRanges", laid_unicode_utf8_acceptRanges), ("unicode/utf8.first", laid_unicode_utf8_first)], narrowed := true }
def FieldOldUptoSaid : Prop := fieldOldUptoRow.holds Tryd.pinned (OpenSpec.upto fieldOldSpec)

/-- 'dioramalaw06.StrtabPuts', WHERE WHAT IT READS IS OF BULK AT MOST 1048576: true; the input reads as it did. -/
def strtabPutsUptoRow : OpenClaim := { program := "ytmglknchklgokaadoor", sum := "716c28b68709ddae5e21ee9138462c9a589140d0851e6ddc9bdd88fa1fdc60c2", func := "diorama/dioramalaw06.StrtabPuts", spec := "strtabPuts", inPlace := ["internal/abi.NoEscape"], recurses := true, named := ["unicode/utf8.first", "unicode/utf8.acceptRanges"], apart := false, laid := [("unicode/utf8.acceptRanges", laid_unicode_utf8_acceptRanges), ("unicode/utf8.first", laid_unicode_utf8_first)], narrowed := true }
def StrtabPutsUptoSaid : Prop := strtabPutsUptoRow.holds Tryd.pinned (OpenSpec.upto strtabPutsSpec)

/-- 'dioramalaw06.StrtabGets', WHERE WHAT IT READS IS OF BULK AT MOST 1048576: true; the input reads as it did. -/
def strtabGetsUptoRow : OpenClaim := { program := "ytmglknchklgokaadoor", sum := "716c28b68709ddae5e21ee9138462c9a589140d0851e6ddc9bdd88fa1fdc60c2", func := "diorama/dioramalaw06.StrtabGets", spec := "strtabGets", inPlace := ["internal/abi.NoEscape"], named := ["unicode/utf8.first", "unicode/utf8.acceptRanges"], apart := false, laid := [("unicode/utf8.acceptRanges", laid_unicode_utf8_acceptRanges), ("unicode/utf8.first", laid_unicode_utf8_first)], narrowed := true }
def StrtabGetsUptoSaid : Prop := strtabGetsUptoRow.holds Tryd.pinned (OpenSpec.upto strtabGetsSpec)

/-- 'dioramalaw06.StrtabBack', WHERE WHAT IT READS IS OF BULK AT MOST 1048576: true; the input reads as it did. -/
def strtabBackUptoRow : OpenClaim := { program := "ytmglknchklgokaadoor", sum := "716c28b68709ddae5e21ee9138462c9a589140d0851e6ddc9bdd88fa1fdc60c2", func := "diorama/dioramalaw06.StrtabBack", spec := "strtabBack", inPlace := ["internal/abi.NoEscape"], named := ["unicode/utf8.first", "unicode/utf8.acceptRanges"], apart := false, laid := [("unicode/utf8.acceptRanges", laid_unicode_utf8_acceptRanges), ("unicode/utf8.first", laid_unicode_utf8_first)], narrowed := true }
def StrtabBackUptoSaid : Prop := strtabBackUptoRow.holds Tryd.pinned (OpenSpec.upto strtabBackSpec)

/-- 'dioramalaw06.StrtabOne', WHERE WHAT IT READS IS OF BULK AT MOST 1048576: true; the input reads as it did. -/
def strtabOneUptoRow : OpenClaim := { program := "ytmglknchklgokaadoor", sum := "716c28b68709ddae5e21ee9138462c9a589140d0851e6ddc9bdd88fa1fdc60c2", func := "diorama/dioramalaw06.StrtabOne", spec := "strtabOne", inPlace := ["internal/abi.NoEscape"], named := ["unicode/utf8.first", "unicode/utf8.acceptRanges"], apart := false, laid := [("unicode/utf8.acceptRanges", laid_unicode_utf8_acceptRanges), ("unicode/utf8.first", laid_unicode_utf8_first)], narrowed := true }
def StrtabOneUptoSaid : Prop := strtabOneUptoRow.holds Tryd.pinned (OpenSpec.upto strtabOneSpec)

/-- 'dioramalaw06.StrtabAgain', WHERE WHAT IT READS IS OF BULK AT MOST 1048576: true; the input reads as it did. -/
def strtabAgainUptoRow : OpenClaim := { program := "ytmglknchklgokaadoor", sum := "716c28b68709ddae5e21ee9138462c9a589140d0851e6ddc9bdd88fa1fdc60c2", func := "diorama/dioramalaw06.StrtabAgain", spec := "strtabAgain", inPlace := ["internal/abi.NoEscape"], named := ["unicode/utf8.first", "unicode/utf8.acceptRanges"], apart := false, laid := [("unicode/utf8.acceptRanges", laid_unicode_utf8_acceptRanges), ("unicode/utf8.first", laid_unicode_utf8_first)], narrowed := true }
def StrtabAgainUptoSaid : Prop := strtabAgainUptoRow.holds Tryd.pinned (OpenSpec.upto strtabAgainSpec)

end Rows
end Go.Proofs.YtmglknchklgokaaDoor
