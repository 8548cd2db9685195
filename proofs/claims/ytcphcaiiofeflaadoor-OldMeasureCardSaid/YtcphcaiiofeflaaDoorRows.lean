/-
  NARROWER THAN 'FOR EVERY INPUT', by the rows' own cells (each row's printed sentence says how): LimitValid: laid · LimitMeasures: laid · LimitGrows: laid · LimitOrder: laid · LimitCanon: laid · OldValid: laid · OldFlat: laid · OldCanon: laid · OldMeasure: laid · OldForward: laid.
  DERIVED. THE GIVEN ROWS OF THIS SEAT. 10 by the template 'for every input the law returns true; each argument reads behind the call as it read before'; 0 by the template 'total and deterministic' (their statements: YtcphcaiiofeflaaDoorTotals.lean).
  GIVEN WITH THE SEED: the statements are not yours to turn. If you find one false, say at which input.
  Laid BY PROGRAM, IN A SANDBOX (cutbox-rows.mjs): the forced cells as the released guide's own fill.sh prints them over the translation deddf0ed830a711a… (all of the seat's roots in one cut). By AI agents, Wed Nov 11 2026. No macro, syntax, notation, axiom, sorry.
-/
import Derived.Test.YtcphcaiiofeflaaDoorChecked
import GoSem.PinnedTables
import GoSem.Claim
import GoSem.ClaimJoined
import GoSem.ClaimMapViews
import Derived.JoinedTies
import Derived.KernelRfl
namespace Go.Proofs.YtcphcaiiofeflaaDoor
/- THE CELL 'sum', in the pinned program and in every row, IS THE sha256 OF THE DUMP (.gsa) THAT YtcphcaiiofeflaaDoorProg.lean LOADS. Nothing in Lean hashes anything: it is a label: what it is worth is what the hold of that sum in a sandbox is worth. -/
noncomputable def Tryd.pinned : Pinned := { name := "ytcphcaiiofeflaadoor", sum := "deddf0ed830a711aae09fc4eb6ce1cfcf9807b8e81979103f229e1cfbe707070", checked := Tryd.checked }
namespace Rows
def none {H : Type} : Left H := { results := [], args := [] }

/- WHAT THE LISTED PACKAGE-LEVEL VARIABLES READ AS WHEN THE CALL BEGINS. Each datum BY PROGRAM (the guide's laid-datum.mjs) off the statement by which the dump's own 'gosem.cut.vars' lays the variable. In a bare row this is a premise. The card (YtcphcaiiofeflaaDoorCards.lean) ties it to the program's text. -/
def laid_unicode_utf8_acceptRanges {H : Type} : DataW H := .agg [.agg [.lit (.int .u8 128), .lit (.int .u8 191)], .agg [.lit (.int .u8 160), .lit (.int .u8 191)], .agg [.lit (.int .u8 128), .lit (.int .u8 159)], .agg [.lit (.int .u8 144), .lit (.int .u8 191)], .agg [.lit (.int .u8 128), .lit (.int .u8 143)], .agg [.lit (.int .u8 0), .lit (.int .u8 0)], .agg [.lit (.int .u8 0), .lit (.int .u8 0)], .agg [.lit (.int .u8 0), .lit (.int .u8 0)], .agg [.lit (.int .u8 0), .lit (.int .u8 0)], .agg [.lit (.int .u8 0), .lit (.int .u8 0)], .agg [.lit (.int .u8 0), .lit (.int .u8 0)], .agg [.lit (.int .u8 0), .lit (.int .u8 0)], .agg [.lit (.int .u8 0), .lit (.int .u8 0)], .agg [.lit (.int .u8 0), .lit (.int .u8 0)], .agg [.lit (.int .u8 0), .lit (.int .u8 0)], .agg [.lit (.int .u8 0), .lit (.int .u8 0)]]
/-- One of Go's own tables, pinned by name: the form's constant. -/
def laid_unicode_utf8_first : DataW Unit := Go.Pinned.utf8First

/-- 'dioramalaw12.LimitValid': WHATEVER THE INPUT: true; the input reads as it did. -/
def limitValidSpec : ChangeSpec := { name := "limitValid", fn := fun _ => fun
  | [d1, d2] => { results := [.lit (.bool true)], args := [d1, d2] }
  | _ => none }
def limitValidRow : OpenClaim := { program := "ytcphcaiiofeflaadoor", sum := "deddf0ed830a711aae09fc4eb6ce1cfcf9807b8e81979103f229e1cfbe707070", func := "diorama/dioramalaw12.LimitValid", spec := "limitValid", unfollowed := true, recurses := true, named := ["unicode/utf8.first", "unicode/utf8.acceptRanges"], apart := false, laid := [("unicode/utf8.acceptRanges", laid_unicode_utf8_acceptRanges), ("unicode/utf8.first", laid_unicode_utf8_first)] }
def LimitValidSaid : Prop := limitValidRow.holds Tryd.pinned (OpenSpec.ofChange limitValidSpec)

/-- ITS FALSE NEIGHBOUR: 'it returns false'. Refute it at one input. -/
def limitValidWrong : ChangeSpec := { name := "limitValid", fn := fun _ => fun
  | [d1, d2] => { results := [.lit (.bool false)], args := [d1, d2] }
  | _ => none }
def LimitValidWrongFalsely : Prop := limitValidRow.holds Tryd.pinned (OpenSpec.ofChange limitValidWrong)

/-- 'dioramalaw12.LimitMeasures': WHATEVER THE INPUT: true; the input reads as it did. -/
def limitMeasuresSpec : ChangeSpec := { name := "limitMeasures", fn := fun _ => fun
  | [d1, d2, d3] => { results := [.lit (.bool true)], args := [d1, d2, d3] }
  | _ => none }
def limitMeasuresRow : OpenClaim := { program := "ytcphcaiiofeflaadoor", sum := "deddf0ed830a711aae09fc4eb6ce1cfcf9807b8e81979103f229e1cfbe707070", func := "diorama/dioramalaw12.LimitMeasures", spec := "limitMeasures", unfollowed := true, recurses := true, named := ["unicode/utf8.first", "unicode/utf8.acceptRanges"], apart := false, laid := [("unicode/utf8.acceptRanges", laid_unicode_utf8_acceptRanges), ("unicode/utf8.first", laid_unicode_utf8_first)] }
def LimitMeasuresSaid : Prop := limitMeasuresRow.holds Tryd.pinned (OpenSpec.ofChange limitMeasuresSpec)

/-- ITS FALSE NEIGHBOUR: 'it returns false'. Refute it at one input. -/
def limitMeasuresWrong : ChangeSpec := { name := "limitMeasures", fn := fun _ => fun
  | [d1, d2, d3] => { results := [.lit (.bool false)], args := [d1, d2, d3] }
  | _ => none }
def LimitMeasuresWrongFalsely : Prop := limitMeasuresRow.holds Tryd.pinned (OpenSpec.ofChange limitMeasuresWrong)

/-- 'dioramalaw12.LimitGrows': WHATEVER THE INPUT: true; the input reads as it did. -/
def limitGrowsSpec : ChangeSpec := { name := "limitGrows", fn := fun _ => fun
  | [d1, d2, d3] => { results := [.lit (.bool true)], args := [d1, d2, d3] }
  | _ => none }
def limitGrowsRow : OpenClaim := { program := "ytcphcaiiofeflaadoor", sum := "deddf0ed830a711aae09fc4eb6ce1cfcf9807b8e81979103f229e1cfbe707070", func := "diorama/dioramalaw12.LimitGrows", spec := "limitGrows", unfollowed := true, recurses := true, named := ["unicode/utf8.first", "unicode/utf8.acceptRanges"], apart := false, laid := [("unicode/utf8.acceptRanges", laid_unicode_utf8_acceptRanges), ("unicode/utf8.first", laid_unicode_utf8_first)] }
def LimitGrowsSaid : Prop := limitGrowsRow.holds Tryd.pinned (OpenSpec.ofChange limitGrowsSpec)

/-- ITS FALSE NEIGHBOUR: 'it returns false'. Refute it at one input. -/
def limitGrowsWrong : ChangeSpec := { name := "limitGrows", fn := fun _ => fun
  | [d1, d2, d3] => { results := [.lit (.bool false)], args := [d1, d2, d3] }
  | _ => none }
def LimitGrowsWrongFalsely : Prop := limitGrowsRow.holds Tryd.pinned (OpenSpec.ofChange limitGrowsWrong)

/-- 'dioramalaw12.LimitOrder': WHATEVER THE INPUT: true; the input reads as it did. -/
def limitOrderSpec : ChangeSpec := { name := "limitOrder", fn := fun _ => fun
  | [d1, d2, d3] => { results := [.lit (.bool true)], args := [d1, d2, d3] }
  | _ => none }
def limitOrderRow : OpenClaim := { program := "ytcphcaiiofeflaadoor", sum := "deddf0ed830a711aae09fc4eb6ce1cfcf9807b8e81979103f229e1cfbe707070", func := "diorama/dioramalaw12.LimitOrder", spec := "limitOrder", unfollowed := true, recurses := true, named := ["unicode/utf8.first", "unicode/utf8.acceptRanges"], apart := false, laid := [("unicode/utf8.acceptRanges", laid_unicode_utf8_acceptRanges), ("unicode/utf8.first", laid_unicode_utf8_first)] }
def LimitOrderSaid : Prop := limitOrderRow.holds Tryd.pinned (OpenSpec.ofChange limitOrderSpec)

/-- ITS FALSE NEIGHBOUR: 'it returns false'. Refute it at one input. -/
def limitOrderWrong : ChangeSpec := { name := "limitOrder", fn := fun _ => fun
  | [d1, d2, d3] => { results := [.lit (.bool false)], args := [d1, d2, d3] }
  | _ => none }
def LimitOrderWrongFalsely : Prop := limitOrderRow.holds Tryd.pinned (OpenSpec.ofChange limitOrderWrong)

/-- 'dioramalaw12.LimitCanon': WHATEVER THE INPUT: true; the input reads as it did. -/
def limitCanonSpec : ChangeSpec := { name := "limitCanon", fn := fun _ => fun
  | [d1, d2] => { results := [.lit (.bool true)], args := [d1, d2] }
  | _ => none }
def limitCanonRow : OpenClaim := { program := "ytcphcaiiofeflaadoor", sum := "deddf0ed830a711aae09fc4eb6ce1cfcf9807b8e81979103f229e1cfbe707070", func := "diorama/dioramalaw12.LimitCanon", spec := "limitCanon", unfollowed := true, recurses := true, named := ["unicode/utf8.first", "unicode/utf8.acceptRanges"], apart := false, laid := [("unicode/utf8.acceptRanges", laid_unicode_utf8_acceptRanges), ("unicode/utf8.first", laid_unicode_utf8_first)] }
def LimitCanonSaid : Prop := limitCanonRow.holds Tryd.pinned (OpenSpec.ofChange limitCanonSpec)

/-- ITS FALSE NEIGHBOUR: 'it returns false'. Refute it at one input. -/
def limitCanonWrong : ChangeSpec := { name := "limitCanon", fn := fun _ => fun
  | [d1, d2] => { results := [.lit (.bool false)], args := [d1, d2] }
  | _ => none }
def LimitCanonWrongFalsely : Prop := limitCanonRow.holds Tryd.pinned (OpenSpec.ofChange limitCanonWrong)

/-- 'dioramalaw16.OldValid': WHATEVER THE INPUT: true; the input reads as it did. -/
def oldValidSpec : ChangeSpec := { name := "oldValid", fn := fun _ => fun
  | [d1, d2] => { results := [.lit (.bool true)], args := [d1, d2] }
  | _ => none }
def oldValidRow : OpenClaim := { program := "ytcphcaiiofeflaadoor", sum := "deddf0ed830a711aae09fc4eb6ce1cfcf9807b8e81979103f229e1cfbe707070", func := "diorama/dioramalaw16.OldValid", spec := "oldValid", unfollowed := true, recurses := true, named := ["unicode/utf8.first", "unicode/utf8.acceptRanges"], apart := false, laid := [("unicode/utf8.acceptRanges", laid_unicode_utf8_acceptRanges), ("unicode/utf8.first", laid_unicode_utf8_first)] }
def OldValidSaid : Prop := oldValidRow.holds Tryd.pinned (OpenSpec.ofChange oldValidSpec)

/-- ITS FALSE NEIGHBOUR: 'it returns false'. Refute it at one input. -/
def oldValidWrong : ChangeSpec := { name := "oldValid", fn := fun _ => fun
  | [d1, d2] => { results := [.lit (.bool false)], args := [d1, d2] }
  | _ => none }
def OldValidWrongFalsely : Prop := oldValidRow.holds Tryd.pinned (OpenSpec.ofChange oldValidWrong)

/-- 'dioramalaw16.OldFlat': WHATEVER THE INPUT: true; the input reads as it did. -/
def oldFlatSpec : ChangeSpec := { name := "oldFlat", fn := fun _ => fun
  | [d] => { results := [.lit (.bool true)], args := [d] }
  | _ => none }
def oldFlatRow : OpenClaim := { program := "ytcphcaiiofeflaadoor", sum := "deddf0ed830a711aae09fc4eb6ce1cfcf9807b8e81979103f229e1cfbe707070", func := "diorama/dioramalaw16.OldFlat", spec := "oldFlat", unfollowed := true, recurses := true, named := ["unicode/utf8.first", "unicode/utf8.acceptRanges"], apart := false, laid := [("unicode/utf8.acceptRanges", laid_unicode_utf8_acceptRanges), ("unicode/utf8.first", laid_unicode_utf8_first)] }
def OldFlatSaid : Prop := oldFlatRow.holds Tryd.pinned (OpenSpec.ofChange oldFlatSpec)

/-- ITS FALSE NEIGHBOUR: 'it returns false'. Refute it at one input. -/
def oldFlatWrong : ChangeSpec := { name := "oldFlat", fn := fun _ => fun
  | [d] => { results := [.lit (.bool false)], args := [d] }
  | _ => none }
def OldFlatWrongFalsely : Prop := oldFlatRow.holds Tryd.pinned (OpenSpec.ofChange oldFlatWrong)

/-- 'dioramalaw16.OldCanon': WHATEVER THE INPUT: true; the input reads as it did. -/
def oldCanonSpec : ChangeSpec := { name := "oldCanon", fn := fun _ => fun
  | [d] => { results := [.lit (.bool true)], args := [d] }
  | _ => none }
def oldCanonRow : OpenClaim := { program := "ytcphcaiiofeflaadoor", sum := "deddf0ed830a711aae09fc4eb6ce1cfcf9807b8e81979103f229e1cfbe707070", func := "diorama/dioramalaw16.OldCanon", spec := "oldCanon", unfollowed := true, recurses := true, named := ["unicode/utf8.first", "unicode/utf8.acceptRanges"], apart := false, laid := [("unicode/utf8.acceptRanges", laid_unicode_utf8_acceptRanges), ("unicode/utf8.first", laid_unicode_utf8_first)] }
def OldCanonSaid : Prop := oldCanonRow.holds Tryd.pinned (OpenSpec.ofChange oldCanonSpec)

/-- ITS FALSE NEIGHBOUR: 'it returns false'. Refute it at one input. -/
def oldCanonWrong : ChangeSpec := { name := "oldCanon", fn := fun _ => fun
  | [d] => { results := [.lit (.bool false)], args := [d] }
  | _ => none }
def OldCanonWrongFalsely : Prop := oldCanonRow.holds Tryd.pinned (OpenSpec.ofChange oldCanonWrong)

/-- 'dioramalaw16.OldMeasure': WHATEVER THE INPUT: true; the input reads as it did. -/
def oldMeasureSpec : ChangeSpec := { name := "oldMeasure", fn := fun _ => fun
  | [d1, d2] => { results := [.lit (.bool true)], args := [d1, d2] }
  | _ => none }
def oldMeasureRow : OpenClaim := { program := "ytcphcaiiofeflaadoor", sum := "deddf0ed830a711aae09fc4eb6ce1cfcf9807b8e81979103f229e1cfbe707070", func := "diorama/dioramalaw16.OldMeasure", spec := "oldMeasure", unfollowed := true, recurses := true, named := ["unicode/utf8.first", "unicode/utf8.acceptRanges"], apart := false, laid := [("unicode/utf8.acceptRanges", laid_unicode_utf8_acceptRanges), ("unicode/utf8.first", laid_unicode_utf8_first)] }
def OldMeasureSaid : Prop := oldMeasureRow.holds Tryd.pinned (OpenSpec.ofChange oldMeasureSpec)

/-- ITS FALSE NEIGHBOUR: 'it returns false'. Refute it at one input. -/
def oldMeasureWrong : ChangeSpec := { name := "oldMeasure", fn := fun _ => fun
  | [d1, d2] => { results := [.lit (.bool false)], args := [d1, d2] }
  | _ => none }
def OldMeasureWrongFalsely : Prop := oldMeasureRow.holds Tryd.pinned (OpenSpec.ofChange oldMeasureWrong)

/-- 'dioramalaw16.OldForward': WHATEVER THE INPUT: true; the input reads as it did. -/
def oldForwardSpec : ChangeSpec := { name := "oldForward", fn := fun _ => fun
  | [d] => { results := [.lit (.bool true)], args := [d] }
  | _ => none }
def oldForwardRow : OpenClaim := { program := "ytcphcaiiofeflaadoor", sum := "deddf0ed830a711aae09fc4eb6ce1cfcf9807b8e81979103f229e1cfbe707070", func := "diorama/dioramalaw16.OldForward", spec := "oldForward", unfollowed := true, recurses := true, named := ["unicode/utf8.first", "unicode/utf8.acceptRanges"], apart := false, laid := [("unicode/utf8.acceptRanges", laid_unicode_utf8_acceptRanges), ("unicode/utf8.first", laid_unicode_utf8_first)] }
def OldForwardSaid : Prop := oldForwardRow.holds Tryd.pinned (OpenSpec.ofChange oldForwardSpec)

/-- ITS FALSE NEIGHBOUR: 'it returns false'. Refute it at one input. -/
def oldForwardWrong : ChangeSpec := { name := "oldForward", fn := fun _ => fun
  | [d] => { results := [.lit (.bool false)], args := [d] }
  | _ => none }
def OldForwardWrongFalsely : Prop := oldForwardRow.holds Tryd.pinned (OpenSpec.ofChange oldForwardWrong)

/- THE SECOND FORM. 'bulk': how many values and letters a reading holds, each counted each time it is reached (what is shared counts as often as it is met; a slice's spare places count too). A statement '..UptoSaid' is the law's where the arguments, and the package variables that the reading takes, are together of bulk at most 1048576: NARROWER than '..Said'. Prove '..Said' where nothing that the law and all that it calls make is longer than what came in: it says more and counts as full. Else prove '..UptoSaid'. A law counts once. -/
mutual
def uptoBulk {H : Type} : DataW H → Nat
  | .lit (.string bytes) => bytes.length + 1
  | .lit _ => 1
  | .nil => 1
  | .ptr d => uptoBulk d + 1
  | .slice elems spare => uptoBulkAll elems + uptoBulkAll spare + 1
  | .agg parts => uptoBulkAll parts + 1
  | .iface _ d => uptoBulk d + 1
  | .map entries => uptoBulkEntries entries + 1
  | .held _ => 1
def uptoBulkAll {H : Type} : List (DataW H) → Nat
  | [] => 0
  | d :: r => uptoBulk d + uptoBulkAll r
def uptoBulkEntries {H : Type} : List (Lit × DataW H) → Nat
  | [] => 0
  | x :: r => uptoBulkEntry x + uptoBulkEntries r
def uptoBulkEntry {H : Type} : Lit × DataW H → Nat
  | (.string bytes, d) => bytes.length + uptoBulk d + 1
  | (_, d) => uptoBulk d + 1
 end
def uptoSmall : (H : Type) → List (DataW H) → Bool := fun _ ds => decide (uptoBulkAll ds ≤ 1048576)
def OpenSpec.upto (s : _root_.Go.ChangeSpec) : _root_.Go.OpenSpec := { _root_.Go.OpenSpec.ofChange s with cond := some uptoSmall }

/-- 'dioramalaw12.LimitValid', WHERE WHAT IT READS IS OF BULK AT MOST 1048576: true; the input reads as it did. -/
def limitValidUptoRow : OpenClaim := { program := "ytcphcaiiofeflaadoor", sum := "deddf0ed830a711aae09fc4eb6ce1cfcf9807b8e81979103f229e1cfbe707070", func := "diorama/dioramalaw12.LimitValid", spec := "limitValid", unfollowed := true, recurses := true, named := ["unicode/utf8.first", "unicode/utf8.acceptRanges"], apart := false, laid := [("unicode/utf8.acceptRanges", laid_unicode_utf8_acceptRanges), ("unicode/utf8.first", laid_unicode_utf8_first)], narrowed := true }
def LimitValidUptoSaid : Prop := limitValidUptoRow.holds Tryd.pinned (OpenSpec.upto limitValidSpec)

/-- 'dioramalaw12.LimitMeasures', WHERE WHAT IT READS IS OF BULK AT MOST 1048576: true; the input reads as it did. -/
def limitMeasuresUptoRow : OpenClaim := { program := "ytcphcaiiofeflaadoor", sum := "deddf0ed830a711aae09fc4eb6ce1cfcf9807b8e81979103f229e1cfbe707070", func := "diorama/dioramalaw12.LimitMeasures", spec := "limitMeasures", unfollowed := true, recurses := true, named := ["unicode/utf8.first", "unicode/utf8.acceptRanges"], apart := false, laid := [("unicode/utf8.acceptRanges", laid_unicode_utf8_acceptRanges), ("unicode/utf8.first", laid_unicode_utf8_first)], narrowed := true }
def LimitMeasuresUptoSaid : Prop := limitMeasuresUptoRow.holds Tryd.pinned (OpenSpec.upto limitMeasuresSpec)

/-- 'dioramalaw12.LimitGrows', WHERE WHAT IT READS IS OF BULK AT MOST 1048576: true; the input reads as it did. -/
def limitGrowsUptoRow : OpenClaim := { program := "ytcphcaiiofeflaadoor", sum := "deddf0ed830a711aae09fc4eb6ce1cfcf9807b8e81979103f229e1cfbe707070", func := "diorama/dioramalaw12.LimitGrows", spec := "limitGrows", unfollowed := true, recurses := true, named := ["unicode/utf8.first", "unicode/utf8.acceptRanges"], apart := false, laid := [("unicode/utf8.acceptRanges", laid_unicode_utf8_acceptRanges), ("unicode/utf8.first", laid_unicode_utf8_first)], narrowed := true }
def LimitGrowsUptoSaid : Prop := limitGrowsUptoRow.holds Tryd.pinned (OpenSpec.upto limitGrowsSpec)

/-- 'dioramalaw12.LimitOrder', WHERE WHAT IT READS IS OF BULK AT MOST 1048576: true; the input reads as it did. -/
def limitOrderUptoRow : OpenClaim := { program := "ytcphcaiiofeflaadoor", sum := "deddf0ed830a711aae09fc4eb6ce1cfcf9807b8e81979103f229e1cfbe707070", func := "diorama/dioramalaw12.LimitOrder", spec := "limitOrder", unfollowed := true, recurses := true, named := ["unicode/utf8.first", "unicode/utf8.acceptRanges"], apart := false, laid := [("unicode/utf8.acceptRanges", laid_unicode_utf8_acceptRanges), ("unicode/utf8.first", laid_unicode_utf8_first)], narrowed := true }
def LimitOrderUptoSaid : Prop := limitOrderUptoRow.holds Tryd.pinned (OpenSpec.upto limitOrderSpec)

/-- 'dioramalaw12.LimitCanon', WHERE WHAT IT READS IS OF BULK AT MOST 1048576: true; the input reads as it did. -/
def limitCanonUptoRow : OpenClaim := { program := "ytcphcaiiofeflaadoor", sum := "deddf0ed830a711aae09fc4eb6ce1cfcf9807b8e81979103f229e1cfbe707070", func := "diorama/dioramalaw12.LimitCanon", spec := "limitCanon", unfollowed := true, recurses := true, named := ["unicode/utf8.first", "unicode/utf8.acceptRanges"], apart := false, laid := [("unicode/utf8.acceptRanges", laid_unicode_utf8_acceptRanges), ("unicode/utf8.first", laid_unicode_utf8_first)], narrowed := true }
def LimitCanonUptoSaid : Prop := limitCanonUptoRow.holds Tryd.pinned (OpenSpec.upto limitCanonSpec)

/-- 'dioramalaw16.OldValid', WHERE WHAT IT READS IS OF BULK AT MOST 1048576: true; the input reads as it did. -/
def oldValidUptoRow : OpenClaim := { program := "ytcphcaiiofeflaadoor", sum := "deddf0ed830a711aae09fc4eb6ce1cfcf9807b8e81979103f229e1cfbe707070", func := "diorama/dioramalaw16.OldValid", spec := "oldValid", unfollowed := true, recurses := true, named := ["unicode/utf8.first", "unicode/utf8.acceptRanges"], apart := false, laid := [("unicode/utf8.acceptRanges", laid_unicode_utf8_acceptRanges), ("unicode/utf8.first", laid_unicode_utf8_first)], narrowed := true }
def OldValidUptoSaid : Prop := oldValidUptoRow.holds Tryd.pinned (OpenSpec.upto oldValidSpec)

/-- 'dioramalaw16.OldFlat', WHERE WHAT IT READS IS OF BULK AT MOST 1048576: true; the input reads as it did. -/
def oldFlatUptoRow : OpenClaim := { program := "ytcphcaiiofeflaadoor", sum := "deddf0ed830a711aae09fc4eb6ce1cfcf9807b8e81979103f229e1cfbe707070", func := "diorama/dioramalaw16.OldFlat", spec := "oldFlat", unfollowed := true, recurses := true, named := ["unicode/utf8.first", "unicode/utf8.acceptRanges"], apart := false, laid := [("unicode/utf8.acceptRanges", laid_unicode_utf8_acceptRanges), ("unicode/utf8.first", laid_unicode_utf8_first)], narrowed := true }
def OldFlatUptoSaid : Prop := oldFlatUptoRow.holds Tryd.pinned (OpenSpec.upto oldFlatSpec)

/-- 'dioramalaw16.OldCanon', WHERE WHAT IT READS IS OF BULK AT MOST 1048576: true; the input reads as it did. -/
def oldCanonUptoRow : OpenClaim := { program := "ytcphcaiiofeflaadoor", sum := "deddf0ed830a711aae09fc4eb6ce1cfcf9807b8e81979103f229e1cfbe707070", func := "diorama/dioramalaw16.OldCanon", spec := "oldCanon", unfollowed := true, recurses := true, named := ["unicode/utf8.first", "unicode/utf8.acceptRanges"], apart := false, laid := [("unicode/utf8.acceptRanges", laid_unicode_utf8_acceptRanges), ("unicode/utf8.first", laid_unicode_utf8_first)], narrowed := true }
def OldCanonUptoSaid : Prop := oldCanonUptoRow.holds Tryd.pinned (OpenSpec.upto oldCanonSpec)

/-- 'dioramalaw16.OldMeasure', WHERE WHAT IT READS IS OF BULK AT MOST 1048576: true; the input reads as it did. -/
def oldMeasureUptoRow : OpenClaim := { program := "ytcphcaiiofeflaadoor", sum := "deddf0ed830a711aae09fc4eb6ce1cfcf9807b8e81979103f229e1cfbe707070", func := "diorama/dioramalaw16.OldMeasure", spec := "oldMeasure", unfollowed := true, recurses := true, named := ["unicode/utf8.first", "unicode/utf8.acceptRanges"], apart := false, laid := [("unicode/utf8.acceptRanges", laid_unicode_utf8_acceptRanges), ("unicode/utf8.first", laid_unicode_utf8_first)], narrowed := true }
def OldMeasureUptoSaid : Prop := oldMeasureUptoRow.holds Tryd.pinned (OpenSpec.upto oldMeasureSpec)

/-- 'dioramalaw16.OldForward', WHERE WHAT IT READS IS OF BULK AT MOST 1048576: true; the input reads as it did. -/
def oldForwardUptoRow : OpenClaim := { program := "ytcphcaiiofeflaadoor", sum := "deddf0ed830a711aae09fc4eb6ce1cfcf9807b8e81979103f229e1cfbe707070", func := "diorama/dioramalaw16.OldForward", spec := "oldForward", unfollowed := true, recurses := true, named := ["unicode/utf8.first", "unicode/utf8.acceptRanges"], apart := false, laid := [("unicode/utf8.acceptRanges", laid_unicode_utf8_acceptRanges), ("unicode/utf8.first", laid_unicode_utf8_first)], narrowed := true }
def OldForwardUptoSaid : Prop := oldForwardUptoRow.holds Tryd.pinned (OpenSpec.upto oldForwardSpec)

end Rows
end Go.Proofs.YtcphcaiiofeflaaDoor
