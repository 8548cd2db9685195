/-
  No cell of these rows narrows 'for every input' (looked for: loops, veiled, ifaces, maps, wideKeys, modest, calm, conditions, laid).
  DERIVED. THE GIVEN ROWS OF THIS SEAT. 11 by the template 'for every input the law returns true; each argument reads behind the call as it read before'; 0 by the template 'total and deterministic' (their statements: YtcgbfpoekappeaaTotals.lean).
  GIVEN WITH THE SEED: the statements are not yours to turn. If you find one false, say at which input.
  Laid BY PROGRAM, IN A SANDBOX (cutbox-rows.mjs): the forced cells as the released guide's own fill.sh prints them over the translation eebcc59111ad76a0… (all of the seat's roots in one cut). By AI agents, Wed Nov 11 2026. No macro, syntax, notation, axiom, sorry.
-/
import Derived.Test.YtcgbfpoekappeaaChecked
import GoSem.Claim
import GoSem.ClaimJoined
import GoSem.ClaimMapViews
import Derived.JoinedTies
import Derived.KernelRfl
namespace Go.Proofs.Ytcgbfpoekappeaa
/- THE CELL 'sum', in the pinned program and in every row, IS THE sha256 OF THE DUMP (.gsa) THAT YtcgbfpoekappeaaProg.lean LOADS. Nothing in Lean hashes anything: it is a label: what it is worth is what the hold of that sum in a sandbox is worth. -/
noncomputable def Try.pinned : Pinned := { name := "ytcgbfpoekappeaa", sum := "eebcc59111ad76a0c1beeccf506506dbf9180d50e90d490d0f352a44c7c7314b", checked := Try.checked }
namespace Rows
def none {H : Type} : Left H := { results := [], args := [] }

/-- 'dioramalaw01.VarintPuts': WHATEVER THE INPUT: true; the input reads as it did. -/
def varintPutsSpec : ChangeSpec := { name := "varintPuts", fn := fun _ => fun
  | [d] => { results := [.lit (.bool true)], args := [d] }
  | _ => none }
def varintPutsRow : OpenClaim := { program := "ytcgbfpoekappeaa", sum := "eebcc59111ad76a0c1beeccf506506dbf9180d50e90d490d0f352a44c7c7314b", func := "diorama/dioramalaw01.VarintPuts", spec := "varintPuts", recurses := true, apart := false }
def VarintPutsSaid : Prop := varintPutsRow.holds Try.pinned (OpenSpec.ofChange varintPutsSpec)

/-- ITS FALSE NEIGHBOUR: 'it returns false'. Refute it at one input. -/
def varintPutsWrong : ChangeSpec := { name := "varintPuts", fn := fun _ => fun
  | [d] => { results := [.lit (.bool false)], args := [d] }
  | _ => none }
def VarintPutsWrongFalsely : Prop := varintPutsRow.holds Try.pinned (OpenSpec.ofChange varintPutsWrong)

/-- 'dioramalaw01.VarintGets': WHATEVER THE INPUT: true; the input reads as it did. -/
def varintGetsSpec : ChangeSpec := { name := "varintGets", fn := fun _ => fun
  | [d1, d2] => { results := [.lit (.bool true)], args := [d1, d2] }
  | _ => none }
def varintGetsRow : OpenClaim := { program := "ytcgbfpoekappeaa", sum := "eebcc59111ad76a0c1beeccf506506dbf9180d50e90d490d0f352a44c7c7314b", func := "diorama/dioramalaw01.VarintGets", spec := "varintGets", apart := false }
def VarintGetsSaid : Prop := varintGetsRow.holds Try.pinned (OpenSpec.ofChange varintGetsSpec)

/-- ITS FALSE NEIGHBOUR: 'it returns false'. Refute it at one input. -/
def varintGetsWrong : ChangeSpec := { name := "varintGets", fn := fun _ => fun
  | [d1, d2] => { results := [.lit (.bool false)], args := [d1, d2] }
  | _ => none }
def VarintGetsWrongFalsely : Prop := varintGetsRow.holds Try.pinned (OpenSpec.ofChange varintGetsWrong)

/-- 'dioramalaw01.VarintSigns': WHATEVER THE INPUT: true; the input reads as it did. -/
def varintSignsSpec : ChangeSpec := { name := "varintSigns", fn := fun _ => fun
  | [d1, d2] => { results := [.lit (.bool true)], args := [d1, d2] }
  | _ => none }
def varintSignsRow : OpenClaim := { program := "ytcgbfpoekappeaa", sum := "eebcc59111ad76a0c1beeccf506506dbf9180d50e90d490d0f352a44c7c7314b", func := "diorama/dioramalaw01.VarintSigns", spec := "varintSigns", apart := false }
def VarintSignsSaid : Prop := varintSignsRow.holds Try.pinned (OpenSpec.ofChange varintSignsSpec)

/-- ITS FALSE NEIGHBOUR: 'it returns false'. Refute it at one input. -/
def varintSignsWrong : ChangeSpec := { name := "varintSigns", fn := fun _ => fun
  | [d1, d2] => { results := [.lit (.bool false)], args := [d1, d2] }
  | _ => none }
def VarintSignsWrongFalsely : Prop := varintSignsRow.holds Try.pinned (OpenSpec.ofChange varintSignsWrong)

/-- 'dioramalaw01.VarintBack': WHATEVER THE INPUT: true; the input reads as it did. -/
def varintBackSpec : ChangeSpec := { name := "varintBack", fn := fun _ => fun
  | [d1, d2] => { results := [.lit (.bool true)], args := [d1, d2] }
  | _ => none }
def varintBackRow : OpenClaim := { program := "ytcgbfpoekappeaa", sum := "eebcc59111ad76a0c1beeccf506506dbf9180d50e90d490d0f352a44c7c7314b", func := "diorama/dioramalaw01.VarintBack", spec := "varintBack", apart := false }
def VarintBackSaid : Prop := varintBackRow.holds Try.pinned (OpenSpec.ofChange varintBackSpec)

/-- ITS FALSE NEIGHBOUR: 'it returns false'. Refute it at one input. -/
def varintBackWrong : ChangeSpec := { name := "varintBack", fn := fun _ => fun
  | [d1, d2] => { results := [.lit (.bool false)], args := [d1, d2] }
  | _ => none }
def VarintBackWrongFalsely : Prop := varintBackRow.holds Try.pinned (OpenSpec.ofChange varintBackWrong)

/-- 'dioramalaw01.VarintOne': WHATEVER THE INPUT: true; the input reads as it did. -/
def varintOneSpec : ChangeSpec := { name := "varintOne", fn := fun _ => fun
  | [d] => { results := [.lit (.bool true)], args := [d] }
  | _ => none }
def varintOneRow : OpenClaim := { program := "ytcgbfpoekappeaa", sum := "eebcc59111ad76a0c1beeccf506506dbf9180d50e90d490d0f352a44c7c7314b", func := "diorama/dioramalaw01.VarintOne", spec := "varintOne", apart := false }
def VarintOneSaid : Prop := varintOneRow.holds Try.pinned (OpenSpec.ofChange varintOneSpec)

/-- ITS FALSE NEIGHBOUR: 'it returns false'. Refute it at one input. -/
def varintOneWrong : ChangeSpec := { name := "varintOne", fn := fun _ => fun
  | [d] => { results := [.lit (.bool false)], args := [d] }
  | _ => none }
def VarintOneWrongFalsely : Prop := varintOneRow.holds Try.pinned (OpenSpec.ofChange varintOneWrong)

/-- 'dioramalaw01.VarintOrder': WHATEVER THE INPUT: true; the input reads as it did. -/
def varintOrderSpec : ChangeSpec := { name := "varintOrder", fn := fun _ => fun
  | [d1, d2] => { results := [.lit (.bool true)], args := [d1, d2] }
  | _ => none }
def varintOrderRow : OpenClaim := { program := "ytcgbfpoekappeaa", sum := "eebcc59111ad76a0c1beeccf506506dbf9180d50e90d490d0f352a44c7c7314b", func := "diorama/dioramalaw01.VarintOrder", spec := "varintOrder", apart := false }
def VarintOrderSaid : Prop := varintOrderRow.holds Try.pinned (OpenSpec.ofChange varintOrderSpec)

/-- ITS FALSE NEIGHBOUR: 'it returns false'. Refute it at one input. -/
def varintOrderWrong : ChangeSpec := { name := "varintOrder", fn := fun _ => fun
  | [d1, d2] => { results := [.lit (.bool false)], args := [d1, d2] }
  | _ => none }
def VarintOrderWrongFalsely : Prop := varintOrderRow.holds Try.pinned (OpenSpec.ofChange varintOrderWrong)

/-- 'dioramalaw02.CursorReads': WHATEVER THE INPUT: true; the input reads as it did. -/
def cursorReadsSpec : ChangeSpec := { name := "cursorReads", fn := fun _ => fun
  | [d1, d2] => { results := [.lit (.bool true)], args := [d1, d2] }
  | _ => none }
def cursorReadsRow : OpenClaim := { program := "ytcgbfpoekappeaa", sum := "eebcc59111ad76a0c1beeccf506506dbf9180d50e90d490d0f352a44c7c7314b", func := "diorama/dioramalaw02.CursorReads", spec := "cursorReads", apart := false }
def CursorReadsSaid : Prop := cursorReadsRow.holds Try.pinned (OpenSpec.ofChange cursorReadsSpec)

/-- ITS FALSE NEIGHBOUR: 'it returns false'. Refute it at one input. -/
def cursorReadsWrong : ChangeSpec := { name := "cursorReads", fn := fun _ => fun
  | [d1, d2] => { results := [.lit (.bool false)], args := [d1, d2] }
  | _ => none }
def CursorReadsWrongFalsely : Prop := cursorReadsRow.holds Try.pinned (OpenSpec.ofChange cursorReadsWrong)

/-- 'dioramalaw02.CursorSticks': WHATEVER THE INPUT: true; the input reads as it did. -/
def cursorSticksSpec : ChangeSpec := { name := "cursorSticks", fn := fun _ => fun
  | [d1, d2, d3] => { results := [.lit (.bool true)], args := [d1, d2, d3] }
  | _ => none }
def cursorSticksRow : OpenClaim := { program := "ytcgbfpoekappeaa", sum := "eebcc59111ad76a0c1beeccf506506dbf9180d50e90d490d0f352a44c7c7314b", func := "diorama/dioramalaw02.CursorSticks", spec := "cursorSticks", apart := false }
def CursorSticksSaid : Prop := cursorSticksRow.holds Try.pinned (OpenSpec.ofChange cursorSticksSpec)

/-- ITS FALSE NEIGHBOUR: 'it returns false'. Refute it at one input. -/
def cursorSticksWrong : ChangeSpec := { name := "cursorSticks", fn := fun _ => fun
  | [d1, d2, d3] => { results := [.lit (.bool false)], args := [d1, d2, d3] }
  | _ => none }
def CursorSticksWrongFalsely : Prop := cursorSticksRow.holds Try.pinned (OpenSpec.ofChange cursorSticksWrong)

/-- 'dioramalaw02.CursorAll': WHATEVER THE INPUT: true; the input reads as it did. -/
def cursorAllSpec : ChangeSpec := { name := "cursorAll", fn := fun _ => fun
  | [d1, d2] => { results := [.lit (.bool true)], args := [d1, d2] }
  | _ => none }
def cursorAllRow : OpenClaim := { program := "ytcgbfpoekappeaa", sum := "eebcc59111ad76a0c1beeccf506506dbf9180d50e90d490d0f352a44c7c7314b", func := "diorama/dioramalaw02.CursorAll", spec := "cursorAll", apart := false }
def CursorAllSaid : Prop := cursorAllRow.holds Try.pinned (OpenSpec.ofChange cursorAllSpec)

/-- ITS FALSE NEIGHBOUR: 'it returns false'. Refute it at one input. -/
def cursorAllWrong : ChangeSpec := { name := "cursorAll", fn := fun _ => fun
  | [d1, d2] => { results := [.lit (.bool false)], args := [d1, d2] }
  | _ => none }
def CursorAllWrongFalsely : Prop := cursorAllRow.holds Try.pinned (OpenSpec.ofChange cursorAllWrong)

/-- 'dioramalaw02.CursorParts': WHATEVER THE INPUT: true; the input reads as it did. -/
def cursorPartsSpec : ChangeSpec := { name := "cursorParts", fn := fun _ => fun
  | [d1, d2, d3] => { results := [.lit (.bool true)], args := [d1, d2, d3] }
  | _ => none }
def cursorPartsRow : OpenClaim := { program := "ytcgbfpoekappeaa", sum := "eebcc59111ad76a0c1beeccf506506dbf9180d50e90d490d0f352a44c7c7314b", func := "diorama/dioramalaw02.CursorParts", spec := "cursorParts", recurses := true, apart := false }
def CursorPartsSaid : Prop := cursorPartsRow.holds Try.pinned (OpenSpec.ofChange cursorPartsSpec)

/-- ITS FALSE NEIGHBOUR: 'it returns false'. Refute it at one input. -/
def cursorPartsWrong : ChangeSpec := { name := "cursorParts", fn := fun _ => fun
  | [d1, d2, d3] => { results := [.lit (.bool false)], args := [d1, d2, d3] }
  | _ => none }
def CursorPartsWrongFalsely : Prop := cursorPartsRow.holds Try.pinned (OpenSpec.ofChange cursorPartsWrong)

/-- 'dioramalaw02.CursorLeft': WHATEVER THE INPUT: true; the input reads as it did. -/
def cursorLeftSpec : ChangeSpec := { name := "cursorLeft", fn := fun _ => fun
  | [d1, d2] => { results := [.lit (.bool true)], args := [d1, d2] }
  | _ => none }
def cursorLeftRow : OpenClaim := { program := "ytcgbfpoekappeaa", sum := "eebcc59111ad76a0c1beeccf506506dbf9180d50e90d490d0f352a44c7c7314b", func := "diorama/dioramalaw02.CursorLeft", spec := "cursorLeft", apart := false }
def CursorLeftSaid : Prop := cursorLeftRow.holds Try.pinned (OpenSpec.ofChange cursorLeftSpec)

/-- ITS FALSE NEIGHBOUR: 'it returns false'. Refute it at one input. -/
def cursorLeftWrong : ChangeSpec := { name := "cursorLeft", fn := fun _ => fun
  | [d1, d2] => { results := [.lit (.bool false)], args := [d1, d2] }
  | _ => none }
def CursorLeftWrongFalsely : Prop := cursorLeftRow.holds Try.pinned (OpenSpec.ofChange cursorLeftWrong)

/- THE SECOND FORM. 'bulk': how many values and letters a reading holds, each counted each time it is reached (what is shared counts as often as it is met; a slice's spare places count too). A statement '..UptoSaid' is the law's where the arguments, and the package variables that the reading takes, are together of bulk at most 1048576: NARROWER than '..Said'. Prove '..Said' where nothing that the law and all that it calls make is longer than what came in: it says more and counts as full. Else prove '..UptoSaid'. A law counts once. -/
mutual
def uptoBulk {H : Type} : DataW H → Nat
  | .lit (.string bytes) => bytes.length + 1
  | .lit _ => 1
  | .nil => 1
  | .ptr d => uptoBulk d + 1
  | .slice elems spare => uptoBulkAll elems + uptoBulkAll spare + 1
  | .agg parts => uptoBulkAll parts + 1
  | .iface _ d => uptoBulk d + 1
  | .map entries => uptoBulkEntries entries + 1
  | .held _ => 1
def uptoBulkAll {H : Type} : List (DataW H) → Nat
  | [] => 0
  | d :: r => uptoBulk d + uptoBulkAll r
def uptoBulkEntries {H : Type} : List (Lit × DataW H) → Nat
  | [] => 0
  | x :: r => uptoBulkEntry x + uptoBulkEntries r
def uptoBulkEntry {H : Type} : Lit × DataW H → Nat
  | (.string bytes, d) => bytes.length + uptoBulk d + 1
  | (_, d) => uptoBulk d + 1
 end
def uptoSmall : (H : Type) → List (DataW H) → Bool := fun _ ds => decide (uptoBulkAll ds ≤ 1048576)
def OpenSpec.upto (s : _root_.Go.ChangeSpec) : _root_.Go.OpenSpec := { _root_.Go.OpenSpec.ofChange s with cond := some uptoSmall }

/-- 'dioramalaw01.VarintPuts', WHERE WHAT IT READS IS OF BULK AT MOST 1048576: true; the input reads as it did. -/
def varintPutsUptoRow : OpenClaim := { program := "ytcgbfpoekappeaa", sum := "eebcc59111ad76a0c1beeccf506506dbf9180d50e90d490d0f352a44c7c7314b", func := "diorama/dioramalaw01.VarintPuts", spec := "varintPuts", recurses := true, apart := false, narrowed := true }
def VarintPutsUptoSaid : Prop := varintPutsUptoRow.holds Try.pinned (OpenSpec.upto varintPutsSpec)

/-- 'dioramalaw01.VarintGets', WHERE WHAT IT READS IS OF BULK AT MOST 1048576: true; the input reads as it did. -/
def varintGetsUptoRow : OpenClaim := { program := "ytcgbfpoekappeaa", sum := "eebcc59111ad76a0c1beeccf506506dbf9180d50e90d490d0f352a44c7c7314b", func := "diorama/dioramalaw01.VarintGets", spec := "varintGets", apart := false, narrowed := true }
def VarintGetsUptoSaid : Prop := varintGetsUptoRow.holds Try.pinned (OpenSpec.upto varintGetsSpec)

/-- 'dioramalaw01.VarintSigns', WHERE WHAT IT READS IS OF BULK AT MOST 1048576: true; the input reads as it did. -/
def varintSignsUptoRow : OpenClaim := { program := "ytcgbfpoekappeaa", sum := "eebcc59111ad76a0c1beeccf506506dbf9180d50e90d490d0f352a44c7c7314b", func := "diorama/dioramalaw01.VarintSigns", spec := "varintSigns", apart := false, narrowed := true }
def VarintSignsUptoSaid : Prop := varintSignsUptoRow.holds Try.pinned (OpenSpec.upto varintSignsSpec)

/-- 'dioramalaw01.VarintBack', WHERE WHAT IT READS IS OF BULK AT MOST 1048576: true; the input reads as it did. -/
def varintBackUptoRow : OpenClaim := { program := "ytcgbfpoekappeaa", sum := "eebcc59111ad76a0c1beeccf506506dbf9180d50e90d490d0f352a44c7c7314b", func := "diorama/dioramalaw01.VarintBack", spec := "varintBack", apart := false, narrowed := true }
def VarintBackUptoSaid : Prop := varintBackUptoRow.holds Try.pinned (OpenSpec.upto varintBackSpec)

/-- 'dioramalaw01.VarintOne', WHERE WHAT IT READS IS OF BULK AT MOST 1048576: true; the input reads as it did. -/
def varintOneUptoRow : OpenClaim := { program := "ytcgbfpoekappeaa", sum := "eebcc59111ad76a0c1beeccf506506dbf9180d50e90d490d0f352a44c7c7314b", func := "diorama/dioramalaw01.VarintOne", spec := "varintOne", apart := false, narrowed := true }
def VarintOneUptoSaid : Prop := varintOneUptoRow.holds Try.pinned (OpenSpec.upto varintOneSpec)

/-- 'dioramalaw01.VarintOrder', WHERE WHAT IT READS IS OF BULK AT MOST 1048576: true; the input reads as it did. -/
def varintOrderUptoRow : OpenClaim := { program := "ytcgbfpoekappeaa", sum := "eebcc59111ad76a0c1beeccf506506dbf9180d50e90d490d0f352a44c7c7314b", func := "diorama/dioramalaw01.VarintOrder", spec := "varintOrder", apart := false, narrowed := true }
def VarintOrderUptoSaid : Prop := varintOrderUptoRow.holds Try.pinned (OpenSpec.upto varintOrderSpec)

/-- 'dioramalaw02.CursorReads', WHERE WHAT IT READS IS OF BULK AT MOST 1048576: true; the input reads as it did. -/
def cursorReadsUptoRow : OpenClaim := { program := "ytcgbfpoekappeaa", sum := "eebcc59111ad76a0c1beeccf506506dbf9180d50e90d490d0f352a44c7c7314b", func := "diorama/dioramalaw02.CursorReads", spec := "cursorReads", apart := false, narrowed := true }
def CursorReadsUptoSaid : Prop := cursorReadsUptoRow.holds Try.pinned (OpenSpec.upto cursorReadsSpec)

/-- 'dioramalaw02.CursorSticks', WHERE WHAT IT READS IS OF BULK AT MOST 1048576: true; the input reads as it did. -/
def cursorSticksUptoRow : OpenClaim := { program := "ytcgbfpoekappeaa", sum := "eebcc59111ad76a0c1beeccf506506dbf9180d50e90d490d0f352a44c7c7314b", func := "diorama/dioramalaw02.CursorSticks", spec := "cursorSticks", apart := false, narrowed := true }
def CursorSticksUptoSaid : Prop := cursorSticksUptoRow.holds Try.pinned (OpenSpec.upto cursorSticksSpec)

/-- 'dioramalaw02.CursorAll', WHERE WHAT IT READS IS OF BULK AT MOST 1048576: true; the input reads as it did. -/
def cursorAllUptoRow : OpenClaim := { program := "ytcgbfpoekappeaa", sum := "eebcc59111ad76a0c1beeccf506506dbf9180d50e90d490d0f352a44c7c7314b", func := "diorama/dioramalaw02.CursorAll", spec := "cursorAll", apart := false, narrowed := true }
def CursorAllUptoSaid : Prop := cursorAllUptoRow.holds Try.pinned (OpenSpec.upto cursorAllSpec)

/-- 'dioramalaw02.CursorParts', WHERE WHAT IT READS IS OF BULK AT MOST 1048576: true; the input reads as it did. -/
def cursorPartsUptoRow : OpenClaim := { program := "ytcgbfpoekappeaa", sum := "eebcc59111ad76a0c1beeccf506506dbf9180d50e90d490d0f352a44c7c7314b", func := "diorama/dioramalaw02.CursorParts", spec := "cursorParts", recurses := true, apart := false, narrowed := true }
def CursorPartsUptoSaid : Prop := cursorPartsUptoRow.holds Try.pinned (OpenSpec.upto cursorPartsSpec)

/-- 'dioramalaw02.CursorLeft', WHERE WHAT IT READS IS OF BULK AT MOST 1048576: true; the input reads as it did. -/
def cursorLeftUptoRow : OpenClaim := { program := "ytcgbfpoekappeaa", sum := "eebcc59111ad76a0c1beeccf506506dbf9180d50e90d490d0f352a44c7c7314b", func := "diorama/dioramalaw02.CursorLeft", spec := "cursorLeft", apart := false, narrowed := true }
def CursorLeftUptoSaid : Prop := cursorLeftUptoRow.holds Try.pinned (OpenSpec.upto cursorLeftSpec)

end Rows
end Go.Proofs.Ytcgbfpoekappeaa
