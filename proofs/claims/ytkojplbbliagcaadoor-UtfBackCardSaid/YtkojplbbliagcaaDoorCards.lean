/-
  DERIVED. GIVEN WITH THE SEED: THE CARDS: each row of YtkojplbbliagcaaDoorRows.lean that lists a variable, with what it lists TIED to the program's text (the seventh form; the later family's looks); each row that meets fmt, with fmt's text TOLD by the authors' own Lean function (tested against real Go, not proved from fmt's source: count such statements apart). THE CARD IS WHAT COUNTS. Prove the row's statement (the work); the ties are given (YtkojplbbliagcaaDoorTie.lean); close each card by the builder's one call (the guide's Derived/Test/ToyasCard.lean, 'card_holds'). Laid BY PROGRAM, IN A SANDBOX (cutbox-door.mjs). By AI agents, Wed Nov 11 2026. No macro, syntax, notation, axiom, sorry.
-/
import Derived.Test.YtkojplbbliagcaaDoorRows
import GoSem.ClaimSeven
namespace Go.Proofs.YtkojplbbliagcaaDoor
namespace Rows

/-- THE TIED CARD OF 'dioramalaw05.UtfReads'. -/
def utfReadsCard : Claim7 := { stood := { row := utfReadsRow, standIns := [], harness := (true, "21a46ae35432c692d66d0021fa049c49f17ccd8af47ecd7736c647a5160fd4ba"), looks := false }, kinds := [], alts := [], laidByText := true, laidKinds := [.data, .pinned], laidTests := true, laidLooks := .later }
def UtfReadsCardSaid : Prop := Claim7.holds Tryd.pinned (.plain (OpenSpec.ofChange utfReadsSpec)) utfReadsCard

/-- THE TIED CARD OF 'dioramalaw05.UtfPuts'. -/
def utfPutsCard : Claim7 := { stood := { row := utfPutsRow, standIns := [], harness := (true, "21a46ae35432c692d66d0021fa049c49f17ccd8af47ecd7736c647a5160fd4ba"), looks := false }, kinds := [], alts := [], laidByText := true, laidKinds := [.data, .pinned], laidTests := true, laidLooks := .later }
def UtfPutsCardSaid : Prop := Claim7.holds Tryd.pinned (.plain (OpenSpec.ofChange utfPutsSpec)) utfPutsCard

/-- THE TIED CARD OF 'dioramalaw05.UtfBack'. -/
def utfBackCard : Claim7 := { stood := { row := utfBackRow, standIns := [], harness := (true, "21a46ae35432c692d66d0021fa049c49f17ccd8af47ecd7736c647a5160fd4ba"), looks := false }, kinds := [], alts := [], laidByText := true, laidKinds := [.data, .pinned], laidTests := true, laidLooks := .later }
def UtfBackCardSaid : Prop := Claim7.holds Tryd.pinned (.plain (OpenSpec.ofChange utfBackSpec)) utfBackCard

/-- THE TIED CARD OF 'dioramalaw05.UtfParts'. -/
def utfPartsCard : Claim7 := { stood := { row := utfPartsRow, standIns := [], harness := (true, "21a46ae35432c692d66d0021fa049c49f17ccd8af47ecd7736c647a5160fd4ba"), looks := false }, kinds := [], alts := [], laidByText := true, laidKinds := [.data, .pinned], laidTests := true, laidLooks := .later }
def UtfPartsCardSaid : Prop := Claim7.holds Tryd.pinned (.plain (OpenSpec.ofChange utfPartsSpec)) utfPartsCard

/-- THE TIED CARD OF 'dioramalaw05.UtfCuts'. -/
def utfCutsCard : Claim7 := { stood := { row := utfCutsRow, standIns := [], harness := (true, "21a46ae35432c692d66d0021fa049c49f17ccd8af47ecd7736c647a5160fd4ba"), looks := false }, kinds := [], alts := [], laidByText := true, laidKinds := [.data, .pinned], laidTests := true, laidLooks := .later }
def UtfCutsCardSaid : Prop := Claim7.holds Tryd.pinned (.plain (OpenSpec.ofChange utfCutsSpec)) utfCutsCard

/-- THE SECOND FORM's CARD OF 'dioramalaw05.UtfReads'. -/
def utfReadsUptoCard : Claim7 := { stood := { row := utfReadsUptoRow, standIns := [], harness := (true, "21a46ae35432c692d66d0021fa049c49f17ccd8af47ecd7736c647a5160fd4ba"), looks := false }, kinds := [], alts := [], laidByText := true, laidKinds := [.data, .pinned], laidTests := true, laidLooks := .later }
def UtfReadsUptoCardSaid : Prop := Claim7.holds Tryd.pinned (.plain (OpenSpec.upto utfReadsSpec)) utfReadsUptoCard

/-- THE SECOND FORM's CARD OF 'dioramalaw05.UtfPuts'. -/
def utfPutsUptoCard : Claim7 := { stood := { row := utfPutsUptoRow, standIns := [], harness := (true, "21a46ae35432c692d66d0021fa049c49f17ccd8af47ecd7736c647a5160fd4ba"), looks := false }, kinds := [], alts := [], laidByText := true, laidKinds := [.data, .pinned], laidTests := true, laidLooks := .later }
def UtfPutsUptoCardSaid : Prop := Claim7.holds Tryd.pinned (.plain (OpenSpec.upto utfPutsSpec)) utfPutsUptoCard

/-- THE SECOND FORM's CARD OF 'dioramalaw05.UtfBack'. -/
def utfBackUptoCard : Claim7 := { stood := { row := utfBackUptoRow, standIns := [], harness := (true, "21a46ae35432c692d66d0021fa049c49f17ccd8af47ecd7736c647a5160fd4ba"), looks := false }, kinds := [], alts := [], laidByText := true, laidKinds := [.data, .pinned], laidTests := true, laidLooks := .later }
def UtfBackUptoCardSaid : Prop := Claim7.holds Tryd.pinned (.plain (OpenSpec.upto utfBackSpec)) utfBackUptoCard

/-- THE SECOND FORM's CARD OF 'dioramalaw05.UtfParts'. -/
def utfPartsUptoCard : Claim7 := { stood := { row := utfPartsUptoRow, standIns := [], harness := (true, "21a46ae35432c692d66d0021fa049c49f17ccd8af47ecd7736c647a5160fd4ba"), looks := false }, kinds := [], alts := [], laidByText := true, laidKinds := [.data, .pinned], laidTests := true, laidLooks := .later }
def UtfPartsUptoCardSaid : Prop := Claim7.holds Tryd.pinned (.plain (OpenSpec.upto utfPartsSpec)) utfPartsUptoCard

/-- THE SECOND FORM's CARD OF 'dioramalaw05.UtfCuts'. -/
def utfCutsUptoCard : Claim7 := { stood := { row := utfCutsUptoRow, standIns := [], harness := (true, "21a46ae35432c692d66d0021fa049c49f17ccd8af47ecd7736c647a5160fd4ba"), looks := false }, kinds := [], alts := [], laidByText := true, laidKinds := [.data, .pinned], laidTests := true, laidLooks := .later }
def UtfCutsUptoCardSaid : Prop := Claim7.holds Tryd.pinned (.plain (OpenSpec.upto utfCutsSpec)) utfCutsUptoCard
end Rows
end Go.Proofs.YtkojplbbliagcaaDoor
