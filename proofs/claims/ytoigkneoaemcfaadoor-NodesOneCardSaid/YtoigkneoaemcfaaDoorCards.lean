/-
  DERIVED. GIVEN WITH THE SEED: THE CARDS: each row of YtoigkneoaemcfaaDoorRows.lean that lists a variable, with what it lists TIED to the program's text (the seventh form; the later family's looks); each row that meets fmt, with fmt's text TOLD by the authors' own Lean function (tested against real Go, not proved from fmt's source: count such statements apart). THE CARD IS WHAT COUNTS. Prove the row's statement (the work); the ties are given (YtoigkneoaemcfaaDoorTie.lean); close each card by the builder's one call (the guide's Derived/Test/ToyasCard.lean, 'card_holds'). Laid BY PROGRAM, IN A SANDBOX (cutbox-door.mjs). By AI agents, Wed Nov 11 2026. No macro, syntax, notation, axiom, sorry.
-/
import Derived.Test.YtoigkneoaemcfaaDoorRows
import GoSem.ClaimSeven
namespace Go.Proofs.YtoigkneoaemcfaaDoor
namespace Rows

/-- THE TIED CARD OF 'dioramalaw14.NodesOne'. -/
def nodesOneCard : Claim7 := { stood := { row := nodesOneRow, standIns := [], harness := (true, "8c8b54ddaf5e4baf7b993e033ab69a54370fe038a9027baf012a2c43a0175841"), looks := true }, kinds := [], alts := [], laidByText := true, laidKinds := [.data, .pinned], laidTests := true, laidLooks := .later }
def NodesOneCardSaid : Prop := Claim7.holds Tryd.pinned (.plain (OpenSpec.ofChange nodesOneSpec)) nodesOneCard

/-- THE TIED CARD OF 'dioramalaw13.RecordPuts'. -/
def recordPutsCard : Claim7 := { stood := { row := recordPutsRow, standIns := [], harness := (true, "8c8b54ddaf5e4baf7b993e033ab69a54370fe038a9027baf012a2c43a0175841"), looks := true }, kinds := [], alts := [], laidByText := true, laidKinds := [.data, .pinned], laidTests := true, laidLooks := .later }
def RecordPutsCardSaid : Prop := Claim7.holds Tryd.pinned (.plain (OpenSpec.ofChange recordPutsSpec)) recordPutsCard

/-- THE TIED CARD OF 'dioramalaw13.RecordMoved'. -/
def recordMovedCard : Claim7 := { stood := { row := recordMovedRow, standIns := [], harness := (true, "8c8b54ddaf5e4baf7b993e033ab69a54370fe038a9027baf012a2c43a0175841"), looks := true }, kinds := [], alts := [], laidByText := true, laidKinds := [.data, .pinned], laidTests := true, laidLooks := .later }
def RecordMovedCardSaid : Prop := Claim7.holds Tryd.pinned (.plain (OpenSpec.ofChange recordMovedSpec)) recordMovedCard

/-- THE TIED CARD OF 'dioramalaw13.RecordGets'. -/
def recordGetsCard : Claim7 := { stood := { row := recordGetsRow, standIns := [], harness := (true, "8c8b54ddaf5e4baf7b993e033ab69a54370fe038a9027baf012a2c43a0175841"), looks := true }, kinds := [], alts := [], laidByText := true, laidKinds := [.data, .pinned], laidTests := true, laidLooks := .later }
def RecordGetsCardSaid : Prop := Claim7.holds Tryd.pinned (.plain (OpenSpec.ofChange recordGetsSpec)) recordGetsCard

/-- THE TIED CARD OF 'dioramalaw13.RecordBack'. -/
def recordBackCard : Claim7 := { stood := { row := recordBackRow, standIns := [], harness := (true, "8c8b54ddaf5e4baf7b993e033ab69a54370fe038a9027baf012a2c43a0175841"), looks := true }, kinds := [], alts := [], laidByText := true, laidKinds := [.data, .pinned], laidTests := true, laidLooks := .later }
def RecordBackCardSaid : Prop := Claim7.holds Tryd.pinned (.plain (OpenSpec.ofChange recordBackSpec)) recordBackCard

/-- THE TIED CARD OF 'dioramalaw13.RecordOne'. -/
def recordOneCard : Claim7 := { stood := { row := recordOneRow, standIns := [], harness := (true, "8c8b54ddaf5e4baf7b993e033ab69a54370fe038a9027baf012a2c43a0175841"), looks := true }, kinds := [], alts := [], laidByText := true, laidKinds := [.data, .pinned], laidTests := true, laidLooks := .later }
def RecordOneCardSaid : Prop := Claim7.holds Tryd.pinned (.plain (OpenSpec.ofChange recordOneSpec)) recordOneCard

/-- THE TIED CARD OF 'dioramalaw13.RecordTable'. -/
def recordTableCard : Claim7 := { stood := { row := recordTableRow, standIns := [], harness := (true, "8c8b54ddaf5e4baf7b993e033ab69a54370fe038a9027baf012a2c43a0175841"), looks := true }, kinds := [], alts := [], laidByText := true, laidKinds := [.data, .pinned], laidTests := true, laidLooks := .later }
def RecordTableCardSaid : Prop := Claim7.holds Tryd.pinned (.plain (OpenSpec.ofChange recordTableSpec)) recordTableCard

/-- THE SECOND FORM's CARD OF 'dioramalaw14.NodesOne'. -/
def nodesOneUptoCard : Claim7 := { stood := { row := nodesOneUptoRow, standIns := [], harness := (true, "8c8b54ddaf5e4baf7b993e033ab69a54370fe038a9027baf012a2c43a0175841"), looks := true }, kinds := [], alts := [], laidByText := true, laidKinds := [.data, .pinned], laidTests := true, laidLooks := .later }
def NodesOneUptoCardSaid : Prop := Claim7.holds Tryd.pinned (.plain (OpenSpec.upto nodesOneSpec)) nodesOneUptoCard

/-- THE SECOND FORM's CARD OF 'dioramalaw13.RecordPuts'. -/
def recordPutsUptoCard : Claim7 := { stood := { row := recordPutsUptoRow, standIns := [], harness := (true, "8c8b54ddaf5e4baf7b993e033ab69a54370fe038a9027baf012a2c43a0175841"), looks := true }, kinds := [], alts := [], laidByText := true, laidKinds := [.data, .pinned], laidTests := true, laidLooks := .later }
def RecordPutsUptoCardSaid : Prop := Claim7.holds Tryd.pinned (.plain (OpenSpec.upto recordPutsSpec)) recordPutsUptoCard

/-- THE SECOND FORM's CARD OF 'dioramalaw13.RecordMoved'. -/
def recordMovedUptoCard : Claim7 := { stood := { row := recordMovedUptoRow, standIns := [], harness := (true, "8c8b54ddaf5e4baf7b993e033ab69a54370fe038a9027baf012a2c43a0175841"), looks := true }, kinds := [], alts := [], laidByText := true, laidKinds := [.data, .pinned], laidTests := true, laidLooks := .later }
def RecordMovedUptoCardSaid : Prop := Claim7.holds Tryd.pinned (.plain (OpenSpec.upto recordMovedSpec)) recordMovedUptoCard

/-- THE SECOND FORM's CARD OF 'dioramalaw13.RecordGets'. -/
def recordGetsUptoCard : Claim7 := { stood := { row := recordGetsUptoRow, standIns := [], harness := (true, "8c8b54ddaf5e4baf7b993e033ab69a54370fe038a9027baf012a2c43a0175841"), looks := true }, kinds := [], alts := [], laidByText := true, laidKinds := [.data, .pinned], laidTests := true, laidLooks := .later }
def RecordGetsUptoCardSaid : Prop := Claim7.holds Tryd.pinned (.plain (OpenSpec.upto recordGetsSpec)) recordGetsUptoCard

/-- THE SECOND FORM's CARD OF 'dioramalaw13.RecordBack'. -/
def recordBackUptoCard : Claim7 := { stood := { row := recordBackUptoRow, standIns := [], harness := (true, "8c8b54ddaf5e4baf7b993e033ab69a54370fe038a9027baf012a2c43a0175841"), looks := true }, kinds := [], alts := [], laidByText := true, laidKinds := [.data, .pinned], laidTests := true, laidLooks := .later }
def RecordBackUptoCardSaid : Prop := Claim7.holds Tryd.pinned (.plain (OpenSpec.upto recordBackSpec)) recordBackUptoCard

/-- THE SECOND FORM's CARD OF 'dioramalaw13.RecordOne'. -/
def recordOneUptoCard : Claim7 := { stood := { row := recordOneUptoRow, standIns := [], harness := (true, "8c8b54ddaf5e4baf7b993e033ab69a54370fe038a9027baf012a2c43a0175841"), looks := true }, kinds := [], alts := [], laidByText := true, laidKinds := [.data, .pinned], laidTests := true, laidLooks := .later }
def RecordOneUptoCardSaid : Prop := Claim7.holds Tryd.pinned (.plain (OpenSpec.upto recordOneSpec)) recordOneUptoCard

/-- THE SECOND FORM's CARD OF 'dioramalaw13.RecordTable'. -/
def recordTableUptoCard : Claim7 := { stood := { row := recordTableUptoRow, standIns := [], harness := (true, "8c8b54ddaf5e4baf7b993e033ab69a54370fe038a9027baf012a2c43a0175841"), looks := true }, kinds := [], alts := [], laidByText := true, laidKinds := [.data, .pinned], laidTests := true, laidLooks := .later }
def RecordTableUptoCardSaid : Prop := Claim7.holds Tryd.pinned (.plain (OpenSpec.upto recordTableSpec)) recordTableUptoCard
end Rows
end Go.Proofs.YtoigkneoaemcfaaDoor
