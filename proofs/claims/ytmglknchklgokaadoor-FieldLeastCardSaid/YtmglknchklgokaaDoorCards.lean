/-
  DERIVED. GIVEN WITH THE SEED: THE CARDS: each row of YtmglknchklgokaaDoorRows.lean that lists a variable, with what it lists TIED to the program's text (the seventh form; the later family's looks); each row that meets fmt, with fmt's text TOLD by the authors' own Lean function (tested against real Go, not proved from fmt's source: count such statements apart). THE CARD IS WHAT COUNTS. Prove the row's statement (the work); the ties are given (YtmglknchklgokaaDoorTie.lean); close each card by the builder's one call (the guide's Derived/Test/ToyasCard.lean, 'card_holds'). Laid BY PROGRAM, IN A SANDBOX (cutbox-door.mjs). By AI agents, Wed Nov 11 2026. No macro, syntax, notation, axiom, sorry.
-/
import Derived.Test.YtmglknchklgokaaDoorRows
import GoSem.ClaimSeven
namespace Go.Proofs.YtmglknchklgokaaDoor
namespace Rows

/-- THE TIED CARD OF 'dioramalaw08.FieldChecks'. -/
def fieldChecksCard : Claim7 := { stood := { row := fieldChecksRow, standIns := [], harness := (true, "1bac9c29e41689a4443b0b84b180302e1d8de43e300176281c924627bff0f80e"), looks := true }, kinds := [], alts := [], laidByText := true, laidKinds := [.data, .pinned], laidTests := true, laidLooks := .later }
def FieldChecksCardSaid : Prop := Claim7.holds Tryd.pinned (.plain (OpenSpec.ofChange fieldChecksSpec)) fieldChecksCard

/-- THE TIED CARD OF 'dioramalaw08.FieldSets'. -/
def fieldSetsCard : Claim7 := { stood := { row := fieldSetsRow, standIns := [], harness := (true, "1bac9c29e41689a4443b0b84b180302e1d8de43e300176281c924627bff0f80e"), looks := true }, kinds := [], alts := [], laidByText := true, laidKinds := [.data, .pinned], laidTests := true, laidLooks := .later }
def FieldSetsCardSaid : Prop := Claim7.holds Tryd.pinned (.plain (OpenSpec.ofChange fieldSetsSpec)) fieldSetsCard

/-- THE TIED CARD OF 'dioramalaw08.FieldDiffs'. -/
def fieldDiffsCard : Claim7 := { stood := { row := fieldDiffsRow, standIns := [], harness := (true, "1bac9c29e41689a4443b0b84b180302e1d8de43e300176281c924627bff0f80e"), looks := true }, kinds := [], alts := [], laidByText := true, laidKinds := [.data, .pinned], laidTests := true, laidLooks := .later }
def FieldDiffsCardSaid : Prop := Claim7.holds Tryd.pinned (.plain (OpenSpec.ofChange fieldDiffsSpec)) fieldDiffsCard

/-- THE TIED CARD OF 'dioramalaw08.FieldLeast'. -/
def fieldLeastCard : Claim7 := { stood := { row := fieldLeastRow, standIns := [], harness := (true, "1bac9c29e41689a4443b0b84b180302e1d8de43e300176281c924627bff0f80e"), looks := true }, kinds := [], alts := [], laidByText := true, laidKinds := [.data, .pinned], laidTests := true, laidLooks := .later }
def FieldLeastCardSaid : Prop := Claim7.holds Tryd.pinned (.plain (OpenSpec.ofChange fieldLeastSpec)) fieldLeastCard

/-- THE TIED CARD OF 'dioramalaw08.FieldOld'. -/
def fieldOldCard : Claim7 := { stood := { row := fieldOldRow, standIns := [], harness := (true, "1bac9c29e41689a4443b0b84b180302e1d8de43e300176281c924627bff0f80e"), looks := true }, kinds := [], alts := [], laidByText := true, laidKinds := [.data, .pinned], laidTests := true, laidLooks := .later }
def FieldOldCardSaid : Prop := Claim7.holds Tryd.pinned (.plain (OpenSpec.ofChange fieldOldSpec)) fieldOldCard

/-- THE TIED CARD OF 'dioramalaw06.StrtabPuts'. -/
def strtabPutsCard : Claim7 := { stood := { row := strtabPutsRow, standIns := [], harness := (true, "1bac9c29e41689a4443b0b84b180302e1d8de43e300176281c924627bff0f80e"), looks := true }, kinds := [], alts := [], laidByText := true, laidKinds := [.data, .pinned], laidTests := true, laidLooks := .later }
def StrtabPutsCardSaid : Prop := Claim7.holds Tryd.pinned (.plain (OpenSpec.ofChange strtabPutsSpec)) strtabPutsCard

/-- THE TIED CARD OF 'dioramalaw06.StrtabGets'. -/
def strtabGetsCard : Claim7 := { stood := { row := strtabGetsRow, standIns := [], harness := (true, "1bac9c29e41689a4443b0b84b180302e1d8de43e300176281c924627bff0f80e"), looks := true }, kinds := [], alts := [], laidByText := true, laidKinds := [.data, .pinned], laidTests := true, laidLooks := .later }
def StrtabGetsCardSaid : Prop := Claim7.holds Tryd.pinned (.plain (OpenSpec.ofChange strtabGetsSpec)) strtabGetsCard

/-- THE TIED CARD OF 'dioramalaw06.StrtabBack'. -/
def strtabBackCard : Claim7 := { stood := { row := strtabBackRow, standIns := [], harness := (true, "1bac9c29e41689a4443b0b84b180302e1d8de43e300176281c924627bff0f80e"), looks := true }, kinds := [], alts := [], laidByText := true, laidKinds := [.data, .pinned], laidTests := true, laidLooks := .later }
def StrtabBackCardSaid : Prop := Claim7.holds Tryd.pinned (.plain (OpenSpec.ofChange strtabBackSpec)) strtabBackCard

/-- THE TIED CARD OF 'dioramalaw06.StrtabOne'. -/
def strtabOneCard : Claim7 := { stood := { row := strtabOneRow, standIns := [], harness := (true, "1bac9c29e41689a4443b0b84b180302e1d8de43e300176281c924627bff0f80e"), looks := true }, kinds := [], alts := [], laidByText := true, laidKinds := [.data, .pinned], laidTests := true, laidLooks := .later }
def StrtabOneCardSaid : Prop := Claim7.holds Tryd.pinned (.plain (OpenSpec.ofChange strtabOneSpec)) strtabOneCard

/-- THE TIED CARD OF 'dioramalaw06.StrtabAgain'. -/
def strtabAgainCard : Claim7 := { stood := { row := strtabAgainRow, standIns := [], harness := (true, "1bac9c29e41689a4443b0b84b180302e1d8de43e300176281c924627bff0f80e"), looks := true }, kinds := [], alts := [], laidByText := true, laidKinds := [.data, .pinned], laidTests := true, laidLooks := .later }
def StrtabAgainCardSaid : Prop := Claim7.holds Tryd.pinned (.plain (OpenSpec.ofChange strtabAgainSpec)) strtabAgainCard

/-- THE SECOND FORM's CARD OF 'dioramalaw08.FieldChecks'. -/
def fieldChecksUptoCard : Claim7 := { stood := { row := fieldChecksUptoRow, standIns := [], harness := (true, "1bac9c29e41689a4443b0b84b180302e1d8de43e300176281c924627bff0f80e"), looks := true }, kinds := [], alts := [], laidByText := true, laidKinds := [.data, .pinned], laidTests := true, laidLooks := .later }
def FieldChecksUptoCardSaid : Prop := Claim7.holds Tryd.pinned (.plain (OpenSpec.upto fieldChecksSpec)) fieldChecksUptoCard

/-- THE SECOND FORM's CARD OF 'dioramalaw08.FieldSets'. -/
def fieldSetsUptoCard : Claim7 := { stood := { row := fieldSetsUptoRow, standIns := [], harness := (true, "1bac9c29e41689a4443b0b84b180302e1d8de43e300176281c924627bff0f80e"), looks := true }, kinds := [], alts := [], laidByText := true, laidKinds := [.data, .pinned], laidTests := true, laidLooks := .later }
def FieldSetsUptoCardSaid : Prop := Claim7.holds Tryd.pinned (.plain (OpenSpec.upto fieldSetsSpec)) fieldSetsUptoCard

/-- THE SECOND FORM's CARD OF 'dioramalaw08.FieldDiffs'. -/
def fieldDiffsUptoCard : Claim7 := { stood := { row := fieldDiffsUptoRow, standIns := [], harness := (true, "1bac9c29e41689a4443b0b84b180302e1d8de43e300176281c924627bff0f80e"), looks := true }, kinds := [], alts := [], laidByText := true, laidKinds := [.data, .pinned], laidTests := true, laidLooks := .later }
def FieldDiffsUptoCardSaid : Prop := Claim7.holds Tryd.pinned (.plain (OpenSpec.upto fieldDiffsSpec)) fieldDiffsUptoCard

/-- THE SECOND FORM's CARD OF 'dioramalaw08.FieldLeast'. -/
def fieldLeastUptoCard : Claim7 := { stood := { row := fieldLeastUptoRow, standIns := [], harness := (true, "1bac9c29e41689a4443b0b84b180302e1d8de43e300176281c924627bff0f80e"), looks := true }, kinds := [], alts := [], laidByText := true, laidKinds := [.data, .pinned], laidTests := true, laidLooks := .later }
def FieldLeastUptoCardSaid : Prop := Claim7.holds Tryd.pinned (.plain (OpenSpec.upto fieldLeastSpec)) fieldLeastUptoCard

/-- THE SECOND FORM's CARD OF 'dioramalaw08.FieldOld'. -/
def fieldOldUptoCard : Claim7 := { stood := { row := fieldOldUptoRow, standIns := [], harness := (true, "1bac9c29e41689a4443b0b84b180302e1d8de43e300176281c924627bff0f80e"), looks := true }, kinds := [], alts := [], laidByText := true, laidKinds := [.data, .pinned], laidTests := true, laidLooks := .later }
def FieldOldUptoCardSaid : Prop := Claim7.holds Tryd.pinned (.plain (OpenSpec.upto fieldOldSpec)) fieldOldUptoCard

/-- THE SECOND FORM's CARD OF 'dioramalaw06.StrtabPuts'. -/
def strtabPutsUptoCard : Claim7 := { stood := { row := strtabPutsUptoRow, standIns := [], harness := (true, "1bac9c29e41689a4443b0b84b180302e1d8de43e300176281c924627bff0f80e"), looks := true }, kinds := [], alts := [], laidByText := true, laidKinds := [.data, .pinned], laidTests := true, laidLooks := .later }
def StrtabPutsUptoCardSaid : Prop := Claim7.holds Tryd.pinned (.plain (OpenSpec.upto strtabPutsSpec)) strtabPutsUptoCard

/-- THE SECOND FORM's CARD OF 'dioramalaw06.StrtabGets'. -/
def strtabGetsUptoCard : Claim7 := { stood := { row := strtabGetsUptoRow, standIns := [], harness := (true, "1bac9c29e41689a4443b0b84b180302e1d8de43e300176281c924627bff0f80e"), looks := true }, kinds := [], alts := [], laidByText := true, laidKinds := [.data, .pinned], laidTests := true, laidLooks := .later }
def StrtabGetsUptoCardSaid : Prop := Claim7.holds Tryd.pinned (.plain (OpenSpec.upto strtabGetsSpec)) strtabGetsUptoCard

/-- THE SECOND FORM's CARD OF 'dioramalaw06.StrtabBack'. -/
def strtabBackUptoCard : Claim7 := { stood := { row := strtabBackUptoRow, standIns := [], harness := (true, "1bac9c29e41689a4443b0b84b180302e1d8de43e300176281c924627bff0f80e"), looks := true }, kinds := [], alts := [], laidByText := true, laidKinds := [.data, .pinned], laidTests := true, laidLooks := .later }
def StrtabBackUptoCardSaid : Prop := Claim7.holds Tryd.pinned (.plain (OpenSpec.upto strtabBackSpec)) strtabBackUptoCard

/-- THE SECOND FORM's CARD OF 'dioramalaw06.StrtabOne'. -/
def strtabOneUptoCard : Claim7 := { stood := { row := strtabOneUptoRow, standIns := [], harness := (true, "1bac9c29e41689a4443b0b84b180302e1d8de43e300176281c924627bff0f80e"), looks := true }, kinds := [], alts := [], laidByText := true, laidKinds := [.data, .pinned], laidTests := true, laidLooks := .later }
def StrtabOneUptoCardSaid : Prop := Claim7.holds Tryd.pinned (.plain (OpenSpec.upto strtabOneSpec)) strtabOneUptoCard

/-- THE SECOND FORM's CARD OF 'dioramalaw06.StrtabAgain'. -/
def strtabAgainUptoCard : Claim7 := { stood := { row := strtabAgainUptoRow, standIns := [], harness := (true, "1bac9c29e41689a4443b0b84b180302e1d8de43e300176281c924627bff0f80e"), looks := true }, kinds := [], alts := [], laidByText := true, laidKinds := [.data, .pinned], laidTests := true, laidLooks := .later }
def StrtabAgainUptoCardSaid : Prop := Claim7.holds Tryd.pinned (.plain (OpenSpec.upto strtabAgainSpec)) strtabAgainUptoCard
end Rows
end Go.Proofs.YtmglknchklgokaaDoor
