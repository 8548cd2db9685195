/-
  DERIVED. GIVEN WITH THE SEED: THE CARDS: each row of YtcphcaiiofeflaaDoorRows.lean that lists a variable, with what it lists TIED to the program's text (the seventh form; the later family's looks); each row that meets fmt, with fmt's text TOLD by the authors' own Lean function (tested against real Go, not proved from fmt's source: count such statements apart). THE CARD IS WHAT COUNTS. Prove the row's statement (the work); the ties are given (YtcphcaiiofeflaaDoorTie.lean); close each card by the builder's one call (the guide's Derived/Test/ToyasCard.lean, 'card_holds'). Laid BY PROGRAM, IN A SANDBOX (cutbox-door.mjs). By AI agents, Wed Nov 11 2026. No macro, syntax, notation, axiom, sorry.
-/
import Derived.Test.YtcphcaiiofeflaaDoorRows
import GoSem.ClaimSeven
namespace Go.Proofs.YtcphcaiiofeflaaDoor
namespace Rows

/-- THE TIED CARD OF 'dioramalaw12.LimitValid'. -/
def limitValidCard : Claim7 := { stood := { row := limitValidRow, standIns := [], harness := (true, "d11f2a72ce1c35b1b5ef2a568ccc43c59b244b9dc3aede7fb839d52fe2e24aa8"), looks := false }, kinds := [], alts := [], laidByText := true, laidKinds := [.data, .pinned], laidTests := true, laidLooks := .later }
def LimitValidCardSaid : Prop := Claim7.holds Tryd.pinned (.plain (OpenSpec.ofChange limitValidSpec)) limitValidCard

/-- THE TIED CARD OF 'dioramalaw12.LimitMeasures'. -/
def limitMeasuresCard : Claim7 := { stood := { row := limitMeasuresRow, standIns := [], harness := (true, "d11f2a72ce1c35b1b5ef2a568ccc43c59b244b9dc3aede7fb839d52fe2e24aa8"), looks := false }, kinds := [], alts := [], laidByText := true, laidKinds := [.data, .pinned], laidTests := true, laidLooks := .later }
def LimitMeasuresCardSaid : Prop := Claim7.holds Tryd.pinned (.plain (OpenSpec.ofChange limitMeasuresSpec)) limitMeasuresCard

/-- THE TIED CARD OF 'dioramalaw12.LimitGrows'. -/
def limitGrowsCard : Claim7 := { stood := { row := limitGrowsRow, standIns := [], harness := (true, "d11f2a72ce1c35b1b5ef2a568ccc43c59b244b9dc3aede7fb839d52fe2e24aa8"), looks := false }, kinds := [], alts := [], laidByText := true, laidKinds := [.data, .pinned], laidTests := true, laidLooks := .later }
def LimitGrowsCardSaid : Prop := Claim7.holds Tryd.pinned (.plain (OpenSpec.ofChange limitGrowsSpec)) limitGrowsCard

/-- THE TIED CARD OF 'dioramalaw12.LimitOrder'. -/
def limitOrderCard : Claim7 := { stood := { row := limitOrderRow, standIns := [], harness := (true, "d11f2a72ce1c35b1b5ef2a568ccc43c59b244b9dc3aede7fb839d52fe2e24aa8"), looks := false }, kinds := [], alts := [], laidByText := true, laidKinds := [.data, .pinned], laidTests := true, laidLooks := .later }
def LimitOrderCardSaid : Prop := Claim7.holds Tryd.pinned (.plain (OpenSpec.ofChange limitOrderSpec)) limitOrderCard

/-- THE TIED CARD OF 'dioramalaw12.LimitCanon'. -/
def limitCanonCard : Claim7 := { stood := { row := limitCanonRow, standIns := [], harness := (true, "d11f2a72ce1c35b1b5ef2a568ccc43c59b244b9dc3aede7fb839d52fe2e24aa8"), looks := false }, kinds := [], alts := [], laidByText := true, laidKinds := [.data, .pinned], laidTests := true, laidLooks := .later }
def LimitCanonCardSaid : Prop := Claim7.holds Tryd.pinned (.plain (OpenSpec.ofChange limitCanonSpec)) limitCanonCard

/-- THE TIED CARD OF 'dioramalaw16.OldValid'. -/
def oldValidCard : Claim7 := { stood := { row := oldValidRow, standIns := [], harness := (true, "d11f2a72ce1c35b1b5ef2a568ccc43c59b244b9dc3aede7fb839d52fe2e24aa8"), looks := false }, kinds := [], alts := [], laidByText := true, laidKinds := [.data, .pinned], laidTests := true, laidLooks := .later }
def OldValidCardSaid : Prop := Claim7.holds Tryd.pinned (.plain (OpenSpec.ofChange oldValidSpec)) oldValidCard

/-- THE TIED CARD OF 'dioramalaw16.OldFlat'. -/
def oldFlatCard : Claim7 := { stood := { row := oldFlatRow, standIns := [], harness := (true, "d11f2a72ce1c35b1b5ef2a568ccc43c59b244b9dc3aede7fb839d52fe2e24aa8"), looks := false }, kinds := [], alts := [], laidByText := true, laidKinds := [.data, .pinned], laidTests := true, laidLooks := .later }
def OldFlatCardSaid : Prop := Claim7.holds Tryd.pinned (.plain (OpenSpec.ofChange oldFlatSpec)) oldFlatCard

/-- THE TIED CARD OF 'dioramalaw16.OldCanon'. -/
def oldCanonCard : Claim7 := { stood := { row := oldCanonRow, standIns := [], harness := (true, "d11f2a72ce1c35b1b5ef2a568ccc43c59b244b9dc3aede7fb839d52fe2e24aa8"), looks := false }, kinds := [], alts := [], laidByText := true, laidKinds := [.data, .pinned], laidTests := true, laidLooks := .later }
def OldCanonCardSaid : Prop := Claim7.holds Tryd.pinned (.plain (OpenSpec.ofChange oldCanonSpec)) oldCanonCard

/-- THE TIED CARD OF 'dioramalaw16.OldMeasure'. -/
def oldMeasureCard : Claim7 := { stood := { row := oldMeasureRow, standIns := [], harness := (true, "d11f2a72ce1c35b1b5ef2a568ccc43c59b244b9dc3aede7fb839d52fe2e24aa8"), looks := false }, kinds := [], alts := [], laidByText := true, laidKinds := [.data, .pinned], laidTests := true, laidLooks := .later }
def OldMeasureCardSaid : Prop := Claim7.holds Tryd.pinned (.plain (OpenSpec.ofChange oldMeasureSpec)) oldMeasureCard

/-- THE TIED CARD OF 'dioramalaw16.OldForward'. -/
def oldForwardCard : Claim7 := { stood := { row := oldForwardRow, standIns := [], harness := (true, "d11f2a72ce1c35b1b5ef2a568ccc43c59b244b9dc3aede7fb839d52fe2e24aa8"), looks := false }, kinds := [], alts := [], laidByText := true, laidKinds := [.data, .pinned], laidTests := true, laidLooks := .later }
def OldForwardCardSaid : Prop := Claim7.holds Tryd.pinned (.plain (OpenSpec.ofChange oldForwardSpec)) oldForwardCard

/-- THE SECOND FORM's CARD OF 'dioramalaw12.LimitValid'. -/
def limitValidUptoCard : Claim7 := { stood := { row := limitValidUptoRow, standIns := [], harness := (true, "d11f2a72ce1c35b1b5ef2a568ccc43c59b244b9dc3aede7fb839d52fe2e24aa8"), looks := false }, kinds := [], alts := [], laidByText := true, laidKinds := [.data, .pinned], laidTests := true, laidLooks := .later }
def LimitValidUptoCardSaid : Prop := Claim7.holds Tryd.pinned (.plain (OpenSpec.upto limitValidSpec)) limitValidUptoCard

/-- THE SECOND FORM's CARD OF 'dioramalaw12.LimitMeasures'. -/
def limitMeasuresUptoCard : Claim7 := { stood := { row := limitMeasuresUptoRow, standIns := [], harness := (true, "d11f2a72ce1c35b1b5ef2a568ccc43c59b244b9dc3aede7fb839d52fe2e24aa8"), looks := false }, kinds := [], alts := [], laidByText := true, laidKinds := [.data, .pinned], laidTests := true, laidLooks := .later }
def LimitMeasuresUptoCardSaid : Prop := Claim7.holds Tryd.pinned (.plain (OpenSpec.upto limitMeasuresSpec)) limitMeasuresUptoCard

/-- THE SECOND FORM's CARD OF 'dioramalaw12.LimitGrows'. -/
def limitGrowsUptoCard : Claim7 := { stood := { row := limitGrowsUptoRow, standIns := [], harness := (true, "d11f2a72ce1c35b1b5ef2a568ccc43c59b244b9dc3aede7fb839d52fe2e24aa8"), looks := false }, kinds := [], alts := [], laidByText := true, laidKinds := [.data, .pinned], laidTests := true, laidLooks := .later }
def LimitGrowsUptoCardSaid : Prop := Claim7.holds Tryd.pinned (.plain (OpenSpec.upto limitGrowsSpec)) limitGrowsUptoCard

/-- THE SECOND FORM's CARD OF 'dioramalaw12.LimitOrder'. -/
def limitOrderUptoCard : Claim7 := { stood := { row := limitOrderUptoRow, standIns := [], harness := (true, "d11f2a72ce1c35b1b5ef2a568ccc43c59b244b9dc3aede7fb839d52fe2e24aa8"), looks := false }, kinds := [], alts := [], laidByText := true, laidKinds := [.data, .pinned], laidTests := true, laidLooks := .later }
def LimitOrderUptoCardSaid : Prop := Claim7.holds Tryd.pinned (.plain (OpenSpec.upto limitOrderSpec)) limitOrderUptoCard

/-- THE SECOND FORM's CARD OF 'dioramalaw12.LimitCanon'. -/
def limitCanonUptoCard : Claim7 := { stood := { row := limitCanonUptoRow, standIns := [], harness := (true, "d11f2a72ce1c35b1b5ef2a568ccc43c59b244b9dc3aede7fb839d52fe2e24aa8"), looks := false }, kinds := [], alts := [], laidByText := true, laidKinds := [.data, .pinned], laidTests := true, laidLooks := .later }
def LimitCanonUptoCardSaid : Prop := Claim7.holds Tryd.pinned (.plain (OpenSpec.upto limitCanonSpec)) limitCanonUptoCard

/-- THE SECOND FORM's CARD OF 'dioramalaw16.OldValid'. -/
def oldValidUptoCard : Claim7 := { stood := { row := oldValidUptoRow, standIns := [], harness := (true, "d11f2a72ce1c35b1b5ef2a568ccc43c59b244b9dc3aede7fb839d52fe2e24aa8"), looks := false }, kinds := [], alts := [], laidByText := true, laidKinds := [.data, .pinned], laidTests := true, laidLooks := .later }
def OldValidUptoCardSaid : Prop := Claim7.holds Tryd.pinned (.plain (OpenSpec.upto oldValidSpec)) oldValidUptoCard

/-- THE SECOND FORM's CARD OF 'dioramalaw16.OldFlat'. -/
def oldFlatUptoCard : Claim7 := { stood := { row := oldFlatUptoRow, standIns := [], harness := (true, "d11f2a72ce1c35b1b5ef2a568ccc43c59b244b9dc3aede7fb839d52fe2e24aa8"), looks := false }, kinds := [], alts := [], laidByText := true, laidKinds := [.data, .pinned], laidTests := true, laidLooks := .later }
def OldFlatUptoCardSaid : Prop := Claim7.holds Tryd.pinned (.plain (OpenSpec.upto oldFlatSpec)) oldFlatUptoCard

/-- THE SECOND FORM's CARD OF 'dioramalaw16.OldCanon'. -/
def oldCanonUptoCard : Claim7 := { stood := { row := oldCanonUptoRow, standIns := [], harness := (true, "d11f2a72ce1c35b1b5ef2a568ccc43c59b244b9dc3aede7fb839d52fe2e24aa8"), looks := false }, kinds := [], alts := [], laidByText := true, laidKinds := [.data, .pinned], laidTests := true, laidLooks := .later }
def OldCanonUptoCardSaid : Prop := Claim7.holds Tryd.pinned (.plain (OpenSpec.upto oldCanonSpec)) oldCanonUptoCard

/-- THE SECOND FORM's CARD OF 'dioramalaw16.OldMeasure'. -/
def oldMeasureUptoCard : Claim7 := { stood := { row := oldMeasureUptoRow, standIns := [], harness := (true, "d11f2a72ce1c35b1b5ef2a568ccc43c59b244b9dc3aede7fb839d52fe2e24aa8"), looks := false }, kinds := [], alts := [], laidByText := true, laidKinds := [.data, .pinned], laidTests := true, laidLooks := .later }
def OldMeasureUptoCardSaid : Prop := Claim7.holds Tryd.pinned (.plain (OpenSpec.upto oldMeasureSpec)) oldMeasureUptoCard

/-- THE SECOND FORM's CARD OF 'dioramalaw16.OldForward'. -/
def oldForwardUptoCard : Claim7 := { stood := { row := oldForwardUptoRow, standIns := [], harness := (true, "d11f2a72ce1c35b1b5ef2a568ccc43c59b244b9dc3aede7fb839d52fe2e24aa8"), looks := false }, kinds := [], alts := [], laidByText := true, laidKinds := [.data, .pinned], laidTests := true, laidLooks := .later }
def OldForwardUptoCardSaid : Prop := Claim7.holds Tryd.pinned (.plain (OpenSpec.upto oldForwardSpec)) oldForwardUptoCard
end Rows
end Go.Proofs.YtcphcaiiofeflaaDoor
