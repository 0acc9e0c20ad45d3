/-
  DERIVED. GIVEN WITH THE SEED: THE CARDS: each row of YtalpoojepffldaaDoorRows.lean that lists a variable, with what it lists TIED to the program's text (the seventh form; the later family's looks); each row that meets fmt, with fmt's text TOLD by the authors' own Lean function (tested against real Go, not proved from fmt's source: count such statements apart). THE CARD IS WHAT COUNTS. Prove the row's statement (the work); the ties are given (YtalpoojepffldaaDoorTie.lean); close each card by the builder's one call (the guide's Derived/Test/ToyasCard.lean, 'card_holds'). Laid BY PROGRAM, IN A SANDBOX (cutbox-door.mjs). By AI agents, Wed Nov 11 2026. No macro, syntax, notation, axiom, sorry.
-/
import Derived.Test.YtalpoojepffldaaDoorRows
import GoSem.ClaimSeven
namespace Go.Proofs.YtalpoojepffldaaDoor
namespace Rows

/-- THE TIED CARD OF 'damperlaw3.EventChecks'. -/
def eventChecksCard : Claim7 := { stood := { row := eventChecksRow, standIns := [], harness := (true, "ad6bda8a5e6ac1e1ffc50379902d39b8662b8d0ef678365552cb5fe46887ea1e"), looks := true }, kinds := [], alts := [], laidByText := true, laidKinds := [.data, .data, .data, .sentinel, .sentinel], laidTests := true, laidLooks := .later }
def EventChecksCardSaid : Prop := Claim7.holds Tryd.pinned (.plain (OpenSpec.ofChange eventChecksSpec)) eventChecksCard

/-- THE TIED CARD OF 'damperlaw3.EventReads'. -/
def eventReadsCard : Claim7 := { stood := { row := eventReadsRow, standIns := [], harness := (true, "ad6bda8a5e6ac1e1ffc50379902d39b8662b8d0ef678365552cb5fe46887ea1e"), looks := true }, kinds := [], alts := [], laidByText := true, laidKinds := [.data, .data, .data, .sentinel, .sentinel], laidTests := true, laidLooks := .later }
def EventReadsCardSaid : Prop := Claim7.holds Tryd.pinned (.plain (OpenSpec.ofChange eventReadsSpec)) eventReadsCard

/-- THE TIED CARD OF 'damperlaw3.EventCuts'. -/
def eventCutsCard : Claim7 := { stood := { row := eventCutsRow, standIns := [], harness := (true, "ad6bda8a5e6ac1e1ffc50379902d39b8662b8d0ef678365552cb5fe46887ea1e"), looks := true }, kinds := [], alts := [], laidByText := true, laidKinds := [.data, .data, .data, .sentinel, .sentinel], laidTests := true, laidLooks := .later }
def EventCutsCardSaid : Prop := Claim7.holds Tryd.pinned (.plain (OpenSpec.ofChange eventCutsSpec)) eventCutsCard

/-- THE TIED CARD OF 'damperlaw3.EventFronts'. -/
def eventFrontsCard : Claim7 := { stood := { row := eventFrontsRow, standIns := [], harness := (true, "ad6bda8a5e6ac1e1ffc50379902d39b8662b8d0ef678365552cb5fe46887ea1e"), looks := true }, kinds := [], alts := [], laidByText := true, laidKinds := [.data, .data, .data, .sentinel, .sentinel], laidTests := true, laidLooks := .later }
def EventFrontsCardSaid : Prop := Claim7.holds Tryd.pinned (.plain (OpenSpec.ofChange eventFrontsSpec)) eventFrontsCard

/-- THE TIED CARD OF 'damperlaw3.EventPieces'. -/
def eventPiecesCard : Claim7 := { stood := { row := eventPiecesRow, standIns := [], harness := (true, "ad6bda8a5e6ac1e1ffc50379902d39b8662b8d0ef678365552cb5fe46887ea1e"), looks := true }, kinds := [], alts := [], laidByText := true, laidKinds := [.data, .data, .data, .sentinel, .sentinel], laidTests := true, laidLooks := .later }
def EventPiecesCardSaid : Prop := Claim7.holds Tryd.pinned (.plain (OpenSpec.ofChange eventPiecesSpec)) eventPiecesCard

/-- THE TIED CARD OF 'damperlaw3.EventZeros'. -/
def eventZerosCard : Claim7 := { stood := { row := eventZerosRow, standIns := [], harness := (true, "ad6bda8a5e6ac1e1ffc50379902d39b8662b8d0ef678365552cb5fe46887ea1e"), looks := true }, kinds := [], alts := [], laidByText := true, laidKinds := [.data, .data, .data, .sentinel, .sentinel], laidTests := true, laidLooks := .later }
def EventZerosCardSaid : Prop := Claim7.holds Tryd.pinned (.plain (OpenSpec.ofChange eventZerosSpec)) eventZerosCard

/-- THE TIED CARD OF 'damperlaw3.EventBack'. -/
def eventBackCard : Claim7 := { stood := { row := eventBackRow, standIns := [], harness := (true, "ad6bda8a5e6ac1e1ffc50379902d39b8662b8d0ef678365552cb5fe46887ea1e"), looks := true }, kinds := [], alts := [], laidByText := true, laidKinds := [.data, .data, .data, .sentinel, .sentinel], laidTests := true, laidLooks := .later }
def EventBackCardSaid : Prop := Claim7.holds Tryd.pinned (.plain (OpenSpec.ofChange eventBackSpec)) eventBackCard

/-- THE TIED CARD OF 'damperlaw3.EventOnly'. -/
def eventOnlyCard : Claim7 := { stood := { row := eventOnlyRow, standIns := [], harness := (true, "ad6bda8a5e6ac1e1ffc50379902d39b8662b8d0ef678365552cb5fe46887ea1e"), looks := true }, kinds := [], alts := [], laidByText := true, laidKinds := [.data, .data, .data, .sentinel, .sentinel], laidTests := true, laidLooks := .later }
def EventOnlyCardSaid : Prop := Claim7.holds Tryd.pinned (.plain (OpenSpec.ofChange eventOnlySpec)) eventOnlyCard

/-- THE TIED CARD OF 'damperlaw3.EventKnown'. -/
def eventKnownCard : Claim7 := { stood := { row := eventKnownRow, standIns := [], harness := (true, "ad6bda8a5e6ac1e1ffc50379902d39b8662b8d0ef678365552cb5fe46887ea1e"), looks := true }, kinds := [], alts := [], laidByText := true, laidKinds := [.data, .data, .data, .sentinel, .sentinel], laidTests := true, laidLooks := .later }
def EventKnownCardSaid : Prop := Claim7.holds Tryd.pinned (.plain (OpenSpec.ofChange eventKnownSpec)) eventKnownCard

/-- THE SECOND FORM's CARD OF 'damperlaw3.EventChecks'. -/
def eventChecksUptoCard : Claim7 := { stood := { row := eventChecksUptoRow, standIns := [], harness := (true, "ad6bda8a5e6ac1e1ffc50379902d39b8662b8d0ef678365552cb5fe46887ea1e"), looks := true }, kinds := [], alts := [], laidByText := true, laidKinds := [.data, .data, .data, .sentinel, .sentinel], laidTests := true, laidLooks := .later }
def EventChecksUptoCardSaid : Prop := Claim7.holds Tryd.pinned (.plain (OpenSpec.upto eventChecksSpec)) eventChecksUptoCard

/-- THE SECOND FORM's CARD OF 'damperlaw3.EventReads'. -/
def eventReadsUptoCard : Claim7 := { stood := { row := eventReadsUptoRow, standIns := [], harness := (true, "ad6bda8a5e6ac1e1ffc50379902d39b8662b8d0ef678365552cb5fe46887ea1e"), looks := true }, kinds := [], alts := [], laidByText := true, laidKinds := [.data, .data, .data, .sentinel, .sentinel], laidTests := true, laidLooks := .later }
def EventReadsUptoCardSaid : Prop := Claim7.holds Tryd.pinned (.plain (OpenSpec.upto eventReadsSpec)) eventReadsUptoCard

/-- THE SECOND FORM's CARD OF 'damperlaw3.EventCuts'. -/
def eventCutsUptoCard : Claim7 := { stood := { row := eventCutsUptoRow, standIns := [], harness := (true, "ad6bda8a5e6ac1e1ffc50379902d39b8662b8d0ef678365552cb5fe46887ea1e"), looks := true }, kinds := [], alts := [], laidByText := true, laidKinds := [.data, .data, .data, .sentinel, .sentinel], laidTests := true, laidLooks := .later }
def EventCutsUptoCardSaid : Prop := Claim7.holds Tryd.pinned (.plain (OpenSpec.upto eventCutsSpec)) eventCutsUptoCard

/-- THE SECOND FORM's CARD OF 'damperlaw3.EventFronts'. -/
def eventFrontsUptoCard : Claim7 := { stood := { row := eventFrontsUptoRow, standIns := [], harness := (true, "ad6bda8a5e6ac1e1ffc50379902d39b8662b8d0ef678365552cb5fe46887ea1e"), looks := true }, kinds := [], alts := [], laidByText := true, laidKinds := [.data, .data, .data, .sentinel, .sentinel], laidTests := true, laidLooks := .later }
def EventFrontsUptoCardSaid : Prop := Claim7.holds Tryd.pinned (.plain (OpenSpec.upto eventFrontsSpec)) eventFrontsUptoCard

/-- THE SECOND FORM's CARD OF 'damperlaw3.EventPieces'. -/
def eventPiecesUptoCard : Claim7 := { stood := { row := eventPiecesUptoRow, standIns := [], harness := (true, "ad6bda8a5e6ac1e1ffc50379902d39b8662b8d0ef678365552cb5fe46887ea1e"), looks := true }, kinds := [], alts := [], laidByText := true, laidKinds := [.data, .data, .data, .sentinel, .sentinel], laidTests := true, laidLooks := .later }
def EventPiecesUptoCardSaid : Prop := Claim7.holds Tryd.pinned (.plain (OpenSpec.upto eventPiecesSpec)) eventPiecesUptoCard

/-- THE SECOND FORM's CARD OF 'damperlaw3.EventZeros'. -/
def eventZerosUptoCard : Claim7 := { stood := { row := eventZerosUptoRow, standIns := [], harness := (true, "ad6bda8a5e6ac1e1ffc50379902d39b8662b8d0ef678365552cb5fe46887ea1e"), looks := true }, kinds := [], alts := [], laidByText := true, laidKinds := [.data, .data, .data, .sentinel, .sentinel], laidTests := true, laidLooks := .later }
def EventZerosUptoCardSaid : Prop := Claim7.holds Tryd.pinned (.plain (OpenSpec.upto eventZerosSpec)) eventZerosUptoCard

/-- THE SECOND FORM's CARD OF 'damperlaw3.EventBack'. -/
def eventBackUptoCard : Claim7 := { stood := { row := eventBackUptoRow, standIns := [], harness := (true, "ad6bda8a5e6ac1e1ffc50379902d39b8662b8d0ef678365552cb5fe46887ea1e"), looks := true }, kinds := [], alts := [], laidByText := true, laidKinds := [.data, .data, .data, .sentinel, .sentinel], laidTests := true, laidLooks := .later }
def EventBackUptoCardSaid : Prop := Claim7.holds Tryd.pinned (.plain (OpenSpec.upto eventBackSpec)) eventBackUptoCard

/-- THE SECOND FORM's CARD OF 'damperlaw3.EventOnly'. -/
def eventOnlyUptoCard : Claim7 := { stood := { row := eventOnlyUptoRow, standIns := [], harness := (true, "ad6bda8a5e6ac1e1ffc50379902d39b8662b8d0ef678365552cb5fe46887ea1e"), looks := true }, kinds := [], alts := [], laidByText := true, laidKinds := [.data, .data, .data, .sentinel, .sentinel], laidTests := true, laidLooks := .later }
def EventOnlyUptoCardSaid : Prop := Claim7.holds Tryd.pinned (.plain (OpenSpec.upto eventOnlySpec)) eventOnlyUptoCard

/-- THE SECOND FORM's CARD OF 'damperlaw3.EventKnown'. -/
def eventKnownUptoCard : Claim7 := { stood := { row := eventKnownUptoRow, standIns := [], harness := (true, "ad6bda8a5e6ac1e1ffc50379902d39b8662b8d0ef678365552cb5fe46887ea1e"), looks := true }, kinds := [], alts := [], laidByText := true, laidKinds := [.data, .data, .data, .sentinel, .sentinel], laidTests := true, laidLooks := .later }
def EventKnownUptoCardSaid : Prop := Claim7.holds Tryd.pinned (.plain (OpenSpec.upto eventKnownSpec)) eventKnownUptoCard
end Rows
end Go.Proofs.YtalpoojepffldaaDoor
