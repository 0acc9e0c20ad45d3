/-
  DERIVED. GIVEN WITH THE SEED: THE CARDS: each row of YtgnnbnbmjifgfaaDoorRows.lean that lists a variable, with what it lists TIED to the program's text (the seventh form; the later family's looks); each row that meets fmt, with fmt's text TOLD by the authors' own Lean function (tested against real Go, not proved from fmt's source: count such statements apart). THE CARD IS WHAT COUNTS. Prove the row's statement (the work); the ties are given (YtgnnbnbmjifgfaaDoorTie.lean); close each card by the builder's one call (the guide's Derived/Test/ToyasCard.lean, 'card_holds'). Laid BY PROGRAM, IN A SANDBOX (cutbox-door.mjs). By AI agents, Wed Nov 11 2026. No macro, syntax, notation, axiom, sorry.
-/
import Derived.Test.YtgnnbnbmjifgfaaDoorRows
import GoSem.ClaimSeven
namespace Go.Proofs.YtgnnbnbmjifgfaaDoor
namespace Rows

/-- THE TIED CARD OF 'damperlaw1.LabelNames'. -/
def labelNamesCard : Claim7 := { stood := { row := labelNamesRow, standIns := [], harness := (true, "f9bf0d640ac8dcc97a82fe04b0f42f97a24936a872141dafb1d52d2b0a0997a2"), looks := true }, kinds := [], alts := [], laidByText := true, laidKinds := [.data, .data, .data, .sentinel, .sentinel], laidTests := true, laidLooks := .later }
def LabelNamesCardSaid : Prop := Claim7.holds Tryd.pinned (.plain (OpenSpec.ofChange labelNamesSpec)) labelNamesCard

/-- THE TIED CARD OF 'damperlaw1.LabelRevs'. -/
def labelRevsCard : Claim7 := { stood := { row := labelRevsRow, standIns := [], harness := (true, "f9bf0d640ac8dcc97a82fe04b0f42f97a24936a872141dafb1d52d2b0a0997a2"), looks := true }, kinds := [], alts := [], laidByText := true, laidKinds := [.data, .data, .data, .sentinel, .sentinel], laidTests := true, laidLooks := .later }
def LabelRevsCardSaid : Prop := Claim7.holds Tryd.pinned (.plain (OpenSpec.ofChange labelRevsSpec)) labelRevsCard

/-- THE TIED CARD OF 'damperlaw1.LabelBack'. -/
def labelBackCard : Claim7 := { stood := { row := labelBackRow, standIns := [], harness := (true, "f9bf0d640ac8dcc97a82fe04b0f42f97a24936a872141dafb1d52d2b0a0997a2"), looks := true }, kinds := [], alts := [], laidByText := true, laidKinds := [.data, .data, .data, .sentinel, .sentinel], laidTests := true, laidLooks := .later }
def LabelBackCardSaid : Prop := Claim7.holds Tryd.pinned (.plain (OpenSpec.ofChange labelBackSpec)) labelBackCard

/-- THE TIED CARD OF 'damperlaw1.LabelApart'. -/
def labelApartCard : Claim7 := { stood := { row := labelApartRow, standIns := [], harness := (true, "f9bf0d640ac8dcc97a82fe04b0f42f97a24936a872141dafb1d52d2b0a0997a2"), looks := true }, kinds := [], alts := [], laidByText := true, laidKinds := [.data, .data, .data, .sentinel, .sentinel], laidTests := true, laidLooks := .later }
def LabelApartCardSaid : Prop := Claim7.holds Tryd.pinned (.plain (OpenSpec.ofChange labelApartSpec)) labelApartCard

/-- THE TIED CARD OF 'damperlaw1.LabelKnown'. -/
def labelKnownCard : Claim7 := { stood := { row := labelKnownRow, standIns := [], harness := (true, "f9bf0d640ac8dcc97a82fe04b0f42f97a24936a872141dafb1d52d2b0a0997a2"), looks := true }, kinds := [], alts := [], laidByText := true, laidKinds := [.data, .data, .data, .sentinel, .sentinel], laidTests := true, laidLooks := .later }
def LabelKnownCardSaid : Prop := Claim7.holds Tryd.pinned (.plain (OpenSpec.ofChange labelKnownSpec)) labelKnownCard

/-- THE TIED CARD OF 'damperlaw1.LabelLong'. -/
def labelLongCard : Claim7 := { stood := { row := labelLongRow, standIns := [], harness := (true, "f9bf0d640ac8dcc97a82fe04b0f42f97a24936a872141dafb1d52d2b0a0997a2"), looks := true }, kinds := [], alts := [], laidByText := true, laidKinds := [.data, .data, .data, .sentinel, .sentinel], laidTests := true, laidLooks := .later }
def LabelLongCardSaid : Prop := Claim7.holds Tryd.pinned (.plain (OpenSpec.ofChange labelLongSpec)) labelLongCard

/-- THE TIED CARD OF 'damperlaw1.LabelSigns'. -/
def labelSignsCard : Claim7 := { stood := { row := labelSignsRow, standIns := [], harness := (true, "f9bf0d640ac8dcc97a82fe04b0f42f97a24936a872141dafb1d52d2b0a0997a2"), looks := true }, kinds := [], alts := [], laidByText := true, laidKinds := [.data, .data, .data, .sentinel, .sentinel], laidTests := true, laidLooks := .later }
def LabelSignsCardSaid : Prop := Claim7.holds Tryd.pinned (.plain (OpenSpec.ofChange labelSignsSpec)) labelSignsCard

/-- THE SECOND FORM's CARD OF 'damperlaw1.LabelNames'. -/
def labelNamesUptoCard : Claim7 := { stood := { row := labelNamesUptoRow, standIns := [], harness := (true, "f9bf0d640ac8dcc97a82fe04b0f42f97a24936a872141dafb1d52d2b0a0997a2"), looks := true }, kinds := [], alts := [], laidByText := true, laidKinds := [.data, .data, .data, .sentinel, .sentinel], laidTests := true, laidLooks := .later }
def LabelNamesUptoCardSaid : Prop := Claim7.holds Tryd.pinned (.plain (OpenSpec.upto labelNamesSpec)) labelNamesUptoCard

/-- THE SECOND FORM's CARD OF 'damperlaw1.LabelRevs'. -/
def labelRevsUptoCard : Claim7 := { stood := { row := labelRevsUptoRow, standIns := [], harness := (true, "f9bf0d640ac8dcc97a82fe04b0f42f97a24936a872141dafb1d52d2b0a0997a2"), looks := true }, kinds := [], alts := [], laidByText := true, laidKinds := [.data, .data, .data, .sentinel, .sentinel], laidTests := true, laidLooks := .later }
def LabelRevsUptoCardSaid : Prop := Claim7.holds Tryd.pinned (.plain (OpenSpec.upto labelRevsSpec)) labelRevsUptoCard

/-- THE SECOND FORM's CARD OF 'damperlaw1.LabelBack'. -/
def labelBackUptoCard : Claim7 := { stood := { row := labelBackUptoRow, standIns := [], harness := (true, "f9bf0d640ac8dcc97a82fe04b0f42f97a24936a872141dafb1d52d2b0a0997a2"), looks := true }, kinds := [], alts := [], laidByText := true, laidKinds := [.data, .data, .data, .sentinel, .sentinel], laidTests := true, laidLooks := .later }
def LabelBackUptoCardSaid : Prop := Claim7.holds Tryd.pinned (.plain (OpenSpec.upto labelBackSpec)) labelBackUptoCard

/-- THE SECOND FORM's CARD OF 'damperlaw1.LabelApart'. -/
def labelApartUptoCard : Claim7 := { stood := { row := labelApartUptoRow, standIns := [], harness := (true, "f9bf0d640ac8dcc97a82fe04b0f42f97a24936a872141dafb1d52d2b0a0997a2"), looks := true }, kinds := [], alts := [], laidByText := true, laidKinds := [.data, .data, .data, .sentinel, .sentinel], laidTests := true, laidLooks := .later }
def LabelApartUptoCardSaid : Prop := Claim7.holds Tryd.pinned (.plain (OpenSpec.upto labelApartSpec)) labelApartUptoCard

/-- THE SECOND FORM's CARD OF 'damperlaw1.LabelKnown'. -/
def labelKnownUptoCard : Claim7 := { stood := { row := labelKnownUptoRow, standIns := [], harness := (true, "f9bf0d640ac8dcc97a82fe04b0f42f97a24936a872141dafb1d52d2b0a0997a2"), looks := true }, kinds := [], alts := [], laidByText := true, laidKinds := [.data, .data, .data, .sentinel, .sentinel], laidTests := true, laidLooks := .later }
def LabelKnownUptoCardSaid : Prop := Claim7.holds Tryd.pinned (.plain (OpenSpec.upto labelKnownSpec)) labelKnownUptoCard

/-- THE SECOND FORM's CARD OF 'damperlaw1.LabelLong'. -/
def labelLongUptoCard : Claim7 := { stood := { row := labelLongUptoRow, standIns := [], harness := (true, "f9bf0d640ac8dcc97a82fe04b0f42f97a24936a872141dafb1d52d2b0a0997a2"), looks := true }, kinds := [], alts := [], laidByText := true, laidKinds := [.data, .data, .data, .sentinel, .sentinel], laidTests := true, laidLooks := .later }
def LabelLongUptoCardSaid : Prop := Claim7.holds Tryd.pinned (.plain (OpenSpec.upto labelLongSpec)) labelLongUptoCard

/-- THE SECOND FORM's CARD OF 'damperlaw1.LabelSigns'. -/
def labelSignsUptoCard : Claim7 := { stood := { row := labelSignsUptoRow, standIns := [], harness := (true, "f9bf0d640ac8dcc97a82fe04b0f42f97a24936a872141dafb1d52d2b0a0997a2"), looks := true }, kinds := [], alts := [], laidByText := true, laidKinds := [.data, .data, .data, .sentinel, .sentinel], laidTests := true, laidLooks := .later }
def LabelSignsUptoCardSaid : Prop := Claim7.holds Tryd.pinned (.plain (OpenSpec.upto labelSignsSpec)) labelSignsUptoCard
end Rows
end Go.Proofs.YtgnnbnbmjifgfaaDoor
