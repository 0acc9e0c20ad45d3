/-
  DERIVED. GIVEN WITH THE SEED: THE CARDS: each row of YthdpnbfjpbiieaaDoorRows.lean that lists a variable, with what it lists TIED to the program's text (the seventh form; the later family's looks); each row that meets fmt, with fmt's text TOLD by the authors' own Lean function (tested against real Go, not proved from fmt's source: count such statements apart). THE CARD IS WHAT COUNTS. Prove the row's statement (the work); the ties are given (YthdpnbfjpbiieaaDoorTie.lean); close each card by the builder's one call (the guide's Derived/Test/ToyasCard.lean, 'card_holds'). Laid BY PROGRAM, IN A SANDBOX (cutbox-door.mjs). By AI agents, Wed Nov 11 2026. No macro, syntax, notation, axiom, sorry.
-/
import Derived.Test.YthdpnbfjpbiieaaDoorRows
import GoSem.ClaimSeven
namespace Go.Proofs.YthdpnbfjpbiieaaDoor
namespace Rows

/-- THE TIED CARD OF 'damperlaw2.SpecConfigs'. -/
def specConfigsCard : Claim7 := { stood := { row := specConfigsRow, standIns := [], harness := (true, "981b30c1ba82ec14508169ab38d2d4323dbbe1ad7cde2ac76f3304325687e511"), looks := true }, kinds := [], alts := [], laidByText := true, laidKinds := [.data, .data, .data, .sentinel, .sentinel], laidTests := true, laidLooks := .later }
def SpecConfigsCardSaid : Prop := Claim7.holds Tryd.pinned (.plain (OpenSpec.ofChange specConfigsSpec)) specConfigsCard

/-- THE TIED CARD OF 'damperlaw2.SpecRoutes'. -/
def specRoutesCard : Claim7 := { stood := { row := specRoutesRow, standIns := [], harness := (true, "981b30c1ba82ec14508169ab38d2d4323dbbe1ad7cde2ac76f3304325687e511"), looks := true }, kinds := [], alts := [], laidByText := true, laidKinds := [.data, .data, .data, .sentinel, .sentinel], laidTests := true, laidLooks := .later }
def SpecRoutesCardSaid : Prop := Claim7.holds Tryd.pinned (.plain (OpenSpec.ofChange specRoutesSpec)) specRoutesCard

/-- THE TIED CARD OF 'damperlaw2.SpecHundred'. -/
def specHundredCard : Claim7 := { stood := { row := specHundredRow, standIns := [], harness := (true, "981b30c1ba82ec14508169ab38d2d4323dbbe1ad7cde2ac76f3304325687e511"), looks := true }, kinds := [], alts := [], laidByText := true, laidKinds := [.data, .data, .data, .sentinel, .sentinel], laidTests := true, laidLooks := .later }
def SpecHundredCardSaid : Prop := Claim7.holds Tryd.pinned (.plain (OpenSpec.ofChange specHundredSpec)) specHundredCard

/-- THE TIED CARD OF 'damperlaw2.SpecKnown'. -/
def specKnownCard : Claim7 := { stood := { row := specKnownRow, standIns := [], harness := (true, "981b30c1ba82ec14508169ab38d2d4323dbbe1ad7cde2ac76f3304325687e511"), looks := true }, kinds := [], alts := [], laidByText := true, laidKinds := [.data, .data, .data, .sentinel, .sentinel], laidTests := true, laidLooks := .later }
def SpecKnownCardSaid : Prop := Claim7.holds Tryd.pinned (.plain (OpenSpec.ofChange specKnownSpec)) specKnownCard

/-- THE TIED CARD OF 'damperlaw2.SpecTargets'. -/
def specTargetsCard : Claim7 := { stood := { row := specTargetsRow, standIns := [], harness := (true, "981b30c1ba82ec14508169ab38d2d4323dbbe1ad7cde2ac76f3304325687e511"), looks := true }, kinds := [], alts := [], laidByText := true, laidKinds := [.data, .data, .data, .sentinel, .sentinel], laidTests := true, laidLooks := .later }
def SpecTargetsCardSaid : Prop := Claim7.holds Tryd.pinned (.plain (OpenSpec.ofChange specTargetsSpec)) specTargetsCard

/-- THE TIED CARD OF 'damperlaw2.SpecEdges'. -/
def specEdgesCard : Claim7 := { stood := { row := specEdgesRow, standIns := [], harness := (true, "981b30c1ba82ec14508169ab38d2d4323dbbe1ad7cde2ac76f3304325687e511"), looks := true }, kinds := [], alts := [], laidByText := true, laidKinds := [.data, .data, .data, .sentinel, .sentinel], laidTests := true, laidLooks := .later }
def SpecEdgesCardSaid : Prop := Claim7.holds Tryd.pinned (.plain (OpenSpec.ofChange specEdgesSpec)) specEdgesCard

/-- THE TIED CARD OF 'damperlaw2.SpecSame'. -/
def specSameCard : Claim7 := { stood := { row := specSameRow, standIns := [], harness := (true, "981b30c1ba82ec14508169ab38d2d4323dbbe1ad7cde2ac76f3304325687e511"), looks := true }, kinds := [], alts := [], laidByText := true, laidKinds := [.data, .data, .data, .sentinel, .sentinel], laidTests := true, laidLooks := .later }
def SpecSameCardSaid : Prop := Claim7.holds Tryd.pinned (.plain (OpenSpec.ofChange specSameSpec)) specSameCard

/-- THE TIED CARD OF 'damperlaw2.SpecEven'. -/
def specEvenCard : Claim7 := { stood := { row := specEvenRow, standIns := [], harness := (true, "981b30c1ba82ec14508169ab38d2d4323dbbe1ad7cde2ac76f3304325687e511"), looks := true }, kinds := [], alts := [], laidByText := true, laidKinds := [.data, .data, .data, .sentinel, .sentinel], laidTests := true, laidLooks := .later }
def SpecEvenCardSaid : Prop := Claim7.holds Tryd.pinned (.plain (OpenSpec.ofChange specEvenSpec)) specEvenCard

/-- THE SECOND FORM's CARD OF 'damperlaw2.SpecConfigs'. -/
def specConfigsUptoCard : Claim7 := { stood := { row := specConfigsUptoRow, standIns := [], harness := (true, "981b30c1ba82ec14508169ab38d2d4323dbbe1ad7cde2ac76f3304325687e511"), looks := true }, kinds := [], alts := [], laidByText := true, laidKinds := [.data, .data, .data, .sentinel, .sentinel], laidTests := true, laidLooks := .later }
def SpecConfigsUptoCardSaid : Prop := Claim7.holds Tryd.pinned (.plain (OpenSpec.upto specConfigsSpec)) specConfigsUptoCard

/-- THE SECOND FORM's CARD OF 'damperlaw2.SpecRoutes'. -/
def specRoutesUptoCard : Claim7 := { stood := { row := specRoutesUptoRow, standIns := [], harness := (true, "981b30c1ba82ec14508169ab38d2d4323dbbe1ad7cde2ac76f3304325687e511"), looks := true }, kinds := [], alts := [], laidByText := true, laidKinds := [.data, .data, .data, .sentinel, .sentinel], laidTests := true, laidLooks := .later }
def SpecRoutesUptoCardSaid : Prop := Claim7.holds Tryd.pinned (.plain (OpenSpec.upto specRoutesSpec)) specRoutesUptoCard

/-- THE SECOND FORM's CARD OF 'damperlaw2.SpecHundred'. -/
def specHundredUptoCard : Claim7 := { stood := { row := specHundredUptoRow, standIns := [], harness := (true, "981b30c1ba82ec14508169ab38d2d4323dbbe1ad7cde2ac76f3304325687e511"), looks := true }, kinds := [], alts := [], laidByText := true, laidKinds := [.data, .data, .data, .sentinel, .sentinel], laidTests := true, laidLooks := .later }
def SpecHundredUptoCardSaid : Prop := Claim7.holds Tryd.pinned (.plain (OpenSpec.upto specHundredSpec)) specHundredUptoCard

/-- THE SECOND FORM's CARD OF 'damperlaw2.SpecKnown'. -/
def specKnownUptoCard : Claim7 := { stood := { row := specKnownUptoRow, standIns := [], harness := (true, "981b30c1ba82ec14508169ab38d2d4323dbbe1ad7cde2ac76f3304325687e511"), looks := true }, kinds := [], alts := [], laidByText := true, laidKinds := [.data, .data, .data, .sentinel, .sentinel], laidTests := true, laidLooks := .later }
def SpecKnownUptoCardSaid : Prop := Claim7.holds Tryd.pinned (.plain (OpenSpec.upto specKnownSpec)) specKnownUptoCard

/-- THE SECOND FORM's CARD OF 'damperlaw2.SpecTargets'. -/
def specTargetsUptoCard : Claim7 := { stood := { row := specTargetsUptoRow, standIns := [], harness := (true, "981b30c1ba82ec14508169ab38d2d4323dbbe1ad7cde2ac76f3304325687e511"), looks := true }, kinds := [], alts := [], laidByText := true, laidKinds := [.data, .data, .data, .sentinel, .sentinel], laidTests := true, laidLooks := .later }
def SpecTargetsUptoCardSaid : Prop := Claim7.holds Tryd.pinned (.plain (OpenSpec.upto specTargetsSpec)) specTargetsUptoCard

/-- THE SECOND FORM's CARD OF 'damperlaw2.SpecEdges'. -/
def specEdgesUptoCard : Claim7 := { stood := { row := specEdgesUptoRow, standIns := [], harness := (true, "981b30c1ba82ec14508169ab38d2d4323dbbe1ad7cde2ac76f3304325687e511"), looks := true }, kinds := [], alts := [], laidByText := true, laidKinds := [.data, .data, .data, .sentinel, .sentinel], laidTests := true, laidLooks := .later }
def SpecEdgesUptoCardSaid : Prop := Claim7.holds Tryd.pinned (.plain (OpenSpec.upto specEdgesSpec)) specEdgesUptoCard

/-- THE SECOND FORM's CARD OF 'damperlaw2.SpecSame'. -/
def specSameUptoCard : Claim7 := { stood := { row := specSameUptoRow, standIns := [], harness := (true, "981b30c1ba82ec14508169ab38d2d4323dbbe1ad7cde2ac76f3304325687e511"), looks := true }, kinds := [], alts := [], laidByText := true, laidKinds := [.data, .data, .data, .sentinel, .sentinel], laidTests := true, laidLooks := .later }
def SpecSameUptoCardSaid : Prop := Claim7.holds Tryd.pinned (.plain (OpenSpec.upto specSameSpec)) specSameUptoCard

/-- THE SECOND FORM's CARD OF 'damperlaw2.SpecEven'. -/
def specEvenUptoCard : Claim7 := { stood := { row := specEvenUptoRow, standIns := [], harness := (true, "981b30c1ba82ec14508169ab38d2d4323dbbe1ad7cde2ac76f3304325687e511"), looks := true }, kinds := [], alts := [], laidByText := true, laidKinds := [.data, .data, .data, .sentinel, .sentinel], laidTests := true, laidLooks := .later }
def SpecEvenUptoCardSaid : Prop := Claim7.holds Tryd.pinned (.plain (OpenSpec.upto specEvenSpec)) specEvenUptoCard
end Rows
end Go.Proofs.YthdpnbfjpbiieaaDoor
