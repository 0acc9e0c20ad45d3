/-
  DERIVED. GIVEN WITH THE SEED: THE CARDS: each row of YtckcimahclpdfaaDoorRows.lean that lists a variable, with what it lists TIED to the program's text (the seventh form; the later family's looks); each row that meets fmt, with fmt's text TOLD by the authors' own Lean function (tested against real Go, not proved from fmt's source: count such statements apart). THE CARD IS WHAT COUNTS. Prove the row's statement (the work); the ties are given (YtckcimahclpdfaaDoorTie.lean); close each card by the builder's one call (the guide's Derived/Test/ToyasCard.lean, 'card_holds'). Laid BY PROGRAM, IN A SANDBOX (cutbox-door.mjs). By AI agents, Wed Nov 11 2026. No macro, syntax, notation, axiom, sorry.
-/
import Derived.Test.YtckcimahclpdfaaDoorRows
import GoSem.ClaimSeven
namespace Go.Proofs.YtckcimahclpdfaaDoor
namespace Rows

/-- THE TIED CARD OF 'damperlaw5.TableRight'. -/
def tableRightCard : Claim7 := { stood := { row := tableRightRow, standIns := [], harness := (true, "cb408da6ffb16e183c7038948102e2d59847bd09e2cd08093de875bec7eb966d"), looks := true }, kinds := [], alts := [], laidByText := true, laidKinds := [.data, .data, .data, .sentinel, .sentinel], laidTests := true, laidLooks := .later }
def TableRightCardSaid : Prop := Claim7.holds Tryd.pinned (.plain (OpenSpec.ofChange tableRightSpec)) tableRightCard

/-- THE TIED CARD OF 'damperlaw5.TableHundred'. -/
def tableHundredCard : Claim7 := { stood := { row := tableHundredRow, standIns := [], harness := (true, "cb408da6ffb16e183c7038948102e2d59847bd09e2cd08093de875bec7eb966d"), looks := true }, kinds := [], alts := [], laidByText := true, laidKinds := [.data, .data, .data, .sentinel, .sentinel], laidTests := true, laidLooks := .later }
def TableHundredCardSaid : Prop := Claim7.holds Tryd.pinned (.plain (OpenSpec.ofChange tableHundredSpec)) tableHundredCard

/-- THE TIED CARD OF 'damperlaw5.TableShift'. -/
def tableShiftCard : Claim7 := { stood := { row := tableShiftRow, standIns := [], harness := (true, "cb408da6ffb16e183c7038948102e2d59847bd09e2cd08093de875bec7eb966d"), looks := true }, kinds := [], alts := [], laidByText := true, laidKinds := [.data, .data, .data, .sentinel, .sentinel], laidTests := true, laidLooks := .later }
def TableShiftCardSaid : Prop := Claim7.holds Tryd.pinned (.plain (OpenSpec.ofChange tableShiftSpec)) tableShiftCard

/-- THE TIED CARD OF 'damperlaw5.TableSame'. -/
def tableSameCard : Claim7 := { stood := { row := tableSameRow, standIns := [], harness := (true, "cb408da6ffb16e183c7038948102e2d59847bd09e2cd08093de875bec7eb966d"), looks := true }, kinds := [], alts := [], laidByText := true, laidKinds := [.data, .data, .data, .sentinel, .sentinel], laidTests := true, laidLooks := .later }
def TableSameCardSaid : Prop := Claim7.holds Tryd.pinned (.plain (OpenSpec.ofChange tableSameSpec)) tableSameCard

/-- THE TIED CARD OF 'damperlaw5.TablePicks'. -/
def tablePicksCard : Claim7 := { stood := { row := tablePicksRow, standIns := [], harness := (true, "cb408da6ffb16e183c7038948102e2d59847bd09e2cd08093de875bec7eb966d"), looks := true }, kinds := [], alts := [], laidByText := true, laidKinds := [.data, .data, .data, .sentinel, .sentinel], laidTests := true, laidLooks := .later }
def TablePicksCardSaid : Prop := Claim7.holds Tryd.pinned (.plain (OpenSpec.ofChange tablePicksSpec)) tablePicksCard

/-- THE TIED CARD OF 'damperlaw5.TableCopy'. -/
def tableCopyCard : Claim7 := { stood := { row := tableCopyRow, standIns := [], harness := (true, "cb408da6ffb16e183c7038948102e2d59847bd09e2cd08093de875bec7eb966d"), looks := true }, kinds := [], alts := [], laidByText := true, laidKinds := [.data, .data, .data, .sentinel, .sentinel], laidTests := true, laidLooks := .later }
def TableCopyCardSaid : Prop := Claim7.holds Tryd.pinned (.plain (OpenSpec.ofChange tableCopySpec)) tableCopyCard

/-- THE SECOND FORM's CARD OF 'damperlaw5.TableRight'. -/
def tableRightUptoCard : Claim7 := { stood := { row := tableRightUptoRow, standIns := [], harness := (true, "cb408da6ffb16e183c7038948102e2d59847bd09e2cd08093de875bec7eb966d"), looks := true }, kinds := [], alts := [], laidByText := true, laidKinds := [.data, .data, .data, .sentinel, .sentinel], laidTests := true, laidLooks := .later }
def TableRightUptoCardSaid : Prop := Claim7.holds Tryd.pinned (.plain (OpenSpec.upto tableRightSpec)) tableRightUptoCard

/-- THE SECOND FORM's CARD OF 'damperlaw5.TableHundred'. -/
def tableHundredUptoCard : Claim7 := { stood := { row := tableHundredUptoRow, standIns := [], harness := (true, "cb408da6ffb16e183c7038948102e2d59847bd09e2cd08093de875bec7eb966d"), looks := true }, kinds := [], alts := [], laidByText := true, laidKinds := [.data, .data, .data, .sentinel, .sentinel], laidTests := true, laidLooks := .later }
def TableHundredUptoCardSaid : Prop := Claim7.holds Tryd.pinned (.plain (OpenSpec.upto tableHundredSpec)) tableHundredUptoCard

/-- THE SECOND FORM's CARD OF 'damperlaw5.TableShift'. -/
def tableShiftUptoCard : Claim7 := { stood := { row := tableShiftUptoRow, standIns := [], harness := (true, "cb408da6ffb16e183c7038948102e2d59847bd09e2cd08093de875bec7eb966d"), looks := true }, kinds := [], alts := [], laidByText := true, laidKinds := [.data, .data, .data, .sentinel, .sentinel], laidTests := true, laidLooks := .later }
def TableShiftUptoCardSaid : Prop := Claim7.holds Tryd.pinned (.plain (OpenSpec.upto tableShiftSpec)) tableShiftUptoCard

/-- THE SECOND FORM's CARD OF 'damperlaw5.TableSame'. -/
def tableSameUptoCard : Claim7 := { stood := { row := tableSameUptoRow, standIns := [], harness := (true, "cb408da6ffb16e183c7038948102e2d59847bd09e2cd08093de875bec7eb966d"), looks := true }, kinds := [], alts := [], laidByText := true, laidKinds := [.data, .data, .data, .sentinel, .sentinel], laidTests := true, laidLooks := .later }
def TableSameUptoCardSaid : Prop := Claim7.holds Tryd.pinned (.plain (OpenSpec.upto tableSameSpec)) tableSameUptoCard

/-- THE SECOND FORM's CARD OF 'damperlaw5.TablePicks'. -/
def tablePicksUptoCard : Claim7 := { stood := { row := tablePicksUptoRow, standIns := [], harness := (true, "cb408da6ffb16e183c7038948102e2d59847bd09e2cd08093de875bec7eb966d"), looks := true }, kinds := [], alts := [], laidByText := true, laidKinds := [.data, .data, .data, .sentinel, .sentinel], laidTests := true, laidLooks := .later }
def TablePicksUptoCardSaid : Prop := Claim7.holds Tryd.pinned (.plain (OpenSpec.upto tablePicksSpec)) tablePicksUptoCard

/-- THE SECOND FORM's CARD OF 'damperlaw5.TableCopy'. -/
def tableCopyUptoCard : Claim7 := { stood := { row := tableCopyUptoRow, standIns := [], harness := (true, "cb408da6ffb16e183c7038948102e2d59847bd09e2cd08093de875bec7eb966d"), looks := true }, kinds := [], alts := [], laidByText := true, laidKinds := [.data, .data, .data, .sentinel, .sentinel], laidTests := true, laidLooks := .later }
def TableCopyUptoCardSaid : Prop := Claim7.holds Tryd.pinned (.plain (OpenSpec.upto tableCopySpec)) tableCopyUptoCard
end Rows
end Go.Proofs.YtckcimahclpdfaaDoor
