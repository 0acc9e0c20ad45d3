/- Plain laws, as far as one statement asks them. -/
import Derived.Test.YtalpoojepffldaaDoorMax0
import Derived.Lib.IndexBytes
import Derived.Lib.ItoaLen
import Derived.Lib.PathFns
namespace Go.Proofs.YtalpoojepffldaaDoor.Plain
open Go.Proofs.YtalpoojepffldaaDoor.Ma Go.Proofs.YtalpoojepffldaaDoorW.PrintLast Go.Proofs.YtalpoojepffldaaDoorW.PrintWords Go.RowKit
set_option linter.unusedVariables false
set_option linter.unusedSimpArgs false

/-- What 'within' answers lies within. -/
theorem wi_in (a b : Int) (h0 : 0 < b) (h1 : b ≤ 9223372036854775807) : 0 ≤ wi a b ∧ wi a b < b := by
  have h := wi_bd (a := a) (b := b) (j := wi a b) rfl h0 h1; omega

end Go.Proofs.YtalpoojepffldaaDoor.Plain
