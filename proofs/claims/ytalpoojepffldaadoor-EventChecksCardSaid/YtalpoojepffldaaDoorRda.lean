/- The reader of events' bytes: a text, a configuration, a route. -/
import Derived.Test.YtalpoojepffldaaDoorMax0
import Derived.Test.YtalpoojepffldaaDoorPb
import Derived.LoopN
import Derived.Laws.BitsLemmas
import Derived.Lib.Hide
import Derived.Outline
namespace Go.Proofs.YtalpoojepffldaaDoor.Ma
open Go.RowKit Go.Proofs.YtalpoojepffldaaDoorW.PrintWords Go.Proofs.YtalpoojepffldaaDoorW.PrintLast
set_option linter.unusedVariables false
set_option linter.unusedSimpArgs false

end Go.Proofs.YtalpoojepffldaaDoor.Ma
