/- These bytes are read as just this, or refused as they must. -/
import Derived.Test.YtalpoojepffldaaDoorPe
import Derived.Test.YtalpoojepffldaaDoorPj
import Derived.Test.YtalpoojepffldaaDoorZKnown
namespace Go.Proofs.YtalpoojepffldaaDoor.Pure
open Go.RowKit Go.Proofs.YtalpoojepffldaaDoor.Ma Go.Proofs.YtalpoojepffldaaDoor.Plain Go.Proofs.YtalpoojepffldaaDoorW.PrintWords Go.Proofs.YtalpoojepffldaaDoorW.PrintLast
set_option linter.unusedVariables false
set_option linter.unusedSimpArgs false

set_option maxRecDepth 100000 in
theorem EventKnown : damperlaw3_EventKnown.Pure := by
  intro a0 _
  refine ⟨300, ?_⟩
  have hw := wi_in a0 20 (by decide) (by decide)
  have hlen : (((([(([9] : List Int)), (([5, 0, 0, 1, 2] : List Int)), (([10, 3, 119, 101, 98] : List Int)), (([12, 3, 97, 45, 55] : List Int)), (([4, 0, 0, 0, 9, 1, 114, 0, 0, 0, 0, 200] : List Int)), (([3, 0, 0, 0, 2, 1, 114, 0, 0, 0, 5] : List Int)), (([1, 0, 0, 0, 0, 1, 97, 7, 2, 0, 3, 4] : List Int)), (([2, 0, 0, 0, 6, 1, 114, 1, 97, 9, 1, 0, 1, 116, 100] : List Int)), (([] : List Int)), (([0] : List Int)), (([14] : List Int)), (([9, 0] : List Int)), (([5, 0, 0, 0] : List Int)), (([5, 0, 0, 0, 0] : List Int)), (([10, 0] : List Int)), (([10, 4, 119, 101, 98] : List Int)), (([12, 1, 97] : List Int)), (([1, 0, 0, 0, 0, 1, 97, 7, 0, 0, 3, 4] : List Int)), (([2, 0, 0, 0, 6, 1, 114, 1, 97, 9, 0] : List Int)), (([5, 128, 0, 0, 0] : List Int))] : List (List Int)) : List (List Int)).length : Nat) : Int) = 20 := rfl
  unfold damperlaw3_EventKnown.f
  rw [show damperlaw3_known.f = some true from rfl, Option.bind_some, if_pos rfl, Option.bind_some, Option.bind_some, Option.bind_some, hlen]
  generalize wi a0 20 = q at hw ⊢
  rcases (show q = 0 ∨ q = 1 ∨ q = 2 ∨ q = 3 ∨ q = 4 ∨ q = 5 ∨ q = 6 ∨ q = 7 ∨ q = 8 ∨ q = 9 ∨ q = 10 ∨ q = 11 ∨ q = 12 ∨ q = 13 ∨ q = 14 ∨ q = 15 ∨ q = 16 ∨ q = 17 ∨ q = 18 ∨ q = 19 by omega) with rfl | rfl | rfl | rfl | rfl | rfl | rfl | rfl | rfl | rfl | rfl | rfl | rfl | rfl | rfl | rfl | rfl | rfl | rfl | rfl
  all_goals (show _ = some true; kernel_rfl)
end Go.Proofs.YtalpoojepffldaaDoor.Pure
