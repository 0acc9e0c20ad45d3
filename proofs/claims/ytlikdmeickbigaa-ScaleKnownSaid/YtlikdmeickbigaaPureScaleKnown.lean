/- These numbers of a scaler come to just these answers.
   Conditions: none beyond the row's own. -/
import Derived.Test.YtlikdmeickbigaaMax20
import Derived.Test.YtlikdmeickbigaaPlain
namespace Go.Proofs.Ytlikdmeickbigaa.Pure
open Go.RowKit Go.Proofs.Ytlikdmeickbigaa.Ma Go.Proofs.Ytlikdmeickbigaa.Plain Go.Proofs.YtlikdmeickbigaaW.PrintWords Go.Proofs.YtlikdmeickbigaaW.PrintLast Go.Proofs.YtlikdmeickbigaaW.PrintMore
set_option linter.unusedVariables false

theorem dk (want left : Int) (nm : ByteArray) (i c lo hi g ready busy st sts sh shs idle : Int) (r : Int × Int) (h1 : 0 ≤ left ∧ left ≤ 6) (h2 : 1 ≤ c ∧ c ≤ 8) (h3 : 0 ≤ ready ∧ ready ≤ 1000000) (h4 : 0 ≤ st ∧ st ≤ 1000000000) (h5 : 0 ≤ sts ∧ sts ≤ 10000000) (h6 : 0 ≤ sh ∧ sh ≤ 1000000000) (h7 : 0 ≤ shs ∧ shs ≤ 10000000)
    (e : (decW want left lo hi g ready busy (need st sts c) (need sh shs c) idle, panicOf left (need sh shs c) (mx 1 ready)) = r) : scale_Decide.f (1 + 3) want left nm i c lo hi g ready busy st sts sh shs idle = some r := by
  rw [decide_some 1 want left nm i c lo hi g ready busy st sts sh shs idle h1 h2 h3 h4 h5 h6 h7, e]

theorem ScaleKnown : damperlaw10_ScaleKnown.Pure := by
  intro a _
  have ha := mod_range a 12 (by omega)
  refine ⟨1 + 3, ?_⟩
  unfold damperlaw10_ScaleKnown.f
  rw [known_some 1, Option.bind_some, if_pos rfl]
  rw [dk 0 0 _ 0 2 0 10 5 0 0 0 0 0 0 9 (0, 0) (by omega) (by omega) (by omega) (by omega) (by omega) (by omega) (by omega) (by decide)]
  rw [Option.bind_some]
  rw [dk 1 0 _ 0 2 0 10 5 1 0 0 6 0 2 4 (1, 0) (by omega) (by omega) (by omega) (by omega) (by omega) (by omega) (by omega) (by decide)]
  rw [Option.bind_some]
  rw [dk 1 0 _ 0 2 0 10 5 1 0 0 6 0 2 5 (0, 0) (by omega) (by omega) (by omega) (by omega) (by omega) (by omega) (by omega) (by decide)]
  rw [Option.bind_some]
  rw [dk 1 0 _ 0 2 0 10 5 1 1 0 6 0 2 9 (1, 0) (by omega) (by omega) (by omega) (by omega) (by omega) (by omega) (by omega) (by decide)]
  rw [Option.bind_some]
  rw [dk 2 0 _ 0 2 0 10 5 2 3 30 6 8 2 0 (3, 0) (by omega) (by omega) (by omega) (by omega) (by omega) (by omega) (by omega) (by decide)]
  rw [Option.bind_some]
  rw [dk 2 0 _ 0 2 0 10 5 2 9 30 6 16 2 0 (4, 6) (by omega) (by omega) (by omega) (by omega) (by omega) (by omega) (by omega) (by decide)]
  rw [Option.bind_some]
  rw [dk 9 3 _ 0 2 0 10 5 2 9 6 6 2 2 0 (8, 2) (by omega) (by omega) (by omega) (by omega) (by omega) (by omega) (by omega) (by decide)]
  rw [Option.bind_some]
  rw [dk 9 1 _ 0 2 0 10 5 8 9 6 6 2 2 0 (4, 0) (by omega) (by omega) (by omega) (by omega) (by omega) (by omega) (by omega) (by decide)]
  rw [Option.bind_some]
  rw [dk 4 0 _ 0 2 3 10 5 2 0 0 6 0 2 99 (3, 0) (by omega) (by omega) (by omega) (by omega) (by omega) (by omega) (by omega) (by decide)]
  rw [Option.bind_some]
  rw [dk 1 0 _ 0 2 0 10 5 0 5 600 6 0 0 0 (4, 0) (by omega) (by omega) (by omega) (by omega) (by omega) (by omega) (by omega) (by decide)]
  rw [Option.bind_some]
  rw [dk 10 0 _ 0 2 0 10 5 9 0 0 6 0 2 99 (4, 0) (by omega) (by omega) (by omega) (by omega) (by omega) (by omega) (by omega) (by decide)]
  rw [Option.bind_some]
  rw [dk 5 0 _ 0 2 0 10 5 30 0 0 6 0 2 99 (10, 0) (by omega) (by omega) (by omega) (by omega) (by omega) (by omega) (by omega) (by decide)]
  rw [Option.bind_some]
  rw [Option.bind_some, within10 a _ (by decide) (by decide), Option.bind_some]
  have hk : a % 12 = 0 ∨ a % 12 = 1 ∨ a % 12 = 2 ∨ a % 12 = 3 ∨ a % 12 = 4 ∨ a % 12 = 5 ∨ a % 12 = 6 ∨ a % 12 = 7 ∨ a % 12 = 8 ∨ a % 12 = 9 ∨ a % 12 = 10 ∨ a % 12 = 11 := by omega
  rw [Option.bind_some]
  generalize hx : a % _ = x
  have hx' : a % 12 = x := hx
  rw [hx'] at hk
  clear hx hx' ha
  rcases hk with rfl | rfl | rfl | rfl | rfl | rfl | rfl | rfl | rfl | rfl | rfl | rfl <;> decide

end Go.Proofs.Ytlikdmeickbigaa.Pure
