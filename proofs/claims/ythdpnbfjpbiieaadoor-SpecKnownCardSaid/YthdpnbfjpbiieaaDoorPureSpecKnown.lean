/- Each of the ten configurations of the list is refused, or allowed, as the list says. -/
import Derived.Test.YthdpnbfjpbiieaaDoorMax26
import Derived.Test.YthdpnbfjpbiieaaDoorPlainK
namespace Go.Proofs.YthdpnbfjpbiieaaDoor.Pure
open Go.RowKit Go.Proofs.YthdpnbfjpbiieaaDoor.Ma Go.Proofs.YthdpnbfjpbiieaaDoorW.PrintWords Go.Proofs.YthdpnbfjpbiieaaDoorW.PrintLast Go.Proofs.YthdpnbfjpbiieaaDoor.Plain

theorem SpecKnown : damperlaw2_SpecKnown.Pure := by
  intro a0 _
  refine ⟨50, ?_⟩
  unfold damperlaw2_SpecKnown.f
  rw [show (50 : Nat) = 40 + 10 from rfl, known_ok, Option.bind_some, if_pos rfl]
  have hc : damperlaw2_config.f 1 1 0 0 = some ((⟨#[97]⟩ : ByteArray), 0, 1, 0, 1, 0) := by decide
  rw [hc, Option.bind_some, Option.bind_some, Option.bind_some]
  have hw := wi_in a0 10 (by decide) (by decide)
  simp only [List.length_cons, List.length_nil]
  have e10 : ((0 + 1 + 1 + 1 + 1 + 1 + 1 + 1 + 1 + 1 + 1 : Nat) : Int) = 10 := rfl
  rw [e10]
  generalize wi a0 10 = t at hw ⊢
  rw [if_neg (by decide), if_pos hw.1, if_pos hw.2, cfg_eq, Option.bind_some, if_pos hw.2]
  rcases (show t = 0 ∨ t = 1 ∨ t = 2 ∨ t = 3 ∨ t = 4 ∨ t = 5 ∨ t = 6 ∨ t = 7 ∨ t = 8 ∨ t = 9 by omega) with rfl | rfl | rfl | rfl | rfl | rfl | rfl | rfl | rfl | rfl <;> decide
end Go.Proofs.YthdpnbfjpbiieaaDoor.Pure
