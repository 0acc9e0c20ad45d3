/- Of an event's bytes no front is one, and with one more it is none. -/
import Derived.Test.YtalpoojepffldaaDoorPb
import Derived.Test.YtalpoojepffldaaDoorPd
import Derived.Test.YtalpoojepffldaaDoorZFronts
namespace Go.Proofs.YtalpoojepffldaaDoor.Pure
open Go.RowKit Go.Proofs.YtalpoojepffldaaDoor.Ma Go.Proofs.YtalpoojepffldaaDoor.Plain Go.Proofs.YtalpoojepffldaaDoorW.PrintWords Go.Proofs.YtalpoojepffldaaDoorW.PrintLast
set_option linter.unusedVariables false
set_option linter.unusedSimpArgs false

theorem EventFronts : damperlaw3_EventFronts.Pure := by
  intro a0 a1 a2 a3 a4_0 a4_1 a4_2 a4_3 a4_4 a4_5 l5 a6 a7 _ _ _ _ _ _ _ _ _ _ hl _ h7
  refine ⟨200, ?_⟩
  obtain ⟨kd, nm, tg, n, dr, c0, c1, c2, c3, c4, c5, rn, rc, ts, ro, hm, M⟩ := make_ok 200 (by decide) a0 a1 a2 a3 a4_0 a4_1 a4_2 a4_3 a4_4 a4_5 l5 (by have := hl.1; simp only [maxLen] at this; omega)
  have F := M.fit
  have hr := rbytes_eq F M.kind 200 (by decide)
  have hln := bytesV_len F (shp kd).1 (shp kd).2.1 (shp kd).2.2.1 (shp kd).2.2.2.1 (shp kd).2.2.2.2.1 (shp kd).2.2.2.2.2.1
  have hpos : 0 < (bytesV (shp kd).1 (shp kd).2.1 (shp kd).2.2.1 (shp kd).2.2.2.1 (shp kd).2.2.2.2.1 (shp kd).2.2.2.2.2.1 kd nm tg n dr c0 c1 c2 c3 c4 c5 rn rc ts ro).length := by
    unfold bytesV
    rw [List.length_cons]
    omega
  have h7 : byteB a7 := by
    have h2 : IntKind.u8.min ≤ a7 ∧ a7 ≤ IntKind.u8.max := by simpa [Lit.wf] using h7
    have m0 : IntKind.u8.min = 0 := by decide
    have m1 : IntKind.u8.max = 255 := by decide
    unfold byteB
    omega
  generalize hb : bytesV (shp kd).1 (shp kd).2.1 (shp kd).2.2.1 (shp kd).2.2.2.1 (shp kd).2.2.2.2.1 (shp kd).2.2.2.2.2.1 kd nm tg n dr c0 c1 c2 c3 c4 c5 rn rc ts ro = b at hr hln hpos
  have hw := wi_in a6 (b.length : Int) (by omega) (by omega)
  unfold damperlaw3_EventFronts.f
  rw [if_pos (show damperlaw3_known.f = some true from rfl), hm, Option.bind_some]
  dsimp only
  rw [hr, Option.bind_some]
  unfold frBody
  rw [if_pos ⟨hpos, by omega⟩, parse_front M 200 (by decide) b hb (wi a6 (b.length : Int)).toNat (by omega), Option.bind_some, parse_more M 200 (by decide) b hb a7 h7, Option.bind_some]
  rfl
end Go.Proofs.YtalpoojepffldaaDoor.Pure
