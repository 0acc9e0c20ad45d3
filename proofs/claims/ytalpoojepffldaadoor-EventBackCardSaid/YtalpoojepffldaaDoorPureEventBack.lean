/- Any event is written as the document says, and read as it was. -/
import Derived.Test.YtalpoojepffldaaDoorPb
import Derived.Test.YtalpoojepffldaaDoorPe
import Derived.Test.YtalpoojepffldaaDoorZBack
namespace Go.Proofs.YtalpoojepffldaaDoor.Pure
open Go.RowKit Go.Proofs.YtalpoojepffldaaDoor.Ma Go.Proofs.YtalpoojepffldaaDoor.Plain Go.Proofs.YtalpoojepffldaaDoorW.PrintWords Go.Proofs.YtalpoojepffldaaDoorW.PrintLast
set_option linter.unusedVariables false
set_option linter.unusedSimpArgs false

theorem EventBack : damperlaw3_EventBack.Pure := by
  intro a0 a1 a2 a3 a4_0 a4_1 a4_2 a4_3 a4_4 a4_5 l5 _ _ _ _ _ _ _ _ _ _ hl
  refine ⟨200, ?_⟩
  obtain ⟨kd, nm, tg, n, dr, c0, c1, c2, c3, c4, c5, rn, rc, ts, ro, hm, M⟩ := make_ok 200 (by decide) a0 a1 a2 a3 a4_0 a4_1 a4_2 a4_3 a4_4 a4_5 l5 (by have := hl.1; simp only [maxLen] at this; omega)
  have F := M.fit
  have hb := bytes_eq F 200 (by decide) (shp kd).1 (shp kd).2.1 (shp kd).2.2.1 (shp kd).2.2.2.1 (shp kd).2.2.2.2.1 (shp kd).2.2.2.2.2.1 (shp kd).2.2.2.2.2.2 (shp_eq 198 kd)
  have hr := rbytes_eq F M.kind 200 (by decide)
  have hp := parse_ok M 200 (by decide)
  have hs := rsame_self 200 kd nm tg n dr c0 c1 c2 c3 c4 c5 rn rc ts ro F.tlF (by decide)
  have hln := bytesV_len F (shp kd).1 (shp kd).2.1 (shp kd).2.2.1 (shp kd).2.2.2.1 (shp kd).2.2.2.2.1 (shp kd).2.2.2.2.2.1
  unfold damperlaw3_EventBack.f
  rw [show damperlaw3_known.f = some true from rfl, Option.bind_some, if_pos rfl, hm, Option.bind_some]
  dsimp only
  rw [hb, Option.bind_some, Option.bind_some, List.nil_append, if_pos (by simp only [List.length_nil]; omega), hp, Option.bind_some]
  dsimp only
  rw [hr, Option.bind_some, if_pos rfl, if_pos rfl, hs]
  rfl
end Go.Proofs.YtalpoojepffldaaDoor.Pure
