/- What a scaler needs, asks for, and how long it is in panic, are the document's: the program's numbers and the reference's are the same.
   Conditions: none beyond the row's own. -/
import Derived.Test.YtlikdmeickbigaaMax15
import Derived.Test.YtlikdmeickbigaaPlainG
import Derived.Test.YtlikdmeickbigaaPlainR
namespace Go.Proofs.Ytlikdmeickbigaa.Pure
open Go.RowKit Go.Proofs.Ytlikdmeickbigaa.Ma Go.Proofs.Ytlikdmeickbigaa.Plain Go.Proofs.YtlikdmeickbigaaW.PrintWords Go.Proofs.YtlikdmeickbigaaW.PrintLast Go.Proofs.YtlikdmeickbigaaW.PrintMore
set_option linter.unusedVariables false

theorem ScaleDecides : damperlaw10_ScaleDecides.Pure := by
  intro a0 a1 a2 a3 a4 a5 a6 a7 a8 nm i c lo hi g s n _ _ _ _ _ _ _ _ _ _ _ _ _ _ _ _ _
  obtain ⟨b0, b1, b2, b3, b4, b5, b6, b7, b8, hG, G⟩ := given_some a0 a1 a2 a3 a4 a5 a6 a7 a8
  obtain ⟨nm', i', c', lo', hi', g', hC, F⟩ := config_some nm i c lo hi g
  have := G.want0; have := G.want10; have := G.left0; have := G.left6; have := G.ready0; have := G.ready13; have := G.busy0; have := G.busy2; have := G.st0; have := G.st1; have := G.sts0; have := G.sts6; have := G.sh0; have := G.sh1; have := G.shs0; have := G.shs2; have := G.idle0
  have := F.c1; have := F.c8; have := F.lo0; have := F.lohi; have := F.hi1; have := F.hi10; have := F.g0; have := F.g30
  have hs := mod_range s 10000001 (by omega)
  have hn := mod_range n 10000001 (by omega)
  have hn9 := mod_range n 9 (by omega)
  refine ⟨4 + 3, ?_⟩
  unfold damperlaw10_ScaleDecides.f
  rw [known_some 4]
  simp only [Option.bind_some, ↓reduceIte]
  rw [hG]
  simp only [Option.bind_some]
  rw [hC]
  simp only [Option.bind_some]
  rw [law_decide 4 nm' i' G F, show (4 + 3 : Nat) = 1 + 6 from rfl, ref_some 1 b0 b1 nm' i' c' lo' hi' g' b2 b3 b4 b5 b6 b7 b8 (by omega) (by omega) (by omega) (by omega) (by omega) (by omega) (by omega), within10 s 10000001 (by omega) (by omega), within10 n 10000001 (by omega) (by omega)]
  simp only [Option.bind_some]
  rw [show (1 + 6 : Nat) = 6 + 1 from rfl]
  simp only [damperlaw10_ScaleDecides.j0, ↓reduceIte]
  rw [need_some _ _ c' (by omega) (by omega) (by omega) (by omega) (by omega) (by omega), need_ref _ _ c' (by omega) (by omega) (by omega) (by omega) (by omega) (by omega)]
  simp only [Option.bind_some, ↓reduceIte]
  rw [within10 n 9 (by omega) (by omega)]
  simp only [Option.bind_some]
  rw [need_some _ _ c' (by omega) (by omega) (by omega) (by omega) (by omega) (by omega), need_ref _ _ c' (by omega) (by omega) (by omega) (by omega) (by omega) (by omega)]
  simp only [Option.bind_some, beq_self_eq_true]

end Go.Proofs.Ytlikdmeickbigaa.Pure
