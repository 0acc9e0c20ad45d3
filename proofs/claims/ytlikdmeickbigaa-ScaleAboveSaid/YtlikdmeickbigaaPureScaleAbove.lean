/- Beyond the most, beyond four times what is ready, is not asked for, however many requests there are.
   Conditions: none beyond the row's own. -/
import Derived.Test.YtlikdmeickbigaaMax24
import Derived.Test.YtlikdmeickbigaaPlain
namespace Go.Proofs.Ytlikdmeickbigaa.Pure
open Go.RowKit Go.Proofs.Ytlikdmeickbigaa.Ma Go.Proofs.Ytlikdmeickbigaa.Plain Go.Proofs.YtlikdmeickbigaaW.PrintWords Go.Proofs.YtlikdmeickbigaaW.PrintLast Go.Proofs.YtlikdmeickbigaaW.PrintMore
set_option linter.unusedVariables false

theorem ScaleAbove : damperlaw10_ScaleAbove.Pure := by
  intro nm i c lo hi g sum ready _ _ _ _ _ _ _ _
  obtain ⟨nm', i', c', lo', hi', g', hC, F⟩ := config_some nm i c lo hi g
  have := F.c1; have := F.c8; have := F.lo0; have := F.lohi; have := F.hi1; have := F.hi10; have := F.g0; have := F.g30
  have h1 := mod_range ready 31 (by omega)
  have h2 := mod_range sum 1000000 (by omega)
  refine ⟨1 + 3, ?_⟩
  unfold damperlaw10_ScaleAbove.f
  rw [known_some 1]
  simp only [Option.bind_some, ↓reduceIte]
  rw [hC]
  simp only [Option.bind_some]
  rw [within10 ready 31 (by omega) (by omega), within10 sum 1000000 (by omega) (by omega)]
  simp only [Option.bind_some]
  generalize ready % 31 = r at h1
  generalize sum % 1000000 = v at h2
  rw [wrap_id (a := 100000 + v) (by omega) (by omega), decide_some 1 0 0 nm' i' c' lo' hi' g' r 1 (100000 + v) 6 (100000 + v) 2 0 (by omega) (by omega) (by omega) (by omega) (by omega) (by omega) (by omega)]
  simp only [Option.bind_some]
  have hm : 1 ≤ mx 1 r ∧ r ≤ mx 1 r ∧ mx 1 r ≤ 31 := by unfold mx; split <;> omega
  have hb : 6000 ≤ need (100000 + v) 2 c' := by
    unfold need
    rw [if_neg (by omega)]
    have : 0 < 2 * c' := by omega
    rw [Int.le_ediv_iff_mul_le this]
    omega
  have ha : 2000 ≤ need (100000 + v) 6 c' := by
    unfold need
    rw [if_neg (by omega)]
    have : 0 < 6 * c' := by omega
    rw [Int.le_ediv_iff_mul_le this]
    omega
  have e1 : panicOf 0 (need (100000 + v) 2 c') (mx 1 r) = 6 := by
    unfold panicOf
    rw [if_pos (by omega)]
  rw [e1, if_pos rfl, wrap_id (a := 4 * mx 1 r) (by omega) (by omega)]
  unfold decW
  rw [e1]
  generalize need (100000 + v) 2 c' = b at hb
  generalize need (100000 + v) 6 c' = a at ha
  generalize mx 1 r = m at hm
  have hw : 2000 ≤ wantOf 0 6 a b := by unfold wantOf mx; repeat' split <;> omega
  generalize wantOf 0 6 a b = w at hw
  have h1' : oneOf w 0 1 0 g' = w := by unfold oneOf; rw [if_neg (by omega)]
  rw [h1']
  have e : lastOf w r m lo' hi' = mn hi' (mx (4 * m) lo') := by
    unfold lastOf mn mx
    repeat' split
    all_goals omega
  rw [e]
  simp

end Go.Proofs.Ytlikdmeickbigaa.Pure
