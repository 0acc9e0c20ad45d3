/- What is asked for is within the least and the most; where these let it, no more than four times, no less than half of what is ready.
   Conditions: none beyond the row's own. -/
import Derived.Test.YtlikdmeickbigaaMax16
import Derived.Test.YtlikdmeickbigaaPlainG
namespace Go.Proofs.Ytlikdmeickbigaa.Pure
open Go.RowKit Go.Proofs.Ytlikdmeickbigaa.Ma Go.Proofs.Ytlikdmeickbigaa.Plain Go.Proofs.YtlikdmeickbigaaW.PrintWords Go.Proofs.YtlikdmeickbigaaW.PrintLast Go.Proofs.YtlikdmeickbigaaW.PrintMore
set_option linter.unusedVariables false

theorem last_least (w r m lo hi : Int) (h : lo ≤ hi) : lastOf w r m lo hi ≥ lo := by unfold lastOf mn mx; repeat' split <;> omega
theorem last_most (w r m lo hi : Int) : lastOf w r m lo hi ≤ hi := by unfold lastOf mn mx; repeat' split <;> omega
theorem last_up (w r m lo hi : Int) (h0 : 0 ≤ r) (h1 : r ≤ m) (h2 : lo ≤ hi) (h : ¬ lastOf w r m lo hi ≤ 4 * m) : lastOf w r m lo hi = lo := by
  unfold lastOf mn mx at h ⊢
  repeat' split at h
  all_goals (repeat' split)
  all_goals omega
theorem last_down (w r m lo hi : Int) (h : ¬ lastOf w r m lo hi ≥ r / 2) : lastOf w r m lo hi = hi := by
  unfold lastOf mn mx at h ⊢
  repeat' split at h
  all_goals (repeat' split)
  all_goals omega

theorem ScaleBounds : damperlaw10_ScaleBounds.Pure := by
  intro a0 a1 a2 a3 a4 a5 a6 a7 a8 nm i c lo hi g _ _ _ _ _ _ _ _ _ _ _ _ _ _ _
  obtain ⟨b0, b1, b2, b3, b4, b5, b6, b7, b8, hG, G⟩ := given_some a0 a1 a2 a3 a4 a5 a6 a7 a8
  obtain ⟨nm', i', c', lo', hi', g', hC, F⟩ := config_some nm i c lo hi g
  have := G.want0; have := G.want10; have := G.left0; have := G.left6; have := G.ready0; have := G.ready13; have := G.busy0; have := G.busy2; have := G.st0; have := G.st1; have := G.sts0; have := G.sts6; have := G.sh0; have := G.sh1; have := G.shs0; have := G.shs2; have := G.idle0
  have := F.c1; have := F.c8; have := F.lo0; have := F.lohi; have := F.hi1; have := F.hi10; have := F.g0; have := F.g30
  have hm : 1 ≤ mx 1 b2 ∧ b2 ≤ mx 1 b2 ∧ mx 1 b2 ≤ 13 := by unfold mx; split <;> omega
  refine ⟨1 + 3, ?_⟩
  unfold damperlaw10_ScaleBounds.f
  rw [known_some 1]
  simp only [Option.bind_some, ↓reduceIte]
  rw [hG]
  simp only [Option.bind_some]
  rw [hC]
  simp only [Option.bind_some]
  rw [law_decide 1 nm' i' G F]
  simp only [Option.bind_some]
  rw [show (1 + 3 : Nat) = 3 + 1 from rfl]
  simp only [damperlaw10_ScaleBounds.j0]
  have hl : 0 ≤ panicOf b1 (need b6 b7 c') (mx 1 b2) ∧ panicOf b1 (need b6 b7 c') (mx 1 b2) ≤ 6 := by unfold panicOf mx; repeat' split <;> omega
  generalize panicOf b1 (need b6 b7 c') (mx 1 b2) = l at hl ⊢
  unfold decW
  generalize oneOf _ b0 b3 b8 g' = w1
  generalize mx 1 b2 = m at hm ⊢
  rw [half (by omega) (by omega), wrap_id (a := 4 * m) (by omega) (by omega)]
  have h1 := last_least w1 b2 m lo' hi' (by omega)
  have h2 := last_most w1 b2 m lo' hi'
  have h3 := last_up w1 b2 m lo' hi' (by omega) (by omega) (by omega)
  have h4 := last_down w1 b2 m lo' hi'
  generalize lastOf w1 b2 m lo' hi' = w at h1 h2 h3 h4 ⊢
  have e1 : decide (l ≤ 6) = true := decide_eq_true hl.2
  rw [if_pos h1, if_pos h2, if_pos (show l ≥ 0 from hl.1), e1]
  by_cases c1 : w ≤ 4 * m
  · rw [if_pos c1]
    by_cases c2 : w ≥ b2 / 2
    · rw [if_pos c2]
    · rw [if_neg c2, if_pos (h4 c2)]
  · rw [if_neg c1, if_pos (h3 c1)]
    by_cases c2 : w ≥ b2 / 2
    · rw [if_pos c2]
    · rw [if_neg c2, if_pos (h4 c2)]

end Go.Proofs.Ytlikdmeickbigaa.Pure
