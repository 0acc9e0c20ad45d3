/- In panic it is not less than it was, but for the bounds; panic is begun by a short while of twice what is ready, and lasts six turns from the last such one on.
   Conditions: none beyond the row's own. -/
import Derived.Test.YtlikdmeickbigaaMax18
import Derived.Test.YtlikdmeickbigaaPlainG
namespace Go.Proofs.Ytlikdmeickbigaa.Pure
open Go.RowKit Go.Proofs.Ytlikdmeickbigaa.Ma Go.Proofs.Ytlikdmeickbigaa.Plain Go.Proofs.YtlikdmeickbigaaW.PrintWords Go.Proofs.YtlikdmeickbigaaW.PrintLast Go.Proofs.YtlikdmeickbigaaW.PrintMore
set_option linter.unusedVariables false

theorem dec_least {w l lo hi g r b a e d : Int} (h : lo ≤ hi) : lo ≤ decW w l lo hi g r b a e d ∧ decW w l lo hi g r b a e d ≤ hi := by
  unfold decW
  generalize oneOf _ w b d g = x
  generalize mx 1 r = m
  constructor
  · unfold lastOf mn mx; repeat' split <;> omega
  · unfold lastOf mn mx; repeat' split <;> omega

theorem panic_loop {c lo hi g : Int} (nm : ByteArray) (i : Int) (F : Fine c lo hi g) (n y0 y1 r y3 y4 y5 y6 y7 y8 : Int) (hn : n ≤ 9) (hr : 0 ≤ r ∧ r ≤ 13) (d : Nat) :
    ∀ (k : Nat) (x w l : Int), (d : Int) = n - x → 0 ≤ x → 0 ≤ l ∧ l ≤ 6 → damperlaw10_ScalePanic.l0 (k + d + 4) n x y0 y1 r y3 y4 y5 y6 y7 y8 nm i c lo hi g w l = some true := by
  have := F.c1; have := F.c8; have := F.lo0; have := F.lohi; have := F.hi1; have := F.hi10; have := F.g0; have := F.g30
  induction d with
  | zero =>
    intro k x w l hd hx hl
    rw [show k + 0 + 4 = k + 3 + 1 from rfl, damperlaw10_ScalePanic.l0, if_neg (by omega)]
  | succ d ih =>
    intro k x w l hd hx hl
    rw [show k + (d + 1) + 4 = (k + d + 4) + 1 from by omega, damperlaw10_ScalePanic.l0, if_pos (by omega), show k + d + 4 = (k + d + 1) + 3 from rfl]
    rw [decide_some (k + d + 1) w l nm i c lo hi g r 0 0 1 0 1 0 hl (by omega) (by omega) (by omega) (by omega) (by omega) (by omega), need_zero 1 c (by omega) (by omega) (by omega), Option.bind_some]
    have hm : 1 ≤ mx 1 r := by unfold mx; split <;> omega
    have e : panicOf l 0 (mx 1 r) = mx 0 (wrap64 (l - 1)) := by
      unfold panicOf
      rw [if_neg (by omega), wrap_id (a := l - 1) (by omega) (by omega)]
      unfold mx
      repeat' split <;> omega
    have e2 : 0 ≤ panicOf l 0 (mx 1 r) ∧ panicOf l 0 (mx 1 r) ≤ 6 := by
      rw [e, wrap_id (a := l - 1) (by omega) (by omega)]
      unfold mx
      split <;> omega
    show (if panicOf l 0 (mx 1 r) = mx 0 (wrap64 (l - 1)) then damperlaw10_ScalePanic.l0 (k + d + 1 + 3) n (wrap64 (x + 1)) y0 y1 r y3 y4 y5 y6 y7 y8 nm i c lo hi g (decW w l lo hi g r 0 0 0 0) (panicOf l 0 (mx 1 r)) else some false) = some true
    rw [if_pos e, wrap_id (a := x + 1) (by omega) (by omega), show (k + d + 1) + 3 = k + d + 4 from rfl]
    exact ih k (x + 1) _ _ (by omega) (by omega) e2

theorem ScalePanic : damperlaw10_ScalePanic.Pure := by
  intro a0 a1 a2 a3 a4 a5 a6 a7 a8 nm i c lo hi g turns _ _ _ _ _ _ _ _ _ _ _ _ _ _ _ _
  obtain ⟨b0, b1, b2, b3, b4, b5, b6, b7, b8, hG, G⟩ := given_some a0 a1 a2 a3 a4 a5 a6 a7 a8
  obtain ⟨nm', i', c', lo', hi', g', hC, F⟩ := config_some nm i c lo hi g
  have := G.want0; have := G.want10; have := G.left0; have := G.left6; have := G.ready0; have := G.ready13; have := G.busy0; have := G.busy2; have := G.st0; have := G.st1; have := G.sts0; have := G.sts6; have := G.sh0; have := G.sh1; have := G.shs0; have := G.shs2; have := G.idle0
  have := F.c1; have := F.c8; have := F.lo0; have := F.lohi; have := F.hi1; have := F.hi10; have := F.g0; have := F.g30
  have ht := mod_range turns 9 (by omega)
  have hm : 1 ≤ mx 1 b2 ∧ b2 ≤ mx 1 b2 ∧ mx 1 b2 ≤ 13 := by unfold mx; split <;> omega
  obtain ⟨d, hd⟩ : ∃ d : Nat, (d : Int) = turns % 9 - 0 := ⟨(turns % 9).toNat, by omega⟩
  refine ⟨d + 7, ?_⟩
  unfold damperlaw10_ScalePanic.f
  rw [show d + 7 = d + 4 + 3 from rfl, known_some (d + 4)]
  simp only [Option.bind_some, ↓reduceIte]
  rw [hG]
  simp only [Option.bind_some]
  rw [hC]
  simp only [Option.bind_some]
  rw [law_decide (d + 4) nm' i' G F, need_ref b6 b7 c' (by omega) (by omega) (by omega) (by omega) (by omega) (by omega)]
  simp only [Option.bind_some]
  have hw := dec_least (w := b0) (l := b1) (g := g') (r := b2) (b := b3) (a := need b4 b5 c') (e := need b6 b7 c') (d := b8) (show lo' ≤ hi' by omega)
  have hl : 0 ≤ panicOf b1 (need b6 b7 c') (mx 1 b2) ∧ panicOf b1 (need b6 b7 c') (mx 1 b2) ≤ 6 ∧ (panicOf b1 (need b6 b7 c') (mx 1 b2) = 6 ↔ need b6 b7 c' ≥ 2 * mx 1 b2) := by
    unfold panicOf mx; repeat' split <;> omega
  have hk : panicOf b1 (need b6 b7 c') (mx 1 b2) > 0 → ¬ decW b0 b1 lo' hi' g' b2 b3 (need b4 b5 c') (need b6 b7 c') b8 < mn (mn b0 hi') (mx (4 * mx 1 b2) lo') := by
    intro hp
    unfold decW
    generalize panicOf b1 (need b6 b7 c') (mx 1 b2) = p at hp
    have h1 : b0 ≤ wantOf b0 p (need b4 b5 c') (need b6 b7 c') := by unfold wantOf mx; repeat' split <;> omega
    have h2 : wantOf b0 p (need b4 b5 c') (need b6 b7 c') ≤ oneOf (wantOf b0 p (need b4 b5 c') (need b6 b7 c')) b0 b3 b8 g' := by unfold oneOf; split <;> omega
    generalize oneOf (wantOf b0 p (need b4 b5 c') (need b6 b7 c')) b0 b3 b8 g' = x at h2
    generalize mx 1 b2 = m at hm
    have h3 : b0 ≤ x := by omega
    unfold lastOf mn mx
    repeat' split
    all_goals omega
  generalize decW b0 b1 lo' hi' g' b2 b3 (need b4 b5 c') (need b6 b7 c') b8 = w at hw hk
  generalize panicOf b1 (need b6 b7 c') (mx 1 b2) = l at hl hk
  have hnr := need_range b6 b7 c' (by omega) (by omega) (by omega) (by omega) (by omega) (by omega)
  generalize need b6 b7 c' = b at hl hnr
  have step : damperlaw10_ScalePanic.j1 (d + 4 + 2) turns (mx 1 b2) false b0 b1 b2 b3 b4 b5 b6 b7 b8 nm' i' c' lo' hi' g' w l = some true := by
    have last : damperlaw10_ScalePanic.j2 (d + 4 + 1) turns false b0 b1 b2 b3 b4 b5 b6 b7 b8 nm' i' c' lo' hi' g' w l = some true := by
      rw [damperlaw10_ScalePanic.j2, if_neg (by decide), within10 turns 9 (by omega) (by omega), Option.bind_some]
      exact panic_loop nm' i' F (turns % 9) b0 b1 b2 b3 b4 b5 b6 b7 b8 (by omega) (by omega) d 0 0 w l hd (by omega) (by omega) ▸ (by rw [show d + 4 = 0 + d + 4 from by omega])
    rw [show d + 4 + 2 = (d + 4 + 1) + 1 from rfl, damperlaw10_ScalePanic.j1, if_neg (by decide), wrap_id (a := 4 * mx 1 b2) (by omega) (by omega)]
    by_cases c1 : l > 0
    · rw [if_pos c1, decide_eq_false (hk c1)]
      exact last
    · rw [if_neg c1]
      exact last
  rw [show d + 4 + 3 = (d + 4 + 2) + 1 from rfl, damperlaw10_ScalePanic.j0, wrap_id (a := 2 * mx 1 b2) (by omega) (by omega)]
  have e : (decide (b ≥ 2 * mx 1 b2) != (l == 6)) = false := by
    by_cases c1 : b ≥ 2 * mx 1 b2
    · rw [decide_eq_true c1, hl.2.2.2 c1]
      rfl
    · rw [decide_eq_false c1]
      have : ¬ l = 6 := fun h6 => c1 (hl.2.2.1 h6)
      simp [this]
  rw [e, if_neg (by decide)]
  exact step

end Go.Proofs.Ytlikdmeickbigaa.Pure
