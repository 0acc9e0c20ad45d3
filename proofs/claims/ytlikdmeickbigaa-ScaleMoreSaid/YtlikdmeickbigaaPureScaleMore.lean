/- With more requests in both whiles there is no less asked for.
   Conditions: none beyond the row's own. -/
import Derived.Test.YtlikdmeickbigaaMax19
import Derived.Test.YtlikdmeickbigaaPlainG
namespace Go.Proofs.Ytlikdmeickbigaa.Pure
open Go.RowKit Go.Proofs.Ytlikdmeickbigaa.Ma Go.Proofs.Ytlikdmeickbigaa.Plain Go.Proofs.YtlikdmeickbigaaW.PrintWords Go.Proofs.YtlikdmeickbigaaW.PrintLast Go.Proofs.YtlikdmeickbigaaW.PrintMore
set_option linter.unusedVariables false

theorem panic_mono {l b b' m : Int} (hl : l ≤ 6) (h : b ≤ b') : panicOf l b m ≤ panicOf l b' m := by unfold panicOf mx; repeat' split <;> omega
theorem want_mono {w p p' a a' b b' : Int} (hp : p ≤ p') (ha : a ≤ a') (hb : b ≤ b') : wantOf w p a b ≤ wantOf w p' a' b' := by unfold wantOf mx; repeat' split <;> omega
theorem want_nonneg {want l a b : Int} (h0 : 0 ≤ want) (h1 : 0 ≤ a) : 0 ≤ wantOf want l a b := by unfold wantOf mx; repeat' split <;> omega
theorem one_mono {x x' w b b' d g : Int} (h0 : 0 ≤ x) (h : x ≤ x') (hb : b ≤ b') : oneOf x w b d g ≤ oneOf x' w b' d g := by
  unfold oneOf
  by_cases c1 : x = 0 ∧ (b > 0 ∨ (w > 0 ∧ d < g))
  · rw [if_pos c1]
    by_cases c2 : x' = 0
    · rw [if_pos ⟨c2, by rcases c1.2 with hc | hc; exact .inl (by omega); exact .inr hc⟩]
      exact Int.le_refl _
    · rw [if_neg (fun hc => c2 hc.1)]
      omega
  · rw [if_neg c1]
    split <;> omega
theorem last_mono {x x' r m lo hi : Int} (h : x ≤ x') : lastOf x r m lo hi ≤ lastOf x' r m lo hi := by unfold lastOf mn mx; repeat' split <;> omega

theorem decide_any (k : Nat) (w l r b st sts sh shs d c lo hi g : Int) (nm : ByteArray) (i : Int) (F : Fine c lo hi g) (hl : 0 ≤ l ∧ l ≤ 6) (hr : 0 ≤ r ∧ r ≤ 1000000)
    (h1 : 0 ≤ st ∧ st ≤ 1000000000) (h2 : 0 ≤ sts ∧ sts ≤ 10000000) (h3 : 0 ≤ sh ∧ sh ≤ 1000000000) (h4 : 0 ≤ shs ∧ shs ≤ 10000000) :
    damperlaw10_decide.f (k + 3) w l r b st sts sh shs d nm i c lo hi g = some (decW w l lo hi g r b (need st sts c) (need sh shs c) d, panicOf l (need sh shs c) (mx 1 r)) := by
  unfold damperlaw10_decide.f
  rw [decide_some k w l nm i c lo hi g r b st sts sh shs d hl ⟨F.c1, F.c8⟩ hr h1 h2 h3 h4]
  rfl

theorem ScaleMore : damperlaw10_ScaleMore.Pure := by
  intro a0 a1 a2 a3 a4 a5 a6 a7 a8 nm i c lo hi g more _ _ _ _ _ _ _ _ _ _ _ _ _ _ _ _
  obtain ⟨b0, b1, b2, b3, b4, b5, b6, b7, b8, hG, G⟩ := given_some a0 a1 a2 a3 a4 a5 a6 a7 a8
  obtain ⟨nm', i', c', lo', hi', g', hC, F⟩ := config_some nm i c lo hi g
  have := G.want0; have := G.want10; have := G.left0; have := G.left6; have := G.ready0; have := G.ready13; have := G.busy0; have := G.busy2; have := G.st0; have := G.st1; have := G.sts0; have := G.sts6; have := G.sh0; have := G.sh1; have := G.shs0; have := G.shs2; have := G.idle0
  have := F.c1; have := F.c8; have := F.lo0; have := F.lohi; have := F.hi1; have := F.hi10; have := F.g0; have := F.g30
  have m1 := mod_range more 50 (by omega)
  generalize hy : wrap64 (Int.tdiv more 50) = y
  generalize hz : wrap64 (Int.tdiv more 2500) = z
  have m2 := mod_range y 50 (by omega)
  have m3 := mod_range z 3 (by omega)
  refine ⟨1 + 3, ?_⟩
  unfold damperlaw10_ScaleMore.f
  rw [known_some 1]
  simp only [Option.bind_some, ↓reduceIte]
  rw [hG]
  simp only [Option.bind_some]
  rw [hC]
  simp only [Option.bind_some]
  rw [hy, hz, within10 more 50 (by omega) (by omega), within10 y 50 (by omega) (by omega), within10 z 3 (by omega) (by omega)]
  simp only [Option.bind_some]
  generalize more % 50 = p at m1
  generalize y % 50 = q at m2
  generalize z % 3 = s at m3
  rw [wrap_id (a := b3 + s) (by omega) (by omega), wrap_id (a := b4 + p) (by omega) (by omega), wrap_id (a := b6 + q) (by omega) (by omega)]
  rw [decide_any 1 b0 b1 b2 b3 b4 b5 b6 b7 b8 c' lo' hi' g' nm' i' F (by omega) (by omega) (by omega) (by omega) (by omega) (by omega),
    decide_any 1 b0 b1 b2 (b3 + s) (b4 + p) b5 (b6 + q) b7 b8 c' lo' hi' g' nm' i' F (by omega) (by omega) (by omega) (by omega) (by omega) (by omega)]
  simp only [Option.bind_some]
  have ha := need_mono b4 (b4 + p) b5 c' (by omega) (by omega)
  have hb := need_mono b6 (b6 + q) b7 c' (by omega) (by omega)
  have hn := need_range b4 b5 c' (by omega) (by omega) (by omega) (by omega) (by omega) (by omega)
  have hp := panic_mono (l := b1) (m := mx 1 b2) (by omega) hb
  have hw : decW b0 b1 lo' hi' g' b2 (b3 + s) (need (b4 + p) b5 c') (need (b6 + q) b7 c') b8 ≥ decW b0 b1 lo' hi' g' b2 b3 (need b4 b5 c') (need b6 b7 c') b8 :=
    last_mono (one_mono (want_nonneg (by omega) hn.1) (want_mono hp ha hb) (by omega))
  rw [if_pos hw, decide_eq_true (show panicOf b1 (need (b6 + q) b7 c') (mx 1 b2) ≥ panicOf b1 (need b6 b7 c') (mx 1 b2) from hp)]

end Go.Proofs.Ytlikdmeickbigaa.Pure
