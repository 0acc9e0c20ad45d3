/- None is asked for only where the least is none, none is busy, no more than one is ready, and it was none, or nothing was there as long as it must.
   Conditions: none beyond the row's own. -/
import Derived.Test.YtlikdmeickbigaaMax17
import Derived.Test.YtlikdmeickbigaaPlainG
namespace Go.Proofs.Ytlikdmeickbigaa.Pure
open Go.RowKit Go.Proofs.Ytlikdmeickbigaa.Ma Go.Proofs.Ytlikdmeickbigaa.Plain Go.Proofs.YtlikdmeickbigaaW.PrintWords Go.Proofs.YtlikdmeickbigaaW.PrintLast Go.Proofs.YtlikdmeickbigaaW.PrintMore
set_option linter.unusedVariables false

theorem zero_of (w want busy idle g r m lo hi : Int) (hm : 1 ≤ m) (hr : 0 ≤ r) (hl : 0 ≤ lo) (hh : 1 ≤ hi) (h : lastOf (oneOf w want busy idle g) r m lo hi = 0) (hw : 0 ≤ w) : lo = 0 ∧ r ≤ 1 ∧ ¬ busy > 0 ∧ (want > 0 → idle ≥ g) := by
  have h1 : lo ≤ 0 := by unfold lastOf mn mx at h; repeat' split at h <;> omega
  have h2 : r / 2 ≤ 0 := by unfold lastOf mn mx at h; repeat' split at h <;> omega
  have h3 : oneOf w want busy idle g ≤ 0 := by
    generalize oneOf w want busy idle g = x at h
    unfold lastOf mn mx at h; repeat' split at h <;> omega
  unfold oneOf at h3
  split at h3
  · omega
  · rename_i hc
    have hw0 : w = 0 := by omega
    refine ⟨by omega, by omega, fun hb => hc ⟨hw0, .inl hb⟩, fun hp => ?_⟩
    have : ¬ idle < g := fun hlt => hc ⟨hw0, .inr ⟨hp, hlt⟩⟩
    omega

theorem want_nonneg {want l a b : Int} (h0 : 0 ≤ want) (h1 : 0 ≤ a) : 0 ≤ wantOf want l a b := by unfold wantOf mx; repeat' split <;> omega

theorem zero_j0 (k : Nat) {w l r b st sts sh shs id c lo hi g : Int} (nm : ByteArray) (i : Int) (G : Given w l r b st sts sh shs id) (F : Fine c lo hi g) :
    damperlaw10_ScaleZero.j0 (k + 4) w l r b st sts sh shs id nm i c lo hi g = some true := by
  have := G.want0; have := G.want10; have := G.left0; have := G.left6; have := G.ready0; have := G.ready13; have := G.busy0; have := G.busy2; have := G.st0; have := G.st1; have := G.sts0; have := G.sts6; have := G.sh0; have := G.sh1; have := G.shs0; have := G.shs2; have := G.idle0
  have := F.c1; have := F.c8; have := F.lo0; have := F.lohi; have := F.hi1; have := F.hi10; have := F.g0; have := F.g30
  simp only [damperlaw10_ScaleZero.j0]
  rw [law_decide k nm i G F]
  simp only [Option.bind_some]
  have hn := need_range st sts c (by omega) (by omega) (by omega) (by omega) (by omega) (by omega)
  unfold decW
  by_cases h0 : lastOf (oneOf (wantOf w (panicOf l (need sh shs c) (mx 1 r)) (need st sts c) (need sh shs c)) w b id g) r (mx 1 r) lo hi = 0
  · have hm : 1 ≤ mx 1 r := by unfold mx; split <;> omega
    obtain ⟨h1, h2, h3, h4⟩ := zero_of _ w b id g r (mx 1 r) lo hi hm (by omega) (by omega) (by omega) h0 (want_nonneg (by omega) hn.1)
    rw [if_pos h0, if_pos h1, if_pos (by omega), if_pos h2]
    by_cases c1 : w = 0
    · rw [if_pos c1]
    · rw [if_neg c1, decide_eq_true (h4 (by omega))]
  · rw [if_neg h0]

theorem ScaleZero : damperlaw10_ScaleZero.Pure := by
  intro a0 a1 a2 a3 a4 a5 a6 a7 a8 nm i c lo hi g _ _ _ _ _ _ _ _ _ _ _ _ _ _ _
  obtain ⟨b0, b1, b2, b3, b4, b5, b6, b7, b8, hG, G⟩ := given_some a0 a1 a2 a3 a4 a5 a6 a7 a8
  obtain ⟨nm', i', c', lo', hi', g', hC, F⟩ := config_some nm i c lo hi g
  refine ⟨1 + 3, ?_⟩
  unfold damperlaw10_ScaleZero.f
  rw [known_some 1]
  simp only [Option.bind_some, ↓reduceIte]
  rw [hG]
  simp only [Option.bind_some]
  rw [hC]
  simp only [Option.bind_some]
  rw [within10 a1 2 (by omega) (by omega)]
  simp only [Option.bind_some]
  rw [show (1 + 3 : Nat) = 0 + 4 from rfl]
  split
  · refine zero_j0 0 nm' i' ?_ ?_
    have := G.want0; have := G.want10; have := G.left0; have := G.left6; have := G.ready0; have := G.ready13; have := G.busy0; have := G.busy2; have := G.st0; have := G.st1; have := G.sts0; have := G.sts6; have := G.sh0; have := G.sh1; have := G.shs0; have := G.shs2; have := G.idle0
    · constructor <;> omega
    have := F.c1; have := F.c8; have := F.lo0; have := F.lohi; have := F.hi1; have := F.hi10; have := F.g0; have := F.g30
    constructor <;> omega
  · exact zero_j0 0 nm' i' G F

end Go.Proofs.Ytlikdmeickbigaa.Pure
