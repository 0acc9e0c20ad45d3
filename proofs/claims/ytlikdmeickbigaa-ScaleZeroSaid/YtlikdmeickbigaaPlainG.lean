/- What a scaler is given, of raw numbers, and what the program decides of it. Conditions: the bounds of each lemma. -/
import Derived.Test.YtlikdmeickbigaaMax12
import Derived.Test.YtlikdmeickbigaaMax9
import Derived.Test.YtlikdmeickbigaaPlain
namespace Go.Proofs.Ytlikdmeickbigaa.Plain
open Go.RowKit Go.Proofs.Ytlikdmeickbigaa.Ma Go.Proofs.YtlikdmeickbigaaW.PrintWords Go.Proofs.YtlikdmeickbigaaW.PrintLast Go.Proofs.YtlikdmeickbigaaW.PrintMore

/-- What a scaler is given. -/
structure Given (want left ready busy st sts sh shs idle : Int) : Prop where
  want0 : 0 ≤ want
  want10 : want ≤ 10
  left0 : 0 ≤ left
  left6 : left ≤ 6
  ready0 : 0 ≤ ready
  ready13 : ready ≤ 13
  busy0 : 0 ≤ busy
  busy2 : busy ≤ 2
  st0 : 0 ≤ st
  st1 : st ≤ 100000
  sts0 : 0 ≤ sts
  sts6 : sts ≤ 6
  sh0 : 0 ≤ sh
  sh1 : sh ≤ 100000
  shs0 : 0 ≤ shs
  shs2 : shs ≤ 2
  idle0 : 0 ≤ idle

theorem mul33 {x y : Int} (hx : 0 ≤ x ∧ x < 4) (hy : 0 ≤ y ∧ y < 4) : 0 ≤ x * y ∧ x * y ≤ 9 := by
  have h1 : 0 ≤ x * y := Int.mul_nonneg hx.1 hy.1
  have h2 : x * y ≤ 3 * y := Int.mul_le_mul_of_nonneg_right (by omega) hy.1
  omega

theorem given_some (a0 a1 a2 a3 a4 a5 a6 a7 a8 : Int) :
    ∃ b0 b1 b2 b3 b4 b5 b6 b7 b8, damperlaw10_Given_Make.f a0 a1 a2 a3 a4 a5 a6 a7 a8 = some (b0, b1, b2, b3, b4, b5, b6, b7, b8) ∧ Given b0 b1 b2 b3 b4 b5 b6 b7 b8 := by
  generalize hp : wrap64 (Int.tdiv a3 7) = p
  generalize hq : wrap64 (Int.tdiv a3 28) = q
  have hx := mod_range p 4 (by omega)
  have hy := mod_range q 4 (by omega)
  have hxy := mul33 hx hy
  have e1 := mod_range a4 (60 * (1 + p % 4 * (q % 4) * 30)) (by omega)
  have e2 := mod_range a6 (40 * (1 + p % 4 * (q % 4) * 30)) (by omega)
  refine ⟨a0 % 11, a1 % 7, a2 % 14, a3 % 3, a4 % (60 * (1 + p % 4 * (q % 4) * 30)), a5 % 7, a6 % (40 * (1 + p % 4 * (q % 4) * 30)), a7 % 3, a8 % 40, ?_, ?_⟩
  · unfold damperlaw10_Given_Make.f
    rw [hp, hq, within10 p 4 (by omega) (by omega), within10 q 4 (by omega) (by omega), within10 a0 11 (by omega) (by omega), within10 a1 7 (by omega) (by omega), within10 a2 14 (by omega) (by omega), within10 a3 3 (by omega) (by omega)]
    simp only [Option.bind_some]
    rw [wrap_id (a := p % 4 * (q % 4)) (by omega) (by omega), wrap_id (a := p % 4 * (q % 4) * 30) (by omega) (by omega), wrap_id (a := 1 + p % 4 * (q % 4) * 30) (by omega) (by omega),
      wrap_id (a := 60 * (1 + p % 4 * (q % 4) * 30)) (by omega) (by omega), wrap_id (a := 40 * (1 + p % 4 * (q % 4) * 30)) (by omega) (by omega)]
    rw [within10 a4 _ (by omega) (by omega), within10 a5 7 (by omega) (by omega), within10 a6 _ (by omega) (by omega), within10 a7 3 (by omega) (by omega), within10 a8 40 (by omega) (by omega)]
    rfl
  · have f0 := mod_range a0 11 (by omega)
    have f1 := mod_range a1 7 (by omega)
    have f2 := mod_range a2 14 (by omega)
    have f3 := mod_range a3 3 (by omega)
    have f5 := mod_range a5 7 (by omega)
    have f7 := mod_range a7 3 (by omega)
    have f8 := mod_range a8 40 (by omega)
    constructor <;> omega

/-- The program's Decide of what a scaler is given. -/
theorem law_decide (k : Nat) {w l r b st sts sh shs id c lo hi g : Int} (nm : ByteArray) (i : Int) (hG : Given w l r b st sts sh shs id) (hF : Fine c lo hi g) :
    damperlaw10_decide.f (k + 3) w l r b st sts sh shs id nm i c lo hi g = some (decW w l lo hi g r b (need st sts c) (need sh shs c) id, panicOf l (need sh shs c) (mx 1 r)) := by
  have := hG.want0; have := hG.want10; have := hG.left0; have := hG.left6; have := hG.ready0; have := hG.ready13; have := hG.st0; have := hG.st1; have := hG.sts0; have := hG.sts6; have := hG.sh0; have := hG.sh1; have := hG.shs0; have := hG.shs2
  unfold damperlaw10_decide.f
  rw [decide_some k w l nm i c lo hi g r b st sts sh shs id ⟨by omega, by omega⟩ ⟨hF.c1, hF.c8⟩ ⟨by omega, by omega⟩ ⟨by omega, by omega⟩ ⟨by omega, by omega⟩ ⟨by omega, by omega⟩ ⟨by omega, by omega⟩]
  rfl
end Go.Proofs.Ytlikdmeickbigaa.Plain
