-- Written by a program of this session (wip/tools/myprint.py), in the form of the kit's print. Not trusted: Lean checks it.
import Derived.Test.YtlikdmeickbigaaMax0
import Derived.Test.YtlikdmeickbigaaMax13
namespace Go.Proofs.Ytlikdmeickbigaa.Ma
open Go.RowKit Go.Proofs.YtlikdmeickbigaaW.PrintWords Go.Proofs.YtlikdmeickbigaaW.PrintLast Go.Proofs.YtlikdmeickbigaaW.PrintMore
attribute [local go_sem] max2_int min2_int max_two min_two max_three min_three max_four min_four   -- for this text's walks alone
set_option linter.unusedVariables false
set_option linter.unusedSimpArgs false

/-! ### damperref10_Decide: function 17 -/
mutual
def damperref10_Decide.j0 : Nat → Int → Int → Int → Int → Int → Int → Int → Int → ByteArray → Int → Int → Int → Int → Int → Int → Int → Option (Int × Int)
  | 0, _, _, _, _, _, _, _, _, _, _, _, _, _, _, _, _ => none
  | k + 1, x2, x3, x8, x19, x20, x21, x155000, x155001, x156000, x156001, x156002, x156003, x156004, x156005, x160000, x160001 => if x160001 > 0 then (damperref10_Decide.j1 k x2 x3 x8 x21 x155000 x155001 x156000 x156001 x156002 x156003 x156004 x156005 (mx (mx x19 x20) x155000) x160001) else (damperref10_Decide.j1 k x2 x3 x8 x21 x155000 x155001 x156000 x156001 x156002 x156003 x156004 x156005 x160000 x160001)
def damperref10_Decide.j1 : Nat → Int → Int → Int → Int → Int → Int → ByteArray → Int → Int → Int → Int → Int → Int → Int → Option (Int × Int)
  | 0, _, _, _, _, _, _, _, _, _, _, _, _, _, _ => none
  | k + 1, x2, x3, x8, x21, x155000, x155001, x156000, x156001, x156002, x156003, x156004, x156005, x160000, x160001 => if x160000 = 0 then (if x3 > 0 then (damperref10_Decide.j2 k x2 x21 true x156000 x156001 x156002 x156003 x156004 x156005 x160000 x160001) else (if x155000 > 0 then (damperref10_Decide.j2 k x2 x21 (decide (x8 < x156005)) x156000 x156001 x156002 x156003 x156004 x156005 x160000 x160001) else (damperref10_Decide.j2 k x2 x21 false x156000 x156001 x156002 x156003 x156004 x156005 x160000 x160001))) else (damperref10_Decide.j2 k x2 x21 false x156000 x156001 x156002 x156003 x156004 x156005 x160000 x160001)
def damperref10_Decide.j2 : Nat → Int → Int → Bool → ByteArray → Int → Int → Int → Int → Int → Int → Int → Option (Int × Int)
  | 0, _, _, _, _, _, _, _, _, _, _, _ => none
  | k + 1, x2, x21, x72, x156000, x156001, x156002, x156003, x156004, x156005, x160000, x160001 => if x72 = true then (damperref10_Decide.j3 k x2 x156000 x156001 x156002 x156003 x156004 x156005 (mn 1 (wrap64 (4 * x21))) x160001) else (damperref10_Decide.j6 k x2 x156000 x156001 x156002 x156003 x156004 x156005 (mn x160000 (wrap64 (4 * x21))) x160001)
def damperref10_Decide.j3 : Nat → Int → ByteArray → Int → Int → Int → Int → Int → Int → Int → Option (Int × Int)
  | 0, _, _, _, _, _, _, _, _, _ => none
  | k + 1, x2, x156000, x156001, x156002, x156003, x156004, x156005, x160000, x160001 => damperref10_Decide.j4 k x156000 x156001 x156002 x156003 x156004 x156005 (mx x160000 (wrap64 (Int.tdiv x2 2))) x160001
def damperref10_Decide.j4 : Nat → ByteArray → Int → Int → Int → Int → Int → Int → Int → Option (Int × Int)
  | 0, _, _, _, _, _, _, _, _ => none
  | k + 1, x156000, x156001, x156002, x156003, x156004, x156005, x160000, x160001 => damperref10_Decide.j5 k x156000 x156001 x156002 x156003 x156004 x156005 (mx x160000 x156003) x160001
def damperref10_Decide.j5 : Nat → ByteArray → Int → Int → Int → Int → Int → Int → Int → Option (Int × Int)
  | 0, _, _, _, _, _, _, _, _ => none
  | k + 1, x156000, x156001, x156002, x156003, x156004, x156005, x160000, x160001 => some (mn x160000 x156004, x160001)
def damperref10_Decide.j6 : Nat → Int → ByteArray → Int → Int → Int → Int → Int → Int → Int → Option (Int × Int)
  | 0, _, _, _, _, _, _, _, _, _ => none
  | k + 1, x2, x156000, x156001, x156002, x156003, x156004, x156005, x160000, x160001 => damperref10_Decide.j7 k x156000 x156001 x156002 x156003 x156004 x156005 (mx x160000 (wrap64 (Int.tdiv x2 2))) x160001
def damperref10_Decide.j7 : Nat → ByteArray → Int → Int → Int → Int → Int → Int → Int → Option (Int × Int)
  | 0, _, _, _, _, _, _, _, _ => none
  | k + 1, x156000, x156001, x156002, x156003, x156004, x156005, x160000, x160001 => damperref10_Decide.j8 k x156000 x156001 x156002 x156003 x156004 x156005 (mx x160000 x156003) x160001
def damperref10_Decide.j8 : Nat → ByteArray → Int → Int → Int → Int → Int → Int → Int → Option (Int × Int)
  | 0, _, _, _, _, _, _, _, _ => none
  | k + 1, x156000, x156001, x156002, x156003, x156004, x156005, x160000, x160001 => some (mn x160000 x156004, x160001)
end
def damperref10_Decide.f (k : Nat) (a0_0 : Int) (a0_1 : Int) (a1_0 : ByteArray) (a1_1 : Int) (a1_2 : Int) (a1_3 : Int) (a1_4 : Int) (a1_5 : Int) (a2 : Int) (a3 : Int) (a4 : Int) (a5 : Int) (a6 : Int) (a7 : Int) (a8 : Int) : Option (Int × Int) := (damperref10_Need.f a4 a5 a1_2).bind fun t157 => ((damperref10_Need.f a6 a7 a1_2).bind fun t158 => (if t158 ≥ (wrap64 (2 * (mx 1 a2))) then (damperref10_Decide.j0 k a2 a3 a8 t157 t158 (mx 1 a2) a0_0 a0_1 a1_0 a1_1 a1_2 a1_3 a1_4 a1_5 t157 6) else (damperref10_Decide.j0 k a2 a3 a8 t157 t158 (mx 1 a2) a0_0 a0_1 a1_0 a1_1 a1_2 a1_3 a1_4 a1_5 t157 (mx 0 (wrap64 (a0_1 - 1))))))
theorem damperref10_Decide.mono_l : ∀ k, (∀ y0 y1 y2 y3 y4 y5 y6 y7 y8 y9 y10 y11 y12 y13 y14 y15, LeO (damperref10_Decide.j0 k y0 y1 y2 y3 y4 y5 y6 y7 y8 y9 y10 y11 y12 y13 y14 y15) (damperref10_Decide.j0 (k + 1) y0 y1 y2 y3 y4 y5 y6 y7 y8 y9 y10 y11 y12 y13 y14 y15)) ∧ (∀ y0 y1 y2 y3 y4 y5 y6 y7 y8 y9 y10 y11 y12 y13, LeO (damperref10_Decide.j1 k y0 y1 y2 y3 y4 y5 y6 y7 y8 y9 y10 y11 y12 y13) (damperref10_Decide.j1 (k + 1) y0 y1 y2 y3 y4 y5 y6 y7 y8 y9 y10 y11 y12 y13)) ∧ (∀ y0 y1 y2 y3 y4 y5 y6 y7 y8 y9 y10, LeO (damperref10_Decide.j2 k y0 y1 y2 y3 y4 y5 y6 y7 y8 y9 y10) (damperref10_Decide.j2 (k + 1) y0 y1 y2 y3 y4 y5 y6 y7 y8 y9 y10)) ∧ (∀ y0 y1 y2 y3 y4 y5 y6 y7 y8, LeO (damperref10_Decide.j3 k y0 y1 y2 y3 y4 y5 y6 y7 y8) (damperref10_Decide.j3 (k + 1) y0 y1 y2 y3 y4 y5 y6 y7 y8)) ∧ (∀ y0 y1 y2 y3 y4 y5 y6 y7, LeO (damperref10_Decide.j4 k y0 y1 y2 y3 y4 y5 y6 y7) (damperref10_Decide.j4 (k + 1) y0 y1 y2 y3 y4 y5 y6 y7)) ∧ (∀ y0 y1 y2 y3 y4 y5 y6 y7, LeO (damperref10_Decide.j5 k y0 y1 y2 y3 y4 y5 y6 y7) (damperref10_Decide.j5 (k + 1) y0 y1 y2 y3 y4 y5 y6 y7)) ∧ (∀ y0 y1 y2 y3 y4 y5 y6 y7 y8, LeO (damperref10_Decide.j6 k y0 y1 y2 y3 y4 y5 y6 y7 y8) (damperref10_Decide.j6 (k + 1) y0 y1 y2 y3 y4 y5 y6 y7 y8)) ∧ (∀ y0 y1 y2 y3 y4 y5 y6 y7, LeO (damperref10_Decide.j7 k y0 y1 y2 y3 y4 y5 y6 y7) (damperref10_Decide.j7 (k + 1) y0 y1 y2 y3 y4 y5 y6 y7)) ∧ (∀ y0 y1 y2 y3 y4 y5 y6 y7, LeO (damperref10_Decide.j8 k y0 y1 y2 y3 y4 y5 y6 y7) (damperref10_Decide.j8 (k + 1) y0 y1 y2 y3 y4 y5 y6 y7))
  | 0 => ⟨fun _ _ _ _ _ _ _ _ _ _ _ _ _ _ _ _ r h => by simp [damperref10_Decide.j0] at h, fun _ _ _ _ _ _ _ _ _ _ _ _ _ _ r h => by simp [damperref10_Decide.j1] at h, fun _ _ _ _ _ _ _ _ _ _ _ r h => by simp [damperref10_Decide.j2] at h, fun _ _ _ _ _ _ _ _ _ r h => by simp [damperref10_Decide.j3] at h, fun _ _ _ _ _ _ _ _ r h => by simp [damperref10_Decide.j4] at h, fun _ _ _ _ _ _ _ _ r h => by simp [damperref10_Decide.j5] at h, fun _ _ _ _ _ _ _ _ _ r h => by simp [damperref10_Decide.j6] at h, fun _ _ _ _ _ _ _ _ r h => by simp [damperref10_Decide.j7] at h, fun _ _ _ _ _ _ _ _ r h => by simp [damperref10_Decide.j8] at h⟩
  | k + 1 => by
    obtain ⟨ih0, ih1, ih2, ih3, ih4, ih5, ih6, ih7, ih8⟩ := damperref10_Decide.mono_l k
    refine ⟨?_, ?_, ?_, ?_, ?_, ?_, ?_, ?_, ?_⟩
    · intro y0 y1 y2 y3 y4 y5 y6 y7 y8 y9 y10 y11 y12 y13 y14 y15
      unfold damperref10_Decide.j0
      repeat' first
      | (with_reducible exact ih0 _ _ _ _ _ _ _ _ _ _ _ _ _ _ _ _)
      | (with_reducible exact ih1 _ _ _ _ _ _ _ _ _ _ _ _ _ _)
      | (with_reducible exact ih2 _ _ _ _ _ _ _ _ _ _ _)
      | (with_reducible exact ih3 _ _ _ _ _ _ _ _ _)
      | (with_reducible exact ih4 _ _ _ _ _ _ _ _)
      | (with_reducible exact ih5 _ _ _ _ _ _ _ _)
      | (with_reducible exact ih6 _ _ _ _ _ _ _ _ _)
      | (with_reducible exact ih7 _ _ _ _ _ _ _ _)
      | (with_reducible exact ih8 _ _ _ _ _ _ _ _)
      | (with_reducible exact LeO.refl _)
      | (with_reducible exact LeO.none _)
      | (with_reducible refine LeO.ite ?_ ?_)
      | (with_reducible refine LeO.bind ?_ (fun _ => ?_))
      | exact ih0 _ _ _ _ _ _ _ _ _ _ _ _ _ _ _ _
      | exact ih1 _ _ _ _ _ _ _ _ _ _ _ _ _ _
      | exact ih2 _ _ _ _ _ _ _ _ _ _ _
      | exact ih3 _ _ _ _ _ _ _ _ _
      | exact ih4 _ _ _ _ _ _ _ _
      | exact ih5 _ _ _ _ _ _ _ _
      | exact ih6 _ _ _ _ _ _ _ _ _
      | exact ih7 _ _ _ _ _ _ _ _
      | exact ih8 _ _ _ _ _ _ _ _
      | exact LeO.none _
      | refine LeO.ite ?_ ?_
      | refine LeO.bind ?_ (fun _ => ?_)
    · intro y0 y1 y2 y3 y4 y5 y6 y7 y8 y9 y10 y11 y12 y13
      unfold damperref10_Decide.j1
      repeat' first
      | (with_reducible exact ih0 _ _ _ _ _ _ _ _ _ _ _ _ _ _ _ _)
      | (with_reducible exact ih1 _ _ _ _ _ _ _ _ _ _ _ _ _ _)
      | (with_reducible exact ih2 _ _ _ _ _ _ _ _ _ _ _)
      | (with_reducible exact ih3 _ _ _ _ _ _ _ _ _)
      | (with_reducible exact ih4 _ _ _ _ _ _ _ _)
      | (with_reducible exact ih5 _ _ _ _ _ _ _ _)
      | (with_reducible exact ih6 _ _ _ _ _ _ _ _ _)
      | (with_reducible exact ih7 _ _ _ _ _ _ _ _)
      | (with_reducible exact ih8 _ _ _ _ _ _ _ _)
      | (with_reducible exact LeO.refl _)
      | (with_reducible exact LeO.none _)
      | (with_reducible refine LeO.ite ?_ ?_)
      | (with_reducible refine LeO.bind ?_ (fun _ => ?_))
      | exact ih0 _ _ _ _ _ _ _ _ _ _ _ _ _ _ _ _
      | exact ih1 _ _ _ _ _ _ _ _ _ _ _ _ _ _
      | exact ih2 _ _ _ _ _ _ _ _ _ _ _
      | exact ih3 _ _ _ _ _ _ _ _ _
      | exact ih4 _ _ _ _ _ _ _ _
      | exact ih5 _ _ _ _ _ _ _ _
      | exact ih6 _ _ _ _ _ _ _ _ _
      | exact ih7 _ _ _ _ _ _ _ _
      | exact ih8 _ _ _ _ _ _ _ _
      | exact LeO.none _
      | refine LeO.ite ?_ ?_
      | refine LeO.bind ?_ (fun _ => ?_)
    · intro y0 y1 y2 y3 y4 y5 y6 y7 y8 y9 y10
      unfold damperref10_Decide.j2
      repeat' first
      | (with_reducible exact ih0 _ _ _ _ _ _ _ _ _ _ _ _ _ _ _ _)
      | (with_reducible exact ih1 _ _ _ _ _ _ _ _ _ _ _ _ _ _)
      | (with_reducible exact ih2 _ _ _ _ _ _ _ _ _ _ _)
      | (with_reducible exact ih3 _ _ _ _ _ _ _ _ _)
      | (with_reducible exact ih4 _ _ _ _ _ _ _ _)
      | (with_reducible exact ih5 _ _ _ _ _ _ _ _)
      | (with_reducible exact ih6 _ _ _ _ _ _ _ _ _)
      | (with_reducible exact ih7 _ _ _ _ _ _ _ _)
      | (with_reducible exact ih8 _ _ _ _ _ _ _ _)
      | (with_reducible exact LeO.refl _)
      | (with_reducible exact LeO.none _)
      | (with_reducible refine LeO.ite ?_ ?_)
      | (with_reducible refine LeO.bind ?_ (fun _ => ?_))
      | exact ih0 _ _ _ _ _ _ _ _ _ _ _ _ _ _ _ _
      | exact ih1 _ _ _ _ _ _ _ _ _ _ _ _ _ _
      | exact ih2 _ _ _ _ _ _ _ _ _ _ _
      | exact ih3 _ _ _ _ _ _ _ _ _
      | exact ih4 _ _ _ _ _ _ _ _
      | exact ih5 _ _ _ _ _ _ _ _
      | exact ih6 _ _ _ _ _ _ _ _ _
      | exact ih7 _ _ _ _ _ _ _ _
      | exact ih8 _ _ _ _ _ _ _ _
      | exact LeO.none _
      | refine LeO.ite ?_ ?_
      | refine LeO.bind ?_ (fun _ => ?_)
    · intro y0 y1 y2 y3 y4 y5 y6 y7 y8
      unfold damperref10_Decide.j3
      repeat' first
      | (with_reducible exact ih0 _ _ _ _ _ _ _ _ _ _ _ _ _ _ _ _)
      | (with_reducible exact ih1 _ _ _ _ _ _ _ _ _ _ _ _ _ _)
      | (with_reducible exact ih2 _ _ _ _ _ _ _ _ _ _ _)
      | (with_reducible exact ih3 _ _ _ _ _ _ _ _ _)
      | (with_reducible exact ih4 _ _ _ _ _ _ _ _)
      | (with_reducible exact ih5 _ _ _ _ _ _ _ _)
      | (with_reducible exact ih6 _ _ _ _ _ _ _ _ _)
      | (with_reducible exact ih7 _ _ _ _ _ _ _ _)
      | (with_reducible exact ih8 _ _ _ _ _ _ _ _)
      | (with_reducible exact LeO.refl _)
      | (with_reducible exact LeO.none _)
      | (with_reducible refine LeO.ite ?_ ?_)
      | (with_reducible refine LeO.bind ?_ (fun _ => ?_))
      | exact ih0 _ _ _ _ _ _ _ _ _ _ _ _ _ _ _ _
      | exact ih1 _ _ _ _ _ _ _ _ _ _ _ _ _ _
      | exact ih2 _ _ _ _ _ _ _ _ _ _ _
      | exact ih3 _ _ _ _ _ _ _ _ _
      | exact ih4 _ _ _ _ _ _ _ _
      | exact ih5 _ _ _ _ _ _ _ _
      | exact ih6 _ _ _ _ _ _ _ _ _
      | exact ih7 _ _ _ _ _ _ _ _
      | exact ih8 _ _ _ _ _ _ _ _
      | exact LeO.none _
      | refine LeO.ite ?_ ?_
      | refine LeO.bind ?_ (fun _ => ?_)
    · intro y0 y1 y2 y3 y4 y5 y6 y7
      unfold damperref10_Decide.j4
      repeat' first
      | (with_reducible exact ih0 _ _ _ _ _ _ _ _ _ _ _ _ _ _ _ _)
      | (with_reducible exact ih1 _ _ _ _ _ _ _ _ _ _ _ _ _ _)
      | (with_reducible exact ih2 _ _ _ _ _ _ _ _ _ _ _)
      | (with_reducible exact ih3 _ _ _ _ _ _ _ _ _)
      | (with_reducible exact ih4 _ _ _ _ _ _ _ _)
      | (with_reducible exact ih5 _ _ _ _ _ _ _ _)
      | (with_reducible exact ih6 _ _ _ _ _ _ _ _ _)
      | (with_reducible exact ih7 _ _ _ _ _ _ _ _)
      | (with_reducible exact ih8 _ _ _ _ _ _ _ _)
      | (with_reducible exact LeO.refl _)
      | (with_reducible exact LeO.none _)
      | (with_reducible refine LeO.ite ?_ ?_)
      | (with_reducible refine LeO.bind ?_ (fun _ => ?_))
      | exact ih0 _ _ _ _ _ _ _ _ _ _ _ _ _ _ _ _
      | exact ih1 _ _ _ _ _ _ _ _ _ _ _ _ _ _
      | exact ih2 _ _ _ _ _ _ _ _ _ _ _
      | exact ih3 _ _ _ _ _ _ _ _ _
      | exact ih4 _ _ _ _ _ _ _ _
      | exact ih5 _ _ _ _ _ _ _ _
      | exact ih6 _ _ _ _ _ _ _ _ _
      | exact ih7 _ _ _ _ _ _ _ _
      | exact ih8 _ _ _ _ _ _ _ _
      | exact LeO.none _
      | refine LeO.ite ?_ ?_
      | refine LeO.bind ?_ (fun _ => ?_)
    · intro y0 y1 y2 y3 y4 y5 y6 y7
      unfold damperref10_Decide.j5
      repeat' first
      | (with_reducible exact ih0 _ _ _ _ _ _ _ _ _ _ _ _ _ _ _ _)
      | (with_reducible exact ih1 _ _ _ _ _ _ _ _ _ _ _ _ _ _)
      | (with_reducible exact ih2 _ _ _ _ _ _ _ _ _ _ _)
      | (with_reducible exact ih3 _ _ _ _ _ _ _ _ _)
      | (with_reducible exact ih4 _ _ _ _ _ _ _ _)
      | (with_reducible exact ih5 _ _ _ _ _ _ _ _)
      | (with_reducible exact ih6 _ _ _ _ _ _ _ _ _)
      | (with_reducible exact ih7 _ _ _ _ _ _ _ _)
      | (with_reducible exact ih8 _ _ _ _ _ _ _ _)
      | (with_reducible exact LeO.refl _)
      | (with_reducible exact LeO.none _)
      | (with_reducible refine LeO.ite ?_ ?_)
      | (with_reducible refine LeO.bind ?_ (fun _ => ?_))
      | exact ih0 _ _ _ _ _ _ _ _ _ _ _ _ _ _ _ _
      | exact ih1 _ _ _ _ _ _ _ _ _ _ _ _ _ _
      | exact ih2 _ _ _ _ _ _ _ _ _ _ _
      | exact ih3 _ _ _ _ _ _ _ _ _
      | exact ih4 _ _ _ _ _ _ _ _
      | exact ih5 _ _ _ _ _ _ _ _
      | exact ih6 _ _ _ _ _ _ _ _ _
      | exact ih7 _ _ _ _ _ _ _ _
      | exact ih8 _ _ _ _ _ _ _ _
      | exact LeO.none _
      | refine LeO.ite ?_ ?_
      | refine LeO.bind ?_ (fun _ => ?_)
    · intro y0 y1 y2 y3 y4 y5 y6 y7 y8
      unfold damperref10_Decide.j6
      repeat' first
      | (with_reducible exact ih0 _ _ _ _ _ _ _ _ _ _ _ _ _ _ _ _)
      | (with_reducible exact ih1 _ _ _ _ _ _ _ _ _ _ _ _ _ _)
      | (with_reducible exact ih2 _ _ _ _ _ _ _ _ _ _ _)
      | (with_reducible exact ih3 _ _ _ _ _ _ _ _ _)
      | (with_reducible exact ih4 _ _ _ _ _ _ _ _)
      | (with_reducible exact ih5 _ _ _ _ _ _ _ _)
      | (with_reducible exact ih6 _ _ _ _ _ _ _ _ _)
      | (with_reducible exact ih7 _ _ _ _ _ _ _ _)
      | (with_reducible exact ih8 _ _ _ _ _ _ _ _)
      | (with_reducible exact LeO.refl _)
      | (with_reducible exact LeO.none _)
      | (with_reducible refine LeO.ite ?_ ?_)
      | (with_reducible refine LeO.bind ?_ (fun _ => ?_))
      | exact ih0 _ _ _ _ _ _ _ _ _ _ _ _ _ _ _ _
      | exact ih1 _ _ _ _ _ _ _ _ _ _ _ _ _ _
      | exact ih2 _ _ _ _ _ _ _ _ _ _ _
      | exact ih3 _ _ _ _ _ _ _ _ _
      | exact ih4 _ _ _ _ _ _ _ _
      | exact ih5 _ _ _ _ _ _ _ _
      | exact ih6 _ _ _ _ _ _ _ _ _
      | exact ih7 _ _ _ _ _ _ _ _
      | exact ih8 _ _ _ _ _ _ _ _
      | exact LeO.none _
      | refine LeO.ite ?_ ?_
      | refine LeO.bind ?_ (fun _ => ?_)
    · intro y0 y1 y2 y3 y4 y5 y6 y7
      unfold damperref10_Decide.j7
      repeat' first
      | (with_reducible exact ih0 _ _ _ _ _ _ _ _ _ _ _ _ _ _ _ _)
      | (with_reducible exact ih1 _ _ _ _ _ _ _ _ _ _ _ _ _ _)
      | (with_reducible exact ih2 _ _ _ _ _ _ _ _ _ _ _)
      | (with_reducible exact ih3 _ _ _ _ _ _ _ _ _)
      | (with_reducible exact ih4 _ _ _ _ _ _ _ _)
      | (with_reducible exact ih5 _ _ _ _ _ _ _ _)
      | (with_reducible exact ih6 _ _ _ _ _ _ _ _ _)
      | (with_reducible exact ih7 _ _ _ _ _ _ _ _)
      | (with_reducible exact ih8 _ _ _ _ _ _ _ _)
      | (with_reducible exact LeO.refl _)
      | (with_reducible exact LeO.none _)
      | (with_reducible refine LeO.ite ?_ ?_)
      | (with_reducible refine LeO.bind ?_ (fun _ => ?_))
      | exact ih0 _ _ _ _ _ _ _ _ _ _ _ _ _ _ _ _
      | exact ih1 _ _ _ _ _ _ _ _ _ _ _ _ _ _
      | exact ih2 _ _ _ _ _ _ _ _ _ _ _
      | exact ih3 _ _ _ _ _ _ _ _ _
      | exact ih4 _ _ _ _ _ _ _ _
      | exact ih5 _ _ _ _ _ _ _ _
      | exact ih6 _ _ _ _ _ _ _ _ _
      | exact ih7 _ _ _ _ _ _ _ _
      | exact ih8 _ _ _ _ _ _ _ _
      | exact LeO.none _
      | refine LeO.ite ?_ ?_
      | refine LeO.bind ?_ (fun _ => ?_)
    · intro y0 y1 y2 y3 y4 y5 y6 y7
      unfold damperref10_Decide.j8
      repeat' first
      | (with_reducible exact ih0 _ _ _ _ _ _ _ _ _ _ _ _ _ _ _ _)
      | (with_reducible exact ih1 _ _ _ _ _ _ _ _ _ _ _ _ _ _)
      | (with_reducible exact ih2 _ _ _ _ _ _ _ _ _ _ _)
      | (with_reducible exact ih3 _ _ _ _ _ _ _ _ _)
      | (with_reducible exact ih4 _ _ _ _ _ _ _ _)
      | (with_reducible exact ih5 _ _ _ _ _ _ _ _)
      | (with_reducible exact ih6 _ _ _ _ _ _ _ _ _)
      | (with_reducible exact ih7 _ _ _ _ _ _ _ _)
      | (with_reducible exact ih8 _ _ _ _ _ _ _ _)
      | (with_reducible exact LeO.refl _)
      | (with_reducible exact LeO.none _)
      | (with_reducible refine LeO.ite ?_ ?_)
      | (with_reducible refine LeO.bind ?_ (fun _ => ?_))
      | exact ih0 _ _ _ _ _ _ _ _ _ _ _ _ _ _ _ _
      | exact ih1 _ _ _ _ _ _ _ _ _ _ _ _ _ _
      | exact ih2 _ _ _ _ _ _ _ _ _ _ _
      | exact ih3 _ _ _ _ _ _ _ _ _
      | exact ih4 _ _ _ _ _ _ _ _
      | exact ih5 _ _ _ _ _ _ _ _
      | exact ih6 _ _ _ _ _ _ _ _ _
      | exact ih7 _ _ _ _ _ _ _ _
      | exact ih8 _ _ _ _ _ _ _ _
      | exact LeO.none _
      | refine LeO.ite ?_ ?_
      | refine LeO.bind ?_ (fun _ => ?_)
theorem damperref10_Decide.mono : ∀ a0 a1 a2 a3 a4 a5 a6 a7 a8 a9 a10 a11 a12 a13 a14 k, LeO (damperref10_Decide.f k a0 a1 a2 a3 a4 a5 a6 a7 a8 a9 a10 a11 a12 a13 a14) (damperref10_Decide.f (k + 1) a0 a1 a2 a3 a4 a5 a6 a7 a8 a9 a10 a11 a12 a13 a14) := by
  intro a0 a1 a2 a3 a4 a5 a6 a7 a8 a9 a10 a11 a12 a13 a14 k
  obtain ⟨ih0, ih1, ih2, ih3, ih4, ih5, ih6, ih7, ih8⟩ := damperref10_Decide.mono_l k
  unfold damperref10_Decide.f
  repeat' first
      | (with_reducible exact ih0 _ _ _ _ _ _ _ _ _ _ _ _ _ _ _ _)
      | (with_reducible exact ih1 _ _ _ _ _ _ _ _ _ _ _ _ _ _)
      | (with_reducible exact ih2 _ _ _ _ _ _ _ _ _ _ _)
      | (with_reducible exact ih3 _ _ _ _ _ _ _ _ _)
      | (with_reducible exact ih4 _ _ _ _ _ _ _ _)
      | (with_reducible exact ih5 _ _ _ _ _ _ _ _)
      | (with_reducible exact ih6 _ _ _ _ _ _ _ _ _)
      | (with_reducible exact ih7 _ _ _ _ _ _ _ _)
      | (with_reducible exact ih8 _ _ _ _ _ _ _ _)
      | (with_reducible exact LeO.refl _)
      | (with_reducible exact LeO.none _)
      | (with_reducible refine LeO.ite ?_ ?_)
      | (with_reducible refine LeO.bind ?_ (fun _ => ?_))
      | exact ih0 _ _ _ _ _ _ _ _ _ _ _ _ _ _ _ _
      | exact ih1 _ _ _ _ _ _ _ _ _ _ _ _ _ _
      | exact ih2 _ _ _ _ _ _ _ _ _ _ _
      | exact ih3 _ _ _ _ _ _ _ _ _
      | exact ih4 _ _ _ _ _ _ _ _
      | exact ih5 _ _ _ _ _ _ _ _
      | exact ih6 _ _ _ _ _ _ _ _ _
      | exact ih7 _ _ _ _ _ _ _ _
      | exact ih8 _ _ _ _ _ _ _ _
      | exact LeO.none _
      | refine LeO.ite ?_ ?_
      | refine LeO.bind ?_ (fun _ => ?_)
set_option maxHeartbeats 8000000 in
set_option maxRecDepth 100000 in
theorem damperref10_Decide.calls (k : Nat) (a0_0 : Int) (a0_1 : Int) (a1_0 : ByteArray) (a1_1 : Int) (a1_2 : Int) (a1_3 : Int) (a1_4 : Int) (a1_5 : Int) (a2 : Int) (a3 : Int) (a4 : Int) (a5 : Int) (a6 : Int) (a7 : Int) (a8 : Int) (r1 : Int) (r2 : Int) (w : World) (h : damperref10_Decide.f k a0_0 a0_1 a1_0 a1_1 a1_2 a1_3 a1_4 a1_5 a2 a3 a4 a5 a6 a7 a8 = some (r1, r2)) :
    Calls Try.prog 17 #[.agg #[.int .i64 a0_0, .int .i64 a0_1], .agg #[.string a1_0, .int .i64 a1_1, .int .i64 a1_2, .int .i64 a1_3, .int .i64 a1_4, .int .i64 a1_5], .int .i64 a2, .int .i64 a3, .int .i64 a4, .int .i64 a5, .int .i64 a6, .int .i64 a7, .int .i64 a8] w fun e w' => e = .returned (.agg #[.int .i64 r1, .int .i64 r2]) ∧ Below w.heap.size w w' := by
  have hu32 := Try.underlying32
  have hu25 := Try.underlying25
  have HB := Aside0.mk (Below.refl w.heap.size w)
  have H : ((damperref10_Need.f a4 a5 a1_2).bind fun t157 => ((damperref10_Need.f a6 a7 a1_2).bind fun t158 => (if t158 ≥ (wrap64 (2 * (mx 1 a2))) then (damperref10_Decide.j0 k a2 a3 a8 t157 t158 (mx 1 a2) a0_0 a0_1 a1_0 a1_1 a1_2 a1_3 a1_4 a1_5 t157 6) else (damperref10_Decide.j0 k a2 a3 a8 t157 t158 (mx 1 a2) a0_0 a0_1 a1_0 a1_1 a1_2 a1_3 a1_4 a1_5 t157 (mx 0 (wrap64 (a0_1 - 1))))))) = some (r1, r2) := h
  clear h
  replace H := Option.bind_eq_some_iff.mp H
  obtain ⟨t157, A100, H⟩ := H
  replace H : ((damperref10_Need.f a6 a7 a1_2).bind fun t158 => (if t158 ≥ (wrap64 (2 * (mx 1 a2))) then (damperref10_Decide.j0 k a2 a3 a8 t157 t158 (mx 1 a2) a0_0 a0_1 a1_0 a1_1 a1_2 a1_3 a1_4 a1_5 t157 6) else (damperref10_Decide.j0 k a2 a3 a8 t157 t158 (mx 1 a2) a0_0 a0_1 a1_0 a1_1 a1_2 a1_3 a1_4 a1_5 t157 (mx 0 (wrap64 (a0_1 - 1)))))) = some (r1, r2) := H
  have A10 := Aside0.mk A100
  clear A100
  replace H := Option.bind_eq_some_iff.mp H
  obtain ⟨t158, A110, H⟩ := H
  replace H : (if t158 ≥ (wrap64 (2 * (mx 1 a2))) then (damperref10_Decide.j0 k a2 a3 a8 t157 t158 (mx 1 a2) a0_0 a0_1 a1_0 a1_1 a1_2 a1_3 a1_4 a1_5 t157 6) else (damperref10_Decide.j0 k a2 a3 a8 t157 t158 (mx 1 a2) a0_0 a0_1 a1_0 a1_1 a1_2 a1_3 a1_4 a1_5 t157 (mx 0 (wrap64 (a0_1 - 1))))) = some (r1, r2) := H
  have A11 := Aside0.mk A110
  clear A110
  obtain ⟨ji12, hji12⟩ : ∃ j_ : Int, (mx 1 a2) = j_ := ⟨_, rfl⟩
  replace H : (if t158 ≥ (wrap64 (2 * (ji12))) then (damperref10_Decide.j0 k a2 a3 a8 t157 t158 ji12 a0_0 a0_1 a1_0 a1_1 a1_2 a1_3 a1_4 a1_5 t157 6) else (damperref10_Decide.j0 k a2 a3 a8 t157 t158 ji12 a0_0 a0_1 a1_0 a1_1 a1_2 a1_3 a1_4 a1_5 t157 (mx 0 (wrap64 (a0_1 - 1))))) = some (r1, r2) := by first | (rw [hji12] at H; exact H) | (simp only [hji12] at H ⊢; exact H)
  (try rw [hji12] at A10)
  (try rw [hji12] at A11)
  (try (have hji12l : 1 ≤ ji12 := by (rw [← hji12]; unfold mx; (repeat' split) <;> omega)))
  (try (have hji12m : 0 ≤ ji12 := by omega))
  have hji12_ : (if 1 < a2 then a2 else 1) = ji12 := hji12
  obtain ⟨ji13, hji13⟩ : ∃ j_ : Int, (mx 0 (wrap64 (a0_1 - 1))) = j_ := ⟨_, rfl⟩
  replace H : (if t158 ≥ (wrap64 (2 * (ji12))) then (damperref10_Decide.j0 k a2 a3 a8 t157 t158 ji12 a0_0 a0_1 a1_0 a1_1 a1_2 a1_3 a1_4 a1_5 t157 6) else (damperref10_Decide.j0 k a2 a3 a8 t157 t158 ji12 a0_0 a0_1 a1_0 a1_1 a1_2 a1_3 a1_4 a1_5 t157 ji13)) = some (r1, r2) := by first | (rw [hji13] at H; exact H) | (simp only [hji13] at H ⊢; exact H)
  (try rw [hji13] at A10)
  (try rw [hji13] at A11)
  (try (have hji13l : 0 ≤ ji13 := by (rw [← hji13]; unfold mx; (repeat' split) <;> omega)))
  (try (have hji13m : 0 ≤ ji13 := by omega))
  have hji13_ : (if 0 < (wrap64 (a0_1 - 1)) then (wrap64 (a0_1 - 1)) else 0) = ji13 := hji13
  have HC14 := Aside0.mk H
  clear H
  go_enter Try.func17, Try.ntmps17
  go_upto_if 44 with (first | ((with_reducible refine gate_dst (N := 9) rfl ?_); refine box_event ?hg (N := 9) ?hd (cs := #[.int .i64 a0_0, .int .i64 a0_1]) (t := 32) ?hr ?_; (case hd => rfl); (case hg => rfl); (case hr => first | (go_simp; done) | (go_simp; rfl)); intro gb154 hg w15 hbox hb; have n0_ := Aside0.mk (below_step (by repeat (first | (with_reducible first | exact HB.out | apply below_alloc | apply pw_below_drewN | apply below_drew1) | exact HB.out)) hb); have n1_ := Aside0.mk (hbox); have n2_ := Aside0.mk ((by rw [hg]; exact (below_size (by repeat (first | (with_reducible first | exact HB.out | apply below_alloc | apply pw_below_drewN | apply below_drew1) | exact HB.out))) : w.heap.size ≤ gb154)); have n3_ := Aside0.mk ((by rw [hg]; exact (below_size (by repeat (first | (with_reducible first | exact HB.out | apply below_alloc | apply pw_below_drewN | apply below_drew1) | exact HB.out))) : w.heap.size ≤ gb154)); clear HB; have HB := n0_; have BK154 := n1_; have GW154 := n2_; have GE154 := n3_; clear n0_ n1_ n2_ n3_; clear hb hbox hg) | ((with_reducible refine gate_dst (N := 10) rfl ?_); refine box_event ?hg (N := 10) ?hd (cs := #[.string a1_0, .int .i64 a1_1, .int .i64 a1_2, .int .i64 a1_3, .int .i64 a1_4, .int .i64 a1_5]) (t := 25) ?hr ?_; (case hd => rfl); (case hg => rfl); (case hr => first | (go_simp; done) | (go_simp; rfl)); intro gb155 hg w16 hbox hb; have n0_ := Aside0.mk (blk_below (g := gb154) (pk BK154) hb); have n1_ := Aside0.mk (below_step (by repeat (first | (with_reducible first | exact HB.out | apply below_alloc | apply pw_below_drewN | apply below_drew1 | refine below_set ?_ GE154.out) | exact HB.out)) hb); have n2_ := Aside0.mk (hbox); have n3_ := Aside0.mk ((by rw [hg]; exact (below_size (by repeat (first | (with_reducible first | exact HB.out | apply below_alloc | apply pw_below_drewN | apply below_drew1 | refine below_set ?_ GE154.out) | exact HB.out))) : w.heap.size ≤ gb155)); have n4_ := Aside0.mk ((by rw [hg]; exact (below_size (by repeat (first | (with_reducible first | exact HB.out | apply below_alloc | apply pw_below_drewN | apply below_drew1 | refine below_set ?_ GE154.out) | exact HB.out))) : w.heap.size ≤ gb155)); have n5_ := Aside0.mk ((ne_lt hg (pk BK154) : gb154 ≠ gb155)); have n6_ := Aside0.mk ((ne_gt hg (pk BK154) : gb155 ≠ gb154)); clear BK154; clear HB; have BK154 := n0_; have HB := n1_; have BK155 := n2_; have GW155 := n3_; have GE155 := n4_; have NB154_155 := n5_; have NB155_154 := n6_; clear n0_ n1_ n2_ n3_ n4_ n5_ n6_; clear hb hbox hg) | ((with_reducible refine gate_dst (N := 18) rfl ?_); refine box_event ?hg (N := 18) ?hd (cs := #[.int .i64 0, .int .i64 0]) (t := 32) ?hr ?_; (case hd => rfl); (case hg => rfl); (case hr => first | (go_simp; done) | (go_simp; rfl)); intro gb156 hg w17 hbox hb; have n0_ := Aside0.mk (blk_below (g := gb154) (pk BK154) hb); have n1_ := Aside0.mk (blk_below (g := gb155) (pk BK155) hb); have n2_ := Aside0.mk (below_step (by repeat (first | (with_reducible first | exact HB.out | apply below_alloc | apply pw_below_drewN | apply below_drew1 | refine below_set ?_ GE154.out | refine below_set ?_ GE155.out) | exact HB.out)) hb); have n3_ := Aside0.mk (hbox); have n4_ := Aside0.mk ((by rw [hg]; exact (below_size (by repeat (first | (with_reducible first | exact HB.out | apply below_alloc | apply pw_below_drewN | apply below_drew1 | refine below_set ?_ GE154.out | refine below_set ?_ GE155.out) | exact HB.out))) : w.heap.size ≤ gb156)); have n5_ := Aside0.mk ((by rw [hg]; exact (below_size (by repeat (first | (with_reducible first | exact HB.out | apply below_alloc | apply pw_below_drewN | apply below_drew1 | refine below_set ?_ GE154.out | refine below_set ?_ GE155.out) | exact HB.out))) : w.heap.size ≤ gb156)); have n6_ := Aside0.mk ((ne_lt hg (pk BK154) : gb154 ≠ gb156)); have n7_ := Aside0.mk ((ne_gt hg (pk BK154) : gb156 ≠ gb154)); have n8_ := Aside0.mk ((ne_lt hg (pk BK155) : gb155 ≠ gb156)); have n9_ := Aside0.mk ((ne_gt hg (pk BK155) : gb156 ≠ gb155)); clear BK154; clear BK155; clear HB; have BK154 := n0_; have BK155 := n1_; have HB := n2_; have BK156 := n3_; have GW156 := n4_; have GE156 := n5_; have NB154_156 := n6_; have NB156_154 := n7_; have NB155_156 := n8_; have NB156_155 := n9_; clear n0_ n1_ n2_ n3_ n4_ n5_ n6_ n7_ n8_ n9_; clear hb hbox hg; have hnb18 := NB155_154.out; have hnc18 := NB154_155.out; have hnb19 := NB155_156.out; have hnc19 := NB156_155.out; have hcz20_0 : w17.cell? ⟨gb155, 0, none⟩ = some (.string a1_0) := bc BK155 0; have hcz20_1 : w17.cell? ⟨gb155, 1, none⟩ = some (.int .i64 a1_1) := bc BK155 1; have hcz20_2 : w17.cell? ⟨gb155, 2, none⟩ = some (.int .i64 a1_2) := bc BK155 2; have hcz20_3 : w17.cell? ⟨gb155, 3, none⟩ = some (.int .i64 a1_3) := bc BK155 3; have hcz20_4 : w17.cell? ⟨gb155, 4, none⟩ = some (.int .i64 a1_4) := bc BK155 4; have hcz20_5 : w17.cell? ⟨gb155, 5, none⟩ = some (.int .i64 a1_5) := bc BK155 5; have hfz20_0 := blk_frozen BK155.out 0; have hfz20_1 := blk_frozen BK155.out 1; have hfz20_2 := blk_frozen BK155.out 2; have hfz20_3 := blk_frozen BK155.out 3; have hfz20_4 := blk_frozen BK155.out 4; have hfz20_5 := blk_frozen BK155.out 5) | (go_at_call 20; (with_reducible refine (damperref10_Need.calls a4 a5 a1_2 t157 _ A10.out).mono ?_); rintro e w' ⟨rfl, ⟨nd, rfl⟩⟩; (try first | exact ⟨rfl, _, World.drewN_drewN _ _ _⟩ | exact ⟨rfl, _, Eq.trans (World.drewN_drewN _ _ _) (congrArg (World.drewN _) (Nat.add_assoc _ _ _))⟩)) | (go_at_call 20; (with_reducible refine (damperref10_Need.calls a6 a7 a1_2 t158 _ A11.out).mono ?_); rintro e w' ⟨rfl, ⟨nd, rfl⟩⟩; (try first | exact ⟨rfl, _, World.drewN_drewN _ _ _⟩ | exact ⟨rfl, _, Eq.trans (World.drewN_drewN _ _ _) (congrArg (World.drewN _) (Nat.add_assoc _ _ _))⟩); have hnb21 := NB154_156.out; have hnc21 := NB156_154.out; have hcz22_0 : w17.cell? ⟨gb154, 0, none⟩ = some (.int .i64 a0_0) := bc BK154 0; have hcz22_1 : w17.cell? ⟨gb154, 1, none⟩ = some (.int .i64 a0_1) := bc BK154 1; have hfz22_0 := blk_frozen BK154.out 0; have hfz22_1 := blk_frozen BK154.out 1) | ((with_reducible refine gate_dst (N := 22) rfl ?_); refine box_event ?hg (N := 22) ?hd (cs := #[.int .i64 0, .int .i64 0]) (t := 32) ?hr ?_; (case hd => rfl); (case hg => rfl); (case hr => first | (go_simp; done) | (go_simp; rfl)); intro gb159 hg w23 hbox hb; have n0_ := Aside0.mk (blk_below (g := gb154) (pk BK154) hb); have n1_ := Aside0.mk (blk_below (g := gb155) (pk BK155) hb); have n2_ := Aside0.mk (blk_below (g := gb156) (pk BK156) hb); have n3_ := Aside0.mk (below_step (by repeat (first | (with_reducible first | exact HB.out | apply below_alloc | apply pw_below_drewN | apply below_drew1 | refine below_set ?_ GE154.out | refine below_set ?_ GE155.out | refine below_set ?_ GE156.out) | exact HB.out)) hb); have n4_ := Aside0.mk (hbox); have n5_ := Aside0.mk ((by rw [hg]; exact (below_size (by repeat (first | (with_reducible first | exact HB.out | apply below_alloc | apply pw_below_drewN | apply below_drew1 | refine below_set ?_ GE154.out | refine below_set ?_ GE155.out | refine below_set ?_ GE156.out) | exact HB.out))) : w.heap.size ≤ gb159)); have n6_ := Aside0.mk ((by rw [hg]; exact (below_size (by repeat (first | (with_reducible first | exact HB.out | apply below_alloc | apply pw_below_drewN | apply below_drew1 | refine below_set ?_ GE154.out | refine below_set ?_ GE155.out | refine below_set ?_ GE156.out) | exact HB.out))) : w.heap.size ≤ gb159)); have n7_ := Aside0.mk ((ne_lt hg (pk BK154) : gb154 ≠ gb159)); have n8_ := Aside0.mk ((ne_gt hg (pk BK154) : gb159 ≠ gb154)); have n9_ := Aside0.mk ((ne_lt hg (pk BK155) : gb155 ≠ gb159)); have n10_ := Aside0.mk ((ne_gt hg (pk BK155) : gb159 ≠ gb155)); have n11_ := Aside0.mk ((ne_lt hg (pk BK156) : gb156 ≠ gb159)); have n12_ := Aside0.mk ((ne_gt hg (pk BK156) : gb159 ≠ gb156)); clear BK154; clear BK155; clear BK156; clear HB; have BK154 := n0_; have BK155 := n1_; have BK156 := n2_; have HB := n3_; have BK159 := n4_; have GW159 := n5_; have GE159 := n6_; have NB154_159 := n7_; have NB159_154 := n8_; have NB155_159 := n9_; have NB159_155 := n10_; have NB156_159 := n11_; have NB159_156 := n12_; clear n0_ n1_ n2_ n3_ n4_ n5_ n6_ n7_ n8_ n9_ n10_ n11_ n12_; clear hb hbox hg; have hnb24 := NB159_154.out; have hnc24 := NB154_159.out; have hnb25 := NB159_155.out; have hnc25 := NB155_159.out; have hnb26 := NB159_156.out; have hnc26 := NB156_159.out; have hcz27_0 : w23.cell? ⟨gb159, 0, none⟩ = some (.int .i64 0) := bc BK159 0; have hcz27_1 : w23.cell? ⟨gb159, 1, none⟩ = some (.int .i64 0) := bc BK159 1; have hfz27_0 := blk_frozen BK159.out 0; have hfz27_1 := blk_frozen BK159.out 1))
  repeat (go_quiet (first | ((with_reducible refine gate_dst (N := 9) rfl ?_); refine box_event ?hg (N := 9) ?hd (cs := #[.int .i64 a0_0, .int .i64 a0_1]) (t := 32) ?hr ?_; (case hd => rfl); (case hg => rfl); (case hr => first | (go_simp; done) | (go_simp; rfl)); intro gb154 hg w15 hbox hb; have n0_ := Aside0.mk (below_step (by repeat (first | (with_reducible first | exact HB.out | apply below_alloc | apply pw_below_drewN | apply below_drew1) | exact HB.out)) hb); have n1_ := Aside0.mk (hbox); have n2_ := Aside0.mk ((by rw [hg]; exact (below_size (by repeat (first | (with_reducible first | exact HB.out | apply below_alloc | apply pw_below_drewN | apply below_drew1) | exact HB.out))) : w.heap.size ≤ gb154)); have n3_ := Aside0.mk ((by rw [hg]; exact (below_size (by repeat (first | (with_reducible first | exact HB.out | apply below_alloc | apply pw_below_drewN | apply below_drew1) | exact HB.out))) : w.heap.size ≤ gb154)); clear HB; have HB := n0_; have BK154 := n1_; have GW154 := n2_; have GE154 := n3_; clear n0_ n1_ n2_ n3_; clear hb hbox hg) | ((with_reducible refine gate_dst (N := 10) rfl ?_); refine box_event ?hg (N := 10) ?hd (cs := #[.string a1_0, .int .i64 a1_1, .int .i64 a1_2, .int .i64 a1_3, .int .i64 a1_4, .int .i64 a1_5]) (t := 25) ?hr ?_; (case hd => rfl); (case hg => rfl); (case hr => first | (go_simp; done) | (go_simp; rfl)); intro gb155 hg w16 hbox hb; have n0_ := Aside0.mk (blk_below (g := gb154) (pk BK154) hb); have n1_ := Aside0.mk (below_step (by repeat (first | (with_reducible first | exact HB.out | apply below_alloc | apply pw_below_drewN | apply below_drew1 | refine below_set ?_ GE154.out) | exact HB.out)) hb); have n2_ := Aside0.mk (hbox); have n3_ := Aside0.mk ((by rw [hg]; exact (below_size (by repeat (first | (with_reducible first | exact HB.out | apply below_alloc | apply pw_below_drewN | apply below_drew1 | refine below_set ?_ GE154.out) | exact HB.out))) : w.heap.size ≤ gb155)); have n4_ := Aside0.mk ((by rw [hg]; exact (below_size (by repeat (first | (with_reducible first | exact HB.out | apply below_alloc | apply pw_below_drewN | apply below_drew1 | refine below_set ?_ GE154.out) | exact HB.out))) : w.heap.size ≤ gb155)); have n5_ := Aside0.mk ((ne_lt hg (pk BK154) : gb154 ≠ gb155)); have n6_ := Aside0.mk ((ne_gt hg (pk BK154) : gb155 ≠ gb154)); clear BK154; clear HB; have BK154 := n0_; have HB := n1_; have BK155 := n2_; have GW155 := n3_; have GE155 := n4_; have NB154_155 := n5_; have NB155_154 := n6_; clear n0_ n1_ n2_ n3_ n4_ n5_ n6_; clear hb hbox hg) | ((with_reducible refine gate_dst (N := 18) rfl ?_); refine box_event ?hg (N := 18) ?hd (cs := #[.int .i64 0, .int .i64 0]) (t := 32) ?hr ?_; (case hd => rfl); (case hg => rfl); (case hr => first | (go_simp; done) | (go_simp; rfl)); intro gb156 hg w17 hbox hb; have n0_ := Aside0.mk (blk_below (g := gb154) (pk BK154) hb); have n1_ := Aside0.mk (blk_below (g := gb155) (pk BK155) hb); have n2_ := Aside0.mk (below_step (by repeat (first | (with_reducible first | exact HB.out | apply below_alloc | apply pw_below_drewN | apply below_drew1 | refine below_set ?_ GE154.out | refine below_set ?_ GE155.out) | exact HB.out)) hb); have n3_ := Aside0.mk (hbox); have n4_ := Aside0.mk ((by rw [hg]; exact (below_size (by repeat (first | (with_reducible first | exact HB.out | apply below_alloc | apply pw_below_drewN | apply below_drew1 | refine below_set ?_ GE154.out | refine below_set ?_ GE155.out) | exact HB.out))) : w.heap.size ≤ gb156)); have n5_ := Aside0.mk ((by rw [hg]; exact (below_size (by repeat (first | (with_reducible first | exact HB.out | apply below_alloc | apply pw_below_drewN | apply below_drew1 | refine below_set ?_ GE154.out | refine below_set ?_ GE155.out) | exact HB.out))) : w.heap.size ≤ gb156)); have n6_ := Aside0.mk ((ne_lt hg (pk BK154) : gb154 ≠ gb156)); have n7_ := Aside0.mk ((ne_gt hg (pk BK154) : gb156 ≠ gb154)); have n8_ := Aside0.mk ((ne_lt hg (pk BK155) : gb155 ≠ gb156)); have n9_ := Aside0.mk ((ne_gt hg (pk BK155) : gb156 ≠ gb155)); clear BK154; clear BK155; clear HB; have BK154 := n0_; have BK155 := n1_; have HB := n2_; have BK156 := n3_; have GW156 := n4_; have GE156 := n5_; have NB154_156 := n6_; have NB156_154 := n7_; have NB155_156 := n8_; have NB156_155 := n9_; clear n0_ n1_ n2_ n3_ n4_ n5_ n6_ n7_ n8_ n9_; clear hb hbox hg; have hnb18 := NB155_154.out; have hnc18 := NB154_155.out; have hnb19 := NB155_156.out; have hnc19 := NB156_155.out; have hcz20_0 : w17.cell? ⟨gb155, 0, none⟩ = some (.string a1_0) := bc BK155 0; have hcz20_1 : w17.cell? ⟨gb155, 1, none⟩ = some (.int .i64 a1_1) := bc BK155 1; have hcz20_2 : w17.cell? ⟨gb155, 2, none⟩ = some (.int .i64 a1_2) := bc BK155 2; have hcz20_3 : w17.cell? ⟨gb155, 3, none⟩ = some (.int .i64 a1_3) := bc BK155 3; have hcz20_4 : w17.cell? ⟨gb155, 4, none⟩ = some (.int .i64 a1_4) := bc BK155 4; have hcz20_5 : w17.cell? ⟨gb155, 5, none⟩ = some (.int .i64 a1_5) := bc BK155 5; have hfz20_0 := blk_frozen BK155.out 0; have hfz20_1 := blk_frozen BK155.out 1; have hfz20_2 := blk_frozen BK155.out 2; have hfz20_3 := blk_frozen BK155.out 3; have hfz20_4 := blk_frozen BK155.out 4; have hfz20_5 := blk_frozen BK155.out 5) | (go_at_call 20; (with_reducible refine (damperref10_Need.calls a4 a5 a1_2 t157 _ A10.out).mono ?_); rintro e w' ⟨rfl, ⟨nd, rfl⟩⟩; (try first | exact ⟨rfl, _, World.drewN_drewN _ _ _⟩ | exact ⟨rfl, _, Eq.trans (World.drewN_drewN _ _ _) (congrArg (World.drewN _) (Nat.add_assoc _ _ _))⟩)) | (go_at_call 20; (with_reducible refine (damperref10_Need.calls a6 a7 a1_2 t158 _ A11.out).mono ?_); rintro e w' ⟨rfl, ⟨nd, rfl⟩⟩; (try first | exact ⟨rfl, _, World.drewN_drewN _ _ _⟩ | exact ⟨rfl, _, Eq.trans (World.drewN_drewN _ _ _) (congrArg (World.drewN _) (Nat.add_assoc _ _ _))⟩); have hnb21 := NB154_156.out; have hnc21 := NB156_154.out; have hcz22_0 : w17.cell? ⟨gb154, 0, none⟩ = some (.int .i64 a0_0) := bc BK154 0; have hcz22_1 : w17.cell? ⟨gb154, 1, none⟩ = some (.int .i64 a0_1) := bc BK154 1; have hfz22_0 := blk_frozen BK154.out 0; have hfz22_1 := blk_frozen BK154.out 1) | ((with_reducible refine gate_dst (N := 22) rfl ?_); refine box_event ?hg (N := 22) ?hd (cs := #[.int .i64 0, .int .i64 0]) (t := 32) ?hr ?_; (case hd => rfl); (case hg => rfl); (case hr => first | (go_simp; done) | (go_simp; rfl)); intro gb159 hg w23 hbox hb; have n0_ := Aside0.mk (blk_below (g := gb154) (pk BK154) hb); have n1_ := Aside0.mk (blk_below (g := gb155) (pk BK155) hb); have n2_ := Aside0.mk (blk_below (g := gb156) (pk BK156) hb); have n3_ := Aside0.mk (below_step (by repeat (first | (with_reducible first | exact HB.out | apply below_alloc | apply pw_below_drewN | apply below_drew1 | refine below_set ?_ GE154.out | refine below_set ?_ GE155.out | refine below_set ?_ GE156.out) | exact HB.out)) hb); have n4_ := Aside0.mk (hbox); have n5_ := Aside0.mk ((by rw [hg]; exact (below_size (by repeat (first | (with_reducible first | exact HB.out | apply below_alloc | apply pw_below_drewN | apply below_drew1 | refine below_set ?_ GE154.out | refine below_set ?_ GE155.out | refine below_set ?_ GE156.out) | exact HB.out))) : w.heap.size ≤ gb159)); have n6_ := Aside0.mk ((by rw [hg]; exact (below_size (by repeat (first | (with_reducible first | exact HB.out | apply below_alloc | apply pw_below_drewN | apply below_drew1 | refine below_set ?_ GE154.out | refine below_set ?_ GE155.out | refine below_set ?_ GE156.out) | exact HB.out))) : w.heap.size ≤ gb159)); have n7_ := Aside0.mk ((ne_lt hg (pk BK154) : gb154 ≠ gb159)); have n8_ := Aside0.mk ((ne_gt hg (pk BK154) : gb159 ≠ gb154)); have n9_ := Aside0.mk ((ne_lt hg (pk BK155) : gb155 ≠ gb159)); have n10_ := Aside0.mk ((ne_gt hg (pk BK155) : gb159 ≠ gb155)); have n11_ := Aside0.mk ((ne_lt hg (pk BK156) : gb156 ≠ gb159)); have n12_ := Aside0.mk ((ne_gt hg (pk BK156) : gb159 ≠ gb156)); clear BK154; clear BK155; clear BK156; clear HB; have BK154 := n0_; have BK155 := n1_; have BK156 := n2_; have HB := n3_; have BK159 := n4_; have GW159 := n5_; have GE159 := n6_; have NB154_159 := n7_; have NB159_154 := n8_; have NB155_159 := n9_; have NB159_155 := n10_; have NB156_159 := n11_; have NB159_156 := n12_; clear n0_ n1_ n2_ n3_ n4_ n5_ n6_ n7_ n8_ n9_ n10_ n11_ n12_; clear hb hbox hg; have hnb24 := NB159_154.out; have hnc24 := NB154_159.out; have hnb25 := NB159_155.out; have hnc25 := NB155_159.out; have hnb26 := NB159_156.out; have hnc26 := NB156_159.out; have hcz27_0 : w23.cell? ⟨gb159, 0, none⟩ = some (.int .i64 0) := bc BK159 0; have hcz27_1 : w23.cell? ⟨gb159, 1, none⟩ = some (.int .i64 0) := bc BK159 1; have hfz27_0 := blk_frozen BK159.out 0; have hfz27_1 := blk_frozen BK159.out 1)); go_upto_if 44 with (first | ((with_reducible refine gate_dst (N := 9) rfl ?_); refine box_event ?hg (N := 9) ?hd (cs := #[.int .i64 a0_0, .int .i64 a0_1]) (t := 32) ?hr ?_; (case hd => rfl); (case hg => rfl); (case hr => first | (go_simp; done) | (go_simp; rfl)); intro gb154 hg w15 hbox hb; have n0_ := Aside0.mk (below_step (by repeat (first | (with_reducible first | exact HB.out | apply below_alloc | apply pw_below_drewN | apply below_drew1) | exact HB.out)) hb); have n1_ := Aside0.mk (hbox); have n2_ := Aside0.mk ((by rw [hg]; exact (below_size (by repeat (first | (with_reducible first | exact HB.out | apply below_alloc | apply pw_below_drewN | apply below_drew1) | exact HB.out))) : w.heap.size ≤ gb154)); have n3_ := Aside0.mk ((by rw [hg]; exact (below_size (by repeat (first | (with_reducible first | exact HB.out | apply below_alloc | apply pw_below_drewN | apply below_drew1) | exact HB.out))) : w.heap.size ≤ gb154)); clear HB; have HB := n0_; have BK154 := n1_; have GW154 := n2_; have GE154 := n3_; clear n0_ n1_ n2_ n3_; clear hb hbox hg) | ((with_reducible refine gate_dst (N := 10) rfl ?_); refine box_event ?hg (N := 10) ?hd (cs := #[.string a1_0, .int .i64 a1_1, .int .i64 a1_2, .int .i64 a1_3, .int .i64 a1_4, .int .i64 a1_5]) (t := 25) ?hr ?_; (case hd => rfl); (case hg => rfl); (case hr => first | (go_simp; done) | (go_simp; rfl)); intro gb155 hg w16 hbox hb; have n0_ := Aside0.mk (blk_below (g := gb154) (pk BK154) hb); have n1_ := Aside0.mk (below_step (by repeat (first | (with_reducible first | exact HB.out | apply below_alloc | apply pw_below_drewN | apply below_drew1 | refine below_set ?_ GE154.out) | exact HB.out)) hb); have n2_ := Aside0.mk (hbox); have n3_ := Aside0.mk ((by rw [hg]; exact (below_size (by repeat (first | (with_reducible first | exact HB.out | apply below_alloc | apply pw_below_drewN | apply below_drew1 | refine below_set ?_ GE154.out) | exact HB.out))) : w.heap.size ≤ gb155)); have n4_ := Aside0.mk ((by rw [hg]; exact (below_size (by repeat (first | (with_reducible first | exact HB.out | apply below_alloc | apply pw_below_drewN | apply below_drew1 | refine below_set ?_ GE154.out) | exact HB.out))) : w.heap.size ≤ gb155)); have n5_ := Aside0.mk ((ne_lt hg (pk BK154) : gb154 ≠ gb155)); have n6_ := Aside0.mk ((ne_gt hg (pk BK154) : gb155 ≠ gb154)); clear BK154; clear HB; have BK154 := n0_; have HB := n1_; have BK155 := n2_; have GW155 := n3_; have GE155 := n4_; have NB154_155 := n5_; have NB155_154 := n6_; clear n0_ n1_ n2_ n3_ n4_ n5_ n6_; clear hb hbox hg) | ((with_reducible refine gate_dst (N := 18) rfl ?_); refine box_event ?hg (N := 18) ?hd (cs := #[.int .i64 0, .int .i64 0]) (t := 32) ?hr ?_; (case hd => rfl); (case hg => rfl); (case hr => first | (go_simp; done) | (go_simp; rfl)); intro gb156 hg w17 hbox hb; have n0_ := Aside0.mk (blk_below (g := gb154) (pk BK154) hb); have n1_ := Aside0.mk (blk_below (g := gb155) (pk BK155) hb); have n2_ := Aside0.mk (below_step (by repeat (first | (with_reducible first | exact HB.out | apply below_alloc | apply pw_below_drewN | apply below_drew1 | refine below_set ?_ GE154.out | refine below_set ?_ GE155.out) | exact HB.out)) hb); have n3_ := Aside0.mk (hbox); have n4_ := Aside0.mk ((by rw [hg]; exact (below_size (by repeat (first | (with_reducible first | exact HB.out | apply below_alloc | apply pw_below_drewN | apply below_drew1 | refine below_set ?_ GE154.out | refine below_set ?_ GE155.out) | exact HB.out))) : w.heap.size ≤ gb156)); have n5_ := Aside0.mk ((by rw [hg]; exact (below_size (by repeat (first | (with_reducible first | exact HB.out | apply below_alloc | apply pw_below_drewN | apply below_drew1 | refine below_set ?_ GE154.out | refine below_set ?_ GE155.out) | exact HB.out))) : w.heap.size ≤ gb156)); have n6_ := Aside0.mk ((ne_lt hg (pk BK154) : gb154 ≠ gb156)); have n7_ := Aside0.mk ((ne_gt hg (pk BK154) : gb156 ≠ gb154)); have n8_ := Aside0.mk ((ne_lt hg (pk BK155) : gb155 ≠ gb156)); have n9_ := Aside0.mk ((ne_gt hg (pk BK155) : gb156 ≠ gb155)); clear BK154; clear BK155; clear HB; have BK154 := n0_; have BK155 := n1_; have HB := n2_; have BK156 := n3_; have GW156 := n4_; have GE156 := n5_; have NB154_156 := n6_; have NB156_154 := n7_; have NB155_156 := n8_; have NB156_155 := n9_; clear n0_ n1_ n2_ n3_ n4_ n5_ n6_ n7_ n8_ n9_; clear hb hbox hg; have hnb18 := NB155_154.out; have hnc18 := NB154_155.out; have hnb19 := NB155_156.out; have hnc19 := NB156_155.out; have hcz20_0 : w17.cell? ⟨gb155, 0, none⟩ = some (.string a1_0) := bc BK155 0; have hcz20_1 : w17.cell? ⟨gb155, 1, none⟩ = some (.int .i64 a1_1) := bc BK155 1; have hcz20_2 : w17.cell? ⟨gb155, 2, none⟩ = some (.int .i64 a1_2) := bc BK155 2; have hcz20_3 : w17.cell? ⟨gb155, 3, none⟩ = some (.int .i64 a1_3) := bc BK155 3; have hcz20_4 : w17.cell? ⟨gb155, 4, none⟩ = some (.int .i64 a1_4) := bc BK155 4; have hcz20_5 : w17.cell? ⟨gb155, 5, none⟩ = some (.int .i64 a1_5) := bc BK155 5; have hfz20_0 := blk_frozen BK155.out 0; have hfz20_1 := blk_frozen BK155.out 1; have hfz20_2 := blk_frozen BK155.out 2; have hfz20_3 := blk_frozen BK155.out 3; have hfz20_4 := blk_frozen BK155.out 4; have hfz20_5 := blk_frozen BK155.out 5) | (go_at_call 20; (with_reducible refine (damperref10_Need.calls a4 a5 a1_2 t157 _ A10.out).mono ?_); rintro e w' ⟨rfl, ⟨nd, rfl⟩⟩; (try first | exact ⟨rfl, _, World.drewN_drewN _ _ _⟩ | exact ⟨rfl, _, Eq.trans (World.drewN_drewN _ _ _) (congrArg (World.drewN _) (Nat.add_assoc _ _ _))⟩)) | (go_at_call 20; (with_reducible refine (damperref10_Need.calls a6 a7 a1_2 t158 _ A11.out).mono ?_); rintro e w' ⟨rfl, ⟨nd, rfl⟩⟩; (try first | exact ⟨rfl, _, World.drewN_drewN _ _ _⟩ | exact ⟨rfl, _, Eq.trans (World.drewN_drewN _ _ _) (congrArg (World.drewN _) (Nat.add_assoc _ _ _))⟩); have hnb21 := NB154_156.out; have hnc21 := NB156_154.out; have hcz22_0 : w17.cell? ⟨gb154, 0, none⟩ = some (.int .i64 a0_0) := bc BK154 0; have hcz22_1 : w17.cell? ⟨gb154, 1, none⟩ = some (.int .i64 a0_1) := bc BK154 1; have hfz22_0 := blk_frozen BK154.out 0; have hfz22_1 := blk_frozen BK154.out 1) | ((with_reducible refine gate_dst (N := 22) rfl ?_); refine box_event ?hg (N := 22) ?hd (cs := #[.int .i64 0, .int .i64 0]) (t := 32) ?hr ?_; (case hd => rfl); (case hg => rfl); (case hr => first | (go_simp; done) | (go_simp; rfl)); intro gb159 hg w23 hbox hb; have n0_ := Aside0.mk (blk_below (g := gb154) (pk BK154) hb); have n1_ := Aside0.mk (blk_below (g := gb155) (pk BK155) hb); have n2_ := Aside0.mk (blk_below (g := gb156) (pk BK156) hb); have n3_ := Aside0.mk (below_step (by repeat (first | (with_reducible first | exact HB.out | apply below_alloc | apply pw_below_drewN | apply below_drew1 | refine below_set ?_ GE154.out | refine below_set ?_ GE155.out | refine below_set ?_ GE156.out) | exact HB.out)) hb); have n4_ := Aside0.mk (hbox); have n5_ := Aside0.mk ((by rw [hg]; exact (below_size (by repeat (first | (with_reducible first | exact HB.out | apply below_alloc | apply pw_below_drewN | apply below_drew1 | refine below_set ?_ GE154.out | refine below_set ?_ GE155.out | refine below_set ?_ GE156.out) | exact HB.out))) : w.heap.size ≤ gb159)); have n6_ := Aside0.mk ((by rw [hg]; exact (below_size (by repeat (first | (with_reducible first | exact HB.out | apply below_alloc | apply pw_below_drewN | apply below_drew1 | refine below_set ?_ GE154.out | refine below_set ?_ GE155.out | refine below_set ?_ GE156.out) | exact HB.out))) : w.heap.size ≤ gb159)); have n7_ := Aside0.mk ((ne_lt hg (pk BK154) : gb154 ≠ gb159)); have n8_ := Aside0.mk ((ne_gt hg (pk BK154) : gb159 ≠ gb154)); have n9_ := Aside0.mk ((ne_lt hg (pk BK155) : gb155 ≠ gb159)); have n10_ := Aside0.mk ((ne_gt hg (pk BK155) : gb159 ≠ gb155)); have n11_ := Aside0.mk ((ne_lt hg (pk BK156) : gb156 ≠ gb159)); have n12_ := Aside0.mk ((ne_gt hg (pk BK156) : gb159 ≠ gb156)); clear BK154; clear BK155; clear BK156; clear HB; have BK154 := n0_; have BK155 := n1_; have BK156 := n2_; have HB := n3_; have BK159 := n4_; have GW159 := n5_; have GE159 := n6_; have NB154_159 := n7_; have NB159_154 := n8_; have NB155_159 := n9_; have NB159_155 := n10_; have NB156_159 := n11_; have NB159_156 := n12_; clear n0_ n1_ n2_ n3_ n4_ n5_ n6_ n7_ n8_ n9_ n10_ n11_ n12_; clear hb hbox hg; have hnb24 := NB159_154.out; have hnc24 := NB154_159.out; have hnb25 := NB159_155.out; have hnc25 := NB155_159.out; have hnb26 := NB159_156.out; have hnc26 := NB156_159.out; have hcz27_0 : w23.cell? ⟨gb159, 0, none⟩ = some (.int .i64 0) := bc BK159 0; have hcz27_1 : w23.cell? ⟨gb159, 1, none⟩ = some (.int .i64 0) := bc BK159 1; have hfz27_0 := blk_frozen BK159.out 0; have hfz27_1 := blk_frozen BK159.out 1)))
  (try simp only [Act.put, List.setIfInBounds_toArray, List.set_cons_zero, List.set_cons_succ])
  go_cut [] (fun wc => ∃ (kq : Nat) (x160001_13 : Int), Aside0 (damperref10_Decide.j0 kq a2 a3 a8 t157 t158 ji12 a0_0 a0_1 a1_0 a1_1 a1_2 a1_3 a1_4 a1_5 t157 x160001_13 = some (r1, r2)) ∧ Aside0 (kq ≤ k) ∧ Aside0 (wc.heap[gb154]? = some (.cells #[.int .i64 a0_0, .int .i64 a0_1] 32 (0, 0))) ∧ Aside0 (wc.heap[gb155]? = some (.cells #[.string a1_0, .int .i64 a1_1, .int .i64 a1_2, .int .i64 a1_3, .int .i64 a1_4, .int .i64 a1_5] 25 (0, 0))) ∧ Aside0 (wc.heap[gb156]? = some (.cells #[.int .i64 0, .int .i64 0] 32 (0, 0))) ∧ Aside0 (wc.heap[gb159]? = some (.cells #[.int .i64 t157, .int .i64 x160001_13] 32 (0, 0))) ∧ Aside0 (Below w.heap.size w wc))
  case first =>
    have H := HC14.out
    clear HC14
    by_cases c28 : t158 ≥ (wrap64 (2 * (ji12)))
    · rw [if_pos c28] at H
      have c28b0 : decide ((wrap64 (2 * (ji12))) ≤ t158) = true := decide_eq_true c28
      clear c28
      (first | rw [c28b0] | (simp only [i64_w, i32_w]; rw [c28b0]) | skip)
      have H' := Aside0.mk H
      clear H
      have hnb29 := NB159_154.out
      have hnc29 := NB154_159.out
      have hnb30 := NB159_155.out
      have hnc30 := NB155_159.out
      have hnb31 := NB159_156.out
      have hnc31 := NB156_159.out
      have hcz32_0 : w23.cell? ⟨gb159, 0, none⟩ = some (.int .i64 0) := bc BK159 0
      have hcz32_1 : w23.cell? ⟨gb159, 1, none⟩ = some (.int .i64 0) := bc BK159 1
      have hfz32_0 := blk_frozen BK159.out 0
      have hfz32_1 := blk_frozen BK159.out 1
      go_wp2
      repeat (go_quiet (fail); try go_wp2)
      go_meet
      case rel => exact ⟨_, (6), H', ⟨by first | omega | exact Nat.le_refl _⟩, ⟨by (repeat ((with_reducible repeat (first | refine blk_drewN ?_ _ | refine blk_drew ?_ | refine blk_alloc ?_ _)); refine blk_far ?_ NB154_159.out _)); (with_reducible repeat (first | refine blk_drewN ?_ _ | refine blk_drew ?_ | refine blk_alloc ?_ _)); exact BK154.out⟩, ⟨by (repeat ((with_reducible repeat (first | refine blk_drewN ?_ _ | refine blk_drew ?_ | refine blk_alloc ?_ _)); refine blk_far ?_ NB155_159.out _)); (with_reducible repeat (first | refine blk_drewN ?_ _ | refine blk_drew ?_ | refine blk_alloc ?_ _)); exact BK155.out⟩, ⟨by (repeat ((with_reducible repeat (first | refine blk_drewN ?_ _ | refine blk_drew ?_ | refine blk_alloc ?_ _)); refine blk_far ?_ NB156_159.out _)); (with_reducible repeat (first | refine blk_drewN ?_ _ | refine blk_drew ?_ | refine blk_alloc ?_ _)); exact BK156.out⟩, ⟨by (with_reducible repeat (first | refine blk_drewN ?_ _ | refine blk_drew ?_ | refine blk_alloc ?_ _)); refine blk_put (cs := #[.int .i64 t157, .int .i64 ji13]) ?_ 1 _ rfl; refine blk_put (cs := #[.int .i64 t157, .int .i64 0]) ?_ 1 _ rfl; refine blk_put (cs := #[.int .i64 0, .int .i64 0]) ?_ 0 _ rfl; (with_reducible repeat (first | refine blk_drewN ?_ _ | refine blk_drew ?_ | refine blk_alloc ?_ _)); exact BK159.out⟩, ⟨by repeat (first | (with_reducible first | exact HB.out | apply below_alloc | apply pw_below_drewN | apply below_drew1 | refine below_set ?_ GE154.out | refine below_set ?_ GE155.out | refine below_set ?_ GE156.out | refine below_set ?_ GE159.out) | exact HB.out)⟩⟩
    · rw [if_neg c28] at H
      have c28b0 : decide ((wrap64 (2 * (ji12))) ≤ t158) = false := decide_eq_false c28
      clear c28
      (first | rw [c28b0] | (simp only [i64_w, i32_w]; rw [c28b0]) | skip)
      have H' := Aside0.mk H
      clear H
      go_wp2
      repeat (go_quiet (fail); try go_wp2)
      go_meet
      case rel => exact ⟨_, (ji13), H', ⟨by first | omega | exact Nat.le_refl _⟩, ⟨by (repeat ((with_reducible repeat (first | refine blk_drewN ?_ _ | refine blk_drew ?_ | refine blk_alloc ?_ _)); refine blk_far ?_ NB154_159.out _)); (with_reducible repeat (first | refine blk_drewN ?_ _ | refine blk_drew ?_ | refine blk_alloc ?_ _)); exact BK154.out⟩, ⟨by (repeat ((with_reducible repeat (first | refine blk_drewN ?_ _ | refine blk_drew ?_ | refine blk_alloc ?_ _)); refine blk_far ?_ NB155_159.out _)); (with_reducible repeat (first | refine blk_drewN ?_ _ | refine blk_drew ?_ | refine blk_alloc ?_ _)); exact BK155.out⟩, ⟨by (repeat ((with_reducible repeat (first | refine blk_drewN ?_ _ | refine blk_drew ?_ | refine blk_alloc ?_ _)); refine blk_far ?_ NB156_159.out _)); (with_reducible repeat (first | refine blk_drewN ?_ _ | refine blk_drew ?_ | refine blk_alloc ?_ _)); exact BK156.out⟩, ⟨by (with_reducible repeat (first | refine blk_drewN ?_ _ | refine blk_drew ?_ | refine blk_alloc ?_ _)); refine blk_put (cs := #[.int .i64 t157, .int .i64 0]) ?_ 1 _ rfl; refine blk_put (cs := #[.int .i64 0, .int .i64 0]) ?_ 0 _ rfl; (with_reducible repeat (first | refine blk_drewN ?_ _ | refine blk_drew ?_ | refine blk_alloc ?_ _)); exact BK159.out⟩, ⟨by repeat (first | (with_reducible first | exact HB.out | apply below_alloc | apply pw_below_drewN | apply below_drew1 | refine below_set ?_ GE154.out | refine below_set ?_ GE155.out | refine below_set ?_ GE156.out | refine below_set ?_ GE159.out) | exact HB.out)⟩⟩
  case rest =>
    clear HC14
    try clear c1
    try clear c2
    try clear p2
    try clear c3
    try clear p6
    try clear c17
    try clear c18
    try clear c19
    try clear c21
    try clear c24
    try clear c25
    try clear c26
    try clear c28
    try clear c28b0
    try clear c29
    try clear c30
    try clear c31
    try clear hcz20_0
    try clear hcz20_1
    try clear hcz20_2
    try clear hcz20_3
    try clear hcz20_4
    try clear hcz20_5
    try clear hcz22_0
    try clear hcz22_1
    try clear hcz27_0
    try clear hcz27_1
    try clear hcz32_0
    try clear hcz32_1
    try clear hfz20_0
    try clear hfz20_1
    try clear hfz20_2
    try clear hfz20_3
    try clear hfz20_4
    try clear hfz20_5
    try clear hfz22_0
    try clear hfz22_1
    try clear hfz27_0
    try clear hfz27_1
    try clear hfz32_0
    try clear hfz32_1
    obtain ⟨kq, x160001_13, HA, HJ13, BK154, BK155, BK156, BK159, HB⟩ := hcut
    cases kq with
    | zero => exact absurd HA.out (by simp [damperref10_Decide.j0])
    | succ kj13 =>
      have H := HA.out
      clear HA
      simp only [damperref10_Decide.j0] at H
      have HC33 := Aside0.mk H
      clear H
      have hnb34 := NB159_154.out
      have hnc34 := NB154_159.out
      have hnb35 := NB159_155.out
      have hnc35 := NB155_159.out
      have hnb36 := NB159_156.out
      have hnc36 := NB156_159.out
      have hcz37_0 : wc.cell? ⟨gb159, 0, none⟩ = some (.int .i64 t157) := bc BK159 0
      have hcz37_1 : wc.cell? ⟨gb159, 1, none⟩ = some (.int .i64 x160001_13) := bc BK159 1
      have hfz37_0 := blk_frozen BK159.out 0
      have hfz37_1 := blk_frozen BK159.out 1
      go_upto_if 48 with (fail)
      repeat (go_quiet (fail); go_upto_if 48 with (fail))
      go_cut [] (fun wc => ∃ (kq : Nat) (x160000_32 : Int), Aside0 (damperref10_Decide.j1 kq a2 a3 a8 ji12 a0_0 a0_1 a1_0 a1_1 a1_2 a1_3 a1_4 a1_5 x160000_32 x160001_13 = some (r1, r2)) ∧ Aside0 (kq ≤ kj13) ∧ Aside0 (wc.heap[gb154]? = some (.cells #[.int .i64 a0_0, .int .i64 a0_1] 32 (0, 0))) ∧ Aside0 (wc.heap[gb155]? = some (.cells #[.string a1_0, .int .i64 a1_1, .int .i64 a1_2, .int .i64 a1_3, .int .i64 a1_4, .int .i64 a1_5] 25 (0, 0))) ∧ Aside0 (wc.heap[gb156]? = some (.cells #[.int .i64 0, .int .i64 0] 32 (0, 0))) ∧ Aside0 (wc.heap[gb159]? = some (.cells #[.int .i64 x160000_32, .int .i64 x160001_13] 32 (0, 0))) ∧ Aside0 (Below w.heap.size w wc))
      case first =>
        have H := HC33.out
        clear HC33
        by_cases c38 : x160001_13 > 0
        · rw [if_pos c38] at H
          have c38b0 : decide (0 < x160001_13) = true := decide_eq_true c38
          clear c38
          (first | rw [c38b0] | (simp only [i64_w, i32_w]; rw [c38b0]) | skip)
          obtain ⟨ji39, hji39⟩ : ∃ j_ : Int, (mx t157 t158) = j_ := ⟨_, rfl⟩
          replace H : (damperref10_Decide.j1 kj13 a2 a3 a8 ji12 a0_0 a0_1 a1_0 a1_1 a1_2 a1_3 a1_4 a1_5 (mx (ji39) a0_0) x160001_13) = some (r1, r2) := by first | (rw [hji39] at H; exact H) | (simp only [hji39] at H ⊢; exact H)
          have hji39_ : (if t157 < t158 then t158 else t157) = ji39 := hji39
          obtain ⟨ji40, hji40⟩ : ∃ j_ : Int, (mx (ji39) a0_0) = j_ := ⟨_, rfl⟩
          replace H : (damperref10_Decide.j1 kj13 a2 a3 a8 ji12 a0_0 a0_1 a1_0 a1_1 a1_2 a1_3 a1_4 a1_5 ji40 x160001_13) = some (r1, r2) := by first | (rw [hji40] at H; exact H) | (simp only [hji40] at H ⊢; exact H)
          have hji40_ : (if (ji39) < a0_0 then a0_0 else (ji39)) = ji40 := hji40
          have H' := Aside0.mk H
          clear H
          have hnb41 := NB154_155.out
          have hnc41 := NB155_154.out
          have hnb42 := NB154_156.out
          have hnc42 := NB156_154.out
          have hnb43 := NB154_159.out
          have hnc43 := NB159_154.out
          have hcz44_0 : wc.cell? ⟨gb154, 0, none⟩ = some (.int .i64 a0_0) := bc BK154 0
          have hcz44_1 : wc.cell? ⟨gb154, 1, none⟩ = some (.int .i64 a0_1) := bc BK154 1
          have hfz44_0 := blk_frozen BK154.out 0
          have hfz44_1 := blk_frozen BK154.out 1
          have hnb45 := NB159_155.out
          have hnc45 := NB155_159.out
          have hnb46 := NB159_156.out
          have hnc46 := NB156_159.out
          have hcz47_0 : wc.cell? ⟨gb159, 0, none⟩ = some (.int .i64 t157) := bc BK159 0
          have hcz47_1 : wc.cell? ⟨gb159, 1, none⟩ = some (.int .i64 x160001_13) := bc BK159 1
          have hfz47_0 := blk_frozen BK159.out 0
          have hfz47_1 := blk_frozen BK159.out 1
          go_wp2
          repeat (go_quiet (fail); try go_wp2)
          go_meet
          case rel => exact ⟨_, (ji40), H', ⟨by have := HJ13.out; first | omega | exact Nat.le_refl _⟩, ⟨by (with_reducible repeat (first | refine blk_drewN ?_ _ | refine blk_drew ?_ | refine blk_alloc ?_ _)); refine blk_far ?_ NB154_159.out _; (with_reducible repeat (first | refine blk_drewN ?_ _ | refine blk_drew ?_ | refine blk_alloc ?_ _)); exact BK154.out⟩, ⟨by (with_reducible repeat (first | refine blk_drewN ?_ _ | refine blk_drew ?_ | refine blk_alloc ?_ _)); refine blk_far ?_ NB155_159.out _; (with_reducible repeat (first | refine blk_drewN ?_ _ | refine blk_drew ?_ | refine blk_alloc ?_ _)); exact BK155.out⟩, ⟨by (with_reducible repeat (first | refine blk_drewN ?_ _ | refine blk_drew ?_ | refine blk_alloc ?_ _)); refine blk_far ?_ NB156_159.out _; (with_reducible repeat (first | refine blk_drewN ?_ _ | refine blk_drew ?_ | refine blk_alloc ?_ _)); exact BK156.out⟩, ⟨by (with_reducible repeat (first | refine blk_drewN ?_ _ | refine blk_drew ?_ | refine blk_alloc ?_ _)); refine blk_put (cs := #[.int .i64 t157, .int .i64 x160001_13]) ?_ 0 _ rfl; (with_reducible repeat (first | refine blk_drewN ?_ _ | refine blk_drew ?_ | refine blk_alloc ?_ _)); exact BK159.out⟩, ⟨by repeat (first | (with_reducible first | exact HB.out | apply below_alloc | apply pw_below_drewN | apply below_drew1 | refine below_set ?_ GE154.out | refine below_set ?_ GE155.out | refine below_set ?_ GE156.out | refine below_set ?_ GE159.out) | exact HB.out)⟩⟩
        · rw [if_neg c38] at H
          have c38b0 : decide (0 < x160001_13) = false := decide_eq_false c38
          clear c38
          (first | rw [c38b0] | (simp only [i64_w, i32_w]; rw [c38b0]) | skip)
          have H' := Aside0.mk H
          clear H
          go_wp2
          repeat (go_quiet (fail); try go_wp2)
          go_meet
          case rel => exact ⟨_, (t157), H', ⟨by have := HJ13.out; first | omega | exact Nat.le_refl _⟩, ⟨by (with_reducible repeat (first | refine blk_drewN ?_ _ | refine blk_drew ?_ | refine blk_alloc ?_ _)); exact BK154.out⟩, ⟨by (with_reducible repeat (first | refine blk_drewN ?_ _ | refine blk_drew ?_ | refine blk_alloc ?_ _)); exact BK155.out⟩, ⟨by (with_reducible repeat (first | refine blk_drewN ?_ _ | refine blk_drew ?_ | refine blk_alloc ?_ _)); exact BK156.out⟩, ⟨by (with_reducible repeat (first | refine blk_drewN ?_ _ | refine blk_drew ?_ | refine blk_alloc ?_ _)); exact BK159.out⟩, ⟨by repeat (first | (with_reducible first | exact HB.out | apply below_alloc | apply pw_below_drewN | apply below_drew1 | refine below_set ?_ GE154.out | refine below_set ?_ GE155.out | refine below_set ?_ GE156.out | refine below_set ?_ GE159.out) | exact HB.out)⟩⟩
      case rest =>
        clear HC33
        try clear c1
        try clear c2
        try clear p2
        try clear c3
        try clear c4
        try clear p6
        try clear c17
        try clear c18
        try clear c19
        try clear c21
        try clear c24
        try clear c25
        try clear c26
        try clear c28
        try clear c28b0
        try clear c29
        try clear c30
        try clear c31
        try clear c34
        try clear c35
        try clear c36
        try clear c38
        try clear c38b0
        try clear c41
        try clear c42
        try clear c43
        try clear c45
        try clear c46
        try clear hcz20_0
        try clear hcz20_1
        try clear hcz20_2
        try clear hcz20_3
        try clear hcz20_4
        try clear hcz20_5
        try clear hcz22_0
        try clear hcz22_1
        try clear hcz27_0
        try clear hcz27_1
        try clear hcz32_0
        try clear hcz32_1
        try clear hcz37_0
        try clear hcz37_1
        try clear hcz44_0
        try clear hcz44_1
        try clear hcz47_0
        try clear hcz47_1
        try clear hfz20_0
        try clear hfz20_1
        try clear hfz20_2
        try clear hfz20_3
        try clear hfz20_4
        try clear hfz20_5
        try clear hfz22_0
        try clear hfz22_1
        try clear hfz27_0
        try clear hfz27_1
        try clear hfz32_0
        try clear hfz32_1
        try clear hfz37_0
        try clear hfz37_1
        try clear hfz44_0
        try clear hfz44_1
        try clear hfz47_0
        try clear hfz47_1
        try clear p2
        try clear p6
        obtain ⟨kq, x160000_32, HA, HJ32, BK154, BK155, BK156, BK159, HB⟩ := hcut
        cases kq with
        | zero => exact absurd HA.out (by simp [damperref10_Decide.j1])
        | succ kj32 =>
          have H := HA.out
          clear HA
          simp only [damperref10_Decide.j1] at H
          have HC48 := Aside0.mk H
          clear H
          go_upto_region 8 with (fail)
          repeat (go_quiet (fail); go_upto_region 8 with (fail))
          go_cut [72] (fun v72 wc => ∃ (kq : Nat) (x72_47 : Bool), v72 = .bool x72_47 ∧ Aside0 (damperref10_Decide.j2 kq a2 ji12 x72_47 a1_0 a1_1 a1_2 a1_3 a1_4 a1_5 x160000_32 x160001_13 = some (r1, r2)) ∧ Aside0 (kq ≤ kj32) ∧ Aside0 (wc.heap[gb154]? = some (.cells #[.int .i64 a0_0, .int .i64 a0_1] 32 (0, 0))) ∧ Aside0 (wc.heap[gb155]? = some (.cells #[.string a1_0, .int .i64 a1_1, .int .i64 a1_2, .int .i64 a1_3, .int .i64 a1_4, .int .i64 a1_5] 25 (0, 0))) ∧ Aside0 (wc.heap[gb156]? = some (.cells #[.int .i64 0, .int .i64 0] 32 (0, 0))) ∧ Aside0 (wc.heap[gb159]? = some (.cells #[.int .i64 x160000_32, .int .i64 x160001_13] 32 (0, 0))) ∧ Aside0 (Below w.heap.size w wc))
          case first =>
            have H := HC48.out
            clear HC48
            by_cases c49 : x160000_32 = 0
            · rw [if_pos c49] at H
              have c49b0 : (x160000_32 == 0) = true := beq_iff_eq.mpr c49
              have c49b1 : (x160000_32 != 0) = false := bne_eq_false_iff_eq.mpr c49
              clear c49
              (first | rw [c49b0] | (simp only [i64_w, i32_w]; rw [c49b0]) | skip)
              by_cases c50 : a3 > 0
              · rw [if_pos c50] at H
                have c50b0 : decide (0 < a3) = true := decide_eq_true c50
                clear c50
                have H' := Aside0.mk H
                clear H
                have hnb51 := NB159_154.out
                have hnc51 := NB154_159.out
                have hnb52 := NB159_155.out
                have hnc52 := NB155_159.out
                have hnb53 := NB159_156.out
                have hnc53 := NB156_159.out
                have hcz54_0 : wc.cell? ⟨gb159, 0, none⟩ = some (.int .i64 x160000_32) := bc BK159 0
                have hcz54_1 : wc.cell? ⟨gb159, 1, none⟩ = some (.int .i64 x160001_13) := bc BK159 1
                have hfz54_0 := blk_frozen BK159.out 0
                have hfz54_1 := blk_frozen BK159.out 1
                go_wp2
                repeat (go_quiet (fail); try go_wp2)
                go_meet
                case rel => exact ⟨_, (true), (by first | rfl | (simp; done) | (simp [*]; done)), H', ⟨by have := HJ13.out; have := HJ32.out; first | omega | exact Nat.le_refl _⟩, ⟨by (with_reducible repeat (first | refine blk_drewN ?_ _ | refine blk_drew ?_ | refine blk_alloc ?_ _)); exact BK154.out⟩, ⟨by (with_reducible repeat (first | refine blk_drewN ?_ _ | refine blk_drew ?_ | refine blk_alloc ?_ _)); exact BK155.out⟩, ⟨by (with_reducible repeat (first | refine blk_drewN ?_ _ | refine blk_drew ?_ | refine blk_alloc ?_ _)); exact BK156.out⟩, ⟨by (with_reducible repeat (first | refine blk_drewN ?_ _ | refine blk_drew ?_ | refine blk_alloc ?_ _)); exact BK159.out⟩, ⟨by repeat (first | (with_reducible first | exact HB.out | apply below_alloc | apply pw_below_drewN | apply below_drew1 | refine below_set ?_ GE154.out | refine below_set ?_ GE155.out | refine below_set ?_ GE156.out | refine below_set ?_ GE159.out) | exact HB.out)⟩⟩
              · rw [if_neg c50] at H
                have c50b0 : decide (0 < a3) = false := decide_eq_false c50
                clear c50
                by_cases c55 : a0_0 > 0
                · rw [if_pos c55] at H
                  have c55b0 : decide (0 < a0_0) = true := decide_eq_true c55
                  clear c55
                  have H' := Aside0.mk H
                  clear H
                  have hnb56 := NB159_154.out
                  have hnc56 := NB154_159.out
                  have hnb57 := NB159_155.out
                  have hnc57 := NB155_159.out
                  have hnb58 := NB159_156.out
                  have hnc58 := NB156_159.out
                  have hcz59_0 : wc.cell? ⟨gb159, 0, none⟩ = some (.int .i64 x160000_32) := bc BK159 0
                  have hcz59_1 : wc.cell? ⟨gb159, 1, none⟩ = some (.int .i64 x160001_13) := bc BK159 1
                  have hfz59_0 := blk_frozen BK159.out 0
                  have hfz59_1 := blk_frozen BK159.out 1
                  have hnb60 := NB154_155.out
                  have hnc60 := NB155_154.out
                  have hnb61 := NB154_156.out
                  have hnc61 := NB156_154.out
                  have hcz62_0 : wc.cell? ⟨gb154, 0, none⟩ = some (.int .i64 a0_0) := bc BK154 0
                  have hcz62_1 : wc.cell? ⟨gb154, 1, none⟩ = some (.int .i64 a0_1) := bc BK154 1
                  have hfz62_0 := blk_frozen BK154.out 0
                  have hfz62_1 := blk_frozen BK154.out 1
                  have hnb63 := NB155_156.out
                  have hnc63 := NB156_155.out
                  have hcz64_0 : wc.cell? ⟨gb155, 0, none⟩ = some (.string a1_0) := bc BK155 0
                  have hcz64_1 : wc.cell? ⟨gb155, 1, none⟩ = some (.int .i64 a1_1) := bc BK155 1
                  have hcz64_2 : wc.cell? ⟨gb155, 2, none⟩ = some (.int .i64 a1_2) := bc BK155 2
                  have hcz64_3 : wc.cell? ⟨gb155, 3, none⟩ = some (.int .i64 a1_3) := bc BK155 3
                  have hcz64_4 : wc.cell? ⟨gb155, 4, none⟩ = some (.int .i64 a1_4) := bc BK155 4
                  have hcz64_5 : wc.cell? ⟨gb155, 5, none⟩ = some (.int .i64 a1_5) := bc BK155 5
                  have hfz64_0 := blk_frozen BK155.out 0
                  have hfz64_1 := blk_frozen BK155.out 1
                  have hfz64_2 := blk_frozen BK155.out 2
                  have hfz64_3 := blk_frozen BK155.out 3
                  have hfz64_4 := blk_frozen BK155.out 4
                  have hfz64_5 := blk_frozen BK155.out 5
                  go_wp2
                  repeat (go_quiet (fail); try go_wp2)
                  go_meet
                  case rel => exact ⟨_, (decide (a8 < a1_5)), (by first | rfl | (simp; done) | (simp [*]; done)), H', ⟨by have := HJ13.out; have := HJ32.out; first | omega | exact Nat.le_refl _⟩, ⟨by (with_reducible repeat (first | refine blk_drewN ?_ _ | refine blk_drew ?_ | refine blk_alloc ?_ _)); exact BK154.out⟩, ⟨by (with_reducible repeat (first | refine blk_drewN ?_ _ | refine blk_drew ?_ | refine blk_alloc ?_ _)); exact BK155.out⟩, ⟨by (with_reducible repeat (first | refine blk_drewN ?_ _ | refine blk_drew ?_ | refine blk_alloc ?_ _)); exact BK156.out⟩, ⟨by (with_reducible repeat (first | refine blk_drewN ?_ _ | refine blk_drew ?_ | refine blk_alloc ?_ _)); exact BK159.out⟩, ⟨by repeat (first | (with_reducible first | exact HB.out | apply below_alloc | apply pw_below_drewN | apply below_drew1 | refine below_set ?_ GE154.out | refine below_set ?_ GE155.out | refine below_set ?_ GE156.out | refine below_set ?_ GE159.out) | exact HB.out)⟩⟩
                · rw [if_neg c55] at H
                  have c55b0 : decide (0 < a0_0) = false := decide_eq_false c55
                  clear c55
                  have H' := Aside0.mk H
                  clear H
                  have hnb65 := NB159_154.out
                  have hnc65 := NB154_159.out
                  have hnb66 := NB159_155.out
                  have hnc66 := NB155_159.out
                  have hnb67 := NB159_156.out
                  have hnc67 := NB156_159.out
                  have hcz68_0 : wc.cell? ⟨gb159, 0, none⟩ = some (.int .i64 x160000_32) := bc BK159 0
                  have hcz68_1 : wc.cell? ⟨gb159, 1, none⟩ = some (.int .i64 x160001_13) := bc BK159 1
                  have hfz68_0 := blk_frozen BK159.out 0
                  have hfz68_1 := blk_frozen BK159.out 1
                  have hnb69 := NB154_155.out
                  have hnc69 := NB155_154.out
                  have hnb70 := NB154_156.out
                  have hnc70 := NB156_154.out
                  have hcz71_0 : wc.cell? ⟨gb154, 0, none⟩ = some (.int .i64 a0_0) := bc BK154 0
                  have hcz71_1 : wc.cell? ⟨gb154, 1, none⟩ = some (.int .i64 a0_1) := bc BK154 1
                  have hfz71_0 := blk_frozen BK154.out 0
                  have hfz71_1 := blk_frozen BK154.out 1
                  go_wp2
                  repeat (go_quiet (fail); try go_wp2)
                  go_meet
                  case rel => exact ⟨_, (false), (by first | rfl | (simp; done) | (simp [*]; done)), H', ⟨by have := HJ13.out; have := HJ32.out; first | omega | exact Nat.le_refl _⟩, ⟨by (with_reducible repeat (first | refine blk_drewN ?_ _ | refine blk_drew ?_ | refine blk_alloc ?_ _)); exact BK154.out⟩, ⟨by (with_reducible repeat (first | refine blk_drewN ?_ _ | refine blk_drew ?_ | refine blk_alloc ?_ _)); exact BK155.out⟩, ⟨by (with_reducible repeat (first | refine blk_drewN ?_ _ | refine blk_drew ?_ | refine blk_alloc ?_ _)); exact BK156.out⟩, ⟨by (with_reducible repeat (first | refine blk_drewN ?_ _ | refine blk_drew ?_ | refine blk_alloc ?_ _)); exact BK159.out⟩, ⟨by repeat (first | (with_reducible first | exact HB.out | apply below_alloc | apply pw_below_drewN | apply below_drew1 | refine below_set ?_ GE154.out | refine below_set ?_ GE155.out | refine below_set ?_ GE156.out | refine below_set ?_ GE159.out) | exact HB.out)⟩⟩
            · rw [if_neg c49] at H
              have c49b0 : (x160000_32 == 0) = false := beq_eq_false_iff_ne.mpr c49
              have c49b1 : (x160000_32 != 0) = true := bne_iff_ne.mpr c49
              (first | rw [c49b0] | (simp only [i64_w, i32_w]; rw [c49b0]) | skip)
              have H' := Aside0.mk H
              clear H
              have hnb72 := NB159_154.out
              have hnc72 := NB154_159.out
              have hnb73 := NB159_155.out
              have hnc73 := NB155_159.out
              have hnb74 := NB159_156.out
              have hnc74 := NB156_159.out
              have hcz75_0 : wc.cell? ⟨gb159, 0, none⟩ = some (.int .i64 x160000_32) := bc BK159 0
              have hcz75_1 : wc.cell? ⟨gb159, 1, none⟩ = some (.int .i64 x160001_13) := bc BK159 1
              have hfz75_0 := blk_frozen BK159.out 0
              have hfz75_1 := blk_frozen BK159.out 1
              go_wp2
              repeat (go_quiet (fail); try go_wp2)
              go_meet
              case rel => exact ⟨_, (false), (by first | rfl | (simp; done) | (simp [*]; done)), H', ⟨by have := HJ13.out; have := HJ32.out; first | omega | exact Nat.le_refl _⟩, ⟨by (with_reducible repeat (first | refine blk_drewN ?_ _ | refine blk_drew ?_ | refine blk_alloc ?_ _)); exact BK154.out⟩, ⟨by (with_reducible repeat (first | refine blk_drewN ?_ _ | refine blk_drew ?_ | refine blk_alloc ?_ _)); exact BK155.out⟩, ⟨by (with_reducible repeat (first | refine blk_drewN ?_ _ | refine blk_drew ?_ | refine blk_alloc ?_ _)); exact BK156.out⟩, ⟨by (with_reducible repeat (first | refine blk_drewN ?_ _ | refine blk_drew ?_ | refine blk_alloc ?_ _)); exact BK159.out⟩, ⟨by repeat (first | (with_reducible first | exact HB.out | apply below_alloc | apply pw_below_drewN | apply below_drew1 | refine below_set ?_ GE154.out | refine below_set ?_ GE155.out | refine below_set ?_ GE156.out | refine below_set ?_ GE159.out) | exact HB.out)⟩⟩
          case rest =>
            clear HC48
            try clear c1
            try clear c2
            try clear p2
            try clear c3
            try clear c4
            try clear c5
            try clear c6
            try clear p6
            try clear c7
            try clear c17
            try clear c18
            try clear c19
            try clear c21
            try clear c24
            try clear c25
            try clear c26
            try clear c28
            try clear c28b0
            try clear c29
            try clear c30
            try clear c31
            try clear c34
            try clear c35
            try clear c36
            try clear c38
            try clear c38b0
            try clear c41
            try clear c42
            try clear c43
            try clear c45
            try clear c46
            try clear c49
            try clear c49b0
            try clear c49b1
            try clear c50
            try clear c50b0
            try clear c51
            try clear c52
            try clear c53
            try clear c55
            try clear c55b0
            try clear c56
            try clear c57
            try clear c58
            try clear c60
            try clear c61
            try clear c63
            try clear p64
            try clear c65
            try clear c66
            try clear c67
            try clear c69
            try clear c70
            try clear c72
            try clear c73
            try clear c74
            try clear hcz20_0
            try clear hcz20_1
            try clear hcz20_2
            try clear hcz20_3
            try clear hcz20_4
            try clear hcz20_5
            try clear hcz22_0
            try clear hcz22_1
            try clear hcz27_0
            try clear hcz27_1
            try clear hcz32_0
            try clear hcz32_1
            try clear hcz37_0
            try clear hcz37_1
            try clear hcz44_0
            try clear hcz44_1
            try clear hcz47_0
            try clear hcz47_1
            try clear hcz54_0
            try clear hcz54_1
            try clear hcz59_0
            try clear hcz59_1
            try clear hcz62_0
            try clear hcz62_1
            try clear hcz64_0
            try clear hcz64_1
            try clear hcz64_2
            try clear hcz64_3
            try clear hcz64_4
            try clear hcz64_5
            try clear hcz68_0
            try clear hcz68_1
            try clear hcz71_0
            try clear hcz71_1
            try clear hcz75_0
            try clear hcz75_1
            try clear hfz20_0
            try clear hfz20_1
            try clear hfz20_2
            try clear hfz20_3
            try clear hfz20_4
            try clear hfz20_5
            try clear hfz22_0
            try clear hfz22_1
            try clear hfz27_0
            try clear hfz27_1
            try clear hfz32_0
            try clear hfz32_1
            try clear hfz37_0
            try clear hfz37_1
            try clear hfz44_0
            try clear hfz44_1
            try clear hfz47_0
            try clear hfz47_1
            try clear hfz54_0
            try clear hfz54_1
            try clear hfz59_0
            try clear hfz59_1
            try clear hfz62_0
            try clear hfz62_1
            try clear hfz64_0
            try clear hfz64_1
            try clear hfz64_2
            try clear hfz64_3
            try clear hfz64_4
            try clear hfz64_5
            try clear hfz68_0
            try clear hfz68_1
            try clear hfz71_0
            try clear hfz71_1
            try clear hfz75_0
            try clear hfz75_1
            try clear p2
            try clear p6
            obtain ⟨kq, x72_47, rfl, HA, HJ47, BK154, BK155, BK156, BK159, HB⟩ := hcut
            cases kq with
            | zero => exact absurd HA.out (by simp [damperref10_Decide.j2])
            | succ kj47 =>
              have H := HA.out
              clear HA
              simp only [damperref10_Decide.j2] at H
              by_cases c76 : x72_47 = true
              · subst c76
                have H1 : (damperref10_Decide.j3 kj47 a2 a1_0 a1_1 a1_2 a1_3 a1_4 a1_5 (mn 1 (wrap64 (4 * ji12))) x160001_13) = some (r1, r2) := by rw [if_pos rfl] at H; exact H
                clear H
                have H := H1
                clear H1
                have HC77 := Aside0.mk H
                clear H
                have hnb78 := NB159_154.out
                have hnc78 := NB154_159.out
                have hnb79 := NB159_155.out
                have hnc79 := NB155_159.out
                have hnb80 := NB159_156.out
                have hnc80 := NB156_159.out
                have hcz81_0 : wc.cell? ⟨gb159, 0, none⟩ = some (.int .i64 x160000_32) := bc BK159 0
                have hcz81_1 : wc.cell? ⟨gb159, 1, none⟩ = some (.int .i64 x160001_13) := bc BK159 1
                have hfz81_0 := blk_frozen BK159.out 0
                have hfz81_1 := blk_frozen BK159.out 1
                go_upto_region 10 with (fail)
                repeat (go_quiet (fail); go_upto_region 10 with (fail))
                go_cut [] (fun wc => ∃ (kq : Nat) (x160000_76 : Int), Aside0 (damperref10_Decide.j3 kq a2 a1_0 a1_1 a1_2 a1_3 a1_4 a1_5 x160000_76 x160001_13 = some (r1, r2)) ∧ Aside0 (kq ≤ kj47) ∧ Aside0 (wc.heap[gb154]? = some (.cells #[.int .i64 a0_0, .int .i64 a0_1] 32 (0, 0))) ∧ Aside0 (wc.heap[gb155]? = some (.cells #[.string a1_0, .int .i64 a1_1, .int .i64 a1_2, .int .i64 a1_3, .int .i64 a1_4, .int .i64 a1_5] 25 (0, 0))) ∧ Aside0 (wc.heap[gb156]? = some (.cells #[.int .i64 0, .int .i64 0] 32 (0, 0))) ∧ Aside0 (wc.heap[gb159]? = some (.cells #[.int .i64 x160000_76, .int .i64 x160001_13] 32 (0, 0))) ∧ Aside0 (Below w.heap.size w wc))
                case first =>
                  have H := HC77.out
                  clear HC77
                  obtain ⟨ji82, hji82⟩ : ∃ j_ : Int, (mn 1 (wrap64 (4 * ji12))) = j_ := ⟨_, rfl⟩
                  replace H : (damperref10_Decide.j3 kj47 a2 a1_0 a1_1 a1_2 a1_3 a1_4 a1_5 ji82 x160001_13) = some (r1, r2) := by first | (rw [hji82] at H; exact H) | (simp only [hji82] at H ⊢; exact H)
                  have hji82_ : (if (wrap64 (4 * ji12)) < 1 then (wrap64 (4 * ji12)) else 1) = ji82 := hji82
                  have H' := Aside0.mk H
                  clear H
                  have hnb83 := NB159_154.out
                  have hnc83 := NB154_159.out
                  have hnb84 := NB159_155.out
                  have hnc84 := NB155_159.out
                  have hnb85 := NB159_156.out
                  have hnc85 := NB156_159.out
                  have hcz86_0 : wc.cell? ⟨gb159, 0, none⟩ = some (.int .i64 x160000_32) := bc BK159 0
                  have hcz86_1 : wc.cell? ⟨gb159, 1, none⟩ = some (.int .i64 x160001_13) := bc BK159 1
                  have hfz86_0 := blk_frozen BK159.out 0
                  have hfz86_1 := blk_frozen BK159.out 1
                  go_wp2
                  repeat (go_quiet (fail); try go_wp2)
                  go_meet
                  case rel => exact ⟨_, (ji82), H', ⟨by have := HJ13.out; have := HJ32.out; have := HJ47.out; first | omega | exact Nat.le_refl _⟩, ⟨by (repeat ((with_reducible repeat (first | refine blk_drewN ?_ _ | refine blk_drew ?_ | refine blk_alloc ?_ _)); refine blk_far ?_ NB154_159.out _)); (with_reducible repeat (first | refine blk_drewN ?_ _ | refine blk_drew ?_ | refine blk_alloc ?_ _)); exact BK154.out⟩, ⟨by (repeat ((with_reducible repeat (first | refine blk_drewN ?_ _ | refine blk_drew ?_ | refine blk_alloc ?_ _)); refine blk_far ?_ NB155_159.out _)); (with_reducible repeat (first | refine blk_drewN ?_ _ | refine blk_drew ?_ | refine blk_alloc ?_ _)); exact BK155.out⟩, ⟨by (repeat ((with_reducible repeat (first | refine blk_drewN ?_ _ | refine blk_drew ?_ | refine blk_alloc ?_ _)); refine blk_far ?_ NB156_159.out _)); (with_reducible repeat (first | refine blk_drewN ?_ _ | refine blk_drew ?_ | refine blk_alloc ?_ _)); exact BK156.out⟩, ⟨by (with_reducible repeat (first | refine blk_drewN ?_ _ | refine blk_drew ?_ | refine blk_alloc ?_ _)); refine blk_put (cs := #[.int .i64 1, .int .i64 x160001_13]) ?_ 0 _ rfl; refine blk_put (cs := #[.int .i64 x160000_32, .int .i64 x160001_13]) ?_ 0 _ rfl; (with_reducible repeat (first | refine blk_drewN ?_ _ | refine blk_drew ?_ | refine blk_alloc ?_ _)); exact BK159.out⟩, ⟨by repeat (first | (with_reducible first | exact HB.out | apply below_alloc | apply pw_below_drewN | apply below_drew1 | refine below_set ?_ GE154.out | refine below_set ?_ GE155.out | refine below_set ?_ GE156.out | refine below_set ?_ GE159.out) | exact HB.out)⟩⟩
                case rest =>
                  clear HC77
                  try clear c1
                  try clear c2
                  try clear p2
                  try clear c3
                  try clear c4
                  try clear c5
                  try clear c6
                  try clear p6
                  try clear c7
                  try clear c8
                  try clear c17
                  try clear c18
                  try clear c19
                  try clear c21
                  try clear c24
                  try clear c25
                  try clear c26
                  try clear c28
                  try clear c28b0
                  try clear c29
                  try clear c30
                  try clear c31
                  try clear c34
                  try clear c35
                  try clear c36
                  try clear c38
                  try clear c38b0
                  try clear c41
                  try clear c42
                  try clear c43
                  try clear c45
                  try clear c46
                  try clear c49
                  try clear c49b0
                  try clear c49b1
                  try clear c50
                  try clear c50b0
                  try clear c51
                  try clear c52
                  try clear c53
                  try clear c55
                  try clear c55b0
                  try clear c56
                  try clear c57
                  try clear c58
                  try clear c60
                  try clear c61
                  try clear c63
                  try clear p64
                  try clear c65
                  try clear c66
                  try clear c67
                  try clear c69
                  try clear c70
                  try clear c72
                  try clear c73
                  try clear c74
                  try clear c76
                  try clear c78
                  try clear c79
                  try clear c80
                  try clear c83
                  try clear c84
                  try clear c85
                  try clear hcz20_0
                  try clear hcz20_1
                  try clear hcz20_2
                  try clear hcz20_3
                  try clear hcz20_4
                  try clear hcz20_5
                  try clear hcz22_0
                  try clear hcz22_1
                  try clear hcz27_0
                  try clear hcz27_1
                  try clear hcz32_0
                  try clear hcz32_1
                  try clear hcz37_0
                  try clear hcz37_1
                  try clear hcz44_0
                  try clear hcz44_1
                  try clear hcz47_0
                  try clear hcz47_1
                  try clear hcz54_0
                  try clear hcz54_1
                  try clear hcz59_0
                  try clear hcz59_1
                  try clear hcz62_0
                  try clear hcz62_1
                  try clear hcz64_0
                  try clear hcz64_1
                  try clear hcz64_2
                  try clear hcz64_3
                  try clear hcz64_4
                  try clear hcz64_5
                  try clear hcz68_0
                  try clear hcz68_1
                  try clear hcz71_0
                  try clear hcz71_1
                  try clear hcz75_0
                  try clear hcz75_1
                  try clear hcz81_0
                  try clear hcz81_1
                  try clear hcz86_0
                  try clear hcz86_1
                  try clear hfz20_0
                  try clear hfz20_1
                  try clear hfz20_2
                  try clear hfz20_3
                  try clear hfz20_4
                  try clear hfz20_5
                  try clear hfz22_0
                  try clear hfz22_1
                  try clear hfz27_0
                  try clear hfz27_1
                  try clear hfz32_0
                  try clear hfz32_1
                  try clear hfz37_0
                  try clear hfz37_1
                  try clear hfz44_0
                  try clear hfz44_1
                  try clear hfz47_0
                  try clear hfz47_1
                  try clear hfz54_0
                  try clear hfz54_1
                  try clear hfz59_0
                  try clear hfz59_1
                  try clear hfz62_0
                  try clear hfz62_1
                  try clear hfz64_0
                  try clear hfz64_1
                  try clear hfz64_2
                  try clear hfz64_3
                  try clear hfz64_4
                  try clear hfz64_5
                  try clear hfz68_0
                  try clear hfz68_1
                  try clear hfz71_0
                  try clear hfz71_1
                  try clear hfz75_0
                  try clear hfz75_1
                  try clear hfz81_0
                  try clear hfz81_1
                  try clear hfz86_0
                  try clear hfz86_1
                  try clear p2
                  try clear p6
                  try clear p64
                  obtain ⟨kq, x160000_76, HA, HJ76, BK154, BK155, BK156, BK159, HB⟩ := hcut
                  cases kq with
                  | zero => exact absurd HA.out (by simp [damperref10_Decide.j3])
                  | succ kj76 =>
                    have H := HA.out
                    clear HA
                    simp only [damperref10_Decide.j3] at H
                    have HC87 := Aside0.mk H
                    clear H
                    go_upto_region 11 with (fail)
                    repeat (go_quiet (fail); go_upto_region 11 with (fail))
                    go_cut [] (fun wc => ∃ (kq : Nat) (x160000_86 : Int), Aside0 (damperref10_Decide.j4 kq a1_0 a1_1 a1_2 a1_3 a1_4 a1_5 x160000_86 x160001_13 = some (r1, r2)) ∧ Aside0 (kq ≤ kj76) ∧ Aside0 (wc.heap[gb154]? = some (.cells #[.int .i64 a0_0, .int .i64 a0_1] 32 (0, 0))) ∧ Aside0 (wc.heap[gb155]? = some (.cells #[.string a1_0, .int .i64 a1_1, .int .i64 a1_2, .int .i64 a1_3, .int .i64 a1_4, .int .i64 a1_5] 25 (0, 0))) ∧ Aside0 (wc.heap[gb156]? = some (.cells #[.int .i64 0, .int .i64 0] 32 (0, 0))) ∧ Aside0 (wc.heap[gb159]? = some (.cells #[.int .i64 x160000_86, .int .i64 x160001_13] 32 (0, 0))) ∧ Aside0 (Below w.heap.size w wc))
                    case first =>
                      have H := HC87.out
                      clear HC87
                      obtain ⟨ji88, hji88⟩ : ∃ j_ : Int, (mx x160000_76 (wrap64 (Int.tdiv a2 2))) = j_ := ⟨_, rfl⟩
                      replace H : (damperref10_Decide.j4 kj76 a1_0 a1_1 a1_2 a1_3 a1_4 a1_5 ji88 x160001_13) = some (r1, r2) := by first | (rw [hji88] at H; exact H) | (simp only [hji88] at H ⊢; exact H)
                      have hji88_ : (if x160000_76 < (wrap64 (Int.tdiv a2 2)) then (wrap64 (Int.tdiv a2 2)) else x160000_76) = ji88 := hji88
                      have H' := Aside0.mk H
                      clear H
                      have hnb89 := NB159_154.out
                      have hnc89 := NB154_159.out
                      have hnb90 := NB159_155.out
                      have hnc90 := NB155_159.out
                      have hnb91 := NB159_156.out
                      have hnc91 := NB156_159.out
                      have hcz92_0 : wc.cell? ⟨gb159, 0, none⟩ = some (.int .i64 x160000_76) := bc BK159 0
                      have hcz92_1 : wc.cell? ⟨gb159, 1, none⟩ = some (.int .i64 x160001_13) := bc BK159 1
                      have hfz92_0 := blk_frozen BK159.out 0
                      have hfz92_1 := blk_frozen BK159.out 1
                      go_wp2
                      repeat (go_quiet (fail); try go_wp2)
                      go_meet
                      case rel => exact ⟨_, (ji88), H', ⟨by have := HJ13.out; have := HJ32.out; have := HJ47.out; have := HJ76.out; first | omega | exact Nat.le_refl _⟩, ⟨by (with_reducible repeat (first | refine blk_drewN ?_ _ | refine blk_drew ?_ | refine blk_alloc ?_ _)); refine blk_far ?_ NB154_159.out _; (with_reducible repeat (first | refine blk_drewN ?_ _ | refine blk_drew ?_ | refine blk_alloc ?_ _)); exact BK154.out⟩, ⟨by (with_reducible repeat (first | refine blk_drewN ?_ _ | refine blk_drew ?_ | refine blk_alloc ?_ _)); refine blk_far ?_ NB155_159.out _; (with_reducible repeat (first | refine blk_drewN ?_ _ | refine blk_drew ?_ | refine blk_alloc ?_ _)); exact BK155.out⟩, ⟨by (with_reducible repeat (first | refine blk_drewN ?_ _ | refine blk_drew ?_ | refine blk_alloc ?_ _)); refine blk_far ?_ NB156_159.out _; (with_reducible repeat (first | refine blk_drewN ?_ _ | refine blk_drew ?_ | refine blk_alloc ?_ _)); exact BK156.out⟩, ⟨by (with_reducible repeat (first | refine blk_drewN ?_ _ | refine blk_drew ?_ | refine blk_alloc ?_ _)); refine blk_put (cs := #[.int .i64 x160000_76, .int .i64 x160001_13]) ?_ 0 _ rfl; (with_reducible repeat (first | refine blk_drewN ?_ _ | refine blk_drew ?_ | refine blk_alloc ?_ _)); exact BK159.out⟩, ⟨by repeat (first | (with_reducible first | exact HB.out | apply below_alloc | apply pw_below_drewN | apply below_drew1 | refine below_set ?_ GE154.out | refine below_set ?_ GE155.out | refine below_set ?_ GE156.out | refine below_set ?_ GE159.out) | exact HB.out)⟩⟩
                    case rest =>
                      clear HC87
                      try clear c1
                      try clear c2
                      try clear p2
                      try clear c3
                      try clear c4
                      try clear c5
                      try clear c6
                      try clear p6
                      try clear c7
                      try clear c8
                      try clear c9
                      try clear c17
                      try clear c18
                      try clear c19
                      try clear c21
                      try clear c24
                      try clear c25
                      try clear c26
                      try clear c28
                      try clear c28b0
                      try clear c29
                      try clear c30
                      try clear c31
                      try clear c34
                      try clear c35
                      try clear c36
                      try clear c38
                      try clear c38b0
                      try clear c41
                      try clear c42
                      try clear c43
                      try clear c45
                      try clear c46
                      try clear c49
                      try clear c49b0
                      try clear c49b1
                      try clear c50
                      try clear c50b0
                      try clear c51
                      try clear c52
                      try clear c53
                      try clear c55
                      try clear c55b0
                      try clear c56
                      try clear c57
                      try clear c58
                      try clear c60
                      try clear c61
                      try clear c63
                      try clear p64
                      try clear c65
                      try clear c66
                      try clear c67
                      try clear c69
                      try clear c70
                      try clear c72
                      try clear c73
                      try clear c74
                      try clear c76
                      try clear c78
                      try clear c79
                      try clear c80
                      try clear c83
                      try clear c84
                      try clear c85
                      try clear c89
                      try clear c90
                      try clear c91
                      try clear hcz20_0
                      try clear hcz20_1
                      try clear hcz20_2
                      try clear hcz20_3
                      try clear hcz20_4
                      try clear hcz20_5
                      try clear hcz22_0
                      try clear hcz22_1
                      try clear hcz27_0
                      try clear hcz27_1
                      try clear hcz32_0
                      try clear hcz32_1
                      try clear hcz37_0
                      try clear hcz37_1
                      try clear hcz44_0
                      try clear hcz44_1
                      try clear hcz47_0
                      try clear hcz47_1
                      try clear hcz54_0
                      try clear hcz54_1
                      try clear hcz59_0
                      try clear hcz59_1
                      try clear hcz62_0
                      try clear hcz62_1
                      try clear hcz64_0
                      try clear hcz64_1
                      try clear hcz64_2
                      try clear hcz64_3
                      try clear hcz64_4
                      try clear hcz64_5
                      try clear hcz68_0
                      try clear hcz68_1
                      try clear hcz71_0
                      try clear hcz71_1
                      try clear hcz75_0
                      try clear hcz75_1
                      try clear hcz81_0
                      try clear hcz81_1
                      try clear hcz86_0
                      try clear hcz86_1
                      try clear hcz92_0
                      try clear hcz92_1
                      try clear hfz20_0
                      try clear hfz20_1
                      try clear hfz20_2
                      try clear hfz20_3
                      try clear hfz20_4
                      try clear hfz20_5
                      try clear hfz22_0
                      try clear hfz22_1
                      try clear hfz27_0
                      try clear hfz27_1
                      try clear hfz32_0
                      try clear hfz32_1
                      try clear hfz37_0
                      try clear hfz37_1
                      try clear hfz44_0
                      try clear hfz44_1
                      try clear hfz47_0
                      try clear hfz47_1
                      try clear hfz54_0
                      try clear hfz54_1
                      try clear hfz59_0
                      try clear hfz59_1
                      try clear hfz62_0
                      try clear hfz62_1
                      try clear hfz64_0
                      try clear hfz64_1
                      try clear hfz64_2
                      try clear hfz64_3
                      try clear hfz64_4
                      try clear hfz64_5
                      try clear hfz68_0
                      try clear hfz68_1
                      try clear hfz71_0
                      try clear hfz71_1
                      try clear hfz75_0
                      try clear hfz75_1
                      try clear hfz81_0
                      try clear hfz81_1
                      try clear hfz86_0
                      try clear hfz86_1
                      try clear hfz92_0
                      try clear hfz92_1
                      try clear p2
                      try clear p6
                      try clear p64
                      obtain ⟨kq, x160000_86, HA, HJ86, BK154, BK155, BK156, BK159, HB⟩ := hcut
                      cases kq with
                      | zero => exact absurd HA.out (by simp [damperref10_Decide.j4])
                      | succ kj86 =>
                        have H := HA.out
                        clear HA
                        simp only [damperref10_Decide.j4] at H
                        have HC93 := Aside0.mk H
                        clear H
                        go_upto_region 12 with (fail)
                        repeat (go_quiet (fail); go_upto_region 12 with (fail))
                        go_cut [] (fun wc => ∃ (kq : Nat) (x160000_92 : Int), Aside0 (damperref10_Decide.j5 kq a1_0 a1_1 a1_2 a1_3 a1_4 a1_5 x160000_92 x160001_13 = some (r1, r2)) ∧ Aside0 (kq ≤ kj86) ∧ Aside0 (wc.heap[gb154]? = some (.cells #[.int .i64 a0_0, .int .i64 a0_1] 32 (0, 0))) ∧ Aside0 (wc.heap[gb155]? = some (.cells #[.string a1_0, .int .i64 a1_1, .int .i64 a1_2, .int .i64 a1_3, .int .i64 a1_4, .int .i64 a1_5] 25 (0, 0))) ∧ Aside0 (wc.heap[gb156]? = some (.cells #[.int .i64 0, .int .i64 0] 32 (0, 0))) ∧ Aside0 (wc.heap[gb159]? = some (.cells #[.int .i64 x160000_92, .int .i64 x160001_13] 32 (0, 0))) ∧ Aside0 (Below w.heap.size w wc))
                        case first =>
                          have H := HC93.out
                          clear HC93
                          obtain ⟨ji94, hji94⟩ : ∃ j_ : Int, (mx x160000_86 a1_3) = j_ := ⟨_, rfl⟩
                          replace H : (damperref10_Decide.j5 kj86 a1_0 a1_1 a1_2 a1_3 a1_4 a1_5 ji94 x160001_13) = some (r1, r2) := by first | (rw [hji94] at H; exact H) | (simp only [hji94] at H ⊢; exact H)
                          have hji94_ : (if x160000_86 < a1_3 then a1_3 else x160000_86) = ji94 := hji94
                          have H' := Aside0.mk H
                          clear H
                          have hnb95 := NB159_154.out
                          have hnc95 := NB154_159.out
                          have hnb96 := NB159_155.out
                          have hnc96 := NB155_159.out
                          have hnb97 := NB159_156.out
                          have hnc97 := NB156_159.out
                          have hcz98_0 : wc.cell? ⟨gb159, 0, none⟩ = some (.int .i64 x160000_86) := bc BK159 0
                          have hcz98_1 : wc.cell? ⟨gb159, 1, none⟩ = some (.int .i64 x160001_13) := bc BK159 1
                          have hfz98_0 := blk_frozen BK159.out 0
                          have hfz98_1 := blk_frozen BK159.out 1
                          have hnb99 := NB155_154.out
                          have hnc99 := NB154_155.out
                          have hnb100 := NB155_156.out
                          have hnc100 := NB156_155.out
                          have hcz101_0 : wc.cell? ⟨gb155, 0, none⟩ = some (.string a1_0) := bc BK155 0
                          have hcz101_1 : wc.cell? ⟨gb155, 1, none⟩ = some (.int .i64 a1_1) := bc BK155 1
                          have hcz101_2 : wc.cell? ⟨gb155, 2, none⟩ = some (.int .i64 a1_2) := bc BK155 2
                          have hcz101_3 : wc.cell? ⟨gb155, 3, none⟩ = some (.int .i64 a1_3) := bc BK155 3
                          have hcz101_4 : wc.cell? ⟨gb155, 4, none⟩ = some (.int .i64 a1_4) := bc BK155 4
                          have hcz101_5 : wc.cell? ⟨gb155, 5, none⟩ = some (.int .i64 a1_5) := bc BK155 5
                          have hfz101_0 := blk_frozen BK155.out 0
                          have hfz101_1 := blk_frozen BK155.out 1
                          have hfz101_2 := blk_frozen BK155.out 2
                          have hfz101_3 := blk_frozen BK155.out 3
                          have hfz101_4 := blk_frozen BK155.out 4
                          have hfz101_5 := blk_frozen BK155.out 5
                          go_wp2
                          repeat (go_quiet (fail); try go_wp2)
                          go_meet
                          case rel => exact ⟨_, (ji94), H', ⟨by have := HJ13.out; have := HJ32.out; have := HJ47.out; have := HJ76.out; have := HJ86.out; first | omega | exact Nat.le_refl _⟩, ⟨by (with_reducible repeat (first | refine blk_drewN ?_ _ | refine blk_drew ?_ | refine blk_alloc ?_ _)); refine blk_far ?_ NB154_159.out _; (with_reducible repeat (first | refine blk_drewN ?_ _ | refine blk_drew ?_ | refine blk_alloc ?_ _)); exact BK154.out⟩, ⟨by (with_reducible repeat (first | refine blk_drewN ?_ _ | refine blk_drew ?_ | refine blk_alloc ?_ _)); refine blk_far ?_ NB155_159.out _; (with_reducible repeat (first | refine blk_drewN ?_ _ | refine blk_drew ?_ | refine blk_alloc ?_ _)); exact BK155.out⟩, ⟨by (with_reducible repeat (first | refine blk_drewN ?_ _ | refine blk_drew ?_ | refine blk_alloc ?_ _)); refine blk_far ?_ NB156_159.out _; (with_reducible repeat (first | refine blk_drewN ?_ _ | refine blk_drew ?_ | refine blk_alloc ?_ _)); exact BK156.out⟩, ⟨by (with_reducible repeat (first | refine blk_drewN ?_ _ | refine blk_drew ?_ | refine blk_alloc ?_ _)); refine blk_put (cs := #[.int .i64 x160000_86, .int .i64 x160001_13]) ?_ 0 _ rfl; (with_reducible repeat (first | refine blk_drewN ?_ _ | refine blk_drew ?_ | refine blk_alloc ?_ _)); exact BK159.out⟩, ⟨by repeat (first | (with_reducible first | exact HB.out | apply below_alloc | apply pw_below_drewN | apply below_drew1 | refine below_set ?_ GE154.out | refine below_set ?_ GE155.out | refine below_set ?_ GE156.out | refine below_set ?_ GE159.out) | exact HB.out)⟩⟩
                        case rest =>
                          clear HC93
                          try clear c1
                          try clear c2
                          try clear p2
                          try clear c3
                          try clear c4
                          try clear c5
                          try clear c6
                          try clear p6
                          try clear c7
                          try clear c8
                          try clear c9
                          try clear c10
                          try clear c17
                          try clear c18
                          try clear c19
                          try clear c21
                          try clear c24
                          try clear c25
                          try clear c26
                          try clear c28
                          try clear c28b0
                          try clear c29
                          try clear c30
                          try clear c31
                          try clear c34
                          try clear c35
                          try clear c36
                          try clear c38
                          try clear c38b0
                          try clear c41
                          try clear c42
                          try clear c43
                          try clear c45
                          try clear c46
                          try clear c49
                          try clear c49b0
                          try clear c49b1
                          try clear c50
                          try clear c50b0
                          try clear c51
                          try clear c52
                          try clear c53
                          try clear c55
                          try clear c55b0
                          try clear c56
                          try clear c57
                          try clear c58
                          try clear c60
                          try clear c61
                          try clear c63
                          try clear p64
                          try clear c65
                          try clear c66
                          try clear c67
                          try clear c69
                          try clear c70
                          try clear c72
                          try clear c73
                          try clear c74
                          try clear c76
                          try clear c78
                          try clear c79
                          try clear c80
                          try clear c83
                          try clear c84
                          try clear c85
                          try clear c89
                          try clear c90
                          try clear c91
                          try clear c95
                          try clear c96
                          try clear c97
                          try clear c99
                          try clear c100
                          try clear hcz101_0
                          try clear hcz101_1
                          try clear hcz101_2
                          try clear hcz101_3
                          try clear hcz101_4
                          try clear hcz101_5
                          try clear hcz20_0
                          try clear hcz20_1
                          try clear hcz20_2
                          try clear hcz20_3
                          try clear hcz20_4
                          try clear hcz20_5
                          try clear hcz22_0
                          try clear hcz22_1
                          try clear hcz27_0
                          try clear hcz27_1
                          try clear hcz32_0
                          try clear hcz32_1
                          try clear hcz37_0
                          try clear hcz37_1
                          try clear hcz44_0
                          try clear hcz44_1
                          try clear hcz47_0
                          try clear hcz47_1
                          try clear hcz54_0
                          try clear hcz54_1
                          try clear hcz59_0
                          try clear hcz59_1
                          try clear hcz62_0
                          try clear hcz62_1
                          try clear hcz64_0
                          try clear hcz64_1
                          try clear hcz64_2
                          try clear hcz64_3
                          try clear hcz64_4
                          try clear hcz64_5
                          try clear hcz68_0
                          try clear hcz68_1
                          try clear hcz71_0
                          try clear hcz71_1
                          try clear hcz75_0
                          try clear hcz75_1
                          try clear hcz81_0
                          try clear hcz81_1
                          try clear hcz86_0
                          try clear hcz86_1
                          try clear hcz92_0
                          try clear hcz92_1
                          try clear hcz98_0
                          try clear hcz98_1
                          try clear hfz101_0
                          try clear hfz101_1
                          try clear hfz101_2
                          try clear hfz101_3
                          try clear hfz101_4
                          try clear hfz101_5
                          try clear hfz20_0
                          try clear hfz20_1
                          try clear hfz20_2
                          try clear hfz20_3
                          try clear hfz20_4
                          try clear hfz20_5
                          try clear hfz22_0
                          try clear hfz22_1
                          try clear hfz27_0
                          try clear hfz27_1
                          try clear hfz32_0
                          try clear hfz32_1
                          try clear hfz37_0
                          try clear hfz37_1
                          try clear hfz44_0
                          try clear hfz44_1
                          try clear hfz47_0
                          try clear hfz47_1
                          try clear hfz54_0
                          try clear hfz54_1
                          try clear hfz59_0
                          try clear hfz59_1
                          try clear hfz62_0
                          try clear hfz62_1
                          try clear hfz64_0
                          try clear hfz64_1
                          try clear hfz64_2
                          try clear hfz64_3
                          try clear hfz64_4
                          try clear hfz64_5
                          try clear hfz68_0
                          try clear hfz68_1
                          try clear hfz71_0
                          try clear hfz71_1
                          try clear hfz75_0
                          try clear hfz75_1
                          try clear hfz81_0
                          try clear hfz81_1
                          try clear hfz86_0
                          try clear hfz86_1
                          try clear hfz92_0
                          try clear hfz92_1
                          try clear hfz98_0
                          try clear hfz98_1
                          try clear p2
                          try clear p6
                          try clear p64
                          obtain ⟨kq, x160000_92, HA, HJ92, BK154, BK155, BK156, BK159, HB⟩ := hcut
                          cases kq with
                          | zero => exact absurd HA.out (by simp [damperref10_Decide.j5])
                          | succ kj92 =>
                            have H := HA.out
                            clear HA
                            simp only [damperref10_Decide.j5] at H
                            obtain ⟨ji102, hji102⟩ : ∃ j_ : Int, (mn x160000_92 a1_4) = j_ := ⟨_, rfl⟩
                            replace H : (some (ji102, x160001_13)) = some (r1, r2) := by first | (rw [hji102] at H; exact H) | (simp only [hji102] at H ⊢; exact H)
                            have hji102_ : (if a1_4 < x160000_92 then a1_4 else x160000_92) = ji102 := hji102
                            simp only [Option.some.injEq, Prod.mk.injEq] at H
                            obtain ⟨rfl, rfl⟩ := H
                            have hnb103 := NB159_154.out
                            have hnc103 := NB154_159.out
                            have hnb104 := NB159_155.out
                            have hnc104 := NB155_159.out
                            have hnb105 := NB159_156.out
                            have hnc105 := NB156_159.out
                            have hcz106_0 : wc.cell? ⟨gb159, 0, none⟩ = some (.int .i64 x160000_92) := bc BK159 0
                            have hcz106_1 : wc.cell? ⟨gb159, 1, none⟩ = some (.int .i64 x160001_13) := bc BK159 1
                            have hfz106_0 := blk_frozen BK159.out 0
                            have hfz106_1 := blk_frozen BK159.out 1
                            have hnb107 := NB155_154.out
                            have hnc107 := NB154_155.out
                            have hnb108 := NB155_156.out
                            have hnc108 := NB156_155.out
                            have hcz109_0 : wc.cell? ⟨gb155, 0, none⟩ = some (.string a1_0) := bc BK155 0
                            have hcz109_1 : wc.cell? ⟨gb155, 1, none⟩ = some (.int .i64 a1_1) := bc BK155 1
                            have hcz109_2 : wc.cell? ⟨gb155, 2, none⟩ = some (.int .i64 a1_2) := bc BK155 2
                            have hcz109_3 : wc.cell? ⟨gb155, 3, none⟩ = some (.int .i64 a1_3) := bc BK155 3
                            have hcz109_4 : wc.cell? ⟨gb155, 4, none⟩ = some (.int .i64 a1_4) := bc BK155 4
                            have hcz109_5 : wc.cell? ⟨gb155, 5, none⟩ = some (.int .i64 a1_5) := bc BK155 5
                            have hfz109_0 := blk_frozen BK155.out 0
                            have hfz109_1 := blk_frozen BK155.out 1
                            have hfz109_2 := blk_frozen BK155.out 2
                            have hfz109_3 := blk_frozen BK155.out 3
                            have hfz109_4 := blk_frozen BK155.out 4
                            have hfz109_5 := blk_frozen BK155.out 5
                            have hnb110 := NB156_154.out
                            have hnc110 := NB154_156.out
                            have hcz111_0 : wc.cell? ⟨gb156, 0, none⟩ = some (.int .i64 0) := bc BK156 0
                            have hcz111_1 : wc.cell? ⟨gb156, 1, none⟩ = some (.int .i64 0) := bc BK156 1
                            have hfz111_0 := blk_frozen BK156.out 0
                            have hfz111_1 := blk_frozen BK156.out 1
                            go_wp2
                            repeat (go_quiet (fail); try go_wp2)
                            refine bodyPost_ret (results_cell_row rfl _ _ gb156 32 #[.int .i64 ji102, .int .i64 x160001_13] (0, 0) _ rfl (by (with_reducible repeat (first | refine blk_drewN ?_ _ | refine blk_drew ?_ | refine blk_alloc ?_ _)); refine blk_put (cs := #[.int .i64 ji102, .int .i64 0]) ?_ 1 _ rfl; refine blk_put (cs := #[.int .i64 0, .int .i64 0]) ?_ 0 _ rfl; (with_reducible repeat (first | refine blk_drewN ?_ _ | refine blk_drew ?_ | refine blk_alloc ?_ _)); refine blk_far ?_ NB156_159.out _; (with_reducible repeat (first | refine blk_drewN ?_ _ | refine blk_drew ?_ | refine blk_alloc ?_ _)); exact BK156.out) Try.underlying32 rfl (by kernel_rfl)) rfl ?_
                            exact ⟨by first | rfl | (simp [errW_none, errW_some] <;> rfl) | (simp only [← hji12, ← hji13, ← hji102]; first | rfl | (simp [errW_none, errW_some] <;> rfl)) | (simp [*, errW_none, errW_some] <;> rfl), by repeat (first | (with_reducible first | exact HB.out | apply below_alloc | apply pw_below_drewN | apply below_drew1 | refine below_set ?_ GE154.out | refine below_set ?_ GE155.out | refine below_set ?_ GE156.out | refine below_set ?_ GE159.out) | exact HB.out)⟩
              · replace c76 := Bool.eq_false_iff.mpr c76
                subst c76
                have H1 : (damperref10_Decide.j6 kj47 a2 a1_0 a1_1 a1_2 a1_3 a1_4 a1_5 (mn x160000_32 (wrap64 (4 * ji12))) x160001_13) = some (r1, r2) := by rw [if_neg (show ¬ (false = true) by decide)] at H; exact H
                clear H
                have H := H1
                clear H1
                have HC112 := Aside0.mk H
                clear H
                go_upto_region 10 with (fail)
                repeat (go_quiet (fail); go_upto_region 10 with (fail))
                go_cut [] (fun wc => ∃ (kq : Nat) (x160000_111 : Int), Aside0 (damperref10_Decide.j6 kq a2 a1_0 a1_1 a1_2 a1_3 a1_4 a1_5 x160000_111 x160001_13 = some (r1, r2)) ∧ Aside0 (kq ≤ kj47) ∧ Aside0 (wc.heap[gb154]? = some (.cells #[.int .i64 a0_0, .int .i64 a0_1] 32 (0, 0))) ∧ Aside0 (wc.heap[gb155]? = some (.cells #[.string a1_0, .int .i64 a1_1, .int .i64 a1_2, .int .i64 a1_3, .int .i64 a1_4, .int .i64 a1_5] 25 (0, 0))) ∧ Aside0 (wc.heap[gb156]? = some (.cells #[.int .i64 0, .int .i64 0] 32 (0, 0))) ∧ Aside0 (wc.heap[gb159]? = some (.cells #[.int .i64 x160000_111, .int .i64 x160001_13] 32 (0, 0))) ∧ Aside0 (Below w.heap.size w wc))
                case first =>
                  have H := HC112.out
                  clear HC112
                  obtain ⟨ji113, hji113⟩ : ∃ j_ : Int, (mn x160000_32 (wrap64 (4 * ji12))) = j_ := ⟨_, rfl⟩
                  replace H : (damperref10_Decide.j6 kj47 a2 a1_0 a1_1 a1_2 a1_3 a1_4 a1_5 ji113 x160001_13) = some (r1, r2) := by first | (rw [hji113] at H; exact H) | (simp only [hji113] at H ⊢; exact H)
                  have hji113_ : (if (wrap64 (4 * ji12)) < x160000_32 then (wrap64 (4 * ji12)) else x160000_32) = ji113 := hji113
                  have H' := Aside0.mk H
                  clear H
                  have hnb114 := NB159_154.out
                  have hnc114 := NB154_159.out
                  have hnb115 := NB159_155.out
                  have hnc115 := NB155_159.out
                  have hnb116 := NB159_156.out
                  have hnc116 := NB156_159.out
                  have hcz117_0 : wc.cell? ⟨gb159, 0, none⟩ = some (.int .i64 x160000_32) := bc BK159 0
                  have hcz117_1 : wc.cell? ⟨gb159, 1, none⟩ = some (.int .i64 x160001_13) := bc BK159 1
                  have hfz117_0 := blk_frozen BK159.out 0
                  have hfz117_1 := blk_frozen BK159.out 1
                  go_wp2
                  repeat (go_quiet (fail); try go_wp2)
                  go_meet
                  case rel => exact ⟨_, (ji113), H', ⟨by have := HJ13.out; have := HJ32.out; have := HJ47.out; first | omega | exact Nat.le_refl _⟩, ⟨by (with_reducible repeat (first | refine blk_drewN ?_ _ | refine blk_drew ?_ | refine blk_alloc ?_ _)); refine blk_far ?_ NB154_159.out _; (with_reducible repeat (first | refine blk_drewN ?_ _ | refine blk_drew ?_ | refine blk_alloc ?_ _)); exact BK154.out⟩, ⟨by (with_reducible repeat (first | refine blk_drewN ?_ _ | refine blk_drew ?_ | refine blk_alloc ?_ _)); refine blk_far ?_ NB155_159.out _; (with_reducible repeat (first | refine blk_drewN ?_ _ | refine blk_drew ?_ | refine blk_alloc ?_ _)); exact BK155.out⟩, ⟨by (with_reducible repeat (first | refine blk_drewN ?_ _ | refine blk_drew ?_ | refine blk_alloc ?_ _)); refine blk_far ?_ NB156_159.out _; (with_reducible repeat (first | refine blk_drewN ?_ _ | refine blk_drew ?_ | refine blk_alloc ?_ _)); exact BK156.out⟩, ⟨by (with_reducible repeat (first | refine blk_drewN ?_ _ | refine blk_drew ?_ | refine blk_alloc ?_ _)); refine blk_put (cs := #[.int .i64 x160000_32, .int .i64 x160001_13]) ?_ 0 _ rfl; (with_reducible repeat (first | refine blk_drewN ?_ _ | refine blk_drew ?_ | refine blk_alloc ?_ _)); exact BK159.out⟩, ⟨by repeat (first | (with_reducible first | exact HB.out | apply below_alloc | apply pw_below_drewN | apply below_drew1 | refine below_set ?_ GE154.out | refine below_set ?_ GE155.out | refine below_set ?_ GE156.out | refine below_set ?_ GE159.out) | exact HB.out)⟩⟩
                case rest =>
                  clear HC112
                  try clear c1
                  try clear c2
                  try clear p2
                  try clear c3
                  try clear c4
                  try clear c5
                  try clear c6
                  try clear p6
                  try clear c7
                  try clear c8
                  try clear c9
                  try clear c10
                  try clear c11
                  try clear c17
                  try clear c18
                  try clear c19
                  try clear c21
                  try clear c24
                  try clear c25
                  try clear c26
                  try clear c28
                  try clear c28b0
                  try clear c29
                  try clear c30
                  try clear c31
                  try clear c34
                  try clear c35
                  try clear c36
                  try clear c38
                  try clear c38b0
                  try clear c41
                  try clear c42
                  try clear c43
                  try clear c45
                  try clear c46
                  try clear c49
                  try clear c49b0
                  try clear c49b1
                  try clear c50
                  try clear c50b0
                  try clear c51
                  try clear c52
                  try clear c53
                  try clear c55
                  try clear c55b0
                  try clear c56
                  try clear c57
                  try clear c58
                  try clear c60
                  try clear c61
                  try clear c63
                  try clear p64
                  try clear c65
                  try clear c66
                  try clear c67
                  try clear c69
                  try clear c70
                  try clear c72
                  try clear c73
                  try clear c74
                  try clear c76
                  try clear c78
                  try clear c79
                  try clear c80
                  try clear c83
                  try clear c84
                  try clear c85
                  try clear c89
                  try clear c90
                  try clear c91
                  try clear c95
                  try clear c96
                  try clear c97
                  try clear c99
                  try clear c100
                  try clear c103
                  try clear c104
                  try clear c105
                  try clear c107
                  try clear c108
                  try clear c110
                  try clear c114
                  try clear c115
                  try clear c116
                  try clear hcz101_0
                  try clear hcz101_1
                  try clear hcz101_2
                  try clear hcz101_3
                  try clear hcz101_4
                  try clear hcz101_5
                  try clear hcz106_0
                  try clear hcz106_1
                  try clear hcz109_0
                  try clear hcz109_1
                  try clear hcz109_2
                  try clear hcz109_3
                  try clear hcz109_4
                  try clear hcz109_5
                  try clear hcz111_0
                  try clear hcz111_1
                  try clear hcz117_0
                  try clear hcz117_1
                  try clear hcz20_0
                  try clear hcz20_1
                  try clear hcz20_2
                  try clear hcz20_3
                  try clear hcz20_4
                  try clear hcz20_5
                  try clear hcz22_0
                  try clear hcz22_1
                  try clear hcz27_0
                  try clear hcz27_1
                  try clear hcz32_0
                  try clear hcz32_1
                  try clear hcz37_0
                  try clear hcz37_1
                  try clear hcz44_0
                  try clear hcz44_1
                  try clear hcz47_0
                  try clear hcz47_1
                  try clear hcz54_0
                  try clear hcz54_1
                  try clear hcz59_0
                  try clear hcz59_1
                  try clear hcz62_0
                  try clear hcz62_1
                  try clear hcz64_0
                  try clear hcz64_1
                  try clear hcz64_2
                  try clear hcz64_3
                  try clear hcz64_4
                  try clear hcz64_5
                  try clear hcz68_0
                  try clear hcz68_1
                  try clear hcz71_0
                  try clear hcz71_1
                  try clear hcz75_0
                  try clear hcz75_1
                  try clear hcz81_0
                  try clear hcz81_1
                  try clear hcz86_0
                  try clear hcz86_1
                  try clear hcz92_0
                  try clear hcz92_1
                  try clear hcz98_0
                  try clear hcz98_1
                  try clear hfz101_0
                  try clear hfz101_1
                  try clear hfz101_2
                  try clear hfz101_3
                  try clear hfz101_4
                  try clear hfz101_5
                  try clear hfz106_0
                  try clear hfz106_1
                  try clear hfz109_0
                  try clear hfz109_1
                  try clear hfz109_2
                  try clear hfz109_3
                  try clear hfz109_4
                  try clear hfz109_5
                  try clear hfz111_0
                  try clear hfz111_1
                  try clear hfz117_0
                  try clear hfz117_1
                  try clear hfz20_0
                  try clear hfz20_1
                  try clear hfz20_2
                  try clear hfz20_3
                  try clear hfz20_4
                  try clear hfz20_5
                  try clear hfz22_0
                  try clear hfz22_1
                  try clear hfz27_0
                  try clear hfz27_1
                  try clear hfz32_0
                  try clear hfz32_1
                  try clear hfz37_0
                  try clear hfz37_1
                  try clear hfz44_0
                  try clear hfz44_1
                  try clear hfz47_0
                  try clear hfz47_1
                  try clear hfz54_0
                  try clear hfz54_1
                  try clear hfz59_0
                  try clear hfz59_1
                  try clear hfz62_0
                  try clear hfz62_1
                  try clear hfz64_0
                  try clear hfz64_1
                  try clear hfz64_2
                  try clear hfz64_3
                  try clear hfz64_4
                  try clear hfz64_5
                  try clear hfz68_0
                  try clear hfz68_1
                  try clear hfz71_0
                  try clear hfz71_1
                  try clear hfz75_0
                  try clear hfz75_1
                  try clear hfz81_0
                  try clear hfz81_1
                  try clear hfz86_0
                  try clear hfz86_1
                  try clear hfz92_0
                  try clear hfz92_1
                  try clear hfz98_0
                  try clear hfz98_1
                  try clear p2
                  try clear p6
                  try clear p64
                  obtain ⟨kq, x160000_111, HA, HJ111, BK154, BK155, BK156, BK159, HB⟩ := hcut
                  cases kq with
                  | zero => exact absurd HA.out (by simp [damperref10_Decide.j6])
                  | succ kj111 =>
                    have H := HA.out
                    clear HA
                    simp only [damperref10_Decide.j6] at H
                    have HC118 := Aside0.mk H
                    clear H
                    go_upto_region 11 with (fail)
                    repeat (go_quiet (fail); go_upto_region 11 with (fail))
                    go_cut [] (fun wc => ∃ (kq : Nat) (x160000_117 : Int), Aside0 (damperref10_Decide.j7 kq a1_0 a1_1 a1_2 a1_3 a1_4 a1_5 x160000_117 x160001_13 = some (r1, r2)) ∧ Aside0 (kq ≤ kj111) ∧ Aside0 (wc.heap[gb154]? = some (.cells #[.int .i64 a0_0, .int .i64 a0_1] 32 (0, 0))) ∧ Aside0 (wc.heap[gb155]? = some (.cells #[.string a1_0, .int .i64 a1_1, .int .i64 a1_2, .int .i64 a1_3, .int .i64 a1_4, .int .i64 a1_5] 25 (0, 0))) ∧ Aside0 (wc.heap[gb156]? = some (.cells #[.int .i64 0, .int .i64 0] 32 (0, 0))) ∧ Aside0 (wc.heap[gb159]? = some (.cells #[.int .i64 x160000_117, .int .i64 x160001_13] 32 (0, 0))) ∧ Aside0 (Below w.heap.size w wc))
                    case first =>
                      have H := HC118.out
                      clear HC118
                      obtain ⟨ji119, hji119⟩ : ∃ j_ : Int, (mx x160000_111 (wrap64 (Int.tdiv a2 2))) = j_ := ⟨_, rfl⟩
                      replace H : (damperref10_Decide.j7 kj111 a1_0 a1_1 a1_2 a1_3 a1_4 a1_5 ji119 x160001_13) = some (r1, r2) := by first | (rw [hji119] at H; exact H) | (simp only [hji119] at H ⊢; exact H)
                      have hji119_ : (if x160000_111 < (wrap64 (Int.tdiv a2 2)) then (wrap64 (Int.tdiv a2 2)) else x160000_111) = ji119 := hji119
                      have H' := Aside0.mk H
                      clear H
                      have hnb120 := NB159_154.out
                      have hnc120 := NB154_159.out
                      have hnb121 := NB159_155.out
                      have hnc121 := NB155_159.out
                      have hnb122 := NB159_156.out
                      have hnc122 := NB156_159.out
                      have hcz123_0 : wc.cell? ⟨gb159, 0, none⟩ = some (.int .i64 x160000_111) := bc BK159 0
                      have hcz123_1 : wc.cell? ⟨gb159, 1, none⟩ = some (.int .i64 x160001_13) := bc BK159 1
                      have hfz123_0 := blk_frozen BK159.out 0
                      have hfz123_1 := blk_frozen BK159.out 1
                      go_wp2
                      repeat (go_quiet (fail); try go_wp2)
                      go_meet
                      case rel => exact ⟨_, (ji119), H', ⟨by have := HJ13.out; have := HJ32.out; have := HJ47.out; have := HJ111.out; first | omega | exact Nat.le_refl _⟩, ⟨by (with_reducible repeat (first | refine blk_drewN ?_ _ | refine blk_drew ?_ | refine blk_alloc ?_ _)); refine blk_far ?_ NB154_159.out _; (with_reducible repeat (first | refine blk_drewN ?_ _ | refine blk_drew ?_ | refine blk_alloc ?_ _)); exact BK154.out⟩, ⟨by (with_reducible repeat (first | refine blk_drewN ?_ _ | refine blk_drew ?_ | refine blk_alloc ?_ _)); refine blk_far ?_ NB155_159.out _; (with_reducible repeat (first | refine blk_drewN ?_ _ | refine blk_drew ?_ | refine blk_alloc ?_ _)); exact BK155.out⟩, ⟨by (with_reducible repeat (first | refine blk_drewN ?_ _ | refine blk_drew ?_ | refine blk_alloc ?_ _)); refine blk_far ?_ NB156_159.out _; (with_reducible repeat (first | refine blk_drewN ?_ _ | refine blk_drew ?_ | refine blk_alloc ?_ _)); exact BK156.out⟩, ⟨by (with_reducible repeat (first | refine blk_drewN ?_ _ | refine blk_drew ?_ | refine blk_alloc ?_ _)); refine blk_put (cs := #[.int .i64 x160000_111, .int .i64 x160001_13]) ?_ 0 _ rfl; (with_reducible repeat (first | refine blk_drewN ?_ _ | refine blk_drew ?_ | refine blk_alloc ?_ _)); exact BK159.out⟩, ⟨by repeat (first | (with_reducible first | exact HB.out | apply below_alloc | apply pw_below_drewN | apply below_drew1 | refine below_set ?_ GE154.out | refine below_set ?_ GE155.out | refine below_set ?_ GE156.out | refine below_set ?_ GE159.out) | exact HB.out)⟩⟩
                    case rest =>
                      clear HC118
                      try clear c1
                      try clear c2
                      try clear p2
                      try clear c3
                      try clear c4
                      try clear c5
                      try clear c6
                      try clear p6
                      try clear c7
                      try clear c8
                      try clear c9
                      try clear c10
                      try clear c11
                      try clear c12
                      try clear c17
                      try clear c18
                      try clear c19
                      try clear c21
                      try clear c24
                      try clear c25
                      try clear c26
                      try clear c28
                      try clear c28b0
                      try clear c29
                      try clear c30
                      try clear c31
                      try clear c34
                      try clear c35
                      try clear c36
                      try clear c38
                      try clear c38b0
                      try clear c41
                      try clear c42
                      try clear c43
                      try clear c45
                      try clear c46
                      try clear c49
                      try clear c49b0
                      try clear c49b1
                      try clear c50
                      try clear c50b0
                      try clear c51
                      try clear c52
                      try clear c53
                      try clear c55
                      try clear c55b0
                      try clear c56
                      try clear c57
                      try clear c58
                      try clear c60
                      try clear c61
                      try clear c63
                      try clear p64
                      try clear c65
                      try clear c66
                      try clear c67
                      try clear c69
                      try clear c70
                      try clear c72
                      try clear c73
                      try clear c74
                      try clear c76
                      try clear c78
                      try clear c79
                      try clear c80
                      try clear c83
                      try clear c84
                      try clear c85
                      try clear c89
                      try clear c90
                      try clear c91
                      try clear c95
                      try clear c96
                      try clear c97
                      try clear c99
                      try clear c100
                      try clear c103
                      try clear c104
                      try clear c105
                      try clear c107
                      try clear c108
                      try clear c110
                      try clear c114
                      try clear c115
                      try clear c116
                      try clear c120
                      try clear c121
                      try clear c122
                      try clear hcz101_0
                      try clear hcz101_1
                      try clear hcz101_2
                      try clear hcz101_3
                      try clear hcz101_4
                      try clear hcz101_5
                      try clear hcz106_0
                      try clear hcz106_1
                      try clear hcz109_0
                      try clear hcz109_1
                      try clear hcz109_2
                      try clear hcz109_3
                      try clear hcz109_4
                      try clear hcz109_5
                      try clear hcz111_0
                      try clear hcz111_1
                      try clear hcz117_0
                      try clear hcz117_1
                      try clear hcz123_0
                      try clear hcz123_1
                      try clear hcz20_0
                      try clear hcz20_1
                      try clear hcz20_2
                      try clear hcz20_3
                      try clear hcz20_4
                      try clear hcz20_5
                      try clear hcz22_0
                      try clear hcz22_1
                      try clear hcz27_0
                      try clear hcz27_1
                      try clear hcz32_0
                      try clear hcz32_1
                      try clear hcz37_0
                      try clear hcz37_1
                      try clear hcz44_0
                      try clear hcz44_1
                      try clear hcz47_0
                      try clear hcz47_1
                      try clear hcz54_0
                      try clear hcz54_1
                      try clear hcz59_0
                      try clear hcz59_1
                      try clear hcz62_0
                      try clear hcz62_1
                      try clear hcz64_0
                      try clear hcz64_1
                      try clear hcz64_2
                      try clear hcz64_3
                      try clear hcz64_4
                      try clear hcz64_5
                      try clear hcz68_0
                      try clear hcz68_1
                      try clear hcz71_0
                      try clear hcz71_1
                      try clear hcz75_0
                      try clear hcz75_1
                      try clear hcz81_0
                      try clear hcz81_1
                      try clear hcz86_0
                      try clear hcz86_1
                      try clear hcz92_0
                      try clear hcz92_1
                      try clear hcz98_0
                      try clear hcz98_1
                      try clear hfz101_0
                      try clear hfz101_1
                      try clear hfz101_2
                      try clear hfz101_3
                      try clear hfz101_4
                      try clear hfz101_5
                      try clear hfz106_0
                      try clear hfz106_1
                      try clear hfz109_0
                      try clear hfz109_1
                      try clear hfz109_2
                      try clear hfz109_3
                      try clear hfz109_4
                      try clear hfz109_5
                      try clear hfz111_0
                      try clear hfz111_1
                      try clear hfz117_0
                      try clear hfz117_1
                      try clear hfz123_0
                      try clear hfz123_1
                      try clear hfz20_0
                      try clear hfz20_1
                      try clear hfz20_2
                      try clear hfz20_3
                      try clear hfz20_4
                      try clear hfz20_5
                      try clear hfz22_0
                      try clear hfz22_1
                      try clear hfz27_0
                      try clear hfz27_1
                      try clear hfz32_0
                      try clear hfz32_1
                      try clear hfz37_0
                      try clear hfz37_1
                      try clear hfz44_0
                      try clear hfz44_1
                      try clear hfz47_0
                      try clear hfz47_1
                      try clear hfz54_0
                      try clear hfz54_1
                      try clear hfz59_0
                      try clear hfz59_1
                      try clear hfz62_0
                      try clear hfz62_1
                      try clear hfz64_0
                      try clear hfz64_1
                      try clear hfz64_2
                      try clear hfz64_3
                      try clear hfz64_4
                      try clear hfz64_5
                      try clear hfz68_0
                      try clear hfz68_1
                      try clear hfz71_0
                      try clear hfz71_1
                      try clear hfz75_0
                      try clear hfz75_1
                      try clear hfz81_0
                      try clear hfz81_1
                      try clear hfz86_0
                      try clear hfz86_1
                      try clear hfz92_0
                      try clear hfz92_1
                      try clear hfz98_0
                      try clear hfz98_1
                      try clear p2
                      try clear p6
                      try clear p64
                      obtain ⟨kq, x160000_117, HA, HJ117, BK154, BK155, BK156, BK159, HB⟩ := hcut
                      cases kq with
                      | zero => exact absurd HA.out (by simp [damperref10_Decide.j7])
                      | succ kj117 =>
                        have H := HA.out
                        clear HA
                        simp only [damperref10_Decide.j7] at H
                        have HC124 := Aside0.mk H
                        clear H
                        go_upto_region 12 with (fail)
                        repeat (go_quiet (fail); go_upto_region 12 with (fail))
                        go_cut [] (fun wc => ∃ (kq : Nat) (x160000_123 : Int), Aside0 (damperref10_Decide.j8 kq a1_0 a1_1 a1_2 a1_3 a1_4 a1_5 x160000_123 x160001_13 = some (r1, r2)) ∧ Aside0 (kq ≤ kj117) ∧ Aside0 (wc.heap[gb154]? = some (.cells #[.int .i64 a0_0, .int .i64 a0_1] 32 (0, 0))) ∧ Aside0 (wc.heap[gb155]? = some (.cells #[.string a1_0, .int .i64 a1_1, .int .i64 a1_2, .int .i64 a1_3, .int .i64 a1_4, .int .i64 a1_5] 25 (0, 0))) ∧ Aside0 (wc.heap[gb156]? = some (.cells #[.int .i64 0, .int .i64 0] 32 (0, 0))) ∧ Aside0 (wc.heap[gb159]? = some (.cells #[.int .i64 x160000_123, .int .i64 x160001_13] 32 (0, 0))) ∧ Aside0 (Below w.heap.size w wc))
                        case first =>
                          have H := HC124.out
                          clear HC124
                          obtain ⟨ji125, hji125⟩ : ∃ j_ : Int, (mx x160000_117 a1_3) = j_ := ⟨_, rfl⟩
                          replace H : (damperref10_Decide.j8 kj117 a1_0 a1_1 a1_2 a1_3 a1_4 a1_5 ji125 x160001_13) = some (r1, r2) := by first | (rw [hji125] at H; exact H) | (simp only [hji125] at H ⊢; exact H)
                          have hji125_ : (if x160000_117 < a1_3 then a1_3 else x160000_117) = ji125 := hji125
                          have H' := Aside0.mk H
                          clear H
                          have hnb126 := NB159_154.out
                          have hnc126 := NB154_159.out
                          have hnb127 := NB159_155.out
                          have hnc127 := NB155_159.out
                          have hnb128 := NB159_156.out
                          have hnc128 := NB156_159.out
                          have hcz129_0 : wc.cell? ⟨gb159, 0, none⟩ = some (.int .i64 x160000_117) := bc BK159 0
                          have hcz129_1 : wc.cell? ⟨gb159, 1, none⟩ = some (.int .i64 x160001_13) := bc BK159 1
                          have hfz129_0 := blk_frozen BK159.out 0
                          have hfz129_1 := blk_frozen BK159.out 1
                          have hnb130 := NB155_154.out
                          have hnc130 := NB154_155.out
                          have hnb131 := NB155_156.out
                          have hnc131 := NB156_155.out
                          have hcz132_0 : wc.cell? ⟨gb155, 0, none⟩ = some (.string a1_0) := bc BK155 0
                          have hcz132_1 : wc.cell? ⟨gb155, 1, none⟩ = some (.int .i64 a1_1) := bc BK155 1
                          have hcz132_2 : wc.cell? ⟨gb155, 2, none⟩ = some (.int .i64 a1_2) := bc BK155 2
                          have hcz132_3 : wc.cell? ⟨gb155, 3, none⟩ = some (.int .i64 a1_3) := bc BK155 3
                          have hcz132_4 : wc.cell? ⟨gb155, 4, none⟩ = some (.int .i64 a1_4) := bc BK155 4
                          have hcz132_5 : wc.cell? ⟨gb155, 5, none⟩ = some (.int .i64 a1_5) := bc BK155 5
                          have hfz132_0 := blk_frozen BK155.out 0
                          have hfz132_1 := blk_frozen BK155.out 1
                          have hfz132_2 := blk_frozen BK155.out 2
                          have hfz132_3 := blk_frozen BK155.out 3
                          have hfz132_4 := blk_frozen BK155.out 4
                          have hfz132_5 := blk_frozen BK155.out 5
                          go_wp2
                          repeat (go_quiet (fail); try go_wp2)
                          go_meet
                          case rel => exact ⟨_, (ji125), H', ⟨by have := HJ13.out; have := HJ32.out; have := HJ47.out; have := HJ111.out; have := HJ117.out; first | omega | exact Nat.le_refl _⟩, ⟨by (with_reducible repeat (first | refine blk_drewN ?_ _ | refine blk_drew ?_ | refine blk_alloc ?_ _)); refine blk_far ?_ NB154_159.out _; (with_reducible repeat (first | refine blk_drewN ?_ _ | refine blk_drew ?_ | refine blk_alloc ?_ _)); exact BK154.out⟩, ⟨by (with_reducible repeat (first | refine blk_drewN ?_ _ | refine blk_drew ?_ | refine blk_alloc ?_ _)); refine blk_far ?_ NB155_159.out _; (with_reducible repeat (first | refine blk_drewN ?_ _ | refine blk_drew ?_ | refine blk_alloc ?_ _)); exact BK155.out⟩, ⟨by (with_reducible repeat (first | refine blk_drewN ?_ _ | refine blk_drew ?_ | refine blk_alloc ?_ _)); refine blk_far ?_ NB156_159.out _; (with_reducible repeat (first | refine blk_drewN ?_ _ | refine blk_drew ?_ | refine blk_alloc ?_ _)); exact BK156.out⟩, ⟨by (with_reducible repeat (first | refine blk_drewN ?_ _ | refine blk_drew ?_ | refine blk_alloc ?_ _)); refine blk_put (cs := #[.int .i64 x160000_117, .int .i64 x160001_13]) ?_ 0 _ rfl; (with_reducible repeat (first | refine blk_drewN ?_ _ | refine blk_drew ?_ | refine blk_alloc ?_ _)); exact BK159.out⟩, ⟨by repeat (first | (with_reducible first | exact HB.out | apply below_alloc | apply pw_below_drewN | apply below_drew1 | refine below_set ?_ GE154.out | refine below_set ?_ GE155.out | refine below_set ?_ GE156.out | refine below_set ?_ GE159.out) | exact HB.out)⟩⟩
                        case rest =>
                          clear HC124
                          try clear c1
                          try clear c2
                          try clear p2
                          try clear c3
                          try clear c4
                          try clear c5
                          try clear c6
                          try clear p6
                          try clear c7
                          try clear c8
                          try clear c9
                          try clear c10
                          try clear c11
                          try clear c12
                          try clear c13
                          try clear c17
                          try clear c18
                          try clear c19
                          try clear c21
                          try clear c24
                          try clear c25
                          try clear c26
                          try clear c28
                          try clear c28b0
                          try clear c29
                          try clear c30
                          try clear c31
                          try clear c34
                          try clear c35
                          try clear c36
                          try clear c38
                          try clear c38b0
                          try clear c41
                          try clear c42
                          try clear c43
                          try clear c45
                          try clear c46
                          try clear c49
                          try clear c49b0
                          try clear c49b1
                          try clear c50
                          try clear c50b0
                          try clear c51
                          try clear c52
                          try clear c53
                          try clear c55
                          try clear c55b0
                          try clear c56
                          try clear c57
                          try clear c58
                          try clear c60
                          try clear c61
                          try clear c63
                          try clear p64
                          try clear c65
                          try clear c66
                          try clear c67
                          try clear c69
                          try clear c70
                          try clear c72
                          try clear c73
                          try clear c74
                          try clear c76
                          try clear c78
                          try clear c79
                          try clear c80
                          try clear c83
                          try clear c84
                          try clear c85
                          try clear c89
                          try clear c90
                          try clear c91
                          try clear c95
                          try clear c96
                          try clear c97
                          try clear c99
                          try clear c100
                          try clear c103
                          try clear c104
                          try clear c105
                          try clear c107
                          try clear c108
                          try clear c110
                          try clear c114
                          try clear c115
                          try clear c116
                          try clear c120
                          try clear c121
                          try clear c122
                          try clear c126
                          try clear c127
                          try clear c128
                          try clear c130
                          try clear c131
                          try clear hcz101_0
                          try clear hcz101_1
                          try clear hcz101_2
                          try clear hcz101_3
                          try clear hcz101_4
                          try clear hcz101_5
                          try clear hcz106_0
                          try clear hcz106_1
                          try clear hcz109_0
                          try clear hcz109_1
                          try clear hcz109_2
                          try clear hcz109_3
                          try clear hcz109_4
                          try clear hcz109_5
                          try clear hcz111_0
                          try clear hcz111_1
                          try clear hcz117_0
                          try clear hcz117_1
                          try clear hcz123_0
                          try clear hcz123_1
                          try clear hcz129_0
                          try clear hcz129_1
                          try clear hcz132_0
                          try clear hcz132_1
                          try clear hcz132_2
                          try clear hcz132_3
                          try clear hcz132_4
                          try clear hcz132_5
                          try clear hcz20_0
                          try clear hcz20_1
                          try clear hcz20_2
                          try clear hcz20_3
                          try clear hcz20_4
                          try clear hcz20_5
                          try clear hcz22_0
                          try clear hcz22_1
                          try clear hcz27_0
                          try clear hcz27_1
                          try clear hcz32_0
                          try clear hcz32_1
                          try clear hcz37_0
                          try clear hcz37_1
                          try clear hcz44_0
                          try clear hcz44_1
                          try clear hcz47_0
                          try clear hcz47_1
                          try clear hcz54_0
                          try clear hcz54_1
                          try clear hcz59_0
                          try clear hcz59_1
                          try clear hcz62_0
                          try clear hcz62_1
                          try clear hcz64_0
                          try clear hcz64_1
                          try clear hcz64_2
                          try clear hcz64_3
                          try clear hcz64_4
                          try clear hcz64_5
                          try clear hcz68_0
                          try clear hcz68_1
                          try clear hcz71_0
                          try clear hcz71_1
                          try clear hcz75_0
                          try clear hcz75_1
                          try clear hcz81_0
                          try clear hcz81_1
                          try clear hcz86_0
                          try clear hcz86_1
                          try clear hcz92_0
                          try clear hcz92_1
                          try clear hcz98_0
                          try clear hcz98_1
                          try clear hfz101_0
                          try clear hfz101_1
                          try clear hfz101_2
                          try clear hfz101_3
                          try clear hfz101_4
                          try clear hfz101_5
                          try clear hfz106_0
                          try clear hfz106_1
                          try clear hfz109_0
                          try clear hfz109_1
                          try clear hfz109_2
                          try clear hfz109_3
                          try clear hfz109_4
                          try clear hfz109_5
                          try clear hfz111_0
                          try clear hfz111_1
                          try clear hfz117_0
                          try clear hfz117_1
                          try clear hfz123_0
                          try clear hfz123_1
                          try clear hfz129_0
                          try clear hfz129_1
                          try clear hfz132_0
                          try clear hfz132_1
                          try clear hfz132_2
                          try clear hfz132_3
                          try clear hfz132_4
                          try clear hfz132_5
                          try clear hfz20_0
                          try clear hfz20_1
                          try clear hfz20_2
                          try clear hfz20_3
                          try clear hfz20_4
                          try clear hfz20_5
                          try clear hfz22_0
                          try clear hfz22_1
                          try clear hfz27_0
                          try clear hfz27_1
                          try clear hfz32_0
                          try clear hfz32_1
                          try clear hfz37_0
                          try clear hfz37_1
                          try clear hfz44_0
                          try clear hfz44_1
                          try clear hfz47_0
                          try clear hfz47_1
                          try clear hfz54_0
                          try clear hfz54_1
                          try clear hfz59_0
                          try clear hfz59_1
                          try clear hfz62_0
                          try clear hfz62_1
                          try clear hfz64_0
                          try clear hfz64_1
                          try clear hfz64_2
                          try clear hfz64_3
                          try clear hfz64_4
                          try clear hfz64_5
                          try clear hfz68_0
                          try clear hfz68_1
                          try clear hfz71_0
                          try clear hfz71_1
                          try clear hfz75_0
                          try clear hfz75_1
                          try clear hfz81_0
                          try clear hfz81_1
                          try clear hfz86_0
                          try clear hfz86_1
                          try clear hfz92_0
                          try clear hfz92_1
                          try clear hfz98_0
                          try clear hfz98_1
                          try clear p2
                          try clear p6
                          try clear p64
                          obtain ⟨kq, x160000_123, HA, HJ123, BK154, BK155, BK156, BK159, HB⟩ := hcut
                          cases kq with
                          | zero => exact absurd HA.out (by simp [damperref10_Decide.j8])
                          | succ kj123 =>
                            have H := HA.out
                            clear HA
                            simp only [damperref10_Decide.j8] at H
                            obtain ⟨ji133, hji133⟩ : ∃ j_ : Int, (mn x160000_123 a1_4) = j_ := ⟨_, rfl⟩
                            replace H : (some (ji133, x160001_13)) = some (r1, r2) := by first | (rw [hji133] at H; exact H) | (simp only [hji133] at H ⊢; exact H)
                            have hji133_ : (if a1_4 < x160000_123 then a1_4 else x160000_123) = ji133 := hji133
                            simp only [Option.some.injEq, Prod.mk.injEq] at H
                            obtain ⟨rfl, rfl⟩ := H
                            have hnb134 := NB159_154.out
                            have hnc134 := NB154_159.out
                            have hnb135 := NB159_155.out
                            have hnc135 := NB155_159.out
                            have hnb136 := NB159_156.out
                            have hnc136 := NB156_159.out
                            have hcz137_0 : wc.cell? ⟨gb159, 0, none⟩ = some (.int .i64 x160000_123) := bc BK159 0
                            have hcz137_1 : wc.cell? ⟨gb159, 1, none⟩ = some (.int .i64 x160001_13) := bc BK159 1
                            have hfz137_0 := blk_frozen BK159.out 0
                            have hfz137_1 := blk_frozen BK159.out 1
                            have hnb138 := NB155_154.out
                            have hnc138 := NB154_155.out
                            have hnb139 := NB155_156.out
                            have hnc139 := NB156_155.out
                            have hcz140_0 : wc.cell? ⟨gb155, 0, none⟩ = some (.string a1_0) := bc BK155 0
                            have hcz140_1 : wc.cell? ⟨gb155, 1, none⟩ = some (.int .i64 a1_1) := bc BK155 1
                            have hcz140_2 : wc.cell? ⟨gb155, 2, none⟩ = some (.int .i64 a1_2) := bc BK155 2
                            have hcz140_3 : wc.cell? ⟨gb155, 3, none⟩ = some (.int .i64 a1_3) := bc BK155 3
                            have hcz140_4 : wc.cell? ⟨gb155, 4, none⟩ = some (.int .i64 a1_4) := bc BK155 4
                            have hcz140_5 : wc.cell? ⟨gb155, 5, none⟩ = some (.int .i64 a1_5) := bc BK155 5
                            have hfz140_0 := blk_frozen BK155.out 0
                            have hfz140_1 := blk_frozen BK155.out 1
                            have hfz140_2 := blk_frozen BK155.out 2
                            have hfz140_3 := blk_frozen BK155.out 3
                            have hfz140_4 := blk_frozen BK155.out 4
                            have hfz140_5 := blk_frozen BK155.out 5
                            have hnb141 := NB156_154.out
                            have hnc141 := NB154_156.out
                            have hcz142_0 : wc.cell? ⟨gb156, 0, none⟩ = some (.int .i64 0) := bc BK156 0
                            have hcz142_1 : wc.cell? ⟨gb156, 1, none⟩ = some (.int .i64 0) := bc BK156 1
                            have hfz142_0 := blk_frozen BK156.out 0
                            have hfz142_1 := blk_frozen BK156.out 1
                            go_wp2
                            repeat (go_quiet (fail); try go_wp2)
                            refine bodyPost_ret (results_cell_row rfl _ _ gb156 32 #[.int .i64 ji133, .int .i64 x160001_13] (0, 0) _ rfl (by (with_reducible repeat (first | refine blk_drewN ?_ _ | refine blk_drew ?_ | refine blk_alloc ?_ _)); refine blk_put (cs := #[.int .i64 ji133, .int .i64 0]) ?_ 1 _ rfl; refine blk_put (cs := #[.int .i64 0, .int .i64 0]) ?_ 0 _ rfl; (with_reducible repeat (first | refine blk_drewN ?_ _ | refine blk_drew ?_ | refine blk_alloc ?_ _)); refine blk_far ?_ NB156_159.out _; (with_reducible repeat (first | refine blk_drewN ?_ _ | refine blk_drew ?_ | refine blk_alloc ?_ _)); exact BK156.out) Try.underlying32 rfl (by kernel_rfl)) rfl ?_
                            exact ⟨by first | rfl | (simp [errW_none, errW_some] <;> rfl) | (simp only [← hji12, ← hji13, ← hji133]; first | rfl | (simp [errW_none, errW_some] <;> rfl)) | (simp [*, errW_none, errW_some] <;> rfl), by repeat (first | (with_reducible first | exact HB.out | apply below_alloc | apply pw_below_drewN | apply below_drew1 | refine below_set ?_ GE154.out | refine below_set ?_ GE155.out | refine below_set ?_ GE156.out | refine below_set ?_ GE159.out) | exact HB.out)⟩

end Go.Proofs.Ytlikdmeickbigaa.Ma
