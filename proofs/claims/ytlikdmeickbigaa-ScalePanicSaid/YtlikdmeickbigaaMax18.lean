-- Written by a program of this session (wip/tools/myprint.py), in the form of the kit's print. Not trusted: Lean checks it.
import Derived.Test.YtlikdmeickbigaaMax0
import Derived.Test.YtlikdmeickbigaaMax6
import Derived.Test.YtlikdmeickbigaaMax7
import Derived.Test.YtlikdmeickbigaaMax8
import Derived.Test.YtlikdmeickbigaaMax9
import Derived.Test.YtlikdmeickbigaaMax11
import Derived.Test.YtlikdmeickbigaaMax12
import Derived.Test.YtlikdmeickbigaaMax13
namespace Go.Proofs.Ytlikdmeickbigaa.Ma
open Go.RowKit Go.Proofs.YtlikdmeickbigaaW.PrintWords Go.Proofs.YtlikdmeickbigaaW.PrintLast Go.Proofs.YtlikdmeickbigaaW.PrintMore
attribute [local go_sem] max2_int min2_int max_two min_two max_three min_three max_four min_four   -- for this text's walks alone
set_option linter.unusedVariables false
set_option linter.unusedSimpArgs false

/-! ### damperlaw10_ScalePanic: function 6 -/
mutual
def damperlaw10_ScalePanic.j0 : Nat → Int → Int → Int → Int → Int → Int → Int → Int → Int → Int → Int → Int → ByteArray → Int → Int → Int → Int → Int → Int → Int → Option (Bool)
  | 0, _, _, _, _, _, _, _, _, _, _, _, _, _, _, _, _, _, _, _, _ => none
  | k + 1, x2, x10, x11, x260000, x260001, x260002, x260003, x260004, x260005, x260006, x260007, x260008, x261000, x261001, x261002, x261003, x261004, x261005, x264000, x264001 => if ((decide (x10 ≥ (wrap64 (2 * x11)))) != (x264001 == 6)) = true then (if x260001 = 7 then (damperlaw10_ScalePanic.j1 k x2 x11 (decide (x10 ≥ (wrap64 (2 * x11)))) x260000 x260001 x260002 x260003 x260004 x260005 x260006 x260007 x260008 x261000 x261001 x261002 x261003 x261004 x261005 x264000 x264001) else (damperlaw10_ScalePanic.j1 k x2 x11 true x260000 x260001 x260002 x260003 x260004 x260005 x260006 x260007 x260008 x261000 x261001 x261002 x261003 x261004 x261005 x264000 x264001)) else (damperlaw10_ScalePanic.j1 k x2 x11 false x260000 x260001 x260002 x260003 x260004 x260005 x260006 x260007 x260008 x261000 x261001 x261002 x261003 x261004 x261005 x264000 x264001)
def damperlaw10_ScalePanic.j1 : Nat → Int → Int → Bool → Int → Int → Int → Int → Int → Int → Int → Int → Int → ByteArray → Int → Int → Int → Int → Int → Int → Int → Option (Bool)
  | 0, _, _, _, _, _, _, _, _, _, _, _, _, _, _, _, _, _, _, _, _ => none
  | k + 1, x2, x11, x52, x260000, x260001, x260002, x260003, x260004, x260005, x260006, x260007, x260008, x261000, x261001, x261002, x261003, x261004, x261005, x264000, x264001 => if x52 = true then (some false) else (if x264001 > 0 then (damperlaw10_ScalePanic.j2 k x2 (decide (x264000 < (mn (mn x260000 x261004) (mx (wrap64 (4 * x11)) x261003)))) x260000 x260001 x260002 x260003 x260004 x260005 x260006 x260007 x260008 x261000 x261001 x261002 x261003 x261004 x261005 x264000 x264001) else (damperlaw10_ScalePanic.j2 k x2 false x260000 x260001 x260002 x260003 x260004 x260005 x260006 x260007 x260008 x261000 x261001 x261002 x261003 x261004 x261005 x264000 x264001))
def damperlaw10_ScalePanic.j2 : Nat → Int → Bool → Int → Int → Int → Int → Int → Int → Int → Int → Int → ByteArray → Int → Int → Int → Int → Int → Int → Int → Option (Bool)
  | 0, _, _, _, _, _, _, _, _, _, _, _, _, _, _, _, _, _, _, _ => none
  | k + 1, x2, x70, x260000, x260001, x260002, x260003, x260004, x260005, x260006, x260007, x260008, x261000, x261001, x261002, x261003, x261004, x261005, x264000, x264001 => if x70 = true then (some false) else ((damperlaw10_within.f x2 9).bind fun t265 => (damperlaw10_ScalePanic.l0 k t265 0 x260000 x260001 x260002 x260003 x260004 x260005 x260006 x260007 x260008 x261000 x261001 x261002 x261003 x261004 x261005 x264000 x264001))
def damperlaw10_ScalePanic.l0 : Nat → Int → Int → Int → Int → Int → Int → Int → Int → Int → Int → Int → ByteArray → Int → Int → Int → Int → Int → Int → Int → Option (Bool)
  | 0, _, _, _, _, _, _, _, _, _, _, _, _, _, _, _, _, _, _, _ => none
  | k + 1, x12, x13, x260000, x260001, x260002, x260003, x260004, x260005, x260006, x260007, x260008, x261000, x261001, x261002, x261003, x261004, x261005, x264000, x264001 => if x13 < x12 then ((scale_Decide.f k x264000 x264001 x261000 x261001 x261002 x261003 x261004 x261005 x260002 0 0 1 0 1 0).bind fun bt266 => (if bt266.2 = (mx 0 (wrap64 (x264001 - 1))) then (damperlaw10_ScalePanic.l0 k x12 (wrap64 (x13 + 1)) x260000 x260001 x260002 x260003 x260004 x260005 x260006 x260007 x260008 x261000 x261001 x261002 x261003 x261004 x261005 bt266.1 bt266.2) else (some false))) else (some true)
end
def damperlaw10_ScalePanic.f (k : Nat) (a0_0 : Int) (a0_1 : Int) (a0_2 : Int) (a0_3 : Int) (a0_4 : Int) (a0_5 : Int) (a0_6 : Int) (a0_7 : Int) (a0_8 : Int) (a1_0 : ByteArray) (a1_1 : Int) (a1_2 : Int) (a1_3 : Int) (a1_4 : Int) (a1_5 : Int) (a2 : Int) : Option (Bool) := (damperlaw10_known.f k).bind fun t243 => (if t243 = true then ((damperlaw10_Given_Make.f a0_0 a0_1 a0_2 a0_3 a0_4 a0_5 a0_6 a0_7 a0_8).bind fun bt244 => ((damperlaw2_Config.f a1_0 a1_1 a1_2 a1_3 a1_4 a1_5 0).bind fun bt253 => ((damperlaw10_decide.f k bt244.1 bt244.2.1 bt244.2.2.1 bt244.2.2.2.1 bt244.2.2.2.2.1 bt244.2.2.2.2.2.1 bt244.2.2.2.2.2.2.1 bt244.2.2.2.2.2.2.2.1 bt244.2.2.2.2.2.2.2.2 bt253.1 bt253.2.1 bt253.2.2.1 bt253.2.2.2.1 bt253.2.2.2.2.1 bt253.2.2.2.2.2).bind fun bt261 => ((damperref10_Need.f bt244.2.2.2.2.2.2.1 bt244.2.2.2.2.2.2.2.1 bt253.2.2.1).bind fun t264 => (damperlaw10_ScalePanic.j0 k a2 t264 (mx 1 bt244.2.2.1) bt244.1 bt244.2.1 bt244.2.2.1 bt244.2.2.2.1 bt244.2.2.2.2.1 bt244.2.2.2.2.2.1 bt244.2.2.2.2.2.2.1 bt244.2.2.2.2.2.2.2.1 bt244.2.2.2.2.2.2.2.2 bt253.1 bt253.2.1 bt253.2.2.1 bt253.2.2.2.1 bt253.2.2.2.2.1 bt253.2.2.2.2.2 bt261.1 bt261.2))))) else (some false))
theorem damperlaw10_ScalePanic.mono_l : ∀ k, (∀ y0 y1 y2 y3 y4 y5 y6 y7 y8 y9 y10 y11 y12 y13 y14 y15 y16 y17 y18 y19, LeO (damperlaw10_ScalePanic.j0 k y0 y1 y2 y3 y4 y5 y6 y7 y8 y9 y10 y11 y12 y13 y14 y15 y16 y17 y18 y19) (damperlaw10_ScalePanic.j0 (k + 1) y0 y1 y2 y3 y4 y5 y6 y7 y8 y9 y10 y11 y12 y13 y14 y15 y16 y17 y18 y19)) ∧ (∀ y0 y1 y2 y3 y4 y5 y6 y7 y8 y9 y10 y11 y12 y13 y14 y15 y16 y17 y18 y19, LeO (damperlaw10_ScalePanic.j1 k y0 y1 y2 y3 y4 y5 y6 y7 y8 y9 y10 y11 y12 y13 y14 y15 y16 y17 y18 y19) (damperlaw10_ScalePanic.j1 (k + 1) y0 y1 y2 y3 y4 y5 y6 y7 y8 y9 y10 y11 y12 y13 y14 y15 y16 y17 y18 y19)) ∧ (∀ y0 y1 y2 y3 y4 y5 y6 y7 y8 y9 y10 y11 y12 y13 y14 y15 y16 y17 y18, LeO (damperlaw10_ScalePanic.j2 k y0 y1 y2 y3 y4 y5 y6 y7 y8 y9 y10 y11 y12 y13 y14 y15 y16 y17 y18) (damperlaw10_ScalePanic.j2 (k + 1) y0 y1 y2 y3 y4 y5 y6 y7 y8 y9 y10 y11 y12 y13 y14 y15 y16 y17 y18)) ∧ (∀ y0 y1 y2 y3 y4 y5 y6 y7 y8 y9 y10 y11 y12 y13 y14 y15 y16 y17 y18, LeO (damperlaw10_ScalePanic.l0 k y0 y1 y2 y3 y4 y5 y6 y7 y8 y9 y10 y11 y12 y13 y14 y15 y16 y17 y18) (damperlaw10_ScalePanic.l0 (k + 1) y0 y1 y2 y3 y4 y5 y6 y7 y8 y9 y10 y11 y12 y13 y14 y15 y16 y17 y18))
  | 0 => ⟨fun _ _ _ _ _ _ _ _ _ _ _ _ _ _ _ _ _ _ _ _ r h => by simp [damperlaw10_ScalePanic.j0] at h, fun _ _ _ _ _ _ _ _ _ _ _ _ _ _ _ _ _ _ _ _ r h => by simp [damperlaw10_ScalePanic.j1] at h, fun _ _ _ _ _ _ _ _ _ _ _ _ _ _ _ _ _ _ _ r h => by simp [damperlaw10_ScalePanic.j2] at h, fun _ _ _ _ _ _ _ _ _ _ _ _ _ _ _ _ _ _ _ r h => by simp [damperlaw10_ScalePanic.l0] at h⟩
  | k + 1 => by
    obtain ⟨ih0, ih1, ih2, ih3⟩ := damperlaw10_ScalePanic.mono_l k
    refine ⟨?_, ?_, ?_, ?_⟩
    · intro y0 y1 y2 y3 y4 y5 y6 y7 y8 y9 y10 y11 y12 y13 y14 y15 y16 y17 y18 y19
      unfold damperlaw10_ScalePanic.j0
      repeat' first
      | (with_reducible exact ih0 _ _ _ _ _ _ _ _ _ _ _ _ _ _ _ _ _ _ _ _)
      | (with_reducible exact ih1 _ _ _ _ _ _ _ _ _ _ _ _ _ _ _ _ _ _ _ _)
      | (with_reducible exact ih2 _ _ _ _ _ _ _ _ _ _ _ _ _ _ _ _ _ _ _)
      | (with_reducible exact ih3 _ _ _ _ _ _ _ _ _ _ _ _ _ _ _ _ _ _ _)
      | (with_reducible exact damperlaw10_decide.mono _ _ _ _ _ _ _ _ _ _ _ _ _ _ _ _)
      | (with_reducible exact damperlaw10_known.mono _)
      | (with_reducible exact scale_Decide.mono _ _ _ _ _ _ _ _ _ _ _ _ _ _ _ _)
      | (with_reducible exact LeO.refl _)
      | (with_reducible exact LeO.none _)
      | (with_reducible refine LeO.ite ?_ ?_)
      | (with_reducible refine LeO.bind ?_ (fun _ => ?_))
      | exact ih0 _ _ _ _ _ _ _ _ _ _ _ _ _ _ _ _ _ _ _ _
      | exact ih1 _ _ _ _ _ _ _ _ _ _ _ _ _ _ _ _ _ _ _ _
      | exact ih2 _ _ _ _ _ _ _ _ _ _ _ _ _ _ _ _ _ _ _
      | exact ih3 _ _ _ _ _ _ _ _ _ _ _ _ _ _ _ _ _ _ _
      | exact damperlaw10_decide.mono _ _ _ _ _ _ _ _ _ _ _ _ _ _ _ _
      | exact damperlaw10_known.mono _
      | exact scale_Decide.mono _ _ _ _ _ _ _ _ _ _ _ _ _ _ _ _
      | exact LeO.none _
      | refine LeO.ite ?_ ?_
      | refine LeO.bind ?_ (fun _ => ?_)
    · intro y0 y1 y2 y3 y4 y5 y6 y7 y8 y9 y10 y11 y12 y13 y14 y15 y16 y17 y18 y19
      unfold damperlaw10_ScalePanic.j1
      repeat' first
      | (with_reducible exact ih0 _ _ _ _ _ _ _ _ _ _ _ _ _ _ _ _ _ _ _ _)
      | (with_reducible exact ih1 _ _ _ _ _ _ _ _ _ _ _ _ _ _ _ _ _ _ _ _)
      | (with_reducible exact ih2 _ _ _ _ _ _ _ _ _ _ _ _ _ _ _ _ _ _ _)
      | (with_reducible exact ih3 _ _ _ _ _ _ _ _ _ _ _ _ _ _ _ _ _ _ _)
      | (with_reducible exact damperlaw10_decide.mono _ _ _ _ _ _ _ _ _ _ _ _ _ _ _ _)
      | (with_reducible exact damperlaw10_known.mono _)
      | (with_reducible exact scale_Decide.mono _ _ _ _ _ _ _ _ _ _ _ _ _ _ _ _)
      | (with_reducible exact LeO.refl _)
      | (with_reducible exact LeO.none _)
      | (with_reducible refine LeO.ite ?_ ?_)
      | (with_reducible refine LeO.bind ?_ (fun _ => ?_))
      | exact ih0 _ _ _ _ _ _ _ _ _ _ _ _ _ _ _ _ _ _ _ _
      | exact ih1 _ _ _ _ _ _ _ _ _ _ _ _ _ _ _ _ _ _ _ _
      | exact ih2 _ _ _ _ _ _ _ _ _ _ _ _ _ _ _ _ _ _ _
      | exact ih3 _ _ _ _ _ _ _ _ _ _ _ _ _ _ _ _ _ _ _
      | exact damperlaw10_decide.mono _ _ _ _ _ _ _ _ _ _ _ _ _ _ _ _
      | exact damperlaw10_known.mono _
      | exact scale_Decide.mono _ _ _ _ _ _ _ _ _ _ _ _ _ _ _ _
      | exact LeO.none _
      | refine LeO.ite ?_ ?_
      | refine LeO.bind ?_ (fun _ => ?_)
    · intro y0 y1 y2 y3 y4 y5 y6 y7 y8 y9 y10 y11 y12 y13 y14 y15 y16 y17 y18
      unfold damperlaw10_ScalePanic.j2
      repeat' first
      | (with_reducible exact ih0 _ _ _ _ _ _ _ _ _ _ _ _ _ _ _ _ _ _ _ _)
      | (with_reducible exact ih1 _ _ _ _ _ _ _ _ _ _ _ _ _ _ _ _ _ _ _ _)
      | (with_reducible exact ih2 _ _ _ _ _ _ _ _ _ _ _ _ _ _ _ _ _ _ _)
      | (with_reducible exact ih3 _ _ _ _ _ _ _ _ _ _ _ _ _ _ _ _ _ _ _)
      | (with_reducible exact damperlaw10_decide.mono _ _ _ _ _ _ _ _ _ _ _ _ _ _ _ _)
      | (with_reducible exact damperlaw10_known.mono _)
      | (with_reducible exact scale_Decide.mono _ _ _ _ _ _ _ _ _ _ _ _ _ _ _ _)
      | (with_reducible exact LeO.refl _)
      | (with_reducible exact LeO.none _)
      | (with_reducible refine LeO.ite ?_ ?_)
      | (with_reducible refine LeO.bind ?_ (fun _ => ?_))
      | exact ih0 _ _ _ _ _ _ _ _ _ _ _ _ _ _ _ _ _ _ _ _
      | exact ih1 _ _ _ _ _ _ _ _ _ _ _ _ _ _ _ _ _ _ _ _
      | exact ih2 _ _ _ _ _ _ _ _ _ _ _ _ _ _ _ _ _ _ _
      | exact ih3 _ _ _ _ _ _ _ _ _ _ _ _ _ _ _ _ _ _ _
      | exact damperlaw10_decide.mono _ _ _ _ _ _ _ _ _ _ _ _ _ _ _ _
      | exact damperlaw10_known.mono _
      | exact scale_Decide.mono _ _ _ _ _ _ _ _ _ _ _ _ _ _ _ _
      | exact LeO.none _
      | refine LeO.ite ?_ ?_
      | refine LeO.bind ?_ (fun _ => ?_)
    · intro y0 y1 y2 y3 y4 y5 y6 y7 y8 y9 y10 y11 y12 y13 y14 y15 y16 y17 y18
      unfold damperlaw10_ScalePanic.l0
      repeat' first
      | (with_reducible exact ih0 _ _ _ _ _ _ _ _ _ _ _ _ _ _ _ _ _ _ _ _)
      | (with_reducible exact ih1 _ _ _ _ _ _ _ _ _ _ _ _ _ _ _ _ _ _ _ _)
      | (with_reducible exact ih2 _ _ _ _ _ _ _ _ _ _ _ _ _ _ _ _ _ _ _)
      | (with_reducible exact ih3 _ _ _ _ _ _ _ _ _ _ _ _ _ _ _ _ _ _ _)
      | (with_reducible exact damperlaw10_decide.mono _ _ _ _ _ _ _ _ _ _ _ _ _ _ _ _)
      | (with_reducible exact damperlaw10_known.mono _)
      | (with_reducible exact scale_Decide.mono _ _ _ _ _ _ _ _ _ _ _ _ _ _ _ _)
      | (with_reducible exact LeO.refl _)
      | (with_reducible exact LeO.none _)
      | (with_reducible refine LeO.ite ?_ ?_)
      | (with_reducible refine LeO.bind ?_ (fun _ => ?_))
      | exact ih0 _ _ _ _ _ _ _ _ _ _ _ _ _ _ _ _ _ _ _ _
      | exact ih1 _ _ _ _ _ _ _ _ _ _ _ _ _ _ _ _ _ _ _ _
      | exact ih2 _ _ _ _ _ _ _ _ _ _ _ _ _ _ _ _ _ _ _
      | exact ih3 _ _ _ _ _ _ _ _ _ _ _ _ _ _ _ _ _ _ _
      | exact damperlaw10_decide.mono _ _ _ _ _ _ _ _ _ _ _ _ _ _ _ _
      | exact damperlaw10_known.mono _
      | exact scale_Decide.mono _ _ _ _ _ _ _ _ _ _ _ _ _ _ _ _
      | exact LeO.none _
      | refine LeO.ite ?_ ?_
      | refine LeO.bind ?_ (fun _ => ?_)
theorem damperlaw10_ScalePanic.mono : ∀ a0 a1 a2 a3 a4 a5 a6 a7 a8 a9 a10 a11 a12 a13 a14 a15 k, LeO (damperlaw10_ScalePanic.f k a0 a1 a2 a3 a4 a5 a6 a7 a8 a9 a10 a11 a12 a13 a14 a15) (damperlaw10_ScalePanic.f (k + 1) a0 a1 a2 a3 a4 a5 a6 a7 a8 a9 a10 a11 a12 a13 a14 a15) := by
  intro a0 a1 a2 a3 a4 a5 a6 a7 a8 a9 a10 a11 a12 a13 a14 a15 k
  obtain ⟨ih0, ih1, ih2, ih3⟩ := damperlaw10_ScalePanic.mono_l k
  unfold damperlaw10_ScalePanic.f
  repeat' first
      | (with_reducible exact ih0 _ _ _ _ _ _ _ _ _ _ _ _ _ _ _ _ _ _ _ _)
      | (with_reducible exact ih1 _ _ _ _ _ _ _ _ _ _ _ _ _ _ _ _ _ _ _ _)
      | (with_reducible exact ih2 _ _ _ _ _ _ _ _ _ _ _ _ _ _ _ _ _ _ _)
      | (with_reducible exact ih3 _ _ _ _ _ _ _ _ _ _ _ _ _ _ _ _ _ _ _)
      | (with_reducible exact damperlaw10_decide.mono _ _ _ _ _ _ _ _ _ _ _ _ _ _ _ _)
      | (with_reducible exact damperlaw10_known.mono _)
      | (with_reducible exact scale_Decide.mono _ _ _ _ _ _ _ _ _ _ _ _ _ _ _ _)
      | (with_reducible exact LeO.refl _)
      | (with_reducible exact LeO.none _)
      | (with_reducible refine LeO.ite ?_ ?_)
      | (with_reducible refine LeO.bind ?_ (fun _ => ?_))
      | exact ih0 _ _ _ _ _ _ _ _ _ _ _ _ _ _ _ _ _ _ _ _
      | exact ih1 _ _ _ _ _ _ _ _ _ _ _ _ _ _ _ _ _ _ _ _
      | exact ih2 _ _ _ _ _ _ _ _ _ _ _ _ _ _ _ _ _ _ _
      | exact ih3 _ _ _ _ _ _ _ _ _ _ _ _ _ _ _ _ _ _ _
      | exact damperlaw10_decide.mono _ _ _ _ _ _ _ _ _ _ _ _ _ _ _ _
      | exact damperlaw10_known.mono _
      | exact scale_Decide.mono _ _ _ _ _ _ _ _ _ _ _ _ _ _ _ _
      | exact LeO.none _
      | refine LeO.ite ?_ ?_
      | refine LeO.bind ?_ (fun _ => ?_)
def damperlaw10_ScalePanic.T3 : Bool × List (List Nat × List Nat) := (true, [([], []), ([0], [0]), ([], []), ([2, 1], [2]), ([], []), ([], []), ([4, 1, 3, 0, 1, 4, 5], [1, 4]), ([5, 3, 6, 0, 1, 2, 3, 4, 5, 6], [3, 5])])
def damperlaw10_ScalePanic.B3 : List Nat := [0, 1, 0, 7, 0, 0, 63, 127]
theorem damperlaw10_ScalePanic.tab3 : rtab .any (opsOf Try.f6 3) = damperlaw10_ScalePanic.T3 := by kernel_rfl
theorem damperlaw10_ScalePanic.bits3 : waitsOk damperlaw10_ScalePanic.T3.2 damperlaw10_ScalePanic.B3 = true := by kernel_rfl
set_option maxHeartbeats 8000000 in
set_option maxRecDepth 100000 in
theorem damperlaw10_ScalePanic.calls (k : Nat) (a0_0 : Int) (a0_1 : Int) (a0_2 : Int) (a0_3 : Int) (a0_4 : Int) (a0_5 : Int) (a0_6 : Int) (a0_7 : Int) (a0_8 : Int) (a1_0 : ByteArray) (a1_1 : Int) (a1_2 : Int) (a1_3 : Int) (a1_4 : Int) (a1_5 : Int) (a2 : Int) (r : Bool) (w : World) (hr0_ : Aside0 (r = true)) (h : damperlaw10_ScalePanic.f k a0_0 a0_1 a0_2 a0_3 a0_4 a0_5 a0_6 a0_7 a0_8 a1_0 a1_1 a1_2 a1_3 a1_4 a1_5 a2 = some r) :
    Calls Try.prog 6 #[.agg #[.int .i64 a0_0, .int .i64 a0_1, .int .i64 a0_2, .int .i64 a0_3, .int .i64 a0_4, .int .i64 a0_5, .int .i64 a0_6, .int .i64 a0_7, .int .i64 a0_8], .agg #[.string a1_0, .int .i64 a1_1, .int .i64 a1_2, .int .i64 a1_3, .int .i64 a1_4, .int .i64 a1_5], .int .i64 a2] w fun e w' => e = .returned (.bool r) ∧ Below w.heap.size w w' := by
  have hu23 := Try.underlying23
  have hu25 := Try.underlying25
  have hu30 := Try.underlying30
  have HB := Aside0.mk (Below.refl w.heap.size w)
  have H : ((damperlaw10_known.f k).bind fun t243 => (if t243 = true then ((damperlaw10_Given_Make.f a0_0 a0_1 a0_2 a0_3 a0_4 a0_5 a0_6 a0_7 a0_8).bind fun bt244 => ((damperlaw2_Config.f a1_0 a1_1 a1_2 a1_3 a1_4 a1_5 0).bind fun bt253 => ((damperlaw10_decide.f k bt244.1 bt244.2.1 bt244.2.2.1 bt244.2.2.2.1 bt244.2.2.2.2.1 bt244.2.2.2.2.2.1 bt244.2.2.2.2.2.2.1 bt244.2.2.2.2.2.2.2.1 bt244.2.2.2.2.2.2.2.2 bt253.1 bt253.2.1 bt253.2.2.1 bt253.2.2.2.1 bt253.2.2.2.2.1 bt253.2.2.2.2.2).bind fun bt261 => ((damperref10_Need.f bt244.2.2.2.2.2.2.1 bt244.2.2.2.2.2.2.2.1 bt253.2.2.1).bind fun t264 => (damperlaw10_ScalePanic.j0 k a2 t264 (mx 1 bt244.2.2.1) bt244.1 bt244.2.1 bt244.2.2.1 bt244.2.2.2.1 bt244.2.2.2.2.1 bt244.2.2.2.2.2.1 bt244.2.2.2.2.2.2.1 bt244.2.2.2.2.2.2.2.1 bt244.2.2.2.2.2.2.2.2 bt253.1 bt253.2.1 bt253.2.2.1 bt253.2.2.2.1 bt253.2.2.2.2.1 bt253.2.2.2.2.2 bt261.1 bt261.2))))) else (some false))) = some r := h
  clear h
  replace H := Option.bind_eq_some_iff.mp H
  obtain ⟨t243, A40, H⟩ := H
  replace H : (if t243 = true then ((damperlaw10_Given_Make.f a0_0 a0_1 a0_2 a0_3 a0_4 a0_5 a0_6 a0_7 a0_8).bind fun bt244 => ((damperlaw2_Config.f a1_0 a1_1 a1_2 a1_3 a1_4 a1_5 0).bind fun bt253 => ((damperlaw10_decide.f k bt244.1 bt244.2.1 bt244.2.2.1 bt244.2.2.2.1 bt244.2.2.2.2.1 bt244.2.2.2.2.2.1 bt244.2.2.2.2.2.2.1 bt244.2.2.2.2.2.2.2.1 bt244.2.2.2.2.2.2.2.2 bt253.1 bt253.2.1 bt253.2.2.1 bt253.2.2.2.1 bt253.2.2.2.2.1 bt253.2.2.2.2.2).bind fun bt261 => ((damperref10_Need.f bt244.2.2.2.2.2.2.1 bt244.2.2.2.2.2.2.2.1 bt253.2.2.1).bind fun t264 => (damperlaw10_ScalePanic.j0 k a2 t264 (mx 1 bt244.2.2.1) bt244.1 bt244.2.1 bt244.2.2.1 bt244.2.2.2.1 bt244.2.2.2.2.1 bt244.2.2.2.2.2.1 bt244.2.2.2.2.2.2.1 bt244.2.2.2.2.2.2.2.1 bt244.2.2.2.2.2.2.2.2 bt253.1 bt253.2.1 bt253.2.2.1 bt253.2.2.2.1 bt253.2.2.2.2.1 bt253.2.2.2.2.2 bt261.1 bt261.2))))) else (some false)) = some r := H
  have A4 := Aside0.mk A40
  clear A40
  by_cases c5 : t243 = true
  · subst c5
    have H1 : ((damperlaw10_Given_Make.f a0_0 a0_1 a0_2 a0_3 a0_4 a0_5 a0_6 a0_7 a0_8).bind fun bt244 => ((damperlaw2_Config.f a1_0 a1_1 a1_2 a1_3 a1_4 a1_5 0).bind fun bt253 => ((damperlaw10_decide.f k bt244.1 bt244.2.1 bt244.2.2.1 bt244.2.2.2.1 bt244.2.2.2.2.1 bt244.2.2.2.2.2.1 bt244.2.2.2.2.2.2.1 bt244.2.2.2.2.2.2.2.1 bt244.2.2.2.2.2.2.2.2 bt253.1 bt253.2.1 bt253.2.2.1 bt253.2.2.2.1 bt253.2.2.2.2.1 bt253.2.2.2.2.2).bind fun bt261 => ((damperref10_Need.f bt244.2.2.2.2.2.2.1 bt244.2.2.2.2.2.2.2.1 bt253.2.2.1).bind fun t264 => (damperlaw10_ScalePanic.j0 k a2 t264 (mx 1 bt244.2.2.1) bt244.1 bt244.2.1 bt244.2.2.1 bt244.2.2.2.1 bt244.2.2.2.2.1 bt244.2.2.2.2.2.1 bt244.2.2.2.2.2.2.1 bt244.2.2.2.2.2.2.2.1 bt244.2.2.2.2.2.2.2.2 bt253.1 bt253.2.1 bt253.2.2.1 bt253.2.2.2.1 bt253.2.2.2.2.1 bt253.2.2.2.2.2 bt261.1 bt261.2))))) = some r := by rw [if_pos rfl] at H; exact H
    clear H
    have H := H1
    clear H1
    replace H := Option.bind_eq_some_iff.mp H
    obtain ⟨⟨t244, t245, t246, t247, t248, t249, t250, t251, t252⟩, A60, H⟩ := H
    replace H : ((damperlaw2_Config.f a1_0 a1_1 a1_2 a1_3 a1_4 a1_5 0).bind fun bt253 => ((damperlaw10_decide.f k t244 t245 t246 t247 t248 t249 t250 t251 t252 bt253.1 bt253.2.1 bt253.2.2.1 bt253.2.2.2.1 bt253.2.2.2.2.1 bt253.2.2.2.2.2).bind fun bt261 => ((damperref10_Need.f t250 t251 bt253.2.2.1).bind fun t264 => (damperlaw10_ScalePanic.j0 k a2 t264 (mx 1 t246) t244 t245 t246 t247 t248 t249 t250 t251 t252 bt253.1 bt253.2.1 bt253.2.2.1 bt253.2.2.2.1 bt253.2.2.2.2.1 bt253.2.2.2.2.2 bt261.1 bt261.2)))) = some r := H
    have A6 := Aside0.mk A60
    clear A60
    replace H := Option.bind_eq_some_iff.mp H
    obtain ⟨⟨t253, t254, t255, t256, t257, t258⟩, A70, H⟩ := H
    replace H : ((damperlaw10_decide.f k t244 t245 t246 t247 t248 t249 t250 t251 t252 t253 t254 t255 t256 t257 t258).bind fun bt261 => ((damperref10_Need.f t250 t251 t255).bind fun t264 => (damperlaw10_ScalePanic.j0 k a2 t264 (mx 1 t246) t244 t245 t246 t247 t248 t249 t250 t251 t252 t253 t254 t255 t256 t257 t258 bt261.1 bt261.2))) = some r := H
    have A7 := Aside0.mk A70
    clear A70
    replace H := Option.bind_eq_some_iff.mp H
    obtain ⟨⟨t261, t262⟩, A80, H⟩ := H
    replace H : ((damperref10_Need.f t250 t251 t255).bind fun t264 => (damperlaw10_ScalePanic.j0 k a2 t264 (mx 1 t246) t244 t245 t246 t247 t248 t249 t250 t251 t252 t253 t254 t255 t256 t257 t258 t261 t262)) = some r := H
    have A8 := Aside0.mk A80
    clear A80
    replace H := Option.bind_eq_some_iff.mp H
    obtain ⟨t264, A90, H⟩ := H
    replace H : (damperlaw10_ScalePanic.j0 k a2 t264 (mx 1 t246) t244 t245 t246 t247 t248 t249 t250 t251 t252 t253 t254 t255 t256 t257 t258 t261 t262) = some r := H
    have A9 := Aside0.mk A90
    clear A90
    have HC10 := Aside0.mk H
    clear H
    go_enter Try.func6, Try.ntmps6
    try go_wp2_with (first | ((with_reducible refine gate_dst (N := 3) rfl ?_); (try (refine gate_guard (by rfl) ?_; dsimp only)); refine box_event ?hg (N := 3) ?hd (cs := #[.int .i64 a0_0, .int .i64 a0_1, .int .i64 a0_2, .int .i64 a0_3, .int .i64 a0_4, .int .i64 a0_5, .int .i64 a0_6, .int .i64 a0_7, .int .i64 a0_8]) (t := 23) ?hr ?_; (case hd => rfl); (case hg => rfl); (case hr => first | (go_simp; done) | (go_simp; rfl)); intro gb241 hg w11 hbox hb; have n0_ := Aside0.mk (below_step (by repeat (first | (with_reducible first | exact HB.out | apply below_alloc | apply pw_below_drewN | apply below_drew1) | exact HB.out)) hb); have n1_ := Aside0.mk (hbox); have n2_ := Aside0.mk ((by rw [hg]; exact (below_size (by repeat (first | (with_reducible first | exact HB.out | apply below_alloc | apply pw_below_drewN | apply below_drew1) | exact HB.out))) : w.heap.size ≤ gb241)); have n3_ := Aside0.mk ((by rw [hg]; exact (below_size (by repeat (first | (with_reducible first | exact HB.out | apply below_alloc | apply pw_below_drewN | apply below_drew1) | exact HB.out))) : w.heap.size ≤ gb241)); clear HB; have HB := n0_; have BK241 := n1_; have GW241 := n2_; have GE241 := n3_; clear n0_ n1_ n2_ n3_; clear hb hbox hg) | ((with_reducible refine gate_dst (N := 4) rfl ?_); (try (refine gate_guard (by rfl) ?_; dsimp only)); refine box_event ?hg (N := 4) ?hd (cs := #[.string a1_0, .int .i64 a1_1, .int .i64 a1_2, .int .i64 a1_3, .int .i64 a1_4, .int .i64 a1_5]) (t := 25) ?hr ?_; (case hd => rfl); (case hg => rfl); (case hr => first | (go_simp; done) | (go_simp; rfl)); intro gb242 hg w12 hbox hb; have n0_ := Aside0.mk (blk_below (g := gb241) (pk BK241) hb); have n1_ := Aside0.mk (below_step (by repeat (first | (with_reducible first | exact HB.out | apply below_alloc | apply pw_below_drewN | apply below_drew1 | refine below_set ?_ GE241.out) | exact HB.out)) hb); have n2_ := Aside0.mk (hbox); have n3_ := Aside0.mk ((by rw [hg]; exact (below_size (by repeat (first | (with_reducible first | exact HB.out | apply below_alloc | apply pw_below_drewN | apply below_drew1 | refine below_set ?_ GE241.out) | exact HB.out))) : w.heap.size ≤ gb242)); have n4_ := Aside0.mk ((by rw [hg]; exact (below_size (by repeat (first | (with_reducible first | exact HB.out | apply below_alloc | apply pw_below_drewN | apply below_drew1 | refine below_set ?_ GE241.out) | exact HB.out))) : w.heap.size ≤ gb242)); have n5_ := Aside0.mk ((ne_lt hg (pk BK241) : gb241 ≠ gb242)); have n6_ := Aside0.mk ((ne_gt hg (pk BK241) : gb242 ≠ gb241)); clear BK241; clear HB; have BK241 := n0_; have HB := n1_; have BK242 := n2_; have GW242 := n3_; have GE242 := n4_; have NB241_242 := n5_; have NB242_241 := n6_; clear n0_ n1_ n2_ n3_ n4_ n5_ n6_; clear hb hbox hg) | ((with_reducible refine gate_callee (f := 13) rfl ?_); refine goesL_ (some 15) rfl rfl Try.func13 (by kernel_rfl) rfl #[] rfl (by (try simp only [List.map_toArray, List.map_cons, List.map_nil]); first | done | rfl | (simp only [List.length_drop, List.length_take]; rfl)) ?_; (with_reducible refine (damperlaw10_known.calls k  true _ A4.out).mono ?_); rintro e w13 ⟨rfl, hb⟩; refine ⟨_, rfl, ?_⟩; have n0_ := Aside0.mk (blk_below (g := gb241) (pk BK241) hb); have n1_ := Aside0.mk (blk_below (g := gb242) (pk BK242) hb); have n2_ := Aside0.mk (below_step (by repeat (first | (with_reducible first | exact HB.out | apply below_alloc | apply pw_below_drewN | apply below_drew1 | refine below_set ?_ GE241.out | refine below_set ?_ GE242.out) | exact HB.out)) hb); clear BK241; clear BK242; clear HB; have BK241 := n0_; have BK242 := n1_; have HB := n2_; clear n0_ n1_ n2_; (try clear hb); (try clear hb2); (try clear hk); (try clear hi)))
    replace BK241 := Aside0.mk (blk_drew BK241.out)
    replace BK242 := Aside0.mk (blk_drew BK242.out)
    replace HB := Aside0.mk (below_drew1 HB.out)
    refine start_ (n := 8) (S := fun w' => w'.cell? ⟨gb241, 0, none⟩ = some (.int .i64 a0_0) ∧ w'.cell? ⟨gb241, 1, none⟩ = some (.int .i64 a0_1) ∧ w'.cell? ⟨gb241, 2, none⟩ = some (.int .i64 a0_2) ∧ w'.cell? ⟨gb241, 3, none⟩ = some (.int .i64 a0_3) ∧ w'.cell? ⟨gb241, 4, none⟩ = some (.int .i64 a0_4) ∧ w'.cell? ⟨gb241, 5, none⟩ = some (.int .i64 a0_5) ∧ w'.cell? ⟨gb241, 6, none⟩ = some (.int .i64 a0_6) ∧ w'.cell? ⟨gb241, 7, none⟩ = some (.int .i64 a0_7) ∧ w'.cell? ⟨gb241, 8, none⟩ = some (.int .i64 a0_8) ∧ w'.cell? ⟨gb242, 0, none⟩ = some (.string a1_0) ∧ w'.cell? ⟨gb242, 1, none⟩ = some (.int .i64 a1_1) ∧ w'.cell? ⟨gb242, 2, none⟩ = some (.int .i64 a1_2) ∧ w'.cell? ⟨gb242, 3, none⟩ = some (.int .i64 a1_3) ∧ w'.cell? ⟨gb242, 4, none⟩ = some (.int .i64 a1_4) ∧ w'.cell? ⟨gb242, 5, none⟩ = some (.int .i64 a1_5)) (ds := []) #[false, false, false, false, false, false, false, false] (by kernel_rfl) rfl rfl ⟨bc BK241 0, bc BK241 1, bc BK241 2, bc BK241 3, bc BK241 4, bc BK241 5, bc BK241 6, bc BK241 7, bc BK241 8, bc BK242 0, bc BK242 1, bc BK242 2, bc BK242 3, bc BK242 4, bc BK242 5⟩ (fun hHeld => ?_); refine with_tabW damperlaw10_ScalePanic.tab3 damperlaw10_ScalePanic.bits3 (fun HT_ HW_ => ?_)
    generalize w13.drew = w14 at BK241 BK242 HB hHeld ⊢
    refine take_ (i := 0) (N := some 17) (v := ?_) (a' := ?_) #[true, false, false, false, false, false, false, false] rfl rfl (take_ofW HT_.out HW_.out (by kernel_rfl)) (fun _ _ _ h => h) (Or.inl ⟨by rfl, ?_⟩) hHeld ?_ ?_
    rotate_left
    · rintro w' ⟨s0, s1, s2, s3, s4, s5, s6, s7, s8, s9, s10, s11, s12, s13, s14⟩
      go_simp
      with_reducible rfl
    rotate_left
    · simp only [Act.put, List.setIfInBounds_toArray, List.set_cons_zero, List.set_cons_succ, i64_w, i32_w]
      rfl
    refine take_ (i := 2) (N := some 19) (v := ?_) (a' := ?_) #[true, false, true, false, false, false, false, false] rfl rfl (take_ofW HT_.out HW_.out (by kernel_rfl)) (fun _ _ _ h => h) (Or.inl ⟨by rfl, ?_⟩) hHeld ?_ ?_
    rotate_left
    · rintro w' ⟨s0, s1, s2, s3, s4, s5, s6, s7, s8, s9, s10, s11, s12, s13, s14⟩
      go_simp
      with_reducible rfl
    rotate_left
    · simp only [Act.put, List.setIfInBounds_toArray, List.set_cons_zero, List.set_cons_succ, i64_w, i32_w]
      rfl
    refine join_ (σ := Nat × Nat) 2 #[true, true, true, true, true, true, false, false] (fun s_ => [(18, .agg #[.int .i64 t244, .int .i64 t245, .int .i64 t246, .int .i64 t247, .int .i64 t248, .int .i64 t249, .int .i64 t250, .int .i64 t251, .int .i64 t252]), (20, .agg #[.string t253, .int .i64 t254, .int .i64 t255, .int .i64 t256, .int .i64 t257, .int .i64 t258]), (7, .pointer (some ⟨s_.1, 0, none⟩)), (8, .pointer (some ⟨s_.2, 0, none⟩))]) (fun s_ w' => (w'.cell? ⟨gb241, 0, none⟩ = some (.int .i64 a0_0) ∧ w'.cell? ⟨gb241, 1, none⟩ = some (.int .i64 a0_1) ∧ w'.cell? ⟨gb241, 2, none⟩ = some (.int .i64 a0_2) ∧ w'.cell? ⟨gb241, 3, none⟩ = some (.int .i64 a0_3) ∧ w'.cell? ⟨gb241, 4, none⟩ = some (.int .i64 a0_4) ∧ w'.cell? ⟨gb241, 5, none⟩ = some (.int .i64 a0_5) ∧ w'.cell? ⟨gb241, 6, none⟩ = some (.int .i64 a0_6) ∧ w'.cell? ⟨gb241, 7, none⟩ = some (.int .i64 a0_7) ∧ w'.cell? ⟨gb241, 8, none⟩ = some (.int .i64 a0_8) ∧ w'.cell? ⟨gb242, 0, none⟩ = some (.string a1_0) ∧ w'.cell? ⟨gb242, 1, none⟩ = some (.int .i64 a1_1) ∧ w'.cell? ⟨gb242, 2, none⟩ = some (.int .i64 a1_2) ∧ w'.cell? ⟨gb242, 3, none⟩ = some (.int .i64 a1_3) ∧ w'.cell? ⟨gb242, 4, none⟩ = some (.int .i64 a1_4) ∧ w'.cell? ⟨gb242, 5, none⟩ = some (.int .i64 a1_5)) ∧ (w'.heap[gb241]? = some (.cells #[.int .i64 a0_0, .int .i64 a0_1, .int .i64 a0_2, .int .i64 a0_3, .int .i64 a0_4, .int .i64 a0_5, .int .i64 a0_6, .int .i64 a0_7, .int .i64 a0_8] 23 (0, 0))) ∧ (w'.heap[gb242]? = some (.cells #[.string a1_0, .int .i64 a1_1, .int .i64 a1_2, .int .i64 a1_3, .int .i64 a1_4, .int .i64 a1_5] 25 (0, 0))) ∧ (w'.heap[s_.1]? = some (.cells #[.int .i64 0, .int .i64 0, .int .i64 0, .int .i64 0, .int .i64 0, .int .i64 0, .int .i64 0, .int .i64 0, .int .i64 0] 23 (0, 0))) ∧ (w'.heap[s_.2]? = some (.cells #[.string (⟨#[]⟩ : ByteArray), .int .i64 0, .int .i64 0, .int .i64 0, .int .i64 0, .int .i64 0] 25 (0, 0))) ∧ (w.heap.size ≤ s_.1) ∧ (w.heap.size ≤ s_.1) ∧ (gb241 ≠ s_.1) ∧ (s_.1 ≠ gb241) ∧ (gb242 ≠ s_.1) ∧ (s_.1 ≠ gb242) ∧ (s_.2 ≠ s_.1) ∧ (s_.1 ≠ s_.2) ∧ (w.heap.size ≤ s_.2) ∧ (w.heap.size ≤ s_.2) ∧ (gb241 ≠ s_.2) ∧ (s_.2 ≠ gb241) ∧ (gb242 ≠ s_.2) ∧ (s_.2 ≠ gb242) ∧ (Below w.heap.size w w')) ?_ ?_
    · rintro ⟨gb259, gb260⟩ w19 ⟨hS_, h0_, h1_, h2_, h3_, h4_, h5_, h6_, h7_, h8_, h9_, h10_, h11_, h12_, h13_, h14_, h15_, h16_, h17_, h18_⟩
      have BK259 : Aside0 (w19.heap[gb259]? = some (.cells #[.int .i64 0, .int .i64 0, .int .i64 0, .int .i64 0, .int .i64 0, .int .i64 0, .int .i64 0, .int .i64 0, .int .i64 0] 23 (0, 0))) := ⟨h2_⟩
      have BK260 : Aside0 (w19.heap[gb260]? = some (.cells #[.string (⟨#[]⟩ : ByteArray), .int .i64 0, .int .i64 0, .int .i64 0, .int .i64 0, .int .i64 0] 25 (0, 0))) := ⟨h3_⟩
      have GW259 : Aside0 (w.heap.size ≤ gb259) := ⟨h4_⟩
      have GE259 : Aside0 (w.heap.size ≤ gb259) := ⟨h5_⟩
      have NB241_259 : Aside0 (gb241 ≠ gb259) := ⟨h6_⟩
      have NB259_241 : Aside0 (gb259 ≠ gb241) := ⟨h7_⟩
      have NB242_259 : Aside0 (gb242 ≠ gb259) := ⟨h8_⟩
      have NB259_242 : Aside0 (gb259 ≠ gb242) := ⟨h9_⟩
      have NB260_259 : Aside0 (gb260 ≠ gb259) := ⟨h10_⟩
      have NB259_260 : Aside0 (gb259 ≠ gb260) := ⟨h11_⟩
      have GW260 : Aside0 (w.heap.size ≤ gb260) := ⟨h12_⟩
      have GE260 : Aside0 (w.heap.size ≤ gb260) := ⟨h13_⟩
      have NB241_260 : Aside0 (gb241 ≠ gb260) := ⟨h14_⟩
      have NB260_241 : Aside0 (gb260 ≠ gb241) := ⟨h15_⟩
      have NB242_260 : Aside0 (gb242 ≠ gb260) := ⟨h16_⟩
      have NB260_242 : Aside0 (gb260 ≠ gb242) := ⟨h17_⟩
      replace BK241 := Aside0.mk h0_
      replace BK242 := Aside0.mk h1_
      replace HB : Aside0 (Below w.heap.size w w19) := ⟨h18_⟩
      clear h0_ h1_ h2_ h3_ h4_ h5_ h6_ h7_ h8_ h9_ h10_ h11_ h12_ h13_ h14_ h15_ h16_ h17_ h18_
      have hHeld := hS_
      refine norm_ (a' := ?_) ?_ ?_
      rotate_left
      · simp only [putAll, Act.put, List.setIfInBounds_toArray, List.set_cons_zero, List.set_cons_succ]
        rfl
      refine one_ (i := 6) (N := none) #[true, true, true, true, true, true, true, false] rfl rfl (one_of HT_.out (by kernel_rfl)) (by decide) (fun K hK => ?_)
      have hs20 : w19.cell? ⟨gb259, 0, none⟩ = some (.int .i64 0) := bc BK259 0
      have hfs20 := blk_frozen BK259.out 0
      have hns20_0 := NB241_259.out
      have hns20_1 := NB242_259.out
      have hns20_3 := NB260_259.out
      have hms20_0 := NB259_241.out
      have hms20_1 := NB259_242.out
      have hms20_3 := NB259_260.out
      have hs21 : w19.cell? ⟨gb259, 1, none⟩ = some (.int .i64 0) := bc BK259 1
      have hfs21 := blk_frozen BK259.out 1
      have hs22 : w19.cell? ⟨gb259, 2, none⟩ = some (.int .i64 0) := bc BK259 2
      have hfs22 := blk_frozen BK259.out 2
      have hs23 : w19.cell? ⟨gb259, 3, none⟩ = some (.int .i64 0) := bc BK259 3
      have hfs23 := blk_frozen BK259.out 3
      have hs24 : w19.cell? ⟨gb259, 4, none⟩ = some (.int .i64 0) := bc BK259 4
      have hfs24 := blk_frozen BK259.out 4
      have hs25 : w19.cell? ⟨gb259, 5, none⟩ = some (.int .i64 0) := bc BK259 5
      have hfs25 := blk_frozen BK259.out 5
      have hs26 : w19.cell? ⟨gb259, 6, none⟩ = some (.int .i64 0) := bc BK259 6
      have hfs26 := blk_frozen BK259.out 6
      have hs27 : w19.cell? ⟨gb259, 7, none⟩ = some (.int .i64 0) := bc BK259 7
      have hfs27 := blk_frozen BK259.out 7
      have hs28 : w19.cell? ⟨gb259, 8, none⟩ = some (.int .i64 0) := bc BK259 8
      have hfs28 := blk_frozen BK259.out 8
      with_reducible_and_instances refine skip_ (w1 := ?_) ?hw_ ?hN_ ?_ ?_
      (case hw_ => rfl)
      (case hN_ => rfl)
      rotate_left
      · go_simp
        rfl
      refine hK.out _ _ ⟨(cf NB241_259 ((cf NB241_259 ((cf NB241_259 ((cf NB241_259 ((cf NB241_259 ((cf NB241_259 ((cf NB241_259 ((cf NB241_259 ((cf NB241_259 (hHeld.1)))))))))))))))))), (cf NB241_259 ((cf NB241_259 ((cf NB241_259 ((cf NB241_259 ((cf NB241_259 ((cf NB241_259 ((cf NB241_259 ((cf NB241_259 ((cf NB241_259 (hHeld.2.1)))))))))))))))))), (cf NB241_259 ((cf NB241_259 ((cf NB241_259 ((cf NB241_259 ((cf NB241_259 ((cf NB241_259 ((cf NB241_259 ((cf NB241_259 ((cf NB241_259 (hHeld.2.2.1)))))))))))))))))), (cf NB241_259 ((cf NB241_259 ((cf NB241_259 ((cf NB241_259 ((cf NB241_259 ((cf NB241_259 ((cf NB241_259 ((cf NB241_259 ((cf NB241_259 (hHeld.2.2.2.1)))))))))))))))))), (cf NB241_259 ((cf NB241_259 ((cf NB241_259 ((cf NB241_259 ((cf NB241_259 ((cf NB241_259 ((cf NB241_259 ((cf NB241_259 ((cf NB241_259 (hHeld.2.2.2.2.1)))))))))))))))))), (cf NB241_259 ((cf NB241_259 ((cf NB241_259 ((cf NB241_259 ((cf NB241_259 ((cf NB241_259 ((cf NB241_259 ((cf NB241_259 ((cf NB241_259 (hHeld.2.2.2.2.2.1)))))))))))))))))), (cf NB241_259 ((cf NB241_259 ((cf NB241_259 ((cf NB241_259 ((cf NB241_259 ((cf NB241_259 ((cf NB241_259 ((cf NB241_259 ((cf NB241_259 (hHeld.2.2.2.2.2.2.1)))))))))))))))))), (cf NB241_259 ((cf NB241_259 ((cf NB241_259 ((cf NB241_259 ((cf NB241_259 ((cf NB241_259 ((cf NB241_259 ((cf NB241_259 ((cf NB241_259 (hHeld.2.2.2.2.2.2.2.1)))))))))))))))))), (cf NB241_259 ((cf NB241_259 ((cf NB241_259 ((cf NB241_259 ((cf NB241_259 ((cf NB241_259 ((cf NB241_259 ((cf NB241_259 ((cf NB241_259 (hHeld.2.2.2.2.2.2.2.2.1)))))))))))))))))), (cf NB242_259 ((cf NB242_259 ((cf NB242_259 ((cf NB242_259 ((cf NB242_259 ((cf NB242_259 ((cf NB242_259 ((cf NB242_259 ((cf NB242_259 (hHeld.2.2.2.2.2.2.2.2.2.1)))))))))))))))))), (cf NB242_259 ((cf NB242_259 ((cf NB242_259 ((cf NB242_259 ((cf NB242_259 ((cf NB242_259 ((cf NB242_259 ((cf NB242_259 ((cf NB242_259 (hHeld.2.2.2.2.2.2.2.2.2.2.1)))))))))))))))))), (cf NB242_259 ((cf NB242_259 ((cf NB242_259 ((cf NB242_259 ((cf NB242_259 ((cf NB242_259 ((cf NB242_259 ((cf NB242_259 ((cf NB242_259 (hHeld.2.2.2.2.2.2.2.2.2.2.2.1)))))))))))))))))), (cf NB242_259 ((cf NB242_259 ((cf NB242_259 ((cf NB242_259 ((cf NB242_259 ((cf NB242_259 ((cf NB242_259 ((cf NB242_259 ((cf NB242_259 (hHeld.2.2.2.2.2.2.2.2.2.2.2.2.1)))))))))))))))))), (cf NB242_259 ((cf NB242_259 ((cf NB242_259 ((cf NB242_259 ((cf NB242_259 ((cf NB242_259 ((cf NB242_259 ((cf NB242_259 ((cf NB242_259 (hHeld.2.2.2.2.2.2.2.2.2.2.2.2.2.1)))))))))))))))))), (cf NB242_259 ((cf NB242_259 ((cf NB242_259 ((cf NB242_259 ((cf NB242_259 ((cf NB242_259 ((cf NB242_259 ((cf NB242_259 ((cf NB242_259 (hHeld.2.2.2.2.2.2.2.2.2.2.2.2.2.2))))))))))))))))))⟩ (fun hHeld => ?_)
      clear hK K
      refine one_ (i := 7) (N := none) #[true, true, true, true, true, true, true, true] rfl rfl (one_of HT_.out (by kernel_rfl)) (by decide) (fun K hK => ?_)
      have hs29 : w19.cell? ⟨gb260, 0, none⟩ = some (.string (⟨#[]⟩ : ByteArray)) := bc BK260 0
      have hfs29 := blk_frozen BK260.out 0
      have hns29_0 := NB241_260.out
      have hns29_1 := NB242_260.out
      have hns29_2 := NB259_260.out
      have hms29_0 := NB260_241.out
      have hms29_1 := NB260_242.out
      have hms29_2 := NB260_259.out
      have hs30 : w19.cell? ⟨gb260, 1, none⟩ = some (.int .i64 0) := bc BK260 1
      have hfs30 := blk_frozen BK260.out 1
      have hs31 : w19.cell? ⟨gb260, 2, none⟩ = some (.int .i64 0) := bc BK260 2
      have hfs31 := blk_frozen BK260.out 2
      have hs32 : w19.cell? ⟨gb260, 3, none⟩ = some (.int .i64 0) := bc BK260 3
      have hfs32 := blk_frozen BK260.out 3
      have hs33 : w19.cell? ⟨gb260, 4, none⟩ = some (.int .i64 0) := bc BK260 4
      have hfs33 := blk_frozen BK260.out 4
      have hs34 : w19.cell? ⟨gb260, 5, none⟩ = some (.int .i64 0) := bc BK260 5
      have hfs34 := blk_frozen BK260.out 5
      with_reducible_and_instances refine skip_ (w1 := ?_) ?hw_ ?hN_ ?_ ?_
      (case hw_ => rfl)
      (case hN_ => rfl)
      rotate_left
      · go_simp
        rfl
      refine hK.out _ _ ⟨(cf NB241_260 ((cf NB241_260 ((cf NB241_260 ((cf NB241_260 ((cf NB241_260 ((cf NB241_260 (hHeld.1)))))))))))), (cf NB241_260 ((cf NB241_260 ((cf NB241_260 ((cf NB241_260 ((cf NB241_260 ((cf NB241_260 (hHeld.2.1)))))))))))), (cf NB241_260 ((cf NB241_260 ((cf NB241_260 ((cf NB241_260 ((cf NB241_260 ((cf NB241_260 (hHeld.2.2.1)))))))))))), (cf NB241_260 ((cf NB241_260 ((cf NB241_260 ((cf NB241_260 ((cf NB241_260 ((cf NB241_260 (hHeld.2.2.2.1)))))))))))), (cf NB241_260 ((cf NB241_260 ((cf NB241_260 ((cf NB241_260 ((cf NB241_260 ((cf NB241_260 (hHeld.2.2.2.2.1)))))))))))), (cf NB241_260 ((cf NB241_260 ((cf NB241_260 ((cf NB241_260 ((cf NB241_260 ((cf NB241_260 (hHeld.2.2.2.2.2.1)))))))))))), (cf NB241_260 ((cf NB241_260 ((cf NB241_260 ((cf NB241_260 ((cf NB241_260 ((cf NB241_260 (hHeld.2.2.2.2.2.2.1)))))))))))), (cf NB241_260 ((cf NB241_260 ((cf NB241_260 ((cf NB241_260 ((cf NB241_260 ((cf NB241_260 (hHeld.2.2.2.2.2.2.2.1)))))))))))), (cf NB241_260 ((cf NB241_260 ((cf NB241_260 ((cf NB241_260 ((cf NB241_260 ((cf NB241_260 (hHeld.2.2.2.2.2.2.2.2.1)))))))))))), (cf NB242_260 ((cf NB242_260 ((cf NB242_260 ((cf NB242_260 ((cf NB242_260 ((cf NB242_260 (hHeld.2.2.2.2.2.2.2.2.2.1)))))))))))), (cf NB242_260 ((cf NB242_260 ((cf NB242_260 ((cf NB242_260 ((cf NB242_260 ((cf NB242_260 (hHeld.2.2.2.2.2.2.2.2.2.2.1)))))))))))), (cf NB242_260 ((cf NB242_260 ((cf NB242_260 ((cf NB242_260 ((cf NB242_260 ((cf NB242_260 (hHeld.2.2.2.2.2.2.2.2.2.2.2.1)))))))))))), (cf NB242_260 ((cf NB242_260 ((cf NB242_260 ((cf NB242_260 ((cf NB242_260 ((cf NB242_260 (hHeld.2.2.2.2.2.2.2.2.2.2.2.2.1)))))))))))), (cf NB242_260 ((cf NB242_260 ((cf NB242_260 ((cf NB242_260 ((cf NB242_260 ((cf NB242_260 (hHeld.2.2.2.2.2.2.2.2.2.2.2.2.2.1)))))))))))), (cf NB242_260 ((cf NB242_260 ((cf NB242_260 ((cf NB242_260 ((cf NB242_260 ((cf NB242_260 (hHeld.2.2.2.2.2.2.2.2.2.2.2.2.2.2))))))))))))⟩ (fun hHeld => ?_)
      clear hK K
      refine done_ (done_of HT_.out (by kernel_rfl)) ?_
      have hnb35 := NB259_241.out
      have hnc35 := NB241_259.out
      have hnb36 := NB259_242.out
      have hnc36 := NB242_259.out
      have hnb37 := NB259_260.out
      have hnc37 := NB260_259.out
      have hcz38_0 : w19.cell? ⟨gb259, 0, none⟩ = some (.int .i64 0) := bc BK259 0
      have hcz38_1 : w19.cell? ⟨gb259, 1, none⟩ = some (.int .i64 0) := bc BK259 1
      have hcz38_2 : w19.cell? ⟨gb259, 2, none⟩ = some (.int .i64 0) := bc BK259 2
      have hcz38_3 : w19.cell? ⟨gb259, 3, none⟩ = some (.int .i64 0) := bc BK259 3
      have hcz38_4 : w19.cell? ⟨gb259, 4, none⟩ = some (.int .i64 0) := bc BK259 4
      have hcz38_5 : w19.cell? ⟨gb259, 5, none⟩ = some (.int .i64 0) := bc BK259 5
      have hcz38_6 : w19.cell? ⟨gb259, 6, none⟩ = some (.int .i64 0) := bc BK259 6
      have hcz38_7 : w19.cell? ⟨gb259, 7, none⟩ = some (.int .i64 0) := bc BK259 7
      have hcz38_8 : w19.cell? ⟨gb259, 8, none⟩ = some (.int .i64 0) := bc BK259 8
      have hfz38_0 := blk_frozen BK259.out 0
      have hfz38_1 := blk_frozen BK259.out 1
      have hfz38_2 := blk_frozen BK259.out 2
      have hfz38_3 := blk_frozen BK259.out 3
      have hfz38_4 := blk_frozen BK259.out 4
      have hfz38_5 := blk_frozen BK259.out 5
      have hfz38_6 := blk_frozen BK259.out 6
      have hfz38_7 := blk_frozen BK259.out 7
      have hfz38_8 := blk_frozen BK259.out 8
      have hnb39 := NB260_241.out
      have hnc39 := NB241_260.out
      have hnb40 := NB260_242.out
      have hnc40 := NB242_260.out
      have hcz41_0 : w19.cell? ⟨gb260, 0, none⟩ = some (.string (⟨#[]⟩ : ByteArray)) := bc BK260 0
      have hcz41_1 : w19.cell? ⟨gb260, 1, none⟩ = some (.int .i64 0) := bc BK260 1
      have hcz41_2 : w19.cell? ⟨gb260, 2, none⟩ = some (.int .i64 0) := bc BK260 2
      have hcz41_3 : w19.cell? ⟨gb260, 3, none⟩ = some (.int .i64 0) := bc BK260 3
      have hcz41_4 : w19.cell? ⟨gb260, 4, none⟩ = some (.int .i64 0) := bc BK260 4
      have hcz41_5 : w19.cell? ⟨gb260, 5, none⟩ = some (.int .i64 0) := bc BK260 5
      have hfz41_0 := blk_frozen BK260.out 0
      have hfz41_1 := blk_frozen BK260.out 1
      have hfz41_2 := blk_frozen BK260.out 2
      have hfz41_3 := blk_frozen BK260.out 3
      have hfz41_4 := blk_frozen BK260.out 4
      have hfz41_5 := blk_frozen BK260.out 5
      go_upto_region 6 with (first | ((with_reducible refine gate_callee (f := 16) rfl ?_); refine goesL_ (some 23) rfl rfl Try.func16 (by kernel_rfl) rfl #[.agg #[.int .i64 t244, .int .i64 t245, .int .i64 t246, .int .i64 t247, .int .i64 t248, .int .i64 t249, .int .i64 t250, .int .i64 t251, .int .i64 t252], .agg #[.string t253, .int .i64 t254, .int .i64 t255, .int .i64 t256, .int .i64 t257, .int .i64 t258]] rfl (by (try simp only [List.map_toArray, List.map_cons, List.map_nil]); first | done | rfl | (simp only [List.length_drop, List.length_take]; rfl)) ?_; (with_reducible refine (damperlaw10_decide.calls k t244 t245 t246 t247 t248 t249 t250 t251 t252 t253 t254 t255 t256 t257 t258 t261 t262 _ A8.out).mono ?_); rintro e w42 ⟨rfl, hb⟩; refine ⟨_, rfl, ?_⟩; have n0_ := Aside0.mk (blk_below (g := gb241) (o := .cells #[.int .i64 a0_0, .int .i64 a0_1, .int .i64 a0_2, .int .i64 a0_3, .int .i64 a0_4, .int .i64 a0_5, .int .i64 a0_6, .int .i64 a0_7, .int .i64 a0_8] 23 (0, 0)) (by (repeat ((with_reducible repeat (first | refine blk_drewN ?_ _ | refine blk_drew ?_ | refine blk_alloc ?_ _)); refine blk_far ?_ NB241_260.out _)); (repeat ((with_reducible repeat (first | refine blk_drewN ?_ _ | refine blk_drew ?_ | refine blk_alloc ?_ _)); refine blk_far ?_ NB241_259.out _)); (with_reducible repeat (first | refine blk_drewN ?_ _ | refine blk_drew ?_ | refine blk_alloc ?_ _)); exact BK241.out) hb); have n1_ := Aside0.mk (blk_below (g := gb242) (o := .cells #[.string a1_0, .int .i64 a1_1, .int .i64 a1_2, .int .i64 a1_3, .int .i64 a1_4, .int .i64 a1_5] 25 (0, 0)) (by (repeat ((with_reducible repeat (first | refine blk_drewN ?_ _ | refine blk_drew ?_ | refine blk_alloc ?_ _)); refine blk_far ?_ NB242_260.out _)); (repeat ((with_reducible repeat (first | refine blk_drewN ?_ _ | refine blk_drew ?_ | refine blk_alloc ?_ _)); refine blk_far ?_ NB242_259.out _)); (with_reducible repeat (first | refine blk_drewN ?_ _ | refine blk_drew ?_ | refine blk_alloc ?_ _)); exact BK242.out) hb); have n2_ := Aside0.mk (blk_below (g := gb259) (o := .cells #[.int .i64 t244, .int .i64 t245, .int .i64 t246, .int .i64 t247, .int .i64 t248, .int .i64 t249, .int .i64 t250, .int .i64 t251, .int .i64 t252] 23 (0, 0)) (by (repeat ((with_reducible repeat (first | refine blk_drewN ?_ _ | refine blk_drew ?_ | refine blk_alloc ?_ _)); refine blk_far ?_ NB259_260.out _)); (with_reducible repeat (first | refine blk_drewN ?_ _ | refine blk_drew ?_ | refine blk_alloc ?_ _)); refine blk_put (cs := #[.int .i64 t244, .int .i64 t245, .int .i64 t246, .int .i64 t247, .int .i64 t248, .int .i64 t249, .int .i64 t250, .int .i64 t251, .int .i64 0]) ?_ 8 _ rfl; refine blk_put (cs := #[.int .i64 t244, .int .i64 t245, .int .i64 t246, .int .i64 t247, .int .i64 t248, .int .i64 t249, .int .i64 t250, .int .i64 0, .int .i64 0]) ?_ 7 _ rfl; refine blk_put (cs := #[.int .i64 t244, .int .i64 t245, .int .i64 t246, .int .i64 t247, .int .i64 t248, .int .i64 t249, .int .i64 0, .int .i64 0, .int .i64 0]) ?_ 6 _ rfl; refine blk_put (cs := #[.int .i64 t244, .int .i64 t245, .int .i64 t246, .int .i64 t247, .int .i64 t248, .int .i64 0, .int .i64 0, .int .i64 0, .int .i64 0]) ?_ 5 _ rfl; refine blk_put (cs := #[.int .i64 t244, .int .i64 t245, .int .i64 t246, .int .i64 t247, .int .i64 0, .int .i64 0, .int .i64 0, .int .i64 0, .int .i64 0]) ?_ 4 _ rfl; refine blk_put (cs := #[.int .i64 t244, .int .i64 t245, .int .i64 t246, .int .i64 0, .int .i64 0, .int .i64 0, .int .i64 0, .int .i64 0, .int .i64 0]) ?_ 3 _ rfl; refine blk_put (cs := #[.int .i64 t244, .int .i64 t245, .int .i64 0, .int .i64 0, .int .i64 0, .int .i64 0, .int .i64 0, .int .i64 0, .int .i64 0]) ?_ 2 _ rfl; refine blk_put (cs := #[.int .i64 t244, .int .i64 0, .int .i64 0, .int .i64 0, .int .i64 0, .int .i64 0, .int .i64 0, .int .i64 0, .int .i64 0]) ?_ 1 _ rfl; refine blk_put (cs := #[.int .i64 0, .int .i64 0, .int .i64 0, .int .i64 0, .int .i64 0, .int .i64 0, .int .i64 0, .int .i64 0, .int .i64 0]) ?_ 0 _ rfl; (with_reducible repeat (first | refine blk_drewN ?_ _ | refine blk_drew ?_ | refine blk_alloc ?_ _)); exact BK259.out) hb); have n3_ := Aside0.mk (blk_below (g := gb260) (o := .cells #[.string t253, .int .i64 t254, .int .i64 t255, .int .i64 t256, .int .i64 t257, .int .i64 t258] 25 (0, 0)) (by (with_reducible repeat (first | refine blk_drewN ?_ _ | refine blk_drew ?_ | refine blk_alloc ?_ _)); refine blk_put (cs := #[.string t253, .int .i64 t254, .int .i64 t255, .int .i64 t256, .int .i64 t257, .int .i64 0]) ?_ 5 _ rfl; refine blk_put (cs := #[.string t253, .int .i64 t254, .int .i64 t255, .int .i64 t256, .int .i64 0, .int .i64 0]) ?_ 4 _ rfl; refine blk_put (cs := #[.string t253, .int .i64 t254, .int .i64 t255, .int .i64 0, .int .i64 0, .int .i64 0]) ?_ 3 _ rfl; refine blk_put (cs := #[.string t253, .int .i64 t254, .int .i64 0, .int .i64 0, .int .i64 0, .int .i64 0]) ?_ 2 _ rfl; refine blk_put (cs := #[.string t253, .int .i64 0, .int .i64 0, .int .i64 0, .int .i64 0, .int .i64 0]) ?_ 1 _ rfl; refine blk_put (cs := #[.string (⟨#[]⟩ : ByteArray), .int .i64 0, .int .i64 0, .int .i64 0, .int .i64 0, .int .i64 0]) ?_ 0 _ rfl; (repeat ((with_reducible repeat (first | refine blk_drewN ?_ _ | refine blk_drew ?_ | refine blk_alloc ?_ _)); refine blk_far ?_ NB260_259.out _)); (with_reducible repeat (first | refine blk_drewN ?_ _ | refine blk_drew ?_ | refine blk_alloc ?_ _)); exact BK260.out) hb); have n4_ := Aside0.mk (below_step (by repeat (first | (with_reducible first | exact HB.out | apply below_alloc | apply pw_below_drewN | apply below_drew1 | refine below_set ?_ GE241.out | refine below_set ?_ GE242.out | refine below_set ?_ GE259.out | refine below_set ?_ GE260.out) | exact HB.out)) hb); clear BK241; clear BK242; clear BK259; clear BK260; clear HB; have BK241 := n0_; have BK242 := n1_; have BK259 := n2_; have BK260 := n3_; have HB := n4_; clear n0_ n1_ n2_ n3_ n4_; (try clear hb); (try clear hb2); (try clear hk); (try clear hi)) | ((with_reducible refine gate_dst (N := 9) rfl ?_); (try (refine gate_guard (by rfl) ?_; dsimp only)); refine box_event ?hg (N := 9) ?hd (cs := #[.int .i64 0, .int .i64 0]) (t := 30) ?hr ?_; (case hd => rfl); (case hg => rfl); (case hr => first | (go_simp; done) | (go_simp; rfl)); intro gb263 hg w43 hbox hb; have n0_ := Aside0.mk (blk_below (g := gb241) (pk BK241) hb); have n1_ := Aside0.mk (blk_below (g := gb242) (pk BK242) hb); have n2_ := Aside0.mk (blk_below (g := gb259) (pk BK259) hb); have n3_ := Aside0.mk (blk_below (g := gb260) (pk BK260) hb); have n4_ := Aside0.mk (below_step (by repeat (first | (with_reducible first | exact HB.out | apply below_alloc | apply pw_below_drewN | apply below_drew1 | refine below_set ?_ GE241.out | refine below_set ?_ GE242.out | refine below_set ?_ GE259.out | refine below_set ?_ GE260.out) | exact HB.out)) hb); have n5_ := Aside0.mk (hbox); have n6_ := Aside0.mk ((by rw [hg]; exact (below_size (by repeat (first | (with_reducible first | exact HB.out | apply below_alloc | apply pw_below_drewN | apply below_drew1 | refine below_set ?_ GE241.out | refine below_set ?_ GE242.out | refine below_set ?_ GE259.out | refine below_set ?_ GE260.out) | exact HB.out))) : w.heap.size ≤ gb263)); have n7_ := Aside0.mk ((by rw [hg]; exact (below_size (by repeat (first | (with_reducible first | exact HB.out | apply below_alloc | apply pw_below_drewN | apply below_drew1 | refine below_set ?_ GE241.out | refine below_set ?_ GE242.out | refine below_set ?_ GE259.out | refine below_set ?_ GE260.out) | exact HB.out))) : w.heap.size ≤ gb263)); have n8_ := Aside0.mk ((ne_lt hg (pk BK241) : gb241 ≠ gb263)); have n9_ := Aside0.mk ((ne_gt hg (pk BK241) : gb263 ≠ gb241)); have n10_ := Aside0.mk ((ne_lt hg (pk BK242) : gb242 ≠ gb263)); have n11_ := Aside0.mk ((ne_gt hg (pk BK242) : gb263 ≠ gb242)); have n12_ := Aside0.mk ((ne_lt hg (pk BK259) : gb259 ≠ gb263)); have n13_ := Aside0.mk ((ne_gt hg (pk BK259) : gb263 ≠ gb259)); have n14_ := Aside0.mk ((ne_lt hg (pk BK260) : gb260 ≠ gb263)); have n15_ := Aside0.mk ((ne_gt hg (pk BK260) : gb263 ≠ gb260)); clear BK241; clear BK242; clear BK259; clear BK260; clear HB; have BK241 := n0_; have BK242 := n1_; have BK259 := n2_; have BK260 := n3_; have HB := n4_; have BK263 := n5_; have GW263 := n6_; have GE263 := n7_; have NB241_263 := n8_; have NB263_241 := n9_; have NB242_263 := n10_; have NB263_242 := n11_; have NB259_263 := n12_; have NB263_259 := n13_; have NB260_263 := n14_; have NB263_260 := n15_; clear n0_ n1_ n2_ n3_ n4_ n5_ n6_ n7_ n8_ n9_ n10_ n11_ n12_ n13_ n14_ n15_; clear hb hbox hg; have hnb44 := NB263_241.out; have hnc44 := NB241_263.out; have hnb45 := NB263_242.out; have hnc45 := NB242_263.out; have hnb46 := NB263_259.out; have hnc46 := NB259_263.out; have hnb47 := NB263_260.out; have hnc47 := NB260_263.out; have hcz48_0 : w43.cell? ⟨gb263, 0, none⟩ = some (.int .i64 0) := bc BK263 0; have hcz48_1 : w43.cell? ⟨gb263, 1, none⟩ = some (.int .i64 0) := bc BK263 1; have hfz48_0 := blk_frozen BK263.out 0; have hfz48_1 := blk_frozen BK263.out 1; have hcz49_0 : w43.cell? ⟨gb259, 0, none⟩ = some (.int .i64 t244) := bc BK259 0; have hcz49_1 : w43.cell? ⟨gb259, 1, none⟩ = some (.int .i64 t245) := bc BK259 1; have hcz49_2 : w43.cell? ⟨gb259, 2, none⟩ = some (.int .i64 t246) := bc BK259 2; have hcz49_3 : w43.cell? ⟨gb259, 3, none⟩ = some (.int .i64 t247) := bc BK259 3; have hcz49_4 : w43.cell? ⟨gb259, 4, none⟩ = some (.int .i64 t248) := bc BK259 4; have hcz49_5 : w43.cell? ⟨gb259, 5, none⟩ = some (.int .i64 t249) := bc BK259 5; have hcz49_6 : w43.cell? ⟨gb259, 6, none⟩ = some (.int .i64 t250) := bc BK259 6; have hcz49_7 : w43.cell? ⟨gb259, 7, none⟩ = some (.int .i64 t251) := bc BK259 7; have hcz49_8 : w43.cell? ⟨gb259, 8, none⟩ = some (.int .i64 t252) := bc BK259 8; have hfz49_0 := blk_frozen BK259.out 0; have hfz49_1 := blk_frozen BK259.out 1; have hfz49_2 := blk_frozen BK259.out 2; have hfz49_3 := blk_frozen BK259.out 3; have hfz49_4 := blk_frozen BK259.out 4; have hfz49_5 := blk_frozen BK259.out 5; have hfz49_6 := blk_frozen BK259.out 6; have hfz49_7 := blk_frozen BK259.out 7; have hfz49_8 := blk_frozen BK259.out 8; have hcz50_0 : w43.cell? ⟨gb260, 0, none⟩ = some (.string t253) := bc BK260 0; have hcz50_1 : w43.cell? ⟨gb260, 1, none⟩ = some (.int .i64 t254) := bc BK260 1; have hcz50_2 : w43.cell? ⟨gb260, 2, none⟩ = some (.int .i64 t255) := bc BK260 2; have hcz50_3 : w43.cell? ⟨gb260, 3, none⟩ = some (.int .i64 t256) := bc BK260 3; have hcz50_4 : w43.cell? ⟨gb260, 4, none⟩ = some (.int .i64 t257) := bc BK260 4; have hcz50_5 : w43.cell? ⟨gb260, 5, none⟩ = some (.int .i64 t258) := bc BK260 5; have hfz50_0 := blk_frozen BK260.out 0; have hfz50_1 := blk_frozen BK260.out 1; have hfz50_2 := blk_frozen BK260.out 2; have hfz50_3 := blk_frozen BK260.out 3; have hfz50_4 := blk_frozen BK260.out 4; have hfz50_5 := blk_frozen BK260.out 5) | ((with_reducible refine gate_callee (f := 20) rfl ?_); refine goesL_ (some 30) rfl rfl Try.func20 (by kernel_rfl) rfl #[.int .i64 t250, .int .i64 t251, .int .i64 t255] rfl (by (try simp only [List.map_toArray, List.map_cons, List.map_nil]); first | done | rfl | (simp only [List.length_drop, List.length_take]; rfl)) ?_; (with_reducible refine (damperref10_Need.calls t250 t251 t255 t264 _ A9.out).mono ?_); rintro e w' ⟨rfl, ⟨nd, rfl⟩⟩; refine ⟨_, rfl, ?_⟩))
      (try simp only [Act.put, List.setIfInBounds_toArray, List.set_cons_zero, List.set_cons_succ])
      go_cut [11] (fun v11 wc => ∃ (kq : Nat) (x11_9 : Int), v11 = .int .i64 x11_9 ∧ Aside0 (damperlaw10_ScalePanic.j0 kq a2 t264 x11_9 t244 t245 t246 t247 t248 t249 t250 t251 t252 t253 t254 t255 t256 t257 t258 t261 t262 = some r) ∧ Aside0 (kq ≤ k) ∧ Aside0 (wc.heap[gb241]? = some (.cells #[.int .i64 a0_0, .int .i64 a0_1, .int .i64 a0_2, .int .i64 a0_3, .int .i64 a0_4, .int .i64 a0_5, .int .i64 a0_6, .int .i64 a0_7, .int .i64 a0_8] 23 (0, 0))) ∧ Aside0 (wc.heap[gb242]? = some (.cells #[.string a1_0, .int .i64 a1_1, .int .i64 a1_2, .int .i64 a1_3, .int .i64 a1_4, .int .i64 a1_5] 25 (0, 0))) ∧ Aside0 (wc.heap[gb259]? = some (.cells #[.int .i64 t244, .int .i64 t245, .int .i64 t246, .int .i64 t247, .int .i64 t248, .int .i64 t249, .int .i64 t250, .int .i64 t251, .int .i64 t252] 23 (0, 0))) ∧ Aside0 (wc.heap[gb260]? = some (.cells #[.string t253, .int .i64 t254, .int .i64 t255, .int .i64 t256, .int .i64 t257, .int .i64 t258] 25 (0, 0))) ∧ Aside0 (wc.heap[gb263]? = some (.cells #[.int .i64 t261, .int .i64 t262] 30 (0, 0))) ∧ Aside0 (Below w.heap.size w wc))
      case first =>
        have H := HC10.out
        clear HC10
        obtain ⟨ji51, hji51⟩ : ∃ j_ : Int, (mx 1 t246) = j_ := ⟨_, rfl⟩
        replace H : (damperlaw10_ScalePanic.j0 k a2 t264 ji51 t244 t245 t246 t247 t248 t249 t250 t251 t252 t253 t254 t255 t256 t257 t258 t261 t262) = some r := by first | (rw [hji51] at H; exact H) | (simp only [hji51] at H ⊢; exact H)
        (try (have hji51l : 1 ≤ ji51 := by (rw [← hji51]; unfold mx; (repeat' split) <;> omega)))
        (try (have hji51m : 0 ≤ ji51 := by omega))
        have hji51_ : (if 1 < t246 then t246 else 1) = ji51 := hji51
        have H' := Aside0.mk H
        clear H
        have hnb52 := NB259_241.out
        have hnc52 := NB241_259.out
        have hnb53 := NB259_242.out
        have hnc53 := NB242_259.out
        have hnb54 := NB259_260.out
        have hnc54 := NB260_259.out
        have hnb55 := NB259_263.out
        have hnc55 := NB263_259.out
        have hcz56_0 : w43.cell? ⟨gb259, 0, none⟩ = some (.int .i64 t244) := bc BK259 0
        have hcz56_1 : w43.cell? ⟨gb259, 1, none⟩ = some (.int .i64 t245) := bc BK259 1
        have hcz56_2 : w43.cell? ⟨gb259, 2, none⟩ = some (.int .i64 t246) := bc BK259 2
        have hcz56_3 : w43.cell? ⟨gb259, 3, none⟩ = some (.int .i64 t247) := bc BK259 3
        have hcz56_4 : w43.cell? ⟨gb259, 4, none⟩ = some (.int .i64 t248) := bc BK259 4
        have hcz56_5 : w43.cell? ⟨gb259, 5, none⟩ = some (.int .i64 t249) := bc BK259 5
        have hcz56_6 : w43.cell? ⟨gb259, 6, none⟩ = some (.int .i64 t250) := bc BK259 6
        have hcz56_7 : w43.cell? ⟨gb259, 7, none⟩ = some (.int .i64 t251) := bc BK259 7
        have hcz56_8 : w43.cell? ⟨gb259, 8, none⟩ = some (.int .i64 t252) := bc BK259 8
        have hfz56_0 := blk_frozen BK259.out 0
        have hfz56_1 := blk_frozen BK259.out 1
        have hfz56_2 := blk_frozen BK259.out 2
        have hfz56_3 := blk_frozen BK259.out 3
        have hfz56_4 := blk_frozen BK259.out 4
        have hfz56_5 := blk_frozen BK259.out 5
        have hfz56_6 := blk_frozen BK259.out 6
        have hfz56_7 := blk_frozen BK259.out 7
        have hfz56_8 := blk_frozen BK259.out 8
        go_wp2
        go_meet
        case rel => exact ⟨_, (ji51), (by first | rfl | (simp; done) | (simp only [← hji51] <;> (first | rfl | simp)) | (simp [*]; done)), H', ⟨by first | omega | exact Nat.le_refl _⟩, ⟨by (repeat ((with_reducible repeat (first | refine blk_drewN ?_ _ | refine blk_drew ?_ | refine blk_alloc ?_ _)); refine blk_far ?_ NB241_263.out _)); (with_reducible repeat (first | refine blk_drewN ?_ _ | refine blk_drew ?_ | refine blk_alloc ?_ _)); exact BK241.out⟩, ⟨by (repeat ((with_reducible repeat (first | refine blk_drewN ?_ _ | refine blk_drew ?_ | refine blk_alloc ?_ _)); refine blk_far ?_ NB242_263.out _)); (with_reducible repeat (first | refine blk_drewN ?_ _ | refine blk_drew ?_ | refine blk_alloc ?_ _)); exact BK242.out⟩, ⟨by (repeat ((with_reducible repeat (first | refine blk_drewN ?_ _ | refine blk_drew ?_ | refine blk_alloc ?_ _)); refine blk_far ?_ NB259_263.out _)); (with_reducible repeat (first | refine blk_drewN ?_ _ | refine blk_drew ?_ | refine blk_alloc ?_ _)); exact BK259.out⟩, ⟨by (repeat ((with_reducible repeat (first | refine blk_drewN ?_ _ | refine blk_drew ?_ | refine blk_alloc ?_ _)); refine blk_far ?_ NB260_263.out _)); (with_reducible repeat (first | refine blk_drewN ?_ _ | refine blk_drew ?_ | refine blk_alloc ?_ _)); exact BK260.out⟩, ⟨by (with_reducible repeat (first | refine blk_drewN ?_ _ | refine blk_drew ?_ | refine blk_alloc ?_ _)); refine blk_put (cs := #[.int .i64 t261, .int .i64 0]) ?_ 1 _ rfl; refine blk_put (cs := #[.int .i64 0, .int .i64 0]) ?_ 0 _ rfl; (with_reducible repeat (first | refine blk_drewN ?_ _ | refine blk_drew ?_ | refine blk_alloc ?_ _)); exact BK263.out⟩, ⟨by repeat (first | (with_reducible first | exact HB.out | apply below_alloc | apply pw_below_drewN | apply below_drew1 | refine below_set ?_ GE241.out | refine below_set ?_ GE242.out | refine below_set ?_ GE259.out | refine below_set ?_ GE260.out | refine below_set ?_ GE263.out) | exact HB.out)⟩⟩
      case rest =>
        clear HC10
        try clear c1
        try clear c2
        try clear p2
        try clear c3
        try clear c4
        try clear c5
        try clear c15
        try clear c16
        try clear c20
        try clear c35
        try clear c36
        try clear c37
        try clear c39
        try clear c40
        try clear c44
        try clear c45
        try clear c46
        try clear c47
        try clear c52
        try clear c53
        try clear c54
        try clear c55
        try clear hcz38_0
        try clear hcz38_1
        try clear hcz38_2
        try clear hcz38_3
        try clear hcz38_4
        try clear hcz38_5
        try clear hcz38_6
        try clear hcz38_7
        try clear hcz38_8
        try clear hcz41_0
        try clear hcz41_1
        try clear hcz41_2
        try clear hcz41_3
        try clear hcz41_4
        try clear hcz41_5
        try clear hcz48_0
        try clear hcz48_1
        try clear hcz49_0
        try clear hcz49_1
        try clear hcz49_2
        try clear hcz49_3
        try clear hcz49_4
        try clear hcz49_5
        try clear hcz49_6
        try clear hcz49_7
        try clear hcz49_8
        try clear hcz50_0
        try clear hcz50_1
        try clear hcz50_2
        try clear hcz50_3
        try clear hcz50_4
        try clear hcz50_5
        try clear hcz56_0
        try clear hcz56_1
        try clear hcz56_2
        try clear hcz56_3
        try clear hcz56_4
        try clear hcz56_5
        try clear hcz56_6
        try clear hcz56_7
        try clear hcz56_8
        try clear hfz38_0
        try clear hfz38_1
        try clear hfz38_2
        try clear hfz38_3
        try clear hfz38_4
        try clear hfz38_5
        try clear hfz38_6
        try clear hfz38_7
        try clear hfz38_8
        try clear hfz41_0
        try clear hfz41_1
        try clear hfz41_2
        try clear hfz41_3
        try clear hfz41_4
        try clear hfz41_5
        try clear hfz48_0
        try clear hfz48_1
        try clear hfz49_0
        try clear hfz49_1
        try clear hfz49_2
        try clear hfz49_3
        try clear hfz49_4
        try clear hfz49_5
        try clear hfz49_6
        try clear hfz49_7
        try clear hfz49_8
        try clear hfz50_0
        try clear hfz50_1
        try clear hfz50_2
        try clear hfz50_3
        try clear hfz50_4
        try clear hfz50_5
        try clear hfz56_0
        try clear hfz56_1
        try clear hfz56_2
        try clear hfz56_3
        try clear hfz56_4
        try clear hfz56_5
        try clear hfz56_6
        try clear hfz56_7
        try clear hfz56_8
        obtain ⟨kq, x11_9, rfl, HA, HJ9, BK241, BK242, BK259, BK260, BK263, HB⟩ := hcut
        cases kq with
        | zero => exact absurd HA.out (by simp [damperlaw10_ScalePanic.j0])
        | succ kj9 =>
          have H := HA.out
          clear HA
          simp only [damperlaw10_ScalePanic.j0] at H
          have HC57 := Aside0.mk H
          clear H
          go_upto_region 7 with (fail)
          go_cut [52] (fun v52 wc => ∃ (kq : Nat) (x52_56 : Bool), v52 = .bool x52_56 ∧ Aside0 (damperlaw10_ScalePanic.j1 kq a2 x11_9 x52_56 t244 t245 t246 t247 t248 t249 t250 t251 t252 t253 t254 t255 t256 t257 t258 t261 t262 = some r) ∧ Aside0 (kq ≤ kj9) ∧ Aside0 (wc.heap[gb241]? = some (.cells #[.int .i64 a0_0, .int .i64 a0_1, .int .i64 a0_2, .int .i64 a0_3, .int .i64 a0_4, .int .i64 a0_5, .int .i64 a0_6, .int .i64 a0_7, .int .i64 a0_8] 23 (0, 0))) ∧ Aside0 (wc.heap[gb242]? = some (.cells #[.string a1_0, .int .i64 a1_1, .int .i64 a1_2, .int .i64 a1_3, .int .i64 a1_4, .int .i64 a1_5] 25 (0, 0))) ∧ Aside0 (wc.heap[gb259]? = some (.cells #[.int .i64 t244, .int .i64 t245, .int .i64 t246, .int .i64 t247, .int .i64 t248, .int .i64 t249, .int .i64 t250, .int .i64 t251, .int .i64 t252] 23 (0, 0))) ∧ Aside0 (wc.heap[gb260]? = some (.cells #[.string t253, .int .i64 t254, .int .i64 t255, .int .i64 t256, .int .i64 t257, .int .i64 t258] 25 (0, 0))) ∧ Aside0 (wc.heap[gb263]? = some (.cells #[.int .i64 t261, .int .i64 t262] 30 (0, 0))) ∧ Aside0 (Below w.heap.size w wc))
          case first =>
            have H := HC57.out
            clear HC57
            by_cases c58 : ((decide (t264 ≥ (wrap64 (2 * x11_9)))) != (t262 == 6)) = true
            · rw [if_pos c58] at H
              have c58b0 : ((decide (t264 ≥ (wrap64 (2 * x11_9)))) != (t262 == 6)) = true := c58
              (try (have c58b1 : decide ((decide (t264 ≥ (wrap64 (2 * x11_9)))) = (t262 == 6)) = false := by simpa using c58))
              (try (have c58b2 : ((decide (t264 ≥ (wrap64 (2 * x11_9)))) == (t262 == 6)) = false := by simpa using c58))
              (try (have c58b3 : ¬ ((decide (t264 ≥ (wrap64 (2 * x11_9)))) = (t262 == 6)) := by simpa using c58))
              clear c58
              (first | rw [c58b0] | (simp only [i64_w, i32_w]; rw [c58b0]) | skip)
              by_cases c59 : t245 = 7
              · rw [if_pos c59] at H
                have c59b0 : (t245 == 7) = true := beq_iff_eq.mpr c59
                have c59b1 : (t245 != 7) = false := bne_eq_false_iff_eq.mpr c59
                clear c59
                have H' := Aside0.mk H
                clear H
                have hnb60 := NB263_241.out
                have hnc60 := NB241_263.out
                have hnb61 := NB263_242.out
                have hnc61 := NB242_263.out
                have hnb62 := NB263_259.out
                have hnc62 := NB259_263.out
                have hnb63 := NB263_260.out
                have hnc63 := NB260_263.out
                have hcz64_0 : wc.cell? ⟨gb263, 0, none⟩ = some (.int .i64 t261) := bc BK263 0
                have hcz64_1 : wc.cell? ⟨gb263, 1, none⟩ = some (.int .i64 t262) := bc BK263 1
                have hfz64_0 := blk_frozen BK263.out 0
                have hfz64_1 := blk_frozen BK263.out 1
                have hnb65 := NB259_241.out
                have hnc65 := NB241_259.out
                have hnb66 := NB259_242.out
                have hnc66 := NB242_259.out
                have hnb67 := NB259_260.out
                have hnc67 := NB260_259.out
                have hcz68_0 : wc.cell? ⟨gb259, 0, none⟩ = some (.int .i64 t244) := bc BK259 0
                have hcz68_1 : wc.cell? ⟨gb259, 1, none⟩ = some (.int .i64 t245) := bc BK259 1
                have hcz68_2 : wc.cell? ⟨gb259, 2, none⟩ = some (.int .i64 t246) := bc BK259 2
                have hcz68_3 : wc.cell? ⟨gb259, 3, none⟩ = some (.int .i64 t247) := bc BK259 3
                have hcz68_4 : wc.cell? ⟨gb259, 4, none⟩ = some (.int .i64 t248) := bc BK259 4
                have hcz68_5 : wc.cell? ⟨gb259, 5, none⟩ = some (.int .i64 t249) := bc BK259 5
                have hcz68_6 : wc.cell? ⟨gb259, 6, none⟩ = some (.int .i64 t250) := bc BK259 6
                have hcz68_7 : wc.cell? ⟨gb259, 7, none⟩ = some (.int .i64 t251) := bc BK259 7
                have hcz68_8 : wc.cell? ⟨gb259, 8, none⟩ = some (.int .i64 t252) := bc BK259 8
                have hfz68_0 := blk_frozen BK259.out 0
                have hfz68_1 := blk_frozen BK259.out 1
                have hfz68_2 := blk_frozen BK259.out 2
                have hfz68_3 := blk_frozen BK259.out 3
                have hfz68_4 := blk_frozen BK259.out 4
                have hfz68_5 := blk_frozen BK259.out 5
                have hfz68_6 := blk_frozen BK259.out 6
                have hfz68_7 := blk_frozen BK259.out 7
                have hfz68_8 := blk_frozen BK259.out 8
                go_wp2
                go_meet
                case rel => exact ⟨_, (decide (t264 ≥ (wrap64 (2 * x11_9)))), (by first | rfl | (simp; done) | (simp [*]; done)), H', ⟨by have := HJ9.out; first | omega | exact Nat.le_refl _⟩, ⟨by (with_reducible repeat (first | refine blk_drewN ?_ _ | refine blk_drew ?_ | refine blk_alloc ?_ _)); exact BK241.out⟩, ⟨by (with_reducible repeat (first | refine blk_drewN ?_ _ | refine blk_drew ?_ | refine blk_alloc ?_ _)); exact BK242.out⟩, ⟨by (with_reducible repeat (first | refine blk_drewN ?_ _ | refine blk_drew ?_ | refine blk_alloc ?_ _)); exact BK259.out⟩, ⟨by (with_reducible repeat (first | refine blk_drewN ?_ _ | refine blk_drew ?_ | refine blk_alloc ?_ _)); exact BK260.out⟩, ⟨by (with_reducible repeat (first | refine blk_drewN ?_ _ | refine blk_drew ?_ | refine blk_alloc ?_ _)); exact BK263.out⟩, ⟨by repeat (first | (with_reducible first | exact HB.out | apply below_alloc | apply pw_below_drewN | apply below_drew1 | refine below_set ?_ GE241.out | refine below_set ?_ GE242.out | refine below_set ?_ GE259.out | refine below_set ?_ GE260.out | refine below_set ?_ GE263.out) | exact HB.out)⟩⟩
              · rw [if_neg c59] at H
                have c59b0 : (t245 == 7) = false := beq_eq_false_iff_ne.mpr c59
                have c59b1 : (t245 != 7) = true := bne_iff_ne.mpr c59
                have H' := Aside0.mk H
                clear H
                have hnb69 := NB263_241.out
                have hnc69 := NB241_263.out
                have hnb70 := NB263_242.out
                have hnc70 := NB242_263.out
                have hnb71 := NB263_259.out
                have hnc71 := NB259_263.out
                have hnb72 := NB263_260.out
                have hnc72 := NB260_263.out
                have hcz73_0 : wc.cell? ⟨gb263, 0, none⟩ = some (.int .i64 t261) := bc BK263 0
                have hcz73_1 : wc.cell? ⟨gb263, 1, none⟩ = some (.int .i64 t262) := bc BK263 1
                have hfz73_0 := blk_frozen BK263.out 0
                have hfz73_1 := blk_frozen BK263.out 1
                have hnb74 := NB259_241.out
                have hnc74 := NB241_259.out
                have hnb75 := NB259_242.out
                have hnc75 := NB242_259.out
                have hnb76 := NB259_260.out
                have hnc76 := NB260_259.out
                have hcz77_0 : wc.cell? ⟨gb259, 0, none⟩ = some (.int .i64 t244) := bc BK259 0
                have hcz77_1 : wc.cell? ⟨gb259, 1, none⟩ = some (.int .i64 t245) := bc BK259 1
                have hcz77_2 : wc.cell? ⟨gb259, 2, none⟩ = some (.int .i64 t246) := bc BK259 2
                have hcz77_3 : wc.cell? ⟨gb259, 3, none⟩ = some (.int .i64 t247) := bc BK259 3
                have hcz77_4 : wc.cell? ⟨gb259, 4, none⟩ = some (.int .i64 t248) := bc BK259 4
                have hcz77_5 : wc.cell? ⟨gb259, 5, none⟩ = some (.int .i64 t249) := bc BK259 5
                have hcz77_6 : wc.cell? ⟨gb259, 6, none⟩ = some (.int .i64 t250) := bc BK259 6
                have hcz77_7 : wc.cell? ⟨gb259, 7, none⟩ = some (.int .i64 t251) := bc BK259 7
                have hcz77_8 : wc.cell? ⟨gb259, 8, none⟩ = some (.int .i64 t252) := bc BK259 8
                have hfz77_0 := blk_frozen BK259.out 0
                have hfz77_1 := blk_frozen BK259.out 1
                have hfz77_2 := blk_frozen BK259.out 2
                have hfz77_3 := blk_frozen BK259.out 3
                have hfz77_4 := blk_frozen BK259.out 4
                have hfz77_5 := blk_frozen BK259.out 5
                have hfz77_6 := blk_frozen BK259.out 6
                have hfz77_7 := blk_frozen BK259.out 7
                have hfz77_8 := blk_frozen BK259.out 8
                go_wp2
                go_meet
                case rel => exact ⟨_, (true), (by first | rfl | (simp; done) | (simp [*]; done)), H', ⟨by have := HJ9.out; first | omega | exact Nat.le_refl _⟩, ⟨by (with_reducible repeat (first | refine blk_drewN ?_ _ | refine blk_drew ?_ | refine blk_alloc ?_ _)); exact BK241.out⟩, ⟨by (with_reducible repeat (first | refine blk_drewN ?_ _ | refine blk_drew ?_ | refine blk_alloc ?_ _)); exact BK242.out⟩, ⟨by (with_reducible repeat (first | refine blk_drewN ?_ _ | refine blk_drew ?_ | refine blk_alloc ?_ _)); exact BK259.out⟩, ⟨by (with_reducible repeat (first | refine blk_drewN ?_ _ | refine blk_drew ?_ | refine blk_alloc ?_ _)); exact BK260.out⟩, ⟨by (with_reducible repeat (first | refine blk_drewN ?_ _ | refine blk_drew ?_ | refine blk_alloc ?_ _)); exact BK263.out⟩, ⟨by repeat (first | (with_reducible first | exact HB.out | apply below_alloc | apply pw_below_drewN | apply below_drew1 | refine below_set ?_ GE241.out | refine below_set ?_ GE242.out | refine below_set ?_ GE259.out | refine below_set ?_ GE260.out | refine below_set ?_ GE263.out) | exact HB.out)⟩⟩
            · rw [if_neg c58] at H
              have c58b0 : ((decide (t264 ≥ (wrap64 (2 * x11_9)))) != (t262 == 6)) = false := by simpa using c58
              (try (have c58b1 : decide ((decide (t264 ≥ (wrap64 (2 * x11_9)))) = (t262 == 6)) = true := by simpa using c58))
              (try (have c58b2 : ((decide (t264 ≥ (wrap64 (2 * x11_9)))) == (t262 == 6)) = true := by simpa using c58))
              clear c58
              (first | rw [c58b0] | (simp only [i64_w, i32_w]; rw [c58b0]) | skip)
              have H' := Aside0.mk H
              clear H
              have hnb78 := NB263_241.out
              have hnc78 := NB241_263.out
              have hnb79 := NB263_242.out
              have hnc79 := NB242_263.out
              have hnb80 := NB263_259.out
              have hnc80 := NB259_263.out
              have hnb81 := NB263_260.out
              have hnc81 := NB260_263.out
              have hcz82_0 : wc.cell? ⟨gb263, 0, none⟩ = some (.int .i64 t261) := bc BK263 0
              have hcz82_1 : wc.cell? ⟨gb263, 1, none⟩ = some (.int .i64 t262) := bc BK263 1
              have hfz82_0 := blk_frozen BK263.out 0
              have hfz82_1 := blk_frozen BK263.out 1
              go_wp2
              go_meet
              case rel => exact ⟨_, (false), (by first | rfl | (simp; done) | (simp [*]; done)), H', ⟨by have := HJ9.out; first | omega | exact Nat.le_refl _⟩, ⟨by (with_reducible repeat (first | refine blk_drewN ?_ _ | refine blk_drew ?_ | refine blk_alloc ?_ _)); exact BK241.out⟩, ⟨by (with_reducible repeat (first | refine blk_drewN ?_ _ | refine blk_drew ?_ | refine blk_alloc ?_ _)); exact BK242.out⟩, ⟨by (with_reducible repeat (first | refine blk_drewN ?_ _ | refine blk_drew ?_ | refine blk_alloc ?_ _)); exact BK259.out⟩, ⟨by (with_reducible repeat (first | refine blk_drewN ?_ _ | refine blk_drew ?_ | refine blk_alloc ?_ _)); exact BK260.out⟩, ⟨by (with_reducible repeat (first | refine blk_drewN ?_ _ | refine blk_drew ?_ | refine blk_alloc ?_ _)); exact BK263.out⟩, ⟨by repeat (first | (with_reducible first | exact HB.out | apply below_alloc | apply pw_below_drewN | apply below_drew1 | refine below_set ?_ GE241.out | refine below_set ?_ GE242.out | refine below_set ?_ GE259.out | refine below_set ?_ GE260.out | refine below_set ?_ GE263.out) | exact HB.out)⟩⟩
          case rest =>
            clear HC57
            try clear c1
            try clear c2
            try clear p2
            try clear c3
            try clear c4
            try clear c5
            try clear c6
            try clear p6
            try clear c7
            try clear c8
            try clear c15
            try clear c16
            try clear c20
            try clear c35
            try clear c36
            try clear c37
            try clear c39
            try clear c40
            try clear c44
            try clear c45
            try clear c46
            try clear c47
            try clear c52
            try clear c53
            try clear c54
            try clear c55
            try clear c58
            try clear c58b0
            try clear c58b1
            try clear c58b2
            try clear c59
            try clear c59b0
            try clear c59b1
            try clear c60
            try clear c61
            try clear c62
            try clear c63
            try clear p64
            try clear c65
            try clear c66
            try clear c67
            try clear c69
            try clear c70
            try clear c71
            try clear c72
            try clear c74
            try clear c75
            try clear c76
            try clear c78
            try clear c79
            try clear c80
            try clear c81
            try clear hcz38_0
            try clear hcz38_1
            try clear hcz38_2
            try clear hcz38_3
            try clear hcz38_4
            try clear hcz38_5
            try clear hcz38_6
            try clear hcz38_7
            try clear hcz38_8
            try clear hcz41_0
            try clear hcz41_1
            try clear hcz41_2
            try clear hcz41_3
            try clear hcz41_4
            try clear hcz41_5
            try clear hcz48_0
            try clear hcz48_1
            try clear hcz49_0
            try clear hcz49_1
            try clear hcz49_2
            try clear hcz49_3
            try clear hcz49_4
            try clear hcz49_5
            try clear hcz49_6
            try clear hcz49_7
            try clear hcz49_8
            try clear hcz50_0
            try clear hcz50_1
            try clear hcz50_2
            try clear hcz50_3
            try clear hcz50_4
            try clear hcz50_5
            try clear hcz56_0
            try clear hcz56_1
            try clear hcz56_2
            try clear hcz56_3
            try clear hcz56_4
            try clear hcz56_5
            try clear hcz56_6
            try clear hcz56_7
            try clear hcz56_8
            try clear hcz64_0
            try clear hcz64_1
            try clear hcz68_0
            try clear hcz68_1
            try clear hcz68_2
            try clear hcz68_3
            try clear hcz68_4
            try clear hcz68_5
            try clear hcz68_6
            try clear hcz68_7
            try clear hcz68_8
            try clear hcz73_0
            try clear hcz73_1
            try clear hcz77_0
            try clear hcz77_1
            try clear hcz77_2
            try clear hcz77_3
            try clear hcz77_4
            try clear hcz77_5
            try clear hcz77_6
            try clear hcz77_7
            try clear hcz77_8
            try clear hcz82_0
            try clear hcz82_1
            try clear hfz38_0
            try clear hfz38_1
            try clear hfz38_2
            try clear hfz38_3
            try clear hfz38_4
            try clear hfz38_5
            try clear hfz38_6
            try clear hfz38_7
            try clear hfz38_8
            try clear hfz41_0
            try clear hfz41_1
            try clear hfz41_2
            try clear hfz41_3
            try clear hfz41_4
            try clear hfz41_5
            try clear hfz48_0
            try clear hfz48_1
            try clear hfz49_0
            try clear hfz49_1
            try clear hfz49_2
            try clear hfz49_3
            try clear hfz49_4
            try clear hfz49_5
            try clear hfz49_6
            try clear hfz49_7
            try clear hfz49_8
            try clear hfz50_0
            try clear hfz50_1
            try clear hfz50_2
            try clear hfz50_3
            try clear hfz50_4
            try clear hfz50_5
            try clear hfz56_0
            try clear hfz56_1
            try clear hfz56_2
            try clear hfz56_3
            try clear hfz56_4
            try clear hfz56_5
            try clear hfz56_6
            try clear hfz56_7
            try clear hfz56_8
            try clear hfz64_0
            try clear hfz64_1
            try clear hfz68_0
            try clear hfz68_1
            try clear hfz68_2
            try clear hfz68_3
            try clear hfz68_4
            try clear hfz68_5
            try clear hfz68_6
            try clear hfz68_7
            try clear hfz68_8
            try clear hfz73_0
            try clear hfz73_1
            try clear hfz77_0
            try clear hfz77_1
            try clear hfz77_2
            try clear hfz77_3
            try clear hfz77_4
            try clear hfz77_5
            try clear hfz77_6
            try clear hfz77_7
            try clear hfz77_8
            try clear hfz82_0
            try clear hfz82_1
            try clear p2
            obtain ⟨kq, x52_56, rfl, HA, HJ56, BK241, BK242, BK259, BK260, BK263, HB⟩ := hcut
            cases kq with
            | zero => exact absurd HA.out (by simp [damperlaw10_ScalePanic.j1])
            | succ kj56 =>
              have H := HA.out
              clear HA
              simp only [damperlaw10_ScalePanic.j1] at H
              by_cases c83 : x52_56 = true
              · subst c83
                have H1 : (some false) = some r := by rw [if_pos rfl] at H; exact H
                clear H
                have H := H1
                clear H1
                exact absurd (Option.some.inj H) (by rw [hr0_.out]; decide)
              · replace c83 := Bool.eq_false_iff.mpr c83
                subst c83
                have H1 : (if t262 > 0 then (damperlaw10_ScalePanic.j2 kj56 a2 (decide (t261 < (mn (mn t244 t257) (mx (wrap64 (4 * x11_9)) t256)))) t244 t245 t246 t247 t248 t249 t250 t251 t252 t253 t254 t255 t256 t257 t258 t261 t262) else (damperlaw10_ScalePanic.j2 kj56 a2 false t244 t245 t246 t247 t248 t249 t250 t251 t252 t253 t254 t255 t256 t257 t258 t261 t262)) = some r := by rw [if_neg (show ¬ (false = true) by decide)] at H; exact H
                clear H
                have H := H1
                clear H1
                have HC84 := Aside0.mk H
                clear H
                go_upto_region 9 with (fail)
                go_cut [70] (fun v70 wc => ∃ (kq : Nat) (x70_83 : Bool), v70 = .bool x70_83 ∧ Aside0 (damperlaw10_ScalePanic.j2 kq a2 x70_83 t244 t245 t246 t247 t248 t249 t250 t251 t252 t253 t254 t255 t256 t257 t258 t261 t262 = some r) ∧ Aside0 (kq ≤ kj56) ∧ Aside0 (wc.heap[gb241]? = some (.cells #[.int .i64 a0_0, .int .i64 a0_1, .int .i64 a0_2, .int .i64 a0_3, .int .i64 a0_4, .int .i64 a0_5, .int .i64 a0_6, .int .i64 a0_7, .int .i64 a0_8] 23 (0, 0))) ∧ Aside0 (wc.heap[gb242]? = some (.cells #[.string a1_0, .int .i64 a1_1, .int .i64 a1_2, .int .i64 a1_3, .int .i64 a1_4, .int .i64 a1_5] 25 (0, 0))) ∧ Aside0 (wc.heap[gb259]? = some (.cells #[.int .i64 t244, .int .i64 t245, .int .i64 t246, .int .i64 t247, .int .i64 t248, .int .i64 t249, .int .i64 t250, .int .i64 t251, .int .i64 t252] 23 (0, 0))) ∧ Aside0 (wc.heap[gb260]? = some (.cells #[.string t253, .int .i64 t254, .int .i64 t255, .int .i64 t256, .int .i64 t257, .int .i64 t258] 25 (0, 0))) ∧ Aside0 (wc.heap[gb263]? = some (.cells #[.int .i64 t261, .int .i64 t262] 30 (0, 0))) ∧ Aside0 (Below w.heap.size w wc))
                case first =>
                  have H := HC84.out
                  clear HC84
                  by_cases c85 : t262 > 0
                  · rw [if_pos c85] at H
                    have c85b0 : decide (0 < t262) = true := decide_eq_true c85
                    clear c85
                    (first | rw [c85b0] | (simp only [i64_w, i32_w]; rw [c85b0]) | skip)
                    obtain ⟨ji86, hji86⟩ : ∃ j_ : Int, (mx (wrap64 (4 * x11_9)) t256) = j_ := ⟨_, rfl⟩
                    replace H : (damperlaw10_ScalePanic.j2 kj56 a2 (decide (t261 < (mn (mn t244 t257) (ji86)))) t244 t245 t246 t247 t248 t249 t250 t251 t252 t253 t254 t255 t256 t257 t258 t261 t262) = some r := by first | (rw [hji86] at H; exact H) | (simp only [hji86] at H ⊢; exact H)
                    have hji86_ : (if (wrap64 (4 * x11_9)) < t256 then t256 else (wrap64 (4 * x11_9))) = ji86 := hji86
                    obtain ⟨ji87, hji87⟩ : ∃ j_ : Int, (mn t244 t257) = j_ := ⟨_, rfl⟩
                    replace H : (damperlaw10_ScalePanic.j2 kj56 a2 (decide (t261 < (mn (ji87) (ji86)))) t244 t245 t246 t247 t248 t249 t250 t251 t252 t253 t254 t255 t256 t257 t258 t261 t262) = some r := by first | (rw [hji87] at H; exact H) | (simp only [hji87] at H ⊢; exact H)
                    have hji87_ : (if t257 < t244 then t257 else t244) = ji87 := hji87
                    obtain ⟨ji88, hji88⟩ : ∃ j_ : Int, (mn (ji87) (ji86)) = j_ := ⟨_, rfl⟩
                    replace H : (damperlaw10_ScalePanic.j2 kj56 a2 (decide (t261 < (ji88))) t244 t245 t246 t247 t248 t249 t250 t251 t252 t253 t254 t255 t256 t257 t258 t261 t262) = some r := by first | (rw [hji88] at H; exact H) | (simp only [hji88] at H ⊢; exact H)
                    have hji88_ : (if (ji86) < (ji87) then (ji86) else (ji87)) = ji88 := hji88
                    have H' := Aside0.mk H
                    clear H
                    have hnb89 := NB263_241.out
                    have hnc89 := NB241_263.out
                    have hnb90 := NB263_242.out
                    have hnc90 := NB242_263.out
                    have hnb91 := NB263_259.out
                    have hnc91 := NB259_263.out
                    have hnb92 := NB263_260.out
                    have hnc92 := NB260_263.out
                    have hcz93_0 : wc.cell? ⟨gb263, 0, none⟩ = some (.int .i64 t261) := bc BK263 0
                    have hcz93_1 : wc.cell? ⟨gb263, 1, none⟩ = some (.int .i64 t262) := bc BK263 1
                    have hfz93_0 := blk_frozen BK263.out 0
                    have hfz93_1 := blk_frozen BK263.out 1
                    have hnb94 := NB259_241.out
                    have hnc94 := NB241_259.out
                    have hnb95 := NB259_242.out
                    have hnc95 := NB242_259.out
                    have hnb96 := NB259_260.out
                    have hnc96 := NB260_259.out
                    have hcz97_0 : wc.cell? ⟨gb259, 0, none⟩ = some (.int .i64 t244) := bc BK259 0
                    have hcz97_1 : wc.cell? ⟨gb259, 1, none⟩ = some (.int .i64 t245) := bc BK259 1
                    have hcz97_2 : wc.cell? ⟨gb259, 2, none⟩ = some (.int .i64 t246) := bc BK259 2
                    have hcz97_3 : wc.cell? ⟨gb259, 3, none⟩ = some (.int .i64 t247) := bc BK259 3
                    have hcz97_4 : wc.cell? ⟨gb259, 4, none⟩ = some (.int .i64 t248) := bc BK259 4
                    have hcz97_5 : wc.cell? ⟨gb259, 5, none⟩ = some (.int .i64 t249) := bc BK259 5
                    have hcz97_6 : wc.cell? ⟨gb259, 6, none⟩ = some (.int .i64 t250) := bc BK259 6
                    have hcz97_7 : wc.cell? ⟨gb259, 7, none⟩ = some (.int .i64 t251) := bc BK259 7
                    have hcz97_8 : wc.cell? ⟨gb259, 8, none⟩ = some (.int .i64 t252) := bc BK259 8
                    have hfz97_0 := blk_frozen BK259.out 0
                    have hfz97_1 := blk_frozen BK259.out 1
                    have hfz97_2 := blk_frozen BK259.out 2
                    have hfz97_3 := blk_frozen BK259.out 3
                    have hfz97_4 := blk_frozen BK259.out 4
                    have hfz97_5 := blk_frozen BK259.out 5
                    have hfz97_6 := blk_frozen BK259.out 6
                    have hfz97_7 := blk_frozen BK259.out 7
                    have hfz97_8 := blk_frozen BK259.out 8
                    have hnb98 := NB260_241.out
                    have hnc98 := NB241_260.out
                    have hnb99 := NB260_242.out
                    have hnc99 := NB242_260.out
                    have hcz100_0 : wc.cell? ⟨gb260, 0, none⟩ = some (.string t253) := bc BK260 0
                    have hcz100_1 : wc.cell? ⟨gb260, 1, none⟩ = some (.int .i64 t254) := bc BK260 1
                    have hcz100_2 : wc.cell? ⟨gb260, 2, none⟩ = some (.int .i64 t255) := bc BK260 2
                    have hcz100_3 : wc.cell? ⟨gb260, 3, none⟩ = some (.int .i64 t256) := bc BK260 3
                    have hcz100_4 : wc.cell? ⟨gb260, 4, none⟩ = some (.int .i64 t257) := bc BK260 4
                    have hcz100_5 : wc.cell? ⟨gb260, 5, none⟩ = some (.int .i64 t258) := bc BK260 5
                    have hfz100_0 := blk_frozen BK260.out 0
                    have hfz100_1 := blk_frozen BK260.out 1
                    have hfz100_2 := blk_frozen BK260.out 2
                    have hfz100_3 := blk_frozen BK260.out 3
                    have hfz100_4 := blk_frozen BK260.out 4
                    have hfz100_5 := blk_frozen BK260.out 5
                    go_wp2
                    go_meet
                    case rel => exact ⟨_, (decide (t261 < (ji88))), (by first | rfl | (simp; done) | (simp only [← hji88] <;> (first | rfl | simp)) | (simp [*]; done)), H', ⟨by have := HJ9.out; have := HJ56.out; first | omega | exact Nat.le_refl _⟩, ⟨by (with_reducible repeat (first | refine blk_drewN ?_ _ | refine blk_drew ?_ | refine blk_alloc ?_ _)); exact BK241.out⟩, ⟨by (with_reducible repeat (first | refine blk_drewN ?_ _ | refine blk_drew ?_ | refine blk_alloc ?_ _)); exact BK242.out⟩, ⟨by (with_reducible repeat (first | refine blk_drewN ?_ _ | refine blk_drew ?_ | refine blk_alloc ?_ _)); exact BK259.out⟩, ⟨by (with_reducible repeat (first | refine blk_drewN ?_ _ | refine blk_drew ?_ | refine blk_alloc ?_ _)); exact BK260.out⟩, ⟨by (with_reducible repeat (first | refine blk_drewN ?_ _ | refine blk_drew ?_ | refine blk_alloc ?_ _)); exact BK263.out⟩, ⟨by repeat (first | (with_reducible first | exact HB.out | apply below_alloc | apply pw_below_drewN | apply below_drew1 | refine below_set ?_ GE241.out | refine below_set ?_ GE242.out | refine below_set ?_ GE259.out | refine below_set ?_ GE260.out | refine below_set ?_ GE263.out) | exact HB.out)⟩⟩
                  · rw [if_neg c85] at H
                    have c85b0 : decide (0 < t262) = false := decide_eq_false c85
                    clear c85
                    (first | rw [c85b0] | (simp only [i64_w, i32_w]; rw [c85b0]) | skip)
                    have H' := Aside0.mk H
                    clear H
                    have hnb101 := NB263_241.out
                    have hnc101 := NB241_263.out
                    have hnb102 := NB263_242.out
                    have hnc102 := NB242_263.out
                    have hnb103 := NB263_259.out
                    have hnc103 := NB259_263.out
                    have hnb104 := NB263_260.out
                    have hnc104 := NB260_263.out
                    have hcz105_0 : wc.cell? ⟨gb263, 0, none⟩ = some (.int .i64 t261) := bc BK263 0
                    have hcz105_1 : wc.cell? ⟨gb263, 1, none⟩ = some (.int .i64 t262) := bc BK263 1
                    have hfz105_0 := blk_frozen BK263.out 0
                    have hfz105_1 := blk_frozen BK263.out 1
                    go_wp2
                    go_meet
                    case rel => exact ⟨_, (false), (by first | rfl | (simp; done) | (simp [*]; done)), H', ⟨by have := HJ9.out; have := HJ56.out; first | omega | exact Nat.le_refl _⟩, ⟨by (with_reducible repeat (first | refine blk_drewN ?_ _ | refine blk_drew ?_ | refine blk_alloc ?_ _)); exact BK241.out⟩, ⟨by (with_reducible repeat (first | refine blk_drewN ?_ _ | refine blk_drew ?_ | refine blk_alloc ?_ _)); exact BK242.out⟩, ⟨by (with_reducible repeat (first | refine blk_drewN ?_ _ | refine blk_drew ?_ | refine blk_alloc ?_ _)); exact BK259.out⟩, ⟨by (with_reducible repeat (first | refine blk_drewN ?_ _ | refine blk_drew ?_ | refine blk_alloc ?_ _)); exact BK260.out⟩, ⟨by (with_reducible repeat (first | refine blk_drewN ?_ _ | refine blk_drew ?_ | refine blk_alloc ?_ _)); exact BK263.out⟩, ⟨by repeat (first | (with_reducible first | exact HB.out | apply below_alloc | apply pw_below_drewN | apply below_drew1 | refine below_set ?_ GE241.out | refine below_set ?_ GE242.out | refine below_set ?_ GE259.out | refine below_set ?_ GE260.out | refine below_set ?_ GE263.out) | exact HB.out)⟩⟩
                case rest =>
                  clear HC84
                  try clear c1
                  try clear c2
                  try clear p2
                  try clear c3
                  try clear c4
                  try clear c5
                  try clear c6
                  try clear p6
                  try clear c7
                  try clear c8
                  try clear c9
                  try clear c10
                  try clear c15
                  try clear c16
                  try clear c20
                  try clear c35
                  try clear c36
                  try clear c37
                  try clear c39
                  try clear c40
                  try clear c44
                  try clear c45
                  try clear c46
                  try clear c47
                  try clear c52
                  try clear c53
                  try clear c54
                  try clear c55
                  try clear c58
                  try clear c58b0
                  try clear c58b1
                  try clear c58b2
                  try clear c59
                  try clear c59b0
                  try clear c59b1
                  try clear c60
                  try clear c61
                  try clear c62
                  try clear c63
                  try clear p64
                  try clear c65
                  try clear c66
                  try clear c67
                  try clear c69
                  try clear c70
                  try clear c71
                  try clear c72
                  try clear c74
                  try clear c75
                  try clear c76
                  try clear c78
                  try clear c79
                  try clear c80
                  try clear c81
                  try clear c83
                  try clear c85
                  try clear c85b0
                  try clear c89
                  try clear c90
                  try clear c91
                  try clear c92
                  try clear c94
                  try clear c95
                  try clear c96
                  try clear c98
                  try clear c99
                  try clear c101
                  try clear c102
                  try clear c103
                  try clear c104
                  try clear hcz100_0
                  try clear hcz100_1
                  try clear hcz100_2
                  try clear hcz100_3
                  try clear hcz100_4
                  try clear hcz100_5
                  try clear hcz105_0
                  try clear hcz105_1
                  try clear hcz38_0
                  try clear hcz38_1
                  try clear hcz38_2
                  try clear hcz38_3
                  try clear hcz38_4
                  try clear hcz38_5
                  try clear hcz38_6
                  try clear hcz38_7
                  try clear hcz38_8
                  try clear hcz41_0
                  try clear hcz41_1
                  try clear hcz41_2
                  try clear hcz41_3
                  try clear hcz41_4
                  try clear hcz41_5
                  try clear hcz48_0
                  try clear hcz48_1
                  try clear hcz49_0
                  try clear hcz49_1
                  try clear hcz49_2
                  try clear hcz49_3
                  try clear hcz49_4
                  try clear hcz49_5
                  try clear hcz49_6
                  try clear hcz49_7
                  try clear hcz49_8
                  try clear hcz50_0
                  try clear hcz50_1
                  try clear hcz50_2
                  try clear hcz50_3
                  try clear hcz50_4
                  try clear hcz50_5
                  try clear hcz56_0
                  try clear hcz56_1
                  try clear hcz56_2
                  try clear hcz56_3
                  try clear hcz56_4
                  try clear hcz56_5
                  try clear hcz56_6
                  try clear hcz56_7
                  try clear hcz56_8
                  try clear hcz64_0
                  try clear hcz64_1
                  try clear hcz68_0
                  try clear hcz68_1
                  try clear hcz68_2
                  try clear hcz68_3
                  try clear hcz68_4
                  try clear hcz68_5
                  try clear hcz68_6
                  try clear hcz68_7
                  try clear hcz68_8
                  try clear hcz73_0
                  try clear hcz73_1
                  try clear hcz77_0
                  try clear hcz77_1
                  try clear hcz77_2
                  try clear hcz77_3
                  try clear hcz77_4
                  try clear hcz77_5
                  try clear hcz77_6
                  try clear hcz77_7
                  try clear hcz77_8
                  try clear hcz82_0
                  try clear hcz82_1
                  try clear hcz93_0
                  try clear hcz93_1
                  try clear hcz97_0
                  try clear hcz97_1
                  try clear hcz97_2
                  try clear hcz97_3
                  try clear hcz97_4
                  try clear hcz97_5
                  try clear hcz97_6
                  try clear hcz97_7
                  try clear hcz97_8
                  try clear hfz100_0
                  try clear hfz100_1
                  try clear hfz100_2
                  try clear hfz100_3
                  try clear hfz100_4
                  try clear hfz100_5
                  try clear hfz105_0
                  try clear hfz105_1
                  try clear hfz38_0
                  try clear hfz38_1
                  try clear hfz38_2
                  try clear hfz38_3
                  try clear hfz38_4
                  try clear hfz38_5
                  try clear hfz38_6
                  try clear hfz38_7
                  try clear hfz38_8
                  try clear hfz41_0
                  try clear hfz41_1
                  try clear hfz41_2
                  try clear hfz41_3
                  try clear hfz41_4
                  try clear hfz41_5
                  try clear hfz48_0
                  try clear hfz48_1
                  try clear hfz49_0
                  try clear hfz49_1
                  try clear hfz49_2
                  try clear hfz49_3
                  try clear hfz49_4
                  try clear hfz49_5
                  try clear hfz49_6
                  try clear hfz49_7
                  try clear hfz49_8
                  try clear hfz50_0
                  try clear hfz50_1
                  try clear hfz50_2
                  try clear hfz50_3
                  try clear hfz50_4
                  try clear hfz50_5
                  try clear hfz56_0
                  try clear hfz56_1
                  try clear hfz56_2
                  try clear hfz56_3
                  try clear hfz56_4
                  try clear hfz56_5
                  try clear hfz56_6
                  try clear hfz56_7
                  try clear hfz56_8
                  try clear hfz64_0
                  try clear hfz64_1
                  try clear hfz68_0
                  try clear hfz68_1
                  try clear hfz68_2
                  try clear hfz68_3
                  try clear hfz68_4
                  try clear hfz68_5
                  try clear hfz68_6
                  try clear hfz68_7
                  try clear hfz68_8
                  try clear hfz73_0
                  try clear hfz73_1
                  try clear hfz77_0
                  try clear hfz77_1
                  try clear hfz77_2
                  try clear hfz77_3
                  try clear hfz77_4
                  try clear hfz77_5
                  try clear hfz77_6
                  try clear hfz77_7
                  try clear hfz77_8
                  try clear hfz82_0
                  try clear hfz82_1
                  try clear hfz93_0
                  try clear hfz93_1
                  try clear hfz97_0
                  try clear hfz97_1
                  try clear hfz97_2
                  try clear hfz97_3
                  try clear hfz97_4
                  try clear hfz97_5
                  try clear hfz97_6
                  try clear hfz97_7
                  try clear hfz97_8
                  try clear p2
                  try clear p6
                  try clear p64
                  obtain ⟨kq, x70_83, rfl, HA, HJ83, BK241, BK242, BK259, BK260, BK263, HB⟩ := hcut
                  cases kq with
                  | zero => exact absurd HA.out (by simp [damperlaw10_ScalePanic.j2])
                  | succ kj83 =>
                    have H := HA.out
                    clear HA
                    simp only [damperlaw10_ScalePanic.j2] at H
                    by_cases c106 : x70_83 = true
                    · subst c106
                      have H1 : (some false) = some r := by rw [if_pos rfl] at H; exact H
                      clear H
                      have H := H1
                      clear H1
                      exact absurd (Option.some.inj H) (by rw [hr0_.out]; decide)
                    · replace c106 := Bool.eq_false_iff.mpr c106
                      subst c106
                      have H1 : ((damperlaw10_within.f a2 9).bind fun t265 => (damperlaw10_ScalePanic.l0 kj83 t265 0 t244 t245 t246 t247 t248 t249 t250 t251 t252 t253 t254 t255 t256 t257 t258 t261 t262)) = some r := by rw [if_neg (show ¬ (false = true) by decide)] at H; exact H
                      clear H
                      have H := H1
                      clear H1
                      replace H := Option.bind_eq_some_iff.mp H
                      obtain ⟨t265, A1070, H⟩ := H
                      replace H : (damperlaw10_ScalePanic.l0 kj83 t265 0 t244 t245 t246 t247 t248 t249 t250 t251 t252 t253 t254 t255 t256 t257 t258 t261 t262) = some r := H
                      have A107 := Aside0.mk A1070
                      clear A1070
                      have H' := Aside0.mk H
                      clear H
                      go_wp2_with (first | ((with_reducible refine gate_callee (f := 18) rfl ?_); refine goesL_ (some 72) rfl rfl Try.func18 (by kernel_rfl) rfl #[.int .i64 a2, .int .i64 9] rfl (by (try simp only [List.map_toArray, List.map_cons, List.map_nil]); first | done | rfl | (simp only [List.length_drop, List.length_take]; rfl)) ?_; (with_reducible refine (damperlaw10_within.calls a2 9 t265 _ A107.out).mono ?_); rintro e w' ⟨rfl, ⟨nd, rfl⟩⟩; refine ⟨_, rfl, ?_⟩))
                      go_loopg [13] kj83 (fun kq v13 w' => ∃ (x13_4 : Int) (x264000_4 : Int) (x264001_4 : Int), v13 = .int .i64 x13_4 ∧ Aside0 (damperlaw10_ScalePanic.l0 kq t265 x13_4 t244 t245 t246 t247 t248 t249 t250 t251 t252 t253 t254 t255 t256 t257 t258 x264000_4 x264001_4 = some r) ∧ Aside0 (kq ≤ kj83) ∧ Aside0 (w'.heap[gb241]? = some (.cells #[.int .i64 a0_0, .int .i64 a0_1, .int .i64 a0_2, .int .i64 a0_3, .int .i64 a0_4, .int .i64 a0_5, .int .i64 a0_6, .int .i64 a0_7, .int .i64 a0_8] 23 (0, 0))) ∧ Aside0 (w'.heap[gb242]? = some (.cells #[.string a1_0, .int .i64 a1_1, .int .i64 a1_2, .int .i64 a1_3, .int .i64 a1_4, .int .i64 a1_5] 25 (0, 0))) ∧ Aside0 (w'.heap[gb259]? = some (.cells #[.int .i64 t244, .int .i64 t245, .int .i64 t246, .int .i64 t247, .int .i64 t248, .int .i64 t249, .int .i64 t250, .int .i64 t251, .int .i64 t252] 23 (0, 0))) ∧ Aside0 (w'.heap[gb260]? = some (.cells #[.string t253, .int .i64 t254, .int .i64 t255, .int .i64 t256, .int .i64 t257, .int .i64 t258] 25 (0, 0))) ∧ Aside0 (w'.heap[gb263]? = some (.cells #[.int .i64 x264000_4, .int .i64 x264001_4] 30 (0, 0))) ∧ Aside0 (Below w.heap.size w w'))
                      case atStart => exact ⟨(0), (t261), (t262), (by first | rfl | (simp; done) | (simp [*]; done)), H', ⟨Nat.le_refl _⟩, ⟨by (with_reducible repeat (first | refine blk_drewN ?_ _ | refine blk_drew ?_ | refine blk_alloc ?_ _)); exact BK241.out⟩, ⟨by (with_reducible repeat (first | refine blk_drewN ?_ _ | refine blk_drew ?_ | refine blk_alloc ?_ _)); exact BK242.out⟩, ⟨by (with_reducible repeat (first | refine blk_drewN ?_ _ | refine blk_drew ?_ | refine blk_alloc ?_ _)); exact BK259.out⟩, ⟨by (with_reducible repeat (first | refine blk_drewN ?_ _ | refine blk_drew ?_ | refine blk_alloc ?_ _)); exact BK260.out⟩, ⟨by (with_reducible repeat (first | refine blk_drewN ?_ _ | refine blk_drew ?_ | refine blk_alloc ?_ _)); exact BK263.out⟩, ⟨by repeat (first | (with_reducible first | exact HB.out | apply below_alloc | apply pw_below_drewN | apply below_drew1 | refine below_set ?_ GE241.out | refine below_set ?_ GE242.out | refine below_set ?_ GE259.out | refine below_set ?_ GE260.out | refine below_set ?_ GE263.out) | exact HB.out)⟩⟩
                      case round =>
                        clear H'
                        try clear c1
                        try clear c2
                        try clear p2
                        try clear c3
                        try clear c4
                        try clear c5
                        try clear c6
                        try clear p6
                        try clear c7
                        try clear c8
                        try clear c9
                        try clear c10
                        try clear c15
                        try clear c16
                        try clear c18
                        try clear c20
                        try clear c35
                        try clear c36
                        try clear c37
                        try clear c39
                        try clear c40
                        try clear c44
                        try clear c45
                        try clear c46
                        try clear c47
                        try clear c52
                        try clear c53
                        try clear c54
                        try clear c55
                        try clear c58
                        try clear c58b0
                        try clear c58b1
                        try clear c58b2
                        try clear c59
                        try clear c59b0
                        try clear c59b1
                        try clear c60
                        try clear c61
                        try clear c62
                        try clear c63
                        try clear p64
                        try clear c65
                        try clear c66
                        try clear c67
                        try clear c69
                        try clear c70
                        try clear c71
                        try clear c72
                        try clear c74
                        try clear c75
                        try clear c76
                        try clear c78
                        try clear c79
                        try clear c80
                        try clear c81
                        try clear c83
                        try clear c85
                        try clear c85b0
                        try clear c89
                        try clear c90
                        try clear c91
                        try clear c92
                        try clear c94
                        try clear c95
                        try clear c96
                        try clear c98
                        try clear c99
                        try clear c101
                        try clear c102
                        try clear c103
                        try clear c104
                        try clear c106
                        try clear hcz100_0
                        try clear hcz100_1
                        try clear hcz100_2
                        try clear hcz100_3
                        try clear hcz100_4
                        try clear hcz100_5
                        try clear hcz105_0
                        try clear hcz105_1
                        try clear hcz38_0
                        try clear hcz38_1
                        try clear hcz38_2
                        try clear hcz38_3
                        try clear hcz38_4
                        try clear hcz38_5
                        try clear hcz38_6
                        try clear hcz38_7
                        try clear hcz38_8
                        try clear hcz41_0
                        try clear hcz41_1
                        try clear hcz41_2
                        try clear hcz41_3
                        try clear hcz41_4
                        try clear hcz41_5
                        try clear hcz48_0
                        try clear hcz48_1
                        try clear hcz49_0
                        try clear hcz49_1
                        try clear hcz49_2
                        try clear hcz49_3
                        try clear hcz49_4
                        try clear hcz49_5
                        try clear hcz49_6
                        try clear hcz49_7
                        try clear hcz49_8
                        try clear hcz50_0
                        try clear hcz50_1
                        try clear hcz50_2
                        try clear hcz50_3
                        try clear hcz50_4
                        try clear hcz50_5
                        try clear hcz56_0
                        try clear hcz56_1
                        try clear hcz56_2
                        try clear hcz56_3
                        try clear hcz56_4
                        try clear hcz56_5
                        try clear hcz56_6
                        try clear hcz56_7
                        try clear hcz56_8
                        try clear hcz64_0
                        try clear hcz64_1
                        try clear hcz68_0
                        try clear hcz68_1
                        try clear hcz68_2
                        try clear hcz68_3
                        try clear hcz68_4
                        try clear hcz68_5
                        try clear hcz68_6
                        try clear hcz68_7
                        try clear hcz68_8
                        try clear hcz73_0
                        try clear hcz73_1
                        try clear hcz77_0
                        try clear hcz77_1
                        try clear hcz77_2
                        try clear hcz77_3
                        try clear hcz77_4
                        try clear hcz77_5
                        try clear hcz77_6
                        try clear hcz77_7
                        try clear hcz77_8
                        try clear hcz82_0
                        try clear hcz82_1
                        try clear hcz93_0
                        try clear hcz93_1
                        try clear hcz97_0
                        try clear hcz97_1
                        try clear hcz97_2
                        try clear hcz97_3
                        try clear hcz97_4
                        try clear hcz97_5
                        try clear hcz97_6
                        try clear hcz97_7
                        try clear hcz97_8
                        try clear hfz100_0
                        try clear hfz100_1
                        try clear hfz100_2
                        try clear hfz100_3
                        try clear hfz100_4
                        try clear hfz100_5
                        try clear hfz105_0
                        try clear hfz105_1
                        try clear hfz38_0
                        try clear hfz38_1
                        try clear hfz38_2
                        try clear hfz38_3
                        try clear hfz38_4
                        try clear hfz38_5
                        try clear hfz38_6
                        try clear hfz38_7
                        try clear hfz38_8
                        try clear hfz41_0
                        try clear hfz41_1
                        try clear hfz41_2
                        try clear hfz41_3
                        try clear hfz41_4
                        try clear hfz41_5
                        try clear hfz48_0
                        try clear hfz48_1
                        try clear hfz49_0
                        try clear hfz49_1
                        try clear hfz49_2
                        try clear hfz49_3
                        try clear hfz49_4
                        try clear hfz49_5
                        try clear hfz49_6
                        try clear hfz49_7
                        try clear hfz49_8
                        try clear hfz50_0
                        try clear hfz50_1
                        try clear hfz50_2
                        try clear hfz50_3
                        try clear hfz50_4
                        try clear hfz50_5
                        try clear hfz56_0
                        try clear hfz56_1
                        try clear hfz56_2
                        try clear hfz56_3
                        try clear hfz56_4
                        try clear hfz56_5
                        try clear hfz56_6
                        try clear hfz56_7
                        try clear hfz56_8
                        try clear hfz64_0
                        try clear hfz64_1
                        try clear hfz68_0
                        try clear hfz68_1
                        try clear hfz68_2
                        try clear hfz68_3
                        try clear hfz68_4
                        try clear hfz68_5
                        try clear hfz68_6
                        try clear hfz68_7
                        try clear hfz68_8
                        try clear hfz73_0
                        try clear hfz73_1
                        try clear hfz77_0
                        try clear hfz77_1
                        try clear hfz77_2
                        try clear hfz77_3
                        try clear hfz77_4
                        try clear hfz77_5
                        try clear hfz77_6
                        try clear hfz77_7
                        try clear hfz77_8
                        try clear hfz82_0
                        try clear hfz82_1
                        try clear hfz93_0
                        try clear hfz93_1
                        try clear hfz97_0
                        try clear hfz97_1
                        try clear hfz97_2
                        try clear hfz97_3
                        try clear hfz97_4
                        try clear hfz97_5
                        try clear hfz97_6
                        try clear hfz97_7
                        try clear hfz97_8
                        try clear p2
                        try clear p6
                        try clear p64
                        obtain ⟨x13_4, x264000_4, x264001_4, rfl, HA, HK4, BK241, BK242, BK259, BK260, BK263, HB⟩ := hrel
                        cases gk with
                        | zero => exact absurd HA.out (by simp [damperlaw10_ScalePanic.l0])
                        | succ k4 =>
                          have H := HA.out
                          clear HA
                          simp only [damperlaw10_ScalePanic.l0] at H
                          by_cases c108 : x13_4 < t265
                          · rw [if_pos c108] at H
                            have c108b0 : decide (x13_4 < t265) = true := decide_eq_true c108
                            clear c108
                            replace H := Option.bind_eq_some_iff.mp H
                            obtain ⟨⟨t266, t267⟩, A1090, H⟩ := H
                            replace H : (if t267 = (mx 0 (wrap64 (x264001_4 - 1))) then (damperlaw10_ScalePanic.l0 k4 t265 (wrap64 (x13_4 + 1)) t244 t245 t246 t247 t248 t249 t250 t251 t252 t253 t254 t255 t256 t257 t258 t266 t267) else (some false)) = some r := H
                            have A109 := Aside0.mk A1090
                            clear A1090
                            obtain ⟨ji110, hji110⟩ : ∃ j_ : Int, (mx 0 (wrap64 (x264001_4 - 1))) = j_ := ⟨_, rfl⟩
                            replace H : (if t267 = (ji110) then (damperlaw10_ScalePanic.l0 k4 t265 (wrap64 (x13_4 + 1)) t244 t245 t246 t247 t248 t249 t250 t251 t252 t253 t254 t255 t256 t257 t258 t266 t267) else (some false)) = some r := by first | (rw [hji110] at H; exact H) | (simp only [hji110] at H ⊢; exact H)
                            (try rw [hji110] at A109)
                            have hji110_ : (if 0 < (wrap64 (x264001_4 - 1)) then (wrap64 (x264001_4 - 1)) else 0) = ji110 := hji110
                            by_cases c111 : t267 = (ji110)
                            rotate_left
                            · rw [if_neg c111] at H
                              have c111b0 : (t267 == (ji110)) = false := beq_eq_false_iff_ne.mpr c111
                              have c111b1 : (t267 != (ji110)) = true := bne_iff_ne.mpr c111
                              exact absurd (Option.some.inj H) (by rw [hr0_.out]; decide)
                            rw [if_pos c111] at H
                            have c111b0 : (t267 == (ji110)) = true := beq_iff_eq.mpr c111
                            have c111b1 : (t267 != (ji110)) = false := bne_eq_false_iff_eq.mpr c111
                            clear c111
                            have H' := Aside0.mk H
                            clear H
                            have hnb112 := NB263_241.out
                            have hnc112 := NB241_263.out
                            have hnb113 := NB263_242.out
                            have hnc113 := NB242_263.out
                            have hnb114 := NB263_259.out
                            have hnc114 := NB259_263.out
                            have hnb115 := NB263_260.out
                            have hnc115 := NB260_263.out
                            have hcz116_0 : wr.cell? ⟨gb263, 0, none⟩ = some (.int .i64 x264000_4) := bc BK263 0
                            have hcz116_1 : wr.cell? ⟨gb263, 1, none⟩ = some (.int .i64 x264001_4) := bc BK263 1
                            have hfz116_0 := blk_frozen BK263.out 0
                            have hfz116_1 := blk_frozen BK263.out 1
                            have hnb117 := NB260_241.out
                            have hnc117 := NB241_260.out
                            have hnb118 := NB260_242.out
                            have hnc118 := NB242_260.out
                            have hnb119 := NB260_259.out
                            have hnc119 := NB259_260.out
                            have hcz120_0 : wr.cell? ⟨gb260, 0, none⟩ = some (.string t253) := bc BK260 0
                            have hcz120_1 : wr.cell? ⟨gb260, 1, none⟩ = some (.int .i64 t254) := bc BK260 1
                            have hcz120_2 : wr.cell? ⟨gb260, 2, none⟩ = some (.int .i64 t255) := bc BK260 2
                            have hcz120_3 : wr.cell? ⟨gb260, 3, none⟩ = some (.int .i64 t256) := bc BK260 3
                            have hcz120_4 : wr.cell? ⟨gb260, 4, none⟩ = some (.int .i64 t257) := bc BK260 4
                            have hcz120_5 : wr.cell? ⟨gb260, 5, none⟩ = some (.int .i64 t258) := bc BK260 5
                            have hfz120_0 := blk_frozen BK260.out 0
                            have hfz120_1 := blk_frozen BK260.out 1
                            have hfz120_2 := blk_frozen BK260.out 2
                            have hfz120_3 := blk_frozen BK260.out 3
                            have hfz120_4 := blk_frozen BK260.out 4
                            have hfz120_5 := blk_frozen BK260.out 5
                            have hnb121 := NB259_241.out
                            have hnc121 := NB241_259.out
                            have hnb122 := NB259_242.out
                            have hnc122 := NB242_259.out
                            have hcz123_0 : wr.cell? ⟨gb259, 0, none⟩ = some (.int .i64 t244) := bc BK259 0
                            have hcz123_1 : wr.cell? ⟨gb259, 1, none⟩ = some (.int .i64 t245) := bc BK259 1
                            have hcz123_2 : wr.cell? ⟨gb259, 2, none⟩ = some (.int .i64 t246) := bc BK259 2
                            have hcz123_3 : wr.cell? ⟨gb259, 3, none⟩ = some (.int .i64 t247) := bc BK259 3
                            have hcz123_4 : wr.cell? ⟨gb259, 4, none⟩ = some (.int .i64 t248) := bc BK259 4
                            have hcz123_5 : wr.cell? ⟨gb259, 5, none⟩ = some (.int .i64 t249) := bc BK259 5
                            have hcz123_6 : wr.cell? ⟨gb259, 6, none⟩ = some (.int .i64 t250) := bc BK259 6
                            have hcz123_7 : wr.cell? ⟨gb259, 7, none⟩ = some (.int .i64 t251) := bc BK259 7
                            have hcz123_8 : wr.cell? ⟨gb259, 8, none⟩ = some (.int .i64 t252) := bc BK259 8
                            have hfz123_0 := blk_frozen BK259.out 0
                            have hfz123_1 := blk_frozen BK259.out 1
                            have hfz123_2 := blk_frozen BK259.out 2
                            have hfz123_3 := blk_frozen BK259.out 3
                            have hfz123_4 := blk_frozen BK259.out 4
                            have hfz123_5 := blk_frozen BK259.out 5
                            have hfz123_6 := blk_frozen BK259.out 6
                            have hfz123_7 := blk_frozen BK259.out 7
                            have hfz123_8 := blk_frozen BK259.out 8
                            go_wp2_with (first | ((with_reducible refine gate_callee (f := 21) rfl ?_); refine goesL_ (some 82) rfl rfl Try.func21 (by kernel_rfl) rfl #[.agg #[.int .i64 x264000_4, .int .i64 x264001_4], .agg #[.string t253, .int .i64 t254, .int .i64 t255, .int .i64 t256, .int .i64 t257, .int .i64 t258], .int .i64 t246, .int .i64 0, .int .i64 0, .int .i64 1, .int .i64 0, .int .i64 1, .int .i64 0] rfl (by (try simp only [List.map_toArray, List.map_cons, List.map_nil]); first | done | rfl | (simp only [List.length_drop, List.length_take]; rfl)) ?_; (with_reducible refine (scale_Decide.calls k4 x264000_4 x264001_4 t253 t254 t255 t256 t257 t258 t246 0 0 1 0 1 0 t266 t267 _ A109.out).mono ?_); rintro e w124 ⟨rfl, hb⟩; refine ⟨_, rfl, ?_⟩; have n0_ := Aside0.mk (blk_below (g := gb241) (pk BK241) hb); have n1_ := Aside0.mk (blk_below (g := gb242) (pk BK242) hb); have n2_ := Aside0.mk (blk_below (g := gb259) (pk BK259) hb); have n3_ := Aside0.mk (blk_below (g := gb260) (pk BK260) hb); have n4_ := Aside0.mk (blk_below (g := gb263) (pk BK263) hb); have n5_ := Aside0.mk (below_step (by repeat (first | (with_reducible first | exact HB.out | apply below_alloc | apply pw_below_drewN | apply below_drew1 | refine below_set ?_ GE241.out | refine below_set ?_ GE242.out | refine below_set ?_ GE259.out | refine below_set ?_ GE260.out | refine below_set ?_ GE263.out) | exact HB.out)) hb); clear BK241; clear BK242; clear BK259; clear BK260; clear BK263; clear HB; have BK241 := n0_; have BK242 := n1_; have BK259 := n2_; have BK260 := n3_; have BK263 := n4_; have HB := n5_; clear n0_ n1_ n2_ n3_ n4_ n5_; (try clear hb); (try clear hb2); (try clear hk); (try clear hi)) | ((with_reducible refine gate_dst (N := 14) rfl ?_); (try (refine gate_guard (by rfl) ?_; dsimp only)); refine box_event ?hg (N := 14) ?hd (cs := #[.int .i64 0, .int .i64 0]) (t := 30) ?hr ?_; (case hd => rfl); (case hg => rfl); (case hr => first | (go_simp; done) | (go_simp; rfl)); intro gb268 hg w125 hbox hb; have n0_ := Aside0.mk (blk_below (g := gb241) (pk BK241) hb); have n1_ := Aside0.mk (blk_below (g := gb242) (pk BK242) hb); have n2_ := Aside0.mk (blk_below (g := gb259) (pk BK259) hb); have n3_ := Aside0.mk (blk_below (g := gb260) (pk BK260) hb); have n4_ := Aside0.mk (blk_below (g := gb263) (pk BK263) hb); have n5_ := Aside0.mk (below_step (by repeat (first | (with_reducible first | exact HB.out | apply below_alloc | apply pw_below_drewN | apply below_drew1 | refine below_set ?_ GE241.out | refine below_set ?_ GE242.out | refine below_set ?_ GE259.out | refine below_set ?_ GE260.out | refine below_set ?_ GE263.out) | exact HB.out)) hb); have n6_ := Aside0.mk (hbox); have n7_ := Aside0.mk ((by rw [hg]; exact (below_size (by repeat (first | (with_reducible first | exact HB.out | apply below_alloc | apply pw_below_drewN | apply below_drew1 | refine below_set ?_ GE241.out | refine below_set ?_ GE242.out | refine below_set ?_ GE259.out | refine below_set ?_ GE260.out | refine below_set ?_ GE263.out) | exact HB.out))) : w.heap.size ≤ gb268)); have n8_ := Aside0.mk ((by rw [hg]; exact (below_size (by repeat (first | (with_reducible first | exact HB.out | apply below_alloc | apply pw_below_drewN | apply below_drew1 | refine below_set ?_ GE241.out | refine below_set ?_ GE242.out | refine below_set ?_ GE259.out | refine below_set ?_ GE260.out | refine below_set ?_ GE263.out) | exact HB.out))) : w.heap.size ≤ gb268)); have n9_ := Aside0.mk ((ne_lt hg (pk BK241) : gb241 ≠ gb268)); have n10_ := Aside0.mk ((ne_gt hg (pk BK241) : gb268 ≠ gb241)); have n11_ := Aside0.mk ((ne_lt hg (pk BK242) : gb242 ≠ gb268)); have n12_ := Aside0.mk ((ne_gt hg (pk BK242) : gb268 ≠ gb242)); have n13_ := Aside0.mk ((ne_lt hg (pk BK259) : gb259 ≠ gb268)); have n14_ := Aside0.mk ((ne_gt hg (pk BK259) : gb268 ≠ gb259)); have n15_ := Aside0.mk ((ne_lt hg (pk BK260) : gb260 ≠ gb268)); have n16_ := Aside0.mk ((ne_gt hg (pk BK260) : gb268 ≠ gb260)); have n17_ := Aside0.mk ((ne_lt hg (pk BK263) : gb263 ≠ gb268)); have n18_ := Aside0.mk ((ne_gt hg (pk BK263) : gb268 ≠ gb263)); clear BK241; clear BK242; clear BK259; clear BK260; clear BK263; clear HB; have BK241 := n0_; have BK242 := n1_; have BK259 := n2_; have BK260 := n3_; have BK263 := n4_; have HB := n5_; have BK268 := n6_; have GW268 := n7_; have GE268 := n8_; have NB241_268 := n9_; have NB268_241 := n10_; have NB242_268 := n11_; have NB268_242 := n12_; have NB259_268 := n13_; have NB268_259 := n14_; have NB260_268 := n15_; have NB268_260 := n16_; have NB263_268 := n17_; have NB268_263 := n18_; clear n0_ n1_ n2_ n3_ n4_ n5_ n6_ n7_ n8_ n9_ n10_ n11_ n12_ n13_ n14_ n15_ n16_ n17_ n18_; clear hb hbox hg; have hnb126 := NB268_241.out; have hnc126 := NB241_268.out; have hnb127 := NB268_242.out; have hnc127 := NB242_268.out; have hnb128 := NB268_259.out; have hnc128 := NB259_268.out; have hnb129 := NB268_260.out; have hnc129 := NB260_268.out; have hnb130 := NB268_263.out; have hnc130 := NB263_268.out; have hcz131_0 : w125.cell? ⟨gb268, 0, none⟩ = some (.int .i64 0) := bc BK268 0; have hcz131_1 : w125.cell? ⟨gb268, 1, none⟩ = some (.int .i64 0) := bc BK268 1; have hfz131_0 := blk_frozen BK268.out 0; have hfz131_1 := blk_frozen BK268.out 1; have hcz132_0 : w125.cell? ⟨gb263, 0, none⟩ = some (.int .i64 x264000_4) := bc BK263 0; have hcz132_1 : w125.cell? ⟨gb263, 1, none⟩ = some (.int .i64 x264001_4) := bc BK263 1; have hfz132_0 := blk_frozen BK263.out 0; have hfz132_1 := blk_frozen BK263.out 1))
                            go_roundg k4
                            case measure => have := HJ9.out; have := HJ56.out; have := HJ83.out; have := HK4.out; omega
                            case rel => exact ⟨(wrap64 (x13_4 + 1)), (t266), (t267), (by first | rfl | (simp; done) | (simp [*]; done)), H', ⟨by have := HJ9.out; have := HJ56.out; have := HJ83.out; have := HK4.out; omega⟩, ⟨by (repeat ((with_reducible repeat (first | refine blk_drewN ?_ _ | refine blk_drew ?_ | refine blk_alloc ?_ _)); refine blk_far ?_ NB241_263.out _)); (repeat ((with_reducible repeat (first | refine blk_drewN ?_ _ | refine blk_drew ?_ | refine blk_alloc ?_ _)); refine blk_far ?_ NB241_268.out _)); (with_reducible repeat (first | refine blk_drewN ?_ _ | refine blk_drew ?_ | refine blk_alloc ?_ _)); exact BK241.out⟩, ⟨by (repeat ((with_reducible repeat (first | refine blk_drewN ?_ _ | refine blk_drew ?_ | refine blk_alloc ?_ _)); refine blk_far ?_ NB242_263.out _)); (repeat ((with_reducible repeat (first | refine blk_drewN ?_ _ | refine blk_drew ?_ | refine blk_alloc ?_ _)); refine blk_far ?_ NB242_268.out _)); (with_reducible repeat (first | refine blk_drewN ?_ _ | refine blk_drew ?_ | refine blk_alloc ?_ _)); exact BK242.out⟩, ⟨by (repeat ((with_reducible repeat (first | refine blk_drewN ?_ _ | refine blk_drew ?_ | refine blk_alloc ?_ _)); refine blk_far ?_ NB259_263.out _)); (repeat ((with_reducible repeat (first | refine blk_drewN ?_ _ | refine blk_drew ?_ | refine blk_alloc ?_ _)); refine blk_far ?_ NB259_268.out _)); (with_reducible repeat (first | refine blk_drewN ?_ _ | refine blk_drew ?_ | refine blk_alloc ?_ _)); exact BK259.out⟩, ⟨by (repeat ((with_reducible repeat (first | refine blk_drewN ?_ _ | refine blk_drew ?_ | refine blk_alloc ?_ _)); refine blk_far ?_ NB260_263.out _)); (repeat ((with_reducible repeat (first | refine blk_drewN ?_ _ | refine blk_drew ?_ | refine blk_alloc ?_ _)); refine blk_far ?_ NB260_268.out _)); (with_reducible repeat (first | refine blk_drewN ?_ _ | refine blk_drew ?_ | refine blk_alloc ?_ _)); exact BK260.out⟩, ⟨by (with_reducible repeat (first | refine blk_drewN ?_ _ | refine blk_drew ?_ | refine blk_alloc ?_ _)); refine blk_put (cs := #[.int .i64 t266, .int .i64 x264001_4]) ?_ 1 _ rfl; refine blk_put (cs := #[.int .i64 x264000_4, .int .i64 x264001_4]) ?_ 0 _ rfl; (repeat ((with_reducible repeat (first | refine blk_drewN ?_ _ | refine blk_drew ?_ | refine blk_alloc ?_ _)); refine blk_far ?_ NB263_268.out _)); (with_reducible repeat (first | refine blk_drewN ?_ _ | refine blk_drew ?_ | refine blk_alloc ?_ _)); exact BK263.out⟩, ⟨by repeat (first | (with_reducible first | exact HB.out | apply below_alloc | apply pw_below_drewN | apply below_drew1 | refine below_set ?_ GE241.out | refine below_set ?_ GE242.out | refine below_set ?_ GE259.out | refine below_set ?_ GE260.out | refine below_set ?_ GE263.out | refine below_set ?_ GE268.out) | exact HB.out)⟩⟩
                          · rw [if_neg c108] at H
                            have c108b0 : decide (x13_4 < t265) = false := decide_eq_false c108
                            clear c108
                            obtain rfl := Option.some.inj H
                            go_wp2
                            go_ret
                            exact ⟨by first | rfl | (simp [errW_none, errW_some] <;> rfl) | (simp [*, errW_none, errW_some] <;> rfl), by repeat (first | (with_reducible first | exact HB.out | apply below_alloc | apply pw_below_drewN | apply below_drew1 | refine below_set ?_ GE241.out | refine below_set ?_ GE242.out | refine below_set ?_ GE259.out | refine below_set ?_ GE260.out | refine below_set ?_ GE263.out) | exact HB.out)⟩
    intro hJ1_3_4_5
    refine join_ (σ := Nat) 3 #[true, true, true, true, true, false, false, false] (fun s_ => [(18, .agg #[.int .i64 t244, .int .i64 t245, .int .i64 t246, .int .i64 t247, .int .i64 t248, .int .i64 t249, .int .i64 t250, .int .i64 t251, .int .i64 t252]), (20, .agg #[.string t253, .int .i64 t254, .int .i64 t255, .int .i64 t256, .int .i64 t257, .int .i64 t258]), (7, .pointer (some ⟨s_, 0, none⟩))]) (fun s_ w' => (w'.cell? ⟨gb241, 0, none⟩ = some (.int .i64 a0_0) ∧ w'.cell? ⟨gb241, 1, none⟩ = some (.int .i64 a0_1) ∧ w'.cell? ⟨gb241, 2, none⟩ = some (.int .i64 a0_2) ∧ w'.cell? ⟨gb241, 3, none⟩ = some (.int .i64 a0_3) ∧ w'.cell? ⟨gb241, 4, none⟩ = some (.int .i64 a0_4) ∧ w'.cell? ⟨gb241, 5, none⟩ = some (.int .i64 a0_5) ∧ w'.cell? ⟨gb241, 6, none⟩ = some (.int .i64 a0_6) ∧ w'.cell? ⟨gb241, 7, none⟩ = some (.int .i64 a0_7) ∧ w'.cell? ⟨gb241, 8, none⟩ = some (.int .i64 a0_8) ∧ w'.cell? ⟨gb242, 0, none⟩ = some (.string a1_0) ∧ w'.cell? ⟨gb242, 1, none⟩ = some (.int .i64 a1_1) ∧ w'.cell? ⟨gb242, 2, none⟩ = some (.int .i64 a1_2) ∧ w'.cell? ⟨gb242, 3, none⟩ = some (.int .i64 a1_3) ∧ w'.cell? ⟨gb242, 4, none⟩ = some (.int .i64 a1_4) ∧ w'.cell? ⟨gb242, 5, none⟩ = some (.int .i64 a1_5)) ∧ (w'.heap[gb241]? = some (.cells #[.int .i64 a0_0, .int .i64 a0_1, .int .i64 a0_2, .int .i64 a0_3, .int .i64 a0_4, .int .i64 a0_5, .int .i64 a0_6, .int .i64 a0_7, .int .i64 a0_8] 23 (0, 0))) ∧ (w'.heap[gb242]? = some (.cells #[.string a1_0, .int .i64 a1_1, .int .i64 a1_2, .int .i64 a1_3, .int .i64 a1_4, .int .i64 a1_5] 25 (0, 0))) ∧ (w'.heap[s_]? = some (.cells #[.int .i64 0, .int .i64 0, .int .i64 0, .int .i64 0, .int .i64 0, .int .i64 0, .int .i64 0, .int .i64 0, .int .i64 0] 23 (0, 0))) ∧ (w.heap.size ≤ s_) ∧ (w.heap.size ≤ s_) ∧ (gb241 ≠ s_) ∧ (s_ ≠ gb241) ∧ (gb242 ≠ s_) ∧ (s_ ≠ gb242) ∧ (Below w.heap.size w w')) ?_ ?_
    rotate_left
    · intro hJ1_3_4
      refine join_ (σ := Nat) 3 #[true, true, true, true, false, true, false, false] (fun s_ => [(18, .agg #[.int .i64 t244, .int .i64 t245, .int .i64 t246, .int .i64 t247, .int .i64 t248, .int .i64 t249, .int .i64 t250, .int .i64 t251, .int .i64 t252]), (20, .agg #[.string t253, .int .i64 t254, .int .i64 t255, .int .i64 t256, .int .i64 t257, .int .i64 t258]), (8, .pointer (some ⟨s_, 0, none⟩))]) (fun s_ w' => (w'.cell? ⟨gb241, 0, none⟩ = some (.int .i64 a0_0) ∧ w'.cell? ⟨gb241, 1, none⟩ = some (.int .i64 a0_1) ∧ w'.cell? ⟨gb241, 2, none⟩ = some (.int .i64 a0_2) ∧ w'.cell? ⟨gb241, 3, none⟩ = some (.int .i64 a0_3) ∧ w'.cell? ⟨gb241, 4, none⟩ = some (.int .i64 a0_4) ∧ w'.cell? ⟨gb241, 5, none⟩ = some (.int .i64 a0_5) ∧ w'.cell? ⟨gb241, 6, none⟩ = some (.int .i64 a0_6) ∧ w'.cell? ⟨gb241, 7, none⟩ = some (.int .i64 a0_7) ∧ w'.cell? ⟨gb241, 8, none⟩ = some (.int .i64 a0_8) ∧ w'.cell? ⟨gb242, 0, none⟩ = some (.string a1_0) ∧ w'.cell? ⟨gb242, 1, none⟩ = some (.int .i64 a1_1) ∧ w'.cell? ⟨gb242, 2, none⟩ = some (.int .i64 a1_2) ∧ w'.cell? ⟨gb242, 3, none⟩ = some (.int .i64 a1_3) ∧ w'.cell? ⟨gb242, 4, none⟩ = some (.int .i64 a1_4) ∧ w'.cell? ⟨gb242, 5, none⟩ = some (.int .i64 a1_5)) ∧ (w'.heap[gb241]? = some (.cells #[.int .i64 a0_0, .int .i64 a0_1, .int .i64 a0_2, .int .i64 a0_3, .int .i64 a0_4, .int .i64 a0_5, .int .i64 a0_6, .int .i64 a0_7, .int .i64 a0_8] 23 (0, 0))) ∧ (w'.heap[gb242]? = some (.cells #[.string a1_0, .int .i64 a1_1, .int .i64 a1_2, .int .i64 a1_3, .int .i64 a1_4, .int .i64 a1_5] 25 (0, 0))) ∧ (w'.heap[s_]? = some (.cells #[.string (⟨#[]⟩ : ByteArray), .int .i64 0, .int .i64 0, .int .i64 0, .int .i64 0, .int .i64 0] 25 (0, 0))) ∧ (w.heap.size ≤ s_) ∧ (w.heap.size ≤ s_) ∧ (gb241 ≠ s_) ∧ (s_ ≠ gb241) ∧ (gb242 ≠ s_) ∧ (s_ ≠ gb242) ∧ (Below w.heap.size w w')) ?_ ?_
      rotate_left
      · intro hJ1_3_5
        refine join_ (σ := Nat × Nat) 3 #[true, true, true, false, true, true, false, false] (fun s_ => [(18, .agg #[.int .i64 t244, .int .i64 t245, .int .i64 t246, .int .i64 t247, .int .i64 t248, .int .i64 t249, .int .i64 t250, .int .i64 t251, .int .i64 t252]), (7, .pointer (some ⟨s_.1, 0, none⟩)), (8, .pointer (some ⟨s_.2, 0, none⟩))]) (fun s_ w' => (w'.cell? ⟨gb241, 0, none⟩ = some (.int .i64 a0_0) ∧ w'.cell? ⟨gb241, 1, none⟩ = some (.int .i64 a0_1) ∧ w'.cell? ⟨gb241, 2, none⟩ = some (.int .i64 a0_2) ∧ w'.cell? ⟨gb241, 3, none⟩ = some (.int .i64 a0_3) ∧ w'.cell? ⟨gb241, 4, none⟩ = some (.int .i64 a0_4) ∧ w'.cell? ⟨gb241, 5, none⟩ = some (.int .i64 a0_5) ∧ w'.cell? ⟨gb241, 6, none⟩ = some (.int .i64 a0_6) ∧ w'.cell? ⟨gb241, 7, none⟩ = some (.int .i64 a0_7) ∧ w'.cell? ⟨gb241, 8, none⟩ = some (.int .i64 a0_8) ∧ w'.cell? ⟨gb242, 0, none⟩ = some (.string a1_0) ∧ w'.cell? ⟨gb242, 1, none⟩ = some (.int .i64 a1_1) ∧ w'.cell? ⟨gb242, 2, none⟩ = some (.int .i64 a1_2) ∧ w'.cell? ⟨gb242, 3, none⟩ = some (.int .i64 a1_3) ∧ w'.cell? ⟨gb242, 4, none⟩ = some (.int .i64 a1_4) ∧ w'.cell? ⟨gb242, 5, none⟩ = some (.int .i64 a1_5)) ∧ (w'.heap[gb241]? = some (.cells #[.int .i64 a0_0, .int .i64 a0_1, .int .i64 a0_2, .int .i64 a0_3, .int .i64 a0_4, .int .i64 a0_5, .int .i64 a0_6, .int .i64 a0_7, .int .i64 a0_8] 23 (0, 0))) ∧ (w'.heap[gb242]? = some (.cells #[.string a1_0, .int .i64 a1_1, .int .i64 a1_2, .int .i64 a1_3, .int .i64 a1_4, .int .i64 a1_5] 25 (0, 0))) ∧ (w'.heap[s_.1]? = some (.cells #[.int .i64 0, .int .i64 0, .int .i64 0, .int .i64 0, .int .i64 0, .int .i64 0, .int .i64 0, .int .i64 0, .int .i64 0] 23 (0, 0))) ∧ (w'.heap[s_.2]? = some (.cells #[.string (⟨#[]⟩ : ByteArray), .int .i64 0, .int .i64 0, .int .i64 0, .int .i64 0, .int .i64 0] 25 (0, 0))) ∧ (w.heap.size ≤ s_.1) ∧ (w.heap.size ≤ s_.1) ∧ (gb241 ≠ s_.1) ∧ (s_.1 ≠ gb241) ∧ (gb242 ≠ s_.1) ∧ (s_.1 ≠ gb242) ∧ (s_.2 ≠ s_.1) ∧ (s_.1 ≠ s_.2) ∧ (w.heap.size ≤ s_.2) ∧ (w.heap.size ≤ s_.2) ∧ (gb241 ≠ s_.2) ∧ (s_.2 ≠ gb241) ∧ (gb242 ≠ s_.2) ∧ (s_.2 ≠ gb242) ∧ (Below w.heap.size w w')) ?_ ?_
        rotate_left
        · intro hJ1_4_5
          refine join_ (σ := Unit) 4 #[true, true, true, true, false, false, false, false] (fun s_ => [(18, .agg #[.int .i64 t244, .int .i64 t245, .int .i64 t246, .int .i64 t247, .int .i64 t248, .int .i64 t249, .int .i64 t250, .int .i64 t251, .int .i64 t252]), (20, .agg #[.string t253, .int .i64 t254, .int .i64 t255, .int .i64 t256, .int .i64 t257, .int .i64 t258])]) (fun s_ w' => (w'.cell? ⟨gb241, 0, none⟩ = some (.int .i64 a0_0) ∧ w'.cell? ⟨gb241, 1, none⟩ = some (.int .i64 a0_1) ∧ w'.cell? ⟨gb241, 2, none⟩ = some (.int .i64 a0_2) ∧ w'.cell? ⟨gb241, 3, none⟩ = some (.int .i64 a0_3) ∧ w'.cell? ⟨gb241, 4, none⟩ = some (.int .i64 a0_4) ∧ w'.cell? ⟨gb241, 5, none⟩ = some (.int .i64 a0_5) ∧ w'.cell? ⟨gb241, 6, none⟩ = some (.int .i64 a0_6) ∧ w'.cell? ⟨gb241, 7, none⟩ = some (.int .i64 a0_7) ∧ w'.cell? ⟨gb241, 8, none⟩ = some (.int .i64 a0_8) ∧ w'.cell? ⟨gb242, 0, none⟩ = some (.string a1_0) ∧ w'.cell? ⟨gb242, 1, none⟩ = some (.int .i64 a1_1) ∧ w'.cell? ⟨gb242, 2, none⟩ = some (.int .i64 a1_2) ∧ w'.cell? ⟨gb242, 3, none⟩ = some (.int .i64 a1_3) ∧ w'.cell? ⟨gb242, 4, none⟩ = some (.int .i64 a1_4) ∧ w'.cell? ⟨gb242, 5, none⟩ = some (.int .i64 a1_5)) ∧ (w'.heap[gb241]? = some (.cells #[.int .i64 a0_0, .int .i64 a0_1, .int .i64 a0_2, .int .i64 a0_3, .int .i64 a0_4, .int .i64 a0_5, .int .i64 a0_6, .int .i64 a0_7, .int .i64 a0_8] 23 (0, 0))) ∧ (w'.heap[gb242]? = some (.cells #[.string a1_0, .int .i64 a1_1, .int .i64 a1_2, .int .i64 a1_3, .int .i64 a1_4, .int .i64 a1_5] 25 (0, 0))) ∧ (Below w.heap.size w w')) ?_ ?_
          rotate_left
          · intro hJ1_3
            refine join_ (σ := Nat) 4 #[true, true, true, false, true, false, false, false] (fun s_ => [(18, .agg #[.int .i64 t244, .int .i64 t245, .int .i64 t246, .int .i64 t247, .int .i64 t248, .int .i64 t249, .int .i64 t250, .int .i64 t251, .int .i64 t252]), (7, .pointer (some ⟨s_, 0, none⟩))]) (fun s_ w' => (w'.cell? ⟨gb241, 0, none⟩ = some (.int .i64 a0_0) ∧ w'.cell? ⟨gb241, 1, none⟩ = some (.int .i64 a0_1) ∧ w'.cell? ⟨gb241, 2, none⟩ = some (.int .i64 a0_2) ∧ w'.cell? ⟨gb241, 3, none⟩ = some (.int .i64 a0_3) ∧ w'.cell? ⟨gb241, 4, none⟩ = some (.int .i64 a0_4) ∧ w'.cell? ⟨gb241, 5, none⟩ = some (.int .i64 a0_5) ∧ w'.cell? ⟨gb241, 6, none⟩ = some (.int .i64 a0_6) ∧ w'.cell? ⟨gb241, 7, none⟩ = some (.int .i64 a0_7) ∧ w'.cell? ⟨gb241, 8, none⟩ = some (.int .i64 a0_8) ∧ w'.cell? ⟨gb242, 0, none⟩ = some (.string a1_0) ∧ w'.cell? ⟨gb242, 1, none⟩ = some (.int .i64 a1_1) ∧ w'.cell? ⟨gb242, 2, none⟩ = some (.int .i64 a1_2) ∧ w'.cell? ⟨gb242, 3, none⟩ = some (.int .i64 a1_3) ∧ w'.cell? ⟨gb242, 4, none⟩ = some (.int .i64 a1_4) ∧ w'.cell? ⟨gb242, 5, none⟩ = some (.int .i64 a1_5)) ∧ (w'.heap[gb241]? = some (.cells #[.int .i64 a0_0, .int .i64 a0_1, .int .i64 a0_2, .int .i64 a0_3, .int .i64 a0_4, .int .i64 a0_5, .int .i64 a0_6, .int .i64 a0_7, .int .i64 a0_8] 23 (0, 0))) ∧ (w'.heap[gb242]? = some (.cells #[.string a1_0, .int .i64 a1_1, .int .i64 a1_2, .int .i64 a1_3, .int .i64 a1_4, .int .i64 a1_5] 25 (0, 0))) ∧ (w'.heap[s_]? = some (.cells #[.int .i64 0, .int .i64 0, .int .i64 0, .int .i64 0, .int .i64 0, .int .i64 0, .int .i64 0, .int .i64 0, .int .i64 0] 23 (0, 0))) ∧ (w.heap.size ≤ s_) ∧ (w.heap.size ≤ s_) ∧ (gb241 ≠ s_) ∧ (s_ ≠ gb241) ∧ (gb242 ≠ s_) ∧ (s_ ≠ gb242) ∧ (Below w.heap.size w w')) ?_ ?_
            rotate_left
            · intro hJ1_4
              refine join_ (σ := Nat) 4 #[true, true, true, false, false, true, false, false] (fun s_ => [(18, .agg #[.int .i64 t244, .int .i64 t245, .int .i64 t246, .int .i64 t247, .int .i64 t248, .int .i64 t249, .int .i64 t250, .int .i64 t251, .int .i64 t252]), (8, .pointer (some ⟨s_, 0, none⟩))]) (fun s_ w' => (w'.cell? ⟨gb241, 0, none⟩ = some (.int .i64 a0_0) ∧ w'.cell? ⟨gb241, 1, none⟩ = some (.int .i64 a0_1) ∧ w'.cell? ⟨gb241, 2, none⟩ = some (.int .i64 a0_2) ∧ w'.cell? ⟨gb241, 3, none⟩ = some (.int .i64 a0_3) ∧ w'.cell? ⟨gb241, 4, none⟩ = some (.int .i64 a0_4) ∧ w'.cell? ⟨gb241, 5, none⟩ = some (.int .i64 a0_5) ∧ w'.cell? ⟨gb241, 6, none⟩ = some (.int .i64 a0_6) ∧ w'.cell? ⟨gb241, 7, none⟩ = some (.int .i64 a0_7) ∧ w'.cell? ⟨gb241, 8, none⟩ = some (.int .i64 a0_8) ∧ w'.cell? ⟨gb242, 0, none⟩ = some (.string a1_0) ∧ w'.cell? ⟨gb242, 1, none⟩ = some (.int .i64 a1_1) ∧ w'.cell? ⟨gb242, 2, none⟩ = some (.int .i64 a1_2) ∧ w'.cell? ⟨gb242, 3, none⟩ = some (.int .i64 a1_3) ∧ w'.cell? ⟨gb242, 4, none⟩ = some (.int .i64 a1_4) ∧ w'.cell? ⟨gb242, 5, none⟩ = some (.int .i64 a1_5)) ∧ (w'.heap[gb241]? = some (.cells #[.int .i64 a0_0, .int .i64 a0_1, .int .i64 a0_2, .int .i64 a0_3, .int .i64 a0_4, .int .i64 a0_5, .int .i64 a0_6, .int .i64 a0_7, .int .i64 a0_8] 23 (0, 0))) ∧ (w'.heap[gb242]? = some (.cells #[.string a1_0, .int .i64 a1_1, .int .i64 a1_2, .int .i64 a1_3, .int .i64 a1_4, .int .i64 a1_5] 25 (0, 0))) ∧ (w'.heap[s_]? = some (.cells #[.string (⟨#[]⟩ : ByteArray), .int .i64 0, .int .i64 0, .int .i64 0, .int .i64 0, .int .i64 0] 25 (0, 0))) ∧ (w.heap.size ≤ s_) ∧ (w.heap.size ≤ s_) ∧ (gb241 ≠ s_) ∧ (s_ ≠ gb241) ∧ (gb242 ≠ s_) ∧ (s_ ≠ gb242) ∧ (Below w.heap.size w w')) ?_ ?_
              rotate_left
              · intro hJ1_5
                refine join_ (σ := Nat × Nat) 4 #[true, false, true, false, true, true, false, false] (fun s_ => [(7, .pointer (some ⟨s_.1, 0, none⟩)), (8, .pointer (some ⟨s_.2, 0, none⟩))]) (fun s_ w' => (w'.cell? ⟨gb241, 0, none⟩ = some (.int .i64 a0_0) ∧ w'.cell? ⟨gb241, 1, none⟩ = some (.int .i64 a0_1) ∧ w'.cell? ⟨gb241, 2, none⟩ = some (.int .i64 a0_2) ∧ w'.cell? ⟨gb241, 3, none⟩ = some (.int .i64 a0_3) ∧ w'.cell? ⟨gb241, 4, none⟩ = some (.int .i64 a0_4) ∧ w'.cell? ⟨gb241, 5, none⟩ = some (.int .i64 a0_5) ∧ w'.cell? ⟨gb241, 6, none⟩ = some (.int .i64 a0_6) ∧ w'.cell? ⟨gb241, 7, none⟩ = some (.int .i64 a0_7) ∧ w'.cell? ⟨gb241, 8, none⟩ = some (.int .i64 a0_8) ∧ w'.cell? ⟨gb242, 0, none⟩ = some (.string a1_0) ∧ w'.cell? ⟨gb242, 1, none⟩ = some (.int .i64 a1_1) ∧ w'.cell? ⟨gb242, 2, none⟩ = some (.int .i64 a1_2) ∧ w'.cell? ⟨gb242, 3, none⟩ = some (.int .i64 a1_3) ∧ w'.cell? ⟨gb242, 4, none⟩ = some (.int .i64 a1_4) ∧ w'.cell? ⟨gb242, 5, none⟩ = some (.int .i64 a1_5)) ∧ (w'.heap[gb241]? = some (.cells #[.int .i64 a0_0, .int .i64 a0_1, .int .i64 a0_2, .int .i64 a0_3, .int .i64 a0_4, .int .i64 a0_5, .int .i64 a0_6, .int .i64 a0_7, .int .i64 a0_8] 23 (0, 0))) ∧ (w'.heap[gb242]? = some (.cells #[.string a1_0, .int .i64 a1_1, .int .i64 a1_2, .int .i64 a1_3, .int .i64 a1_4, .int .i64 a1_5] 25 (0, 0))) ∧ (w'.heap[s_.1]? = some (.cells #[.int .i64 0, .int .i64 0, .int .i64 0, .int .i64 0, .int .i64 0, .int .i64 0, .int .i64 0, .int .i64 0, .int .i64 0] 23 (0, 0))) ∧ (w'.heap[s_.2]? = some (.cells #[.string (⟨#[]⟩ : ByteArray), .int .i64 0, .int .i64 0, .int .i64 0, .int .i64 0, .int .i64 0] 25 (0, 0))) ∧ (w.heap.size ≤ s_.1) ∧ (w.heap.size ≤ s_.1) ∧ (gb241 ≠ s_.1) ∧ (s_.1 ≠ gb241) ∧ (gb242 ≠ s_.1) ∧ (s_.1 ≠ gb242) ∧ (s_.2 ≠ s_.1) ∧ (s_.1 ≠ s_.2) ∧ (w.heap.size ≤ s_.2) ∧ (w.heap.size ≤ s_.2) ∧ (gb241 ≠ s_.2) ∧ (s_.2 ≠ gb241) ∧ (gb242 ≠ s_.2) ∧ (s_.2 ≠ gb242) ∧ (Below w.heap.size w w')) ?_ ?_
                rotate_left
                · intro hJ4_5
                  refine join_ (σ := Unit) 5 #[true, true, true, false, false, false, false, false] (fun s_ => [(18, .agg #[.int .i64 t244, .int .i64 t245, .int .i64 t246, .int .i64 t247, .int .i64 t248, .int .i64 t249, .int .i64 t250, .int .i64 t251, .int .i64 t252])]) (fun s_ w' => (w'.cell? ⟨gb241, 0, none⟩ = some (.int .i64 a0_0) ∧ w'.cell? ⟨gb241, 1, none⟩ = some (.int .i64 a0_1) ∧ w'.cell? ⟨gb241, 2, none⟩ = some (.int .i64 a0_2) ∧ w'.cell? ⟨gb241, 3, none⟩ = some (.int .i64 a0_3) ∧ w'.cell? ⟨gb241, 4, none⟩ = some (.int .i64 a0_4) ∧ w'.cell? ⟨gb241, 5, none⟩ = some (.int .i64 a0_5) ∧ w'.cell? ⟨gb241, 6, none⟩ = some (.int .i64 a0_6) ∧ w'.cell? ⟨gb241, 7, none⟩ = some (.int .i64 a0_7) ∧ w'.cell? ⟨gb241, 8, none⟩ = some (.int .i64 a0_8) ∧ w'.cell? ⟨gb242, 0, none⟩ = some (.string a1_0) ∧ w'.cell? ⟨gb242, 1, none⟩ = some (.int .i64 a1_1) ∧ w'.cell? ⟨gb242, 2, none⟩ = some (.int .i64 a1_2) ∧ w'.cell? ⟨gb242, 3, none⟩ = some (.int .i64 a1_3) ∧ w'.cell? ⟨gb242, 4, none⟩ = some (.int .i64 a1_4) ∧ w'.cell? ⟨gb242, 5, none⟩ = some (.int .i64 a1_5)) ∧ (w'.heap[gb241]? = some (.cells #[.int .i64 a0_0, .int .i64 a0_1, .int .i64 a0_2, .int .i64 a0_3, .int .i64 a0_4, .int .i64 a0_5, .int .i64 a0_6, .int .i64 a0_7, .int .i64 a0_8] 23 (0, 0))) ∧ (w'.heap[gb242]? = some (.cells #[.string a1_0, .int .i64 a1_1, .int .i64 a1_2, .int .i64 a1_3, .int .i64 a1_4, .int .i64 a1_5] 25 (0, 0))) ∧ (Below w.heap.size w w')) ?_ ?_
                  rotate_left
                  · intro hJ1
                    refine join_ (σ := Nat) 5 #[true, false, true, false, true, false, false, false] (fun s_ => [(7, .pointer (some ⟨s_, 0, none⟩))]) (fun s_ w' => (w'.cell? ⟨gb241, 0, none⟩ = some (.int .i64 a0_0) ∧ w'.cell? ⟨gb241, 1, none⟩ = some (.int .i64 a0_1) ∧ w'.cell? ⟨gb241, 2, none⟩ = some (.int .i64 a0_2) ∧ w'.cell? ⟨gb241, 3, none⟩ = some (.int .i64 a0_3) ∧ w'.cell? ⟨gb241, 4, none⟩ = some (.int .i64 a0_4) ∧ w'.cell? ⟨gb241, 5, none⟩ = some (.int .i64 a0_5) ∧ w'.cell? ⟨gb241, 6, none⟩ = some (.int .i64 a0_6) ∧ w'.cell? ⟨gb241, 7, none⟩ = some (.int .i64 a0_7) ∧ w'.cell? ⟨gb241, 8, none⟩ = some (.int .i64 a0_8) ∧ w'.cell? ⟨gb242, 0, none⟩ = some (.string a1_0) ∧ w'.cell? ⟨gb242, 1, none⟩ = some (.int .i64 a1_1) ∧ w'.cell? ⟨gb242, 2, none⟩ = some (.int .i64 a1_2) ∧ w'.cell? ⟨gb242, 3, none⟩ = some (.int .i64 a1_3) ∧ w'.cell? ⟨gb242, 4, none⟩ = some (.int .i64 a1_4) ∧ w'.cell? ⟨gb242, 5, none⟩ = some (.int .i64 a1_5)) ∧ (w'.heap[gb241]? = some (.cells #[.int .i64 a0_0, .int .i64 a0_1, .int .i64 a0_2, .int .i64 a0_3, .int .i64 a0_4, .int .i64 a0_5, .int .i64 a0_6, .int .i64 a0_7, .int .i64 a0_8] 23 (0, 0))) ∧ (w'.heap[gb242]? = some (.cells #[.string a1_0, .int .i64 a1_1, .int .i64 a1_2, .int .i64 a1_3, .int .i64 a1_4, .int .i64 a1_5] 25 (0, 0))) ∧ (w'.heap[s_]? = some (.cells #[.int .i64 0, .int .i64 0, .int .i64 0, .int .i64 0, .int .i64 0, .int .i64 0, .int .i64 0, .int .i64 0, .int .i64 0] 23 (0, 0))) ∧ (w.heap.size ≤ s_) ∧ (w.heap.size ≤ s_) ∧ (gb241 ≠ s_) ∧ (s_ ≠ gb241) ∧ (gb242 ≠ s_) ∧ (s_ ≠ gb242) ∧ (Below w.heap.size w w')) ?_ ?_
                    rotate_left
                    · intro hJ4
                      refine join_ (σ := Nat) 5 #[true, false, true, false, false, true, false, false] (fun s_ => [(8, .pointer (some ⟨s_, 0, none⟩))]) (fun s_ w' => (w'.cell? ⟨gb241, 0, none⟩ = some (.int .i64 a0_0) ∧ w'.cell? ⟨gb241, 1, none⟩ = some (.int .i64 a0_1) ∧ w'.cell? ⟨gb241, 2, none⟩ = some (.int .i64 a0_2) ∧ w'.cell? ⟨gb241, 3, none⟩ = some (.int .i64 a0_3) ∧ w'.cell? ⟨gb241, 4, none⟩ = some (.int .i64 a0_4) ∧ w'.cell? ⟨gb241, 5, none⟩ = some (.int .i64 a0_5) ∧ w'.cell? ⟨gb241, 6, none⟩ = some (.int .i64 a0_6) ∧ w'.cell? ⟨gb241, 7, none⟩ = some (.int .i64 a0_7) ∧ w'.cell? ⟨gb241, 8, none⟩ = some (.int .i64 a0_8) ∧ w'.cell? ⟨gb242, 0, none⟩ = some (.string a1_0) ∧ w'.cell? ⟨gb242, 1, none⟩ = some (.int .i64 a1_1) ∧ w'.cell? ⟨gb242, 2, none⟩ = some (.int .i64 a1_2) ∧ w'.cell? ⟨gb242, 3, none⟩ = some (.int .i64 a1_3) ∧ w'.cell? ⟨gb242, 4, none⟩ = some (.int .i64 a1_4) ∧ w'.cell? ⟨gb242, 5, none⟩ = some (.int .i64 a1_5)) ∧ (w'.heap[gb241]? = some (.cells #[.int .i64 a0_0, .int .i64 a0_1, .int .i64 a0_2, .int .i64 a0_3, .int .i64 a0_4, .int .i64 a0_5, .int .i64 a0_6, .int .i64 a0_7, .int .i64 a0_8] 23 (0, 0))) ∧ (w'.heap[gb242]? = some (.cells #[.string a1_0, .int .i64 a1_1, .int .i64 a1_2, .int .i64 a1_3, .int .i64 a1_4, .int .i64 a1_5] 25 (0, 0))) ∧ (w'.heap[s_]? = some (.cells #[.string (⟨#[]⟩ : ByteArray), .int .i64 0, .int .i64 0, .int .i64 0, .int .i64 0, .int .i64 0] 25 (0, 0))) ∧ (w.heap.size ≤ s_) ∧ (w.heap.size ≤ s_) ∧ (gb241 ≠ s_) ∧ (s_ ≠ gb241) ∧ (gb242 ≠ s_) ∧ (s_ ≠ gb242) ∧ (Below w.heap.size w w')) ?_ ?_
                      rotate_left
                      · intro hJ5
                        refine three_ (i := 1) (j := 4) (k := 5) (Ni := some 18) (Nj := some 7) (Nk := some 8) #[true, true, true, false, false, false, false, false] #[true, false, true, false, true, false, false, false] #[true, false, true, false, false, true, false, false] rfl rfl rfl rfl rfl rfl (three_of HT_.out (by kernel_rfl)) (by decide) (by decide) (by decide) (fun K hK => ?_) (fun K hK => ?_) (fun K hK => ?_)
                        · skip
                          refine goes_ Try.func14 (by kernel_rfl) rfl #[.agg #[.int .i64 a0_0, .int .i64 a0_1, .int .i64 a0_2, .int .i64 a0_3, .int .i64 a0_4, .int .i64 a0_5, .int .i64 a0_6, .int .i64 a0_7, .int .i64 a0_8]] (by rfl) rfl rfl (by (try simp only [List.map_toArray, List.map_cons, List.map_nil]); first | done | rfl | (simp only [List.length_drop, List.length_take]; rfl)) ?_
                          with_reducible refine (damperlaw10_Given_Make.calls a0_0 a0_1 a0_2 a0_3 a0_4 a0_5 a0_6 a0_7 a0_8 t244 t245 t246 t247 t248 t249 t250 t251 t252 _ A6.out).mono ?_
                          rintro e w15 ⟨rfl, hb⟩
                          refine ⟨_, rfl, ?_⟩
                          replace BK241 := Aside0.mk (blk_below (g := gb241) (pk BK241) hb)
                          replace BK242 := Aside0.mk (blk_below (g := gb242) (pk BK242) hb)
                          replace HB := Aside0.mk (below_step (by repeat (first | (with_reducible first | exact HB.out | apply below_alloc | apply pw_below_drewN | apply below_drew1 | refine below_set ?_ GE241.out | refine below_set ?_ GE242.out) | exact HB.out)) hb)
                          (try clear hb)
                          (try clear hb2)
                          (try clear hk)
                          (try clear hi)
                          refine hK.out _ _ ⟨bc BK241 0, bc BK241 1, bc BK241 2, bc BK241 3, bc BK241 4, bc BK241 5, bc BK241 6, bc BK241 7, bc BK241 8, bc BK242 0, bc BK242 1, bc BK242 2, bc BK242 3, bc BK242 4, bc BK242 5⟩ (fun hHeld => ?_)
                          clear hK K
                          refine norm_ (a' := ?_) ?_ ?_
                          rotate_left
                          · show Act.put _ (some 18) _ = _
                            simp only [Act.put, List.setIfInBounds_toArray, List.set_cons_zero, List.set_cons_succ, i64_w, i32_w]
                            rfl
                          exact norm0_ (hJ1 () _ ⟨hHeld, (pk BK241), (pk BK242), (by repeat (first | (with_reducible first | exact HB.out | apply below_alloc | apply pw_below_drewN | apply below_drew1 | refine below_set ?_ GE241.out | refine below_set ?_ GE242.out) | exact HB.out))⟩)
                        · skip
                          refine box_step ?hg (N := 7) ?hd (cs := #[.int .i64 0, .int .i64 0, .int .i64 0, .int .i64 0, .int .i64 0, .int .i64 0, .int .i64 0, .int .i64 0, .int .i64 0]) (t := 23) ?hr ?_; (case hd => rfl); (case hg => rfl); (case hr => first | (go_simp; done) | (go_simp; rfl))
                          intro gb259 hg w15 hbox hb
                          have BK259 := Aside0.mk (hbox)
                          have GW259 := Aside0.mk ((by rw [hg]; exact (below_size (by repeat (first | (with_reducible first | exact HB.out | apply below_alloc | apply pw_below_drewN | apply below_drew1 | refine below_set ?_ GE241.out | refine below_set ?_ GE242.out) | exact HB.out))) : w.heap.size ≤ gb259))
                          have GE259 := GW259
                          have NB241_259 := Aside0.mk ((ne_lt hg (pk BK241) : gb241 ≠ gb259))
                          have NB259_241 := Aside0.mk ((ne_gt hg (pk BK241) : gb259 ≠ gb241))
                          have NB242_259 := Aside0.mk ((ne_lt hg (pk BK242) : gb242 ≠ gb259))
                          have NB259_242 := Aside0.mk ((ne_gt hg (pk BK242) : gb259 ≠ gb242))
                          replace BK241 := Aside0.mk (blk_below (g := gb241) (pk BK241) hb)
                          replace BK242 := Aside0.mk (blk_below (g := gb242) (pk BK242) hb)
                          replace HB := Aside0.mk (below_step (by repeat (first | (with_reducible first | exact HB.out | apply below_alloc | apply pw_below_drewN | apply below_drew1 | refine below_set ?_ GE241.out | refine below_set ?_ GE242.out) | exact HB.out)) hb)
                          clear hb hbox hg
                          refine hK.out _ _ ⟨bc BK241 0, bc BK241 1, bc BK241 2, bc BK241 3, bc BK241 4, bc BK241 5, bc BK241 6, bc BK241 7, bc BK241 8, bc BK242 0, bc BK242 1, bc BK242 2, bc BK242 3, bc BK242 4, bc BK242 5⟩ (fun hHeld => ?_)
                          clear hK K
                          refine norm_ (a' := ?_) ?_ ?_
                          rotate_left
                          · show Act.put _ (some 7) _ = _
                            simp only [Act.put, List.setIfInBounds_toArray, List.set_cons_zero, List.set_cons_succ, i64_w, i32_w]
                            rfl
                          exact norm0_ (hJ4 (gb259) _ ⟨hHeld, (pk BK241), (pk BK242), (pk BK259), GW259.out, GE259.out, NB241_259.out, NB259_241.out, NB242_259.out, NB259_242.out, (by repeat (first | (with_reducible first | exact HB.out | apply below_alloc | apply pw_below_drewN | apply below_drew1 | refine below_set ?_ GE241.out | refine below_set ?_ GE242.out | refine below_set ?_ GE259.out) | exact HB.out))⟩)
                        · skip
                          refine box_step ?hg (N := 8) ?hd (cs := #[.string (⟨#[]⟩ : ByteArray), .int .i64 0, .int .i64 0, .int .i64 0, .int .i64 0, .int .i64 0]) (t := 25) ?hr ?_; (case hd => rfl); (case hg => rfl); (case hr => first | (go_simp; done) | (go_simp; rfl))
                          intro gb260 hg w15 hbox hb
                          have BK260 := Aside0.mk (hbox)
                          have GW260 := Aside0.mk ((by rw [hg]; exact (below_size (by repeat (first | (with_reducible first | exact HB.out | apply below_alloc | apply pw_below_drewN | apply below_drew1 | refine below_set ?_ GE241.out | refine below_set ?_ GE242.out) | exact HB.out))) : w.heap.size ≤ gb260))
                          have GE260 := GW260
                          have NB241_260 := Aside0.mk ((ne_lt hg (pk BK241) : gb241 ≠ gb260))
                          have NB260_241 := Aside0.mk ((ne_gt hg (pk BK241) : gb260 ≠ gb241))
                          have NB242_260 := Aside0.mk ((ne_lt hg (pk BK242) : gb242 ≠ gb260))
                          have NB260_242 := Aside0.mk ((ne_gt hg (pk BK242) : gb260 ≠ gb242))
                          replace BK241 := Aside0.mk (blk_below (g := gb241) (pk BK241) hb)
                          replace BK242 := Aside0.mk (blk_below (g := gb242) (pk BK242) hb)
                          replace HB := Aside0.mk (below_step (by repeat (first | (with_reducible first | exact HB.out | apply below_alloc | apply pw_below_drewN | apply below_drew1 | refine below_set ?_ GE241.out | refine below_set ?_ GE242.out) | exact HB.out)) hb)
                          clear hb hbox hg
                          refine hK.out _ _ ⟨bc BK241 0, bc BK241 1, bc BK241 2, bc BK241 3, bc BK241 4, bc BK241 5, bc BK241 6, bc BK241 7, bc BK241 8, bc BK242 0, bc BK242 1, bc BK242 2, bc BK242 3, bc BK242 4, bc BK242 5⟩ (fun hHeld => ?_)
                          clear hK K
                          refine norm_ (a' := ?_) ?_ ?_
                          rotate_left
                          · show Act.put _ (some 8) _ = _
                            simp only [Act.put, List.setIfInBounds_toArray, List.set_cons_zero, List.set_cons_succ, i64_w, i32_w]
                            rfl
                          exact norm0_ (hJ5 (gb260) _ ⟨hHeld, (pk BK241), (pk BK242), (pk BK260), GW260.out, GE260.out, NB241_260.out, NB260_241.out, NB242_260.out, NB260_242.out, (by repeat (first | (with_reducible first | exact HB.out | apply below_alloc | apply pw_below_drewN | apply below_drew1 | refine below_set ?_ GE241.out | refine below_set ?_ GE242.out | refine below_set ?_ GE260.out) | exact HB.out))⟩)
                      · skip
                        rintro gb260 w16 ⟨hS_, h0_, h1_, h2_, h3_, h4_, h5_, h6_, h7_, h8_, h9_⟩
                        have BK260 := Aside0.mk h2_
                        have GW260 : Aside0 (w.heap.size ≤ gb260) := ⟨h3_⟩
                        have GE260 : Aside0 (w.heap.size ≤ gb260) := ⟨h4_⟩
                        have NB241_260 : Aside0 (gb241 ≠ gb260) := ⟨h5_⟩
                        have NB260_241 : Aside0 (gb260 ≠ gb241) := ⟨h6_⟩
                        have NB242_260 : Aside0 (gb242 ≠ gb260) := ⟨h7_⟩
                        have NB260_242 : Aside0 (gb260 ≠ gb242) := ⟨h8_⟩
                        replace BK241 := Aside0.mk h0_
                        replace BK242 := Aside0.mk h1_
                        replace HB : Aside0 (Below w.heap.size w w16) := ⟨h9_⟩
                        clear h0_ h1_ h2_ h3_ h4_ h5_ h6_ h7_ h8_ h9_
                        have hHeld := hS_
                        refine norm_ (a' := ?_) ?_ ?_
                        rotate_left
                        · simp only [putAll, Act.put, List.setIfInBounds_toArray, List.set_cons_zero, List.set_cons_succ]
                          rfl
                        refine two_ (i := 1) (j := 4) (Ni := some 18) (Nj := some 7) #[true, true, true, false, false, true, false, false] #[true, false, true, false, true, true, false, false] rfl rfl rfl rfl (two_of HT_.out (by kernel_rfl)) (by decide) (by decide) (fun K hK => ?_) (fun K hK => ?_)
                        · skip
                          refine goes_ Try.func14 (by kernel_rfl) rfl #[.agg #[.int .i64 a0_0, .int .i64 a0_1, .int .i64 a0_2, .int .i64 a0_3, .int .i64 a0_4, .int .i64 a0_5, .int .i64 a0_6, .int .i64 a0_7, .int .i64 a0_8]] (by rfl) rfl rfl (by (try simp only [List.map_toArray, List.map_cons, List.map_nil]); first | done | rfl | (simp only [List.length_drop, List.length_take]; rfl)) ?_
                          with_reducible refine (damperlaw10_Given_Make.calls a0_0 a0_1 a0_2 a0_3 a0_4 a0_5 a0_6 a0_7 a0_8 t244 t245 t246 t247 t248 t249 t250 t251 t252 _ A6.out).mono ?_
                          rintro e w17 ⟨rfl, hb⟩
                          refine ⟨_, rfl, ?_⟩
                          replace BK241 := Aside0.mk (blk_below (g := gb241) (pk BK241) hb)
                          replace BK242 := Aside0.mk (blk_below (g := gb242) (pk BK242) hb)
                          replace BK260 := Aside0.mk (blk_below (g := gb260) (pk BK260) hb)
                          replace HB := Aside0.mk (below_step (by repeat (first | (with_reducible first | exact HB.out | apply below_alloc | apply pw_below_drewN | apply below_drew1 | refine below_set ?_ GE241.out | refine below_set ?_ GE242.out | refine below_set ?_ GE260.out) | exact HB.out)) hb)
                          (try clear hb)
                          (try clear hb2)
                          (try clear hk)
                          (try clear hi)
                          refine hK.out _ _ ⟨bc BK241 0, bc BK241 1, bc BK241 2, bc BK241 3, bc BK241 4, bc BK241 5, bc BK241 6, bc BK241 7, bc BK241 8, bc BK242 0, bc BK242 1, bc BK242 2, bc BK242 3, bc BK242 4, bc BK242 5⟩ (fun hHeld => ?_)
                          clear hK K
                          refine norm_ (a' := ?_) ?_ ?_
                          rotate_left
                          · show Act.put _ (some 18) _ = _
                            simp only [Act.put, List.setIfInBounds_toArray, List.set_cons_zero, List.set_cons_succ, i64_w, i32_w]
                            rfl
                          exact norm0_ (hJ1_5 (gb260) _ ⟨hHeld, (pk BK241), (pk BK242), (pk BK260), GW260.out, GE260.out, NB241_260.out, NB260_241.out, NB242_260.out, NB260_242.out, (by repeat (first | (with_reducible first | exact HB.out | apply below_alloc | apply pw_below_drewN | apply below_drew1 | refine below_set ?_ GE241.out | refine below_set ?_ GE242.out | refine below_set ?_ GE260.out) | exact HB.out))⟩)
                        · skip
                          refine box_step ?hg (N := 7) ?hd (cs := #[.int .i64 0, .int .i64 0, .int .i64 0, .int .i64 0, .int .i64 0, .int .i64 0, .int .i64 0, .int .i64 0, .int .i64 0]) (t := 23) ?hr ?_; (case hd => rfl); (case hg => rfl); (case hr => first | (go_simp; done) | (go_simp; rfl))
                          intro gb259 hg w17 hbox hb
                          have BK259 := Aside0.mk (hbox)
                          have GW259 := Aside0.mk ((by rw [hg]; exact (below_size (by repeat (first | (with_reducible first | exact HB.out | apply below_alloc | apply pw_below_drewN | apply below_drew1 | refine below_set ?_ GE241.out | refine below_set ?_ GE242.out | refine below_set ?_ GE260.out) | exact HB.out))) : w.heap.size ≤ gb259))
                          have GE259 := GW259
                          have NB241_259 := Aside0.mk ((ne_lt hg (pk BK241) : gb241 ≠ gb259))
                          have NB259_241 := Aside0.mk ((ne_gt hg (pk BK241) : gb259 ≠ gb241))
                          have NB242_259 := Aside0.mk ((ne_lt hg (pk BK242) : gb242 ≠ gb259))
                          have NB259_242 := Aside0.mk ((ne_gt hg (pk BK242) : gb259 ≠ gb242))
                          have NB260_259 := Aside0.mk ((ne_lt hg (pk BK260) : gb260 ≠ gb259))
                          have NB259_260 := Aside0.mk ((ne_gt hg (pk BK260) : gb259 ≠ gb260))
                          replace BK241 := Aside0.mk (blk_below (g := gb241) (pk BK241) hb)
                          replace BK242 := Aside0.mk (blk_below (g := gb242) (pk BK242) hb)
                          replace BK260 := Aside0.mk (blk_below (g := gb260) (pk BK260) hb)
                          replace HB := Aside0.mk (below_step (by repeat (first | (with_reducible first | exact HB.out | apply below_alloc | apply pw_below_drewN | apply below_drew1 | refine below_set ?_ GE241.out | refine below_set ?_ GE242.out | refine below_set ?_ GE260.out) | exact HB.out)) hb)
                          clear hb hbox hg
                          refine hK.out _ _ ⟨bc BK241 0, bc BK241 1, bc BK241 2, bc BK241 3, bc BK241 4, bc BK241 5, bc BK241 6, bc BK241 7, bc BK241 8, bc BK242 0, bc BK242 1, bc BK242 2, bc BK242 3, bc BK242 4, bc BK242 5⟩ (fun hHeld => ?_)
                          clear hK K
                          refine norm_ (a' := ?_) ?_ ?_
                          rotate_left
                          · show Act.put _ (some 7) _ = _
                            simp only [Act.put, List.setIfInBounds_toArray, List.set_cons_zero, List.set_cons_succ, i64_w, i32_w]
                            rfl
                          exact norm0_ (hJ4_5 (gb259, gb260) _ ⟨hHeld, (pk BK241), (pk BK242), (pk BK259), (pk BK260), GW259.out, GE259.out, NB241_259.out, NB259_241.out, NB242_259.out, NB259_242.out, NB260_259.out, NB259_260.out, GW260.out, GE260.out, NB241_260.out, NB260_241.out, NB242_260.out, NB260_242.out, (by repeat (first | (with_reducible first | exact HB.out | apply below_alloc | apply pw_below_drewN | apply below_drew1 | refine below_set ?_ GE241.out | refine below_set ?_ GE242.out | refine below_set ?_ GE260.out | refine below_set ?_ GE259.out) | exact HB.out))⟩)
                    · skip
                      rintro gb259 w16 ⟨hS_, h0_, h1_, h2_, h3_, h4_, h5_, h6_, h7_, h8_, h9_⟩
                      have BK259 := Aside0.mk h2_
                      have GW259 : Aside0 (w.heap.size ≤ gb259) := ⟨h3_⟩
                      have GE259 : Aside0 (w.heap.size ≤ gb259) := ⟨h4_⟩
                      have NB241_259 : Aside0 (gb241 ≠ gb259) := ⟨h5_⟩
                      have NB259_241 : Aside0 (gb259 ≠ gb241) := ⟨h6_⟩
                      have NB242_259 : Aside0 (gb242 ≠ gb259) := ⟨h7_⟩
                      have NB259_242 : Aside0 (gb259 ≠ gb242) := ⟨h8_⟩
                      replace BK241 := Aside0.mk h0_
                      replace BK242 := Aside0.mk h1_
                      replace HB : Aside0 (Below w.heap.size w w16) := ⟨h9_⟩
                      clear h0_ h1_ h2_ h3_ h4_ h5_ h6_ h7_ h8_ h9_
                      have hHeld := hS_
                      refine norm_ (a' := ?_) ?_ ?_
                      rotate_left
                      · simp only [putAll, Act.put, List.setIfInBounds_toArray, List.set_cons_zero, List.set_cons_succ]
                        rfl
                      refine two_ (i := 1) (j := 5) (Ni := some 18) (Nj := some 8) #[true, true, true, false, true, false, false, false] #[true, false, true, false, true, true, false, false] rfl rfl rfl rfl (two_of HT_.out (by kernel_rfl)) (by decide) (by decide) (fun K hK => ?_) (fun K hK => ?_)
                      · skip
                        refine goes_ Try.func14 (by kernel_rfl) rfl #[.agg #[.int .i64 a0_0, .int .i64 a0_1, .int .i64 a0_2, .int .i64 a0_3, .int .i64 a0_4, .int .i64 a0_5, .int .i64 a0_6, .int .i64 a0_7, .int .i64 a0_8]] (by rfl) rfl rfl (by (try simp only [List.map_toArray, List.map_cons, List.map_nil]); first | done | rfl | (simp only [List.length_drop, List.length_take]; rfl)) ?_
                        with_reducible refine (damperlaw10_Given_Make.calls a0_0 a0_1 a0_2 a0_3 a0_4 a0_5 a0_6 a0_7 a0_8 t244 t245 t246 t247 t248 t249 t250 t251 t252 _ A6.out).mono ?_
                        rintro e w17 ⟨rfl, hb⟩
                        refine ⟨_, rfl, ?_⟩
                        replace BK241 := Aside0.mk (blk_below (g := gb241) (pk BK241) hb)
                        replace BK242 := Aside0.mk (blk_below (g := gb242) (pk BK242) hb)
                        replace BK259 := Aside0.mk (blk_below (g := gb259) (pk BK259) hb)
                        replace HB := Aside0.mk (below_step (by repeat (first | (with_reducible first | exact HB.out | apply below_alloc | apply pw_below_drewN | apply below_drew1 | refine below_set ?_ GE241.out | refine below_set ?_ GE242.out | refine below_set ?_ GE259.out) | exact HB.out)) hb)
                        (try clear hb)
                        (try clear hb2)
                        (try clear hk)
                        (try clear hi)
                        refine hK.out _ _ ⟨bc BK241 0, bc BK241 1, bc BK241 2, bc BK241 3, bc BK241 4, bc BK241 5, bc BK241 6, bc BK241 7, bc BK241 8, bc BK242 0, bc BK242 1, bc BK242 2, bc BK242 3, bc BK242 4, bc BK242 5⟩ (fun hHeld => ?_)
                        clear hK K
                        refine norm_ (a' := ?_) ?_ ?_
                        rotate_left
                        · show Act.put _ (some 18) _ = _
                          simp only [Act.put, List.setIfInBounds_toArray, List.set_cons_zero, List.set_cons_succ, i64_w, i32_w]
                          rfl
                        exact norm0_ (hJ1_4 (gb259) _ ⟨hHeld, (pk BK241), (pk BK242), (pk BK259), GW259.out, GE259.out, NB241_259.out, NB259_241.out, NB242_259.out, NB259_242.out, (by repeat (first | (with_reducible first | exact HB.out | apply below_alloc | apply pw_below_drewN | apply below_drew1 | refine below_set ?_ GE241.out | refine below_set ?_ GE242.out | refine below_set ?_ GE259.out) | exact HB.out))⟩)
                      · skip
                        refine box_step ?hg (N := 8) ?hd (cs := #[.string (⟨#[]⟩ : ByteArray), .int .i64 0, .int .i64 0, .int .i64 0, .int .i64 0, .int .i64 0]) (t := 25) ?hr ?_; (case hd => rfl); (case hg => rfl); (case hr => first | (go_simp; done) | (go_simp; rfl))
                        intro gb260 hg w17 hbox hb
                        have BK260 := Aside0.mk (hbox)
                        have GW260 := Aside0.mk ((by rw [hg]; exact (below_size (by repeat (first | (with_reducible first | exact HB.out | apply below_alloc | apply pw_below_drewN | apply below_drew1 | refine below_set ?_ GE241.out | refine below_set ?_ GE242.out | refine below_set ?_ GE259.out) | exact HB.out))) : w.heap.size ≤ gb260))
                        have GE260 := GW260
                        have NB241_260 := Aside0.mk ((ne_lt hg (pk BK241) : gb241 ≠ gb260))
                        have NB260_241 := Aside0.mk ((ne_gt hg (pk BK241) : gb260 ≠ gb241))
                        have NB242_260 := Aside0.mk ((ne_lt hg (pk BK242) : gb242 ≠ gb260))
                        have NB260_242 := Aside0.mk ((ne_gt hg (pk BK242) : gb260 ≠ gb242))
                        have NB259_260 := Aside0.mk ((ne_lt hg (pk BK259) : gb259 ≠ gb260))
                        have NB260_259 := Aside0.mk ((ne_gt hg (pk BK259) : gb260 ≠ gb259))
                        replace BK241 := Aside0.mk (blk_below (g := gb241) (pk BK241) hb)
                        replace BK242 := Aside0.mk (blk_below (g := gb242) (pk BK242) hb)
                        replace BK259 := Aside0.mk (blk_below (g := gb259) (pk BK259) hb)
                        replace HB := Aside0.mk (below_step (by repeat (first | (with_reducible first | exact HB.out | apply below_alloc | apply pw_below_drewN | apply below_drew1 | refine below_set ?_ GE241.out | refine below_set ?_ GE242.out | refine below_set ?_ GE259.out) | exact HB.out)) hb)
                        clear hb hbox hg
                        refine hK.out _ _ ⟨bc BK241 0, bc BK241 1, bc BK241 2, bc BK241 3, bc BK241 4, bc BK241 5, bc BK241 6, bc BK241 7, bc BK241 8, bc BK242 0, bc BK242 1, bc BK242 2, bc BK242 3, bc BK242 4, bc BK242 5⟩ (fun hHeld => ?_)
                        clear hK K
                        refine norm_ (a' := ?_) ?_ ?_
                        rotate_left
                        · show Act.put _ (some 8) _ = _
                          simp only [Act.put, List.setIfInBounds_toArray, List.set_cons_zero, List.set_cons_succ, i64_w, i32_w]
                          rfl
                        exact norm0_ (hJ4_5 (gb259, gb260) _ ⟨hHeld, (pk BK241), (pk BK242), (pk BK259), (pk BK260), GW259.out, GE259.out, NB241_259.out, NB259_241.out, NB242_259.out, NB259_242.out, NB260_259.out, NB259_260.out, GW260.out, GE260.out, NB241_260.out, NB260_241.out, NB242_260.out, NB260_242.out, (by repeat (first | (with_reducible first | exact HB.out | apply below_alloc | apply pw_below_drewN | apply below_drew1 | refine below_set ?_ GE241.out | refine below_set ?_ GE242.out | refine below_set ?_ GE259.out | refine below_set ?_ GE260.out) | exact HB.out))⟩)
                  · skip
                    rintro _ w16 ⟨hS_, h0_, h1_, h2_⟩
                    replace BK241 := Aside0.mk h0_
                    replace BK242 := Aside0.mk h1_
                    replace HB : Aside0 (Below w.heap.size w w16) := ⟨h2_⟩
                    clear h0_ h1_ h2_
                    have hHeld := hS_
                    refine norm_ (a' := ?_) ?_ ?_
                    rotate_left
                    · simp only [putAll, Act.put, List.setIfInBounds_toArray, List.set_cons_zero, List.set_cons_succ]
                      rfl
                    refine three_ (i := 3) (j := 4) (k := 5) (Ni := some 20) (Nj := some 7) (Nk := some 8) #[true, true, true, true, false, false, false, false] #[true, true, true, false, true, false, false, false] #[true, true, true, false, false, true, false, false] rfl rfl rfl rfl rfl rfl (three_of HT_.out (by kernel_rfl)) (by decide) (by decide) (by decide) (fun K hK => ?_) (fun K hK => ?_) (fun K hK => ?_)
                    · skip
                      refine goes_ Try.func15 (by kernel_rfl) rfl #[.agg #[.string a1_0, .int .i64 a1_1, .int .i64 a1_2, .int .i64 a1_3, .int .i64 a1_4, .int .i64 a1_5], .int .i64 0] (by rfl) rfl rfl (by (try simp only [List.map_toArray, List.map_cons, List.map_nil]); first | done | rfl | (simp only [List.length_drop, List.length_take]; rfl)) ?_
                      with_reducible refine (damperlaw2_Config.calls a1_0 a1_1 a1_2 a1_3 a1_4 a1_5 0 t253 t254 t255 t256 t257 t258 _ A7.out).mono ?_
                      rintro e w17 ⟨rfl, hb⟩
                      refine ⟨_, rfl, ?_⟩
                      replace BK241 := Aside0.mk (blk_below (g := gb241) (pk BK241) hb)
                      replace BK242 := Aside0.mk (blk_below (g := gb242) (pk BK242) hb)
                      replace HB := Aside0.mk (below_step (by repeat (first | (with_reducible first | exact HB.out | apply below_alloc | apply pw_below_drewN | apply below_drew1 | refine below_set ?_ GE241.out | refine below_set ?_ GE242.out) | exact HB.out)) hb)
                      (try clear hb)
                      (try clear hb2)
                      (try clear hk)
                      (try clear hi)
                      refine hK.out _ _ ⟨bc BK241 0, bc BK241 1, bc BK241 2, bc BK241 3, bc BK241 4, bc BK241 5, bc BK241 6, bc BK241 7, bc BK241 8, bc BK242 0, bc BK242 1, bc BK242 2, bc BK242 3, bc BK242 4, bc BK242 5⟩ (fun hHeld => ?_)
                      clear hK K
                      refine norm_ (a' := ?_) ?_ ?_
                      rotate_left
                      · show Act.put _ (some 20) _ = _
                        simp only [Act.put, List.setIfInBounds_toArray, List.set_cons_zero, List.set_cons_succ, i64_w, i32_w]
                        rfl
                      exact norm0_ (hJ1_3 () _ ⟨hHeld, (pk BK241), (pk BK242), (by repeat (first | (with_reducible first | exact HB.out | apply below_alloc | apply pw_below_drewN | apply below_drew1 | refine below_set ?_ GE241.out | refine below_set ?_ GE242.out) | exact HB.out))⟩)
                    · skip
                      refine box_step ?hg (N := 7) ?hd (cs := #[.int .i64 0, .int .i64 0, .int .i64 0, .int .i64 0, .int .i64 0, .int .i64 0, .int .i64 0, .int .i64 0, .int .i64 0]) (t := 23) ?hr ?_; (case hd => rfl); (case hg => rfl); (case hr => first | (go_simp; done) | (go_simp; rfl))
                      intro gb259 hg w17 hbox hb
                      have BK259 := Aside0.mk (hbox)
                      have GW259 := Aside0.mk ((by rw [hg]; exact (below_size (by repeat (first | (with_reducible first | exact HB.out | apply below_alloc | apply pw_below_drewN | apply below_drew1 | refine below_set ?_ GE241.out | refine below_set ?_ GE242.out) | exact HB.out))) : w.heap.size ≤ gb259))
                      have GE259 := GW259
                      have NB241_259 := Aside0.mk ((ne_lt hg (pk BK241) : gb241 ≠ gb259))
                      have NB259_241 := Aside0.mk ((ne_gt hg (pk BK241) : gb259 ≠ gb241))
                      have NB242_259 := Aside0.mk ((ne_lt hg (pk BK242) : gb242 ≠ gb259))
                      have NB259_242 := Aside0.mk ((ne_gt hg (pk BK242) : gb259 ≠ gb242))
                      replace BK241 := Aside0.mk (blk_below (g := gb241) (pk BK241) hb)
                      replace BK242 := Aside0.mk (blk_below (g := gb242) (pk BK242) hb)
                      replace HB := Aside0.mk (below_step (by repeat (first | (with_reducible first | exact HB.out | apply below_alloc | apply pw_below_drewN | apply below_drew1 | refine below_set ?_ GE241.out | refine below_set ?_ GE242.out) | exact HB.out)) hb)
                      clear hb hbox hg
                      refine hK.out _ _ ⟨bc BK241 0, bc BK241 1, bc BK241 2, bc BK241 3, bc BK241 4, bc BK241 5, bc BK241 6, bc BK241 7, bc BK241 8, bc BK242 0, bc BK242 1, bc BK242 2, bc BK242 3, bc BK242 4, bc BK242 5⟩ (fun hHeld => ?_)
                      clear hK K
                      refine norm_ (a' := ?_) ?_ ?_
                      rotate_left
                      · show Act.put _ (some 7) _ = _
                        simp only [Act.put, List.setIfInBounds_toArray, List.set_cons_zero, List.set_cons_succ, i64_w, i32_w]
                        rfl
                      exact norm0_ (hJ1_4 (gb259) _ ⟨hHeld, (pk BK241), (pk BK242), (pk BK259), GW259.out, GE259.out, NB241_259.out, NB259_241.out, NB242_259.out, NB259_242.out, (by repeat (first | (with_reducible first | exact HB.out | apply below_alloc | apply pw_below_drewN | apply below_drew1 | refine below_set ?_ GE241.out | refine below_set ?_ GE242.out | refine below_set ?_ GE259.out) | exact HB.out))⟩)
                    · skip
                      refine box_step ?hg (N := 8) ?hd (cs := #[.string (⟨#[]⟩ : ByteArray), .int .i64 0, .int .i64 0, .int .i64 0, .int .i64 0, .int .i64 0]) (t := 25) ?hr ?_; (case hd => rfl); (case hg => rfl); (case hr => first | (go_simp; done) | (go_simp; rfl))
                      intro gb260 hg w17 hbox hb
                      have BK260 := Aside0.mk (hbox)
                      have GW260 := Aside0.mk ((by rw [hg]; exact (below_size (by repeat (first | (with_reducible first | exact HB.out | apply below_alloc | apply pw_below_drewN | apply below_drew1 | refine below_set ?_ GE241.out | refine below_set ?_ GE242.out) | exact HB.out))) : w.heap.size ≤ gb260))
                      have GE260 := GW260
                      have NB241_260 := Aside0.mk ((ne_lt hg (pk BK241) : gb241 ≠ gb260))
                      have NB260_241 := Aside0.mk ((ne_gt hg (pk BK241) : gb260 ≠ gb241))
                      have NB242_260 := Aside0.mk ((ne_lt hg (pk BK242) : gb242 ≠ gb260))
                      have NB260_242 := Aside0.mk ((ne_gt hg (pk BK242) : gb260 ≠ gb242))
                      replace BK241 := Aside0.mk (blk_below (g := gb241) (pk BK241) hb)
                      replace BK242 := Aside0.mk (blk_below (g := gb242) (pk BK242) hb)
                      replace HB := Aside0.mk (below_step (by repeat (first | (with_reducible first | exact HB.out | apply below_alloc | apply pw_below_drewN | apply below_drew1 | refine below_set ?_ GE241.out | refine below_set ?_ GE242.out) | exact HB.out)) hb)
                      clear hb hbox hg
                      refine hK.out _ _ ⟨bc BK241 0, bc BK241 1, bc BK241 2, bc BK241 3, bc BK241 4, bc BK241 5, bc BK241 6, bc BK241 7, bc BK241 8, bc BK242 0, bc BK242 1, bc BK242 2, bc BK242 3, bc BK242 4, bc BK242 5⟩ (fun hHeld => ?_)
                      clear hK K
                      refine norm_ (a' := ?_) ?_ ?_
                      rotate_left
                      · show Act.put _ (some 8) _ = _
                        simp only [Act.put, List.setIfInBounds_toArray, List.set_cons_zero, List.set_cons_succ, i64_w, i32_w]
                        rfl
                      exact norm0_ (hJ1_5 (gb260) _ ⟨hHeld, (pk BK241), (pk BK242), (pk BK260), GW260.out, GE260.out, NB241_260.out, NB260_241.out, NB242_260.out, NB260_242.out, (by repeat (first | (with_reducible first | exact HB.out | apply below_alloc | apply pw_below_drewN | apply below_drew1 | refine below_set ?_ GE241.out | refine below_set ?_ GE242.out | refine below_set ?_ GE260.out) | exact HB.out))⟩)
                · skip
                  rintro ⟨gb259, gb260⟩ w17 ⟨hS_, h0_, h1_, h2_, h3_, h4_, h5_, h6_, h7_, h8_, h9_, h10_, h11_, h12_, h13_, h14_, h15_, h16_, h17_, h18_⟩
                  have BK259 : Aside0 (w17.heap[gb259]? = some (.cells #[.int .i64 0, .int .i64 0, .int .i64 0, .int .i64 0, .int .i64 0, .int .i64 0, .int .i64 0, .int .i64 0, .int .i64 0] 23 (0, 0))) := ⟨h2_⟩
                  have BK260 : Aside0 (w17.heap[gb260]? = some (.cells #[.string (⟨#[]⟩ : ByteArray), .int .i64 0, .int .i64 0, .int .i64 0, .int .i64 0, .int .i64 0] 25 (0, 0))) := ⟨h3_⟩
                  have GW259 : Aside0 (w.heap.size ≤ gb259) := ⟨h4_⟩
                  have GE259 : Aside0 (w.heap.size ≤ gb259) := ⟨h5_⟩
                  have NB241_259 : Aside0 (gb241 ≠ gb259) := ⟨h6_⟩
                  have NB259_241 : Aside0 (gb259 ≠ gb241) := ⟨h7_⟩
                  have NB242_259 : Aside0 (gb242 ≠ gb259) := ⟨h8_⟩
                  have NB259_242 : Aside0 (gb259 ≠ gb242) := ⟨h9_⟩
                  have NB260_259 : Aside0 (gb260 ≠ gb259) := ⟨h10_⟩
                  have NB259_260 : Aside0 (gb259 ≠ gb260) := ⟨h11_⟩
                  have GW260 : Aside0 (w.heap.size ≤ gb260) := ⟨h12_⟩
                  have GE260 : Aside0 (w.heap.size ≤ gb260) := ⟨h13_⟩
                  have NB241_260 : Aside0 (gb241 ≠ gb260) := ⟨h14_⟩
                  have NB260_241 : Aside0 (gb260 ≠ gb241) := ⟨h15_⟩
                  have NB242_260 : Aside0 (gb242 ≠ gb260) := ⟨h16_⟩
                  have NB260_242 : Aside0 (gb260 ≠ gb242) := ⟨h17_⟩
                  replace BK241 := Aside0.mk h0_
                  replace BK242 := Aside0.mk h1_
                  replace HB : Aside0 (Below w.heap.size w w17) := ⟨h18_⟩
                  clear h0_ h1_ h2_ h3_ h4_ h5_ h6_ h7_ h8_ h9_ h10_ h11_ h12_ h13_ h14_ h15_ h16_ h17_ h18_
                  have hHeld := hS_
                  refine norm_ (a' := ?_) ?_ ?_
                  rotate_left
                  · simp only [putAll, Act.put, List.setIfInBounds_toArray, List.set_cons_zero, List.set_cons_succ]
                    rfl
                  refine one_ (i := 1) (N := some 18) #[true, true, true, false, true, true, false, false] rfl rfl (one_of HT_.out (by kernel_rfl)) (by decide) (fun K hK => ?_)
                  refine goes_ Try.func14 (by kernel_rfl) rfl #[.agg #[.int .i64 a0_0, .int .i64 a0_1, .int .i64 a0_2, .int .i64 a0_3, .int .i64 a0_4, .int .i64 a0_5, .int .i64 a0_6, .int .i64 a0_7, .int .i64 a0_8]] (by rfl) rfl rfl (by (try simp only [List.map_toArray, List.map_cons, List.map_nil]); first | done | rfl | (simp only [List.length_drop, List.length_take]; rfl)) ?_
                  with_reducible refine (damperlaw10_Given_Make.calls a0_0 a0_1 a0_2 a0_3 a0_4 a0_5 a0_6 a0_7 a0_8 t244 t245 t246 t247 t248 t249 t250 t251 t252 _ A6.out).mono ?_
                  rintro e w18 ⟨rfl, hb⟩
                  refine ⟨_, rfl, ?_⟩
                  replace BK241 := Aside0.mk (blk_below (g := gb241) (pk BK241) hb)
                  replace BK242 := Aside0.mk (blk_below (g := gb242) (pk BK242) hb)
                  replace BK259 := Aside0.mk (blk_below (g := gb259) (pk BK259) hb)
                  replace BK260 := Aside0.mk (blk_below (g := gb260) (pk BK260) hb)
                  replace HB := Aside0.mk (below_step (by repeat (first | (with_reducible first | exact HB.out | apply below_alloc | apply pw_below_drewN | apply below_drew1 | refine below_set ?_ GE241.out | refine below_set ?_ GE242.out | refine below_set ?_ GE259.out | refine below_set ?_ GE260.out) | exact HB.out)) hb)
                  (try clear hb)
                  (try clear hb2)
                  (try clear hk)
                  (try clear hi)
                  refine hK.out _ _ ⟨bc BK241 0, bc BK241 1, bc BK241 2, bc BK241 3, bc BK241 4, bc BK241 5, bc BK241 6, bc BK241 7, bc BK241 8, bc BK242 0, bc BK242 1, bc BK242 2, bc BK242 3, bc BK242 4, bc BK242 5⟩ (fun hHeld => ?_)
                  clear hK K
                  refine norm_ (a' := ?_) ?_ ?_
                  rotate_left
                  · show Act.put _ (some 18) _ = _
                    simp only [Act.put, List.setIfInBounds_toArray, List.set_cons_zero, List.set_cons_succ, i64_w, i32_w]
                    rfl
                  exact norm0_ (hJ1_4_5 (gb259, gb260) _ ⟨hHeld, (pk BK241), (pk BK242), (pk BK259), (pk BK260), GW259.out, GE259.out, NB241_259.out, NB259_241.out, NB242_259.out, NB259_242.out, NB260_259.out, NB259_260.out, GW260.out, GE260.out, NB241_260.out, NB260_241.out, NB242_260.out, NB260_242.out, (by repeat (first | (with_reducible first | exact HB.out | apply below_alloc | apply pw_below_drewN | apply below_drew1 | refine below_set ?_ GE241.out | refine below_set ?_ GE242.out | refine below_set ?_ GE259.out | refine below_set ?_ GE260.out) | exact HB.out))⟩)
              · skip
                rintro gb260 w17 ⟨hS_, h0_, h1_, h2_, h3_, h4_, h5_, h6_, h7_, h8_, h9_⟩
                have BK260 := Aside0.mk h2_
                have GW260 : Aside0 (w.heap.size ≤ gb260) := ⟨h3_⟩
                have GE260 : Aside0 (w.heap.size ≤ gb260) := ⟨h4_⟩
                have NB241_260 : Aside0 (gb241 ≠ gb260) := ⟨h5_⟩
                have NB260_241 : Aside0 (gb260 ≠ gb241) := ⟨h6_⟩
                have NB242_260 : Aside0 (gb242 ≠ gb260) := ⟨h7_⟩
                have NB260_242 : Aside0 (gb260 ≠ gb242) := ⟨h8_⟩
                replace BK241 := Aside0.mk h0_
                replace BK242 := Aside0.mk h1_
                replace HB : Aside0 (Below w.heap.size w w17) := ⟨h9_⟩
                clear h0_ h1_ h2_ h3_ h4_ h5_ h6_ h7_ h8_ h9_
                have hHeld := hS_
                refine norm_ (a' := ?_) ?_ ?_
                rotate_left
                · simp only [putAll, Act.put, List.setIfInBounds_toArray, List.set_cons_zero, List.set_cons_succ]
                  rfl
                refine two_ (i := 3) (j := 4) (Ni := some 20) (Nj := some 7) #[true, true, true, true, false, true, false, false] #[true, true, true, false, true, true, false, false] rfl rfl rfl rfl (two_of HT_.out (by kernel_rfl)) (by decide) (by decide) (fun K hK => ?_) (fun K hK => ?_)
                · skip
                  refine goes_ Try.func15 (by kernel_rfl) rfl #[.agg #[.string a1_0, .int .i64 a1_1, .int .i64 a1_2, .int .i64 a1_3, .int .i64 a1_4, .int .i64 a1_5], .int .i64 0] (by rfl) rfl rfl (by (try simp only [List.map_toArray, List.map_cons, List.map_nil]); first | done | rfl | (simp only [List.length_drop, List.length_take]; rfl)) ?_
                  with_reducible refine (damperlaw2_Config.calls a1_0 a1_1 a1_2 a1_3 a1_4 a1_5 0 t253 t254 t255 t256 t257 t258 _ A7.out).mono ?_
                  rintro e w18 ⟨rfl, hb⟩
                  refine ⟨_, rfl, ?_⟩
                  replace BK241 := Aside0.mk (blk_below (g := gb241) (pk BK241) hb)
                  replace BK242 := Aside0.mk (blk_below (g := gb242) (pk BK242) hb)
                  replace BK260 := Aside0.mk (blk_below (g := gb260) (pk BK260) hb)
                  replace HB := Aside0.mk (below_step (by repeat (first | (with_reducible first | exact HB.out | apply below_alloc | apply pw_below_drewN | apply below_drew1 | refine below_set ?_ GE241.out | refine below_set ?_ GE242.out | refine below_set ?_ GE260.out) | exact HB.out)) hb)
                  (try clear hb)
                  (try clear hb2)
                  (try clear hk)
                  (try clear hi)
                  refine hK.out _ _ ⟨bc BK241 0, bc BK241 1, bc BK241 2, bc BK241 3, bc BK241 4, bc BK241 5, bc BK241 6, bc BK241 7, bc BK241 8, bc BK242 0, bc BK242 1, bc BK242 2, bc BK242 3, bc BK242 4, bc BK242 5⟩ (fun hHeld => ?_)
                  clear hK K
                  refine norm_ (a' := ?_) ?_ ?_
                  rotate_left
                  · show Act.put _ (some 20) _ = _
                    simp only [Act.put, List.setIfInBounds_toArray, List.set_cons_zero, List.set_cons_succ, i64_w, i32_w]
                    rfl
                  exact norm0_ (hJ1_3_5 (gb260) _ ⟨hHeld, (pk BK241), (pk BK242), (pk BK260), GW260.out, GE260.out, NB241_260.out, NB260_241.out, NB242_260.out, NB260_242.out, (by repeat (first | (with_reducible first | exact HB.out | apply below_alloc | apply pw_below_drewN | apply below_drew1 | refine below_set ?_ GE241.out | refine below_set ?_ GE242.out | refine below_set ?_ GE260.out) | exact HB.out))⟩)
                · skip
                  refine box_step ?hg (N := 7) ?hd (cs := #[.int .i64 0, .int .i64 0, .int .i64 0, .int .i64 0, .int .i64 0, .int .i64 0, .int .i64 0, .int .i64 0, .int .i64 0]) (t := 23) ?hr ?_; (case hd => rfl); (case hg => rfl); (case hr => first | (go_simp; done) | (go_simp; rfl))
                  intro gb259 hg w18 hbox hb
                  have BK259 := Aside0.mk (hbox)
                  have GW259 := Aside0.mk ((by rw [hg]; exact (below_size (by repeat (first | (with_reducible first | exact HB.out | apply below_alloc | apply pw_below_drewN | apply below_drew1 | refine below_set ?_ GE241.out | refine below_set ?_ GE242.out | refine below_set ?_ GE260.out) | exact HB.out))) : w.heap.size ≤ gb259))
                  have GE259 := GW259
                  have NB241_259 := Aside0.mk ((ne_lt hg (pk BK241) : gb241 ≠ gb259))
                  have NB259_241 := Aside0.mk ((ne_gt hg (pk BK241) : gb259 ≠ gb241))
                  have NB242_259 := Aside0.mk ((ne_lt hg (pk BK242) : gb242 ≠ gb259))
                  have NB259_242 := Aside0.mk ((ne_gt hg (pk BK242) : gb259 ≠ gb242))
                  have NB260_259 := Aside0.mk ((ne_lt hg (pk BK260) : gb260 ≠ gb259))
                  have NB259_260 := Aside0.mk ((ne_gt hg (pk BK260) : gb259 ≠ gb260))
                  replace BK241 := Aside0.mk (blk_below (g := gb241) (pk BK241) hb)
                  replace BK242 := Aside0.mk (blk_below (g := gb242) (pk BK242) hb)
                  replace BK260 := Aside0.mk (blk_below (g := gb260) (pk BK260) hb)
                  replace HB := Aside0.mk (below_step (by repeat (first | (with_reducible first | exact HB.out | apply below_alloc | apply pw_below_drewN | apply below_drew1 | refine below_set ?_ GE241.out | refine below_set ?_ GE242.out | refine below_set ?_ GE260.out) | exact HB.out)) hb)
                  clear hb hbox hg
                  refine hK.out _ _ ⟨bc BK241 0, bc BK241 1, bc BK241 2, bc BK241 3, bc BK241 4, bc BK241 5, bc BK241 6, bc BK241 7, bc BK241 8, bc BK242 0, bc BK242 1, bc BK242 2, bc BK242 3, bc BK242 4, bc BK242 5⟩ (fun hHeld => ?_)
                  clear hK K
                  refine norm_ (a' := ?_) ?_ ?_
                  rotate_left
                  · show Act.put _ (some 7) _ = _
                    simp only [Act.put, List.setIfInBounds_toArray, List.set_cons_zero, List.set_cons_succ, i64_w, i32_w]
                    rfl
                  exact norm0_ (hJ1_4_5 (gb259, gb260) _ ⟨hHeld, (pk BK241), (pk BK242), (pk BK259), (pk BK260), GW259.out, GE259.out, NB241_259.out, NB259_241.out, NB242_259.out, NB259_242.out, NB260_259.out, NB259_260.out, GW260.out, GE260.out, NB241_260.out, NB260_241.out, NB242_260.out, NB260_242.out, (by repeat (first | (with_reducible first | exact HB.out | apply below_alloc | apply pw_below_drewN | apply below_drew1 | refine below_set ?_ GE241.out | refine below_set ?_ GE242.out | refine below_set ?_ GE260.out | refine below_set ?_ GE259.out) | exact HB.out))⟩)
            · skip
              rintro gb259 w17 ⟨hS_, h0_, h1_, h2_, h3_, h4_, h5_, h6_, h7_, h8_, h9_⟩
              have BK259 := Aside0.mk h2_
              have GW259 : Aside0 (w.heap.size ≤ gb259) := ⟨h3_⟩
              have GE259 : Aside0 (w.heap.size ≤ gb259) := ⟨h4_⟩
              have NB241_259 : Aside0 (gb241 ≠ gb259) := ⟨h5_⟩
              have NB259_241 : Aside0 (gb259 ≠ gb241) := ⟨h6_⟩
              have NB242_259 : Aside0 (gb242 ≠ gb259) := ⟨h7_⟩
              have NB259_242 : Aside0 (gb259 ≠ gb242) := ⟨h8_⟩
              replace BK241 := Aside0.mk h0_
              replace BK242 := Aside0.mk h1_
              replace HB : Aside0 (Below w.heap.size w w17) := ⟨h9_⟩
              clear h0_ h1_ h2_ h3_ h4_ h5_ h6_ h7_ h8_ h9_
              have hHeld := hS_
              refine norm_ (a' := ?_) ?_ ?_
              rotate_left
              · simp only [putAll, Act.put, List.setIfInBounds_toArray, List.set_cons_zero, List.set_cons_succ]
                rfl
              refine two_ (i := 3) (j := 5) (Ni := some 20) (Nj := some 8) #[true, true, true, true, true, false, false, false] #[true, true, true, false, true, true, false, false] rfl rfl rfl rfl (two_of HT_.out (by kernel_rfl)) (by decide) (by decide) (fun K hK => ?_) (fun K hK => ?_)
              · skip
                refine goes_ Try.func15 (by kernel_rfl) rfl #[.agg #[.string a1_0, .int .i64 a1_1, .int .i64 a1_2, .int .i64 a1_3, .int .i64 a1_4, .int .i64 a1_5], .int .i64 0] (by rfl) rfl rfl (by (try simp only [List.map_toArray, List.map_cons, List.map_nil]); first | done | rfl | (simp only [List.length_drop, List.length_take]; rfl)) ?_
                with_reducible refine (damperlaw2_Config.calls a1_0 a1_1 a1_2 a1_3 a1_4 a1_5 0 t253 t254 t255 t256 t257 t258 _ A7.out).mono ?_
                rintro e w18 ⟨rfl, hb⟩
                refine ⟨_, rfl, ?_⟩
                replace BK241 := Aside0.mk (blk_below (g := gb241) (pk BK241) hb)
                replace BK242 := Aside0.mk (blk_below (g := gb242) (pk BK242) hb)
                replace BK259 := Aside0.mk (blk_below (g := gb259) (pk BK259) hb)
                replace HB := Aside0.mk (below_step (by repeat (first | (with_reducible first | exact HB.out | apply below_alloc | apply pw_below_drewN | apply below_drew1 | refine below_set ?_ GE241.out | refine below_set ?_ GE242.out | refine below_set ?_ GE259.out) | exact HB.out)) hb)
                (try clear hb)
                (try clear hb2)
                (try clear hk)
                (try clear hi)
                refine hK.out _ _ ⟨bc BK241 0, bc BK241 1, bc BK241 2, bc BK241 3, bc BK241 4, bc BK241 5, bc BK241 6, bc BK241 7, bc BK241 8, bc BK242 0, bc BK242 1, bc BK242 2, bc BK242 3, bc BK242 4, bc BK242 5⟩ (fun hHeld => ?_)
                clear hK K
                refine norm_ (a' := ?_) ?_ ?_
                rotate_left
                · show Act.put _ (some 20) _ = _
                  simp only [Act.put, List.setIfInBounds_toArray, List.set_cons_zero, List.set_cons_succ, i64_w, i32_w]
                  rfl
                exact norm0_ (hJ1_3_4 (gb259) _ ⟨hHeld, (pk BK241), (pk BK242), (pk BK259), GW259.out, GE259.out, NB241_259.out, NB259_241.out, NB242_259.out, NB259_242.out, (by repeat (first | (with_reducible first | exact HB.out | apply below_alloc | apply pw_below_drewN | apply below_drew1 | refine below_set ?_ GE241.out | refine below_set ?_ GE242.out | refine below_set ?_ GE259.out) | exact HB.out))⟩)
              · skip
                refine box_step ?hg (N := 8) ?hd (cs := #[.string (⟨#[]⟩ : ByteArray), .int .i64 0, .int .i64 0, .int .i64 0, .int .i64 0, .int .i64 0]) (t := 25) ?hr ?_; (case hd => rfl); (case hg => rfl); (case hr => first | (go_simp; done) | (go_simp; rfl))
                intro gb260 hg w18 hbox hb
                have BK260 := Aside0.mk (hbox)
                have GW260 := Aside0.mk ((by rw [hg]; exact (below_size (by repeat (first | (with_reducible first | exact HB.out | apply below_alloc | apply pw_below_drewN | apply below_drew1 | refine below_set ?_ GE241.out | refine below_set ?_ GE242.out | refine below_set ?_ GE259.out) | exact HB.out))) : w.heap.size ≤ gb260))
                have GE260 := GW260
                have NB241_260 := Aside0.mk ((ne_lt hg (pk BK241) : gb241 ≠ gb260))
                have NB260_241 := Aside0.mk ((ne_gt hg (pk BK241) : gb260 ≠ gb241))
                have NB242_260 := Aside0.mk ((ne_lt hg (pk BK242) : gb242 ≠ gb260))
                have NB260_242 := Aside0.mk ((ne_gt hg (pk BK242) : gb260 ≠ gb242))
                have NB259_260 := Aside0.mk ((ne_lt hg (pk BK259) : gb259 ≠ gb260))
                have NB260_259 := Aside0.mk ((ne_gt hg (pk BK259) : gb260 ≠ gb259))
                replace BK241 := Aside0.mk (blk_below (g := gb241) (pk BK241) hb)
                replace BK242 := Aside0.mk (blk_below (g := gb242) (pk BK242) hb)
                replace BK259 := Aside0.mk (blk_below (g := gb259) (pk BK259) hb)
                replace HB := Aside0.mk (below_step (by repeat (first | (with_reducible first | exact HB.out | apply below_alloc | apply pw_below_drewN | apply below_drew1 | refine below_set ?_ GE241.out | refine below_set ?_ GE242.out | refine below_set ?_ GE259.out) | exact HB.out)) hb)
                clear hb hbox hg
                refine hK.out _ _ ⟨bc BK241 0, bc BK241 1, bc BK241 2, bc BK241 3, bc BK241 4, bc BK241 5, bc BK241 6, bc BK241 7, bc BK241 8, bc BK242 0, bc BK242 1, bc BK242 2, bc BK242 3, bc BK242 4, bc BK242 5⟩ (fun hHeld => ?_)
                clear hK K
                refine norm_ (a' := ?_) ?_ ?_
                rotate_left
                · show Act.put _ (some 8) _ = _
                  simp only [Act.put, List.setIfInBounds_toArray, List.set_cons_zero, List.set_cons_succ, i64_w, i32_w]
                  rfl
                exact norm0_ (hJ1_4_5 (gb259, gb260) _ ⟨hHeld, (pk BK241), (pk BK242), (pk BK259), (pk BK260), GW259.out, GE259.out, NB241_259.out, NB259_241.out, NB242_259.out, NB259_242.out, NB260_259.out, NB259_260.out, GW260.out, GE260.out, NB241_260.out, NB260_241.out, NB242_260.out, NB260_242.out, (by repeat (first | (with_reducible first | exact HB.out | apply below_alloc | apply pw_below_drewN | apply below_drew1 | refine below_set ?_ GE241.out | refine below_set ?_ GE242.out | refine below_set ?_ GE259.out | refine below_set ?_ GE260.out) | exact HB.out))⟩)
          · skip
            rintro _ w17 ⟨hS_, h0_, h1_, h2_⟩
            replace BK241 := Aside0.mk h0_
            replace BK242 := Aside0.mk h1_
            replace HB : Aside0 (Below w.heap.size w w17) := ⟨h2_⟩
            clear h0_ h1_ h2_
            have hHeld := hS_
            refine norm_ (a' := ?_) ?_ ?_
            rotate_left
            · simp only [putAll, Act.put, List.setIfInBounds_toArray, List.set_cons_zero, List.set_cons_succ]
              rfl
            refine two_ (i := 4) (j := 5) (Ni := some 7) (Nj := some 8) #[true, true, true, true, true, false, false, false] #[true, true, true, true, false, true, false, false] rfl rfl rfl rfl (two_of HT_.out (by kernel_rfl)) (by decide) (by decide) (fun K hK => ?_) (fun K hK => ?_)
            · skip
              refine box_step ?hg (N := 7) ?hd (cs := #[.int .i64 0, .int .i64 0, .int .i64 0, .int .i64 0, .int .i64 0, .int .i64 0, .int .i64 0, .int .i64 0, .int .i64 0]) (t := 23) ?hr ?_; (case hd => rfl); (case hg => rfl); (case hr => first | (go_simp; done) | (go_simp; rfl))
              intro gb259 hg w18 hbox hb
              have BK259 := Aside0.mk (hbox)
              have GW259 := Aside0.mk ((by rw [hg]; exact (below_size (by repeat (first | (with_reducible first | exact HB.out | apply below_alloc | apply pw_below_drewN | apply below_drew1 | refine below_set ?_ GE241.out | refine below_set ?_ GE242.out) | exact HB.out))) : w.heap.size ≤ gb259))
              have GE259 := GW259
              have NB241_259 := Aside0.mk ((ne_lt hg (pk BK241) : gb241 ≠ gb259))
              have NB259_241 := Aside0.mk ((ne_gt hg (pk BK241) : gb259 ≠ gb241))
              have NB242_259 := Aside0.mk ((ne_lt hg (pk BK242) : gb242 ≠ gb259))
              have NB259_242 := Aside0.mk ((ne_gt hg (pk BK242) : gb259 ≠ gb242))
              replace BK241 := Aside0.mk (blk_below (g := gb241) (pk BK241) hb)
              replace BK242 := Aside0.mk (blk_below (g := gb242) (pk BK242) hb)
              replace HB := Aside0.mk (below_step (by repeat (first | (with_reducible first | exact HB.out | apply below_alloc | apply pw_below_drewN | apply below_drew1 | refine below_set ?_ GE241.out | refine below_set ?_ GE242.out) | exact HB.out)) hb)
              clear hb hbox hg
              refine hK.out _ _ ⟨bc BK241 0, bc BK241 1, bc BK241 2, bc BK241 3, bc BK241 4, bc BK241 5, bc BK241 6, bc BK241 7, bc BK241 8, bc BK242 0, bc BK242 1, bc BK242 2, bc BK242 3, bc BK242 4, bc BK242 5⟩ (fun hHeld => ?_)
              clear hK K
              refine norm_ (a' := ?_) ?_ ?_
              rotate_left
              · show Act.put _ (some 7) _ = _
                simp only [Act.put, List.setIfInBounds_toArray, List.set_cons_zero, List.set_cons_succ, i64_w, i32_w]
                rfl
              exact norm0_ (hJ1_3_4 (gb259) _ ⟨hHeld, (pk BK241), (pk BK242), (pk BK259), GW259.out, GE259.out, NB241_259.out, NB259_241.out, NB242_259.out, NB259_242.out, (by repeat (first | (with_reducible first | exact HB.out | apply below_alloc | apply pw_below_drewN | apply below_drew1 | refine below_set ?_ GE241.out | refine below_set ?_ GE242.out | refine below_set ?_ GE259.out) | exact HB.out))⟩)
            · skip
              refine box_step ?hg (N := 8) ?hd (cs := #[.string (⟨#[]⟩ : ByteArray), .int .i64 0, .int .i64 0, .int .i64 0, .int .i64 0, .int .i64 0]) (t := 25) ?hr ?_; (case hd => rfl); (case hg => rfl); (case hr => first | (go_simp; done) | (go_simp; rfl))
              intro gb260 hg w18 hbox hb
              have BK260 := Aside0.mk (hbox)
              have GW260 := Aside0.mk ((by rw [hg]; exact (below_size (by repeat (first | (with_reducible first | exact HB.out | apply below_alloc | apply pw_below_drewN | apply below_drew1 | refine below_set ?_ GE241.out | refine below_set ?_ GE242.out) | exact HB.out))) : w.heap.size ≤ gb260))
              have GE260 := GW260
              have NB241_260 := Aside0.mk ((ne_lt hg (pk BK241) : gb241 ≠ gb260))
              have NB260_241 := Aside0.mk ((ne_gt hg (pk BK241) : gb260 ≠ gb241))
              have NB242_260 := Aside0.mk ((ne_lt hg (pk BK242) : gb242 ≠ gb260))
              have NB260_242 := Aside0.mk ((ne_gt hg (pk BK242) : gb260 ≠ gb242))
              replace BK241 := Aside0.mk (blk_below (g := gb241) (pk BK241) hb)
              replace BK242 := Aside0.mk (blk_below (g := gb242) (pk BK242) hb)
              replace HB := Aside0.mk (below_step (by repeat (first | (with_reducible first | exact HB.out | apply below_alloc | apply pw_below_drewN | apply below_drew1 | refine below_set ?_ GE241.out | refine below_set ?_ GE242.out) | exact HB.out)) hb)
              clear hb hbox hg
              refine hK.out _ _ ⟨bc BK241 0, bc BK241 1, bc BK241 2, bc BK241 3, bc BK241 4, bc BK241 5, bc BK241 6, bc BK241 7, bc BK241 8, bc BK242 0, bc BK242 1, bc BK242 2, bc BK242 3, bc BK242 4, bc BK242 5⟩ (fun hHeld => ?_)
              clear hK K
              refine norm_ (a' := ?_) ?_ ?_
              rotate_left
              · show Act.put _ (some 8) _ = _
                simp only [Act.put, List.setIfInBounds_toArray, List.set_cons_zero, List.set_cons_succ, i64_w, i32_w]
                rfl
              exact norm0_ (hJ1_3_5 (gb260) _ ⟨hHeld, (pk BK241), (pk BK242), (pk BK260), GW260.out, GE260.out, NB241_260.out, NB260_241.out, NB242_260.out, NB260_242.out, (by repeat (first | (with_reducible first | exact HB.out | apply below_alloc | apply pw_below_drewN | apply below_drew1 | refine below_set ?_ GE241.out | refine below_set ?_ GE242.out | refine below_set ?_ GE260.out) | exact HB.out))⟩)
        · skip
          rintro ⟨gb259, gb260⟩ w18 ⟨hS_, h0_, h1_, h2_, h3_, h4_, h5_, h6_, h7_, h8_, h9_, h10_, h11_, h12_, h13_, h14_, h15_, h16_, h17_, h18_⟩
          have BK259 : Aside0 (w18.heap[gb259]? = some (.cells #[.int .i64 0, .int .i64 0, .int .i64 0, .int .i64 0, .int .i64 0, .int .i64 0, .int .i64 0, .int .i64 0, .int .i64 0] 23 (0, 0))) := ⟨h2_⟩
          have BK260 : Aside0 (w18.heap[gb260]? = some (.cells #[.string (⟨#[]⟩ : ByteArray), .int .i64 0, .int .i64 0, .int .i64 0, .int .i64 0, .int .i64 0] 25 (0, 0))) := ⟨h3_⟩
          have GW259 : Aside0 (w.heap.size ≤ gb259) := ⟨h4_⟩
          have GE259 : Aside0 (w.heap.size ≤ gb259) := ⟨h5_⟩
          have NB241_259 : Aside0 (gb241 ≠ gb259) := ⟨h6_⟩
          have NB259_241 : Aside0 (gb259 ≠ gb241) := ⟨h7_⟩
          have NB242_259 : Aside0 (gb242 ≠ gb259) := ⟨h8_⟩
          have NB259_242 : Aside0 (gb259 ≠ gb242) := ⟨h9_⟩
          have NB260_259 : Aside0 (gb260 ≠ gb259) := ⟨h10_⟩
          have NB259_260 : Aside0 (gb259 ≠ gb260) := ⟨h11_⟩
          have GW260 : Aside0 (w.heap.size ≤ gb260) := ⟨h12_⟩
          have GE260 : Aside0 (w.heap.size ≤ gb260) := ⟨h13_⟩
          have NB241_260 : Aside0 (gb241 ≠ gb260) := ⟨h14_⟩
          have NB260_241 : Aside0 (gb260 ≠ gb241) := ⟨h15_⟩
          have NB242_260 : Aside0 (gb242 ≠ gb260) := ⟨h16_⟩
          have NB260_242 : Aside0 (gb260 ≠ gb242) := ⟨h17_⟩
          replace BK241 := Aside0.mk h0_
          replace BK242 := Aside0.mk h1_
          replace HB : Aside0 (Below w.heap.size w w18) := ⟨h18_⟩
          clear h0_ h1_ h2_ h3_ h4_ h5_ h6_ h7_ h8_ h9_ h10_ h11_ h12_ h13_ h14_ h15_ h16_ h17_ h18_
          have hHeld := hS_
          refine norm_ (a' := ?_) ?_ ?_
          rotate_left
          · simp only [putAll, Act.put, List.setIfInBounds_toArray, List.set_cons_zero, List.set_cons_succ]
            rfl
          refine one_ (i := 3) (N := some 20) #[true, true, true, true, true, true, false, false] rfl rfl (one_of HT_.out (by kernel_rfl)) (by decide) (fun K hK => ?_)
          refine goes_ Try.func15 (by kernel_rfl) rfl #[.agg #[.string a1_0, .int .i64 a1_1, .int .i64 a1_2, .int .i64 a1_3, .int .i64 a1_4, .int .i64 a1_5], .int .i64 0] (by rfl) rfl rfl (by (try simp only [List.map_toArray, List.map_cons, List.map_nil]); first | done | rfl | (simp only [List.length_drop, List.length_take]; rfl)) ?_
          with_reducible refine (damperlaw2_Config.calls a1_0 a1_1 a1_2 a1_3 a1_4 a1_5 0 t253 t254 t255 t256 t257 t258 _ A7.out).mono ?_
          rintro e w19 ⟨rfl, hb⟩
          refine ⟨_, rfl, ?_⟩
          replace BK241 := Aside0.mk (blk_below (g := gb241) (pk BK241) hb)
          replace BK242 := Aside0.mk (blk_below (g := gb242) (pk BK242) hb)
          replace BK259 := Aside0.mk (blk_below (g := gb259) (pk BK259) hb)
          replace BK260 := Aside0.mk (blk_below (g := gb260) (pk BK260) hb)
          replace HB := Aside0.mk (below_step (by repeat (first | (with_reducible first | exact HB.out | apply below_alloc | apply pw_below_drewN | apply below_drew1 | refine below_set ?_ GE241.out | refine below_set ?_ GE242.out | refine below_set ?_ GE259.out | refine below_set ?_ GE260.out) | exact HB.out)) hb)
          (try clear hb)
          (try clear hb2)
          (try clear hk)
          (try clear hi)
          refine hK.out _ _ ⟨bc BK241 0, bc BK241 1, bc BK241 2, bc BK241 3, bc BK241 4, bc BK241 5, bc BK241 6, bc BK241 7, bc BK241 8, bc BK242 0, bc BK242 1, bc BK242 2, bc BK242 3, bc BK242 4, bc BK242 5⟩ (fun hHeld => ?_)
          clear hK K
          refine norm_ (a' := ?_) ?_ ?_
          rotate_left
          · show Act.put _ (some 20) _ = _
            simp only [Act.put, List.setIfInBounds_toArray, List.set_cons_zero, List.set_cons_succ, i64_w, i32_w]
            rfl
          exact norm0_ (hJ1_3_4_5 (gb259, gb260) _ ⟨hHeld, (pk BK241), (pk BK242), (pk BK259), (pk BK260), GW259.out, GE259.out, NB241_259.out, NB259_241.out, NB242_259.out, NB259_242.out, NB260_259.out, NB259_260.out, GW260.out, GE260.out, NB241_260.out, NB260_241.out, NB242_260.out, NB260_242.out, (by repeat (first | (with_reducible first | exact HB.out | apply below_alloc | apply pw_below_drewN | apply below_drew1 | refine below_set ?_ GE241.out | refine below_set ?_ GE242.out | refine below_set ?_ GE259.out | refine below_set ?_ GE260.out) | exact HB.out))⟩)
      · skip
        rintro gb260 w18 ⟨hS_, h0_, h1_, h2_, h3_, h4_, h5_, h6_, h7_, h8_, h9_⟩
        have BK260 := Aside0.mk h2_
        have GW260 : Aside0 (w.heap.size ≤ gb260) := ⟨h3_⟩
        have GE260 : Aside0 (w.heap.size ≤ gb260) := ⟨h4_⟩
        have NB241_260 : Aside0 (gb241 ≠ gb260) := ⟨h5_⟩
        have NB260_241 : Aside0 (gb260 ≠ gb241) := ⟨h6_⟩
        have NB242_260 : Aside0 (gb242 ≠ gb260) := ⟨h7_⟩
        have NB260_242 : Aside0 (gb260 ≠ gb242) := ⟨h8_⟩
        replace BK241 := Aside0.mk h0_
        replace BK242 := Aside0.mk h1_
        replace HB : Aside0 (Below w.heap.size w w18) := ⟨h9_⟩
        clear h0_ h1_ h2_ h3_ h4_ h5_ h6_ h7_ h8_ h9_
        have hHeld := hS_
        refine norm_ (a' := ?_) ?_ ?_
        rotate_left
        · simp only [putAll, Act.put, List.setIfInBounds_toArray, List.set_cons_zero, List.set_cons_succ]
          rfl
        refine one_ (i := 4) (N := some 7) #[true, true, true, true, true, true, false, false] rfl rfl (one_of HT_.out (by kernel_rfl)) (by decide) (fun K hK => ?_)
        refine box_step ?hg (N := 7) ?hd (cs := #[.int .i64 0, .int .i64 0, .int .i64 0, .int .i64 0, .int .i64 0, .int .i64 0, .int .i64 0, .int .i64 0, .int .i64 0]) (t := 23) ?hr ?_; (case hd => rfl); (case hg => rfl); (case hr => first | (go_simp; done) | (go_simp; rfl))
        intro gb259 hg w19 hbox hb
        have BK259 := Aside0.mk (hbox)
        have GW259 := Aside0.mk ((by rw [hg]; exact (below_size (by repeat (first | (with_reducible first | exact HB.out | apply below_alloc | apply pw_below_drewN | apply below_drew1 | refine below_set ?_ GE241.out | refine below_set ?_ GE242.out | refine below_set ?_ GE260.out) | exact HB.out))) : w.heap.size ≤ gb259))
        have GE259 := GW259
        have NB241_259 := Aside0.mk ((ne_lt hg (pk BK241) : gb241 ≠ gb259))
        have NB259_241 := Aside0.mk ((ne_gt hg (pk BK241) : gb259 ≠ gb241))
        have NB242_259 := Aside0.mk ((ne_lt hg (pk BK242) : gb242 ≠ gb259))
        have NB259_242 := Aside0.mk ((ne_gt hg (pk BK242) : gb259 ≠ gb242))
        have NB260_259 := Aside0.mk ((ne_lt hg (pk BK260) : gb260 ≠ gb259))
        have NB259_260 := Aside0.mk ((ne_gt hg (pk BK260) : gb259 ≠ gb260))
        replace BK241 := Aside0.mk (blk_below (g := gb241) (pk BK241) hb)
        replace BK242 := Aside0.mk (blk_below (g := gb242) (pk BK242) hb)
        replace BK260 := Aside0.mk (blk_below (g := gb260) (pk BK260) hb)
        replace HB := Aside0.mk (below_step (by repeat (first | (with_reducible first | exact HB.out | apply below_alloc | apply pw_below_drewN | apply below_drew1 | refine below_set ?_ GE241.out | refine below_set ?_ GE242.out | refine below_set ?_ GE260.out) | exact HB.out)) hb)
        clear hb hbox hg
        refine hK.out _ _ ⟨bc BK241 0, bc BK241 1, bc BK241 2, bc BK241 3, bc BK241 4, bc BK241 5, bc BK241 6, bc BK241 7, bc BK241 8, bc BK242 0, bc BK242 1, bc BK242 2, bc BK242 3, bc BK242 4, bc BK242 5⟩ (fun hHeld => ?_)
        clear hK K
        refine norm_ (a' := ?_) ?_ ?_
        rotate_left
        · show Act.put _ (some 7) _ = _
          simp only [Act.put, List.setIfInBounds_toArray, List.set_cons_zero, List.set_cons_succ, i64_w, i32_w]
          rfl
        exact norm0_ (hJ1_3_4_5 (gb259, gb260) _ ⟨hHeld, (pk BK241), (pk BK242), (pk BK259), (pk BK260), GW259.out, GE259.out, NB241_259.out, NB259_241.out, NB242_259.out, NB259_242.out, NB260_259.out, NB259_260.out, GW260.out, GE260.out, NB241_260.out, NB260_241.out, NB242_260.out, NB260_242.out, (by repeat (first | (with_reducible first | exact HB.out | apply below_alloc | apply pw_below_drewN | apply below_drew1 | refine below_set ?_ GE241.out | refine below_set ?_ GE242.out | refine below_set ?_ GE260.out | refine below_set ?_ GE259.out) | exact HB.out))⟩)
    · skip
      rintro gb259 w18 ⟨hS_, h0_, h1_, h2_, h3_, h4_, h5_, h6_, h7_, h8_, h9_⟩
      have BK259 := Aside0.mk h2_
      have GW259 : Aside0 (w.heap.size ≤ gb259) := ⟨h3_⟩
      have GE259 : Aside0 (w.heap.size ≤ gb259) := ⟨h4_⟩
      have NB241_259 : Aside0 (gb241 ≠ gb259) := ⟨h5_⟩
      have NB259_241 : Aside0 (gb259 ≠ gb241) := ⟨h6_⟩
      have NB242_259 : Aside0 (gb242 ≠ gb259) := ⟨h7_⟩
      have NB259_242 : Aside0 (gb259 ≠ gb242) := ⟨h8_⟩
      replace BK241 := Aside0.mk h0_
      replace BK242 := Aside0.mk h1_
      replace HB : Aside0 (Below w.heap.size w w18) := ⟨h9_⟩
      clear h0_ h1_ h2_ h3_ h4_ h5_ h6_ h7_ h8_ h9_
      have hHeld := hS_
      refine norm_ (a' := ?_) ?_ ?_
      rotate_left
      · simp only [putAll, Act.put, List.setIfInBounds_toArray, List.set_cons_zero, List.set_cons_succ]
        rfl
      refine one_ (i := 5) (N := some 8) #[true, true, true, true, true, true, false, false] rfl rfl (one_of HT_.out (by kernel_rfl)) (by decide) (fun K hK => ?_)
      refine box_step ?hg (N := 8) ?hd (cs := #[.string (⟨#[]⟩ : ByteArray), .int .i64 0, .int .i64 0, .int .i64 0, .int .i64 0, .int .i64 0]) (t := 25) ?hr ?_; (case hd => rfl); (case hg => rfl); (case hr => first | (go_simp; done) | (go_simp; rfl))
      intro gb260 hg w19 hbox hb
      have BK260 := Aside0.mk (hbox)
      have GW260 := Aside0.mk ((by rw [hg]; exact (below_size (by repeat (first | (with_reducible first | exact HB.out | apply below_alloc | apply pw_below_drewN | apply below_drew1 | refine below_set ?_ GE241.out | refine below_set ?_ GE242.out | refine below_set ?_ GE259.out) | exact HB.out))) : w.heap.size ≤ gb260))
      have GE260 := GW260
      have NB241_260 := Aside0.mk ((ne_lt hg (pk BK241) : gb241 ≠ gb260))
      have NB260_241 := Aside0.mk ((ne_gt hg (pk BK241) : gb260 ≠ gb241))
      have NB242_260 := Aside0.mk ((ne_lt hg (pk BK242) : gb242 ≠ gb260))
      have NB260_242 := Aside0.mk ((ne_gt hg (pk BK242) : gb260 ≠ gb242))
      have NB259_260 := Aside0.mk ((ne_lt hg (pk BK259) : gb259 ≠ gb260))
      have NB260_259 := Aside0.mk ((ne_gt hg (pk BK259) : gb260 ≠ gb259))
      replace BK241 := Aside0.mk (blk_below (g := gb241) (pk BK241) hb)
      replace BK242 := Aside0.mk (blk_below (g := gb242) (pk BK242) hb)
      replace BK259 := Aside0.mk (blk_below (g := gb259) (pk BK259) hb)
      replace HB := Aside0.mk (below_step (by repeat (first | (with_reducible first | exact HB.out | apply below_alloc | apply pw_below_drewN | apply below_drew1 | refine below_set ?_ GE241.out | refine below_set ?_ GE242.out | refine below_set ?_ GE259.out) | exact HB.out)) hb)
      clear hb hbox hg
      refine hK.out _ _ ⟨bc BK241 0, bc BK241 1, bc BK241 2, bc BK241 3, bc BK241 4, bc BK241 5, bc BK241 6, bc BK241 7, bc BK241 8, bc BK242 0, bc BK242 1, bc BK242 2, bc BK242 3, bc BK242 4, bc BK242 5⟩ (fun hHeld => ?_)
      clear hK K
      refine norm_ (a' := ?_) ?_ ?_
      rotate_left
      · show Act.put _ (some 8) _ = _
        simp only [Act.put, List.setIfInBounds_toArray, List.set_cons_zero, List.set_cons_succ, i64_w, i32_w]
        rfl
      exact norm0_ (hJ1_3_4_5 (gb259, gb260) _ ⟨hHeld, (pk BK241), (pk BK242), (pk BK259), (pk BK260), GW259.out, GE259.out, NB241_259.out, NB259_241.out, NB242_259.out, NB259_242.out, NB260_259.out, NB259_260.out, GW260.out, GE260.out, NB241_260.out, NB260_241.out, NB242_260.out, NB260_242.out, (by repeat (first | (with_reducible first | exact HB.out | apply below_alloc | apply pw_below_drewN | apply below_drew1 | refine below_set ?_ GE241.out | refine below_set ?_ GE242.out | refine below_set ?_ GE259.out | refine below_set ?_ GE260.out) | exact HB.out))⟩)
  · replace c5 := Bool.eq_false_iff.mpr c5
    subst c5
    have H1 : (some false) = some r := by rw [if_neg (show ¬ (false = true) by decide)] at H; exact H
    clear H
    have H := H1
    clear H1
    exact absurd (Option.some.inj H) (by rw [hr0_.out]; decide)

/-- THE ONE PURE STATEMENT of damperlaw10_ScalePanic: yours. -/
def damperlaw10_ScalePanic.Pure : Prop := ∀ (a0_0 : Int) (a0_1 : Int) (a0_2 : Int) (a0_3 : Int) (a0_4 : Int) (a0_5 : Int) (a0_6 : Int) (a0_7 : Int) (a0_8 : Int) (a1_0 : ByteArray) (a1_1 : Int) (a1_2 : Int) (a1_3 : Int) (a1_4 : Int) (a1_5 : Int) (a2 : Int), ((Lit.int .i64 a0_0).wf = true) → ((Lit.int .i64 a0_1).wf = true) → ((Lit.int .i64 a0_2).wf = true) → ((Lit.int .i64 a0_3).wf = true) → ((Lit.int .i64 a0_4).wf = true) → ((Lit.int .i64 a0_5).wf = true) → ((Lit.int .i64 a0_6).wf = true) → ((Lit.int .i64 a0_7).wf = true) → ((Lit.int .i64 a0_8).wf = true) → (a1_0.size ≤ maxLen) → ((Lit.int .i64 a1_1).wf = true) → ((Lit.int .i64 a1_2).wf = true) → ((Lit.int .i64 a1_3).wf = true) → ((Lit.int .i64 a1_4).wf = true) → ((Lit.int .i64 a1_5).wf = true) → ((Lit.int .i64 a2).wf = true) → ∃ k, damperlaw10_ScalePanic.f k a0_0 a0_1 a0_2 a0_3 a0_4 a0_5 a0_6 a0_7 a0_8 a1_0 a1_1 a1_2 a1_3 a1_4 a1_5 a2 = some true
theorem damperlaw10_ScalePanic.walk (P : damperlaw10_ScalePanic.Pure) (a0_0 : Int) (a0_1 : Int) (a0_2 : Int) (a0_3 : Int) (a0_4 : Int) (a0_5 : Int) (a0_6 : Int) (a0_7 : Int) (a0_8 : Int) (a1_0 : ByteArray) (a1_1 : Int) (a1_2 : Int) (a1_3 : Int) (a1_4 : Int) (a1_5 : Int) (a2 : Int) (w : World) (w0_0 : (Lit.int .i64 a0_0).wf = true) (w0_1 : (Lit.int .i64 a0_1).wf = true) (w0_2 : (Lit.int .i64 a0_2).wf = true) (w0_3 : (Lit.int .i64 a0_3).wf = true) (w0_4 : (Lit.int .i64 a0_4).wf = true) (w0_5 : (Lit.int .i64 a0_5).wf = true) (w0_6 : (Lit.int .i64 a0_6).wf = true) (w0_7 : (Lit.int .i64 a0_7).wf = true) (w0_8 : (Lit.int .i64 a0_8).wf = true) (w1_0 : a1_0.size ≤ maxLen) (w1_1 : (Lit.int .i64 a1_1).wf = true) (w1_2 : (Lit.int .i64 a1_2).wf = true) (w1_3 : (Lit.int .i64 a1_3).wf = true) (w1_4 : (Lit.int .i64 a1_4).wf = true) (w1_5 : (Lit.int .i64 a1_5).wf = true) (w2 : (Lit.int .i64 a2).wf = true)  :
    Calls Try.prog 6 #[.agg #[.int .i64 a0_0, .int .i64 a0_1, .int .i64 a0_2, .int .i64 a0_3, .int .i64 a0_4, .int .i64 a0_5, .int .i64 a0_6, .int .i64 a0_7, .int .i64 a0_8], .agg #[.string a1_0, .int .i64 a1_1, .int .i64 a1_2, .int .i64 a1_3, .int .i64 a1_4, .int .i64 a1_5], .int .i64 a2] w fun e w' => e = .returned (.bool true) ∧ Below w.heap.size w w' := by
  obtain ⟨k, h⟩ := P a0_0 a0_1 a0_2 a0_3 a0_4 a0_5 a0_6 a0_7 a0_8 a1_0 a1_1 a1_2 a1_3 a1_4 a1_5 a2 w0_0 w0_1 w0_2 w0_3 w0_4 w0_5 w0_6 w0_7 w0_8 w1_0 w1_1 w1_2 w1_3 w1_4 w1_5 w2
  refine (damperlaw10_ScalePanic.calls k a0_0 a0_1 a0_2 a0_3 a0_4 a0_5 a0_6 a0_7 a0_8 a1_0 a1_1 a1_2 a1_3 a1_4 a1_5 a2 true w ⟨rfl⟩ h).mono ?_
  rintro e w' ⟨rfl, hd⟩
  exact ⟨rfl, hd⟩

end Go.Proofs.Ytlikdmeickbigaa.Ma
