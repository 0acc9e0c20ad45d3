-- Written by a program of this session (wip/tools/myprint.py), in the form of the kit's print. Not trusted: Lean checks it.
import Derived.Test.YtlikdmeickbigaaMax0
import Derived.Test.YtlikdmeickbigaaMax2
import Derived.Test.YtlikdmeickbigaaMax7
import Derived.Test.YtlikdmeickbigaaMax8
import Derived.Test.YtlikdmeickbigaaMax9
import Derived.Test.YtlikdmeickbigaaMax11
import Derived.Test.YtlikdmeickbigaaMax12
import Derived.Test.YtlikdmeickbigaaMax13
import Derived.Test.YtlikdmeickbigaaMax14
namespace Go.Proofs.Ytlikdmeickbigaa.Ma
open Go.RowKit Go.Proofs.YtlikdmeickbigaaW.PrintWords Go.Proofs.YtlikdmeickbigaaW.PrintLast Go.Proofs.YtlikdmeickbigaaW.PrintMore
attribute [local go_sem] max2_int min2_int max_two min_two max_three min_three max_four min_four   -- for this text's walks alone
set_option linter.unusedVariables false
set_option linter.unusedSimpArgs false

/-! ### damperlaw10_ScaleDecides: function 3 -/
def damperlaw10_ScaleDecides.j0 : Nat → Int → Int → Int → ByteArray → Int → Int → Int → Int → Int → Int → Int → Int → Int → Option (Bool)
  | 0, _, _, _, _, _, _, _, _, _, _, _, _, _ => none
  | k + 1, x3, x13, x14, x180000, x180001, x180002, x180003, x180004, x180005, x183000, x183001, x186000, x186001 => if x183000 = x186000 then (if x183001 = x186001 then ((scale_Need.f x13 x14 x180002).bind fun t188 => ((damperref10_Need.f x13 x14 x180002).bind fun t189 => (if t188 = t189 then ((damperlaw10_within.f x3 9).bind fun t190 => ((scale_Need.f x13 t190 x180002).bind fun t191 => ((damperlaw10_within.f x3 9).bind fun t192 => ((damperref10_Need.f x13 t192 x180002).bind fun t193 => (some (t191 == t193)))))) else (some false)))) else (some false)) else (some false)
def damperlaw10_ScaleDecides.f (k : Nat) (a0_0 : Int) (a0_1 : Int) (a0_2 : Int) (a0_3 : Int) (a0_4 : Int) (a0_5 : Int) (a0_6 : Int) (a0_7 : Int) (a0_8 : Int) (a1_0 : ByteArray) (a1_1 : Int) (a1_2 : Int) (a1_3 : Int) (a1_4 : Int) (a1_5 : Int) (a2 : Int) (a3 : Int) : Option (Bool) := (damperlaw10_known.f k).bind fun t162 => (if t162 = true then ((damperlaw10_Given_Make.f a0_0 a0_1 a0_2 a0_3 a0_4 a0_5 a0_6 a0_7 a0_8).bind fun bt163 => ((damperlaw2_Config.f a1_0 a1_1 a1_2 a1_3 a1_4 a1_5 0).bind fun bt172 => ((damperlaw10_decide.f k bt163.1 bt163.2.1 bt163.2.2.1 bt163.2.2.2.1 bt163.2.2.2.2.1 bt163.2.2.2.2.2.1 bt163.2.2.2.2.2.2.1 bt163.2.2.2.2.2.2.2.1 bt163.2.2.2.2.2.2.2.2 bt172.1 bt172.2.1 bt172.2.2.1 bt172.2.2.2.1 bt172.2.2.2.2.1 bt172.2.2.2.2.2).bind fun bt180 => ((damperref10_Decide.f k bt163.1 bt163.2.1 bt172.1 bt172.2.1 bt172.2.2.1 bt172.2.2.2.1 bt172.2.2.2.2.1 bt172.2.2.2.2.2 bt163.2.2.1 bt163.2.2.2.1 bt163.2.2.2.2.1 bt163.2.2.2.2.2.1 bt163.2.2.2.2.2.2.1 bt163.2.2.2.2.2.2.2.1 bt163.2.2.2.2.2.2.2.2).bind fun bt183 => ((damperlaw10_within.f a2 10000001).bind fun t186 => ((damperlaw10_within.f a3 10000001).bind fun t187 => (damperlaw10_ScaleDecides.j0 k a3 t186 t187 bt172.1 bt172.2.1 bt172.2.2.1 bt172.2.2.2.1 bt172.2.2.2.2.1 bt172.2.2.2.2.2 bt180.1 bt180.2 bt183.1 bt183.2))))))) else (some false))
theorem damperlaw10_ScaleDecides.mono_l : ∀ k, (∀ y0 y1 y2 y3 y4 y5 y6 y7 y8 y9 y10 y11 y12, LeO (damperlaw10_ScaleDecides.j0 k y0 y1 y2 y3 y4 y5 y6 y7 y8 y9 y10 y11 y12) (damperlaw10_ScaleDecides.j0 (k + 1) y0 y1 y2 y3 y4 y5 y6 y7 y8 y9 y10 y11 y12))
  | 0 => fun _ _ _ _ _ _ _ _ _ _ _ _ _ r h => by simp [damperlaw10_ScaleDecides.j0] at h
  | k + 1 => by
    have ih0 := damperlaw10_ScaleDecides.mono_l k
    · intro y0 y1 y2 y3 y4 y5 y6 y7 y8 y9 y10 y11 y12
      unfold damperlaw10_ScaleDecides.j0
      repeat' first
      | (with_reducible exact ih0 _ _ _ _ _ _ _ _ _ _ _ _ _)
      | (with_reducible exact damperlaw10_decide.mono _ _ _ _ _ _ _ _ _ _ _ _ _ _ _ _)
      | (with_reducible exact damperlaw10_known.mono _)
      | (with_reducible exact damperref10_Decide.mono _ _ _ _ _ _ _ _ _ _ _ _ _ _ _ _)
      | (with_reducible exact LeO.refl _)
      | (with_reducible exact LeO.none _)
      | (with_reducible refine LeO.ite ?_ ?_)
      | (with_reducible refine LeO.bind ?_ (fun _ => ?_))
      | exact ih0 _ _ _ _ _ _ _ _ _ _ _ _ _
      | exact damperlaw10_decide.mono _ _ _ _ _ _ _ _ _ _ _ _ _ _ _ _
      | exact damperlaw10_known.mono _
      | exact damperref10_Decide.mono _ _ _ _ _ _ _ _ _ _ _ _ _ _ _ _
      | exact LeO.none _
      | refine LeO.ite ?_ ?_
      | refine LeO.bind ?_ (fun _ => ?_)
theorem damperlaw10_ScaleDecides.mono : ∀ a0 a1 a2 a3 a4 a5 a6 a7 a8 a9 a10 a11 a12 a13 a14 a15 a16 k, LeO (damperlaw10_ScaleDecides.f k a0 a1 a2 a3 a4 a5 a6 a7 a8 a9 a10 a11 a12 a13 a14 a15 a16) (damperlaw10_ScaleDecides.f (k + 1) a0 a1 a2 a3 a4 a5 a6 a7 a8 a9 a10 a11 a12 a13 a14 a15 a16) := by
  intro a0 a1 a2 a3 a4 a5 a6 a7 a8 a9 a10 a11 a12 a13 a14 a15 a16 k
  have ih0 := damperlaw10_ScaleDecides.mono_l k
  unfold damperlaw10_ScaleDecides.f
  repeat' first
      | (with_reducible exact ih0 _ _ _ _ _ _ _ _ _ _ _ _ _)
      | (with_reducible exact damperlaw10_decide.mono _ _ _ _ _ _ _ _ _ _ _ _ _ _ _ _)
      | (with_reducible exact damperlaw10_known.mono _)
      | (with_reducible exact damperref10_Decide.mono _ _ _ _ _ _ _ _ _ _ _ _ _ _ _ _)
      | (with_reducible exact LeO.refl _)
      | (with_reducible exact LeO.none _)
      | (with_reducible refine LeO.ite ?_ ?_)
      | (with_reducible refine LeO.bind ?_ (fun _ => ?_))
      | exact ih0 _ _ _ _ _ _ _ _ _ _ _ _ _
      | exact damperlaw10_decide.mono _ _ _ _ _ _ _ _ _ _ _ _ _ _ _ _
      | exact damperlaw10_known.mono _
      | exact damperref10_Decide.mono _ _ _ _ _ _ _ _ _ _ _ _ _ _ _ _
      | exact LeO.none _
      | refine LeO.ite ?_ ?_
      | refine LeO.bind ?_ (fun _ => ?_)
def damperlaw10_ScaleDecides.T3 : Bool × List (List Nat × List Nat) := (true, [([], []), ([0], [0]), ([], []), ([2, 1], [2]), ([], []), ([], []), ([4, 1, 3, 0, 1, 4, 5], [1, 4]), ([5, 3, 6, 0, 1, 2, 3, 4, 5, 6], [3, 5])])
def damperlaw10_ScaleDecides.B3 : List Nat := [0, 1, 0, 7, 0, 0, 63, 127]
theorem damperlaw10_ScaleDecides.tab3 : rtab .any (opsOf Try.f3 3) = damperlaw10_ScaleDecides.T3 := by kernel_rfl
theorem damperlaw10_ScaleDecides.bits3 : waitsOk damperlaw10_ScaleDecides.T3.2 damperlaw10_ScaleDecides.B3 = true := by kernel_rfl
def damperlaw10_ScaleDecides.T7 : Bool × List (List Nat × List Nat) := (true, [([], []), ([0], [0]), ([], []), ([2], [2]), ([1, 3], [1, 3]), ([4], [4]), ([5], [5]), ([6, 5], [5, 6]), ([5], [5]), ([8, 5], [5, 8]), ([7, 9, 5], [5, 7, 9]), ([5, 10], [5, 10]), ([11, 5], [11]), ([12], [12]), ([12], [12]), ([12], [12]), ([15, 12], [12, 15]), ([13, 14, 16, 12, 12], [12, 13, 14, 16]), ([12], [12]), ([12], [12]), ([12], [12]), ([20, 12], [12, 20]), ([18, 19, 21, 17, 12], [12, 18, 19, 21]), ([17, 22, 12], [12, 17, 22]), ([12, 23], [12, 23]), ([24, 22], [24]), ([25], [25]), ([25], [25]), ([27, 25, 25], [25, 27]), ([25], [25]), ([29, 25], [25, 29]), ([26, 28, 30, 28, 25], [25, 26, 28, 30]), ([25], [25]), ([25], [25]), ([33, 31, 25], [25, 33]), ([25], [25]), ([35, 25], [25, 35]), ([32, 34, 36, 34, 25], [25, 32, 34, 36]), ([31, 37, 25], [25, 31, 37]), ([25, 38], [25, 38]), ([39, 37, 0, 1, 2, 3, 4, 5, 6, 7, 8, 9, 10, 11, 12, 13, 14, 15, 16, 17, 18, 19, 20, 21, 22, 23, 24, 25, 26, 27, 28, 29, 30, 31, 32, 33, 34, 35, 36, 37, 38, 39], [39])])
def damperlaw10_ScaleDecides.B7 : List Nat := [0, 1, 0, 4, 15, 31, 63, 127, 63, 319, 1023, 2047, 4095, 8191, 8191, 8191, 40959, 131071, 8191, 8191, 8191, 1056767, 4194303, 8388607, 16777215, 33554431, 67108863, 67108863, 201326591, 67108863, 603979775, 2147483647, 67108863, 67108863, 12884901887, 67108863, 34426847231, 137438953471, 274877906943, 549755813887, 1099511627775]
theorem damperlaw10_ScaleDecides.tab7 : rtab .any (opsOf Try.f3 7) = damperlaw10_ScaleDecides.T7 := by kernel_rfl
theorem damperlaw10_ScaleDecides.bits7 : waitsOk damperlaw10_ScaleDecides.T7.2 damperlaw10_ScaleDecides.B7 = true := by kernel_rfl
set_option maxHeartbeats 8000000 in
set_option maxRecDepth 100000 in
theorem damperlaw10_ScaleDecides.calls (k : Nat) (a0_0 : Int) (a0_1 : Int) (a0_2 : Int) (a0_3 : Int) (a0_4 : Int) (a0_5 : Int) (a0_6 : Int) (a0_7 : Int) (a0_8 : Int) (a1_0 : ByteArray) (a1_1 : Int) (a1_2 : Int) (a1_3 : Int) (a1_4 : Int) (a1_5 : Int) (a2 : Int) (a3 : Int) (r : Bool) (w : World) (hr0_ : Aside0 (r = true)) (h : damperlaw10_ScaleDecides.f k a0_0 a0_1 a0_2 a0_3 a0_4 a0_5 a0_6 a0_7 a0_8 a1_0 a1_1 a1_2 a1_3 a1_4 a1_5 a2 a3 = some r) :
    Calls Try.prog 3 #[.agg #[.int .i64 a0_0, .int .i64 a0_1, .int .i64 a0_2, .int .i64 a0_3, .int .i64 a0_4, .int .i64 a0_5, .int .i64 a0_6, .int .i64 a0_7, .int .i64 a0_8], .agg #[.string a1_0, .int .i64 a1_1, .int .i64 a1_2, .int .i64 a1_3, .int .i64 a1_4, .int .i64 a1_5], .int .i64 a2, .int .i64 a3] w fun e w' => e = .returned (.bool r) ∧ Below w.heap.size w w' := by
  have hu23 := Try.underlying23
  have hu25 := Try.underlying25
  have hu30 := Try.underlying30
  have hu32 := Try.underlying32
  have HB := Aside0.mk (Below.refl w.heap.size w)
  have H : ((damperlaw10_known.f k).bind fun t162 => (if t162 = true then ((damperlaw10_Given_Make.f a0_0 a0_1 a0_2 a0_3 a0_4 a0_5 a0_6 a0_7 a0_8).bind fun bt163 => ((damperlaw2_Config.f a1_0 a1_1 a1_2 a1_3 a1_4 a1_5 0).bind fun bt172 => ((damperlaw10_decide.f k bt163.1 bt163.2.1 bt163.2.2.1 bt163.2.2.2.1 bt163.2.2.2.2.1 bt163.2.2.2.2.2.1 bt163.2.2.2.2.2.2.1 bt163.2.2.2.2.2.2.2.1 bt163.2.2.2.2.2.2.2.2 bt172.1 bt172.2.1 bt172.2.2.1 bt172.2.2.2.1 bt172.2.2.2.2.1 bt172.2.2.2.2.2).bind fun bt180 => ((damperref10_Decide.f k bt163.1 bt163.2.1 bt172.1 bt172.2.1 bt172.2.2.1 bt172.2.2.2.1 bt172.2.2.2.2.1 bt172.2.2.2.2.2 bt163.2.2.1 bt163.2.2.2.1 bt163.2.2.2.2.1 bt163.2.2.2.2.2.1 bt163.2.2.2.2.2.2.1 bt163.2.2.2.2.2.2.2.1 bt163.2.2.2.2.2.2.2.2).bind fun bt183 => ((damperlaw10_within.f a2 10000001).bind fun t186 => ((damperlaw10_within.f a3 10000001).bind fun t187 => (damperlaw10_ScaleDecides.j0 k a3 t186 t187 bt172.1 bt172.2.1 bt172.2.2.1 bt172.2.2.2.1 bt172.2.2.2.2.1 bt172.2.2.2.2.2 bt180.1 bt180.2 bt183.1 bt183.2))))))) else (some false))) = some r := h
  clear h
  replace H := Option.bind_eq_some_iff.mp H
  obtain ⟨t162, A50, H⟩ := H
  replace H : (if t162 = true then ((damperlaw10_Given_Make.f a0_0 a0_1 a0_2 a0_3 a0_4 a0_5 a0_6 a0_7 a0_8).bind fun bt163 => ((damperlaw2_Config.f a1_0 a1_1 a1_2 a1_3 a1_4 a1_5 0).bind fun bt172 => ((damperlaw10_decide.f k bt163.1 bt163.2.1 bt163.2.2.1 bt163.2.2.2.1 bt163.2.2.2.2.1 bt163.2.2.2.2.2.1 bt163.2.2.2.2.2.2.1 bt163.2.2.2.2.2.2.2.1 bt163.2.2.2.2.2.2.2.2 bt172.1 bt172.2.1 bt172.2.2.1 bt172.2.2.2.1 bt172.2.2.2.2.1 bt172.2.2.2.2.2).bind fun bt180 => ((damperref10_Decide.f k bt163.1 bt163.2.1 bt172.1 bt172.2.1 bt172.2.2.1 bt172.2.2.2.1 bt172.2.2.2.2.1 bt172.2.2.2.2.2 bt163.2.2.1 bt163.2.2.2.1 bt163.2.2.2.2.1 bt163.2.2.2.2.2.1 bt163.2.2.2.2.2.2.1 bt163.2.2.2.2.2.2.2.1 bt163.2.2.2.2.2.2.2.2).bind fun bt183 => ((damperlaw10_within.f a2 10000001).bind fun t186 => ((damperlaw10_within.f a3 10000001).bind fun t187 => (damperlaw10_ScaleDecides.j0 k a3 t186 t187 bt172.1 bt172.2.1 bt172.2.2.1 bt172.2.2.2.1 bt172.2.2.2.2.1 bt172.2.2.2.2.2 bt180.1 bt180.2 bt183.1 bt183.2))))))) else (some false)) = some r := H
  have A5 := Aside0.mk A50
  clear A50
  by_cases c6 : t162 = true
  · subst c6
    have H1 : ((damperlaw10_Given_Make.f a0_0 a0_1 a0_2 a0_3 a0_4 a0_5 a0_6 a0_7 a0_8).bind fun bt163 => ((damperlaw2_Config.f a1_0 a1_1 a1_2 a1_3 a1_4 a1_5 0).bind fun bt172 => ((damperlaw10_decide.f k bt163.1 bt163.2.1 bt163.2.2.1 bt163.2.2.2.1 bt163.2.2.2.2.1 bt163.2.2.2.2.2.1 bt163.2.2.2.2.2.2.1 bt163.2.2.2.2.2.2.2.1 bt163.2.2.2.2.2.2.2.2 bt172.1 bt172.2.1 bt172.2.2.1 bt172.2.2.2.1 bt172.2.2.2.2.1 bt172.2.2.2.2.2).bind fun bt180 => ((damperref10_Decide.f k bt163.1 bt163.2.1 bt172.1 bt172.2.1 bt172.2.2.1 bt172.2.2.2.1 bt172.2.2.2.2.1 bt172.2.2.2.2.2 bt163.2.2.1 bt163.2.2.2.1 bt163.2.2.2.2.1 bt163.2.2.2.2.2.1 bt163.2.2.2.2.2.2.1 bt163.2.2.2.2.2.2.2.1 bt163.2.2.2.2.2.2.2.2).bind fun bt183 => ((damperlaw10_within.f a2 10000001).bind fun t186 => ((damperlaw10_within.f a3 10000001).bind fun t187 => (damperlaw10_ScaleDecides.j0 k a3 t186 t187 bt172.1 bt172.2.1 bt172.2.2.1 bt172.2.2.2.1 bt172.2.2.2.2.1 bt172.2.2.2.2.2 bt180.1 bt180.2 bt183.1 bt183.2))))))) = some r := by rw [if_pos rfl] at H; exact H
    clear H
    have H := H1
    clear H1
    replace H := Option.bind_eq_some_iff.mp H
    obtain ⟨⟨t163, t164, t165, t166, t167, t168, t169, t170, t171⟩, A70, H⟩ := H
    replace H : ((damperlaw2_Config.f a1_0 a1_1 a1_2 a1_3 a1_4 a1_5 0).bind fun bt172 => ((damperlaw10_decide.f k t163 t164 t165 t166 t167 t168 t169 t170 t171 bt172.1 bt172.2.1 bt172.2.2.1 bt172.2.2.2.1 bt172.2.2.2.2.1 bt172.2.2.2.2.2).bind fun bt180 => ((damperref10_Decide.f k t163 t164 bt172.1 bt172.2.1 bt172.2.2.1 bt172.2.2.2.1 bt172.2.2.2.2.1 bt172.2.2.2.2.2 t165 t166 t167 t168 t169 t170 t171).bind fun bt183 => ((damperlaw10_within.f a2 10000001).bind fun t186 => ((damperlaw10_within.f a3 10000001).bind fun t187 => (damperlaw10_ScaleDecides.j0 k a3 t186 t187 bt172.1 bt172.2.1 bt172.2.2.1 bt172.2.2.2.1 bt172.2.2.2.2.1 bt172.2.2.2.2.2 bt180.1 bt180.2 bt183.1 bt183.2)))))) = some r := H
    have A7 := Aside0.mk A70
    clear A70
    replace H := Option.bind_eq_some_iff.mp H
    obtain ⟨⟨t172, t173, t174, t175, t176, t177⟩, A80, H⟩ := H
    replace H : ((damperlaw10_decide.f k t163 t164 t165 t166 t167 t168 t169 t170 t171 t172 t173 t174 t175 t176 t177).bind fun bt180 => ((damperref10_Decide.f k t163 t164 t172 t173 t174 t175 t176 t177 t165 t166 t167 t168 t169 t170 t171).bind fun bt183 => ((damperlaw10_within.f a2 10000001).bind fun t186 => ((damperlaw10_within.f a3 10000001).bind fun t187 => (damperlaw10_ScaleDecides.j0 k a3 t186 t187 t172 t173 t174 t175 t176 t177 bt180.1 bt180.2 bt183.1 bt183.2))))) = some r := H
    have A8 := Aside0.mk A80
    clear A80
    replace H := Option.bind_eq_some_iff.mp H
    obtain ⟨⟨t180, t181⟩, A90, H⟩ := H
    replace H : ((damperref10_Decide.f k t163 t164 t172 t173 t174 t175 t176 t177 t165 t166 t167 t168 t169 t170 t171).bind fun bt183 => ((damperlaw10_within.f a2 10000001).bind fun t186 => ((damperlaw10_within.f a3 10000001).bind fun t187 => (damperlaw10_ScaleDecides.j0 k a3 t186 t187 t172 t173 t174 t175 t176 t177 t180 t181 bt183.1 bt183.2)))) = some r := H
    have A9 := Aside0.mk A90
    clear A90
    replace H := Option.bind_eq_some_iff.mp H
    obtain ⟨⟨t183, t184⟩, A100, H⟩ := H
    replace H : ((damperlaw10_within.f a2 10000001).bind fun t186 => ((damperlaw10_within.f a3 10000001).bind fun t187 => (damperlaw10_ScaleDecides.j0 k a3 t186 t187 t172 t173 t174 t175 t176 t177 t180 t181 t183 t184))) = some r := H
    have A10 := Aside0.mk A100
    clear A100
    have HC11 := Aside0.mk H
    clear H
    go_enter Try.func3, Try.ntmps3
    try go_wp2_with (first | ((with_reducible refine gate_dst (N := 4) rfl ?_); refine box_event ?hg (N := 4) ?hd (cs := #[.int .i64 a0_0, .int .i64 a0_1, .int .i64 a0_2, .int .i64 a0_3, .int .i64 a0_4, .int .i64 a0_5, .int .i64 a0_6, .int .i64 a0_7, .int .i64 a0_8]) (t := 23) ?hr ?_; (case hd => rfl); (case hg => rfl); (case hr => first | (go_simp; done) | (go_simp; rfl)); intro gb160 hg w12 hbox hb; have n0_ := Aside0.mk (below_step (by repeat (first | (with_reducible first | exact HB.out | apply below_alloc | apply pw_below_drewN | apply below_drew1) | exact HB.out)) hb); have n1_ := Aside0.mk (hbox); have n2_ := Aside0.mk ((by rw [hg]; exact (below_size (by repeat (first | (with_reducible first | exact HB.out | apply below_alloc | apply pw_below_drewN | apply below_drew1) | exact HB.out))) : w.heap.size ≤ gb160)); have n3_ := Aside0.mk ((by rw [hg]; exact (below_size (by repeat (first | (with_reducible first | exact HB.out | apply below_alloc | apply pw_below_drewN | apply below_drew1) | exact HB.out))) : w.heap.size ≤ gb160)); clear HB; have HB := n0_; have BK160 := n1_; have GW160 := n2_; have GE160 := n3_; clear n0_ n1_ n2_ n3_; clear hb hbox hg) | ((with_reducible refine gate_dst (N := 5) rfl ?_); refine box_event ?hg (N := 5) ?hd (cs := #[.string a1_0, .int .i64 a1_1, .int .i64 a1_2, .int .i64 a1_3, .int .i64 a1_4, .int .i64 a1_5]) (t := 25) ?hr ?_; (case hd => rfl); (case hg => rfl); (case hr => first | (go_simp; done) | (go_simp; rfl)); intro gb161 hg w13 hbox hb; have n0_ := Aside0.mk (blk_below (g := gb160) (pk BK160) hb); have n1_ := Aside0.mk (below_step (by repeat (first | (with_reducible first | exact HB.out | apply below_alloc | apply pw_below_drewN | apply below_drew1 | refine below_set ?_ GE160.out) | exact HB.out)) hb); have n2_ := Aside0.mk (hbox); have n3_ := Aside0.mk ((by rw [hg]; exact (below_size (by repeat (first | (with_reducible first | exact HB.out | apply below_alloc | apply pw_below_drewN | apply below_drew1 | refine below_set ?_ GE160.out) | exact HB.out))) : w.heap.size ≤ gb161)); have n4_ := Aside0.mk ((by rw [hg]; exact (below_size (by repeat (first | (with_reducible first | exact HB.out | apply below_alloc | apply pw_below_drewN | apply below_drew1 | refine below_set ?_ GE160.out) | exact HB.out))) : w.heap.size ≤ gb161)); have n5_ := Aside0.mk ((ne_lt hg (pk BK160) : gb160 ≠ gb161)); have n6_ := Aside0.mk ((ne_gt hg (pk BK160) : gb161 ≠ gb160)); clear BK160; clear HB; have BK160 := n0_; have HB := n1_; have BK161 := n2_; have GW161 := n3_; have GE161 := n4_; have NB160_161 := n5_; have NB161_160 := n6_; clear n0_ n1_ n2_ n3_ n4_ n5_ n6_; clear hb hbox hg) | ((with_reducible refine gate_callee (f := 13) rfl ?_); refine goesL_ (some 15) rfl rfl Try.func13 (by kernel_rfl) rfl #[] rfl (by (try simp only [List.map_toArray, List.map_cons, List.map_nil]); first | done | rfl | (simp only [List.length_drop, List.length_take]; rfl)) ?_; (with_reducible refine (damperlaw10_known.calls k  true _ A5.out).mono ?_); rintro e w14 ⟨rfl, hb⟩; refine ⟨_, rfl, ?_⟩; have n0_ := Aside0.mk (blk_below (g := gb160) (pk BK160) hb); have n1_ := Aside0.mk (blk_below (g := gb161) (pk BK161) hb); have n2_ := Aside0.mk (below_step (by repeat (first | (with_reducible first | exact HB.out | apply below_alloc | apply pw_below_drewN | apply below_drew1 | refine below_set ?_ GE160.out | refine below_set ?_ GE161.out) | exact HB.out)) hb); clear BK160; clear BK161; clear HB; have BK160 := n0_; have BK161 := n1_; have HB := n2_; clear n0_ n1_ n2_; (try clear hb); (try clear hb2); (try clear hk); (try clear hi)))
    replace BK160 := Aside0.mk (blk_drew BK160.out)
    replace BK161 := Aside0.mk (blk_drew BK161.out)
    replace HB := Aside0.mk (below_drew1 HB.out)
    refine start_ (n := 8) (S := fun w' => w'.cell? ⟨gb160, 0, none⟩ = some (.int .i64 a0_0) ∧ w'.cell? ⟨gb160, 1, none⟩ = some (.int .i64 a0_1) ∧ w'.cell? ⟨gb160, 2, none⟩ = some (.int .i64 a0_2) ∧ w'.cell? ⟨gb160, 3, none⟩ = some (.int .i64 a0_3) ∧ w'.cell? ⟨gb160, 4, none⟩ = some (.int .i64 a0_4) ∧ w'.cell? ⟨gb160, 5, none⟩ = some (.int .i64 a0_5) ∧ w'.cell? ⟨gb160, 6, none⟩ = some (.int .i64 a0_6) ∧ w'.cell? ⟨gb160, 7, none⟩ = some (.int .i64 a0_7) ∧ w'.cell? ⟨gb160, 8, none⟩ = some (.int .i64 a0_8) ∧ w'.cell? ⟨gb161, 0, none⟩ = some (.string a1_0) ∧ w'.cell? ⟨gb161, 1, none⟩ = some (.int .i64 a1_1) ∧ w'.cell? ⟨gb161, 2, none⟩ = some (.int .i64 a1_2) ∧ w'.cell? ⟨gb161, 3, none⟩ = some (.int .i64 a1_3) ∧ w'.cell? ⟨gb161, 4, none⟩ = some (.int .i64 a1_4) ∧ w'.cell? ⟨gb161, 5, none⟩ = some (.int .i64 a1_5)) (ds := []) #[false, false, false, false, false, false, false, false] (by kernel_rfl) rfl rfl ⟨bc BK160 0, bc BK160 1, bc BK160 2, bc BK160 3, bc BK160 4, bc BK160 5, bc BK160 6, bc BK160 7, bc BK160 8, bc BK161 0, bc BK161 1, bc BK161 2, bc BK161 3, bc BK161 4, bc BK161 5⟩ (fun hHeld => ?_); refine with_tabW damperlaw10_ScaleDecides.tab3 damperlaw10_ScaleDecides.bits3 (fun HT_ HW_ => ?_)
    generalize w14.drew = w15 at BK160 BK161 HB hHeld ⊢
    refine take_ (i := 0) (N := some 17) (v := ?_) (a' := ?_) #[true, false, false, false, false, false, false, false] rfl rfl (take_ofW HT_.out HW_.out (by kernel_rfl)) (fun _ _ _ h => h) (Or.inl ⟨by rfl, ?_⟩) hHeld ?_ ?_
    rotate_left
    · rintro w' ⟨s0, s1, s2, s3, s4, s5, s6, s7, s8, s9, s10, s11, s12, s13, s14⟩
      go_simp
      with_reducible rfl
    rotate_left
    · simp only [Act.put, List.setIfInBounds_toArray, List.set_cons_zero, List.set_cons_succ, i64_w, i32_w]
      rfl
    refine take_ (i := 2) (N := some 19) (v := ?_) (a' := ?_) #[true, false, true, false, false, false, false, false] rfl rfl (take_ofW HT_.out HW_.out (by kernel_rfl)) (fun _ _ _ h => h) (Or.inl ⟨by rfl, ?_⟩) hHeld ?_ ?_
    rotate_left
    · rintro w' ⟨s0, s1, s2, s3, s4, s5, s6, s7, s8, s9, s10, s11, s12, s13, s14⟩
      go_simp
      with_reducible rfl
    rotate_left
    · simp only [Act.put, List.setIfInBounds_toArray, List.set_cons_zero, List.set_cons_succ, i64_w, i32_w]
      rfl
    refine join_ (σ := Nat × Nat) 2 #[true, true, true, true, true, true, false, false] (fun s_ => [(18, .agg #[.int .i64 t163, .int .i64 t164, .int .i64 t165, .int .i64 t166, .int .i64 t167, .int .i64 t168, .int .i64 t169, .int .i64 t170, .int .i64 t171]), (20, .agg #[.string t172, .int .i64 t173, .int .i64 t174, .int .i64 t175, .int .i64 t176, .int .i64 t177]), (9, .pointer (some ⟨s_.1, 0, none⟩)), (10, .pointer (some ⟨s_.2, 0, none⟩))]) (fun s_ w' => (w'.cell? ⟨gb160, 0, none⟩ = some (.int .i64 a0_0) ∧ w'.cell? ⟨gb160, 1, none⟩ = some (.int .i64 a0_1) ∧ w'.cell? ⟨gb160, 2, none⟩ = some (.int .i64 a0_2) ∧ w'.cell? ⟨gb160, 3, none⟩ = some (.int .i64 a0_3) ∧ w'.cell? ⟨gb160, 4, none⟩ = some (.int .i64 a0_4) ∧ w'.cell? ⟨gb160, 5, none⟩ = some (.int .i64 a0_5) ∧ w'.cell? ⟨gb160, 6, none⟩ = some (.int .i64 a0_6) ∧ w'.cell? ⟨gb160, 7, none⟩ = some (.int .i64 a0_7) ∧ w'.cell? ⟨gb160, 8, none⟩ = some (.int .i64 a0_8) ∧ w'.cell? ⟨gb161, 0, none⟩ = some (.string a1_0) ∧ w'.cell? ⟨gb161, 1, none⟩ = some (.int .i64 a1_1) ∧ w'.cell? ⟨gb161, 2, none⟩ = some (.int .i64 a1_2) ∧ w'.cell? ⟨gb161, 3, none⟩ = some (.int .i64 a1_3) ∧ w'.cell? ⟨gb161, 4, none⟩ = some (.int .i64 a1_4) ∧ w'.cell? ⟨gb161, 5, none⟩ = some (.int .i64 a1_5)) ∧ (w'.heap[gb160]? = some (.cells #[.int .i64 a0_0, .int .i64 a0_1, .int .i64 a0_2, .int .i64 a0_3, .int .i64 a0_4, .int .i64 a0_5, .int .i64 a0_6, .int .i64 a0_7, .int .i64 a0_8] 23 (0, 0))) ∧ (w'.heap[gb161]? = some (.cells #[.string a1_0, .int .i64 a1_1, .int .i64 a1_2, .int .i64 a1_3, .int .i64 a1_4, .int .i64 a1_5] 25 (0, 0))) ∧ (w'.heap[s_.1]? = some (.cells #[.int .i64 0, .int .i64 0, .int .i64 0, .int .i64 0, .int .i64 0, .int .i64 0, .int .i64 0, .int .i64 0, .int .i64 0] 23 (0, 0))) ∧ (w'.heap[s_.2]? = some (.cells #[.string (⟨#[]⟩ : ByteArray), .int .i64 0, .int .i64 0, .int .i64 0, .int .i64 0, .int .i64 0] 25 (0, 0))) ∧ (w.heap.size ≤ s_.1) ∧ (w.heap.size ≤ s_.1) ∧ (gb160 ≠ s_.1) ∧ (s_.1 ≠ gb160) ∧ (gb161 ≠ s_.1) ∧ (s_.1 ≠ gb161) ∧ (s_.2 ≠ s_.1) ∧ (s_.1 ≠ s_.2) ∧ (w.heap.size ≤ s_.2) ∧ (w.heap.size ≤ s_.2) ∧ (gb160 ≠ s_.2) ∧ (s_.2 ≠ gb160) ∧ (gb161 ≠ s_.2) ∧ (s_.2 ≠ gb161) ∧ (Below w.heap.size w w')) ?_ ?_
    · rintro ⟨gb178, gb179⟩ w20 ⟨hS_, h0_, h1_, h2_, h3_, h4_, h5_, h6_, h7_, h8_, h9_, h10_, h11_, h12_, h13_, h14_, h15_, h16_, h17_, h18_⟩
      have BK178 : Aside0 (w20.heap[gb178]? = some (.cells #[.int .i64 0, .int .i64 0, .int .i64 0, .int .i64 0, .int .i64 0, .int .i64 0, .int .i64 0, .int .i64 0, .int .i64 0] 23 (0, 0))) := ⟨h2_⟩
      have BK179 : Aside0 (w20.heap[gb179]? = some (.cells #[.string (⟨#[]⟩ : ByteArray), .int .i64 0, .int .i64 0, .int .i64 0, .int .i64 0, .int .i64 0] 25 (0, 0))) := ⟨h3_⟩
      have GW178 : Aside0 (w.heap.size ≤ gb178) := ⟨h4_⟩
      have GE178 : Aside0 (w.heap.size ≤ gb178) := ⟨h5_⟩
      have NB160_178 : Aside0 (gb160 ≠ gb178) := ⟨h6_⟩
      have NB178_160 : Aside0 (gb178 ≠ gb160) := ⟨h7_⟩
      have NB161_178 : Aside0 (gb161 ≠ gb178) := ⟨h8_⟩
      have NB178_161 : Aside0 (gb178 ≠ gb161) := ⟨h9_⟩
      have NB179_178 : Aside0 (gb179 ≠ gb178) := ⟨h10_⟩
      have NB178_179 : Aside0 (gb178 ≠ gb179) := ⟨h11_⟩
      have GW179 : Aside0 (w.heap.size ≤ gb179) := ⟨h12_⟩
      have GE179 : Aside0 (w.heap.size ≤ gb179) := ⟨h13_⟩
      have NB160_179 : Aside0 (gb160 ≠ gb179) := ⟨h14_⟩
      have NB179_160 : Aside0 (gb179 ≠ gb160) := ⟨h15_⟩
      have NB161_179 : Aside0 (gb161 ≠ gb179) := ⟨h16_⟩
      have NB179_161 : Aside0 (gb179 ≠ gb161) := ⟨h17_⟩
      replace BK160 := Aside0.mk h0_
      replace BK161 := Aside0.mk h1_
      replace HB : Aside0 (Below w.heap.size w w20) := ⟨h18_⟩
      clear h0_ h1_ h2_ h3_ h4_ h5_ h6_ h7_ h8_ h9_ h10_ h11_ h12_ h13_ h14_ h15_ h16_ h17_ h18_
      have hHeld := hS_
      refine norm_ (a' := ?_) ?_ ?_
      rotate_left
      · simp only [putAll, Act.put, List.setIfInBounds_toArray, List.set_cons_zero, List.set_cons_succ]
        rfl
      refine one_ (i := 6) (N := none) #[true, true, true, true, true, true, true, false] rfl rfl (one_of HT_.out (by kernel_rfl)) (by decide) (fun K hK => ?_)
      have hs21 : w20.cell? ⟨gb178, 0, none⟩ = some (.int .i64 0) := bc BK178 0
      have hfs21 := blk_frozen BK178.out 0
      have hns21_0 := NB160_178.out
      have hns21_1 := NB161_178.out
      have hns21_3 := NB179_178.out
      have hms21_0 := NB178_160.out
      have hms21_1 := NB178_161.out
      have hms21_3 := NB178_179.out
      have hs22 : w20.cell? ⟨gb178, 1, none⟩ = some (.int .i64 0) := bc BK178 1
      have hfs22 := blk_frozen BK178.out 1
      have hs23 : w20.cell? ⟨gb178, 2, none⟩ = some (.int .i64 0) := bc BK178 2
      have hfs23 := blk_frozen BK178.out 2
      have hs24 : w20.cell? ⟨gb178, 3, none⟩ = some (.int .i64 0) := bc BK178 3
      have hfs24 := blk_frozen BK178.out 3
      have hs25 : w20.cell? ⟨gb178, 4, none⟩ = some (.int .i64 0) := bc BK178 4
      have hfs25 := blk_frozen BK178.out 4
      have hs26 : w20.cell? ⟨gb178, 5, none⟩ = some (.int .i64 0) := bc BK178 5
      have hfs26 := blk_frozen BK178.out 5
      have hs27 : w20.cell? ⟨gb178, 6, none⟩ = some (.int .i64 0) := bc BK178 6
      have hfs27 := blk_frozen BK178.out 6
      have hs28 : w20.cell? ⟨gb178, 7, none⟩ = some (.int .i64 0) := bc BK178 7
      have hfs28 := blk_frozen BK178.out 7
      have hs29 : w20.cell? ⟨gb178, 8, none⟩ = some (.int .i64 0) := bc BK178 8
      have hfs29 := blk_frozen BK178.out 8
      with_reducible_and_instances refine skip_ (w1 := ?_) ?hw_ ?hN_ ?_ ?_
      (case hw_ => rfl)
      (case hN_ => rfl)
      rotate_left
      · go_simp
        rfl
      refine hK.out _ _ ⟨(cf NB160_178 ((cf NB160_178 ((cf NB160_178 ((cf NB160_178 ((cf NB160_178 ((cf NB160_178 ((cf NB160_178 ((cf NB160_178 ((cf NB160_178 (hHeld.1)))))))))))))))))), (cf NB160_178 ((cf NB160_178 ((cf NB160_178 ((cf NB160_178 ((cf NB160_178 ((cf NB160_178 ((cf NB160_178 ((cf NB160_178 ((cf NB160_178 (hHeld.2.1)))))))))))))))))), (cf NB160_178 ((cf NB160_178 ((cf NB160_178 ((cf NB160_178 ((cf NB160_178 ((cf NB160_178 ((cf NB160_178 ((cf NB160_178 ((cf NB160_178 (hHeld.2.2.1)))))))))))))))))), (cf NB160_178 ((cf NB160_178 ((cf NB160_178 ((cf NB160_178 ((cf NB160_178 ((cf NB160_178 ((cf NB160_178 ((cf NB160_178 ((cf NB160_178 (hHeld.2.2.2.1)))))))))))))))))), (cf NB160_178 ((cf NB160_178 ((cf NB160_178 ((cf NB160_178 ((cf NB160_178 ((cf NB160_178 ((cf NB160_178 ((cf NB160_178 ((cf NB160_178 (hHeld.2.2.2.2.1)))))))))))))))))), (cf NB160_178 ((cf NB160_178 ((cf NB160_178 ((cf NB160_178 ((cf NB160_178 ((cf NB160_178 ((cf NB160_178 ((cf NB160_178 ((cf NB160_178 (hHeld.2.2.2.2.2.1)))))))))))))))))), (cf NB160_178 ((cf NB160_178 ((cf NB160_178 ((cf NB160_178 ((cf NB160_178 ((cf NB160_178 ((cf NB160_178 ((cf NB160_178 ((cf NB160_178 (hHeld.2.2.2.2.2.2.1)))))))))))))))))), (cf NB160_178 ((cf NB160_178 ((cf NB160_178 ((cf NB160_178 ((cf NB160_178 ((cf NB160_178 ((cf NB160_178 ((cf NB160_178 ((cf NB160_178 (hHeld.2.2.2.2.2.2.2.1)))))))))))))))))), (cf NB160_178 ((cf NB160_178 ((cf NB160_178 ((cf NB160_178 ((cf NB160_178 ((cf NB160_178 ((cf NB160_178 ((cf NB160_178 ((cf NB160_178 (hHeld.2.2.2.2.2.2.2.2.1)))))))))))))))))), (cf NB161_178 ((cf NB161_178 ((cf NB161_178 ((cf NB161_178 ((cf NB161_178 ((cf NB161_178 ((cf NB161_178 ((cf NB161_178 ((cf NB161_178 (hHeld.2.2.2.2.2.2.2.2.2.1)))))))))))))))))), (cf NB161_178 ((cf NB161_178 ((cf NB161_178 ((cf NB161_178 ((cf NB161_178 ((cf NB161_178 ((cf NB161_178 ((cf NB161_178 ((cf NB161_178 (hHeld.2.2.2.2.2.2.2.2.2.2.1)))))))))))))))))), (cf NB161_178 ((cf NB161_178 ((cf NB161_178 ((cf NB161_178 ((cf NB161_178 ((cf NB161_178 ((cf NB161_178 ((cf NB161_178 ((cf NB161_178 (hHeld.2.2.2.2.2.2.2.2.2.2.2.1)))))))))))))))))), (cf NB161_178 ((cf NB161_178 ((cf NB161_178 ((cf NB161_178 ((cf NB161_178 ((cf NB161_178 ((cf NB161_178 ((cf NB161_178 ((cf NB161_178 (hHeld.2.2.2.2.2.2.2.2.2.2.2.2.1)))))))))))))))))), (cf NB161_178 ((cf NB161_178 ((cf NB161_178 ((cf NB161_178 ((cf NB161_178 ((cf NB161_178 ((cf NB161_178 ((cf NB161_178 ((cf NB161_178 (hHeld.2.2.2.2.2.2.2.2.2.2.2.2.2.1)))))))))))))))))), (cf NB161_178 ((cf NB161_178 ((cf NB161_178 ((cf NB161_178 ((cf NB161_178 ((cf NB161_178 ((cf NB161_178 ((cf NB161_178 ((cf NB161_178 (hHeld.2.2.2.2.2.2.2.2.2.2.2.2.2.2))))))))))))))))))⟩ (fun hHeld => ?_)
      clear hK K
      refine one_ (i := 7) (N := none) #[true, true, true, true, true, true, true, true] rfl rfl (one_of HT_.out (by kernel_rfl)) (by decide) (fun K hK => ?_)
      have hs30 : w20.cell? ⟨gb179, 0, none⟩ = some (.string (⟨#[]⟩ : ByteArray)) := bc BK179 0
      have hfs30 := blk_frozen BK179.out 0
      have hns30_0 := NB160_179.out
      have hns30_1 := NB161_179.out
      have hns30_2 := NB178_179.out
      have hms30_0 := NB179_160.out
      have hms30_1 := NB179_161.out
      have hms30_2 := NB179_178.out
      have hs31 : w20.cell? ⟨gb179, 1, none⟩ = some (.int .i64 0) := bc BK179 1
      have hfs31 := blk_frozen BK179.out 1
      have hs32 : w20.cell? ⟨gb179, 2, none⟩ = some (.int .i64 0) := bc BK179 2
      have hfs32 := blk_frozen BK179.out 2
      have hs33 : w20.cell? ⟨gb179, 3, none⟩ = some (.int .i64 0) := bc BK179 3
      have hfs33 := blk_frozen BK179.out 3
      have hs34 : w20.cell? ⟨gb179, 4, none⟩ = some (.int .i64 0) := bc BK179 4
      have hfs34 := blk_frozen BK179.out 4
      have hs35 : w20.cell? ⟨gb179, 5, none⟩ = some (.int .i64 0) := bc BK179 5
      have hfs35 := blk_frozen BK179.out 5
      with_reducible_and_instances refine skip_ (w1 := ?_) ?hw_ ?hN_ ?_ ?_
      (case hw_ => rfl)
      (case hN_ => rfl)
      rotate_left
      · go_simp
        rfl
      refine hK.out _ _ ⟨(cf NB160_179 ((cf NB160_179 ((cf NB160_179 ((cf NB160_179 ((cf NB160_179 ((cf NB160_179 (hHeld.1)))))))))))), (cf NB160_179 ((cf NB160_179 ((cf NB160_179 ((cf NB160_179 ((cf NB160_179 ((cf NB160_179 (hHeld.2.1)))))))))))), (cf NB160_179 ((cf NB160_179 ((cf NB160_179 ((cf NB160_179 ((cf NB160_179 ((cf NB160_179 (hHeld.2.2.1)))))))))))), (cf NB160_179 ((cf NB160_179 ((cf NB160_179 ((cf NB160_179 ((cf NB160_179 ((cf NB160_179 (hHeld.2.2.2.1)))))))))))), (cf NB160_179 ((cf NB160_179 ((cf NB160_179 ((cf NB160_179 ((cf NB160_179 ((cf NB160_179 (hHeld.2.2.2.2.1)))))))))))), (cf NB160_179 ((cf NB160_179 ((cf NB160_179 ((cf NB160_179 ((cf NB160_179 ((cf NB160_179 (hHeld.2.2.2.2.2.1)))))))))))), (cf NB160_179 ((cf NB160_179 ((cf NB160_179 ((cf NB160_179 ((cf NB160_179 ((cf NB160_179 (hHeld.2.2.2.2.2.2.1)))))))))))), (cf NB160_179 ((cf NB160_179 ((cf NB160_179 ((cf NB160_179 ((cf NB160_179 ((cf NB160_179 (hHeld.2.2.2.2.2.2.2.1)))))))))))), (cf NB160_179 ((cf NB160_179 ((cf NB160_179 ((cf NB160_179 ((cf NB160_179 ((cf NB160_179 (hHeld.2.2.2.2.2.2.2.2.1)))))))))))), (cf NB161_179 ((cf NB161_179 ((cf NB161_179 ((cf NB161_179 ((cf NB161_179 ((cf NB161_179 (hHeld.2.2.2.2.2.2.2.2.2.1)))))))))))), (cf NB161_179 ((cf NB161_179 ((cf NB161_179 ((cf NB161_179 ((cf NB161_179 ((cf NB161_179 (hHeld.2.2.2.2.2.2.2.2.2.2.1)))))))))))), (cf NB161_179 ((cf NB161_179 ((cf NB161_179 ((cf NB161_179 ((cf NB161_179 ((cf NB161_179 (hHeld.2.2.2.2.2.2.2.2.2.2.2.1)))))))))))), (cf NB161_179 ((cf NB161_179 ((cf NB161_179 ((cf NB161_179 ((cf NB161_179 ((cf NB161_179 (hHeld.2.2.2.2.2.2.2.2.2.2.2.2.1)))))))))))), (cf NB161_179 ((cf NB161_179 ((cf NB161_179 ((cf NB161_179 ((cf NB161_179 ((cf NB161_179 (hHeld.2.2.2.2.2.2.2.2.2.2.2.2.2.1)))))))))))), (cf NB161_179 ((cf NB161_179 ((cf NB161_179 ((cf NB161_179 ((cf NB161_179 ((cf NB161_179 (hHeld.2.2.2.2.2.2.2.2.2.2.2.2.2.2))))))))))))⟩ (fun hHeld => ?_)
      clear hK K
      refine done_ (done_of HT_.out (by kernel_rfl)) ?_
      have hnb36 := NB178_160.out
      have hnc36 := NB160_178.out
      have hnb37 := NB178_161.out
      have hnc37 := NB161_178.out
      have hnb38 := NB178_179.out
      have hnc38 := NB179_178.out
      have hcz39_0 : w20.cell? ⟨gb178, 0, none⟩ = some (.int .i64 0) := bc BK178 0
      have hcz39_1 : w20.cell? ⟨gb178, 1, none⟩ = some (.int .i64 0) := bc BK178 1
      have hcz39_2 : w20.cell? ⟨gb178, 2, none⟩ = some (.int .i64 0) := bc BK178 2
      have hcz39_3 : w20.cell? ⟨gb178, 3, none⟩ = some (.int .i64 0) := bc BK178 3
      have hcz39_4 : w20.cell? ⟨gb178, 4, none⟩ = some (.int .i64 0) := bc BK178 4
      have hcz39_5 : w20.cell? ⟨gb178, 5, none⟩ = some (.int .i64 0) := bc BK178 5
      have hcz39_6 : w20.cell? ⟨gb178, 6, none⟩ = some (.int .i64 0) := bc BK178 6
      have hcz39_7 : w20.cell? ⟨gb178, 7, none⟩ = some (.int .i64 0) := bc BK178 7
      have hcz39_8 : w20.cell? ⟨gb178, 8, none⟩ = some (.int .i64 0) := bc BK178 8
      have hfz39_0 := blk_frozen BK178.out 0
      have hfz39_1 := blk_frozen BK178.out 1
      have hfz39_2 := blk_frozen BK178.out 2
      have hfz39_3 := blk_frozen BK178.out 3
      have hfz39_4 := blk_frozen BK178.out 4
      have hfz39_5 := blk_frozen BK178.out 5
      have hfz39_6 := blk_frozen BK178.out 6
      have hfz39_7 := blk_frozen BK178.out 7
      have hfz39_8 := blk_frozen BK178.out 8
      have hnb40 := NB179_160.out
      have hnc40 := NB160_179.out
      have hnb41 := NB179_161.out
      have hnc41 := NB161_179.out
      have hcz42_0 : w20.cell? ⟨gb179, 0, none⟩ = some (.string (⟨#[]⟩ : ByteArray)) := bc BK179 0
      have hcz42_1 : w20.cell? ⟨gb179, 1, none⟩ = some (.int .i64 0) := bc BK179 1
      have hcz42_2 : w20.cell? ⟨gb179, 2, none⟩ = some (.int .i64 0) := bc BK179 2
      have hcz42_3 : w20.cell? ⟨gb179, 3, none⟩ = some (.int .i64 0) := bc BK179 3
      have hcz42_4 : w20.cell? ⟨gb179, 4, none⟩ = some (.int .i64 0) := bc BK179 4
      have hcz42_5 : w20.cell? ⟨gb179, 5, none⟩ = some (.int .i64 0) := bc BK179 5
      have hfz42_0 := blk_frozen BK179.out 0
      have hfz42_1 := blk_frozen BK179.out 1
      have hfz42_2 := blk_frozen BK179.out 2
      have hfz42_3 := blk_frozen BK179.out 3
      have hfz42_4 := blk_frozen BK179.out 4
      have hfz42_5 := blk_frozen BK179.out 5
      go_upto_region 6 with (first | ((with_reducible refine gate_callee (f := 16) rfl ?_); refine goesL_ (some 23) rfl rfl Try.func16 (by kernel_rfl) rfl #[.agg #[.int .i64 t163, .int .i64 t164, .int .i64 t165, .int .i64 t166, .int .i64 t167, .int .i64 t168, .int .i64 t169, .int .i64 t170, .int .i64 t171], .agg #[.string t172, .int .i64 t173, .int .i64 t174, .int .i64 t175, .int .i64 t176, .int .i64 t177]] rfl (by (try simp only [List.map_toArray, List.map_cons, List.map_nil]); first | done | rfl | (simp only [List.length_drop, List.length_take]; rfl)) ?_; (with_reducible refine (damperlaw10_decide.calls k t163 t164 t165 t166 t167 t168 t169 t170 t171 t172 t173 t174 t175 t176 t177 t180 t181 _ A9.out).mono ?_); rintro e w43 ⟨rfl, hb⟩; refine ⟨_, rfl, ?_⟩; have n0_ := Aside0.mk (blk_below (g := gb160) (o := .cells #[.int .i64 a0_0, .int .i64 a0_1, .int .i64 a0_2, .int .i64 a0_3, .int .i64 a0_4, .int .i64 a0_5, .int .i64 a0_6, .int .i64 a0_7, .int .i64 a0_8] 23 (0, 0)) (by (repeat ((with_reducible repeat (first | refine blk_drewN ?_ _ | refine blk_drew ?_ | refine blk_alloc ?_ _)); refine blk_far ?_ NB160_179.out _)); (repeat ((with_reducible repeat (first | refine blk_drewN ?_ _ | refine blk_drew ?_ | refine blk_alloc ?_ _)); refine blk_far ?_ NB160_178.out _)); (with_reducible repeat (first | refine blk_drewN ?_ _ | refine blk_drew ?_ | refine blk_alloc ?_ _)); exact BK160.out) hb); have n1_ := Aside0.mk (blk_below (g := gb161) (o := .cells #[.string a1_0, .int .i64 a1_1, .int .i64 a1_2, .int .i64 a1_3, .int .i64 a1_4, .int .i64 a1_5] 25 (0, 0)) (by (repeat ((with_reducible repeat (first | refine blk_drewN ?_ _ | refine blk_drew ?_ | refine blk_alloc ?_ _)); refine blk_far ?_ NB161_179.out _)); (repeat ((with_reducible repeat (first | refine blk_drewN ?_ _ | refine blk_drew ?_ | refine blk_alloc ?_ _)); refine blk_far ?_ NB161_178.out _)); (with_reducible repeat (first | refine blk_drewN ?_ _ | refine blk_drew ?_ | refine blk_alloc ?_ _)); exact BK161.out) hb); have n2_ := Aside0.mk (blk_below (g := gb178) (o := .cells #[.int .i64 t163, .int .i64 t164, .int .i64 t165, .int .i64 t166, .int .i64 t167, .int .i64 t168, .int .i64 t169, .int .i64 t170, .int .i64 t171] 23 (0, 0)) (by (repeat ((with_reducible repeat (first | refine blk_drewN ?_ _ | refine blk_drew ?_ | refine blk_alloc ?_ _)); refine blk_far ?_ NB178_179.out _)); (with_reducible repeat (first | refine blk_drewN ?_ _ | refine blk_drew ?_ | refine blk_alloc ?_ _)); refine blk_put (cs := #[.int .i64 t163, .int .i64 t164, .int .i64 t165, .int .i64 t166, .int .i64 t167, .int .i64 t168, .int .i64 t169, .int .i64 t170, .int .i64 0]) ?_ 8 _ rfl; refine blk_put (cs := #[.int .i64 t163, .int .i64 t164, .int .i64 t165, .int .i64 t166, .int .i64 t167, .int .i64 t168, .int .i64 t169, .int .i64 0, .int .i64 0]) ?_ 7 _ rfl; refine blk_put (cs := #[.int .i64 t163, .int .i64 t164, .int .i64 t165, .int .i64 t166, .int .i64 t167, .int .i64 t168, .int .i64 0, .int .i64 0, .int .i64 0]) ?_ 6 _ rfl; refine blk_put (cs := #[.int .i64 t163, .int .i64 t164, .int .i64 t165, .int .i64 t166, .int .i64 t167, .int .i64 0, .int .i64 0, .int .i64 0, .int .i64 0]) ?_ 5 _ rfl; refine blk_put (cs := #[.int .i64 t163, .int .i64 t164, .int .i64 t165, .int .i64 t166, .int .i64 0, .int .i64 0, .int .i64 0, .int .i64 0, .int .i64 0]) ?_ 4 _ rfl; refine blk_put (cs := #[.int .i64 t163, .int .i64 t164, .int .i64 t165, .int .i64 0, .int .i64 0, .int .i64 0, .int .i64 0, .int .i64 0, .int .i64 0]) ?_ 3 _ rfl; refine blk_put (cs := #[.int .i64 t163, .int .i64 t164, .int .i64 0, .int .i64 0, .int .i64 0, .int .i64 0, .int .i64 0, .int .i64 0, .int .i64 0]) ?_ 2 _ rfl; refine blk_put (cs := #[.int .i64 t163, .int .i64 0, .int .i64 0, .int .i64 0, .int .i64 0, .int .i64 0, .int .i64 0, .int .i64 0, .int .i64 0]) ?_ 1 _ rfl; refine blk_put (cs := #[.int .i64 0, .int .i64 0, .int .i64 0, .int .i64 0, .int .i64 0, .int .i64 0, .int .i64 0, .int .i64 0, .int .i64 0]) ?_ 0 _ rfl; (with_reducible repeat (first | refine blk_drewN ?_ _ | refine blk_drew ?_ | refine blk_alloc ?_ _)); exact BK178.out) hb); have n3_ := Aside0.mk (blk_below (g := gb179) (o := .cells #[.string t172, .int .i64 t173, .int .i64 t174, .int .i64 t175, .int .i64 t176, .int .i64 t177] 25 (0, 0)) (by (with_reducible repeat (first | refine blk_drewN ?_ _ | refine blk_drew ?_ | refine blk_alloc ?_ _)); refine blk_put (cs := #[.string t172, .int .i64 t173, .int .i64 t174, .int .i64 t175, .int .i64 t176, .int .i64 0]) ?_ 5 _ rfl; refine blk_put (cs := #[.string t172, .int .i64 t173, .int .i64 t174, .int .i64 t175, .int .i64 0, .int .i64 0]) ?_ 4 _ rfl; refine blk_put (cs := #[.string t172, .int .i64 t173, .int .i64 t174, .int .i64 0, .int .i64 0, .int .i64 0]) ?_ 3 _ rfl; refine blk_put (cs := #[.string t172, .int .i64 t173, .int .i64 0, .int .i64 0, .int .i64 0, .int .i64 0]) ?_ 2 _ rfl; refine blk_put (cs := #[.string t172, .int .i64 0, .int .i64 0, .int .i64 0, .int .i64 0, .int .i64 0]) ?_ 1 _ rfl; refine blk_put (cs := #[.string (⟨#[]⟩ : ByteArray), .int .i64 0, .int .i64 0, .int .i64 0, .int .i64 0, .int .i64 0]) ?_ 0 _ rfl; (repeat ((with_reducible repeat (first | refine blk_drewN ?_ _ | refine blk_drew ?_ | refine blk_alloc ?_ _)); refine blk_far ?_ NB179_178.out _)); (with_reducible repeat (first | refine blk_drewN ?_ _ | refine blk_drew ?_ | refine blk_alloc ?_ _)); exact BK179.out) hb); have n4_ := Aside0.mk (below_step (by repeat (first | (with_reducible first | exact HB.out | apply below_alloc | apply pw_below_drewN | apply below_drew1 | refine below_set ?_ GE160.out | refine below_set ?_ GE161.out | refine below_set ?_ GE178.out | refine below_set ?_ GE179.out) | exact HB.out)) hb); clear BK160; clear BK161; clear BK178; clear BK179; clear HB; have BK160 := n0_; have BK161 := n1_; have BK178 := n2_; have BK179 := n3_; have HB := n4_; clear n0_ n1_ n2_ n3_ n4_; (try clear hb); (try clear hb2); (try clear hk); (try clear hi)) | ((with_reducible refine gate_dst (N := 11) rfl ?_); refine box_event ?hg (N := 11) ?hd (cs := #[.int .i64 0, .int .i64 0]) (t := 30) ?hr ?_; (case hd => rfl); (case hg => rfl); (case hr => first | (go_simp; done) | (go_simp; rfl)); intro gb182 hg w44 hbox hb; have n0_ := Aside0.mk (blk_below (g := gb160) (pk BK160) hb); have n1_ := Aside0.mk (blk_below (g := gb161) (pk BK161) hb); have n2_ := Aside0.mk (blk_below (g := gb178) (pk BK178) hb); have n3_ := Aside0.mk (blk_below (g := gb179) (pk BK179) hb); have n4_ := Aside0.mk (below_step (by repeat (first | (with_reducible first | exact HB.out | apply below_alloc | apply pw_below_drewN | apply below_drew1 | refine below_set ?_ GE160.out | refine below_set ?_ GE161.out | refine below_set ?_ GE178.out | refine below_set ?_ GE179.out) | exact HB.out)) hb); have n5_ := Aside0.mk (hbox); have n6_ := Aside0.mk ((by rw [hg]; exact (below_size (by repeat (first | (with_reducible first | exact HB.out | apply below_alloc | apply pw_below_drewN | apply below_drew1 | refine below_set ?_ GE160.out | refine below_set ?_ GE161.out | refine below_set ?_ GE178.out | refine below_set ?_ GE179.out) | exact HB.out))) : w.heap.size ≤ gb182)); have n7_ := Aside0.mk ((by rw [hg]; exact (below_size (by repeat (first | (with_reducible first | exact HB.out | apply below_alloc | apply pw_below_drewN | apply below_drew1 | refine below_set ?_ GE160.out | refine below_set ?_ GE161.out | refine below_set ?_ GE178.out | refine below_set ?_ GE179.out) | exact HB.out))) : w.heap.size ≤ gb182)); have n8_ := Aside0.mk ((ne_lt hg (pk BK160) : gb160 ≠ gb182)); have n9_ := Aside0.mk ((ne_gt hg (pk BK160) : gb182 ≠ gb160)); have n10_ := Aside0.mk ((ne_lt hg (pk BK161) : gb161 ≠ gb182)); have n11_ := Aside0.mk ((ne_gt hg (pk BK161) : gb182 ≠ gb161)); have n12_ := Aside0.mk ((ne_lt hg (pk BK178) : gb178 ≠ gb182)); have n13_ := Aside0.mk ((ne_gt hg (pk BK178) : gb182 ≠ gb178)); have n14_ := Aside0.mk ((ne_lt hg (pk BK179) : gb179 ≠ gb182)); have n15_ := Aside0.mk ((ne_gt hg (pk BK179) : gb182 ≠ gb179)); clear BK160; clear BK161; clear BK178; clear BK179; clear HB; have BK160 := n0_; have BK161 := n1_; have BK178 := n2_; have BK179 := n3_; have HB := n4_; have BK182 := n5_; have GW182 := n6_; have GE182 := n7_; have NB160_182 := n8_; have NB182_160 := n9_; have NB161_182 := n10_; have NB182_161 := n11_; have NB178_182 := n12_; have NB182_178 := n13_; have NB179_182 := n14_; have NB182_179 := n15_; clear n0_ n1_ n2_ n3_ n4_ n5_ n6_ n7_ n8_ n9_ n10_ n11_ n12_ n13_ n14_ n15_; clear hb hbox hg; have hnb45 := NB182_160.out; have hnc45 := NB160_182.out; have hnb46 := NB182_161.out; have hnc46 := NB161_182.out; have hnb47 := NB182_178.out; have hnc47 := NB178_182.out; have hnb48 := NB182_179.out; have hnc48 := NB179_182.out; have hcz49_0 : w44.cell? ⟨gb182, 0, none⟩ = some (.int .i64 0) := bc BK182 0; have hcz49_1 : w44.cell? ⟨gb182, 1, none⟩ = some (.int .i64 0) := bc BK182 1; have hfz49_0 := blk_frozen BK182.out 0; have hfz49_1 := blk_frozen BK182.out 1; have hcz50_0 : w44.cell? ⟨gb178, 0, none⟩ = some (.int .i64 t163) := bc BK178 0; have hcz50_1 : w44.cell? ⟨gb178, 1, none⟩ = some (.int .i64 t164) := bc BK178 1; have hcz50_2 : w44.cell? ⟨gb178, 2, none⟩ = some (.int .i64 t165) := bc BK178 2; have hcz50_3 : w44.cell? ⟨gb178, 3, none⟩ = some (.int .i64 t166) := bc BK178 3; have hcz50_4 : w44.cell? ⟨gb178, 4, none⟩ = some (.int .i64 t167) := bc BK178 4; have hcz50_5 : w44.cell? ⟨gb178, 5, none⟩ = some (.int .i64 t168) := bc BK178 5; have hcz50_6 : w44.cell? ⟨gb178, 6, none⟩ = some (.int .i64 t169) := bc BK178 6; have hcz50_7 : w44.cell? ⟨gb178, 7, none⟩ = some (.int .i64 t170) := bc BK178 7; have hcz50_8 : w44.cell? ⟨gb178, 8, none⟩ = some (.int .i64 t171) := bc BK178 8; have hfz50_0 := blk_frozen BK178.out 0; have hfz50_1 := blk_frozen BK178.out 1; have hfz50_2 := blk_frozen BK178.out 2; have hfz50_3 := blk_frozen BK178.out 3; have hfz50_4 := blk_frozen BK178.out 4; have hfz50_5 := blk_frozen BK178.out 5; have hfz50_6 := blk_frozen BK178.out 6; have hfz50_7 := blk_frozen BK178.out 7; have hfz50_8 := blk_frozen BK178.out 8; have hcz51_0 : w44.cell? ⟨gb179, 0, none⟩ = some (.string t172) := bc BK179 0; have hcz51_1 : w44.cell? ⟨gb179, 1, none⟩ = some (.int .i64 t173) := bc BK179 1; have hcz51_2 : w44.cell? ⟨gb179, 2, none⟩ = some (.int .i64 t174) := bc BK179 2; have hcz51_3 : w44.cell? ⟨gb179, 3, none⟩ = some (.int .i64 t175) := bc BK179 3; have hcz51_4 : w44.cell? ⟨gb179, 4, none⟩ = some (.int .i64 t176) := bc BK179 4; have hcz51_5 : w44.cell? ⟨gb179, 5, none⟩ = some (.int .i64 t177) := bc BK179 5; have hfz51_0 := blk_frozen BK179.out 0; have hfz51_1 := blk_frozen BK179.out 1; have hfz51_2 := blk_frozen BK179.out 2; have hfz51_3 := blk_frozen BK179.out 3; have hfz51_4 := blk_frozen BK179.out 4; have hfz51_5 := blk_frozen BK179.out 5) | ((with_reducible refine gate_callee (f := 17) rfl ?_); refine goesL_ (some 44) rfl rfl Try.func17 (by kernel_rfl) rfl #[.agg #[.int .i64 t163, .int .i64 t164], .agg #[.string t172, .int .i64 t173, .int .i64 t174, .int .i64 t175, .int .i64 t176, .int .i64 t177], .int .i64 t165, .int .i64 t166, .int .i64 t167, .int .i64 t168, .int .i64 t169, .int .i64 t170, .int .i64 t171] rfl (by (try simp only [List.map_toArray, List.map_cons, List.map_nil]); first | done | rfl | (simp only [List.length_drop, List.length_take]; rfl)) ?_; (with_reducible refine (damperref10_Decide.calls k t163 t164 t172 t173 t174 t175 t176 t177 t165 t166 t167 t168 t169 t170 t171 t183 t184 _ A10.out).mono ?_); rintro e w52 ⟨rfl, hb⟩; refine ⟨_, rfl, ?_⟩; have n0_ := Aside0.mk (blk_below (g := gb160) (o := .cells #[.int .i64 a0_0, .int .i64 a0_1, .int .i64 a0_2, .int .i64 a0_3, .int .i64 a0_4, .int .i64 a0_5, .int .i64 a0_6, .int .i64 a0_7, .int .i64 a0_8] 23 (0, 0)) (by (repeat ((with_reducible repeat (first | refine blk_drewN ?_ _ | refine blk_drew ?_ | refine blk_alloc ?_ _)); refine blk_far ?_ NB160_182.out _)); (with_reducible repeat (first | refine blk_drewN ?_ _ | refine blk_drew ?_ | refine blk_alloc ?_ _)); exact BK160.out) hb); have n1_ := Aside0.mk (blk_below (g := gb161) (o := .cells #[.string a1_0, .int .i64 a1_1, .int .i64 a1_2, .int .i64 a1_3, .int .i64 a1_4, .int .i64 a1_5] 25 (0, 0)) (by (repeat ((with_reducible repeat (first | refine blk_drewN ?_ _ | refine blk_drew ?_ | refine blk_alloc ?_ _)); refine blk_far ?_ NB161_182.out _)); (with_reducible repeat (first | refine blk_drewN ?_ _ | refine blk_drew ?_ | refine blk_alloc ?_ _)); exact BK161.out) hb); have n2_ := Aside0.mk (blk_below (g := gb178) (o := .cells #[.int .i64 t163, .int .i64 t164, .int .i64 t165, .int .i64 t166, .int .i64 t167, .int .i64 t168, .int .i64 t169, .int .i64 t170, .int .i64 t171] 23 (0, 0)) (by (repeat ((with_reducible repeat (first | refine blk_drewN ?_ _ | refine blk_drew ?_ | refine blk_alloc ?_ _)); refine blk_far ?_ NB178_182.out _)); (with_reducible repeat (first | refine blk_drewN ?_ _ | refine blk_drew ?_ | refine blk_alloc ?_ _)); exact BK178.out) hb); have n3_ := Aside0.mk (blk_below (g := gb179) (o := .cells #[.string t172, .int .i64 t173, .int .i64 t174, .int .i64 t175, .int .i64 t176, .int .i64 t177] 25 (0, 0)) (by (repeat ((with_reducible repeat (first | refine blk_drewN ?_ _ | refine blk_drew ?_ | refine blk_alloc ?_ _)); refine blk_far ?_ NB179_182.out _)); (with_reducible repeat (first | refine blk_drewN ?_ _ | refine blk_drew ?_ | refine blk_alloc ?_ _)); exact BK179.out) hb); have n4_ := Aside0.mk (blk_below (g := gb182) (o := .cells #[.int .i64 t180, .int .i64 t181] 30 (0, 0)) (by (with_reducible repeat (first | refine blk_drewN ?_ _ | refine blk_drew ?_ | refine blk_alloc ?_ _)); refine blk_put (cs := #[.int .i64 t180, .int .i64 0]) ?_ 1 _ rfl; refine blk_put (cs := #[.int .i64 0, .int .i64 0]) ?_ 0 _ rfl; (with_reducible repeat (first | refine blk_drewN ?_ _ | refine blk_drew ?_ | refine blk_alloc ?_ _)); exact BK182.out) hb); have n5_ := Aside0.mk (below_step (by repeat (first | (with_reducible first | exact HB.out | apply below_alloc | apply pw_below_drewN | apply below_drew1 | refine below_set ?_ GE160.out | refine below_set ?_ GE161.out | refine below_set ?_ GE178.out | refine below_set ?_ GE179.out | refine below_set ?_ GE182.out) | exact HB.out)) hb); clear BK160; clear BK161; clear BK178; clear BK179; clear BK182; clear HB; have BK160 := n0_; have BK161 := n1_; have BK178 := n2_; have BK179 := n3_; have BK182 := n4_; have HB := n5_; clear n0_ n1_ n2_ n3_ n4_ n5_; (try clear hb); (try clear hb2); (try clear hk); (try clear hi)) | ((with_reducible refine gate_dst (N := 12) rfl ?_); refine box_event ?hg (N := 12) ?hd (cs := #[.int .i64 0, .int .i64 0]) (t := 32) ?hr ?_; (case hd => rfl); (case hg => rfl); (case hr => first | (go_simp; done) | (go_simp; rfl)); intro gb185 hg w53 hbox hb; have n0_ := Aside0.mk (blk_below (g := gb160) (pk BK160) hb); have n1_ := Aside0.mk (blk_below (g := gb161) (pk BK161) hb); have n2_ := Aside0.mk (blk_below (g := gb178) (pk BK178) hb); have n3_ := Aside0.mk (blk_below (g := gb179) (pk BK179) hb); have n4_ := Aside0.mk (blk_below (g := gb182) (pk BK182) hb); have n5_ := Aside0.mk (below_step (by repeat (first | (with_reducible first | exact HB.out | apply below_alloc | apply pw_below_drewN | apply below_drew1 | refine below_set ?_ GE160.out | refine below_set ?_ GE161.out | refine below_set ?_ GE178.out | refine below_set ?_ GE179.out | refine below_set ?_ GE182.out) | exact HB.out)) hb); have n6_ := Aside0.mk (hbox); have n7_ := Aside0.mk ((by rw [hg]; exact (below_size (by repeat (first | (with_reducible first | exact HB.out | apply below_alloc | apply pw_below_drewN | apply below_drew1 | refine below_set ?_ GE160.out | refine below_set ?_ GE161.out | refine below_set ?_ GE178.out | refine below_set ?_ GE179.out | refine below_set ?_ GE182.out) | exact HB.out))) : w.heap.size ≤ gb185)); have n8_ := Aside0.mk ((by rw [hg]; exact (below_size (by repeat (first | (with_reducible first | exact HB.out | apply below_alloc | apply pw_below_drewN | apply below_drew1 | refine below_set ?_ GE160.out | refine below_set ?_ GE161.out | refine below_set ?_ GE178.out | refine below_set ?_ GE179.out | refine below_set ?_ GE182.out) | exact HB.out))) : w.heap.size ≤ gb185)); have n9_ := Aside0.mk ((ne_lt hg (pk BK160) : gb160 ≠ gb185)); have n10_ := Aside0.mk ((ne_gt hg (pk BK160) : gb185 ≠ gb160)); have n11_ := Aside0.mk ((ne_lt hg (pk BK161) : gb161 ≠ gb185)); have n12_ := Aside0.mk ((ne_gt hg (pk BK161) : gb185 ≠ gb161)); have n13_ := Aside0.mk ((ne_lt hg (pk BK178) : gb178 ≠ gb185)); have n14_ := Aside0.mk ((ne_gt hg (pk BK178) : gb185 ≠ gb178)); have n15_ := Aside0.mk ((ne_lt hg (pk BK179) : gb179 ≠ gb185)); have n16_ := Aside0.mk ((ne_gt hg (pk BK179) : gb185 ≠ gb179)); have n17_ := Aside0.mk ((ne_lt hg (pk BK182) : gb182 ≠ gb185)); have n18_ := Aside0.mk ((ne_gt hg (pk BK182) : gb185 ≠ gb182)); clear BK160; clear BK161; clear BK178; clear BK179; clear BK182; clear HB; have BK160 := n0_; have BK161 := n1_; have BK178 := n2_; have BK179 := n3_; have BK182 := n4_; have HB := n5_; have BK185 := n6_; have GW185 := n7_; have GE185 := n8_; have NB160_185 := n9_; have NB185_160 := n10_; have NB161_185 := n11_; have NB185_161 := n12_; have NB178_185 := n13_; have NB185_178 := n14_; have NB179_185 := n15_; have NB185_179 := n16_; have NB182_185 := n17_; have NB185_182 := n18_; clear n0_ n1_ n2_ n3_ n4_ n5_ n6_ n7_ n8_ n9_ n10_ n11_ n12_ n13_ n14_ n15_ n16_ n17_ n18_; clear hb hbox hg; have hnb54 := NB185_160.out; have hnc54 := NB160_185.out; have hnb55 := NB185_161.out; have hnc55 := NB161_185.out; have hnb56 := NB185_178.out; have hnc56 := NB178_185.out; have hnb57 := NB185_179.out; have hnc57 := NB179_185.out; have hnb58 := NB185_182.out; have hnc58 := NB182_185.out; have hcz59_0 : w53.cell? ⟨gb185, 0, none⟩ = some (.int .i64 0) := bc BK185 0; have hcz59_1 : w53.cell? ⟨gb185, 1, none⟩ = some (.int .i64 0) := bc BK185 1; have hfz59_0 := blk_frozen BK185.out 0; have hfz59_1 := blk_frozen BK185.out 1))
      (try simp only [Act.put, List.setIfInBounds_toArray, List.set_cons_zero, List.set_cons_succ])
      go_cut [13, 14] (fun v13 v14 wc => ∃ (kq : Nat) (x13_10 : Int) (x14_10 : Int), v13 = .int .i64 x13_10 ∧ v14 = .int .i64 x14_10 ∧ Aside0 (damperlaw10_ScaleDecides.j0 kq a3 x13_10 x14_10 t172 t173 t174 t175 t176 t177 t180 t181 t183 t184 = some r) ∧ Aside0 (kq ≤ k) ∧ Aside0 (wc.heap[gb160]? = some (.cells #[.int .i64 a0_0, .int .i64 a0_1, .int .i64 a0_2, .int .i64 a0_3, .int .i64 a0_4, .int .i64 a0_5, .int .i64 a0_6, .int .i64 a0_7, .int .i64 a0_8] 23 (0, 0))) ∧ Aside0 (wc.heap[gb161]? = some (.cells #[.string a1_0, .int .i64 a1_1, .int .i64 a1_2, .int .i64 a1_3, .int .i64 a1_4, .int .i64 a1_5] 25 (0, 0))) ∧ Aside0 (wc.heap[gb178]? = some (.cells #[.int .i64 t163, .int .i64 t164, .int .i64 t165, .int .i64 t166, .int .i64 t167, .int .i64 t168, .int .i64 t169, .int .i64 t170, .int .i64 t171] 23 (0, 0))) ∧ Aside0 (wc.heap[gb179]? = some (.cells #[.string t172, .int .i64 t173, .int .i64 t174, .int .i64 t175, .int .i64 t176, .int .i64 t177] 25 (0, 0))) ∧ Aside0 (wc.heap[gb182]? = some (.cells #[.int .i64 t180, .int .i64 t181] 30 (0, 0))) ∧ Aside0 (wc.heap[gb185]? = some (.cells #[.int .i64 t183, .int .i64 t184] 32 (0, 0))) ∧ Aside0 (Below w.heap.size w wc))
      case first =>
        have H := HC11.out
        clear HC11
        replace H := Option.bind_eq_some_iff.mp H
        obtain ⟨t186, A600, H⟩ := H
        replace H : ((damperlaw10_within.f a3 10000001).bind fun t187 => (damperlaw10_ScaleDecides.j0 k a3 t186 t187 t172 t173 t174 t175 t176 t177 t180 t181 t183 t184)) = some r := H
        have A60 := Aside0.mk A600
        clear A600
        replace H := Option.bind_eq_some_iff.mp H
        obtain ⟨t187, A610, H⟩ := H
        replace H : (damperlaw10_ScaleDecides.j0 k a3 t186 t187 t172 t173 t174 t175 t176 t177 t180 t181 t183 t184) = some r := H
        have A61 := Aside0.mk A610
        clear A610
        have H' := Aside0.mk H
        clear H
        go_wp2_with (first | ((with_reducible refine gate_callee (f := 18) rfl ?_); refine goesL_ (some 46) rfl rfl Try.func18 (by kernel_rfl) rfl #[.int .i64 a2, .int .i64 10000001] rfl (by (try simp only [List.map_toArray, List.map_cons, List.map_nil]); first | done | rfl | (simp only [List.length_drop, List.length_take]; rfl)) ?_; (with_reducible refine (damperlaw10_within.calls a2 10000001 t186 _ A60.out).mono ?_); rintro e w' ⟨rfl, ⟨nd, rfl⟩⟩; refine ⟨_, rfl, ?_⟩) | ((with_reducible refine gate_callee (f := 18) rfl ?_); refine goesL_ (some 48) rfl rfl Try.func18 (by kernel_rfl) rfl #[.int .i64 a3, .int .i64 10000001] rfl (by (try simp only [List.map_toArray, List.map_cons, List.map_nil]); first | done | rfl | (simp only [List.length_drop, List.length_take]; rfl)) ?_; (with_reducible refine (damperlaw10_within.calls a3 10000001 t187 _ A61.out).mono ?_); rintro e w' ⟨rfl, ⟨nd, rfl⟩⟩; refine ⟨_, rfl, ?_⟩))
        go_meet
        case rel => exact ⟨_, (t186), (t187), (by first | rfl | (simp; done) | (simp [*]; done)), (by first | rfl | (simp; done) | (simp [*]; done)), H', ⟨by first | omega | exact Nat.le_refl _⟩, ⟨by (repeat ((with_reducible repeat (first | refine blk_drewN ?_ _ | refine blk_drew ?_ | refine blk_alloc ?_ _)); refine blk_far ?_ NB160_185.out _)); (with_reducible repeat (first | refine blk_drewN ?_ _ | refine blk_drew ?_ | refine blk_alloc ?_ _)); exact BK160.out⟩, ⟨by (repeat ((with_reducible repeat (first | refine blk_drewN ?_ _ | refine blk_drew ?_ | refine blk_alloc ?_ _)); refine blk_far ?_ NB161_185.out _)); (with_reducible repeat (first | refine blk_drewN ?_ _ | refine blk_drew ?_ | refine blk_alloc ?_ _)); exact BK161.out⟩, ⟨by (repeat ((with_reducible repeat (first | refine blk_drewN ?_ _ | refine blk_drew ?_ | refine blk_alloc ?_ _)); refine blk_far ?_ NB178_185.out _)); (with_reducible repeat (first | refine blk_drewN ?_ _ | refine blk_drew ?_ | refine blk_alloc ?_ _)); exact BK178.out⟩, ⟨by (repeat ((with_reducible repeat (first | refine blk_drewN ?_ _ | refine blk_drew ?_ | refine blk_alloc ?_ _)); refine blk_far ?_ NB179_185.out _)); (with_reducible repeat (first | refine blk_drewN ?_ _ | refine blk_drew ?_ | refine blk_alloc ?_ _)); exact BK179.out⟩, ⟨by (repeat ((with_reducible repeat (first | refine blk_drewN ?_ _ | refine blk_drew ?_ | refine blk_alloc ?_ _)); refine blk_far ?_ NB182_185.out _)); (with_reducible repeat (first | refine blk_drewN ?_ _ | refine blk_drew ?_ | refine blk_alloc ?_ _)); exact BK182.out⟩, ⟨by (with_reducible repeat (first | refine blk_drewN ?_ _ | refine blk_drew ?_ | refine blk_alloc ?_ _)); refine blk_put (cs := #[.int .i64 t183, .int .i64 0]) ?_ 1 _ rfl; refine blk_put (cs := #[.int .i64 0, .int .i64 0]) ?_ 0 _ rfl; (with_reducible repeat (first | refine blk_drewN ?_ _ | refine blk_drew ?_ | refine blk_alloc ?_ _)); exact BK185.out⟩, ⟨by repeat (first | (with_reducible first | exact HB.out | apply below_alloc | apply pw_below_drewN | apply below_drew1 | refine below_set ?_ GE160.out | refine below_set ?_ GE161.out | refine below_set ?_ GE178.out | refine below_set ?_ GE179.out | refine below_set ?_ GE182.out | refine below_set ?_ GE185.out) | exact HB.out)⟩⟩
      case rest =>
        clear HC11
        try clear c1
        try clear p2
        try clear c3
        try clear c4
        try clear c5
        try clear c15
        try clear c16
        try clear c17
        try clear c18
        try clear c36
        try clear c37
        try clear c38
        try clear c40
        try clear c41
        try clear c45
        try clear c46
        try clear c47
        try clear c48
        try clear c54
        try clear c55
        try clear c56
        try clear c57
        try clear c58
        try clear hcz39_0
        try clear hcz39_1
        try clear hcz39_2
        try clear hcz39_3
        try clear hcz39_4
        try clear hcz39_5
        try clear hcz39_6
        try clear hcz39_7
        try clear hcz39_8
        try clear hcz42_0
        try clear hcz42_1
        try clear hcz42_2
        try clear hcz42_3
        try clear hcz42_4
        try clear hcz42_5
        try clear hcz49_0
        try clear hcz49_1
        try clear hcz50_0
        try clear hcz50_1
        try clear hcz50_2
        try clear hcz50_3
        try clear hcz50_4
        try clear hcz50_5
        try clear hcz50_6
        try clear hcz50_7
        try clear hcz50_8
        try clear hcz51_0
        try clear hcz51_1
        try clear hcz51_2
        try clear hcz51_3
        try clear hcz51_4
        try clear hcz51_5
        try clear hcz59_0
        try clear hcz59_1
        try clear hfz39_0
        try clear hfz39_1
        try clear hfz39_2
        try clear hfz39_3
        try clear hfz39_4
        try clear hfz39_5
        try clear hfz39_6
        try clear hfz39_7
        try clear hfz39_8
        try clear hfz42_0
        try clear hfz42_1
        try clear hfz42_2
        try clear hfz42_3
        try clear hfz42_4
        try clear hfz42_5
        try clear hfz49_0
        try clear hfz49_1
        try clear hfz50_0
        try clear hfz50_1
        try clear hfz50_2
        try clear hfz50_3
        try clear hfz50_4
        try clear hfz50_5
        try clear hfz50_6
        try clear hfz50_7
        try clear hfz50_8
        try clear hfz51_0
        try clear hfz51_1
        try clear hfz51_2
        try clear hfz51_3
        try clear hfz51_4
        try clear hfz51_5
        try clear hfz59_0
        try clear hfz59_1
        obtain ⟨kq, x13_10, x14_10, rfl, rfl, HA, HJ10, BK160, BK161, BK178, BK179, BK182, BK185, HB⟩ := hcut
        cases kq with
        | zero => exact absurd HA.out (by simp [damperlaw10_ScaleDecides.j0])
        | succ kj10 =>
          have H := HA.out
          clear HA
          simp only [damperlaw10_ScaleDecides.j0] at H
          by_cases c62 : t180 = t183
          · rw [if_pos c62] at H
            have c62b0 : (t180 == t183) = true := beq_iff_eq.mpr c62
            have c62b1 : (t180 != t183) = false := bne_eq_false_iff_eq.mpr c62
            clear c62
            by_cases c63 : t181 = t184
            · rw [if_pos c63] at H
              have c63b0 : (t181 == t184) = true := beq_iff_eq.mpr c63
              have c63b1 : (t181 != t184) = false := bne_eq_false_iff_eq.mpr c63
              clear c63
              replace H := Option.bind_eq_some_iff.mp H
              obtain ⟨t188, A640, H⟩ := H
              replace H : ((damperref10_Need.f x13_10 x14_10 t174).bind fun t189 => (if t188 = t189 then ((damperlaw10_within.f a3 9).bind fun t190 => ((scale_Need.f x13_10 t190 t174).bind fun t191 => ((damperlaw10_within.f a3 9).bind fun t192 => ((damperref10_Need.f x13_10 t192 t174).bind fun t193 => (some (t191 == t193)))))) else (some false))) = some r := H
              have A64 := Aside0.mk A640
              clear A640
              replace H := Option.bind_eq_some_iff.mp H
              obtain ⟨t189, A650, H⟩ := H
              replace H : (if t188 = t189 then ((damperlaw10_within.f a3 9).bind fun t190 => ((scale_Need.f x13_10 t190 t174).bind fun t191 => ((damperlaw10_within.f a3 9).bind fun t192 => ((damperref10_Need.f x13_10 t192 t174).bind fun t193 => (some (t191 == t193)))))) else (some false)) = some r := H
              have A65 := Aside0.mk A650
              clear A650
              by_cases c66 : t188 = t189
              · rw [if_pos c66] at H
                have c66b0 : (t188 == t189) = true := beq_iff_eq.mpr c66
                have c66b1 : (t188 != t189) = false := bne_eq_false_iff_eq.mpr c66
                clear c66
                replace H := Option.bind_eq_some_iff.mp H
                obtain ⟨t190, A670, H⟩ := H
                replace H : ((scale_Need.f x13_10 t190 t174).bind fun t191 => ((damperlaw10_within.f a3 9).bind fun t192 => ((damperref10_Need.f x13_10 t192 t174).bind fun t193 => (some (t191 == t193))))) = some r := H
                have A67 := Aside0.mk A670
                clear A670
                replace H := Option.bind_eq_some_iff.mp H
                obtain ⟨t191, A680, H⟩ := H
                replace H : ((damperlaw10_within.f a3 9).bind fun t192 => ((damperref10_Need.f x13_10 t192 t174).bind fun t193 => (some (t191 == t193)))) = some r := H
                have A68 := Aside0.mk A680
                clear A680
                replace H := Option.bind_eq_some_iff.mp H
                obtain ⟨t192, A690, H⟩ := H
                replace H : ((damperref10_Need.f x13_10 t192 t174).bind fun t193 => (some (t191 == t193))) = some r := H
                have A69 := Aside0.mk A690
                clear A690
                replace H := Option.bind_eq_some_iff.mp H
                obtain ⟨t193, A700, H⟩ := H
                replace H : (some (t191 == t193)) = some r := H
                have A70 := Aside0.mk A700
                clear A700
                obtain rfl := Option.some.inj H
                try go_wp2
                replace BK160 := Aside0.mk (blk_drew BK160.out)
                replace BK161 := Aside0.mk (blk_drew BK161.out)
                replace BK178 := Aside0.mk (blk_drew BK178.out)
                replace BK179 := Aside0.mk (blk_drew BK179.out)
                replace BK182 := Aside0.mk (blk_drew BK182.out)
                replace BK185 := Aside0.mk (blk_drew BK185.out)
                replace HB := Aside0.mk (below_drew1 HB.out)
                refine start_ (n := 41) (S := fun w' => w'.cell? ⟨gb182, 0, none⟩ = some (.int .i64 t180) ∧ w'.cell? ⟨gb182, 1, none⟩ = some (.int .i64 t181) ∧ w'.cell? ⟨gb185, 0, none⟩ = some (.int .i64 t183) ∧ w'.cell? ⟨gb185, 1, none⟩ = some (.int .i64 t184) ∧ w'.cell? ⟨gb179, 0, none⟩ = some (.string t172) ∧ w'.cell? ⟨gb179, 1, none⟩ = some (.int .i64 t173) ∧ w'.cell? ⟨gb179, 2, none⟩ = some (.int .i64 t174) ∧ w'.cell? ⟨gb179, 3, none⟩ = some (.int .i64 t175) ∧ w'.cell? ⟨gb179, 4, none⟩ = some (.int .i64 t176) ∧ w'.cell? ⟨gb179, 5, none⟩ = some (.int .i64 t177)) (ds := []) #[false, false, false, false, false, false, false, false, false, false, false, false, false, false, false, false, false, false, false, false, false, false, false, false, false, false, false, false, false, false, false, false, false, false, false, false, false, false, false, false, false] (by kernel_rfl) rfl rfl ⟨bc BK182 0, bc BK182 1, bc BK185 0, bc BK185 1, bc BK179 0, bc BK179 1, bc BK179 2, bc BK179 3, bc BK179 4, bc BK179 5⟩ (fun hHeld => ?_); refine with_tabW damperlaw10_ScaleDecides.tab7 damperlaw10_ScaleDecides.bits7 (fun HT_ HW_ => ?_)
                generalize wc.drew = w71 at BK160 BK161 BK178 BK179 BK182 BK185 HB hHeld ⊢
                refine pure_ (i := 0) (N := some 49) (v := ?_) (a' := ?_) #[true, false, false, false, false, false, false, false, false, false, false, false, false, false, false, false, false, false, false, false, false, false, false, false, false, false, false, false, false, false, false, false, false, false, false, false, false, false, false, false, false] rfl rfl (any_of HT_.out (by kernel_rfl)) (fun _ _ _ h => h) (Or.inl ⟨by rfl, ?_⟩) ?_ ?_
                rotate_left
                · intro w'
                  go_simp
                  with_reducible rfl
                rotate_left
                · simp only [Act.put, List.setIfInBounds_toArray, List.set_cons_zero, List.set_cons_succ, i64_w, i32_w]
                  rfl
                refine pure_ (i := 2) (N := some 51) (v := ?_) (a' := ?_) #[true, false, true, false, false, false, false, false, false, false, false, false, false, false, false, false, false, false, false, false, false, false, false, false, false, false, false, false, false, false, false, false, false, false, false, false, false, false, false, false, false] rfl rfl (any_of HT_.out (by kernel_rfl)) (fun _ _ _ h => h) (Or.inl ⟨by rfl, ?_⟩) ?_ ?_
                rotate_left
                · intro w'
                  go_simp
                  with_reducible rfl
                rotate_left
                · simp only [Act.put, List.setIfInBounds_toArray, List.set_cons_zero, List.set_cons_succ, i64_w, i32_w]
                  rfl
                refine take_ (i := 1) (N := some 50) (v := ?_) (a' := ?_) #[true, true, true, false, false, false, false, false, false, false, false, false, false, false, false, false, false, false, false, false, false, false, false, false, false, false, false, false, false, false, false, false, false, false, false, false, false, false, false, false, false] rfl rfl (take_ofW HT_.out HW_.out (by kernel_rfl)) (fun _ _ _ h => h) (Or.inl ⟨by rfl, ?_⟩) hHeld ?_ ?_
                rotate_left
                · rintro w' ⟨s0, s1, s2, s3, s4, s5, s6, s7, s8, s9⟩
                  go_simp
                  with_reducible rfl
                rotate_left
                · simp only [Act.put, List.setIfInBounds_toArray, List.set_cons_zero, List.set_cons_succ, i64_w, i32_w]
                  rfl
                refine take_ (i := 3) (N := some 52) (v := ?_) (a' := ?_) #[true, true, true, true, false, false, false, false, false, false, false, false, false, false, false, false, false, false, false, false, false, false, false, false, false, false, false, false, false, false, false, false, false, false, false, false, false, false, false, false, false] rfl rfl (take_ofW HT_.out HW_.out (by kernel_rfl)) (fun _ _ _ h => h) (Or.inl ⟨by rfl, ?_⟩) hHeld ?_ ?_
                rotate_left
                · rintro w' ⟨s0, s1, s2, s3, s4, s5, s6, s7, s8, s9⟩
                  go_simp
                  with_reducible rfl
                rotate_left
                · simp only [Act.put, List.setIfInBounds_toArray, List.set_cons_zero, List.set_cons_succ, i64_w, i32_w]
                  rfl
                refine pure_ (i := 4) (N := some 53) (v := ?_) (a' := ?_) #[true, true, true, true, true, false, false, false, false, false, false, false, false, false, false, false, false, false, false, false, false, false, false, false, false, false, false, false, false, false, false, false, false, false, false, false, false, false, false, false, false] rfl rfl (any_of HT_.out (by kernel_rfl)) (fun _ _ _ h => h) (Or.inl ⟨by rfl, ?_⟩) ?_ ?_
                rotate_left
                · intro w'
                  go_simp
                  with_reducible rfl
                rotate_left
                · simp only [Act.put, List.setIfInBounds_toArray, List.set_cons_zero, List.set_cons_succ, i64_w, i32_w]
                  rfl
                refine pure_ (i := 5) (N := some 54) (v := ?_) (a' := ?_) #[true, true, true, true, true, true, false, false, false, false, false, false, false, false, false, false, false, false, false, false, false, false, false, false, false, false, false, false, false, false, false, false, false, false, false, false, false, false, false, false, false] rfl rfl (any_of HT_.out (by kernel_rfl)) (fun _ _ _ h => h) (Or.inl ⟨by rfl, ?_⟩) ?_ ?_
                rotate_left
                · intro w'
                  go_simp
                  with_reducible rfl
                rotate_left
                · simp only [Act.put, List.setIfInBounds_toArray, List.set_cons_zero, List.set_cons_succ, i64_w, i32_w]
                  rfl
                refine pure_ (i := 6) (N := some 55) (v := ?_) (a' := ?_) #[true, true, true, true, true, true, true, false, false, false, false, false, false, false, false, false, false, false, false, false, false, false, false, false, false, false, false, false, false, false, false, false, false, false, false, false, false, false, false, false, false] rfl rfl (any_of HT_.out (by kernel_rfl)) (fun _ _ _ h => h) (Or.inl ⟨by rfl, ?_⟩) ?_ ?_
                rotate_left
                · intro w'
                  go_simp
                  with_reducible rfl
                rotate_left
                · simp only [Act.put, List.setIfInBounds_toArray, List.set_cons_zero, List.set_cons_succ, i64_w, i32_w]
                  rfl
                refine pure_ (i := 8) (N := some 57) (v := ?_) (a' := ?_) #[true, true, true, true, true, true, true, false, true, false, false, false, false, false, false, false, false, false, false, false, false, false, false, false, false, false, false, false, false, false, false, false, false, false, false, false, false, false, false, false, false] rfl rfl (any_of HT_.out (by kernel_rfl)) (fun _ _ _ h => h) (Or.inl ⟨by rfl, ?_⟩) ?_ ?_
                rotate_left
                · intro w'
                  go_simp
                  with_reducible rfl
                rotate_left
                · simp only [Act.put, List.setIfInBounds_toArray, List.set_cons_zero, List.set_cons_succ, i64_w, i32_w]
                  rfl
                refine take_ (i := 7) (N := some 56) (v := ?_) (a' := ?_) #[true, true, true, true, true, true, true, true, true, false, false, false, false, false, false, false, false, false, false, false, false, false, false, false, false, false, false, false, false, false, false, false, false, false, false, false, false, false, false, false, false] rfl rfl (take_ofW HT_.out HW_.out (by kernel_rfl)) (fun _ _ _ h => h) (Or.inl ⟨by rfl, ?_⟩) hHeld ?_ ?_
                rotate_left
                · rintro w' ⟨s0, s1, s2, s3, s4, s5, s6, s7, s8, s9⟩
                  go_simp
                  with_reducible rfl
                rotate_left
                · simp only [Act.put, List.setIfInBounds_toArray, List.set_cons_zero, List.set_cons_succ, i64_w, i32_w]
                  rfl
                refine take_ (i := 9) (N := some 58) (v := ?_) (a' := ?_) #[true, true, true, true, true, true, true, true, true, true, false, false, false, false, false, false, false, false, false, false, false, false, false, false, false, false, false, false, false, false, false, false, false, false, false, false, false, false, false, false, false] rfl rfl (take_ofW HT_.out HW_.out (by kernel_rfl)) (fun _ _ _ h => h) (Or.inl ⟨by rfl, ?_⟩) hHeld ?_ ?_
                rotate_left
                · rintro w' ⟨s0, s1, s2, s3, s4, s5, s6, s7, s8, s9⟩
                  go_simp
                  with_reducible rfl
                rotate_left
                · simp only [Act.put, List.setIfInBounds_toArray, List.set_cons_zero, List.set_cons_succ, i64_w, i32_w]
                  rfl
                refine pure_ (i := 10) (N := some 59) (v := ?_) (a' := ?_) #[true, true, true, true, true, true, true, true, true, true, true, false, false, false, false, false, false, false, false, false, false, false, false, false, false, false, false, false, false, false, false, false, false, false, false, false, false, false, false, false, false] rfl rfl (any_of HT_.out (by kernel_rfl)) (fun _ _ _ h => h) (Or.inl ⟨by rfl, ?_⟩) ?_ ?_
                rotate_left
                · intro w'
                  go_simp
                  with_reducible rfl
                rotate_left
                · simp only [Act.put, List.setIfInBounds_toArray, List.set_cons_zero, List.set_cons_succ, i64_w, i32_w]
                  rfl
                refine pure_ (i := 11) (N := some 60) (v := ?_) (a' := ?_) #[true, true, true, true, true, true, true, true, true, true, true, true, false, false, false, false, false, false, false, false, false, false, false, false, false, false, false, false, false, false, false, false, false, false, false, false, false, false, false, false, false] rfl rfl (any_of HT_.out (by kernel_rfl)) (fun _ _ _ h => h) (Or.inl ⟨by rfl, ?_⟩) ?_ ?_
                rotate_left
                · intro w'
                  go_simp
                  with_reducible rfl
                rotate_left
                · simp only [Act.put, List.setIfInBounds_toArray, List.set_cons_zero, List.set_cons_succ, i64_w, i32_w]
                  rfl
                refine pure_ (i := 12) (N := some 61) (v := ?_) (a' := ?_) #[true, true, true, true, true, true, true, true, true, true, true, true, true, false, false, false, false, false, false, false, false, false, false, false, false, false, false, false, false, false, false, false, false, false, false, false, false, false, false, false, false] rfl rfl (any_of HT_.out (by kernel_rfl)) (fun _ _ _ h => h) (Or.inl ⟨by rfl, ?_⟩) ?_ ?_
                rotate_left
                · intro w'
                  go_simp
                  with_reducible rfl
                rotate_left
                · simp only [Act.put, List.setIfInBounds_toArray, List.set_cons_zero, List.set_cons_succ, i64_w, i32_w]
                  rfl
                refine pure_ (i := 13) (N := some 62) (v := ?_) (a' := ?_) #[true, true, true, true, true, true, true, true, true, true, true, true, true, true, false, false, false, false, false, false, false, false, false, false, false, false, false, false, false, false, false, false, false, false, false, false, false, false, false, false, false] rfl rfl (any_of HT_.out (by kernel_rfl)) (fun _ _ _ h => h) (Or.inl ⟨by rfl, ?_⟩) ?_ ?_
                rotate_left
                · intro w'
                  go_simp
                  with_reducible rfl
                rotate_left
                · simp only [Act.put, List.setIfInBounds_toArray, List.set_cons_zero, List.set_cons_succ, i64_w, i32_w]
                  rfl
                refine pure_ (i := 14) (N := some 63) (v := ?_) (a' := ?_) #[true, true, true, true, true, true, true, true, true, true, true, true, true, true, true, false, false, false, false, false, false, false, false, false, false, false, false, false, false, false, false, false, false, false, false, false, false, false, false, false, false] rfl rfl (any_of HT_.out (by kernel_rfl)) (fun _ _ _ h => h) (Or.inl ⟨by rfl, ?_⟩) ?_ ?_
                rotate_left
                · intro w'
                  go_simp
                  with_reducible rfl
                rotate_left
                · simp only [Act.put, List.setIfInBounds_toArray, List.set_cons_zero, List.set_cons_succ, i64_w, i32_w]
                  rfl
                refine pure_ (i := 15) (N := some 64) (v := ?_) (a' := ?_) #[true, true, true, true, true, true, true, true, true, true, true, true, true, true, true, true, false, false, false, false, false, false, false, false, false, false, false, false, false, false, false, false, false, false, false, false, false, false, false, false, false] rfl rfl (any_of HT_.out (by kernel_rfl)) (fun _ _ _ h => h) (Or.inl ⟨by rfl, ?_⟩) ?_ ?_
                rotate_left
                · intro w'
                  go_simp
                  with_reducible rfl
                rotate_left
                · simp only [Act.put, List.setIfInBounds_toArray, List.set_cons_zero, List.set_cons_succ, i64_w, i32_w]
                  rfl
                refine pure_ (i := 18) (N := some 67) (v := ?_) (a' := ?_) #[true, true, true, true, true, true, true, true, true, true, true, true, true, true, true, true, false, false, true, false, false, false, false, false, false, false, false, false, false, false, false, false, false, false, false, false, false, false, false, false, false] rfl rfl (any_of HT_.out (by kernel_rfl)) (fun _ _ _ h => h) (Or.inl ⟨by rfl, ?_⟩) ?_ ?_
                rotate_left
                · intro w'
                  go_simp
                  with_reducible rfl
                rotate_left
                · simp only [Act.put, List.setIfInBounds_toArray, List.set_cons_zero, List.set_cons_succ, i64_w, i32_w]
                  rfl
                refine pure_ (i := 19) (N := some 68) (v := ?_) (a' := ?_) #[true, true, true, true, true, true, true, true, true, true, true, true, true, true, true, true, false, false, true, true, false, false, false, false, false, false, false, false, false, false, false, false, false, false, false, false, false, false, false, false, false] rfl rfl (any_of HT_.out (by kernel_rfl)) (fun _ _ _ h => h) (Or.inl ⟨by rfl, ?_⟩) ?_ ?_
                rotate_left
                · intro w'
                  go_simp
                  with_reducible rfl
                rotate_left
                · simp only [Act.put, List.setIfInBounds_toArray, List.set_cons_zero, List.set_cons_succ, i64_w, i32_w]
                  rfl
                refine pure_ (i := 20) (N := some 69) (v := ?_) (a' := ?_) #[true, true, true, true, true, true, true, true, true, true, true, true, true, true, true, true, false, false, true, true, true, false, false, false, false, false, false, false, false, false, false, false, false, false, false, false, false, false, false, false, false] rfl rfl (any_of HT_.out (by kernel_rfl)) (fun _ _ _ h => h) (Or.inl ⟨by rfl, ?_⟩) ?_ ?_
                rotate_left
                · intro w'
                  go_simp
                  with_reducible rfl
                rotate_left
                · simp only [Act.put, List.setIfInBounds_toArray, List.set_cons_zero, List.set_cons_succ, i64_w, i32_w]
                  rfl
                refine take_ (i := 16) (N := some 65) (v := ?_) (a' := ?_) #[true, true, true, true, true, true, true, true, true, true, true, true, true, true, true, true, true, false, true, true, true, false, false, false, false, false, false, false, false, false, false, false, false, false, false, false, false, false, false, false, false] rfl rfl (take_ofW HT_.out HW_.out (by kernel_rfl)) (fun _ _ _ h => h) (Or.inl ⟨by rfl, ?_⟩) hHeld ?_ ?_
                rotate_left
                · rintro w' ⟨s0, s1, s2, s3, s4, s5, s6, s7, s8, s9⟩
                  go_simp
                  with_reducible rfl
                rotate_left
                · simp only [Act.put, List.setIfInBounds_toArray, List.set_cons_zero, List.set_cons_succ, i64_w, i32_w]
                  rfl
                refine take_ (i := 21) (N := some 70) (v := ?_) (a' := ?_) #[true, true, true, true, true, true, true, true, true, true, true, true, true, true, true, true, true, false, true, true, true, true, false, false, false, false, false, false, false, false, false, false, false, false, false, false, false, false, false, false, false] rfl rfl (take_ofW HT_.out HW_.out (by kernel_rfl)) (fun _ _ _ h => h) (Or.inl ⟨by rfl, ?_⟩) hHeld ?_ ?_
                rotate_left
                · rintro w' ⟨s0, s1, s2, s3, s4, s5, s6, s7, s8, s9⟩
                  go_simp
                  with_reducible rfl
                rotate_left
                · simp only [Act.put, List.setIfInBounds_toArray, List.set_cons_zero, List.set_cons_succ, i64_w, i32_w]
                  rfl
                refine one_ (i := 17) (N := some 66) #[true, true, true, true, true, true, true, true, true, true, true, true, true, true, true, true, true, true, true, true, true, true, false, false, false, false, false, false, false, false, false, false, false, false, false, false, false, false, false, false, false] rfl rfl (one_of HT_.out (by kernel_rfl)) (by decide) (fun K hK => ?_)
                refine goes_ Try.func19 (by kernel_rfl) rfl #[.int .i64 x13_10, .int .i64 x14_10, .int .i64 t174] (by rfl) rfl rfl (by (try simp only [List.map_toArray, List.map_cons, List.map_nil]); first | done | rfl | (simp only [List.length_drop, List.length_take]; rfl)) ?_
                with_reducible refine (scale_Need.calls x13_10 x14_10 t174 t188 _ A64.out).mono ?_
                rintro e w' ⟨rfl, ⟨nd, rfl⟩⟩
                refine ⟨_, rfl, ?_⟩
                refine hK.out _ _ ⟨bc BK182 0, bc BK182 1, bc BK185 0, bc BK185 1, bc BK179 0, bc BK179 1, bc BK179 2, bc BK179 3, bc BK179 4, bc BK179 5⟩ (fun hHeld => ?_)
                clear hK K
                refine norm_ (a' := ?_) ?_ ?_
                rotate_left
                · show Act.put _ (some 66) _ = _
                  simp only [Act.put, List.setIfInBounds_toArray, List.set_cons_zero, List.set_cons_succ, i64_w, i32_w]
                  rfl
                refine one_ (i := 22) (N := some 71) #[true, true, true, true, true, true, true, true, true, true, true, true, true, true, true, true, true, true, true, true, true, true, true, false, false, false, false, false, false, false, false, false, false, false, false, false, false, false, false, false, false] rfl rfl (one_of HT_.out (by kernel_rfl)) (by decide) (fun K hK => ?_)
                refine goes_ Try.func20 (by kernel_rfl) rfl #[.int .i64 x13_10, .int .i64 x14_10, .int .i64 t174] (by rfl) rfl rfl (by (try simp only [List.map_toArray, List.map_cons, List.map_nil]); first | done | rfl | (simp only [List.length_drop, List.length_take]; rfl)) ?_
                with_reducible refine (damperref10_Need.calls x13_10 x14_10 t174 t189 _ A65.out).mono ?_
                rintro e w' ⟨rfl, ⟨nd, rfl⟩⟩
                refine ⟨_, rfl, ?_⟩
                refine hK.out _ _ ⟨bc BK182 0, bc BK182 1, bc BK185 0, bc BK185 1, bc BK179 0, bc BK179 1, bc BK179 2, bc BK179 3, bc BK179 4, bc BK179 5⟩ (fun hHeld => ?_)
                clear hK K
                refine norm_ (a' := ?_) ?_ ?_
                rotate_left
                · show Act.put _ (some 71) _ = _
                  simp only [Act.put, List.setIfInBounds_toArray, List.set_cons_zero, List.set_cons_succ, i64_w, i32_w]
                  rfl
                refine pure_ (i := 23) (N := some 72) (v := ?_) (a' := ?_) #[true, true, true, true, true, true, true, true, true, true, true, true, true, true, true, true, true, true, true, true, true, true, true, true, false, false, false, false, false, false, false, false, false, false, false, false, false, false, false, false, false] rfl rfl (any_of HT_.out (by kernel_rfl)) (fun _ _ _ h => h) (Or.inl ⟨by rfl, ?_⟩) ?_ ?_
                rotate_left
                · intro w'
                  go_simp
                  with_reducible rfl
                rotate_left
                · simp only [Act.put, List.setIfInBounds_toArray, List.set_cons_zero, List.set_cons_succ, i64_w, i32_w]
                  rfl
                refine pure_ (i := 24) (N := some 73) (v := ?_) (a' := ?_) #[true, true, true, true, true, true, true, true, true, true, true, true, true, true, true, true, true, true, true, true, true, true, true, true, true, false, false, false, false, false, false, false, false, false, false, false, false, false, false, false, false] rfl rfl (any_of HT_.out (by kernel_rfl)) (fun _ _ _ h => h) (Or.inl ⟨by rfl, ?_⟩) ?_ ?_
                rotate_left
                · intro w'
                  go_simp
                  with_reducible rfl
                rotate_left
                · simp only [Act.put, List.setIfInBounds_toArray, List.set_cons_zero, List.set_cons_succ, i64_w, i32_w]
                  rfl
                refine pure_ (i := 25) (N := some 74) (v := ?_) (a' := ?_) #[true, true, true, true, true, true, true, true, true, true, true, true, true, true, true, true, true, true, true, true, true, true, true, true, true, true, false, false, false, false, false, false, false, false, false, false, false, false, false, false, false] rfl rfl (any_of HT_.out (by kernel_rfl)) (fun _ _ _ h => h) (Or.inl ⟨by rfl, ?_⟩) ?_ ?_
                rotate_left
                · intro w'
                  go_simp
                  with_reducible rfl
                rotate_left
                · simp only [Act.put, List.setIfInBounds_toArray, List.set_cons_zero, List.set_cons_succ, i64_w, i32_w]
                  rfl
                refine pure_ (i := 26) (N := some 75) (v := ?_) (a' := ?_) #[true, true, true, true, true, true, true, true, true, true, true, true, true, true, true, true, true, true, true, true, true, true, true, true, true, true, true, false, false, false, false, false, false, false, false, false, false, false, false, false, false] rfl rfl (any_of HT_.out (by kernel_rfl)) (fun _ _ _ h => h) (Or.inl ⟨by rfl, ?_⟩) ?_ ?_
                rotate_left
                · intro w'
                  go_simp
                  with_reducible rfl
                rotate_left
                · simp only [Act.put, List.setIfInBounds_toArray, List.set_cons_zero, List.set_cons_succ, i64_w, i32_w]
                  rfl
                refine pure_ (i := 27) (N := some 76) (v := ?_) (a' := ?_) #[true, true, true, true, true, true, true, true, true, true, true, true, true, true, true, true, true, true, true, true, true, true, true, true, true, true, true, true, false, false, false, false, false, false, false, false, false, false, false, false, false] rfl rfl (any_of HT_.out (by kernel_rfl)) (fun _ _ _ h => h) (Or.inl ⟨by rfl, ?_⟩) ?_ ?_
                rotate_left
                · intro w'
                  go_simp
                  with_reducible rfl
                rotate_left
                · simp only [Act.put, List.setIfInBounds_toArray, List.set_cons_zero, List.set_cons_succ, i64_w, i32_w]
                  rfl
                refine pure_ (i := 29) (N := some 78) (v := ?_) (a' := ?_) #[true, true, true, true, true, true, true, true, true, true, true, true, true, true, true, true, true, true, true, true, true, true, true, true, true, true, true, true, false, true, false, false, false, false, false, false, false, false, false, false, false] rfl rfl (any_of HT_.out (by kernel_rfl)) (fun _ _ _ h => h) (Or.inl ⟨by rfl, ?_⟩) ?_ ?_
                rotate_left
                · intro w'
                  go_simp
                  with_reducible rfl
                rotate_left
                · simp only [Act.put, List.setIfInBounds_toArray, List.set_cons_zero, List.set_cons_succ, i64_w, i32_w]
                  rfl
                refine pure_ (i := 32) (N := some 81) (v := ?_) (a' := ?_) #[true, true, true, true, true, true, true, true, true, true, true, true, true, true, true, true, true, true, true, true, true, true, true, true, true, true, true, true, false, true, false, false, true, false, false, false, false, false, false, false, false] rfl rfl (any_of HT_.out (by kernel_rfl)) (fun _ _ _ h => h) (Or.inl ⟨by rfl, ?_⟩) ?_ ?_
                rotate_left
                · intro w'
                  go_simp
                  with_reducible rfl
                rotate_left
                · simp only [Act.put, List.setIfInBounds_toArray, List.set_cons_zero, List.set_cons_succ, i64_w, i32_w]
                  rfl
                refine pure_ (i := 33) (N := some 82) (v := ?_) (a' := ?_) #[true, true, true, true, true, true, true, true, true, true, true, true, true, true, true, true, true, true, true, true, true, true, true, true, true, true, true, true, false, true, false, false, true, true, false, false, false, false, false, false, false] rfl rfl (any_of HT_.out (by kernel_rfl)) (fun _ _ _ h => h) (Or.inl ⟨by rfl, ?_⟩) ?_ ?_
                rotate_left
                · intro w'
                  go_simp
                  with_reducible rfl
                rotate_left
                · simp only [Act.put, List.setIfInBounds_toArray, List.set_cons_zero, List.set_cons_succ, i64_w, i32_w]
                  rfl
                refine pure_ (i := 35) (N := some 84) (v := ?_) (a' := ?_) #[true, true, true, true, true, true, true, true, true, true, true, true, true, true, true, true, true, true, true, true, true, true, true, true, true, true, true, true, false, true, false, false, true, true, false, true, false, false, false, false, false] rfl rfl (any_of HT_.out (by kernel_rfl)) (fun _ _ _ h => h) (Or.inl ⟨by rfl, ?_⟩) ?_ ?_
                rotate_left
                · intro w'
                  go_simp
                  with_reducible rfl
                rotate_left
                · simp only [Act.put, List.setIfInBounds_toArray, List.set_cons_zero, List.set_cons_succ, i64_w, i32_w]
                  rfl
                refine take_ (i := 30) (N := some 79) (v := ?_) (a' := ?_) #[true, true, true, true, true, true, true, true, true, true, true, true, true, true, true, true, true, true, true, true, true, true, true, true, true, true, true, true, false, true, true, false, true, true, false, true, false, false, false, false, false] rfl rfl (take_ofW HT_.out HW_.out (by kernel_rfl)) (fun _ _ _ h => h) (Or.inl ⟨by rfl, ?_⟩) hHeld ?_ ?_
                rotate_left
                · rintro w' ⟨s0, s1, s2, s3, s4, s5, s6, s7, s8, s9⟩
                  go_simp
                  with_reducible rfl
                rotate_left
                · simp only [Act.put, List.setIfInBounds_toArray, List.set_cons_zero, List.set_cons_succ, i64_w, i32_w]
                  rfl
                refine take_ (i := 36) (N := some 85) (v := ?_) (a' := ?_) #[true, true, true, true, true, true, true, true, true, true, true, true, true, true, true, true, true, true, true, true, true, true, true, true, true, true, true, true, false, true, true, false, true, true, false, true, true, false, false, false, false] rfl rfl (take_ofW HT_.out HW_.out (by kernel_rfl)) (fun _ _ _ h => h) (Or.inl ⟨by rfl, ?_⟩) hHeld ?_ ?_
                rotate_left
                · rintro w' ⟨s0, s1, s2, s3, s4, s5, s6, s7, s8, s9⟩
                  go_simp
                  with_reducible rfl
                rotate_left
                · simp only [Act.put, List.setIfInBounds_toArray, List.set_cons_zero, List.set_cons_succ, i64_w, i32_w]
                  rfl
                refine one_ (i := 28) (N := some 77) #[true, true, true, true, true, true, true, true, true, true, true, true, true, true, true, true, true, true, true, true, true, true, true, true, true, true, true, true, true, true, true, false, true, true, false, true, true, false, false, false, false] rfl rfl (one_of HT_.out (by kernel_rfl)) (by decide) (fun K hK => ?_)
                refine goes_ Try.func18 (by kernel_rfl) rfl #[.int .i64 a3, .int .i64 9] (by rfl) rfl rfl (by (try simp only [List.map_toArray, List.map_cons, List.map_nil]); first | done | rfl | (simp only [List.length_drop, List.length_take]; rfl)) ?_
                with_reducible refine (damperlaw10_within.calls a3 9 t190 _ A67.out).mono ?_
                rintro e w' ⟨rfl, ⟨nd, rfl⟩⟩
                refine ⟨_, rfl, ?_⟩
                refine hK.out _ _ ⟨bc BK182 0, bc BK182 1, bc BK185 0, bc BK185 1, bc BK179 0, bc BK179 1, bc BK179 2, bc BK179 3, bc BK179 4, bc BK179 5⟩ (fun hHeld => ?_)
                clear hK K
                refine norm_ (a' := ?_) ?_ ?_
                rotate_left
                · show Act.put _ (some 77) _ = _
                  simp only [Act.put, List.setIfInBounds_toArray, List.set_cons_zero, List.set_cons_succ, i64_w, i32_w]
                  rfl
                refine one_ (i := 31) (N := some 80) #[true, true, true, true, true, true, true, true, true, true, true, true, true, true, true, true, true, true, true, true, true, true, true, true, true, true, true, true, true, true, true, true, true, true, false, true, true, false, false, false, false] rfl rfl (one_of HT_.out (by kernel_rfl)) (by decide) (fun K hK => ?_)
                refine goes_ Try.func19 (by kernel_rfl) rfl #[.int .i64 x13_10, .int .i64 t190, .int .i64 t174] (by rfl) rfl rfl (by (try simp only [List.map_toArray, List.map_cons, List.map_nil]); first | done | rfl | (simp only [List.length_drop, List.length_take]; rfl)) ?_
                with_reducible refine (scale_Need.calls x13_10 t190 t174 t191 _ A68.out).mono ?_
                rintro e w' ⟨rfl, ⟨nd, rfl⟩⟩
                refine ⟨_, rfl, ?_⟩
                refine hK.out _ _ ⟨bc BK182 0, bc BK182 1, bc BK185 0, bc BK185 1, bc BK179 0, bc BK179 1, bc BK179 2, bc BK179 3, bc BK179 4, bc BK179 5⟩ (fun hHeld => ?_)
                clear hK K
                refine norm_ (a' := ?_) ?_ ?_
                rotate_left
                · show Act.put _ (some 80) _ = _
                  simp only [Act.put, List.setIfInBounds_toArray, List.set_cons_zero, List.set_cons_succ, i64_w, i32_w]
                  rfl
                refine one_ (i := 34) (N := some 83) #[true, true, true, true, true, true, true, true, true, true, true, true, true, true, true, true, true, true, true, true, true, true, true, true, true, true, true, true, true, true, true, true, true, true, true, true, true, false, false, false, false] rfl rfl (one_of HT_.out (by kernel_rfl)) (by decide) (fun K hK => ?_)
                refine goes_ Try.func18 (by kernel_rfl) rfl #[.int .i64 a3, .int .i64 9] (by rfl) rfl rfl (by (try simp only [List.map_toArray, List.map_cons, List.map_nil]); first | done | rfl | (simp only [List.length_drop, List.length_take]; rfl)) ?_
                with_reducible refine (damperlaw10_within.calls a3 9 t192 _ A69.out).mono ?_
                rintro e w' ⟨rfl, ⟨nd, rfl⟩⟩
                refine ⟨_, rfl, ?_⟩
                refine hK.out _ _ ⟨bc BK182 0, bc BK182 1, bc BK185 0, bc BK185 1, bc BK179 0, bc BK179 1, bc BK179 2, bc BK179 3, bc BK179 4, bc BK179 5⟩ (fun hHeld => ?_)
                clear hK K
                refine norm_ (a' := ?_) ?_ ?_
                rotate_left
                · show Act.put _ (some 83) _ = _
                  simp only [Act.put, List.setIfInBounds_toArray, List.set_cons_zero, List.set_cons_succ, i64_w, i32_w]
                  rfl
                refine one_ (i := 37) (N := some 86) #[true, true, true, true, true, true, true, true, true, true, true, true, true, true, true, true, true, true, true, true, true, true, true, true, true, true, true, true, true, true, true, true, true, true, true, true, true, true, false, false, false] rfl rfl (one_of HT_.out (by kernel_rfl)) (by decide) (fun K hK => ?_)
                refine goes_ Try.func20 (by kernel_rfl) rfl #[.int .i64 x13_10, .int .i64 t192, .int .i64 t174] (by rfl) rfl rfl (by (try simp only [List.map_toArray, List.map_cons, List.map_nil]); first | done | rfl | (simp only [List.length_drop, List.length_take]; rfl)) ?_
                with_reducible refine (damperref10_Need.calls x13_10 t192 t174 t193 _ A70.out).mono ?_
                rintro e w' ⟨rfl, ⟨nd, rfl⟩⟩
                refine ⟨_, rfl, ?_⟩
                refine hK.out _ _ ⟨bc BK182 0, bc BK182 1, bc BK185 0, bc BK185 1, bc BK179 0, bc BK179 1, bc BK179 2, bc BK179 3, bc BK179 4, bc BK179 5⟩ (fun hHeld => ?_)
                clear hK K
                refine norm_ (a' := ?_) ?_ ?_
                rotate_left
                · show Act.put _ (some 86) _ = _
                  simp only [Act.put, List.setIfInBounds_toArray, List.set_cons_zero, List.set_cons_succ, i64_w, i32_w]
                  rfl
                refine pure_ (i := 38) (N := some 87) (v := ?_) (a' := ?_) #[true, true, true, true, true, true, true, true, true, true, true, true, true, true, true, true, true, true, true, true, true, true, true, true, true, true, true, true, true, true, true, true, true, true, true, true, true, true, true, false, false] rfl rfl (any_of HT_.out (by kernel_rfl)) (fun _ _ _ h => h) (Or.inl ⟨by rfl, ?_⟩) ?_ ?_
                rotate_left
                · intro w'
                  go_simp
                  with_reducible rfl
                rotate_left
                · simp only [Act.put, List.setIfInBounds_toArray, List.set_cons_zero, List.set_cons_succ, i64_w, i32_w]
                  rfl
                refine pure_ (i := 39) (N := some 88) (v := ?_) (a' := ?_) #[true, true, true, true, true, true, true, true, true, true, true, true, true, true, true, true, true, true, true, true, true, true, true, true, true, true, true, true, true, true, true, true, true, true, true, true, true, true, true, true, false] rfl rfl (any_of HT_.out (by kernel_rfl)) (fun _ _ _ h => h) (Or.inl ⟨by rfl, ?_⟩) ?_ ?_
                rotate_left
                · intro w'
                  go_simp
                  with_reducible rfl
                rotate_left
                · simp only [Act.put, List.setIfInBounds_toArray, List.set_cons_zero, List.set_cons_succ, i64_w, i32_w]
                  rfl
                refine pure_ (i := 40) (N := some 8) (v := ?_) (a' := ?_) #[true, true, true, true, true, true, true, true, true, true, true, true, true, true, true, true, true, true, true, true, true, true, true, true, true, true, true, true, true, true, true, true, true, true, true, true, true, true, true, true, true] rfl rfl (any_of HT_.out (by kernel_rfl)) (fun _ _ _ h => h) (Or.inl ⟨by rfl, ?_⟩) ?_ ?_
                rotate_left
                · intro w'
                  go_simp
                  with_reducible rfl
                rotate_left
                · simp only [Act.put, List.setIfInBounds_toArray, List.set_cons_zero, List.set_cons_succ, i64_w, i32_w]
                  rfl
                refine done_ (done_of HT_.out (by kernel_rfl)) ?_
                try go_wp2
                go_ret
                exact ⟨by first | rfl | (simp [errW_none, errW_some] <;> rfl) | (simp [*, errW_none, errW_some] <;> rfl), by repeat (first | (with_reducible first | exact HB.out | apply below_alloc | apply pw_below_drewN | apply below_drew1 | refine below_set ?_ GE160.out | refine below_set ?_ GE161.out | refine below_set ?_ GE178.out | refine below_set ?_ GE179.out | refine below_set ?_ GE182.out | refine below_set ?_ GE185.out) | exact HB.out)⟩
              · rw [if_neg c66] at H
                have c66b0 : (t188 == t189) = false := beq_eq_false_iff_ne.mpr c66
                have c66b1 : (t188 != t189) = true := bne_iff_ne.mpr c66
                exact absurd (Option.some.inj H) (by rw [hr0_.out]; decide)
            · rw [if_neg c63] at H
              have c63b0 : (t181 == t184) = false := beq_eq_false_iff_ne.mpr c63
              have c63b1 : (t181 != t184) = true := bne_iff_ne.mpr c63
              exact absurd (Option.some.inj H) (by rw [hr0_.out]; decide)
          · rw [if_neg c62] at H
            have c62b0 : (t180 == t183) = false := beq_eq_false_iff_ne.mpr c62
            have c62b1 : (t180 != t183) = true := bne_iff_ne.mpr c62
            exact absurd (Option.some.inj H) (by rw [hr0_.out]; decide)
    intro hJ1_3_4_5
    refine join_ (σ := Nat) 3 #[true, true, true, true, true, false, false, false] (fun s_ => [(18, .agg #[.int .i64 t163, .int .i64 t164, .int .i64 t165, .int .i64 t166, .int .i64 t167, .int .i64 t168, .int .i64 t169, .int .i64 t170, .int .i64 t171]), (20, .agg #[.string t172, .int .i64 t173, .int .i64 t174, .int .i64 t175, .int .i64 t176, .int .i64 t177]), (9, .pointer (some ⟨s_, 0, none⟩))]) (fun s_ w' => (w'.cell? ⟨gb160, 0, none⟩ = some (.int .i64 a0_0) ∧ w'.cell? ⟨gb160, 1, none⟩ = some (.int .i64 a0_1) ∧ w'.cell? ⟨gb160, 2, none⟩ = some (.int .i64 a0_2) ∧ w'.cell? ⟨gb160, 3, none⟩ = some (.int .i64 a0_3) ∧ w'.cell? ⟨gb160, 4, none⟩ = some (.int .i64 a0_4) ∧ w'.cell? ⟨gb160, 5, none⟩ = some (.int .i64 a0_5) ∧ w'.cell? ⟨gb160, 6, none⟩ = some (.int .i64 a0_6) ∧ w'.cell? ⟨gb160, 7, none⟩ = some (.int .i64 a0_7) ∧ w'.cell? ⟨gb160, 8, none⟩ = some (.int .i64 a0_8) ∧ w'.cell? ⟨gb161, 0, none⟩ = some (.string a1_0) ∧ w'.cell? ⟨gb161, 1, none⟩ = some (.int .i64 a1_1) ∧ w'.cell? ⟨gb161, 2, none⟩ = some (.int .i64 a1_2) ∧ w'.cell? ⟨gb161, 3, none⟩ = some (.int .i64 a1_3) ∧ w'.cell? ⟨gb161, 4, none⟩ = some (.int .i64 a1_4) ∧ w'.cell? ⟨gb161, 5, none⟩ = some (.int .i64 a1_5)) ∧ (w'.heap[gb160]? = some (.cells #[.int .i64 a0_0, .int .i64 a0_1, .int .i64 a0_2, .int .i64 a0_3, .int .i64 a0_4, .int .i64 a0_5, .int .i64 a0_6, .int .i64 a0_7, .int .i64 a0_8] 23 (0, 0))) ∧ (w'.heap[gb161]? = some (.cells #[.string a1_0, .int .i64 a1_1, .int .i64 a1_2, .int .i64 a1_3, .int .i64 a1_4, .int .i64 a1_5] 25 (0, 0))) ∧ (w'.heap[s_]? = some (.cells #[.int .i64 0, .int .i64 0, .int .i64 0, .int .i64 0, .int .i64 0, .int .i64 0, .int .i64 0, .int .i64 0, .int .i64 0] 23 (0, 0))) ∧ (w.heap.size ≤ s_) ∧ (w.heap.size ≤ s_) ∧ (gb160 ≠ s_) ∧ (s_ ≠ gb160) ∧ (gb161 ≠ s_) ∧ (s_ ≠ gb161) ∧ (Below w.heap.size w w')) ?_ ?_
    rotate_left
    · intro hJ1_3_4
      refine join_ (σ := Nat) 3 #[true, true, true, true, false, true, false, false] (fun s_ => [(18, .agg #[.int .i64 t163, .int .i64 t164, .int .i64 t165, .int .i64 t166, .int .i64 t167, .int .i64 t168, .int .i64 t169, .int .i64 t170, .int .i64 t171]), (20, .agg #[.string t172, .int .i64 t173, .int .i64 t174, .int .i64 t175, .int .i64 t176, .int .i64 t177]), (10, .pointer (some ⟨s_, 0, none⟩))]) (fun s_ w' => (w'.cell? ⟨gb160, 0, none⟩ = some (.int .i64 a0_0) ∧ w'.cell? ⟨gb160, 1, none⟩ = some (.int .i64 a0_1) ∧ w'.cell? ⟨gb160, 2, none⟩ = some (.int .i64 a0_2) ∧ w'.cell? ⟨gb160, 3, none⟩ = some (.int .i64 a0_3) ∧ w'.cell? ⟨gb160, 4, none⟩ = some (.int .i64 a0_4) ∧ w'.cell? ⟨gb160, 5, none⟩ = some (.int .i64 a0_5) ∧ w'.cell? ⟨gb160, 6, none⟩ = some (.int .i64 a0_6) ∧ w'.cell? ⟨gb160, 7, none⟩ = some (.int .i64 a0_7) ∧ w'.cell? ⟨gb160, 8, none⟩ = some (.int .i64 a0_8) ∧ w'.cell? ⟨gb161, 0, none⟩ = some (.string a1_0) ∧ w'.cell? ⟨gb161, 1, none⟩ = some (.int .i64 a1_1) ∧ w'.cell? ⟨gb161, 2, none⟩ = some (.int .i64 a1_2) ∧ w'.cell? ⟨gb161, 3, none⟩ = some (.int .i64 a1_3) ∧ w'.cell? ⟨gb161, 4, none⟩ = some (.int .i64 a1_4) ∧ w'.cell? ⟨gb161, 5, none⟩ = some (.int .i64 a1_5)) ∧ (w'.heap[gb160]? = some (.cells #[.int .i64 a0_0, .int .i64 a0_1, .int .i64 a0_2, .int .i64 a0_3, .int .i64 a0_4, .int .i64 a0_5, .int .i64 a0_6, .int .i64 a0_7, .int .i64 a0_8] 23 (0, 0))) ∧ (w'.heap[gb161]? = some (.cells #[.string a1_0, .int .i64 a1_1, .int .i64 a1_2, .int .i64 a1_3, .int .i64 a1_4, .int .i64 a1_5] 25 (0, 0))) ∧ (w'.heap[s_]? = some (.cells #[.string (⟨#[]⟩ : ByteArray), .int .i64 0, .int .i64 0, .int .i64 0, .int .i64 0, .int .i64 0] 25 (0, 0))) ∧ (w.heap.size ≤ s_) ∧ (w.heap.size ≤ s_) ∧ (gb160 ≠ s_) ∧ (s_ ≠ gb160) ∧ (gb161 ≠ s_) ∧ (s_ ≠ gb161) ∧ (Below w.heap.size w w')) ?_ ?_
      rotate_left
      · intro hJ1_3_5
        refine join_ (σ := Nat × Nat) 3 #[true, true, true, false, true, true, false, false] (fun s_ => [(18, .agg #[.int .i64 t163, .int .i64 t164, .int .i64 t165, .int .i64 t166, .int .i64 t167, .int .i64 t168, .int .i64 t169, .int .i64 t170, .int .i64 t171]), (9, .pointer (some ⟨s_.1, 0, none⟩)), (10, .pointer (some ⟨s_.2, 0, none⟩))]) (fun s_ w' => (w'.cell? ⟨gb160, 0, none⟩ = some (.int .i64 a0_0) ∧ w'.cell? ⟨gb160, 1, none⟩ = some (.int .i64 a0_1) ∧ w'.cell? ⟨gb160, 2, none⟩ = some (.int .i64 a0_2) ∧ w'.cell? ⟨gb160, 3, none⟩ = some (.int .i64 a0_3) ∧ w'.cell? ⟨gb160, 4, none⟩ = some (.int .i64 a0_4) ∧ w'.cell? ⟨gb160, 5, none⟩ = some (.int .i64 a0_5) ∧ w'.cell? ⟨gb160, 6, none⟩ = some (.int .i64 a0_6) ∧ w'.cell? ⟨gb160, 7, none⟩ = some (.int .i64 a0_7) ∧ w'.cell? ⟨gb160, 8, none⟩ = some (.int .i64 a0_8) ∧ w'.cell? ⟨gb161, 0, none⟩ = some (.string a1_0) ∧ w'.cell? ⟨gb161, 1, none⟩ = some (.int .i64 a1_1) ∧ w'.cell? ⟨gb161, 2, none⟩ = some (.int .i64 a1_2) ∧ w'.cell? ⟨gb161, 3, none⟩ = some (.int .i64 a1_3) ∧ w'.cell? ⟨gb161, 4, none⟩ = some (.int .i64 a1_4) ∧ w'.cell? ⟨gb161, 5, none⟩ = some (.int .i64 a1_5)) ∧ (w'.heap[gb160]? = some (.cells #[.int .i64 a0_0, .int .i64 a0_1, .int .i64 a0_2, .int .i64 a0_3, .int .i64 a0_4, .int .i64 a0_5, .int .i64 a0_6, .int .i64 a0_7, .int .i64 a0_8] 23 (0, 0))) ∧ (w'.heap[gb161]? = some (.cells #[.string a1_0, .int .i64 a1_1, .int .i64 a1_2, .int .i64 a1_3, .int .i64 a1_4, .int .i64 a1_5] 25 (0, 0))) ∧ (w'.heap[s_.1]? = some (.cells #[.int .i64 0, .int .i64 0, .int .i64 0, .int .i64 0, .int .i64 0, .int .i64 0, .int .i64 0, .int .i64 0, .int .i64 0] 23 (0, 0))) ∧ (w'.heap[s_.2]? = some (.cells #[.string (⟨#[]⟩ : ByteArray), .int .i64 0, .int .i64 0, .int .i64 0, .int .i64 0, .int .i64 0] 25 (0, 0))) ∧ (w.heap.size ≤ s_.1) ∧ (w.heap.size ≤ s_.1) ∧ (gb160 ≠ s_.1) ∧ (s_.1 ≠ gb160) ∧ (gb161 ≠ s_.1) ∧ (s_.1 ≠ gb161) ∧ (s_.2 ≠ s_.1) ∧ (s_.1 ≠ s_.2) ∧ (w.heap.size ≤ s_.2) ∧ (w.heap.size ≤ s_.2) ∧ (gb160 ≠ s_.2) ∧ (s_.2 ≠ gb160) ∧ (gb161 ≠ s_.2) ∧ (s_.2 ≠ gb161) ∧ (Below w.heap.size w w')) ?_ ?_
        rotate_left
        · intro hJ1_4_5
          refine join_ (σ := Unit) 4 #[true, true, true, true, false, false, false, false] (fun s_ => [(18, .agg #[.int .i64 t163, .int .i64 t164, .int .i64 t165, .int .i64 t166, .int .i64 t167, .int .i64 t168, .int .i64 t169, .int .i64 t170, .int .i64 t171]), (20, .agg #[.string t172, .int .i64 t173, .int .i64 t174, .int .i64 t175, .int .i64 t176, .int .i64 t177])]) (fun s_ w' => (w'.cell? ⟨gb160, 0, none⟩ = some (.int .i64 a0_0) ∧ w'.cell? ⟨gb160, 1, none⟩ = some (.int .i64 a0_1) ∧ w'.cell? ⟨gb160, 2, none⟩ = some (.int .i64 a0_2) ∧ w'.cell? ⟨gb160, 3, none⟩ = some (.int .i64 a0_3) ∧ w'.cell? ⟨gb160, 4, none⟩ = some (.int .i64 a0_4) ∧ w'.cell? ⟨gb160, 5, none⟩ = some (.int .i64 a0_5) ∧ w'.cell? ⟨gb160, 6, none⟩ = some (.int .i64 a0_6) ∧ w'.cell? ⟨gb160, 7, none⟩ = some (.int .i64 a0_7) ∧ w'.cell? ⟨gb160, 8, none⟩ = some (.int .i64 a0_8) ∧ w'.cell? ⟨gb161, 0, none⟩ = some (.string a1_0) ∧ w'.cell? ⟨gb161, 1, none⟩ = some (.int .i64 a1_1) ∧ w'.cell? ⟨gb161, 2, none⟩ = some (.int .i64 a1_2) ∧ w'.cell? ⟨gb161, 3, none⟩ = some (.int .i64 a1_3) ∧ w'.cell? ⟨gb161, 4, none⟩ = some (.int .i64 a1_4) ∧ w'.cell? ⟨gb161, 5, none⟩ = some (.int .i64 a1_5)) ∧ (w'.heap[gb160]? = some (.cells #[.int .i64 a0_0, .int .i64 a0_1, .int .i64 a0_2, .int .i64 a0_3, .int .i64 a0_4, .int .i64 a0_5, .int .i64 a0_6, .int .i64 a0_7, .int .i64 a0_8] 23 (0, 0))) ∧ (w'.heap[gb161]? = some (.cells #[.string a1_0, .int .i64 a1_1, .int .i64 a1_2, .int .i64 a1_3, .int .i64 a1_4, .int .i64 a1_5] 25 (0, 0))) ∧ (Below w.heap.size w w')) ?_ ?_
          rotate_left
          · intro hJ1_3
            refine join_ (σ := Nat) 4 #[true, true, true, false, true, false, false, false] (fun s_ => [(18, .agg #[.int .i64 t163, .int .i64 t164, .int .i64 t165, .int .i64 t166, .int .i64 t167, .int .i64 t168, .int .i64 t169, .int .i64 t170, .int .i64 t171]), (9, .pointer (some ⟨s_, 0, none⟩))]) (fun s_ w' => (w'.cell? ⟨gb160, 0, none⟩ = some (.int .i64 a0_0) ∧ w'.cell? ⟨gb160, 1, none⟩ = some (.int .i64 a0_1) ∧ w'.cell? ⟨gb160, 2, none⟩ = some (.int .i64 a0_2) ∧ w'.cell? ⟨gb160, 3, none⟩ = some (.int .i64 a0_3) ∧ w'.cell? ⟨gb160, 4, none⟩ = some (.int .i64 a0_4) ∧ w'.cell? ⟨gb160, 5, none⟩ = some (.int .i64 a0_5) ∧ w'.cell? ⟨gb160, 6, none⟩ = some (.int .i64 a0_6) ∧ w'.cell? ⟨gb160, 7, none⟩ = some (.int .i64 a0_7) ∧ w'.cell? ⟨gb160, 8, none⟩ = some (.int .i64 a0_8) ∧ w'.cell? ⟨gb161, 0, none⟩ = some (.string a1_0) ∧ w'.cell? ⟨gb161, 1, none⟩ = some (.int .i64 a1_1) ∧ w'.cell? ⟨gb161, 2, none⟩ = some (.int .i64 a1_2) ∧ w'.cell? ⟨gb161, 3, none⟩ = some (.int .i64 a1_3) ∧ w'.cell? ⟨gb161, 4, none⟩ = some (.int .i64 a1_4) ∧ w'.cell? ⟨gb161, 5, none⟩ = some (.int .i64 a1_5)) ∧ (w'.heap[gb160]? = some (.cells #[.int .i64 a0_0, .int .i64 a0_1, .int .i64 a0_2, .int .i64 a0_3, .int .i64 a0_4, .int .i64 a0_5, .int .i64 a0_6, .int .i64 a0_7, .int .i64 a0_8] 23 (0, 0))) ∧ (w'.heap[gb161]? = some (.cells #[.string a1_0, .int .i64 a1_1, .int .i64 a1_2, .int .i64 a1_3, .int .i64 a1_4, .int .i64 a1_5] 25 (0, 0))) ∧ (w'.heap[s_]? = some (.cells #[.int .i64 0, .int .i64 0, .int .i64 0, .int .i64 0, .int .i64 0, .int .i64 0, .int .i64 0, .int .i64 0, .int .i64 0] 23 (0, 0))) ∧ (w.heap.size ≤ s_) ∧ (w.heap.size ≤ s_) ∧ (gb160 ≠ s_) ∧ (s_ ≠ gb160) ∧ (gb161 ≠ s_) ∧ (s_ ≠ gb161) ∧ (Below w.heap.size w w')) ?_ ?_
            rotate_left
            · intro hJ1_4
              refine join_ (σ := Nat) 4 #[true, true, true, false, false, true, false, false] (fun s_ => [(18, .agg #[.int .i64 t163, .int .i64 t164, .int .i64 t165, .int .i64 t166, .int .i64 t167, .int .i64 t168, .int .i64 t169, .int .i64 t170, .int .i64 t171]), (10, .pointer (some ⟨s_, 0, none⟩))]) (fun s_ w' => (w'.cell? ⟨gb160, 0, none⟩ = some (.int .i64 a0_0) ∧ w'.cell? ⟨gb160, 1, none⟩ = some (.int .i64 a0_1) ∧ w'.cell? ⟨gb160, 2, none⟩ = some (.int .i64 a0_2) ∧ w'.cell? ⟨gb160, 3, none⟩ = some (.int .i64 a0_3) ∧ w'.cell? ⟨gb160, 4, none⟩ = some (.int .i64 a0_4) ∧ w'.cell? ⟨gb160, 5, none⟩ = some (.int .i64 a0_5) ∧ w'.cell? ⟨gb160, 6, none⟩ = some (.int .i64 a0_6) ∧ w'.cell? ⟨gb160, 7, none⟩ = some (.int .i64 a0_7) ∧ w'.cell? ⟨gb160, 8, none⟩ = some (.int .i64 a0_8) ∧ w'.cell? ⟨gb161, 0, none⟩ = some (.string a1_0) ∧ w'.cell? ⟨gb161, 1, none⟩ = some (.int .i64 a1_1) ∧ w'.cell? ⟨gb161, 2, none⟩ = some (.int .i64 a1_2) ∧ w'.cell? ⟨gb161, 3, none⟩ = some (.int .i64 a1_3) ∧ w'.cell? ⟨gb161, 4, none⟩ = some (.int .i64 a1_4) ∧ w'.cell? ⟨gb161, 5, none⟩ = some (.int .i64 a1_5)) ∧ (w'.heap[gb160]? = some (.cells #[.int .i64 a0_0, .int .i64 a0_1, .int .i64 a0_2, .int .i64 a0_3, .int .i64 a0_4, .int .i64 a0_5, .int .i64 a0_6, .int .i64 a0_7, .int .i64 a0_8] 23 (0, 0))) ∧ (w'.heap[gb161]? = some (.cells #[.string a1_0, .int .i64 a1_1, .int .i64 a1_2, .int .i64 a1_3, .int .i64 a1_4, .int .i64 a1_5] 25 (0, 0))) ∧ (w'.heap[s_]? = some (.cells #[.string (⟨#[]⟩ : ByteArray), .int .i64 0, .int .i64 0, .int .i64 0, .int .i64 0, .int .i64 0] 25 (0, 0))) ∧ (w.heap.size ≤ s_) ∧ (w.heap.size ≤ s_) ∧ (gb160 ≠ s_) ∧ (s_ ≠ gb160) ∧ (gb161 ≠ s_) ∧ (s_ ≠ gb161) ∧ (Below w.heap.size w w')) ?_ ?_
              rotate_left
              · intro hJ1_5
                refine join_ (σ := Nat × Nat) 4 #[true, false, true, false, true, true, false, false] (fun s_ => [(9, .pointer (some ⟨s_.1, 0, none⟩)), (10, .pointer (some ⟨s_.2, 0, none⟩))]) (fun s_ w' => (w'.cell? ⟨gb160, 0, none⟩ = some (.int .i64 a0_0) ∧ w'.cell? ⟨gb160, 1, none⟩ = some (.int .i64 a0_1) ∧ w'.cell? ⟨gb160, 2, none⟩ = some (.int .i64 a0_2) ∧ w'.cell? ⟨gb160, 3, none⟩ = some (.int .i64 a0_3) ∧ w'.cell? ⟨gb160, 4, none⟩ = some (.int .i64 a0_4) ∧ w'.cell? ⟨gb160, 5, none⟩ = some (.int .i64 a0_5) ∧ w'.cell? ⟨gb160, 6, none⟩ = some (.int .i64 a0_6) ∧ w'.cell? ⟨gb160, 7, none⟩ = some (.int .i64 a0_7) ∧ w'.cell? ⟨gb160, 8, none⟩ = some (.int .i64 a0_8) ∧ w'.cell? ⟨gb161, 0, none⟩ = some (.string a1_0) ∧ w'.cell? ⟨gb161, 1, none⟩ = some (.int .i64 a1_1) ∧ w'.cell? ⟨gb161, 2, none⟩ = some (.int .i64 a1_2) ∧ w'.cell? ⟨gb161, 3, none⟩ = some (.int .i64 a1_3) ∧ w'.cell? ⟨gb161, 4, none⟩ = some (.int .i64 a1_4) ∧ w'.cell? ⟨gb161, 5, none⟩ = some (.int .i64 a1_5)) ∧ (w'.heap[gb160]? = some (.cells #[.int .i64 a0_0, .int .i64 a0_1, .int .i64 a0_2, .int .i64 a0_3, .int .i64 a0_4, .int .i64 a0_5, .int .i64 a0_6, .int .i64 a0_7, .int .i64 a0_8] 23 (0, 0))) ∧ (w'.heap[gb161]? = some (.cells #[.string a1_0, .int .i64 a1_1, .int .i64 a1_2, .int .i64 a1_3, .int .i64 a1_4, .int .i64 a1_5] 25 (0, 0))) ∧ (w'.heap[s_.1]? = some (.cells #[.int .i64 0, .int .i64 0, .int .i64 0, .int .i64 0, .int .i64 0, .int .i64 0, .int .i64 0, .int .i64 0, .int .i64 0] 23 (0, 0))) ∧ (w'.heap[s_.2]? = some (.cells #[.string (⟨#[]⟩ : ByteArray), .int .i64 0, .int .i64 0, .int .i64 0, .int .i64 0, .int .i64 0] 25 (0, 0))) ∧ (w.heap.size ≤ s_.1) ∧ (w.heap.size ≤ s_.1) ∧ (gb160 ≠ s_.1) ∧ (s_.1 ≠ gb160) ∧ (gb161 ≠ s_.1) ∧ (s_.1 ≠ gb161) ∧ (s_.2 ≠ s_.1) ∧ (s_.1 ≠ s_.2) ∧ (w.heap.size ≤ s_.2) ∧ (w.heap.size ≤ s_.2) ∧ (gb160 ≠ s_.2) ∧ (s_.2 ≠ gb160) ∧ (gb161 ≠ s_.2) ∧ (s_.2 ≠ gb161) ∧ (Below w.heap.size w w')) ?_ ?_
                rotate_left
                · intro hJ4_5
                  refine join_ (σ := Unit) 5 #[true, true, true, false, false, false, false, false] (fun s_ => [(18, .agg #[.int .i64 t163, .int .i64 t164, .int .i64 t165, .int .i64 t166, .int .i64 t167, .int .i64 t168, .int .i64 t169, .int .i64 t170, .int .i64 t171])]) (fun s_ w' => (w'.cell? ⟨gb160, 0, none⟩ = some (.int .i64 a0_0) ∧ w'.cell? ⟨gb160, 1, none⟩ = some (.int .i64 a0_1) ∧ w'.cell? ⟨gb160, 2, none⟩ = some (.int .i64 a0_2) ∧ w'.cell? ⟨gb160, 3, none⟩ = some (.int .i64 a0_3) ∧ w'.cell? ⟨gb160, 4, none⟩ = some (.int .i64 a0_4) ∧ w'.cell? ⟨gb160, 5, none⟩ = some (.int .i64 a0_5) ∧ w'.cell? ⟨gb160, 6, none⟩ = some (.int .i64 a0_6) ∧ w'.cell? ⟨gb160, 7, none⟩ = some (.int .i64 a0_7) ∧ w'.cell? ⟨gb160, 8, none⟩ = some (.int .i64 a0_8) ∧ w'.cell? ⟨gb161, 0, none⟩ = some (.string a1_0) ∧ w'.cell? ⟨gb161, 1, none⟩ = some (.int .i64 a1_1) ∧ w'.cell? ⟨gb161, 2, none⟩ = some (.int .i64 a1_2) ∧ w'.cell? ⟨gb161, 3, none⟩ = some (.int .i64 a1_3) ∧ w'.cell? ⟨gb161, 4, none⟩ = some (.int .i64 a1_4) ∧ w'.cell? ⟨gb161, 5, none⟩ = some (.int .i64 a1_5)) ∧ (w'.heap[gb160]? = some (.cells #[.int .i64 a0_0, .int .i64 a0_1, .int .i64 a0_2, .int .i64 a0_3, .int .i64 a0_4, .int .i64 a0_5, .int .i64 a0_6, .int .i64 a0_7, .int .i64 a0_8] 23 (0, 0))) ∧ (w'.heap[gb161]? = some (.cells #[.string a1_0, .int .i64 a1_1, .int .i64 a1_2, .int .i64 a1_3, .int .i64 a1_4, .int .i64 a1_5] 25 (0, 0))) ∧ (Below w.heap.size w w')) ?_ ?_
                  rotate_left
                  · intro hJ1
                    refine join_ (σ := Nat) 5 #[true, false, true, false, true, false, false, false] (fun s_ => [(9, .pointer (some ⟨s_, 0, none⟩))]) (fun s_ w' => (w'.cell? ⟨gb160, 0, none⟩ = some (.int .i64 a0_0) ∧ w'.cell? ⟨gb160, 1, none⟩ = some (.int .i64 a0_1) ∧ w'.cell? ⟨gb160, 2, none⟩ = some (.int .i64 a0_2) ∧ w'.cell? ⟨gb160, 3, none⟩ = some (.int .i64 a0_3) ∧ w'.cell? ⟨gb160, 4, none⟩ = some (.int .i64 a0_4) ∧ w'.cell? ⟨gb160, 5, none⟩ = some (.int .i64 a0_5) ∧ w'.cell? ⟨gb160, 6, none⟩ = some (.int .i64 a0_6) ∧ w'.cell? ⟨gb160, 7, none⟩ = some (.int .i64 a0_7) ∧ w'.cell? ⟨gb160, 8, none⟩ = some (.int .i64 a0_8) ∧ w'.cell? ⟨gb161, 0, none⟩ = some (.string a1_0) ∧ w'.cell? ⟨gb161, 1, none⟩ = some (.int .i64 a1_1) ∧ w'.cell? ⟨gb161, 2, none⟩ = some (.int .i64 a1_2) ∧ w'.cell? ⟨gb161, 3, none⟩ = some (.int .i64 a1_3) ∧ w'.cell? ⟨gb161, 4, none⟩ = some (.int .i64 a1_4) ∧ w'.cell? ⟨gb161, 5, none⟩ = some (.int .i64 a1_5)) ∧ (w'.heap[gb160]? = some (.cells #[.int .i64 a0_0, .int .i64 a0_1, .int .i64 a0_2, .int .i64 a0_3, .int .i64 a0_4, .int .i64 a0_5, .int .i64 a0_6, .int .i64 a0_7, .int .i64 a0_8] 23 (0, 0))) ∧ (w'.heap[gb161]? = some (.cells #[.string a1_0, .int .i64 a1_1, .int .i64 a1_2, .int .i64 a1_3, .int .i64 a1_4, .int .i64 a1_5] 25 (0, 0))) ∧ (w'.heap[s_]? = some (.cells #[.int .i64 0, .int .i64 0, .int .i64 0, .int .i64 0, .int .i64 0, .int .i64 0, .int .i64 0, .int .i64 0, .int .i64 0] 23 (0, 0))) ∧ (w.heap.size ≤ s_) ∧ (w.heap.size ≤ s_) ∧ (gb160 ≠ s_) ∧ (s_ ≠ gb160) ∧ (gb161 ≠ s_) ∧ (s_ ≠ gb161) ∧ (Below w.heap.size w w')) ?_ ?_
                    rotate_left
                    · intro hJ4
                      refine join_ (σ := Nat) 5 #[true, false, true, false, false, true, false, false] (fun s_ => [(10, .pointer (some ⟨s_, 0, none⟩))]) (fun s_ w' => (w'.cell? ⟨gb160, 0, none⟩ = some (.int .i64 a0_0) ∧ w'.cell? ⟨gb160, 1, none⟩ = some (.int .i64 a0_1) ∧ w'.cell? ⟨gb160, 2, none⟩ = some (.int .i64 a0_2) ∧ w'.cell? ⟨gb160, 3, none⟩ = some (.int .i64 a0_3) ∧ w'.cell? ⟨gb160, 4, none⟩ = some (.int .i64 a0_4) ∧ w'.cell? ⟨gb160, 5, none⟩ = some (.int .i64 a0_5) ∧ w'.cell? ⟨gb160, 6, none⟩ = some (.int .i64 a0_6) ∧ w'.cell? ⟨gb160, 7, none⟩ = some (.int .i64 a0_7) ∧ w'.cell? ⟨gb160, 8, none⟩ = some (.int .i64 a0_8) ∧ w'.cell? ⟨gb161, 0, none⟩ = some (.string a1_0) ∧ w'.cell? ⟨gb161, 1, none⟩ = some (.int .i64 a1_1) ∧ w'.cell? ⟨gb161, 2, none⟩ = some (.int .i64 a1_2) ∧ w'.cell? ⟨gb161, 3, none⟩ = some (.int .i64 a1_3) ∧ w'.cell? ⟨gb161, 4, none⟩ = some (.int .i64 a1_4) ∧ w'.cell? ⟨gb161, 5, none⟩ = some (.int .i64 a1_5)) ∧ (w'.heap[gb160]? = some (.cells #[.int .i64 a0_0, .int .i64 a0_1, .int .i64 a0_2, .int .i64 a0_3, .int .i64 a0_4, .int .i64 a0_5, .int .i64 a0_6, .int .i64 a0_7, .int .i64 a0_8] 23 (0, 0))) ∧ (w'.heap[gb161]? = some (.cells #[.string a1_0, .int .i64 a1_1, .int .i64 a1_2, .int .i64 a1_3, .int .i64 a1_4, .int .i64 a1_5] 25 (0, 0))) ∧ (w'.heap[s_]? = some (.cells #[.string (⟨#[]⟩ : ByteArray), .int .i64 0, .int .i64 0, .int .i64 0, .int .i64 0, .int .i64 0] 25 (0, 0))) ∧ (w.heap.size ≤ s_) ∧ (w.heap.size ≤ s_) ∧ (gb160 ≠ s_) ∧ (s_ ≠ gb160) ∧ (gb161 ≠ s_) ∧ (s_ ≠ gb161) ∧ (Below w.heap.size w w')) ?_ ?_
                      rotate_left
                      · intro hJ5
                        refine three_ (i := 1) (j := 4) (k := 5) (Ni := some 18) (Nj := some 9) (Nk := some 10) #[true, true, true, false, false, false, false, false] #[true, false, true, false, true, false, false, false] #[true, false, true, false, false, true, false, false] rfl rfl rfl rfl rfl rfl (three_of HT_.out (by kernel_rfl)) (by decide) (by decide) (by decide) (fun K hK => ?_) (fun K hK => ?_) (fun K hK => ?_)
                        · skip
                          refine goes_ Try.func14 (by kernel_rfl) rfl #[.agg #[.int .i64 a0_0, .int .i64 a0_1, .int .i64 a0_2, .int .i64 a0_3, .int .i64 a0_4, .int .i64 a0_5, .int .i64 a0_6, .int .i64 a0_7, .int .i64 a0_8]] (by rfl) rfl rfl (by (try simp only [List.map_toArray, List.map_cons, List.map_nil]); first | done | rfl | (simp only [List.length_drop, List.length_take]; rfl)) ?_
                          with_reducible refine (damperlaw10_Given_Make.calls a0_0 a0_1 a0_2 a0_3 a0_4 a0_5 a0_6 a0_7 a0_8 t163 t164 t165 t166 t167 t168 t169 t170 t171 _ A7.out).mono ?_
                          rintro e w16 ⟨rfl, hb⟩
                          refine ⟨_, rfl, ?_⟩
                          replace BK160 := Aside0.mk (blk_below (g := gb160) (pk BK160) hb)
                          replace BK161 := Aside0.mk (blk_below (g := gb161) (pk BK161) hb)
                          replace HB := Aside0.mk (below_step (by repeat (first | (with_reducible first | exact HB.out | apply below_alloc | apply pw_below_drewN | apply below_drew1 | refine below_set ?_ GE160.out | refine below_set ?_ GE161.out) | exact HB.out)) hb)
                          (try clear hb)
                          (try clear hb2)
                          (try clear hk)
                          (try clear hi)
                          refine hK.out _ _ ⟨bc BK160 0, bc BK160 1, bc BK160 2, bc BK160 3, bc BK160 4, bc BK160 5, bc BK160 6, bc BK160 7, bc BK160 8, bc BK161 0, bc BK161 1, bc BK161 2, bc BK161 3, bc BK161 4, bc BK161 5⟩ (fun hHeld => ?_)
                          clear hK K
                          refine norm_ (a' := ?_) ?_ ?_
                          rotate_left
                          · show Act.put _ (some 18) _ = _
                            simp only [Act.put, List.setIfInBounds_toArray, List.set_cons_zero, List.set_cons_succ, i64_w, i32_w]
                            rfl
                          exact norm0_ (hJ1 () _ ⟨hHeld, (pk BK160), (pk BK161), (by repeat (first | (with_reducible first | exact HB.out | apply below_alloc | apply pw_below_drewN | apply below_drew1 | refine below_set ?_ GE160.out | refine below_set ?_ GE161.out) | exact HB.out))⟩)
                        · skip
                          refine box_step ?hg (N := 9) ?hd (cs := #[.int .i64 0, .int .i64 0, .int .i64 0, .int .i64 0, .int .i64 0, .int .i64 0, .int .i64 0, .int .i64 0, .int .i64 0]) (t := 23) ?hr ?_; (case hd => rfl); (case hg => rfl); (case hr => first | (go_simp; done) | (go_simp; rfl))
                          intro gb178 hg w16 hbox hb
                          have BK178 := Aside0.mk (hbox)
                          have GW178 := Aside0.mk ((by rw [hg]; exact (below_size (by repeat (first | (with_reducible first | exact HB.out | apply below_alloc | apply pw_below_drewN | apply below_drew1 | refine below_set ?_ GE160.out | refine below_set ?_ GE161.out) | exact HB.out))) : w.heap.size ≤ gb178))
                          have GE178 := GW178
                          have NB160_178 := Aside0.mk ((ne_lt hg (pk BK160) : gb160 ≠ gb178))
                          have NB178_160 := Aside0.mk ((ne_gt hg (pk BK160) : gb178 ≠ gb160))
                          have NB161_178 := Aside0.mk ((ne_lt hg (pk BK161) : gb161 ≠ gb178))
                          have NB178_161 := Aside0.mk ((ne_gt hg (pk BK161) : gb178 ≠ gb161))
                          replace BK160 := Aside0.mk (blk_below (g := gb160) (pk BK160) hb)
                          replace BK161 := Aside0.mk (blk_below (g := gb161) (pk BK161) hb)
                          replace HB := Aside0.mk (below_step (by repeat (first | (with_reducible first | exact HB.out | apply below_alloc | apply pw_below_drewN | apply below_drew1 | refine below_set ?_ GE160.out | refine below_set ?_ GE161.out) | exact HB.out)) hb)
                          clear hb hbox hg
                          refine hK.out _ _ ⟨bc BK160 0, bc BK160 1, bc BK160 2, bc BK160 3, bc BK160 4, bc BK160 5, bc BK160 6, bc BK160 7, bc BK160 8, bc BK161 0, bc BK161 1, bc BK161 2, bc BK161 3, bc BK161 4, bc BK161 5⟩ (fun hHeld => ?_)
                          clear hK K
                          refine norm_ (a' := ?_) ?_ ?_
                          rotate_left
                          · show Act.put _ (some 9) _ = _
                            simp only [Act.put, List.setIfInBounds_toArray, List.set_cons_zero, List.set_cons_succ, i64_w, i32_w]
                            rfl
                          exact norm0_ (hJ4 (gb178) _ ⟨hHeld, (pk BK160), (pk BK161), (pk BK178), GW178.out, GE178.out, NB160_178.out, NB178_160.out, NB161_178.out, NB178_161.out, (by repeat (first | (with_reducible first | exact HB.out | apply below_alloc | apply pw_below_drewN | apply below_drew1 | refine below_set ?_ GE160.out | refine below_set ?_ GE161.out | refine below_set ?_ GE178.out) | exact HB.out))⟩)
                        · skip
                          refine box_step ?hg (N := 10) ?hd (cs := #[.string (⟨#[]⟩ : ByteArray), .int .i64 0, .int .i64 0, .int .i64 0, .int .i64 0, .int .i64 0]) (t := 25) ?hr ?_; (case hd => rfl); (case hg => rfl); (case hr => first | (go_simp; done) | (go_simp; rfl))
                          intro gb179 hg w16 hbox hb
                          have BK179 := Aside0.mk (hbox)
                          have GW179 := Aside0.mk ((by rw [hg]; exact (below_size (by repeat (first | (with_reducible first | exact HB.out | apply below_alloc | apply pw_below_drewN | apply below_drew1 | refine below_set ?_ GE160.out | refine below_set ?_ GE161.out) | exact HB.out))) : w.heap.size ≤ gb179))
                          have GE179 := GW179
                          have NB160_179 := Aside0.mk ((ne_lt hg (pk BK160) : gb160 ≠ gb179))
                          have NB179_160 := Aside0.mk ((ne_gt hg (pk BK160) : gb179 ≠ gb160))
                          have NB161_179 := Aside0.mk ((ne_lt hg (pk BK161) : gb161 ≠ gb179))
                          have NB179_161 := Aside0.mk ((ne_gt hg (pk BK161) : gb179 ≠ gb161))
                          replace BK160 := Aside0.mk (blk_below (g := gb160) (pk BK160) hb)
                          replace BK161 := Aside0.mk (blk_below (g := gb161) (pk BK161) hb)
                          replace HB := Aside0.mk (below_step (by repeat (first | (with_reducible first | exact HB.out | apply below_alloc | apply pw_below_drewN | apply below_drew1 | refine below_set ?_ GE160.out | refine below_set ?_ GE161.out) | exact HB.out)) hb)
                          clear hb hbox hg
                          refine hK.out _ _ ⟨bc BK160 0, bc BK160 1, bc BK160 2, bc BK160 3, bc BK160 4, bc BK160 5, bc BK160 6, bc BK160 7, bc BK160 8, bc BK161 0, bc BK161 1, bc BK161 2, bc BK161 3, bc BK161 4, bc BK161 5⟩ (fun hHeld => ?_)
                          clear hK K
                          refine norm_ (a' := ?_) ?_ ?_
                          rotate_left
                          · show Act.put _ (some 10) _ = _
                            simp only [Act.put, List.setIfInBounds_toArray, List.set_cons_zero, List.set_cons_succ, i64_w, i32_w]
                            rfl
                          exact norm0_ (hJ5 (gb179) _ ⟨hHeld, (pk BK160), (pk BK161), (pk BK179), GW179.out, GE179.out, NB160_179.out, NB179_160.out, NB161_179.out, NB179_161.out, (by repeat (first | (with_reducible first | exact HB.out | apply below_alloc | apply pw_below_drewN | apply below_drew1 | refine below_set ?_ GE160.out | refine below_set ?_ GE161.out | refine below_set ?_ GE179.out) | exact HB.out))⟩)
                      · skip
                        rintro gb179 w17 ⟨hS_, h0_, h1_, h2_, h3_, h4_, h5_, h6_, h7_, h8_, h9_⟩
                        have BK179 := Aside0.mk h2_
                        have GW179 : Aside0 (w.heap.size ≤ gb179) := ⟨h3_⟩
                        have GE179 : Aside0 (w.heap.size ≤ gb179) := ⟨h4_⟩
                        have NB160_179 : Aside0 (gb160 ≠ gb179) := ⟨h5_⟩
                        have NB179_160 : Aside0 (gb179 ≠ gb160) := ⟨h6_⟩
                        have NB161_179 : Aside0 (gb161 ≠ gb179) := ⟨h7_⟩
                        have NB179_161 : Aside0 (gb179 ≠ gb161) := ⟨h8_⟩
                        replace BK160 := Aside0.mk h0_
                        replace BK161 := Aside0.mk h1_
                        replace HB : Aside0 (Below w.heap.size w w17) := ⟨h9_⟩
                        clear h0_ h1_ h2_ h3_ h4_ h5_ h6_ h7_ h8_ h9_
                        have hHeld := hS_
                        refine norm_ (a' := ?_) ?_ ?_
                        rotate_left
                        · simp only [putAll, Act.put, List.setIfInBounds_toArray, List.set_cons_zero, List.set_cons_succ]
                          rfl
                        refine two_ (i := 1) (j := 4) (Ni := some 18) (Nj := some 9) #[true, true, true, false, false, true, false, false] #[true, false, true, false, true, true, false, false] rfl rfl rfl rfl (two_of HT_.out (by kernel_rfl)) (by decide) (by decide) (fun K hK => ?_) (fun K hK => ?_)
                        · skip
                          refine goes_ Try.func14 (by kernel_rfl) rfl #[.agg #[.int .i64 a0_0, .int .i64 a0_1, .int .i64 a0_2, .int .i64 a0_3, .int .i64 a0_4, .int .i64 a0_5, .int .i64 a0_6, .int .i64 a0_7, .int .i64 a0_8]] (by rfl) rfl rfl (by (try simp only [List.map_toArray, List.map_cons, List.map_nil]); first | done | rfl | (simp only [List.length_drop, List.length_take]; rfl)) ?_
                          with_reducible refine (damperlaw10_Given_Make.calls a0_0 a0_1 a0_2 a0_3 a0_4 a0_5 a0_6 a0_7 a0_8 t163 t164 t165 t166 t167 t168 t169 t170 t171 _ A7.out).mono ?_
                          rintro e w18 ⟨rfl, hb⟩
                          refine ⟨_, rfl, ?_⟩
                          replace BK160 := Aside0.mk (blk_below (g := gb160) (pk BK160) hb)
                          replace BK161 := Aside0.mk (blk_below (g := gb161) (pk BK161) hb)
                          replace BK179 := Aside0.mk (blk_below (g := gb179) (pk BK179) hb)
                          replace HB := Aside0.mk (below_step (by repeat (first | (with_reducible first | exact HB.out | apply below_alloc | apply pw_below_drewN | apply below_drew1 | refine below_set ?_ GE160.out | refine below_set ?_ GE161.out | refine below_set ?_ GE179.out) | exact HB.out)) hb)
                          (try clear hb)
                          (try clear hb2)
                          (try clear hk)
                          (try clear hi)
                          refine hK.out _ _ ⟨bc BK160 0, bc BK160 1, bc BK160 2, bc BK160 3, bc BK160 4, bc BK160 5, bc BK160 6, bc BK160 7, bc BK160 8, bc BK161 0, bc BK161 1, bc BK161 2, bc BK161 3, bc BK161 4, bc BK161 5⟩ (fun hHeld => ?_)
                          clear hK K
                          refine norm_ (a' := ?_) ?_ ?_
                          rotate_left
                          · show Act.put _ (some 18) _ = _
                            simp only [Act.put, List.setIfInBounds_toArray, List.set_cons_zero, List.set_cons_succ, i64_w, i32_w]
                            rfl
                          exact norm0_ (hJ1_5 (gb179) _ ⟨hHeld, (pk BK160), (pk BK161), (pk BK179), GW179.out, GE179.out, NB160_179.out, NB179_160.out, NB161_179.out, NB179_161.out, (by repeat (first | (with_reducible first | exact HB.out | apply below_alloc | apply pw_below_drewN | apply below_drew1 | refine below_set ?_ GE160.out | refine below_set ?_ GE161.out | refine below_set ?_ GE179.out) | exact HB.out))⟩)
                        · skip
                          refine box_step ?hg (N := 9) ?hd (cs := #[.int .i64 0, .int .i64 0, .int .i64 0, .int .i64 0, .int .i64 0, .int .i64 0, .int .i64 0, .int .i64 0, .int .i64 0]) (t := 23) ?hr ?_; (case hd => rfl); (case hg => rfl); (case hr => first | (go_simp; done) | (go_simp; rfl))
                          intro gb178 hg w18 hbox hb
                          have BK178 := Aside0.mk (hbox)
                          have GW178 := Aside0.mk ((by rw [hg]; exact (below_size (by repeat (first | (with_reducible first | exact HB.out | apply below_alloc | apply pw_below_drewN | apply below_drew1 | refine below_set ?_ GE160.out | refine below_set ?_ GE161.out | refine below_set ?_ GE179.out) | exact HB.out))) : w.heap.size ≤ gb178))
                          have GE178 := GW178
                          have NB160_178 := Aside0.mk ((ne_lt hg (pk BK160) : gb160 ≠ gb178))
                          have NB178_160 := Aside0.mk ((ne_gt hg (pk BK160) : gb178 ≠ gb160))
                          have NB161_178 := Aside0.mk ((ne_lt hg (pk BK161) : gb161 ≠ gb178))
                          have NB178_161 := Aside0.mk ((ne_gt hg (pk BK161) : gb178 ≠ gb161))
                          have NB179_178 := Aside0.mk ((ne_lt hg (pk BK179) : gb179 ≠ gb178))
                          have NB178_179 := Aside0.mk ((ne_gt hg (pk BK179) : gb178 ≠ gb179))
                          replace BK160 := Aside0.mk (blk_below (g := gb160) (pk BK160) hb)
                          replace BK161 := Aside0.mk (blk_below (g := gb161) (pk BK161) hb)
                          replace BK179 := Aside0.mk (blk_below (g := gb179) (pk BK179) hb)
                          replace HB := Aside0.mk (below_step (by repeat (first | (with_reducible first | exact HB.out | apply below_alloc | apply pw_below_drewN | apply below_drew1 | refine below_set ?_ GE160.out | refine below_set ?_ GE161.out | refine below_set ?_ GE179.out) | exact HB.out)) hb)
                          clear hb hbox hg
                          refine hK.out _ _ ⟨bc BK160 0, bc BK160 1, bc BK160 2, bc BK160 3, bc BK160 4, bc BK160 5, bc BK160 6, bc BK160 7, bc BK160 8, bc BK161 0, bc BK161 1, bc BK161 2, bc BK161 3, bc BK161 4, bc BK161 5⟩ (fun hHeld => ?_)
                          clear hK K
                          refine norm_ (a' := ?_) ?_ ?_
                          rotate_left
                          · show Act.put _ (some 9) _ = _
                            simp only [Act.put, List.setIfInBounds_toArray, List.set_cons_zero, List.set_cons_succ, i64_w, i32_w]
                            rfl
                          exact norm0_ (hJ4_5 (gb178, gb179) _ ⟨hHeld, (pk BK160), (pk BK161), (pk BK178), (pk BK179), GW178.out, GE178.out, NB160_178.out, NB178_160.out, NB161_178.out, NB178_161.out, NB179_178.out, NB178_179.out, GW179.out, GE179.out, NB160_179.out, NB179_160.out, NB161_179.out, NB179_161.out, (by repeat (first | (with_reducible first | exact HB.out | apply below_alloc | apply pw_below_drewN | apply below_drew1 | refine below_set ?_ GE160.out | refine below_set ?_ GE161.out | refine below_set ?_ GE179.out | refine below_set ?_ GE178.out) | exact HB.out))⟩)
                    · skip
                      rintro gb178 w17 ⟨hS_, h0_, h1_, h2_, h3_, h4_, h5_, h6_, h7_, h8_, h9_⟩
                      have BK178 := Aside0.mk h2_
                      have GW178 : Aside0 (w.heap.size ≤ gb178) := ⟨h3_⟩
                      have GE178 : Aside0 (w.heap.size ≤ gb178) := ⟨h4_⟩
                      have NB160_178 : Aside0 (gb160 ≠ gb178) := ⟨h5_⟩
                      have NB178_160 : Aside0 (gb178 ≠ gb160) := ⟨h6_⟩
                      have NB161_178 : Aside0 (gb161 ≠ gb178) := ⟨h7_⟩
                      have NB178_161 : Aside0 (gb178 ≠ gb161) := ⟨h8_⟩
                      replace BK160 := Aside0.mk h0_
                      replace BK161 := Aside0.mk h1_
                      replace HB : Aside0 (Below w.heap.size w w17) := ⟨h9_⟩
                      clear h0_ h1_ h2_ h3_ h4_ h5_ h6_ h7_ h8_ h9_
                      have hHeld := hS_
                      refine norm_ (a' := ?_) ?_ ?_
                      rotate_left
                      · simp only [putAll, Act.put, List.setIfInBounds_toArray, List.set_cons_zero, List.set_cons_succ]
                        rfl
                      refine two_ (i := 1) (j := 5) (Ni := some 18) (Nj := some 10) #[true, true, true, false, true, false, false, false] #[true, false, true, false, true, true, false, false] rfl rfl rfl rfl (two_of HT_.out (by kernel_rfl)) (by decide) (by decide) (fun K hK => ?_) (fun K hK => ?_)
                      · skip
                        refine goes_ Try.func14 (by kernel_rfl) rfl #[.agg #[.int .i64 a0_0, .int .i64 a0_1, .int .i64 a0_2, .int .i64 a0_3, .int .i64 a0_4, .int .i64 a0_5, .int .i64 a0_6, .int .i64 a0_7, .int .i64 a0_8]] (by rfl) rfl rfl (by (try simp only [List.map_toArray, List.map_cons, List.map_nil]); first | done | rfl | (simp only [List.length_drop, List.length_take]; rfl)) ?_
                        with_reducible refine (damperlaw10_Given_Make.calls a0_0 a0_1 a0_2 a0_3 a0_4 a0_5 a0_6 a0_7 a0_8 t163 t164 t165 t166 t167 t168 t169 t170 t171 _ A7.out).mono ?_
                        rintro e w18 ⟨rfl, hb⟩
                        refine ⟨_, rfl, ?_⟩
                        replace BK160 := Aside0.mk (blk_below (g := gb160) (pk BK160) hb)
                        replace BK161 := Aside0.mk (blk_below (g := gb161) (pk BK161) hb)
                        replace BK178 := Aside0.mk (blk_below (g := gb178) (pk BK178) hb)
                        replace HB := Aside0.mk (below_step (by repeat (first | (with_reducible first | exact HB.out | apply below_alloc | apply pw_below_drewN | apply below_drew1 | refine below_set ?_ GE160.out | refine below_set ?_ GE161.out | refine below_set ?_ GE178.out) | exact HB.out)) hb)
                        (try clear hb)
                        (try clear hb2)
                        (try clear hk)
                        (try clear hi)
                        refine hK.out _ _ ⟨bc BK160 0, bc BK160 1, bc BK160 2, bc BK160 3, bc BK160 4, bc BK160 5, bc BK160 6, bc BK160 7, bc BK160 8, bc BK161 0, bc BK161 1, bc BK161 2, bc BK161 3, bc BK161 4, bc BK161 5⟩ (fun hHeld => ?_)
                        clear hK K
                        refine norm_ (a' := ?_) ?_ ?_
                        rotate_left
                        · show Act.put _ (some 18) _ = _
                          simp only [Act.put, List.setIfInBounds_toArray, List.set_cons_zero, List.set_cons_succ, i64_w, i32_w]
                          rfl
                        exact norm0_ (hJ1_4 (gb178) _ ⟨hHeld, (pk BK160), (pk BK161), (pk BK178), GW178.out, GE178.out, NB160_178.out, NB178_160.out, NB161_178.out, NB178_161.out, (by repeat (first | (with_reducible first | exact HB.out | apply below_alloc | apply pw_below_drewN | apply below_drew1 | refine below_set ?_ GE160.out | refine below_set ?_ GE161.out | refine below_set ?_ GE178.out) | exact HB.out))⟩)
                      · skip
                        refine box_step ?hg (N := 10) ?hd (cs := #[.string (⟨#[]⟩ : ByteArray), .int .i64 0, .int .i64 0, .int .i64 0, .int .i64 0, .int .i64 0]) (t := 25) ?hr ?_; (case hd => rfl); (case hg => rfl); (case hr => first | (go_simp; done) | (go_simp; rfl))
                        intro gb179 hg w18 hbox hb
                        have BK179 := Aside0.mk (hbox)
                        have GW179 := Aside0.mk ((by rw [hg]; exact (below_size (by repeat (first | (with_reducible first | exact HB.out | apply below_alloc | apply pw_below_drewN | apply below_drew1 | refine below_set ?_ GE160.out | refine below_set ?_ GE161.out | refine below_set ?_ GE178.out) | exact HB.out))) : w.heap.size ≤ gb179))
                        have GE179 := GW179
                        have NB160_179 := Aside0.mk ((ne_lt hg (pk BK160) : gb160 ≠ gb179))
                        have NB179_160 := Aside0.mk ((ne_gt hg (pk BK160) : gb179 ≠ gb160))
                        have NB161_179 := Aside0.mk ((ne_lt hg (pk BK161) : gb161 ≠ gb179))
                        have NB179_161 := Aside0.mk ((ne_gt hg (pk BK161) : gb179 ≠ gb161))
                        have NB178_179 := Aside0.mk ((ne_lt hg (pk BK178) : gb178 ≠ gb179))
                        have NB179_178 := Aside0.mk ((ne_gt hg (pk BK178) : gb179 ≠ gb178))
                        replace BK160 := Aside0.mk (blk_below (g := gb160) (pk BK160) hb)
                        replace BK161 := Aside0.mk (blk_below (g := gb161) (pk BK161) hb)
                        replace BK178 := Aside0.mk (blk_below (g := gb178) (pk BK178) hb)
                        replace HB := Aside0.mk (below_step (by repeat (first | (with_reducible first | exact HB.out | apply below_alloc | apply pw_below_drewN | apply below_drew1 | refine below_set ?_ GE160.out | refine below_set ?_ GE161.out | refine below_set ?_ GE178.out) | exact HB.out)) hb)
                        clear hb hbox hg
                        refine hK.out _ _ ⟨bc BK160 0, bc BK160 1, bc BK160 2, bc BK160 3, bc BK160 4, bc BK160 5, bc BK160 6, bc BK160 7, bc BK160 8, bc BK161 0, bc BK161 1, bc BK161 2, bc BK161 3, bc BK161 4, bc BK161 5⟩ (fun hHeld => ?_)
                        clear hK K
                        refine norm_ (a' := ?_) ?_ ?_
                        rotate_left
                        · show Act.put _ (some 10) _ = _
                          simp only [Act.put, List.setIfInBounds_toArray, List.set_cons_zero, List.set_cons_succ, i64_w, i32_w]
                          rfl
                        exact norm0_ (hJ4_5 (gb178, gb179) _ ⟨hHeld, (pk BK160), (pk BK161), (pk BK178), (pk BK179), GW178.out, GE178.out, NB160_178.out, NB178_160.out, NB161_178.out, NB178_161.out, NB179_178.out, NB178_179.out, GW179.out, GE179.out, NB160_179.out, NB179_160.out, NB161_179.out, NB179_161.out, (by repeat (first | (with_reducible first | exact HB.out | apply below_alloc | apply pw_below_drewN | apply below_drew1 | refine below_set ?_ GE160.out | refine below_set ?_ GE161.out | refine below_set ?_ GE178.out | refine below_set ?_ GE179.out) | exact HB.out))⟩)
                  · skip
                    rintro _ w17 ⟨hS_, h0_, h1_, h2_⟩
                    replace BK160 := Aside0.mk h0_
                    replace BK161 := Aside0.mk h1_
                    replace HB : Aside0 (Below w.heap.size w w17) := ⟨h2_⟩
                    clear h0_ h1_ h2_
                    have hHeld := hS_
                    refine norm_ (a' := ?_) ?_ ?_
                    rotate_left
                    · simp only [putAll, Act.put, List.setIfInBounds_toArray, List.set_cons_zero, List.set_cons_succ]
                      rfl
                    refine three_ (i := 3) (j := 4) (k := 5) (Ni := some 20) (Nj := some 9) (Nk := some 10) #[true, true, true, true, false, false, false, false] #[true, true, true, false, true, false, false, false] #[true, true, true, false, false, true, false, false] rfl rfl rfl rfl rfl rfl (three_of HT_.out (by kernel_rfl)) (by decide) (by decide) (by decide) (fun K hK => ?_) (fun K hK => ?_) (fun K hK => ?_)
                    · skip
                      refine goes_ Try.func15 (by kernel_rfl) rfl #[.agg #[.string a1_0, .int .i64 a1_1, .int .i64 a1_2, .int .i64 a1_3, .int .i64 a1_4, .int .i64 a1_5], .int .i64 0] (by rfl) rfl rfl (by (try simp only [List.map_toArray, List.map_cons, List.map_nil]); first | done | rfl | (simp only [List.length_drop, List.length_take]; rfl)) ?_
                      with_reducible refine (damperlaw2_Config.calls a1_0 a1_1 a1_2 a1_3 a1_4 a1_5 0 t172 t173 t174 t175 t176 t177 _ A8.out).mono ?_
                      rintro e w18 ⟨rfl, hb⟩
                      refine ⟨_, rfl, ?_⟩
                      replace BK160 := Aside0.mk (blk_below (g := gb160) (pk BK160) hb)
                      replace BK161 := Aside0.mk (blk_below (g := gb161) (pk BK161) hb)
                      replace HB := Aside0.mk (below_step (by repeat (first | (with_reducible first | exact HB.out | apply below_alloc | apply pw_below_drewN | apply below_drew1 | refine below_set ?_ GE160.out | refine below_set ?_ GE161.out) | exact HB.out)) hb)
                      (try clear hb)
                      (try clear hb2)
                      (try clear hk)
                      (try clear hi)
                      refine hK.out _ _ ⟨bc BK160 0, bc BK160 1, bc BK160 2, bc BK160 3, bc BK160 4, bc BK160 5, bc BK160 6, bc BK160 7, bc BK160 8, bc BK161 0, bc BK161 1, bc BK161 2, bc BK161 3, bc BK161 4, bc BK161 5⟩ (fun hHeld => ?_)
                      clear hK K
                      refine norm_ (a' := ?_) ?_ ?_
                      rotate_left
                      · show Act.put _ (some 20) _ = _
                        simp only [Act.put, List.setIfInBounds_toArray, List.set_cons_zero, List.set_cons_succ, i64_w, i32_w]
                        rfl
                      exact norm0_ (hJ1_3 () _ ⟨hHeld, (pk BK160), (pk BK161), (by repeat (first | (with_reducible first | exact HB.out | apply below_alloc | apply pw_below_drewN | apply below_drew1 | refine below_set ?_ GE160.out | refine below_set ?_ GE161.out) | exact HB.out))⟩)
                    · skip
                      refine box_step ?hg (N := 9) ?hd (cs := #[.int .i64 0, .int .i64 0, .int .i64 0, .int .i64 0, .int .i64 0, .int .i64 0, .int .i64 0, .int .i64 0, .int .i64 0]) (t := 23) ?hr ?_; (case hd => rfl); (case hg => rfl); (case hr => first | (go_simp; done) | (go_simp; rfl))
                      intro gb178 hg w18 hbox hb
                      have BK178 := Aside0.mk (hbox)
                      have GW178 := Aside0.mk ((by rw [hg]; exact (below_size (by repeat (first | (with_reducible first | exact HB.out | apply below_alloc | apply pw_below_drewN | apply below_drew1 | refine below_set ?_ GE160.out | refine below_set ?_ GE161.out) | exact HB.out))) : w.heap.size ≤ gb178))
                      have GE178 := GW178
                      have NB160_178 := Aside0.mk ((ne_lt hg (pk BK160) : gb160 ≠ gb178))
                      have NB178_160 := Aside0.mk ((ne_gt hg (pk BK160) : gb178 ≠ gb160))
                      have NB161_178 := Aside0.mk ((ne_lt hg (pk BK161) : gb161 ≠ gb178))
                      have NB178_161 := Aside0.mk ((ne_gt hg (pk BK161) : gb178 ≠ gb161))
                      replace BK160 := Aside0.mk (blk_below (g := gb160) (pk BK160) hb)
                      replace BK161 := Aside0.mk (blk_below (g := gb161) (pk BK161) hb)
                      replace HB := Aside0.mk (below_step (by repeat (first | (with_reducible first | exact HB.out | apply below_alloc | apply pw_below_drewN | apply below_drew1 | refine below_set ?_ GE160.out | refine below_set ?_ GE161.out) | exact HB.out)) hb)
                      clear hb hbox hg
                      refine hK.out _ _ ⟨bc BK160 0, bc BK160 1, bc BK160 2, bc BK160 3, bc BK160 4, bc BK160 5, bc BK160 6, bc BK160 7, bc BK160 8, bc BK161 0, bc BK161 1, bc BK161 2, bc BK161 3, bc BK161 4, bc BK161 5⟩ (fun hHeld => ?_)
                      clear hK K
                      refine norm_ (a' := ?_) ?_ ?_
                      rotate_left
                      · show Act.put _ (some 9) _ = _
                        simp only [Act.put, List.setIfInBounds_toArray, List.set_cons_zero, List.set_cons_succ, i64_w, i32_w]
                        rfl
                      exact norm0_ (hJ1_4 (gb178) _ ⟨hHeld, (pk BK160), (pk BK161), (pk BK178), GW178.out, GE178.out, NB160_178.out, NB178_160.out, NB161_178.out, NB178_161.out, (by repeat (first | (with_reducible first | exact HB.out | apply below_alloc | apply pw_below_drewN | apply below_drew1 | refine below_set ?_ GE160.out | refine below_set ?_ GE161.out | refine below_set ?_ GE178.out) | exact HB.out))⟩)
                    · skip
                      refine box_step ?hg (N := 10) ?hd (cs := #[.string (⟨#[]⟩ : ByteArray), .int .i64 0, .int .i64 0, .int .i64 0, .int .i64 0, .int .i64 0]) (t := 25) ?hr ?_; (case hd => rfl); (case hg => rfl); (case hr => first | (go_simp; done) | (go_simp; rfl))
                      intro gb179 hg w18 hbox hb
                      have BK179 := Aside0.mk (hbox)
                      have GW179 := Aside0.mk ((by rw [hg]; exact (below_size (by repeat (first | (with_reducible first | exact HB.out | apply below_alloc | apply pw_below_drewN | apply below_drew1 | refine below_set ?_ GE160.out | refine below_set ?_ GE161.out) | exact HB.out))) : w.heap.size ≤ gb179))
                      have GE179 := GW179
                      have NB160_179 := Aside0.mk ((ne_lt hg (pk BK160) : gb160 ≠ gb179))
                      have NB179_160 := Aside0.mk ((ne_gt hg (pk BK160) : gb179 ≠ gb160))
                      have NB161_179 := Aside0.mk ((ne_lt hg (pk BK161) : gb161 ≠ gb179))
                      have NB179_161 := Aside0.mk ((ne_gt hg (pk BK161) : gb179 ≠ gb161))
                      replace BK160 := Aside0.mk (blk_below (g := gb160) (pk BK160) hb)
                      replace BK161 := Aside0.mk (blk_below (g := gb161) (pk BK161) hb)
                      replace HB := Aside0.mk (below_step (by repeat (first | (with_reducible first | exact HB.out | apply below_alloc | apply pw_below_drewN | apply below_drew1 | refine below_set ?_ GE160.out | refine below_set ?_ GE161.out) | exact HB.out)) hb)
                      clear hb hbox hg
                      refine hK.out _ _ ⟨bc BK160 0, bc BK160 1, bc BK160 2, bc BK160 3, bc BK160 4, bc BK160 5, bc BK160 6, bc BK160 7, bc BK160 8, bc BK161 0, bc BK161 1, bc BK161 2, bc BK161 3, bc BK161 4, bc BK161 5⟩ (fun hHeld => ?_)
                      clear hK K
                      refine norm_ (a' := ?_) ?_ ?_
                      rotate_left
                      · show Act.put _ (some 10) _ = _
                        simp only [Act.put, List.setIfInBounds_toArray, List.set_cons_zero, List.set_cons_succ, i64_w, i32_w]
                        rfl
                      exact norm0_ (hJ1_5 (gb179) _ ⟨hHeld, (pk BK160), (pk BK161), (pk BK179), GW179.out, GE179.out, NB160_179.out, NB179_160.out, NB161_179.out, NB179_161.out, (by repeat (first | (with_reducible first | exact HB.out | apply below_alloc | apply pw_below_drewN | apply below_drew1 | refine below_set ?_ GE160.out | refine below_set ?_ GE161.out | refine below_set ?_ GE179.out) | exact HB.out))⟩)
                · skip
                  rintro ⟨gb178, gb179⟩ w18 ⟨hS_, h0_, h1_, h2_, h3_, h4_, h5_, h6_, h7_, h8_, h9_, h10_, h11_, h12_, h13_, h14_, h15_, h16_, h17_, h18_⟩
                  have BK178 : Aside0 (w18.heap[gb178]? = some (.cells #[.int .i64 0, .int .i64 0, .int .i64 0, .int .i64 0, .int .i64 0, .int .i64 0, .int .i64 0, .int .i64 0, .int .i64 0] 23 (0, 0))) := ⟨h2_⟩
                  have BK179 : Aside0 (w18.heap[gb179]? = some (.cells #[.string (⟨#[]⟩ : ByteArray), .int .i64 0, .int .i64 0, .int .i64 0, .int .i64 0, .int .i64 0] 25 (0, 0))) := ⟨h3_⟩
                  have GW178 : Aside0 (w.heap.size ≤ gb178) := ⟨h4_⟩
                  have GE178 : Aside0 (w.heap.size ≤ gb178) := ⟨h5_⟩
                  have NB160_178 : Aside0 (gb160 ≠ gb178) := ⟨h6_⟩
                  have NB178_160 : Aside0 (gb178 ≠ gb160) := ⟨h7_⟩
                  have NB161_178 : Aside0 (gb161 ≠ gb178) := ⟨h8_⟩
                  have NB178_161 : Aside0 (gb178 ≠ gb161) := ⟨h9_⟩
                  have NB179_178 : Aside0 (gb179 ≠ gb178) := ⟨h10_⟩
                  have NB178_179 : Aside0 (gb178 ≠ gb179) := ⟨h11_⟩
                  have GW179 : Aside0 (w.heap.size ≤ gb179) := ⟨h12_⟩
                  have GE179 : Aside0 (w.heap.size ≤ gb179) := ⟨h13_⟩
                  have NB160_179 : Aside0 (gb160 ≠ gb179) := ⟨h14_⟩
                  have NB179_160 : Aside0 (gb179 ≠ gb160) := ⟨h15_⟩
                  have NB161_179 : Aside0 (gb161 ≠ gb179) := ⟨h16_⟩
                  have NB179_161 : Aside0 (gb179 ≠ gb161) := ⟨h17_⟩
                  replace BK160 := Aside0.mk h0_
                  replace BK161 := Aside0.mk h1_
                  replace HB : Aside0 (Below w.heap.size w w18) := ⟨h18_⟩
                  clear h0_ h1_ h2_ h3_ h4_ h5_ h6_ h7_ h8_ h9_ h10_ h11_ h12_ h13_ h14_ h15_ h16_ h17_ h18_
                  have hHeld := hS_
                  refine norm_ (a' := ?_) ?_ ?_
                  rotate_left
                  · simp only [putAll, Act.put, List.setIfInBounds_toArray, List.set_cons_zero, List.set_cons_succ]
                    rfl
                  refine one_ (i := 1) (N := some 18) #[true, true, true, false, true, true, false, false] rfl rfl (one_of HT_.out (by kernel_rfl)) (by decide) (fun K hK => ?_)
                  refine goes_ Try.func14 (by kernel_rfl) rfl #[.agg #[.int .i64 a0_0, .int .i64 a0_1, .int .i64 a0_2, .int .i64 a0_3, .int .i64 a0_4, .int .i64 a0_5, .int .i64 a0_6, .int .i64 a0_7, .int .i64 a0_8]] (by rfl) rfl rfl (by (try simp only [List.map_toArray, List.map_cons, List.map_nil]); first | done | rfl | (simp only [List.length_drop, List.length_take]; rfl)) ?_
                  with_reducible refine (damperlaw10_Given_Make.calls a0_0 a0_1 a0_2 a0_3 a0_4 a0_5 a0_6 a0_7 a0_8 t163 t164 t165 t166 t167 t168 t169 t170 t171 _ A7.out).mono ?_
                  rintro e w19 ⟨rfl, hb⟩
                  refine ⟨_, rfl, ?_⟩
                  replace BK160 := Aside0.mk (blk_below (g := gb160) (pk BK160) hb)
                  replace BK161 := Aside0.mk (blk_below (g := gb161) (pk BK161) hb)
                  replace BK178 := Aside0.mk (blk_below (g := gb178) (pk BK178) hb)
                  replace BK179 := Aside0.mk (blk_below (g := gb179) (pk BK179) hb)
                  replace HB := Aside0.mk (below_step (by repeat (first | (with_reducible first | exact HB.out | apply below_alloc | apply pw_below_drewN | apply below_drew1 | refine below_set ?_ GE160.out | refine below_set ?_ GE161.out | refine below_set ?_ GE178.out | refine below_set ?_ GE179.out) | exact HB.out)) hb)
                  (try clear hb)
                  (try clear hb2)
                  (try clear hk)
                  (try clear hi)
                  refine hK.out _ _ ⟨bc BK160 0, bc BK160 1, bc BK160 2, bc BK160 3, bc BK160 4, bc BK160 5, bc BK160 6, bc BK160 7, bc BK160 8, bc BK161 0, bc BK161 1, bc BK161 2, bc BK161 3, bc BK161 4, bc BK161 5⟩ (fun hHeld => ?_)
                  clear hK K
                  refine norm_ (a' := ?_) ?_ ?_
                  rotate_left
                  · show Act.put _ (some 18) _ = _
                    simp only [Act.put, List.setIfInBounds_toArray, List.set_cons_zero, List.set_cons_succ, i64_w, i32_w]
                    rfl
                  exact norm0_ (hJ1_4_5 (gb178, gb179) _ ⟨hHeld, (pk BK160), (pk BK161), (pk BK178), (pk BK179), GW178.out, GE178.out, NB160_178.out, NB178_160.out, NB161_178.out, NB178_161.out, NB179_178.out, NB178_179.out, GW179.out, GE179.out, NB160_179.out, NB179_160.out, NB161_179.out, NB179_161.out, (by repeat (first | (with_reducible first | exact HB.out | apply below_alloc | apply pw_below_drewN | apply below_drew1 | refine below_set ?_ GE160.out | refine below_set ?_ GE161.out | refine below_set ?_ GE178.out | refine below_set ?_ GE179.out) | exact HB.out))⟩)
              · skip
                rintro gb179 w18 ⟨hS_, h0_, h1_, h2_, h3_, h4_, h5_, h6_, h7_, h8_, h9_⟩
                have BK179 := Aside0.mk h2_
                have GW179 : Aside0 (w.heap.size ≤ gb179) := ⟨h3_⟩
                have GE179 : Aside0 (w.heap.size ≤ gb179) := ⟨h4_⟩
                have NB160_179 : Aside0 (gb160 ≠ gb179) := ⟨h5_⟩
                have NB179_160 : Aside0 (gb179 ≠ gb160) := ⟨h6_⟩
                have NB161_179 : Aside0 (gb161 ≠ gb179) := ⟨h7_⟩
                have NB179_161 : Aside0 (gb179 ≠ gb161) := ⟨h8_⟩
                replace BK160 := Aside0.mk h0_
                replace BK161 := Aside0.mk h1_
                replace HB : Aside0 (Below w.heap.size w w18) := ⟨h9_⟩
                clear h0_ h1_ h2_ h3_ h4_ h5_ h6_ h7_ h8_ h9_
                have hHeld := hS_
                refine norm_ (a' := ?_) ?_ ?_
                rotate_left
                · simp only [putAll, Act.put, List.setIfInBounds_toArray, List.set_cons_zero, List.set_cons_succ]
                  rfl
                refine two_ (i := 3) (j := 4) (Ni := some 20) (Nj := some 9) #[true, true, true, true, false, true, false, false] #[true, true, true, false, true, true, false, false] rfl rfl rfl rfl (two_of HT_.out (by kernel_rfl)) (by decide) (by decide) (fun K hK => ?_) (fun K hK => ?_)
                · skip
                  refine goes_ Try.func15 (by kernel_rfl) rfl #[.agg #[.string a1_0, .int .i64 a1_1, .int .i64 a1_2, .int .i64 a1_3, .int .i64 a1_4, .int .i64 a1_5], .int .i64 0] (by rfl) rfl rfl (by (try simp only [List.map_toArray, List.map_cons, List.map_nil]); first | done | rfl | (simp only [List.length_drop, List.length_take]; rfl)) ?_
                  with_reducible refine (damperlaw2_Config.calls a1_0 a1_1 a1_2 a1_3 a1_4 a1_5 0 t172 t173 t174 t175 t176 t177 _ A8.out).mono ?_
                  rintro e w19 ⟨rfl, hb⟩
                  refine ⟨_, rfl, ?_⟩
                  replace BK160 := Aside0.mk (blk_below (g := gb160) (pk BK160) hb)
                  replace BK161 := Aside0.mk (blk_below (g := gb161) (pk BK161) hb)
                  replace BK179 := Aside0.mk (blk_below (g := gb179) (pk BK179) hb)
                  replace HB := Aside0.mk (below_step (by repeat (first | (with_reducible first | exact HB.out | apply below_alloc | apply pw_below_drewN | apply below_drew1 | refine below_set ?_ GE160.out | refine below_set ?_ GE161.out | refine below_set ?_ GE179.out) | exact HB.out)) hb)
                  (try clear hb)
                  (try clear hb2)
                  (try clear hk)
                  (try clear hi)
                  refine hK.out _ _ ⟨bc BK160 0, bc BK160 1, bc BK160 2, bc BK160 3, bc BK160 4, bc BK160 5, bc BK160 6, bc BK160 7, bc BK160 8, bc BK161 0, bc BK161 1, bc BK161 2, bc BK161 3, bc BK161 4, bc BK161 5⟩ (fun hHeld => ?_)
                  clear hK K
                  refine norm_ (a' := ?_) ?_ ?_
                  rotate_left
                  · show Act.put _ (some 20) _ = _
                    simp only [Act.put, List.setIfInBounds_toArray, List.set_cons_zero, List.set_cons_succ, i64_w, i32_w]
                    rfl
                  exact norm0_ (hJ1_3_5 (gb179) _ ⟨hHeld, (pk BK160), (pk BK161), (pk BK179), GW179.out, GE179.out, NB160_179.out, NB179_160.out, NB161_179.out, NB179_161.out, (by repeat (first | (with_reducible first | exact HB.out | apply below_alloc | apply pw_below_drewN | apply below_drew1 | refine below_set ?_ GE160.out | refine below_set ?_ GE161.out | refine below_set ?_ GE179.out) | exact HB.out))⟩)
                · skip
                  refine box_step ?hg (N := 9) ?hd (cs := #[.int .i64 0, .int .i64 0, .int .i64 0, .int .i64 0, .int .i64 0, .int .i64 0, .int .i64 0, .int .i64 0, .int .i64 0]) (t := 23) ?hr ?_; (case hd => rfl); (case hg => rfl); (case hr => first | (go_simp; done) | (go_simp; rfl))
                  intro gb178 hg w19 hbox hb
                  have BK178 := Aside0.mk (hbox)
                  have GW178 := Aside0.mk ((by rw [hg]; exact (below_size (by repeat (first | (with_reducible first | exact HB.out | apply below_alloc | apply pw_below_drewN | apply below_drew1 | refine below_set ?_ GE160.out | refine below_set ?_ GE161.out | refine below_set ?_ GE179.out) | exact HB.out))) : w.heap.size ≤ gb178))
                  have GE178 := GW178
                  have NB160_178 := Aside0.mk ((ne_lt hg (pk BK160) : gb160 ≠ gb178))
                  have NB178_160 := Aside0.mk ((ne_gt hg (pk BK160) : gb178 ≠ gb160))
                  have NB161_178 := Aside0.mk ((ne_lt hg (pk BK161) : gb161 ≠ gb178))
                  have NB178_161 := Aside0.mk ((ne_gt hg (pk BK161) : gb178 ≠ gb161))
                  have NB179_178 := Aside0.mk ((ne_lt hg (pk BK179) : gb179 ≠ gb178))
                  have NB178_179 := Aside0.mk ((ne_gt hg (pk BK179) : gb178 ≠ gb179))
                  replace BK160 := Aside0.mk (blk_below (g := gb160) (pk BK160) hb)
                  replace BK161 := Aside0.mk (blk_below (g := gb161) (pk BK161) hb)
                  replace BK179 := Aside0.mk (blk_below (g := gb179) (pk BK179) hb)
                  replace HB := Aside0.mk (below_step (by repeat (first | (with_reducible first | exact HB.out | apply below_alloc | apply pw_below_drewN | apply below_drew1 | refine below_set ?_ GE160.out | refine below_set ?_ GE161.out | refine below_set ?_ GE179.out) | exact HB.out)) hb)
                  clear hb hbox hg
                  refine hK.out _ _ ⟨bc BK160 0, bc BK160 1, bc BK160 2, bc BK160 3, bc BK160 4, bc BK160 5, bc BK160 6, bc BK160 7, bc BK160 8, bc BK161 0, bc BK161 1, bc BK161 2, bc BK161 3, bc BK161 4, bc BK161 5⟩ (fun hHeld => ?_)
                  clear hK K
                  refine norm_ (a' := ?_) ?_ ?_
                  rotate_left
                  · show Act.put _ (some 9) _ = _
                    simp only [Act.put, List.setIfInBounds_toArray, List.set_cons_zero, List.set_cons_succ, i64_w, i32_w]
                    rfl
                  exact norm0_ (hJ1_4_5 (gb178, gb179) _ ⟨hHeld, (pk BK160), (pk BK161), (pk BK178), (pk BK179), GW178.out, GE178.out, NB160_178.out, NB178_160.out, NB161_178.out, NB178_161.out, NB179_178.out, NB178_179.out, GW179.out, GE179.out, NB160_179.out, NB179_160.out, NB161_179.out, NB179_161.out, (by repeat (first | (with_reducible first | exact HB.out | apply below_alloc | apply pw_below_drewN | apply below_drew1 | refine below_set ?_ GE160.out | refine below_set ?_ GE161.out | refine below_set ?_ GE179.out | refine below_set ?_ GE178.out) | exact HB.out))⟩)
            · skip
              rintro gb178 w18 ⟨hS_, h0_, h1_, h2_, h3_, h4_, h5_, h6_, h7_, h8_, h9_⟩
              have BK178 := Aside0.mk h2_
              have GW178 : Aside0 (w.heap.size ≤ gb178) := ⟨h3_⟩
              have GE178 : Aside0 (w.heap.size ≤ gb178) := ⟨h4_⟩
              have NB160_178 : Aside0 (gb160 ≠ gb178) := ⟨h5_⟩
              have NB178_160 : Aside0 (gb178 ≠ gb160) := ⟨h6_⟩
              have NB161_178 : Aside0 (gb161 ≠ gb178) := ⟨h7_⟩
              have NB178_161 : Aside0 (gb178 ≠ gb161) := ⟨h8_⟩
              replace BK160 := Aside0.mk h0_
              replace BK161 := Aside0.mk h1_
              replace HB : Aside0 (Below w.heap.size w w18) := ⟨h9_⟩
              clear h0_ h1_ h2_ h3_ h4_ h5_ h6_ h7_ h8_ h9_
              have hHeld := hS_
              refine norm_ (a' := ?_) ?_ ?_
              rotate_left
              · simp only [putAll, Act.put, List.setIfInBounds_toArray, List.set_cons_zero, List.set_cons_succ]
                rfl
              refine two_ (i := 3) (j := 5) (Ni := some 20) (Nj := some 10) #[true, true, true, true, true, false, false, false] #[true, true, true, false, true, true, false, false] rfl rfl rfl rfl (two_of HT_.out (by kernel_rfl)) (by decide) (by decide) (fun K hK => ?_) (fun K hK => ?_)
              · skip
                refine goes_ Try.func15 (by kernel_rfl) rfl #[.agg #[.string a1_0, .int .i64 a1_1, .int .i64 a1_2, .int .i64 a1_3, .int .i64 a1_4, .int .i64 a1_5], .int .i64 0] (by rfl) rfl rfl (by (try simp only [List.map_toArray, List.map_cons, List.map_nil]); first | done | rfl | (simp only [List.length_drop, List.length_take]; rfl)) ?_
                with_reducible refine (damperlaw2_Config.calls a1_0 a1_1 a1_2 a1_3 a1_4 a1_5 0 t172 t173 t174 t175 t176 t177 _ A8.out).mono ?_
                rintro e w19 ⟨rfl, hb⟩
                refine ⟨_, rfl, ?_⟩
                replace BK160 := Aside0.mk (blk_below (g := gb160) (pk BK160) hb)
                replace BK161 := Aside0.mk (blk_below (g := gb161) (pk BK161) hb)
                replace BK178 := Aside0.mk (blk_below (g := gb178) (pk BK178) hb)
                replace HB := Aside0.mk (below_step (by repeat (first | (with_reducible first | exact HB.out | apply below_alloc | apply pw_below_drewN | apply below_drew1 | refine below_set ?_ GE160.out | refine below_set ?_ GE161.out | refine below_set ?_ GE178.out) | exact HB.out)) hb)
                (try clear hb)
                (try clear hb2)
                (try clear hk)
                (try clear hi)
                refine hK.out _ _ ⟨bc BK160 0, bc BK160 1, bc BK160 2, bc BK160 3, bc BK160 4, bc BK160 5, bc BK160 6, bc BK160 7, bc BK160 8, bc BK161 0, bc BK161 1, bc BK161 2, bc BK161 3, bc BK161 4, bc BK161 5⟩ (fun hHeld => ?_)
                clear hK K
                refine norm_ (a' := ?_) ?_ ?_
                rotate_left
                · show Act.put _ (some 20) _ = _
                  simp only [Act.put, List.setIfInBounds_toArray, List.set_cons_zero, List.set_cons_succ, i64_w, i32_w]
                  rfl
                exact norm0_ (hJ1_3_4 (gb178) _ ⟨hHeld, (pk BK160), (pk BK161), (pk BK178), GW178.out, GE178.out, NB160_178.out, NB178_160.out, NB161_178.out, NB178_161.out, (by repeat (first | (with_reducible first | exact HB.out | apply below_alloc | apply pw_below_drewN | apply below_drew1 | refine below_set ?_ GE160.out | refine below_set ?_ GE161.out | refine below_set ?_ GE178.out) | exact HB.out))⟩)
              · skip
                refine box_step ?hg (N := 10) ?hd (cs := #[.string (⟨#[]⟩ : ByteArray), .int .i64 0, .int .i64 0, .int .i64 0, .int .i64 0, .int .i64 0]) (t := 25) ?hr ?_; (case hd => rfl); (case hg => rfl); (case hr => first | (go_simp; done) | (go_simp; rfl))
                intro gb179 hg w19 hbox hb
                have BK179 := Aside0.mk (hbox)
                have GW179 := Aside0.mk ((by rw [hg]; exact (below_size (by repeat (first | (with_reducible first | exact HB.out | apply below_alloc | apply pw_below_drewN | apply below_drew1 | refine below_set ?_ GE160.out | refine below_set ?_ GE161.out | refine below_set ?_ GE178.out) | exact HB.out))) : w.heap.size ≤ gb179))
                have GE179 := GW179
                have NB160_179 := Aside0.mk ((ne_lt hg (pk BK160) : gb160 ≠ gb179))
                have NB179_160 := Aside0.mk ((ne_gt hg (pk BK160) : gb179 ≠ gb160))
                have NB161_179 := Aside0.mk ((ne_lt hg (pk BK161) : gb161 ≠ gb179))
                have NB179_161 := Aside0.mk ((ne_gt hg (pk BK161) : gb179 ≠ gb161))
                have NB178_179 := Aside0.mk ((ne_lt hg (pk BK178) : gb178 ≠ gb179))
                have NB179_178 := Aside0.mk ((ne_gt hg (pk BK178) : gb179 ≠ gb178))
                replace BK160 := Aside0.mk (blk_below (g := gb160) (pk BK160) hb)
                replace BK161 := Aside0.mk (blk_below (g := gb161) (pk BK161) hb)
                replace BK178 := Aside0.mk (blk_below (g := gb178) (pk BK178) hb)
                replace HB := Aside0.mk (below_step (by repeat (first | (with_reducible first | exact HB.out | apply below_alloc | apply pw_below_drewN | apply below_drew1 | refine below_set ?_ GE160.out | refine below_set ?_ GE161.out | refine below_set ?_ GE178.out) | exact HB.out)) hb)
                clear hb hbox hg
                refine hK.out _ _ ⟨bc BK160 0, bc BK160 1, bc BK160 2, bc BK160 3, bc BK160 4, bc BK160 5, bc BK160 6, bc BK160 7, bc BK160 8, bc BK161 0, bc BK161 1, bc BK161 2, bc BK161 3, bc BK161 4, bc BK161 5⟩ (fun hHeld => ?_)
                clear hK K
                refine norm_ (a' := ?_) ?_ ?_
                rotate_left
                · show Act.put _ (some 10) _ = _
                  simp only [Act.put, List.setIfInBounds_toArray, List.set_cons_zero, List.set_cons_succ, i64_w, i32_w]
                  rfl
                exact norm0_ (hJ1_4_5 (gb178, gb179) _ ⟨hHeld, (pk BK160), (pk BK161), (pk BK178), (pk BK179), GW178.out, GE178.out, NB160_178.out, NB178_160.out, NB161_178.out, NB178_161.out, NB179_178.out, NB178_179.out, GW179.out, GE179.out, NB160_179.out, NB179_160.out, NB161_179.out, NB179_161.out, (by repeat (first | (with_reducible first | exact HB.out | apply below_alloc | apply pw_below_drewN | apply below_drew1 | refine below_set ?_ GE160.out | refine below_set ?_ GE161.out | refine below_set ?_ GE178.out | refine below_set ?_ GE179.out) | exact HB.out))⟩)
          · skip
            rintro _ w18 ⟨hS_, h0_, h1_, h2_⟩
            replace BK160 := Aside0.mk h0_
            replace BK161 := Aside0.mk h1_
            replace HB : Aside0 (Below w.heap.size w w18) := ⟨h2_⟩
            clear h0_ h1_ h2_
            have hHeld := hS_
            refine norm_ (a' := ?_) ?_ ?_
            rotate_left
            · simp only [putAll, Act.put, List.setIfInBounds_toArray, List.set_cons_zero, List.set_cons_succ]
              rfl
            refine two_ (i := 4) (j := 5) (Ni := some 9) (Nj := some 10) #[true, true, true, true, true, false, false, false] #[true, true, true, true, false, true, false, false] rfl rfl rfl rfl (two_of HT_.out (by kernel_rfl)) (by decide) (by decide) (fun K hK => ?_) (fun K hK => ?_)
            · skip
              refine box_step ?hg (N := 9) ?hd (cs := #[.int .i64 0, .int .i64 0, .int .i64 0, .int .i64 0, .int .i64 0, .int .i64 0, .int .i64 0, .int .i64 0, .int .i64 0]) (t := 23) ?hr ?_; (case hd => rfl); (case hg => rfl); (case hr => first | (go_simp; done) | (go_simp; rfl))
              intro gb178 hg w19 hbox hb
              have BK178 := Aside0.mk (hbox)
              have GW178 := Aside0.mk ((by rw [hg]; exact (below_size (by repeat (first | (with_reducible first | exact HB.out | apply below_alloc | apply pw_below_drewN | apply below_drew1 | refine below_set ?_ GE160.out | refine below_set ?_ GE161.out) | exact HB.out))) : w.heap.size ≤ gb178))
              have GE178 := GW178
              have NB160_178 := Aside0.mk ((ne_lt hg (pk BK160) : gb160 ≠ gb178))
              have NB178_160 := Aside0.mk ((ne_gt hg (pk BK160) : gb178 ≠ gb160))
              have NB161_178 := Aside0.mk ((ne_lt hg (pk BK161) : gb161 ≠ gb178))
              have NB178_161 := Aside0.mk ((ne_gt hg (pk BK161) : gb178 ≠ gb161))
              replace BK160 := Aside0.mk (blk_below (g := gb160) (pk BK160) hb)
              replace BK161 := Aside0.mk (blk_below (g := gb161) (pk BK161) hb)
              replace HB := Aside0.mk (below_step (by repeat (first | (with_reducible first | exact HB.out | apply below_alloc | apply pw_below_drewN | apply below_drew1 | refine below_set ?_ GE160.out | refine below_set ?_ GE161.out) | exact HB.out)) hb)
              clear hb hbox hg
              refine hK.out _ _ ⟨bc BK160 0, bc BK160 1, bc BK160 2, bc BK160 3, bc BK160 4, bc BK160 5, bc BK160 6, bc BK160 7, bc BK160 8, bc BK161 0, bc BK161 1, bc BK161 2, bc BK161 3, bc BK161 4, bc BK161 5⟩ (fun hHeld => ?_)
              clear hK K
              refine norm_ (a' := ?_) ?_ ?_
              rotate_left
              · show Act.put _ (some 9) _ = _
                simp only [Act.put, List.setIfInBounds_toArray, List.set_cons_zero, List.set_cons_succ, i64_w, i32_w]
                rfl
              exact norm0_ (hJ1_3_4 (gb178) _ ⟨hHeld, (pk BK160), (pk BK161), (pk BK178), GW178.out, GE178.out, NB160_178.out, NB178_160.out, NB161_178.out, NB178_161.out, (by repeat (first | (with_reducible first | exact HB.out | apply below_alloc | apply pw_below_drewN | apply below_drew1 | refine below_set ?_ GE160.out | refine below_set ?_ GE161.out | refine below_set ?_ GE178.out) | exact HB.out))⟩)
            · skip
              refine box_step ?hg (N := 10) ?hd (cs := #[.string (⟨#[]⟩ : ByteArray), .int .i64 0, .int .i64 0, .int .i64 0, .int .i64 0, .int .i64 0]) (t := 25) ?hr ?_; (case hd => rfl); (case hg => rfl); (case hr => first | (go_simp; done) | (go_simp; rfl))
              intro gb179 hg w19 hbox hb
              have BK179 := Aside0.mk (hbox)
              have GW179 := Aside0.mk ((by rw [hg]; exact (below_size (by repeat (first | (with_reducible first | exact HB.out | apply below_alloc | apply pw_below_drewN | apply below_drew1 | refine below_set ?_ GE160.out | refine below_set ?_ GE161.out) | exact HB.out))) : w.heap.size ≤ gb179))
              have GE179 := GW179
              have NB160_179 := Aside0.mk ((ne_lt hg (pk BK160) : gb160 ≠ gb179))
              have NB179_160 := Aside0.mk ((ne_gt hg (pk BK160) : gb179 ≠ gb160))
              have NB161_179 := Aside0.mk ((ne_lt hg (pk BK161) : gb161 ≠ gb179))
              have NB179_161 := Aside0.mk ((ne_gt hg (pk BK161) : gb179 ≠ gb161))
              replace BK160 := Aside0.mk (blk_below (g := gb160) (pk BK160) hb)
              replace BK161 := Aside0.mk (blk_below (g := gb161) (pk BK161) hb)
              replace HB := Aside0.mk (below_step (by repeat (first | (with_reducible first | exact HB.out | apply below_alloc | apply pw_below_drewN | apply below_drew1 | refine below_set ?_ GE160.out | refine below_set ?_ GE161.out) | exact HB.out)) hb)
              clear hb hbox hg
              refine hK.out _ _ ⟨bc BK160 0, bc BK160 1, bc BK160 2, bc BK160 3, bc BK160 4, bc BK160 5, bc BK160 6, bc BK160 7, bc BK160 8, bc BK161 0, bc BK161 1, bc BK161 2, bc BK161 3, bc BK161 4, bc BK161 5⟩ (fun hHeld => ?_)
              clear hK K
              refine norm_ (a' := ?_) ?_ ?_
              rotate_left
              · show Act.put _ (some 10) _ = _
                simp only [Act.put, List.setIfInBounds_toArray, List.set_cons_zero, List.set_cons_succ, i64_w, i32_w]
                rfl
              exact norm0_ (hJ1_3_5 (gb179) _ ⟨hHeld, (pk BK160), (pk BK161), (pk BK179), GW179.out, GE179.out, NB160_179.out, NB179_160.out, NB161_179.out, NB179_161.out, (by repeat (first | (with_reducible first | exact HB.out | apply below_alloc | apply pw_below_drewN | apply below_drew1 | refine below_set ?_ GE160.out | refine below_set ?_ GE161.out | refine below_set ?_ GE179.out) | exact HB.out))⟩)
        · skip
          rintro ⟨gb178, gb179⟩ w19 ⟨hS_, h0_, h1_, h2_, h3_, h4_, h5_, h6_, h7_, h8_, h9_, h10_, h11_, h12_, h13_, h14_, h15_, h16_, h17_, h18_⟩
          have BK178 : Aside0 (w19.heap[gb178]? = some (.cells #[.int .i64 0, .int .i64 0, .int .i64 0, .int .i64 0, .int .i64 0, .int .i64 0, .int .i64 0, .int .i64 0, .int .i64 0] 23 (0, 0))) := ⟨h2_⟩
          have BK179 : Aside0 (w19.heap[gb179]? = some (.cells #[.string (⟨#[]⟩ : ByteArray), .int .i64 0, .int .i64 0, .int .i64 0, .int .i64 0, .int .i64 0] 25 (0, 0))) := ⟨h3_⟩
          have GW178 : Aside0 (w.heap.size ≤ gb178) := ⟨h4_⟩
          have GE178 : Aside0 (w.heap.size ≤ gb178) := ⟨h5_⟩
          have NB160_178 : Aside0 (gb160 ≠ gb178) := ⟨h6_⟩
          have NB178_160 : Aside0 (gb178 ≠ gb160) := ⟨h7_⟩
          have NB161_178 : Aside0 (gb161 ≠ gb178) := ⟨h8_⟩
          have NB178_161 : Aside0 (gb178 ≠ gb161) := ⟨h9_⟩
          have NB179_178 : Aside0 (gb179 ≠ gb178) := ⟨h10_⟩
          have NB178_179 : Aside0 (gb178 ≠ gb179) := ⟨h11_⟩
          have GW179 : Aside0 (w.heap.size ≤ gb179) := ⟨h12_⟩
          have GE179 : Aside0 (w.heap.size ≤ gb179) := ⟨h13_⟩
          have NB160_179 : Aside0 (gb160 ≠ gb179) := ⟨h14_⟩
          have NB179_160 : Aside0 (gb179 ≠ gb160) := ⟨h15_⟩
          have NB161_179 : Aside0 (gb161 ≠ gb179) := ⟨h16_⟩
          have NB179_161 : Aside0 (gb179 ≠ gb161) := ⟨h17_⟩
          replace BK160 := Aside0.mk h0_
          replace BK161 := Aside0.mk h1_
          replace HB : Aside0 (Below w.heap.size w w19) := ⟨h18_⟩
          clear h0_ h1_ h2_ h3_ h4_ h5_ h6_ h7_ h8_ h9_ h10_ h11_ h12_ h13_ h14_ h15_ h16_ h17_ h18_
          have hHeld := hS_
          refine norm_ (a' := ?_) ?_ ?_
          rotate_left
          · simp only [putAll, Act.put, List.setIfInBounds_toArray, List.set_cons_zero, List.set_cons_succ]
            rfl
          refine one_ (i := 3) (N := some 20) #[true, true, true, true, true, true, false, false] rfl rfl (one_of HT_.out (by kernel_rfl)) (by decide) (fun K hK => ?_)
          refine goes_ Try.func15 (by kernel_rfl) rfl #[.agg #[.string a1_0, .int .i64 a1_1, .int .i64 a1_2, .int .i64 a1_3, .int .i64 a1_4, .int .i64 a1_5], .int .i64 0] (by rfl) rfl rfl (by (try simp only [List.map_toArray, List.map_cons, List.map_nil]); first | done | rfl | (simp only [List.length_drop, List.length_take]; rfl)) ?_
          with_reducible refine (damperlaw2_Config.calls a1_0 a1_1 a1_2 a1_3 a1_4 a1_5 0 t172 t173 t174 t175 t176 t177 _ A8.out).mono ?_
          rintro e w20 ⟨rfl, hb⟩
          refine ⟨_, rfl, ?_⟩
          replace BK160 := Aside0.mk (blk_below (g := gb160) (pk BK160) hb)
          replace BK161 := Aside0.mk (blk_below (g := gb161) (pk BK161) hb)
          replace BK178 := Aside0.mk (blk_below (g := gb178) (pk BK178) hb)
          replace BK179 := Aside0.mk (blk_below (g := gb179) (pk BK179) hb)
          replace HB := Aside0.mk (below_step (by repeat (first | (with_reducible first | exact HB.out | apply below_alloc | apply pw_below_drewN | apply below_drew1 | refine below_set ?_ GE160.out | refine below_set ?_ GE161.out | refine below_set ?_ GE178.out | refine below_set ?_ GE179.out) | exact HB.out)) hb)
          (try clear hb)
          (try clear hb2)
          (try clear hk)
          (try clear hi)
          refine hK.out _ _ ⟨bc BK160 0, bc BK160 1, bc BK160 2, bc BK160 3, bc BK160 4, bc BK160 5, bc BK160 6, bc BK160 7, bc BK160 8, bc BK161 0, bc BK161 1, bc BK161 2, bc BK161 3, bc BK161 4, bc BK161 5⟩ (fun hHeld => ?_)
          clear hK K
          refine norm_ (a' := ?_) ?_ ?_
          rotate_left
          · show Act.put _ (some 20) _ = _
            simp only [Act.put, List.setIfInBounds_toArray, List.set_cons_zero, List.set_cons_succ, i64_w, i32_w]
            rfl
          exact norm0_ (hJ1_3_4_5 (gb178, gb179) _ ⟨hHeld, (pk BK160), (pk BK161), (pk BK178), (pk BK179), GW178.out, GE178.out, NB160_178.out, NB178_160.out, NB161_178.out, NB178_161.out, NB179_178.out, NB178_179.out, GW179.out, GE179.out, NB160_179.out, NB179_160.out, NB161_179.out, NB179_161.out, (by repeat (first | (with_reducible first | exact HB.out | apply below_alloc | apply pw_below_drewN | apply below_drew1 | refine below_set ?_ GE160.out | refine below_set ?_ GE161.out | refine below_set ?_ GE178.out | refine below_set ?_ GE179.out) | exact HB.out))⟩)
      · skip
        rintro gb179 w19 ⟨hS_, h0_, h1_, h2_, h3_, h4_, h5_, h6_, h7_, h8_, h9_⟩
        have BK179 := Aside0.mk h2_
        have GW179 : Aside0 (w.heap.size ≤ gb179) := ⟨h3_⟩
        have GE179 : Aside0 (w.heap.size ≤ gb179) := ⟨h4_⟩
        have NB160_179 : Aside0 (gb160 ≠ gb179) := ⟨h5_⟩
        have NB179_160 : Aside0 (gb179 ≠ gb160) := ⟨h6_⟩
        have NB161_179 : Aside0 (gb161 ≠ gb179) := ⟨h7_⟩
        have NB179_161 : Aside0 (gb179 ≠ gb161) := ⟨h8_⟩
        replace BK160 := Aside0.mk h0_
        replace BK161 := Aside0.mk h1_
        replace HB : Aside0 (Below w.heap.size w w19) := ⟨h9_⟩
        clear h0_ h1_ h2_ h3_ h4_ h5_ h6_ h7_ h8_ h9_
        have hHeld := hS_
        refine norm_ (a' := ?_) ?_ ?_
        rotate_left
        · simp only [putAll, Act.put, List.setIfInBounds_toArray, List.set_cons_zero, List.set_cons_succ]
          rfl
        refine one_ (i := 4) (N := some 9) #[true, true, true, true, true, true, false, false] rfl rfl (one_of HT_.out (by kernel_rfl)) (by decide) (fun K hK => ?_)
        refine box_step ?hg (N := 9) ?hd (cs := #[.int .i64 0, .int .i64 0, .int .i64 0, .int .i64 0, .int .i64 0, .int .i64 0, .int .i64 0, .int .i64 0, .int .i64 0]) (t := 23) ?hr ?_; (case hd => rfl); (case hg => rfl); (case hr => first | (go_simp; done) | (go_simp; rfl))
        intro gb178 hg w20 hbox hb
        have BK178 := Aside0.mk (hbox)
        have GW178 := Aside0.mk ((by rw [hg]; exact (below_size (by repeat (first | (with_reducible first | exact HB.out | apply below_alloc | apply pw_below_drewN | apply below_drew1 | refine below_set ?_ GE160.out | refine below_set ?_ GE161.out | refine below_set ?_ GE179.out) | exact HB.out))) : w.heap.size ≤ gb178))
        have GE178 := GW178
        have NB160_178 := Aside0.mk ((ne_lt hg (pk BK160) : gb160 ≠ gb178))
        have NB178_160 := Aside0.mk ((ne_gt hg (pk BK160) : gb178 ≠ gb160))
        have NB161_178 := Aside0.mk ((ne_lt hg (pk BK161) : gb161 ≠ gb178))
        have NB178_161 := Aside0.mk ((ne_gt hg (pk BK161) : gb178 ≠ gb161))
        have NB179_178 := Aside0.mk ((ne_lt hg (pk BK179) : gb179 ≠ gb178))
        have NB178_179 := Aside0.mk ((ne_gt hg (pk BK179) : gb178 ≠ gb179))
        replace BK160 := Aside0.mk (blk_below (g := gb160) (pk BK160) hb)
        replace BK161 := Aside0.mk (blk_below (g := gb161) (pk BK161) hb)
        replace BK179 := Aside0.mk (blk_below (g := gb179) (pk BK179) hb)
        replace HB := Aside0.mk (below_step (by repeat (first | (with_reducible first | exact HB.out | apply below_alloc | apply pw_below_drewN | apply below_drew1 | refine below_set ?_ GE160.out | refine below_set ?_ GE161.out | refine below_set ?_ GE179.out) | exact HB.out)) hb)
        clear hb hbox hg
        refine hK.out _ _ ⟨bc BK160 0, bc BK160 1, bc BK160 2, bc BK160 3, bc BK160 4, bc BK160 5, bc BK160 6, bc BK160 7, bc BK160 8, bc BK161 0, bc BK161 1, bc BK161 2, bc BK161 3, bc BK161 4, bc BK161 5⟩ (fun hHeld => ?_)
        clear hK K
        refine norm_ (a' := ?_) ?_ ?_
        rotate_left
        · show Act.put _ (some 9) _ = _
          simp only [Act.put, List.setIfInBounds_toArray, List.set_cons_zero, List.set_cons_succ, i64_w, i32_w]
          rfl
        exact norm0_ (hJ1_3_4_5 (gb178, gb179) _ ⟨hHeld, (pk BK160), (pk BK161), (pk BK178), (pk BK179), GW178.out, GE178.out, NB160_178.out, NB178_160.out, NB161_178.out, NB178_161.out, NB179_178.out, NB178_179.out, GW179.out, GE179.out, NB160_179.out, NB179_160.out, NB161_179.out, NB179_161.out, (by repeat (first | (with_reducible first | exact HB.out | apply below_alloc | apply pw_below_drewN | apply below_drew1 | refine below_set ?_ GE160.out | refine below_set ?_ GE161.out | refine below_set ?_ GE179.out | refine below_set ?_ GE178.out) | exact HB.out))⟩)
    · skip
      rintro gb178 w19 ⟨hS_, h0_, h1_, h2_, h3_, h4_, h5_, h6_, h7_, h8_, h9_⟩
      have BK178 := Aside0.mk h2_
      have GW178 : Aside0 (w.heap.size ≤ gb178) := ⟨h3_⟩
      have GE178 : Aside0 (w.heap.size ≤ gb178) := ⟨h4_⟩
      have NB160_178 : Aside0 (gb160 ≠ gb178) := ⟨h5_⟩
      have NB178_160 : Aside0 (gb178 ≠ gb160) := ⟨h6_⟩
      have NB161_178 : Aside0 (gb161 ≠ gb178) := ⟨h7_⟩
      have NB178_161 : Aside0 (gb178 ≠ gb161) := ⟨h8_⟩
      replace BK160 := Aside0.mk h0_
      replace BK161 := Aside0.mk h1_
      replace HB : Aside0 (Below w.heap.size w w19) := ⟨h9_⟩
      clear h0_ h1_ h2_ h3_ h4_ h5_ h6_ h7_ h8_ h9_
      have hHeld := hS_
      refine norm_ (a' := ?_) ?_ ?_
      rotate_left
      · simp only [putAll, Act.put, List.setIfInBounds_toArray, List.set_cons_zero, List.set_cons_succ]
        rfl
      refine one_ (i := 5) (N := some 10) #[true, true, true, true, true, true, false, false] rfl rfl (one_of HT_.out (by kernel_rfl)) (by decide) (fun K hK => ?_)
      refine box_step ?hg (N := 10) ?hd (cs := #[.string (⟨#[]⟩ : ByteArray), .int .i64 0, .int .i64 0, .int .i64 0, .int .i64 0, .int .i64 0]) (t := 25) ?hr ?_; (case hd => rfl); (case hg => rfl); (case hr => first | (go_simp; done) | (go_simp; rfl))
      intro gb179 hg w20 hbox hb
      have BK179 := Aside0.mk (hbox)
      have GW179 := Aside0.mk ((by rw [hg]; exact (below_size (by repeat (first | (with_reducible first | exact HB.out | apply below_alloc | apply pw_below_drewN | apply below_drew1 | refine below_set ?_ GE160.out | refine below_set ?_ GE161.out | refine below_set ?_ GE178.out) | exact HB.out))) : w.heap.size ≤ gb179))
      have GE179 := GW179
      have NB160_179 := Aside0.mk ((ne_lt hg (pk BK160) : gb160 ≠ gb179))
      have NB179_160 := Aside0.mk ((ne_gt hg (pk BK160) : gb179 ≠ gb160))
      have NB161_179 := Aside0.mk ((ne_lt hg (pk BK161) : gb161 ≠ gb179))
      have NB179_161 := Aside0.mk ((ne_gt hg (pk BK161) : gb179 ≠ gb161))
      have NB178_179 := Aside0.mk ((ne_lt hg (pk BK178) : gb178 ≠ gb179))
      have NB179_178 := Aside0.mk ((ne_gt hg (pk BK178) : gb179 ≠ gb178))
      replace BK160 := Aside0.mk (blk_below (g := gb160) (pk BK160) hb)
      replace BK161 := Aside0.mk (blk_below (g := gb161) (pk BK161) hb)
      replace BK178 := Aside0.mk (blk_below (g := gb178) (pk BK178) hb)
      replace HB := Aside0.mk (below_step (by repeat (first | (with_reducible first | exact HB.out | apply below_alloc | apply pw_below_drewN | apply below_drew1 | refine below_set ?_ GE160.out | refine below_set ?_ GE161.out | refine below_set ?_ GE178.out) | exact HB.out)) hb)
      clear hb hbox hg
      refine hK.out _ _ ⟨bc BK160 0, bc BK160 1, bc BK160 2, bc BK160 3, bc BK160 4, bc BK160 5, bc BK160 6, bc BK160 7, bc BK160 8, bc BK161 0, bc BK161 1, bc BK161 2, bc BK161 3, bc BK161 4, bc BK161 5⟩ (fun hHeld => ?_)
      clear hK K
      refine norm_ (a' := ?_) ?_ ?_
      rotate_left
      · show Act.put _ (some 10) _ = _
        simp only [Act.put, List.setIfInBounds_toArray, List.set_cons_zero, List.set_cons_succ, i64_w, i32_w]
        rfl
      exact norm0_ (hJ1_3_4_5 (gb178, gb179) _ ⟨hHeld, (pk BK160), (pk BK161), (pk BK178), (pk BK179), GW178.out, GE178.out, NB160_178.out, NB178_160.out, NB161_178.out, NB178_161.out, NB179_178.out, NB178_179.out, GW179.out, GE179.out, NB160_179.out, NB179_160.out, NB161_179.out, NB179_161.out, (by repeat (first | (with_reducible first | exact HB.out | apply below_alloc | apply pw_below_drewN | apply below_drew1 | refine below_set ?_ GE160.out | refine below_set ?_ GE161.out | refine below_set ?_ GE178.out | refine below_set ?_ GE179.out) | exact HB.out))⟩)
  · replace c6 := Bool.eq_false_iff.mpr c6
    subst c6
    have H1 : (some false) = some r := by rw [if_neg (show ¬ (false = true) by decide)] at H; exact H
    clear H
    have H := H1
    clear H1
    exact absurd (Option.some.inj H) (by rw [hr0_.out]; decide)

/-- THE ONE PURE STATEMENT of damperlaw10_ScaleDecides: yours. -/
def damperlaw10_ScaleDecides.Pure : Prop := ∀ (a0_0 : Int) (a0_1 : Int) (a0_2 : Int) (a0_3 : Int) (a0_4 : Int) (a0_5 : Int) (a0_6 : Int) (a0_7 : Int) (a0_8 : Int) (a1_0 : ByteArray) (a1_1 : Int) (a1_2 : Int) (a1_3 : Int) (a1_4 : Int) (a1_5 : Int) (a2 : Int) (a3 : Int), ((Lit.int .i64 a0_0).wf = true) → ((Lit.int .i64 a0_1).wf = true) → ((Lit.int .i64 a0_2).wf = true) → ((Lit.int .i64 a0_3).wf = true) → ((Lit.int .i64 a0_4).wf = true) → ((Lit.int .i64 a0_5).wf = true) → ((Lit.int .i64 a0_6).wf = true) → ((Lit.int .i64 a0_7).wf = true) → ((Lit.int .i64 a0_8).wf = true) → (a1_0.size ≤ maxLen) → ((Lit.int .i64 a1_1).wf = true) → ((Lit.int .i64 a1_2).wf = true) → ((Lit.int .i64 a1_3).wf = true) → ((Lit.int .i64 a1_4).wf = true) → ((Lit.int .i64 a1_5).wf = true) → ((Lit.int .i64 a2).wf = true) → ((Lit.int .i64 a3).wf = true) → ∃ k, damperlaw10_ScaleDecides.f k a0_0 a0_1 a0_2 a0_3 a0_4 a0_5 a0_6 a0_7 a0_8 a1_0 a1_1 a1_2 a1_3 a1_4 a1_5 a2 a3 = some true
theorem damperlaw10_ScaleDecides.walk (P : damperlaw10_ScaleDecides.Pure) (a0_0 : Int) (a0_1 : Int) (a0_2 : Int) (a0_3 : Int) (a0_4 : Int) (a0_5 : Int) (a0_6 : Int) (a0_7 : Int) (a0_8 : Int) (a1_0 : ByteArray) (a1_1 : Int) (a1_2 : Int) (a1_3 : Int) (a1_4 : Int) (a1_5 : Int) (a2 : Int) (a3 : Int) (w : World) (w0_0 : (Lit.int .i64 a0_0).wf = true) (w0_1 : (Lit.int .i64 a0_1).wf = true) (w0_2 : (Lit.int .i64 a0_2).wf = true) (w0_3 : (Lit.int .i64 a0_3).wf = true) (w0_4 : (Lit.int .i64 a0_4).wf = true) (w0_5 : (Lit.int .i64 a0_5).wf = true) (w0_6 : (Lit.int .i64 a0_6).wf = true) (w0_7 : (Lit.int .i64 a0_7).wf = true) (w0_8 : (Lit.int .i64 a0_8).wf = true) (w1_0 : a1_0.size ≤ maxLen) (w1_1 : (Lit.int .i64 a1_1).wf = true) (w1_2 : (Lit.int .i64 a1_2).wf = true) (w1_3 : (Lit.int .i64 a1_3).wf = true) (w1_4 : (Lit.int .i64 a1_4).wf = true) (w1_5 : (Lit.int .i64 a1_5).wf = true) (w2 : (Lit.int .i64 a2).wf = true) (w3 : (Lit.int .i64 a3).wf = true)  :
    Calls Try.prog 3 #[.agg #[.int .i64 a0_0, .int .i64 a0_1, .int .i64 a0_2, .int .i64 a0_3, .int .i64 a0_4, .int .i64 a0_5, .int .i64 a0_6, .int .i64 a0_7, .int .i64 a0_8], .agg #[.string a1_0, .int .i64 a1_1, .int .i64 a1_2, .int .i64 a1_3, .int .i64 a1_4, .int .i64 a1_5], .int .i64 a2, .int .i64 a3] w fun e w' => e = .returned (.bool true) ∧ Below w.heap.size w w' := by
  obtain ⟨k, h⟩ := P a0_0 a0_1 a0_2 a0_3 a0_4 a0_5 a0_6 a0_7 a0_8 a1_0 a1_1 a1_2 a1_3 a1_4 a1_5 a2 a3 w0_0 w0_1 w0_2 w0_3 w0_4 w0_5 w0_6 w0_7 w0_8 w1_0 w1_1 w1_2 w1_3 w1_4 w1_5 w2 w3
  refine (damperlaw10_ScaleDecides.calls k a0_0 a0_1 a0_2 a0_3 a0_4 a0_5 a0_6 a0_7 a0_8 a1_0 a1_1 a1_2 a1_3 a1_4 a1_5 a2 a3 true w ⟨rfl⟩ h).mono ?_
  rintro e w' ⟨rfl, hd⟩
  exact ⟨rfl, hd⟩

end Go.Proofs.Ytlikdmeickbigaa.Ma
