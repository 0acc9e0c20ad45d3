-- Written by a program of this session (wip/tools/myprint.py), in the form of the kit's print. Not trusted: Lean checks it.
import Derived.Test.YtlikdmeickbigaaMax0
import Derived.Test.YtlikdmeickbigaaMax1
import Derived.Test.YtlikdmeickbigaaMax6
import Derived.Test.YtlikdmeickbigaaMax7
import Derived.Test.YtlikdmeickbigaaMax8
namespace Go.Proofs.Ytlikdmeickbigaa.Ma
open Go.RowKit Go.Proofs.YtlikdmeickbigaaW.PrintWords Go.Proofs.YtlikdmeickbigaaW.PrintLast Go.Proofs.YtlikdmeickbigaaW.PrintMore
attribute [local go_sem] max2_int min2_int max_two min_two max_three min_three max_four min_four   -- for this text's walks alone
set_option linter.unusedVariables false
set_option linter.unusedSimpArgs false

attribute [local go_sem high] eqA30
/-! ### damperlaw10_ScaleKnown: function 8 -/
def damperlaw10_ScaleKnown.f (k : Nat) (a0 : Int) : Option (Bool) := (damperlaw10_known.f k).bind fun t299 => (if t299 = true then ((scale_Decide.f k 0 0 (⟨#[97]⟩ : ByteArray) 0 2 0 10 5 0 0 0 0 0 0 9).bind fun bt302 => ((scale_Decide.f k 1 0 (⟨#[97]⟩ : ByteArray) 0 2 0 10 5 1 0 0 6 0 2 4).bind fun bt304 => ((scale_Decide.f k 1 0 (⟨#[97]⟩ : ByteArray) 0 2 0 10 5 1 0 0 6 0 2 5).bind fun bt306 => ((scale_Decide.f k 1 0 (⟨#[97]⟩ : ByteArray) 0 2 0 10 5 1 1 0 6 0 2 9).bind fun bt308 => ((scale_Decide.f k 2 0 (⟨#[97]⟩ : ByteArray) 0 2 0 10 5 2 3 30 6 8 2 0).bind fun bt310 => ((scale_Decide.f k 2 0 (⟨#[97]⟩ : ByteArray) 0 2 0 10 5 2 9 30 6 16 2 0).bind fun bt312 => ((scale_Decide.f k 9 3 (⟨#[97]⟩ : ByteArray) 0 2 0 10 5 2 9 6 6 2 2 0).bind fun bt314 => ((scale_Decide.f k 9 1 (⟨#[97]⟩ : ByteArray) 0 2 0 10 5 8 9 6 6 2 2 0).bind fun bt316 => ((scale_Decide.f k 4 0 (⟨#[97]⟩ : ByteArray) 0 2 3 10 5 2 0 0 6 0 2 99).bind fun bt318 => ((scale_Decide.f k 1 0 (⟨#[97]⟩ : ByteArray) 0 2 0 10 5 0 5 600 6 0 0 0).bind fun bt320 => ((scale_Decide.f k 10 0 (⟨#[97]⟩ : ByteArray) 0 2 0 10 5 9 0 0 6 0 2 99).bind fun bt322 => ((scale_Decide.f k 5 0 (⟨#[97]⟩ : ByteArray) 0 2 0 10 5 30 0 0 6 0 2 99).bind fun bt324 => ((some (([(⟨bt302.1, bt302.2⟩ : S30), (⟨bt304.1, bt304.2⟩ : S30), (⟨bt306.1, bt306.2⟩ : S30), (⟨bt308.1, bt308.2⟩ : S30), (⟨bt310.1, bt310.2⟩ : S30), (⟨bt312.1, bt312.2⟩ : S30), (⟨bt314.1, bt314.2⟩ : S30), (⟨bt316.1, bt316.2⟩ : S30), (⟨bt318.1, bt318.2⟩ : S30), (⟨bt320.1, bt320.2⟩ : S30), (⟨bt322.1, bt322.2⟩ : S30), (⟨bt324.1, bt324.2⟩ : S30)] : List (S30)) : List (S30))).bind fun y326 => ((some (([(⟨0, 0⟩ : S30), (⟨1, 0⟩ : S30), (⟨0, 0⟩ : S30), (⟨1, 0⟩ : S30), (⟨3, 0⟩ : S30), (⟨4, 6⟩ : S30), (⟨8, 2⟩ : S30), (⟨4, 0⟩ : S30), (⟨3, 0⟩ : S30), (⟨4, 0⟩ : S30), (⟨4, 0⟩ : S30), (⟨10, 0⟩ : S30)] : List (S30)) : List (S30))).bind fun y329 => ((damperlaw10_within.f a0 (y326.length : Int)).bind fun t332 => (if 0 ≤ t332 then (if t332 < (y326.length : Int) then (if t332 < (y329.length : Int) then (some (((rd_T30 y326 t332).f0) == ((rd_T30 y329 t332).f0) && (((rd_T30 y326 t332).f1) == ((rd_T30 y329 t332).f1)))) else (none)) else (none)) else (none))))))))))))))))) else (some false))
theorem damperlaw10_ScaleKnown.mono : ∀ a0 k, LeO (damperlaw10_ScaleKnown.f k a0) (damperlaw10_ScaleKnown.f (k + 1) a0) := by
  intro a0 k
  unfold damperlaw10_ScaleKnown.f
  repeat' first
      | (with_reducible exact damperlaw10_known.mono _)
      | (with_reducible exact scale_Decide.mono _ _ _ _ _ _ _ _ _ _ _ _ _ _ _ _)
      | (with_reducible exact LeO.refl _)
      | (with_reducible exact LeO.none _)
      | (with_reducible refine LeO.ite ?_ ?_)
      | (with_reducible refine LeO.bind ?_ (fun _ => ?_))
      | exact damperlaw10_known.mono _
      | exact scale_Decide.mono _ _ _ _ _ _ _ _ _ _ _ _ _ _ _ _
      | exact LeO.none _
      | refine LeO.ite ?_ ?_
      | refine LeO.bind ?_ (fun _ => ?_)
def damperlaw10_ScaleKnown.T6 : Bool × List (List Nat × List Nat) := (true, [([], []), ([], []), ([0, 1], [0, 1]), ([], []), ([], []), ([3, 4, 2], [3, 4]), ([], []), ([], []), ([6, 7, 5], [6, 7]), ([], []), ([], []), ([9, 10, 8], [9, 10]), ([], []), ([], []), ([12, 13, 11], [12, 13]), ([], []), ([], []), ([15, 16, 14], [15, 16]), ([], []), ([], []), ([18, 19, 17], [18, 19]), ([], []), ([], []), ([21, 22, 20], [21, 22]), ([], []), ([], []), ([24, 25, 23], [24, 25]), ([], []), ([], []), ([27, 28, 26], [27, 28]), ([], []), ([], []), ([30, 31, 29], [30, 31]), ([], []), ([], []), ([33, 34, 32], [33, 34]), ([2, 5, 8, 11, 14, 17, 20, 23, 26, 29, 32, 35], [2, 5, 8, 11, 14, 17, 20, 23, 26, 29, 32, 35]), ([36, 35, 0, 1, 2, 3, 4, 5, 6, 7, 8, 9, 10, 11, 12, 13, 14, 15, 16, 17, 18, 19, 20, 21, 22, 23, 24, 25, 26, 27, 28, 29, 30, 31, 32, 33, 34, 35, 36], [36])])
def damperlaw10_ScaleKnown.B6 : List Nat := [0, 0, 3, 0, 0, 31, 0, 0, 255, 0, 0, 2047, 0, 0, 16383, 0, 0, 131071, 0, 0, 1048575, 0, 0, 8388607, 0, 0, 67108863, 0, 0, 536870911, 0, 0, 4294967295, 0, 0, 34359738367, 68719476735, 137438953471]
theorem damperlaw10_ScaleKnown.tab6 : rtab .any (opsOf Try.f8 6) = damperlaw10_ScaleKnown.T6 := by kernel_rfl
theorem damperlaw10_ScaleKnown.bits6 : waitsOk damperlaw10_ScaleKnown.T6.2 damperlaw10_ScaleKnown.B6 = true := by kernel_rfl
def damperlaw10_ScaleKnown.T9 : Bool × List (List Nat × List Nat) := (true, [([], []), ([], []), ([0, 1], [0, 1]), ([2], [2]), ([], []), ([], []), ([4, 5], [4, 5]), ([6], [6]), ([3, 7], [3, 7]), ([8, 0, 1, 2, 3, 4, 5, 6, 7, 8], [8])])
def damperlaw10_ScaleKnown.B9 : List Nat := [0, 0, 3, 7, 0, 0, 48, 112, 255, 511]
theorem damperlaw10_ScaleKnown.tab9 : rtab .any (opsOf Try.f8 9) = damperlaw10_ScaleKnown.T9 := by kernel_rfl
theorem damperlaw10_ScaleKnown.bits9 : waitsOk damperlaw10_ScaleKnown.T9.2 damperlaw10_ScaleKnown.B9 = true := by kernel_rfl
set_option maxHeartbeats 8000000 in
set_option maxRecDepth 100000 in
theorem damperlaw10_ScaleKnown.calls (k : Nat) (a0 : Int) (r : Bool) (w : World) (hr0_ : Aside0 (r = true)) (h : damperlaw10_ScaleKnown.f k a0 = some r) :
    Calls Try.prog 8 #[.int .i64 a0] w fun e w' => e = .returned (.bool r) ∧ Below w.heap.size w w' := by
  have hu25 := Try.underlying25
  have hu30 := Try.underlying30
  have HB := Aside0.mk (Below.refl w.heap.size w)
  have H : ((damperlaw10_known.f k).bind fun t299 => (if t299 = true then ((scale_Decide.f k 0 0 (⟨#[97]⟩ : ByteArray) 0 2 0 10 5 0 0 0 0 0 0 9).bind fun bt302 => ((scale_Decide.f k 1 0 (⟨#[97]⟩ : ByteArray) 0 2 0 10 5 1 0 0 6 0 2 4).bind fun bt304 => ((scale_Decide.f k 1 0 (⟨#[97]⟩ : ByteArray) 0 2 0 10 5 1 0 0 6 0 2 5).bind fun bt306 => ((scale_Decide.f k 1 0 (⟨#[97]⟩ : ByteArray) 0 2 0 10 5 1 1 0 6 0 2 9).bind fun bt308 => ((scale_Decide.f k 2 0 (⟨#[97]⟩ : ByteArray) 0 2 0 10 5 2 3 30 6 8 2 0).bind fun bt310 => ((scale_Decide.f k 2 0 (⟨#[97]⟩ : ByteArray) 0 2 0 10 5 2 9 30 6 16 2 0).bind fun bt312 => ((scale_Decide.f k 9 3 (⟨#[97]⟩ : ByteArray) 0 2 0 10 5 2 9 6 6 2 2 0).bind fun bt314 => ((scale_Decide.f k 9 1 (⟨#[97]⟩ : ByteArray) 0 2 0 10 5 8 9 6 6 2 2 0).bind fun bt316 => ((scale_Decide.f k 4 0 (⟨#[97]⟩ : ByteArray) 0 2 3 10 5 2 0 0 6 0 2 99).bind fun bt318 => ((scale_Decide.f k 1 0 (⟨#[97]⟩ : ByteArray) 0 2 0 10 5 0 5 600 6 0 0 0).bind fun bt320 => ((scale_Decide.f k 10 0 (⟨#[97]⟩ : ByteArray) 0 2 0 10 5 9 0 0 6 0 2 99).bind fun bt322 => ((scale_Decide.f k 5 0 (⟨#[97]⟩ : ByteArray) 0 2 0 10 5 30 0 0 6 0 2 99).bind fun bt324 => ((some (([(⟨bt302.1, bt302.2⟩ : S30), (⟨bt304.1, bt304.2⟩ : S30), (⟨bt306.1, bt306.2⟩ : S30), (⟨bt308.1, bt308.2⟩ : S30), (⟨bt310.1, bt310.2⟩ : S30), (⟨bt312.1, bt312.2⟩ : S30), (⟨bt314.1, bt314.2⟩ : S30), (⟨bt316.1, bt316.2⟩ : S30), (⟨bt318.1, bt318.2⟩ : S30), (⟨bt320.1, bt320.2⟩ : S30), (⟨bt322.1, bt322.2⟩ : S30), (⟨bt324.1, bt324.2⟩ : S30)] : List (S30)) : List (S30))).bind fun y326 => ((some (([(⟨0, 0⟩ : S30), (⟨1, 0⟩ : S30), (⟨0, 0⟩ : S30), (⟨1, 0⟩ : S30), (⟨3, 0⟩ : S30), (⟨4, 6⟩ : S30), (⟨8, 2⟩ : S30), (⟨4, 0⟩ : S30), (⟨3, 0⟩ : S30), (⟨4, 0⟩ : S30), (⟨4, 0⟩ : S30), (⟨10, 0⟩ : S30)] : List (S30)) : List (S30))).bind fun y329 => ((damperlaw10_within.f a0 (y326.length : Int)).bind fun t332 => (if 0 ≤ t332 then (if t332 < (y326.length : Int) then (if t332 < (y329.length : Int) then (some (((rd_T30 y326 t332).f0) == ((rd_T30 y329 t332).f0) && (((rd_T30 y326 t332).f1) == ((rd_T30 y329 t332).f1)))) else (none)) else (none)) else (none))))))))))))))))) else (some false))) = some r := h
  clear h
  replace H := Option.bind_eq_some_iff.mp H
  obtain ⟨t299, A20, H⟩ := H
  replace H : (if t299 = true then ((scale_Decide.f k 0 0 (⟨#[97]⟩ : ByteArray) 0 2 0 10 5 0 0 0 0 0 0 9).bind fun bt302 => ((scale_Decide.f k 1 0 (⟨#[97]⟩ : ByteArray) 0 2 0 10 5 1 0 0 6 0 2 4).bind fun bt304 => ((scale_Decide.f k 1 0 (⟨#[97]⟩ : ByteArray) 0 2 0 10 5 1 0 0 6 0 2 5).bind fun bt306 => ((scale_Decide.f k 1 0 (⟨#[97]⟩ : ByteArray) 0 2 0 10 5 1 1 0 6 0 2 9).bind fun bt308 => ((scale_Decide.f k 2 0 (⟨#[97]⟩ : ByteArray) 0 2 0 10 5 2 3 30 6 8 2 0).bind fun bt310 => ((scale_Decide.f k 2 0 (⟨#[97]⟩ : ByteArray) 0 2 0 10 5 2 9 30 6 16 2 0).bind fun bt312 => ((scale_Decide.f k 9 3 (⟨#[97]⟩ : ByteArray) 0 2 0 10 5 2 9 6 6 2 2 0).bind fun bt314 => ((scale_Decide.f k 9 1 (⟨#[97]⟩ : ByteArray) 0 2 0 10 5 8 9 6 6 2 2 0).bind fun bt316 => ((scale_Decide.f k 4 0 (⟨#[97]⟩ : ByteArray) 0 2 3 10 5 2 0 0 6 0 2 99).bind fun bt318 => ((scale_Decide.f k 1 0 (⟨#[97]⟩ : ByteArray) 0 2 0 10 5 0 5 600 6 0 0 0).bind fun bt320 => ((scale_Decide.f k 10 0 (⟨#[97]⟩ : ByteArray) 0 2 0 10 5 9 0 0 6 0 2 99).bind fun bt322 => ((scale_Decide.f k 5 0 (⟨#[97]⟩ : ByteArray) 0 2 0 10 5 30 0 0 6 0 2 99).bind fun bt324 => ((some (([(⟨bt302.1, bt302.2⟩ : S30), (⟨bt304.1, bt304.2⟩ : S30), (⟨bt306.1, bt306.2⟩ : S30), (⟨bt308.1, bt308.2⟩ : S30), (⟨bt310.1, bt310.2⟩ : S30), (⟨bt312.1, bt312.2⟩ : S30), (⟨bt314.1, bt314.2⟩ : S30), (⟨bt316.1, bt316.2⟩ : S30), (⟨bt318.1, bt318.2⟩ : S30), (⟨bt320.1, bt320.2⟩ : S30), (⟨bt322.1, bt322.2⟩ : S30), (⟨bt324.1, bt324.2⟩ : S30)] : List (S30)) : List (S30))).bind fun y326 => ((some (([(⟨0, 0⟩ : S30), (⟨1, 0⟩ : S30), (⟨0, 0⟩ : S30), (⟨1, 0⟩ : S30), (⟨3, 0⟩ : S30), (⟨4, 6⟩ : S30), (⟨8, 2⟩ : S30), (⟨4, 0⟩ : S30), (⟨3, 0⟩ : S30), (⟨4, 0⟩ : S30), (⟨4, 0⟩ : S30), (⟨10, 0⟩ : S30)] : List (S30)) : List (S30))).bind fun y329 => ((damperlaw10_within.f a0 (y326.length : Int)).bind fun t332 => (if 0 ≤ t332 then (if t332 < (y326.length : Int) then (if t332 < (y329.length : Int) then (some (((rd_T30 y326 t332).f0) == ((rd_T30 y329 t332).f0) && (((rd_T30 y326 t332).f1) == ((rd_T30 y329 t332).f1)))) else (none)) else (none)) else (none))))))))))))))))) else (some false)) = some r := H
  have A2 := Aside0.mk A20
  clear A20
  by_cases c3 : t299 = true
  · subst c3
    have H1 : ((scale_Decide.f k 0 0 (⟨#[97]⟩ : ByteArray) 0 2 0 10 5 0 0 0 0 0 0 9).bind fun bt302 => ((scale_Decide.f k 1 0 (⟨#[97]⟩ : ByteArray) 0 2 0 10 5 1 0 0 6 0 2 4).bind fun bt304 => ((scale_Decide.f k 1 0 (⟨#[97]⟩ : ByteArray) 0 2 0 10 5 1 0 0 6 0 2 5).bind fun bt306 => ((scale_Decide.f k 1 0 (⟨#[97]⟩ : ByteArray) 0 2 0 10 5 1 1 0 6 0 2 9).bind fun bt308 => ((scale_Decide.f k 2 0 (⟨#[97]⟩ : ByteArray) 0 2 0 10 5 2 3 30 6 8 2 0).bind fun bt310 => ((scale_Decide.f k 2 0 (⟨#[97]⟩ : ByteArray) 0 2 0 10 5 2 9 30 6 16 2 0).bind fun bt312 => ((scale_Decide.f k 9 3 (⟨#[97]⟩ : ByteArray) 0 2 0 10 5 2 9 6 6 2 2 0).bind fun bt314 => ((scale_Decide.f k 9 1 (⟨#[97]⟩ : ByteArray) 0 2 0 10 5 8 9 6 6 2 2 0).bind fun bt316 => ((scale_Decide.f k 4 0 (⟨#[97]⟩ : ByteArray) 0 2 3 10 5 2 0 0 6 0 2 99).bind fun bt318 => ((scale_Decide.f k 1 0 (⟨#[97]⟩ : ByteArray) 0 2 0 10 5 0 5 600 6 0 0 0).bind fun bt320 => ((scale_Decide.f k 10 0 (⟨#[97]⟩ : ByteArray) 0 2 0 10 5 9 0 0 6 0 2 99).bind fun bt322 => ((scale_Decide.f k 5 0 (⟨#[97]⟩ : ByteArray) 0 2 0 10 5 30 0 0 6 0 2 99).bind fun bt324 => ((some (([(⟨bt302.1, bt302.2⟩ : S30), (⟨bt304.1, bt304.2⟩ : S30), (⟨bt306.1, bt306.2⟩ : S30), (⟨bt308.1, bt308.2⟩ : S30), (⟨bt310.1, bt310.2⟩ : S30), (⟨bt312.1, bt312.2⟩ : S30), (⟨bt314.1, bt314.2⟩ : S30), (⟨bt316.1, bt316.2⟩ : S30), (⟨bt318.1, bt318.2⟩ : S30), (⟨bt320.1, bt320.2⟩ : S30), (⟨bt322.1, bt322.2⟩ : S30), (⟨bt324.1, bt324.2⟩ : S30)] : List (S30)) : List (S30))).bind fun y326 => ((some (([(⟨0, 0⟩ : S30), (⟨1, 0⟩ : S30), (⟨0, 0⟩ : S30), (⟨1, 0⟩ : S30), (⟨3, 0⟩ : S30), (⟨4, 6⟩ : S30), (⟨8, 2⟩ : S30), (⟨4, 0⟩ : S30), (⟨3, 0⟩ : S30), (⟨4, 0⟩ : S30), (⟨4, 0⟩ : S30), (⟨10, 0⟩ : S30)] : List (S30)) : List (S30))).bind fun y329 => ((damperlaw10_within.f a0 (y326.length : Int)).bind fun t332 => (if 0 ≤ t332 then (if t332 < (y326.length : Int) then (if t332 < (y329.length : Int) then (some (((rd_T30 y326 t332).f0) == ((rd_T30 y329 t332).f0) && (((rd_T30 y326 t332).f1) == ((rd_T30 y329 t332).f1)))) else (none)) else (none)) else (none))))))))))))))))) = some r := by rw [if_pos rfl] at H; exact H
    clear H
    have H := H1
    clear H1
    replace H := Option.bind_eq_some_iff.mp H
    obtain ⟨⟨t302, t303⟩, A40, H⟩ := H
    replace H : ((scale_Decide.f k 1 0 (⟨#[97]⟩ : ByteArray) 0 2 0 10 5 1 0 0 6 0 2 4).bind fun bt304 => ((scale_Decide.f k 1 0 (⟨#[97]⟩ : ByteArray) 0 2 0 10 5 1 0 0 6 0 2 5).bind fun bt306 => ((scale_Decide.f k 1 0 (⟨#[97]⟩ : ByteArray) 0 2 0 10 5 1 1 0 6 0 2 9).bind fun bt308 => ((scale_Decide.f k 2 0 (⟨#[97]⟩ : ByteArray) 0 2 0 10 5 2 3 30 6 8 2 0).bind fun bt310 => ((scale_Decide.f k 2 0 (⟨#[97]⟩ : ByteArray) 0 2 0 10 5 2 9 30 6 16 2 0).bind fun bt312 => ((scale_Decide.f k 9 3 (⟨#[97]⟩ : ByteArray) 0 2 0 10 5 2 9 6 6 2 2 0).bind fun bt314 => ((scale_Decide.f k 9 1 (⟨#[97]⟩ : ByteArray) 0 2 0 10 5 8 9 6 6 2 2 0).bind fun bt316 => ((scale_Decide.f k 4 0 (⟨#[97]⟩ : ByteArray) 0 2 3 10 5 2 0 0 6 0 2 99).bind fun bt318 => ((scale_Decide.f k 1 0 (⟨#[97]⟩ : ByteArray) 0 2 0 10 5 0 5 600 6 0 0 0).bind fun bt320 => ((scale_Decide.f k 10 0 (⟨#[97]⟩ : ByteArray) 0 2 0 10 5 9 0 0 6 0 2 99).bind fun bt322 => ((scale_Decide.f k 5 0 (⟨#[97]⟩ : ByteArray) 0 2 0 10 5 30 0 0 6 0 2 99).bind fun bt324 => ((some (([(⟨t302, t303⟩ : S30), (⟨bt304.1, bt304.2⟩ : S30), (⟨bt306.1, bt306.2⟩ : S30), (⟨bt308.1, bt308.2⟩ : S30), (⟨bt310.1, bt310.2⟩ : S30), (⟨bt312.1, bt312.2⟩ : S30), (⟨bt314.1, bt314.2⟩ : S30), (⟨bt316.1, bt316.2⟩ : S30), (⟨bt318.1, bt318.2⟩ : S30), (⟨bt320.1, bt320.2⟩ : S30), (⟨bt322.1, bt322.2⟩ : S30), (⟨bt324.1, bt324.2⟩ : S30)] : List (S30)) : List (S30))).bind fun y326 => ((some (([(⟨0, 0⟩ : S30), (⟨1, 0⟩ : S30), (⟨0, 0⟩ : S30), (⟨1, 0⟩ : S30), (⟨3, 0⟩ : S30), (⟨4, 6⟩ : S30), (⟨8, 2⟩ : S30), (⟨4, 0⟩ : S30), (⟨3, 0⟩ : S30), (⟨4, 0⟩ : S30), (⟨4, 0⟩ : S30), (⟨10, 0⟩ : S30)] : List (S30)) : List (S30))).bind fun y329 => ((damperlaw10_within.f a0 (y326.length : Int)).bind fun t332 => (if 0 ≤ t332 then (if t332 < (y326.length : Int) then (if t332 < (y329.length : Int) then (some (((rd_T30 y326 t332).f0) == ((rd_T30 y329 t332).f0) && (((rd_T30 y326 t332).f1) == ((rd_T30 y329 t332).f1)))) else (none)) else (none)) else (none)))))))))))))))) = some r := H
    have A4 := Aside0.mk A40
    clear A40
    replace H := Option.bind_eq_some_iff.mp H
    obtain ⟨⟨t304, t305⟩, A50, H⟩ := H
    replace H : ((scale_Decide.f k 1 0 (⟨#[97]⟩ : ByteArray) 0 2 0 10 5 1 0 0 6 0 2 5).bind fun bt306 => ((scale_Decide.f k 1 0 (⟨#[97]⟩ : ByteArray) 0 2 0 10 5 1 1 0 6 0 2 9).bind fun bt308 => ((scale_Decide.f k 2 0 (⟨#[97]⟩ : ByteArray) 0 2 0 10 5 2 3 30 6 8 2 0).bind fun bt310 => ((scale_Decide.f k 2 0 (⟨#[97]⟩ : ByteArray) 0 2 0 10 5 2 9 30 6 16 2 0).bind fun bt312 => ((scale_Decide.f k 9 3 (⟨#[97]⟩ : ByteArray) 0 2 0 10 5 2 9 6 6 2 2 0).bind fun bt314 => ((scale_Decide.f k 9 1 (⟨#[97]⟩ : ByteArray) 0 2 0 10 5 8 9 6 6 2 2 0).bind fun bt316 => ((scale_Decide.f k 4 0 (⟨#[97]⟩ : ByteArray) 0 2 3 10 5 2 0 0 6 0 2 99).bind fun bt318 => ((scale_Decide.f k 1 0 (⟨#[97]⟩ : ByteArray) 0 2 0 10 5 0 5 600 6 0 0 0).bind fun bt320 => ((scale_Decide.f k 10 0 (⟨#[97]⟩ : ByteArray) 0 2 0 10 5 9 0 0 6 0 2 99).bind fun bt322 => ((scale_Decide.f k 5 0 (⟨#[97]⟩ : ByteArray) 0 2 0 10 5 30 0 0 6 0 2 99).bind fun bt324 => ((some (([(⟨t302, t303⟩ : S30), (⟨t304, t305⟩ : S30), (⟨bt306.1, bt306.2⟩ : S30), (⟨bt308.1, bt308.2⟩ : S30), (⟨bt310.1, bt310.2⟩ : S30), (⟨bt312.1, bt312.2⟩ : S30), (⟨bt314.1, bt314.2⟩ : S30), (⟨bt316.1, bt316.2⟩ : S30), (⟨bt318.1, bt318.2⟩ : S30), (⟨bt320.1, bt320.2⟩ : S30), (⟨bt322.1, bt322.2⟩ : S30), (⟨bt324.1, bt324.2⟩ : S30)] : List (S30)) : List (S30))).bind fun y326 => ((some (([(⟨0, 0⟩ : S30), (⟨1, 0⟩ : S30), (⟨0, 0⟩ : S30), (⟨1, 0⟩ : S30), (⟨3, 0⟩ : S30), (⟨4, 6⟩ : S30), (⟨8, 2⟩ : S30), (⟨4, 0⟩ : S30), (⟨3, 0⟩ : S30), (⟨4, 0⟩ : S30), (⟨4, 0⟩ : S30), (⟨10, 0⟩ : S30)] : List (S30)) : List (S30))).bind fun y329 => ((damperlaw10_within.f a0 (y326.length : Int)).bind fun t332 => (if 0 ≤ t332 then (if t332 < (y326.length : Int) then (if t332 < (y329.length : Int) then (some (((rd_T30 y326 t332).f0) == ((rd_T30 y329 t332).f0) && (((rd_T30 y326 t332).f1) == ((rd_T30 y329 t332).f1)))) else (none)) else (none)) else (none))))))))))))))) = some r := H
    have A5 := Aside0.mk A50
    clear A50
    replace H := Option.bind_eq_some_iff.mp H
    obtain ⟨⟨t306, t307⟩, A60, H⟩ := H
    replace H : ((scale_Decide.f k 1 0 (⟨#[97]⟩ : ByteArray) 0 2 0 10 5 1 1 0 6 0 2 9).bind fun bt308 => ((scale_Decide.f k 2 0 (⟨#[97]⟩ : ByteArray) 0 2 0 10 5 2 3 30 6 8 2 0).bind fun bt310 => ((scale_Decide.f k 2 0 (⟨#[97]⟩ : ByteArray) 0 2 0 10 5 2 9 30 6 16 2 0).bind fun bt312 => ((scale_Decide.f k 9 3 (⟨#[97]⟩ : ByteArray) 0 2 0 10 5 2 9 6 6 2 2 0).bind fun bt314 => ((scale_Decide.f k 9 1 (⟨#[97]⟩ : ByteArray) 0 2 0 10 5 8 9 6 6 2 2 0).bind fun bt316 => ((scale_Decide.f k 4 0 (⟨#[97]⟩ : ByteArray) 0 2 3 10 5 2 0 0 6 0 2 99).bind fun bt318 => ((scale_Decide.f k 1 0 (⟨#[97]⟩ : ByteArray) 0 2 0 10 5 0 5 600 6 0 0 0).bind fun bt320 => ((scale_Decide.f k 10 0 (⟨#[97]⟩ : ByteArray) 0 2 0 10 5 9 0 0 6 0 2 99).bind fun bt322 => ((scale_Decide.f k 5 0 (⟨#[97]⟩ : ByteArray) 0 2 0 10 5 30 0 0 6 0 2 99).bind fun bt324 => ((some (([(⟨t302, t303⟩ : S30), (⟨t304, t305⟩ : S30), (⟨t306, t307⟩ : S30), (⟨bt308.1, bt308.2⟩ : S30), (⟨bt310.1, bt310.2⟩ : S30), (⟨bt312.1, bt312.2⟩ : S30), (⟨bt314.1, bt314.2⟩ : S30), (⟨bt316.1, bt316.2⟩ : S30), (⟨bt318.1, bt318.2⟩ : S30), (⟨bt320.1, bt320.2⟩ : S30), (⟨bt322.1, bt322.2⟩ : S30), (⟨bt324.1, bt324.2⟩ : S30)] : List (S30)) : List (S30))).bind fun y326 => ((some (([(⟨0, 0⟩ : S30), (⟨1, 0⟩ : S30), (⟨0, 0⟩ : S30), (⟨1, 0⟩ : S30), (⟨3, 0⟩ : S30), (⟨4, 6⟩ : S30), (⟨8, 2⟩ : S30), (⟨4, 0⟩ : S30), (⟨3, 0⟩ : S30), (⟨4, 0⟩ : S30), (⟨4, 0⟩ : S30), (⟨10, 0⟩ : S30)] : List (S30)) : List (S30))).bind fun y329 => ((damperlaw10_within.f a0 (y326.length : Int)).bind fun t332 => (if 0 ≤ t332 then (if t332 < (y326.length : Int) then (if t332 < (y329.length : Int) then (some (((rd_T30 y326 t332).f0) == ((rd_T30 y329 t332).f0) && (((rd_T30 y326 t332).f1) == ((rd_T30 y329 t332).f1)))) else (none)) else (none)) else (none)))))))))))))) = some r := H
    have A6 := Aside0.mk A60
    clear A60
    replace H := Option.bind_eq_some_iff.mp H
    obtain ⟨⟨t308, t309⟩, A70, H⟩ := H
    replace H : ((scale_Decide.f k 2 0 (⟨#[97]⟩ : ByteArray) 0 2 0 10 5 2 3 30 6 8 2 0).bind fun bt310 => ((scale_Decide.f k 2 0 (⟨#[97]⟩ : ByteArray) 0 2 0 10 5 2 9 30 6 16 2 0).bind fun bt312 => ((scale_Decide.f k 9 3 (⟨#[97]⟩ : ByteArray) 0 2 0 10 5 2 9 6 6 2 2 0).bind fun bt314 => ((scale_Decide.f k 9 1 (⟨#[97]⟩ : ByteArray) 0 2 0 10 5 8 9 6 6 2 2 0).bind fun bt316 => ((scale_Decide.f k 4 0 (⟨#[97]⟩ : ByteArray) 0 2 3 10 5 2 0 0 6 0 2 99).bind fun bt318 => ((scale_Decide.f k 1 0 (⟨#[97]⟩ : ByteArray) 0 2 0 10 5 0 5 600 6 0 0 0).bind fun bt320 => ((scale_Decide.f k 10 0 (⟨#[97]⟩ : ByteArray) 0 2 0 10 5 9 0 0 6 0 2 99).bind fun bt322 => ((scale_Decide.f k 5 0 (⟨#[97]⟩ : ByteArray) 0 2 0 10 5 30 0 0 6 0 2 99).bind fun bt324 => ((some (([(⟨t302, t303⟩ : S30), (⟨t304, t305⟩ : S30), (⟨t306, t307⟩ : S30), (⟨t308, t309⟩ : S30), (⟨bt310.1, bt310.2⟩ : S30), (⟨bt312.1, bt312.2⟩ : S30), (⟨bt314.1, bt314.2⟩ : S30), (⟨bt316.1, bt316.2⟩ : S30), (⟨bt318.1, bt318.2⟩ : S30), (⟨bt320.1, bt320.2⟩ : S30), (⟨bt322.1, bt322.2⟩ : S30), (⟨bt324.1, bt324.2⟩ : S30)] : List (S30)) : List (S30))).bind fun y326 => ((some (([(⟨0, 0⟩ : S30), (⟨1, 0⟩ : S30), (⟨0, 0⟩ : S30), (⟨1, 0⟩ : S30), (⟨3, 0⟩ : S30), (⟨4, 6⟩ : S30), (⟨8, 2⟩ : S30), (⟨4, 0⟩ : S30), (⟨3, 0⟩ : S30), (⟨4, 0⟩ : S30), (⟨4, 0⟩ : S30), (⟨10, 0⟩ : S30)] : List (S30)) : List (S30))).bind fun y329 => ((damperlaw10_within.f a0 (y326.length : Int)).bind fun t332 => (if 0 ≤ t332 then (if t332 < (y326.length : Int) then (if t332 < (y329.length : Int) then (some (((rd_T30 y326 t332).f0) == ((rd_T30 y329 t332).f0) && (((rd_T30 y326 t332).f1) == ((rd_T30 y329 t332).f1)))) else (none)) else (none)) else (none))))))))))))) = some r := H
    have A7 := Aside0.mk A70
    clear A70
    replace H := Option.bind_eq_some_iff.mp H
    obtain ⟨⟨t310, t311⟩, A80, H⟩ := H
    replace H : ((scale_Decide.f k 2 0 (⟨#[97]⟩ : ByteArray) 0 2 0 10 5 2 9 30 6 16 2 0).bind fun bt312 => ((scale_Decide.f k 9 3 (⟨#[97]⟩ : ByteArray) 0 2 0 10 5 2 9 6 6 2 2 0).bind fun bt314 => ((scale_Decide.f k 9 1 (⟨#[97]⟩ : ByteArray) 0 2 0 10 5 8 9 6 6 2 2 0).bind fun bt316 => ((scale_Decide.f k 4 0 (⟨#[97]⟩ : ByteArray) 0 2 3 10 5 2 0 0 6 0 2 99).bind fun bt318 => ((scale_Decide.f k 1 0 (⟨#[97]⟩ : ByteArray) 0 2 0 10 5 0 5 600 6 0 0 0).bind fun bt320 => ((scale_Decide.f k 10 0 (⟨#[97]⟩ : ByteArray) 0 2 0 10 5 9 0 0 6 0 2 99).bind fun bt322 => ((scale_Decide.f k 5 0 (⟨#[97]⟩ : ByteArray) 0 2 0 10 5 30 0 0 6 0 2 99).bind fun bt324 => ((some (([(⟨t302, t303⟩ : S30), (⟨t304, t305⟩ : S30), (⟨t306, t307⟩ : S30), (⟨t308, t309⟩ : S30), (⟨t310, t311⟩ : S30), (⟨bt312.1, bt312.2⟩ : S30), (⟨bt314.1, bt314.2⟩ : S30), (⟨bt316.1, bt316.2⟩ : S30), (⟨bt318.1, bt318.2⟩ : S30), (⟨bt320.1, bt320.2⟩ : S30), (⟨bt322.1, bt322.2⟩ : S30), (⟨bt324.1, bt324.2⟩ : S30)] : List (S30)) : List (S30))).bind fun y326 => ((some (([(⟨0, 0⟩ : S30), (⟨1, 0⟩ : S30), (⟨0, 0⟩ : S30), (⟨1, 0⟩ : S30), (⟨3, 0⟩ : S30), (⟨4, 6⟩ : S30), (⟨8, 2⟩ : S30), (⟨4, 0⟩ : S30), (⟨3, 0⟩ : S30), (⟨4, 0⟩ : S30), (⟨4, 0⟩ : S30), (⟨10, 0⟩ : S30)] : List (S30)) : List (S30))).bind fun y329 => ((damperlaw10_within.f a0 (y326.length : Int)).bind fun t332 => (if 0 ≤ t332 then (if t332 < (y326.length : Int) then (if t332 < (y329.length : Int) then (some (((rd_T30 y326 t332).f0) == ((rd_T30 y329 t332).f0) && (((rd_T30 y326 t332).f1) == ((rd_T30 y329 t332).f1)))) else (none)) else (none)) else (none)))))))))))) = some r := H
    have A8 := Aside0.mk A80
    clear A80
    replace H := Option.bind_eq_some_iff.mp H
    obtain ⟨⟨t312, t313⟩, A90, H⟩ := H
    replace H : ((scale_Decide.f k 9 3 (⟨#[97]⟩ : ByteArray) 0 2 0 10 5 2 9 6 6 2 2 0).bind fun bt314 => ((scale_Decide.f k 9 1 (⟨#[97]⟩ : ByteArray) 0 2 0 10 5 8 9 6 6 2 2 0).bind fun bt316 => ((scale_Decide.f k 4 0 (⟨#[97]⟩ : ByteArray) 0 2 3 10 5 2 0 0 6 0 2 99).bind fun bt318 => ((scale_Decide.f k 1 0 (⟨#[97]⟩ : ByteArray) 0 2 0 10 5 0 5 600 6 0 0 0).bind fun bt320 => ((scale_Decide.f k 10 0 (⟨#[97]⟩ : ByteArray) 0 2 0 10 5 9 0 0 6 0 2 99).bind fun bt322 => ((scale_Decide.f k 5 0 (⟨#[97]⟩ : ByteArray) 0 2 0 10 5 30 0 0 6 0 2 99).bind fun bt324 => ((some (([(⟨t302, t303⟩ : S30), (⟨t304, t305⟩ : S30), (⟨t306, t307⟩ : S30), (⟨t308, t309⟩ : S30), (⟨t310, t311⟩ : S30), (⟨t312, t313⟩ : S30), (⟨bt314.1, bt314.2⟩ : S30), (⟨bt316.1, bt316.2⟩ : S30), (⟨bt318.1, bt318.2⟩ : S30), (⟨bt320.1, bt320.2⟩ : S30), (⟨bt322.1, bt322.2⟩ : S30), (⟨bt324.1, bt324.2⟩ : S30)] : List (S30)) : List (S30))).bind fun y326 => ((some (([(⟨0, 0⟩ : S30), (⟨1, 0⟩ : S30), (⟨0, 0⟩ : S30), (⟨1, 0⟩ : S30), (⟨3, 0⟩ : S30), (⟨4, 6⟩ : S30), (⟨8, 2⟩ : S30), (⟨4, 0⟩ : S30), (⟨3, 0⟩ : S30), (⟨4, 0⟩ : S30), (⟨4, 0⟩ : S30), (⟨10, 0⟩ : S30)] : List (S30)) : List (S30))).bind fun y329 => ((damperlaw10_within.f a0 (y326.length : Int)).bind fun t332 => (if 0 ≤ t332 then (if t332 < (y326.length : Int) then (if t332 < (y329.length : Int) then (some (((rd_T30 y326 t332).f0) == ((rd_T30 y329 t332).f0) && (((rd_T30 y326 t332).f1) == ((rd_T30 y329 t332).f1)))) else (none)) else (none)) else (none))))))))))) = some r := H
    have A9 := Aside0.mk A90
    clear A90
    replace H := Option.bind_eq_some_iff.mp H
    obtain ⟨⟨t314, t315⟩, A100, H⟩ := H
    replace H : ((scale_Decide.f k 9 1 (⟨#[97]⟩ : ByteArray) 0 2 0 10 5 8 9 6 6 2 2 0).bind fun bt316 => ((scale_Decide.f k 4 0 (⟨#[97]⟩ : ByteArray) 0 2 3 10 5 2 0 0 6 0 2 99).bind fun bt318 => ((scale_Decide.f k 1 0 (⟨#[97]⟩ : ByteArray) 0 2 0 10 5 0 5 600 6 0 0 0).bind fun bt320 => ((scale_Decide.f k 10 0 (⟨#[97]⟩ : ByteArray) 0 2 0 10 5 9 0 0 6 0 2 99).bind fun bt322 => ((scale_Decide.f k 5 0 (⟨#[97]⟩ : ByteArray) 0 2 0 10 5 30 0 0 6 0 2 99).bind fun bt324 => ((some (([(⟨t302, t303⟩ : S30), (⟨t304, t305⟩ : S30), (⟨t306, t307⟩ : S30), (⟨t308, t309⟩ : S30), (⟨t310, t311⟩ : S30), (⟨t312, t313⟩ : S30), (⟨t314, t315⟩ : S30), (⟨bt316.1, bt316.2⟩ : S30), (⟨bt318.1, bt318.2⟩ : S30), (⟨bt320.1, bt320.2⟩ : S30), (⟨bt322.1, bt322.2⟩ : S30), (⟨bt324.1, bt324.2⟩ : S30)] : List (S30)) : List (S30))).bind fun y326 => ((some (([(⟨0, 0⟩ : S30), (⟨1, 0⟩ : S30), (⟨0, 0⟩ : S30), (⟨1, 0⟩ : S30), (⟨3, 0⟩ : S30), (⟨4, 6⟩ : S30), (⟨8, 2⟩ : S30), (⟨4, 0⟩ : S30), (⟨3, 0⟩ : S30), (⟨4, 0⟩ : S30), (⟨4, 0⟩ : S30), (⟨10, 0⟩ : S30)] : List (S30)) : List (S30))).bind fun y329 => ((damperlaw10_within.f a0 (y326.length : Int)).bind fun t332 => (if 0 ≤ t332 then (if t332 < (y326.length : Int) then (if t332 < (y329.length : Int) then (some (((rd_T30 y326 t332).f0) == ((rd_T30 y329 t332).f0) && (((rd_T30 y326 t332).f1) == ((rd_T30 y329 t332).f1)))) else (none)) else (none)) else (none)))))))))) = some r := H
    have A10 := Aside0.mk A100
    clear A100
    replace H := Option.bind_eq_some_iff.mp H
    obtain ⟨⟨t316, t317⟩, A110, H⟩ := H
    replace H : ((scale_Decide.f k 4 0 (⟨#[97]⟩ : ByteArray) 0 2 3 10 5 2 0 0 6 0 2 99).bind fun bt318 => ((scale_Decide.f k 1 0 (⟨#[97]⟩ : ByteArray) 0 2 0 10 5 0 5 600 6 0 0 0).bind fun bt320 => ((scale_Decide.f k 10 0 (⟨#[97]⟩ : ByteArray) 0 2 0 10 5 9 0 0 6 0 2 99).bind fun bt322 => ((scale_Decide.f k 5 0 (⟨#[97]⟩ : ByteArray) 0 2 0 10 5 30 0 0 6 0 2 99).bind fun bt324 => ((some (([(⟨t302, t303⟩ : S30), (⟨t304, t305⟩ : S30), (⟨t306, t307⟩ : S30), (⟨t308, t309⟩ : S30), (⟨t310, t311⟩ : S30), (⟨t312, t313⟩ : S30), (⟨t314, t315⟩ : S30), (⟨t316, t317⟩ : S30), (⟨bt318.1, bt318.2⟩ : S30), (⟨bt320.1, bt320.2⟩ : S30), (⟨bt322.1, bt322.2⟩ : S30), (⟨bt324.1, bt324.2⟩ : S30)] : List (S30)) : List (S30))).bind fun y326 => ((some (([(⟨0, 0⟩ : S30), (⟨1, 0⟩ : S30), (⟨0, 0⟩ : S30), (⟨1, 0⟩ : S30), (⟨3, 0⟩ : S30), (⟨4, 6⟩ : S30), (⟨8, 2⟩ : S30), (⟨4, 0⟩ : S30), (⟨3, 0⟩ : S30), (⟨4, 0⟩ : S30), (⟨4, 0⟩ : S30), (⟨10, 0⟩ : S30)] : List (S30)) : List (S30))).bind fun y329 => ((damperlaw10_within.f a0 (y326.length : Int)).bind fun t332 => (if 0 ≤ t332 then (if t332 < (y326.length : Int) then (if t332 < (y329.length : Int) then (some (((rd_T30 y326 t332).f0) == ((rd_T30 y329 t332).f0) && (((rd_T30 y326 t332).f1) == ((rd_T30 y329 t332).f1)))) else (none)) else (none)) else (none))))))))) = some r := H
    have A11 := Aside0.mk A110
    clear A110
    replace H := Option.bind_eq_some_iff.mp H
    obtain ⟨⟨t318, t319⟩, A120, H⟩ := H
    replace H : ((scale_Decide.f k 1 0 (⟨#[97]⟩ : ByteArray) 0 2 0 10 5 0 5 600 6 0 0 0).bind fun bt320 => ((scale_Decide.f k 10 0 (⟨#[97]⟩ : ByteArray) 0 2 0 10 5 9 0 0 6 0 2 99).bind fun bt322 => ((scale_Decide.f k 5 0 (⟨#[97]⟩ : ByteArray) 0 2 0 10 5 30 0 0 6 0 2 99).bind fun bt324 => ((some (([(⟨t302, t303⟩ : S30), (⟨t304, t305⟩ : S30), (⟨t306, t307⟩ : S30), (⟨t308, t309⟩ : S30), (⟨t310, t311⟩ : S30), (⟨t312, t313⟩ : S30), (⟨t314, t315⟩ : S30), (⟨t316, t317⟩ : S30), (⟨t318, t319⟩ : S30), (⟨bt320.1, bt320.2⟩ : S30), (⟨bt322.1, bt322.2⟩ : S30), (⟨bt324.1, bt324.2⟩ : S30)] : List (S30)) : List (S30))).bind fun y326 => ((some (([(⟨0, 0⟩ : S30), (⟨1, 0⟩ : S30), (⟨0, 0⟩ : S30), (⟨1, 0⟩ : S30), (⟨3, 0⟩ : S30), (⟨4, 6⟩ : S30), (⟨8, 2⟩ : S30), (⟨4, 0⟩ : S30), (⟨3, 0⟩ : S30), (⟨4, 0⟩ : S30), (⟨4, 0⟩ : S30), (⟨10, 0⟩ : S30)] : List (S30)) : List (S30))).bind fun y329 => ((damperlaw10_within.f a0 (y326.length : Int)).bind fun t332 => (if 0 ≤ t332 then (if t332 < (y326.length : Int) then (if t332 < (y329.length : Int) then (some (((rd_T30 y326 t332).f0) == ((rd_T30 y329 t332).f0) && (((rd_T30 y326 t332).f1) == ((rd_T30 y329 t332).f1)))) else (none)) else (none)) else (none)))))))) = some r := H
    have A12 := Aside0.mk A120
    clear A120
    replace H := Option.bind_eq_some_iff.mp H
    obtain ⟨⟨t320, t321⟩, A130, H⟩ := H
    replace H : ((scale_Decide.f k 10 0 (⟨#[97]⟩ : ByteArray) 0 2 0 10 5 9 0 0 6 0 2 99).bind fun bt322 => ((scale_Decide.f k 5 0 (⟨#[97]⟩ : ByteArray) 0 2 0 10 5 30 0 0 6 0 2 99).bind fun bt324 => ((some (([(⟨t302, t303⟩ : S30), (⟨t304, t305⟩ : S30), (⟨t306, t307⟩ : S30), (⟨t308, t309⟩ : S30), (⟨t310, t311⟩ : S30), (⟨t312, t313⟩ : S30), (⟨t314, t315⟩ : S30), (⟨t316, t317⟩ : S30), (⟨t318, t319⟩ : S30), (⟨t320, t321⟩ : S30), (⟨bt322.1, bt322.2⟩ : S30), (⟨bt324.1, bt324.2⟩ : S30)] : List (S30)) : List (S30))).bind fun y326 => ((some (([(⟨0, 0⟩ : S30), (⟨1, 0⟩ : S30), (⟨0, 0⟩ : S30), (⟨1, 0⟩ : S30), (⟨3, 0⟩ : S30), (⟨4, 6⟩ : S30), (⟨8, 2⟩ : S30), (⟨4, 0⟩ : S30), (⟨3, 0⟩ : S30), (⟨4, 0⟩ : S30), (⟨4, 0⟩ : S30), (⟨10, 0⟩ : S30)] : List (S30)) : List (S30))).bind fun y329 => ((damperlaw10_within.f a0 (y326.length : Int)).bind fun t332 => (if 0 ≤ t332 then (if t332 < (y326.length : Int) then (if t332 < (y329.length : Int) then (some (((rd_T30 y326 t332).f0) == ((rd_T30 y329 t332).f0) && (((rd_T30 y326 t332).f1) == ((rd_T30 y329 t332).f1)))) else (none)) else (none)) else (none))))))) = some r := H
    have A13 := Aside0.mk A130
    clear A130
    replace H := Option.bind_eq_some_iff.mp H
    obtain ⟨⟨t322, t323⟩, A140, H⟩ := H
    replace H : ((scale_Decide.f k 5 0 (⟨#[97]⟩ : ByteArray) 0 2 0 10 5 30 0 0 6 0 2 99).bind fun bt324 => ((some (([(⟨t302, t303⟩ : S30), (⟨t304, t305⟩ : S30), (⟨t306, t307⟩ : S30), (⟨t308, t309⟩ : S30), (⟨t310, t311⟩ : S30), (⟨t312, t313⟩ : S30), (⟨t314, t315⟩ : S30), (⟨t316, t317⟩ : S30), (⟨t318, t319⟩ : S30), (⟨t320, t321⟩ : S30), (⟨t322, t323⟩ : S30), (⟨bt324.1, bt324.2⟩ : S30)] : List (S30)) : List (S30))).bind fun y326 => ((some (([(⟨0, 0⟩ : S30), (⟨1, 0⟩ : S30), (⟨0, 0⟩ : S30), (⟨1, 0⟩ : S30), (⟨3, 0⟩ : S30), (⟨4, 6⟩ : S30), (⟨8, 2⟩ : S30), (⟨4, 0⟩ : S30), (⟨3, 0⟩ : S30), (⟨4, 0⟩ : S30), (⟨4, 0⟩ : S30), (⟨10, 0⟩ : S30)] : List (S30)) : List (S30))).bind fun y329 => ((damperlaw10_within.f a0 (y326.length : Int)).bind fun t332 => (if 0 ≤ t332 then (if t332 < (y326.length : Int) then (if t332 < (y329.length : Int) then (some (((rd_T30 y326 t332).f0) == ((rd_T30 y329 t332).f0) && (((rd_T30 y326 t332).f1) == ((rd_T30 y329 t332).f1)))) else (none)) else (none)) else (none)))))) = some r := H
    have A14 := Aside0.mk A140
    clear A140
    replace H := Option.bind_eq_some_iff.mp H
    obtain ⟨⟨t324, t325⟩, A150, H⟩ := H
    replace H : ((some (([(⟨t302, t303⟩ : S30), (⟨t304, t305⟩ : S30), (⟨t306, t307⟩ : S30), (⟨t308, t309⟩ : S30), (⟨t310, t311⟩ : S30), (⟨t312, t313⟩ : S30), (⟨t314, t315⟩ : S30), (⟨t316, t317⟩ : S30), (⟨t318, t319⟩ : S30), (⟨t320, t321⟩ : S30), (⟨t322, t323⟩ : S30), (⟨t324, t325⟩ : S30)] : List (S30)) : List (S30))).bind fun y326 => ((some (([(⟨0, 0⟩ : S30), (⟨1, 0⟩ : S30), (⟨0, 0⟩ : S30), (⟨1, 0⟩ : S30), (⟨3, 0⟩ : S30), (⟨4, 6⟩ : S30), (⟨8, 2⟩ : S30), (⟨4, 0⟩ : S30), (⟨3, 0⟩ : S30), (⟨4, 0⟩ : S30), (⟨4, 0⟩ : S30), (⟨10, 0⟩ : S30)] : List (S30)) : List (S30))).bind fun y329 => ((damperlaw10_within.f a0 (y326.length : Int)).bind fun t332 => (if 0 ≤ t332 then (if t332 < (y326.length : Int) then (if t332 < (y329.length : Int) then (some (((rd_T30 y326 t332).f0) == ((rd_T30 y329 t332).f0) && (((rd_T30 y326 t332).f1) == ((rd_T30 y329 t332).f1)))) else (none)) else (none)) else (none))))) = some r := H
    have A15 := Aside0.mk A150
    clear A150
    obtain ⟨y326, hy326⟩ : ∃ y_ : List (S30), y_ = (([(⟨t302, t303⟩ : S30), (⟨t304, t305⟩ : S30), (⟨t306, t307⟩ : S30), (⟨t308, t309⟩ : S30), (⟨t310, t311⟩ : S30), (⟨t312, t313⟩ : S30), (⟨t314, t315⟩ : S30), (⟨t316, t317⟩ : S30), (⟨t318, t319⟩ : S30), (⟨t320, t321⟩ : S30), (⟨t322, t323⟩ : S30), (⟨t324, t325⟩ : S30)] : List (S30))) := ⟨_, rfl⟩
    replace H : ((some (([(⟨0, 0⟩ : S30), (⟨1, 0⟩ : S30), (⟨0, 0⟩ : S30), (⟨1, 0⟩ : S30), (⟨3, 0⟩ : S30), (⟨4, 6⟩ : S30), (⟨8, 2⟩ : S30), (⟨4, 0⟩ : S30), (⟨3, 0⟩ : S30), (⟨4, 0⟩ : S30), (⟨4, 0⟩ : S30), (⟨10, 0⟩ : S30)] : List (S30)) : List (S30))).bind fun y329 => ((damperlaw10_within.f a0 (y326.length : Int)).bind fun t332 => (if 0 ≤ t332 then (if t332 < (y326.length : Int) then (if t332 < (y329.length : Int) then (some (((rd_T30 y326 t332).f0) == ((rd_T30 y329 t332).f0) && (((rd_T30 y326 t332).f1) == ((rd_T30 y329 t332).f1)))) else (none)) else (none)) else (none)))) = some r := by first | (rw [hy326]; with_reducible exact H) | (have H2_ := (Option.bind_some _ _).symm.trans H; rw [hy326]; with_reducible exact H2_) | (have H2_ := (Option.bind_some _ _).symm.trans H; with_reducible exact H2_) | with_reducible exact H | (rw [hy326]; exact H) | exact H
    have Ny326 := Aside0.mk hy326
    clear hy326
    obtain ⟨y329, hy329⟩ : ∃ y_ : List (S30), y_ = (([(⟨0, 0⟩ : S30), (⟨1, 0⟩ : S30), (⟨0, 0⟩ : S30), (⟨1, 0⟩ : S30), (⟨3, 0⟩ : S30), (⟨4, 6⟩ : S30), (⟨8, 2⟩ : S30), (⟨4, 0⟩ : S30), (⟨3, 0⟩ : S30), (⟨4, 0⟩ : S30), (⟨4, 0⟩ : S30), (⟨10, 0⟩ : S30)] : List (S30))) := ⟨_, rfl⟩
    replace H : ((damperlaw10_within.f a0 (y326.length : Int)).bind fun t332 => (if 0 ≤ t332 then (if t332 < (y326.length : Int) then (if t332 < (y329.length : Int) then (some (((rd_T30 y326 t332).f0) == ((rd_T30 y329 t332).f0) && (((rd_T30 y326 t332).f1) == ((rd_T30 y329 t332).f1)))) else (none)) else (none)) else (none))) = some r := by first | (rw [hy329]; with_reducible exact H) | (have H2_ := (Option.bind_some _ _).symm.trans H; rw [hy329]; with_reducible exact H2_) | (have H2_ := (Option.bind_some _ _).symm.trans H; with_reducible exact H2_) | with_reducible exact H | (rw [hy329]; exact H) | exact H
    have Ny329 := Aside0.mk hy329
    clear hy329
    replace H := Option.bind_eq_some_iff.mp H
    obtain ⟨t332, A160, H⟩ := H
    replace H : (if 0 ≤ t332 then (if t332 < (y326.length : Int) then (if t332 < (y329.length : Int) then (some (((rd_T30 y326 t332).f0) == ((rd_T30 y329 t332).f0) && (((rd_T30 y326 t332).f1) == ((rd_T30 y329 t332).f1)))) else (none)) else (none)) else (none)) = some r := H
    have A16 := Aside0.mk A160
    clear A160
    by_cases c17 : 0 ≤ t332
    rotate_left
    · rw [if_neg c17] at H
      exact absurd H (by simp)
    rw [if_pos c17] at H
    have c17b0 : decide (0 ≤ t332) = true := decide_eq_true c17
    clear c17
    by_cases c18 : t332 < (y326.length : Int)
    rotate_left
    · rw [if_neg c18] at H
      exact absurd H (by simp)
    rw [if_pos c18] at H
    have c18b0 : decide (t332 < (y326.length : Int)) = true := decide_eq_true c18
    clear c18
    by_cases c19 : t332 < (y329.length : Int)
    rotate_left
    · rw [if_neg c19] at H
      exact absurd H (by simp)
    rw [if_pos c19] at H
    have c19b0 : decide (t332 < (y329.length : Int)) = true := decide_eq_true c19
    clear c19
    obtain rfl := Option.some.inj H
    go_enter Try.func8, Try.ntmps8
    try go_wp2_with (first | ((with_reducible refine gate_callee (f := 13) rfl ?_); refine goesL_ (some 8) rfl rfl Try.func13 (by kernel_rfl) rfl #[] rfl (by (try simp only [List.map_toArray, List.map_cons, List.map_nil]); first | done | rfl | (simp only [List.length_drop, List.length_take]; rfl)) ?_; (with_reducible refine (damperlaw10_known.calls k  true _ A2.out).mono ?_); rintro e w20 ⟨rfl, hb⟩; refine ⟨_, rfl, ?_⟩; have n0_ := Aside0.mk (below_step (by repeat (first | (with_reducible first | exact HB.out | apply below_alloc | apply pw_below_drewN | apply below_drew1) | exact HB.out)) hb); clear HB; have HB := n0_; clear n0_; (try clear hb); (try clear hb2); (try clear hk); (try clear hi)) | ((with_reducible refine gate_dst (N := 3) rfl ?_); refine box_event ?hg (N := 3) ?hd (cs := #[.string (⟨#[]⟩ : ByteArray), .int .i64 0, .int .i64 0, .int .i64 0, .int .i64 0, .int .i64 0]) (t := 25) ?hr ?_; (case hd => rfl); (case hg => rfl); (case hr => first | (go_simp; done) | (go_simp; rfl)); intro gb300 hg w21 hbox hb; have n0_ := Aside0.mk (below_step (by repeat (first | (with_reducible first | exact HB.out | apply below_alloc | apply pw_below_drewN | apply below_drew1) | exact HB.out)) hb); have n1_ := Aside0.mk (hbox); have n2_ := Aside0.mk ((by rw [hg]; exact (below_size (by repeat (first | (with_reducible first | exact HB.out | apply below_alloc | apply pw_below_drewN | apply below_drew1) | exact HB.out))) : w.heap.size ≤ gb300)); have n3_ := Aside0.mk ((by rw [hg]; exact (below_size (by repeat (first | (with_reducible first | exact HB.out | apply below_alloc | apply pw_below_drewN | apply below_drew1) | exact HB.out))) : w.heap.size ≤ gb300)); clear HB; have HB := n0_; have BK300 := n1_; have GW300 := n2_; have GE300 := n3_; clear n0_ n1_ n2_ n3_; clear hb hbox hg; have hcz22_0 : w21.cell? ⟨gb300, 0, none⟩ = some (.string (⟨#[]⟩ : ByteArray)) := bc BK300 0; have hcz22_1 : w21.cell? ⟨gb300, 1, none⟩ = some (.int .i64 0) := bc BK300 1; have hcz22_2 : w21.cell? ⟨gb300, 2, none⟩ = some (.int .i64 0) := bc BK300 2; have hcz22_3 : w21.cell? ⟨gb300, 3, none⟩ = some (.int .i64 0) := bc BK300 3; have hcz22_4 : w21.cell? ⟨gb300, 4, none⟩ = some (.int .i64 0) := bc BK300 4; have hcz22_5 : w21.cell? ⟨gb300, 5, none⟩ = some (.int .i64 0) := bc BK300 5; have hfz22_0 := blk_frozen BK300.out 0; have hfz22_1 := blk_frozen BK300.out 1; have hfz22_2 := blk_frozen BK300.out 2; have hfz22_3 := blk_frozen BK300.out 3; have hfz22_4 := blk_frozen BK300.out 4; have hfz22_5 := blk_frozen BK300.out 5) | ((with_reducible refine gate_dst (N := 4) rfl ?_); refine box_event ?hg (N := 4) ?hd (cs := #[.string (⟨#[]⟩ : ByteArray), .int .i64 0, .int .i64 0, .int .i64 0, .int .i64 0, .int .i64 0]) (t := 25) ?hr ?_; (case hd => rfl); (case hg => rfl); (case hr => first | (go_simp; done) | (go_simp; rfl)); intro gb301 hg w23 hbox hb; have n0_ := Aside0.mk (blk_below (g := gb300) (o := .cells #[.string (⟨#[97]⟩ : ByteArray), .int .i64 0, .int .i64 2, .int .i64 0, .int .i64 10, .int .i64 5] 25 (0, 0)) (by (with_reducible repeat (first | refine blk_drewN ?_ _ | refine blk_drew ?_ | refine blk_alloc ?_ _)); refine blk_put (cs := #[.string (⟨#[97]⟩ : ByteArray), .int .i64 0, .int .i64 2, .int .i64 0, .int .i64 10, .int .i64 0]) ?_ 5 _ rfl; refine blk_put (cs := #[.string (⟨#[97]⟩ : ByteArray), .int .i64 0, .int .i64 2, .int .i64 0, .int .i64 0, .int .i64 0]) ?_ 4 _ rfl; refine blk_put (cs := #[.string (⟨#[97]⟩ : ByteArray), .int .i64 0, .int .i64 2, .int .i64 0, .int .i64 0, .int .i64 0]) ?_ 3 _ rfl; refine blk_put (cs := #[.string (⟨#[97]⟩ : ByteArray), .int .i64 0, .int .i64 0, .int .i64 0, .int .i64 0, .int .i64 0]) ?_ 2 _ rfl; refine blk_put (cs := #[.string (⟨#[97]⟩ : ByteArray), .int .i64 0, .int .i64 0, .int .i64 0, .int .i64 0, .int .i64 0]) ?_ 1 _ rfl; refine blk_put (cs := #[.string (⟨#[]⟩ : ByteArray), .int .i64 0, .int .i64 0, .int .i64 0, .int .i64 0, .int .i64 0]) ?_ 0 _ rfl; (with_reducible repeat (first | refine blk_drewN ?_ _ | refine blk_drew ?_ | refine blk_alloc ?_ _)); exact BK300.out) hb); have n1_ := Aside0.mk (below_step (by repeat (first | (with_reducible first | exact HB.out | apply below_alloc | apply pw_below_drewN | apply below_drew1 | refine below_set ?_ GE300.out) | exact HB.out)) hb); have n2_ := Aside0.mk (hbox); have n3_ := Aside0.mk ((by rw [hg]; exact (below_size (by repeat (first | (with_reducible first | exact HB.out | apply below_alloc | apply pw_below_drewN | apply below_drew1 | refine below_set ?_ GE300.out) | exact HB.out))) : w.heap.size ≤ gb301)); have n4_ := Aside0.mk ((by rw [hg]; exact (below_size (by repeat (first | (with_reducible first | exact HB.out | apply below_alloc | apply pw_below_drewN | apply below_drew1 | refine below_set ?_ GE300.out) | exact HB.out))) : w.heap.size ≤ gb301)); have n5_ := Aside0.mk ((by rw [hg]; exact Nat.ne_of_lt (blk_lt (g := gb300) (o := .cells #[.string (⟨#[97]⟩ : ByteArray), .int .i64 0, .int .i64 2, .int .i64 0, .int .i64 10, .int .i64 5] 25 (0, 0)) (by (with_reducible repeat (first | refine blk_drewN ?_ _ | refine blk_drew ?_ | refine blk_alloc ?_ _)); refine blk_put (cs := #[.string (⟨#[97]⟩ : ByteArray), .int .i64 0, .int .i64 2, .int .i64 0, .int .i64 10, .int .i64 0]) ?_ 5 _ rfl; refine blk_put (cs := #[.string (⟨#[97]⟩ : ByteArray), .int .i64 0, .int .i64 2, .int .i64 0, .int .i64 0, .int .i64 0]) ?_ 4 _ rfl; refine blk_put (cs := #[.string (⟨#[97]⟩ : ByteArray), .int .i64 0, .int .i64 2, .int .i64 0, .int .i64 0, .int .i64 0]) ?_ 3 _ rfl; refine blk_put (cs := #[.string (⟨#[97]⟩ : ByteArray), .int .i64 0, .int .i64 0, .int .i64 0, .int .i64 0, .int .i64 0]) ?_ 2 _ rfl; refine blk_put (cs := #[.string (⟨#[97]⟩ : ByteArray), .int .i64 0, .int .i64 0, .int .i64 0, .int .i64 0, .int .i64 0]) ?_ 1 _ rfl; refine blk_put (cs := #[.string (⟨#[]⟩ : ByteArray), .int .i64 0, .int .i64 0, .int .i64 0, .int .i64 0, .int .i64 0]) ?_ 0 _ rfl; (with_reducible repeat (first | refine blk_drewN ?_ _ | refine blk_drew ?_ | refine blk_alloc ?_ _)); exact BK300.out)) : gb300 ≠ gb301)); have n6_ := Aside0.mk ((by rw [hg]; exact Nat.ne_of_gt (blk_lt (g := gb300) (o := .cells #[.string (⟨#[97]⟩ : ByteArray), .int .i64 0, .int .i64 2, .int .i64 0, .int .i64 10, .int .i64 5] 25 (0, 0)) (by (with_reducible repeat (first | refine blk_drewN ?_ _ | refine blk_drew ?_ | refine blk_alloc ?_ _)); refine blk_put (cs := #[.string (⟨#[97]⟩ : ByteArray), .int .i64 0, .int .i64 2, .int .i64 0, .int .i64 10, .int .i64 0]) ?_ 5 _ rfl; refine blk_put (cs := #[.string (⟨#[97]⟩ : ByteArray), .int .i64 0, .int .i64 2, .int .i64 0, .int .i64 0, .int .i64 0]) ?_ 4 _ rfl; refine blk_put (cs := #[.string (⟨#[97]⟩ : ByteArray), .int .i64 0, .int .i64 2, .int .i64 0, .int .i64 0, .int .i64 0]) ?_ 3 _ rfl; refine blk_put (cs := #[.string (⟨#[97]⟩ : ByteArray), .int .i64 0, .int .i64 0, .int .i64 0, .int .i64 0, .int .i64 0]) ?_ 2 _ rfl; refine blk_put (cs := #[.string (⟨#[97]⟩ : ByteArray), .int .i64 0, .int .i64 0, .int .i64 0, .int .i64 0, .int .i64 0]) ?_ 1 _ rfl; refine blk_put (cs := #[.string (⟨#[]⟩ : ByteArray), .int .i64 0, .int .i64 0, .int .i64 0, .int .i64 0, .int .i64 0]) ?_ 0 _ rfl; (with_reducible repeat (first | refine blk_drewN ?_ _ | refine blk_drew ?_ | refine blk_alloc ?_ _)); exact BK300.out)) : gb301 ≠ gb300)); clear BK300; clear HB; have BK300 := n0_; have HB := n1_; have BK301 := n2_; have GW301 := n3_; have GE301 := n4_; have NB300_301 := n5_; have NB301_300 := n6_; clear n0_ n1_ n2_ n3_ n4_ n5_ n6_; clear hb hbox hg; have hnb24 := NB301_300.out; have hnc24 := NB300_301.out; have hcz25_0 : w23.cell? ⟨gb301, 0, none⟩ = some (.string (⟨#[]⟩ : ByteArray)) := bc BK301 0; have hcz25_1 : w23.cell? ⟨gb301, 1, none⟩ = some (.int .i64 0) := bc BK301 1; have hcz25_2 : w23.cell? ⟨gb301, 2, none⟩ = some (.int .i64 0) := bc BK301 2; have hcz25_3 : w23.cell? ⟨gb301, 3, none⟩ = some (.int .i64 0) := bc BK301 3; have hcz25_4 : w23.cell? ⟨gb301, 4, none⟩ = some (.int .i64 0) := bc BK301 4; have hcz25_5 : w23.cell? ⟨gb301, 5, none⟩ = some (.int .i64 0) := bc BK301 5; have hfz25_0 := blk_frozen BK301.out 0; have hfz25_1 := blk_frozen BK301.out 1; have hfz25_2 := blk_frozen BK301.out 2; have hfz25_3 := blk_frozen BK301.out 3; have hfz25_4 := blk_frozen BK301.out 4; have hfz25_5 := blk_frozen BK301.out 5))
    have n0_ : Aside0 ((((((((w23.setCell ⟨gb301, 0, none⟩ (.string (⟨#[97]⟩ : ByteArray))).setCell ⟨gb301, 1, none⟩ (.int .i64 0)).setCell ⟨gb301, 2, none⟩ (.int .i64 2)).setCell ⟨gb301, 3, none⟩ (.int .i64 0)).setCell ⟨gb301, 4, none⟩ (.int .i64 10)).setCell ⟨gb301, 5, none⟩ (.int .i64 5)).setCell ⟨gb301, 3, none⟩ (.int .i64 3)).heap[gb300]? = some (.cells #[.string (⟨#[97]⟩ : ByteArray), .int .i64 0, .int .i64 2, .int .i64 0, .int .i64 10, .int .i64 5] 25 (0, 0))) := ⟨by (repeat ((with_reducible repeat (first | refine blk_drewN ?_ _ | refine blk_drew ?_ | refine blk_alloc ?_ _)); refine blk_far ?_ NB300_301.out _)); (with_reducible repeat (first | refine blk_drewN ?_ _ | refine blk_drew ?_ | refine blk_alloc ?_ _)); exact BK300.out⟩
    have n1_ : Aside0 ((((((((w23.setCell ⟨gb301, 0, none⟩ (.string (⟨#[97]⟩ : ByteArray))).setCell ⟨gb301, 1, none⟩ (.int .i64 0)).setCell ⟨gb301, 2, none⟩ (.int .i64 2)).setCell ⟨gb301, 3, none⟩ (.int .i64 0)).setCell ⟨gb301, 4, none⟩ (.int .i64 10)).setCell ⟨gb301, 5, none⟩ (.int .i64 5)).setCell ⟨gb301, 3, none⟩ (.int .i64 3)).heap[gb301]? = some (.cells #[.string (⟨#[97]⟩ : ByteArray), .int .i64 0, .int .i64 2, .int .i64 3, .int .i64 10, .int .i64 5] 25 (0, 0))) := ⟨by (with_reducible repeat (first | refine blk_drewN ?_ _ | refine blk_drew ?_ | refine blk_alloc ?_ _)); refine blk_put (cs := #[.string (⟨#[97]⟩ : ByteArray), .int .i64 0, .int .i64 2, .int .i64 0, .int .i64 10, .int .i64 5]) ?_ 3 _ rfl; refine blk_put (cs := #[.string (⟨#[97]⟩ : ByteArray), .int .i64 0, .int .i64 2, .int .i64 0, .int .i64 10, .int .i64 0]) ?_ 5 _ rfl; refine blk_put (cs := #[.string (⟨#[97]⟩ : ByteArray), .int .i64 0, .int .i64 2, .int .i64 0, .int .i64 0, .int .i64 0]) ?_ 4 _ rfl; refine blk_put (cs := #[.string (⟨#[97]⟩ : ByteArray), .int .i64 0, .int .i64 2, .int .i64 0, .int .i64 0, .int .i64 0]) ?_ 3 _ rfl; refine blk_put (cs := #[.string (⟨#[97]⟩ : ByteArray), .int .i64 0, .int .i64 0, .int .i64 0, .int .i64 0, .int .i64 0]) ?_ 2 _ rfl; refine blk_put (cs := #[.string (⟨#[97]⟩ : ByteArray), .int .i64 0, .int .i64 0, .int .i64 0, .int .i64 0, .int .i64 0]) ?_ 1 _ rfl; refine blk_put (cs := #[.string (⟨#[]⟩ : ByteArray), .int .i64 0, .int .i64 0, .int .i64 0, .int .i64 0, .int .i64 0]) ?_ 0 _ rfl; (with_reducible repeat (first | refine blk_drewN ?_ _ | refine blk_drew ?_ | refine blk_alloc ?_ _)); exact BK301.out⟩
    have n2_ : Aside0 (Below w.heap.size w (((((((w23.setCell ⟨gb301, 0, none⟩ (.string (⟨#[97]⟩ : ByteArray))).setCell ⟨gb301, 1, none⟩ (.int .i64 0)).setCell ⟨gb301, 2, none⟩ (.int .i64 2)).setCell ⟨gb301, 3, none⟩ (.int .i64 0)).setCell ⟨gb301, 4, none⟩ (.int .i64 10)).setCell ⟨gb301, 5, none⟩ (.int .i64 5)).setCell ⟨gb301, 3, none⟩ (.int .i64 3))) := ⟨by repeat (first | (with_reducible first | exact HB.out | apply below_alloc | apply pw_below_drewN | apply below_drew1 | refine below_set ?_ GE300.out | refine below_set ?_ GE301.out) | exact HB.out)⟩
    (try clear BK300)
    (try clear BK301)
    (try clear HB)
    generalize (((((((w23.setCell ⟨gb301, 0, none⟩ (.string (⟨#[97]⟩ : ByteArray))).setCell ⟨gb301, 1, none⟩ (.int .i64 0)).setCell ⟨gb301, 2, none⟩ (.int .i64 2)).setCell ⟨gb301, 3, none⟩ (.int .i64 0)).setCell ⟨gb301, 4, none⟩ (.int .i64 10)).setCell ⟨gb301, 5, none⟩ (.int .i64 5)).setCell ⟨gb301, 3, none⟩ (.int .i64 3)) = w26 at n0_ n1_ n2_ ⊢
    have BK300 := n0_
    have BK301 := n1_
    have HB := n2_
    clear n0_ n1_ n2_
    replace BK300 := Aside0.mk (blk_drew BK300.out)
    replace BK301 := Aside0.mk (blk_drew BK301.out)
    replace HB := Aside0.mk (below_drew1 HB.out)
    refine start_ (n := 38) (S := fun w' => w'.cell? ⟨gb300, 0, none⟩ = some (.string (⟨#[97]⟩ : ByteArray)) ∧ w'.cell? ⟨gb300, 1, none⟩ = some (.int .i64 0) ∧ w'.cell? ⟨gb300, 2, none⟩ = some (.int .i64 2) ∧ w'.cell? ⟨gb300, 3, none⟩ = some (.int .i64 0) ∧ w'.cell? ⟨gb300, 4, none⟩ = some (.int .i64 10) ∧ w'.cell? ⟨gb300, 5, none⟩ = some (.int .i64 5) ∧ w'.cell? ⟨gb301, 0, none⟩ = some (.string (⟨#[97]⟩ : ByteArray)) ∧ w'.cell? ⟨gb301, 1, none⟩ = some (.int .i64 0) ∧ w'.cell? ⟨gb301, 2, none⟩ = some (.int .i64 2) ∧ w'.cell? ⟨gb301, 3, none⟩ = some (.int .i64 3) ∧ w'.cell? ⟨gb301, 4, none⟩ = some (.int .i64 10) ∧ w'.cell? ⟨gb301, 5, none⟩ = some (.int .i64 5)) (ds := []) #[false, false, false, false, false, false, false, false, false, false, false, false, false, false, false, false, false, false, false, false, false, false, false, false, false, false, false, false, false, false, false, false, false, false, false, false, false, false] (by kernel_rfl) rfl rfl ⟨bc BK300 0, bc BK300 1, bc BK300 2, bc BK300 3, bc BK300 4, bc BK300 5, bc BK301 0, bc BK301 1, bc BK301 2, bc BK301 3, bc BK301 4, bc BK301 5⟩ (fun hHeld => ?_); refine with_tabW damperlaw10_ScaleKnown.tab6 damperlaw10_ScaleKnown.bits6 (fun HT_ HW_ => ?_)
    generalize w26.drew = w27 at BK300 BK301 HB hHeld ⊢
    refine pure_ (i := 0) (N := some 13) (v := ?_) (a' := ?_) #[true, false, false, false, false, false, false, false, false, false, false, false, false, false, false, false, false, false, false, false, false, false, false, false, false, false, false, false, false, false, false, false, false, false, false, false, false, false] rfl rfl (any_of HT_.out (by kernel_rfl)) (fun _ _ _ h => h) (Or.inl ⟨by rfl, ?_⟩) ?_ ?_
    rotate_left
    · intro w'
      go_simp
      with_reducible rfl
    rotate_left
    · simp only [Act.put, List.setIfInBounds_toArray, List.set_cons_zero, List.set_cons_succ, i64_w, i32_w]
      rfl
    refine pure_ (i := 3) (N := some 16) (v := ?_) (a' := ?_) #[true, false, false, true, false, false, false, false, false, false, false, false, false, false, false, false, false, false, false, false, false, false, false, false, false, false, false, false, false, false, false, false, false, false, false, false, false, false] rfl rfl (any_of HT_.out (by kernel_rfl)) (fun _ _ _ h => h) (Or.inl ⟨by rfl, ?_⟩) ?_ ?_
    rotate_left
    · intro w'
      go_simp
      with_reducible rfl
    rotate_left
    · simp only [Act.put, List.setIfInBounds_toArray, List.set_cons_zero, List.set_cons_succ, i64_w, i32_w]
      rfl
    refine pure_ (i := 6) (N := some 19) (v := ?_) (a' := ?_) #[true, false, false, true, false, false, true, false, false, false, false, false, false, false, false, false, false, false, false, false, false, false, false, false, false, false, false, false, false, false, false, false, false, false, false, false, false, false] rfl rfl (any_of HT_.out (by kernel_rfl)) (fun _ _ _ h => h) (Or.inl ⟨by rfl, ?_⟩) ?_ ?_
    rotate_left
    · intro w'
      go_simp
      with_reducible rfl
    rotate_left
    · simp only [Act.put, List.setIfInBounds_toArray, List.set_cons_zero, List.set_cons_succ, i64_w, i32_w]
      rfl
    refine pure_ (i := 9) (N := some 22) (v := ?_) (a' := ?_) #[true, false, false, true, false, false, true, false, false, true, false, false, false, false, false, false, false, false, false, false, false, false, false, false, false, false, false, false, false, false, false, false, false, false, false, false, false, false] rfl rfl (any_of HT_.out (by kernel_rfl)) (fun _ _ _ h => h) (Or.inl ⟨by rfl, ?_⟩) ?_ ?_
    rotate_left
    · intro w'
      go_simp
      with_reducible rfl
    rotate_left
    · simp only [Act.put, List.setIfInBounds_toArray, List.set_cons_zero, List.set_cons_succ, i64_w, i32_w]
      rfl
    refine pure_ (i := 12) (N := some 25) (v := ?_) (a' := ?_) #[true, false, false, true, false, false, true, false, false, true, false, false, true, false, false, false, false, false, false, false, false, false, false, false, false, false, false, false, false, false, false, false, false, false, false, false, false, false] rfl rfl (any_of HT_.out (by kernel_rfl)) (fun _ _ _ h => h) (Or.inl ⟨by rfl, ?_⟩) ?_ ?_
    rotate_left
    · intro w'
      go_simp
      with_reducible rfl
    rotate_left
    · simp only [Act.put, List.setIfInBounds_toArray, List.set_cons_zero, List.set_cons_succ, i64_w, i32_w]
      rfl
    refine pure_ (i := 15) (N := some 28) (v := ?_) (a' := ?_) #[true, false, false, true, false, false, true, false, false, true, false, false, true, false, false, true, false, false, false, false, false, false, false, false, false, false, false, false, false, false, false, false, false, false, false, false, false, false] rfl rfl (any_of HT_.out (by kernel_rfl)) (fun _ _ _ h => h) (Or.inl ⟨by rfl, ?_⟩) ?_ ?_
    rotate_left
    · intro w'
      go_simp
      with_reducible rfl
    rotate_left
    · simp only [Act.put, List.setIfInBounds_toArray, List.set_cons_zero, List.set_cons_succ, i64_w, i32_w]
      rfl
    refine pure_ (i := 18) (N := some 31) (v := ?_) (a' := ?_) #[true, false, false, true, false, false, true, false, false, true, false, false, true, false, false, true, false, false, true, false, false, false, false, false, false, false, false, false, false, false, false, false, false, false, false, false, false, false] rfl rfl (any_of HT_.out (by kernel_rfl)) (fun _ _ _ h => h) (Or.inl ⟨by rfl, ?_⟩) ?_ ?_
    rotate_left
    · intro w'
      go_simp
      with_reducible rfl
    rotate_left
    · simp only [Act.put, List.setIfInBounds_toArray, List.set_cons_zero, List.set_cons_succ, i64_w, i32_w]
      rfl
    refine pure_ (i := 21) (N := some 34) (v := ?_) (a' := ?_) #[true, false, false, true, false, false, true, false, false, true, false, false, true, false, false, true, false, false, true, false, false, true, false, false, false, false, false, false, false, false, false, false, false, false, false, false, false, false] rfl rfl (any_of HT_.out (by kernel_rfl)) (fun _ _ _ h => h) (Or.inl ⟨by rfl, ?_⟩) ?_ ?_
    rotate_left
    · intro w'
      go_simp
      with_reducible rfl
    rotate_left
    · simp only [Act.put, List.setIfInBounds_toArray, List.set_cons_zero, List.set_cons_succ, i64_w, i32_w]
      rfl
    refine pure_ (i := 24) (N := some 37) (v := ?_) (a' := ?_) #[true, false, false, true, false, false, true, false, false, true, false, false, true, false, false, true, false, false, true, false, false, true, false, false, true, false, false, false, false, false, false, false, false, false, false, false, false, false] rfl rfl (any_of HT_.out (by kernel_rfl)) (fun _ _ _ h => h) (Or.inl ⟨by rfl, ?_⟩) ?_ ?_
    rotate_left
    · intro w'
      go_simp
      with_reducible rfl
    rotate_left
    · simp only [Act.put, List.setIfInBounds_toArray, List.set_cons_zero, List.set_cons_succ, i64_w, i32_w]
      rfl
    refine pure_ (i := 27) (N := some 40) (v := ?_) (a' := ?_) #[true, false, false, true, false, false, true, false, false, true, false, false, true, false, false, true, false, false, true, false, false, true, false, false, true, false, false, true, false, false, false, false, false, false, false, false, false, false] rfl rfl (any_of HT_.out (by kernel_rfl)) (fun _ _ _ h => h) (Or.inl ⟨by rfl, ?_⟩) ?_ ?_
    rotate_left
    · intro w'
      go_simp
      with_reducible rfl
    rotate_left
    · simp only [Act.put, List.setIfInBounds_toArray, List.set_cons_zero, List.set_cons_succ, i64_w, i32_w]
      rfl
    refine pure_ (i := 30) (N := some 43) (v := ?_) (a' := ?_) #[true, false, false, true, false, false, true, false, false, true, false, false, true, false, false, true, false, false, true, false, false, true, false, false, true, false, false, true, false, false, true, false, false, false, false, false, false, false] rfl rfl (any_of HT_.out (by kernel_rfl)) (fun _ _ _ h => h) (Or.inl ⟨by rfl, ?_⟩) ?_ ?_
    rotate_left
    · intro w'
      go_simp
      with_reducible rfl
    rotate_left
    · simp only [Act.put, List.setIfInBounds_toArray, List.set_cons_zero, List.set_cons_succ, i64_w, i32_w]
      rfl
    refine pure_ (i := 33) (N := some 46) (v := ?_) (a' := ?_) #[true, false, false, true, false, false, true, false, false, true, false, false, true, false, false, true, false, false, true, false, false, true, false, false, true, false, false, true, false, false, true, false, false, true, false, false, false, false] rfl rfl (any_of HT_.out (by kernel_rfl)) (fun _ _ _ h => h) (Or.inl ⟨by rfl, ?_⟩) ?_ ?_
    rotate_left
    · intro w'
      go_simp
      with_reducible rfl
    rotate_left
    · simp only [Act.put, List.setIfInBounds_toArray, List.set_cons_zero, List.set_cons_succ, i64_w, i32_w]
      rfl
    refine take_ (i := 1) (N := some 14) (v := ?_) (a' := ?_) #[true, true, false, true, false, false, true, false, false, true, false, false, true, false, false, true, false, false, true, false, false, true, false, false, true, false, false, true, false, false, true, false, false, true, false, false, false, false] rfl rfl (take_ofW HT_.out HW_.out (by kernel_rfl)) (fun _ _ _ h => h) (Or.inl ⟨by rfl, ?_⟩) hHeld ?_ ?_
    rotate_left
    · rintro w' ⟨s0, s1, s2, s3, s4, s5, s6, s7, s8, s9, s10, s11⟩
      go_simp
      with_reducible rfl
    rotate_left
    · simp only [Act.put, List.setIfInBounds_toArray, List.set_cons_zero, List.set_cons_succ, i64_w, i32_w]
      rfl
    refine take_ (i := 4) (N := some 17) (v := ?_) (a' := ?_) #[true, true, false, true, true, false, true, false, false, true, false, false, true, false, false, true, false, false, true, false, false, true, false, false, true, false, false, true, false, false, true, false, false, true, false, false, false, false] rfl rfl (take_ofW HT_.out HW_.out (by kernel_rfl)) (fun _ _ _ h => h) (Or.inl ⟨by rfl, ?_⟩) hHeld ?_ ?_
    rotate_left
    · rintro w' ⟨s0, s1, s2, s3, s4, s5, s6, s7, s8, s9, s10, s11⟩
      go_simp
      with_reducible rfl
    rotate_left
    · simp only [Act.put, List.setIfInBounds_toArray, List.set_cons_zero, List.set_cons_succ, i64_w, i32_w]
      rfl
    refine take_ (i := 7) (N := some 20) (v := ?_) (a' := ?_) #[true, true, false, true, true, false, true, true, false, true, false, false, true, false, false, true, false, false, true, false, false, true, false, false, true, false, false, true, false, false, true, false, false, true, false, false, false, false] rfl rfl (take_ofW HT_.out HW_.out (by kernel_rfl)) (fun _ _ _ h => h) (Or.inl ⟨by rfl, ?_⟩) hHeld ?_ ?_
    rotate_left
    · rintro w' ⟨s0, s1, s2, s3, s4, s5, s6, s7, s8, s9, s10, s11⟩
      go_simp
      with_reducible rfl
    rotate_left
    · simp only [Act.put, List.setIfInBounds_toArray, List.set_cons_zero, List.set_cons_succ, i64_w, i32_w]
      rfl
    refine take_ (i := 10) (N := some 23) (v := ?_) (a' := ?_) #[true, true, false, true, true, false, true, true, false, true, true, false, true, false, false, true, false, false, true, false, false, true, false, false, true, false, false, true, false, false, true, false, false, true, false, false, false, false] rfl rfl (take_ofW HT_.out HW_.out (by kernel_rfl)) (fun _ _ _ h => h) (Or.inl ⟨by rfl, ?_⟩) hHeld ?_ ?_
    rotate_left
    · rintro w' ⟨s0, s1, s2, s3, s4, s5, s6, s7, s8, s9, s10, s11⟩
      go_simp
      with_reducible rfl
    rotate_left
    · simp only [Act.put, List.setIfInBounds_toArray, List.set_cons_zero, List.set_cons_succ, i64_w, i32_w]
      rfl
    refine take_ (i := 13) (N := some 26) (v := ?_) (a' := ?_) #[true, true, false, true, true, false, true, true, false, true, true, false, true, true, false, true, false, false, true, false, false, true, false, false, true, false, false, true, false, false, true, false, false, true, false, false, false, false] rfl rfl (take_ofW HT_.out HW_.out (by kernel_rfl)) (fun _ _ _ h => h) (Or.inl ⟨by rfl, ?_⟩) hHeld ?_ ?_
    rotate_left
    · rintro w' ⟨s0, s1, s2, s3, s4, s5, s6, s7, s8, s9, s10, s11⟩
      go_simp
      with_reducible rfl
    rotate_left
    · simp only [Act.put, List.setIfInBounds_toArray, List.set_cons_zero, List.set_cons_succ, i64_w, i32_w]
      rfl
    refine take_ (i := 16) (N := some 29) (v := ?_) (a' := ?_) #[true, true, false, true, true, false, true, true, false, true, true, false, true, true, false, true, true, false, true, false, false, true, false, false, true, false, false, true, false, false, true, false, false, true, false, false, false, false] rfl rfl (take_ofW HT_.out HW_.out (by kernel_rfl)) (fun _ _ _ h => h) (Or.inl ⟨by rfl, ?_⟩) hHeld ?_ ?_
    rotate_left
    · rintro w' ⟨s0, s1, s2, s3, s4, s5, s6, s7, s8, s9, s10, s11⟩
      go_simp
      with_reducible rfl
    rotate_left
    · simp only [Act.put, List.setIfInBounds_toArray, List.set_cons_zero, List.set_cons_succ, i64_w, i32_w]
      rfl
    refine take_ (i := 19) (N := some 32) (v := ?_) (a' := ?_) #[true, true, false, true, true, false, true, true, false, true, true, false, true, true, false, true, true, false, true, true, false, true, false, false, true, false, false, true, false, false, true, false, false, true, false, false, false, false] rfl rfl (take_ofW HT_.out HW_.out (by kernel_rfl)) (fun _ _ _ h => h) (Or.inl ⟨by rfl, ?_⟩) hHeld ?_ ?_
    rotate_left
    · rintro w' ⟨s0, s1, s2, s3, s4, s5, s6, s7, s8, s9, s10, s11⟩
      go_simp
      with_reducible rfl
    rotate_left
    · simp only [Act.put, List.setIfInBounds_toArray, List.set_cons_zero, List.set_cons_succ, i64_w, i32_w]
      rfl
    refine take_ (i := 22) (N := some 35) (v := ?_) (a' := ?_) #[true, true, false, true, true, false, true, true, false, true, true, false, true, true, false, true, true, false, true, true, false, true, true, false, true, false, false, true, false, false, true, false, false, true, false, false, false, false] rfl rfl (take_ofW HT_.out HW_.out (by kernel_rfl)) (fun _ _ _ h => h) (Or.inl ⟨by rfl, ?_⟩) hHeld ?_ ?_
    rotate_left
    · rintro w' ⟨s0, s1, s2, s3, s4, s5, s6, s7, s8, s9, s10, s11⟩
      go_simp
      with_reducible rfl
    rotate_left
    · simp only [Act.put, List.setIfInBounds_toArray, List.set_cons_zero, List.set_cons_succ, i64_w, i32_w]
      rfl
    refine take_ (i := 25) (N := some 38) (v := ?_) (a' := ?_) #[true, true, false, true, true, false, true, true, false, true, true, false, true, true, false, true, true, false, true, true, false, true, true, false, true, true, false, true, false, false, true, false, false, true, false, false, false, false] rfl rfl (take_ofW HT_.out HW_.out (by kernel_rfl)) (fun _ _ _ h => h) (Or.inl ⟨by rfl, ?_⟩) hHeld ?_ ?_
    rotate_left
    · rintro w' ⟨s0, s1, s2, s3, s4, s5, s6, s7, s8, s9, s10, s11⟩
      go_simp
      with_reducible rfl
    rotate_left
    · simp only [Act.put, List.setIfInBounds_toArray, List.set_cons_zero, List.set_cons_succ, i64_w, i32_w]
      rfl
    refine take_ (i := 28) (N := some 41) (v := ?_) (a' := ?_) #[true, true, false, true, true, false, true, true, false, true, true, false, true, true, false, true, true, false, true, true, false, true, true, false, true, true, false, true, true, false, true, false, false, true, false, false, false, false] rfl rfl (take_ofW HT_.out HW_.out (by kernel_rfl)) (fun _ _ _ h => h) (Or.inl ⟨by rfl, ?_⟩) hHeld ?_ ?_
    rotate_left
    · rintro w' ⟨s0, s1, s2, s3, s4, s5, s6, s7, s8, s9, s10, s11⟩
      go_simp
      with_reducible rfl
    rotate_left
    · simp only [Act.put, List.setIfInBounds_toArray, List.set_cons_zero, List.set_cons_succ, i64_w, i32_w]
      rfl
    refine take_ (i := 31) (N := some 44) (v := ?_) (a' := ?_) #[true, true, false, true, true, false, true, true, false, true, true, false, true, true, false, true, true, false, true, true, false, true, true, false, true, true, false, true, true, false, true, true, false, true, false, false, false, false] rfl rfl (take_ofW HT_.out HW_.out (by kernel_rfl)) (fun _ _ _ h => h) (Or.inl ⟨by rfl, ?_⟩) hHeld ?_ ?_
    rotate_left
    · rintro w' ⟨s0, s1, s2, s3, s4, s5, s6, s7, s8, s9, s10, s11⟩
      go_simp
      with_reducible rfl
    rotate_left
    · simp only [Act.put, List.setIfInBounds_toArray, List.set_cons_zero, List.set_cons_succ, i64_w, i32_w]
      rfl
    refine take_ (i := 34) (N := some 47) (v := ?_) (a' := ?_) #[true, true, false, true, true, false, true, true, false, true, true, false, true, true, false, true, true, false, true, true, false, true, true, false, true, true, false, true, true, false, true, true, false, true, true, false, false, false] rfl rfl (take_ofW HT_.out HW_.out (by kernel_rfl)) (fun _ _ _ h => h) (Or.inl ⟨by rfl, ?_⟩) hHeld ?_ ?_
    rotate_left
    · rintro w' ⟨s0, s1, s2, s3, s4, s5, s6, s7, s8, s9, s10, s11⟩
      go_simp
      with_reducible rfl
    rotate_left
    · simp only [Act.put, List.setIfInBounds_toArray, List.set_cons_zero, List.set_cons_succ, i64_w, i32_w]
      rfl
    refine one_ (i := 2) (N := some 15) #[true, true, true, true, true, false, true, true, false, true, true, false, true, true, false, true, true, false, true, true, false, true, true, false, true, true, false, true, true, false, true, true, false, true, true, false, false, false] rfl rfl (one_of HT_.out (by kernel_rfl)) (by decide) (fun K hK => ?_)
    refine goes_ Try.func21 (by kernel_rfl) rfl #[.agg #[.int .i64 0, .int .i64 0], .agg #[.string (⟨#[97]⟩ : ByteArray), .int .i64 0, .int .i64 2, .int .i64 0, .int .i64 10, .int .i64 5], .int .i64 0, .int .i64 0, .int .i64 0, .int .i64 0, .int .i64 0, .int .i64 0, .int .i64 9] (by rfl) rfl rfl (by (try simp only [List.map_toArray, List.map_cons, List.map_nil]); first | done | rfl | (simp only [List.length_drop, List.length_take]; rfl)) ?_
    with_reducible refine (scale_Decide.calls k 0 0 (⟨#[97]⟩ : ByteArray) 0 2 0 10 5 0 0 0 0 0 0 9 t302 t303 _ A4.out).mono ?_
    rintro e w28 ⟨rfl, hb⟩
    refine ⟨_, rfl, ?_⟩
    replace BK300 := Aside0.mk (blk_below (g := gb300) (pk BK300) hb)
    replace BK301 := Aside0.mk (blk_below (g := gb301) (pk BK301) hb)
    replace HB := Aside0.mk (below_step (by repeat (first | (with_reducible first | exact HB.out | apply below_alloc | apply pw_below_drewN | apply below_drew1 | refine below_set ?_ GE300.out | refine below_set ?_ GE301.out) | exact HB.out)) hb)
    (try clear hb)
    (try clear hb2)
    (try clear hk)
    (try clear hi)
    refine hK.out _ _ ⟨bc BK300 0, bc BK300 1, bc BK300 2, bc BK300 3, bc BK300 4, bc BK300 5, bc BK301 0, bc BK301 1, bc BK301 2, bc BK301 3, bc BK301 4, bc BK301 5⟩ (fun hHeld => ?_)
    clear hK K
    refine norm_ (a' := ?_) ?_ ?_
    rotate_left
    · show Act.put _ (some 15) _ = _
      simp only [Act.put, List.setIfInBounds_toArray, List.set_cons_zero, List.set_cons_succ, i64_w, i32_w]
      rfl
    refine one_ (i := 5) (N := some 18) #[true, true, true, true, true, true, true, true, false, true, true, false, true, true, false, true, true, false, true, true, false, true, true, false, true, true, false, true, true, false, true, true, false, true, true, false, false, false] rfl rfl (one_of HT_.out (by kernel_rfl)) (by decide) (fun K hK => ?_)
    refine goes_ Try.func21 (by kernel_rfl) rfl #[.agg #[.int .i64 1, .int .i64 0], .agg #[.string (⟨#[97]⟩ : ByteArray), .int .i64 0, .int .i64 2, .int .i64 0, .int .i64 10, .int .i64 5], .int .i64 1, .int .i64 0, .int .i64 0, .int .i64 6, .int .i64 0, .int .i64 2, .int .i64 4] (by rfl) rfl rfl (by (try simp only [List.map_toArray, List.map_cons, List.map_nil]); first | done | rfl | (simp only [List.length_drop, List.length_take]; rfl)) ?_
    with_reducible refine (scale_Decide.calls k 1 0 (⟨#[97]⟩ : ByteArray) 0 2 0 10 5 1 0 0 6 0 2 4 t304 t305 _ A5.out).mono ?_
    rintro e w29 ⟨rfl, hb⟩
    refine ⟨_, rfl, ?_⟩
    replace BK300 := Aside0.mk (blk_below (g := gb300) (pk BK300) hb)
    replace BK301 := Aside0.mk (blk_below (g := gb301) (pk BK301) hb)
    replace HB := Aside0.mk (below_step (by repeat (first | (with_reducible first | exact HB.out | apply below_alloc | apply pw_below_drewN | apply below_drew1 | refine below_set ?_ GE300.out | refine below_set ?_ GE301.out) | exact HB.out)) hb)
    (try clear hb)
    (try clear hb2)
    (try clear hk)
    (try clear hi)
    refine hK.out _ _ ⟨bc BK300 0, bc BK300 1, bc BK300 2, bc BK300 3, bc BK300 4, bc BK300 5, bc BK301 0, bc BK301 1, bc BK301 2, bc BK301 3, bc BK301 4, bc BK301 5⟩ (fun hHeld => ?_)
    clear hK K
    refine norm_ (a' := ?_) ?_ ?_
    rotate_left
    · show Act.put _ (some 18) _ = _
      simp only [Act.put, List.setIfInBounds_toArray, List.set_cons_zero, List.set_cons_succ, i64_w, i32_w]
      rfl
    refine one_ (i := 8) (N := some 21) #[true, true, true, true, true, true, true, true, true, true, true, false, true, true, false, true, true, false, true, true, false, true, true, false, true, true, false, true, true, false, true, true, false, true, true, false, false, false] rfl rfl (one_of HT_.out (by kernel_rfl)) (by decide) (fun K hK => ?_)
    refine goes_ Try.func21 (by kernel_rfl) rfl #[.agg #[.int .i64 1, .int .i64 0], .agg #[.string (⟨#[97]⟩ : ByteArray), .int .i64 0, .int .i64 2, .int .i64 0, .int .i64 10, .int .i64 5], .int .i64 1, .int .i64 0, .int .i64 0, .int .i64 6, .int .i64 0, .int .i64 2, .int .i64 5] (by rfl) rfl rfl (by (try simp only [List.map_toArray, List.map_cons, List.map_nil]); first | done | rfl | (simp only [List.length_drop, List.length_take]; rfl)) ?_
    with_reducible refine (scale_Decide.calls k 1 0 (⟨#[97]⟩ : ByteArray) 0 2 0 10 5 1 0 0 6 0 2 5 t306 t307 _ A6.out).mono ?_
    rintro e w30 ⟨rfl, hb⟩
    refine ⟨_, rfl, ?_⟩
    replace BK300 := Aside0.mk (blk_below (g := gb300) (pk BK300) hb)
    replace BK301 := Aside0.mk (blk_below (g := gb301) (pk BK301) hb)
    replace HB := Aside0.mk (below_step (by repeat (first | (with_reducible first | exact HB.out | apply below_alloc | apply pw_below_drewN | apply below_drew1 | refine below_set ?_ GE300.out | refine below_set ?_ GE301.out) | exact HB.out)) hb)
    (try clear hb)
    (try clear hb2)
    (try clear hk)
    (try clear hi)
    refine hK.out _ _ ⟨bc BK300 0, bc BK300 1, bc BK300 2, bc BK300 3, bc BK300 4, bc BK300 5, bc BK301 0, bc BK301 1, bc BK301 2, bc BK301 3, bc BK301 4, bc BK301 5⟩ (fun hHeld => ?_)
    clear hK K
    refine norm_ (a' := ?_) ?_ ?_
    rotate_left
    · show Act.put _ (some 21) _ = _
      simp only [Act.put, List.setIfInBounds_toArray, List.set_cons_zero, List.set_cons_succ, i64_w, i32_w]
      rfl
    refine one_ (i := 11) (N := some 24) #[true, true, true, true, true, true, true, true, true, true, true, true, true, true, false, true, true, false, true, true, false, true, true, false, true, true, false, true, true, false, true, true, false, true, true, false, false, false] rfl rfl (one_of HT_.out (by kernel_rfl)) (by decide) (fun K hK => ?_)
    refine goes_ Try.func21 (by kernel_rfl) rfl #[.agg #[.int .i64 1, .int .i64 0], .agg #[.string (⟨#[97]⟩ : ByteArray), .int .i64 0, .int .i64 2, .int .i64 0, .int .i64 10, .int .i64 5], .int .i64 1, .int .i64 1, .int .i64 0, .int .i64 6, .int .i64 0, .int .i64 2, .int .i64 9] (by rfl) rfl rfl (by (try simp only [List.map_toArray, List.map_cons, List.map_nil]); first | done | rfl | (simp only [List.length_drop, List.length_take]; rfl)) ?_
    with_reducible refine (scale_Decide.calls k 1 0 (⟨#[97]⟩ : ByteArray) 0 2 0 10 5 1 1 0 6 0 2 9 t308 t309 _ A7.out).mono ?_
    rintro e w31 ⟨rfl, hb⟩
    refine ⟨_, rfl, ?_⟩
    replace BK300 := Aside0.mk (blk_below (g := gb300) (pk BK300) hb)
    replace BK301 := Aside0.mk (blk_below (g := gb301) (pk BK301) hb)
    replace HB := Aside0.mk (below_step (by repeat (first | (with_reducible first | exact HB.out | apply below_alloc | apply pw_below_drewN | apply below_drew1 | refine below_set ?_ GE300.out | refine below_set ?_ GE301.out) | exact HB.out)) hb)
    (try clear hb)
    (try clear hb2)
    (try clear hk)
    (try clear hi)
    refine hK.out _ _ ⟨bc BK300 0, bc BK300 1, bc BK300 2, bc BK300 3, bc BK300 4, bc BK300 5, bc BK301 0, bc BK301 1, bc BK301 2, bc BK301 3, bc BK301 4, bc BK301 5⟩ (fun hHeld => ?_)
    clear hK K
    refine norm_ (a' := ?_) ?_ ?_
    rotate_left
    · show Act.put _ (some 24) _ = _
      simp only [Act.put, List.setIfInBounds_toArray, List.set_cons_zero, List.set_cons_succ, i64_w, i32_w]
      rfl
    refine one_ (i := 14) (N := some 27) #[true, true, true, true, true, true, true, true, true, true, true, true, true, true, true, true, true, false, true, true, false, true, true, false, true, true, false, true, true, false, true, true, false, true, true, false, false, false] rfl rfl (one_of HT_.out (by kernel_rfl)) (by decide) (fun K hK => ?_)
    refine goes_ Try.func21 (by kernel_rfl) rfl #[.agg #[.int .i64 2, .int .i64 0], .agg #[.string (⟨#[97]⟩ : ByteArray), .int .i64 0, .int .i64 2, .int .i64 0, .int .i64 10, .int .i64 5], .int .i64 2, .int .i64 3, .int .i64 30, .int .i64 6, .int .i64 8, .int .i64 2, .int .i64 0] (by rfl) rfl rfl (by (try simp only [List.map_toArray, List.map_cons, List.map_nil]); first | done | rfl | (simp only [List.length_drop, List.length_take]; rfl)) ?_
    with_reducible refine (scale_Decide.calls k 2 0 (⟨#[97]⟩ : ByteArray) 0 2 0 10 5 2 3 30 6 8 2 0 t310 t311 _ A8.out).mono ?_
    rintro e w32 ⟨rfl, hb⟩
    refine ⟨_, rfl, ?_⟩
    replace BK300 := Aside0.mk (blk_below (g := gb300) (pk BK300) hb)
    replace BK301 := Aside0.mk (blk_below (g := gb301) (pk BK301) hb)
    replace HB := Aside0.mk (below_step (by repeat (first | (with_reducible first | exact HB.out | apply below_alloc | apply pw_below_drewN | apply below_drew1 | refine below_set ?_ GE300.out | refine below_set ?_ GE301.out) | exact HB.out)) hb)
    (try clear hb)
    (try clear hb2)
    (try clear hk)
    (try clear hi)
    refine hK.out _ _ ⟨bc BK300 0, bc BK300 1, bc BK300 2, bc BK300 3, bc BK300 4, bc BK300 5, bc BK301 0, bc BK301 1, bc BK301 2, bc BK301 3, bc BK301 4, bc BK301 5⟩ (fun hHeld => ?_)
    clear hK K
    refine norm_ (a' := ?_) ?_ ?_
    rotate_left
    · show Act.put _ (some 27) _ = _
      simp only [Act.put, List.setIfInBounds_toArray, List.set_cons_zero, List.set_cons_succ, i64_w, i32_w]
      rfl
    refine one_ (i := 17) (N := some 30) #[true, true, true, true, true, true, true, true, true, true, true, true, true, true, true, true, true, true, true, true, false, true, true, false, true, true, false, true, true, false, true, true, false, true, true, false, false, false] rfl rfl (one_of HT_.out (by kernel_rfl)) (by decide) (fun K hK => ?_)
    refine goes_ Try.func21 (by kernel_rfl) rfl #[.agg #[.int .i64 2, .int .i64 0], .agg #[.string (⟨#[97]⟩ : ByteArray), .int .i64 0, .int .i64 2, .int .i64 0, .int .i64 10, .int .i64 5], .int .i64 2, .int .i64 9, .int .i64 30, .int .i64 6, .int .i64 16, .int .i64 2, .int .i64 0] (by rfl) rfl rfl (by (try simp only [List.map_toArray, List.map_cons, List.map_nil]); first | done | rfl | (simp only [List.length_drop, List.length_take]; rfl)) ?_
    with_reducible refine (scale_Decide.calls k 2 0 (⟨#[97]⟩ : ByteArray) 0 2 0 10 5 2 9 30 6 16 2 0 t312 t313 _ A9.out).mono ?_
    rintro e w33 ⟨rfl, hb⟩
    refine ⟨_, rfl, ?_⟩
    replace BK300 := Aside0.mk (blk_below (g := gb300) (pk BK300) hb)
    replace BK301 := Aside0.mk (blk_below (g := gb301) (pk BK301) hb)
    replace HB := Aside0.mk (below_step (by repeat (first | (with_reducible first | exact HB.out | apply below_alloc | apply pw_below_drewN | apply below_drew1 | refine below_set ?_ GE300.out | refine below_set ?_ GE301.out) | exact HB.out)) hb)
    (try clear hb)
    (try clear hb2)
    (try clear hk)
    (try clear hi)
    refine hK.out _ _ ⟨bc BK300 0, bc BK300 1, bc BK300 2, bc BK300 3, bc BK300 4, bc BK300 5, bc BK301 0, bc BK301 1, bc BK301 2, bc BK301 3, bc BK301 4, bc BK301 5⟩ (fun hHeld => ?_)
    clear hK K
    refine norm_ (a' := ?_) ?_ ?_
    rotate_left
    · show Act.put _ (some 30) _ = _
      simp only [Act.put, List.setIfInBounds_toArray, List.set_cons_zero, List.set_cons_succ, i64_w, i32_w]
      rfl
    refine one_ (i := 20) (N := some 33) #[true, true, true, true, true, true, true, true, true, true, true, true, true, true, true, true, true, true, true, true, true, true, true, false, true, true, false, true, true, false, true, true, false, true, true, false, false, false] rfl rfl (one_of HT_.out (by kernel_rfl)) (by decide) (fun K hK => ?_)
    refine goes_ Try.func21 (by kernel_rfl) rfl #[.agg #[.int .i64 9, .int .i64 3], .agg #[.string (⟨#[97]⟩ : ByteArray), .int .i64 0, .int .i64 2, .int .i64 0, .int .i64 10, .int .i64 5], .int .i64 2, .int .i64 9, .int .i64 6, .int .i64 6, .int .i64 2, .int .i64 2, .int .i64 0] (by rfl) rfl rfl (by (try simp only [List.map_toArray, List.map_cons, List.map_nil]); first | done | rfl | (simp only [List.length_drop, List.length_take]; rfl)) ?_
    with_reducible refine (scale_Decide.calls k 9 3 (⟨#[97]⟩ : ByteArray) 0 2 0 10 5 2 9 6 6 2 2 0 t314 t315 _ A10.out).mono ?_
    rintro e w34 ⟨rfl, hb⟩
    refine ⟨_, rfl, ?_⟩
    replace BK300 := Aside0.mk (blk_below (g := gb300) (pk BK300) hb)
    replace BK301 := Aside0.mk (blk_below (g := gb301) (pk BK301) hb)
    replace HB := Aside0.mk (below_step (by repeat (first | (with_reducible first | exact HB.out | apply below_alloc | apply pw_below_drewN | apply below_drew1 | refine below_set ?_ GE300.out | refine below_set ?_ GE301.out) | exact HB.out)) hb)
    (try clear hb)
    (try clear hb2)
    (try clear hk)
    (try clear hi)
    refine hK.out _ _ ⟨bc BK300 0, bc BK300 1, bc BK300 2, bc BK300 3, bc BK300 4, bc BK300 5, bc BK301 0, bc BK301 1, bc BK301 2, bc BK301 3, bc BK301 4, bc BK301 5⟩ (fun hHeld => ?_)
    clear hK K
    refine norm_ (a' := ?_) ?_ ?_
    rotate_left
    · show Act.put _ (some 33) _ = _
      simp only [Act.put, List.setIfInBounds_toArray, List.set_cons_zero, List.set_cons_succ, i64_w, i32_w]
      rfl
    refine one_ (i := 23) (N := some 36) #[true, true, true, true, true, true, true, true, true, true, true, true, true, true, true, true, true, true, true, true, true, true, true, true, true, true, false, true, true, false, true, true, false, true, true, false, false, false] rfl rfl (one_of HT_.out (by kernel_rfl)) (by decide) (fun K hK => ?_)
    refine goes_ Try.func21 (by kernel_rfl) rfl #[.agg #[.int .i64 9, .int .i64 1], .agg #[.string (⟨#[97]⟩ : ByteArray), .int .i64 0, .int .i64 2, .int .i64 0, .int .i64 10, .int .i64 5], .int .i64 8, .int .i64 9, .int .i64 6, .int .i64 6, .int .i64 2, .int .i64 2, .int .i64 0] (by rfl) rfl rfl (by (try simp only [List.map_toArray, List.map_cons, List.map_nil]); first | done | rfl | (simp only [List.length_drop, List.length_take]; rfl)) ?_
    with_reducible refine (scale_Decide.calls k 9 1 (⟨#[97]⟩ : ByteArray) 0 2 0 10 5 8 9 6 6 2 2 0 t316 t317 _ A11.out).mono ?_
    rintro e w35 ⟨rfl, hb⟩
    refine ⟨_, rfl, ?_⟩
    replace BK300 := Aside0.mk (blk_below (g := gb300) (pk BK300) hb)
    replace BK301 := Aside0.mk (blk_below (g := gb301) (pk BK301) hb)
    replace HB := Aside0.mk (below_step (by repeat (first | (with_reducible first | exact HB.out | apply below_alloc | apply pw_below_drewN | apply below_drew1 | refine below_set ?_ GE300.out | refine below_set ?_ GE301.out) | exact HB.out)) hb)
    (try clear hb)
    (try clear hb2)
    (try clear hk)
    (try clear hi)
    refine hK.out _ _ ⟨bc BK300 0, bc BK300 1, bc BK300 2, bc BK300 3, bc BK300 4, bc BK300 5, bc BK301 0, bc BK301 1, bc BK301 2, bc BK301 3, bc BK301 4, bc BK301 5⟩ (fun hHeld => ?_)
    clear hK K
    refine norm_ (a' := ?_) ?_ ?_
    rotate_left
    · show Act.put _ (some 36) _ = _
      simp only [Act.put, List.setIfInBounds_toArray, List.set_cons_zero, List.set_cons_succ, i64_w, i32_w]
      rfl
    refine one_ (i := 26) (N := some 39) #[true, true, true, true, true, true, true, true, true, true, true, true, true, true, true, true, true, true, true, true, true, true, true, true, true, true, true, true, true, false, true, true, false, true, true, false, false, false] rfl rfl (one_of HT_.out (by kernel_rfl)) (by decide) (fun K hK => ?_)
    refine goes_ Try.func21 (by kernel_rfl) rfl #[.agg #[.int .i64 4, .int .i64 0], .agg #[.string (⟨#[97]⟩ : ByteArray), .int .i64 0, .int .i64 2, .int .i64 3, .int .i64 10, .int .i64 5], .int .i64 2, .int .i64 0, .int .i64 0, .int .i64 6, .int .i64 0, .int .i64 2, .int .i64 99] (by rfl) rfl rfl (by (try simp only [List.map_toArray, List.map_cons, List.map_nil]); first | done | rfl | (simp only [List.length_drop, List.length_take]; rfl)) ?_
    with_reducible refine (scale_Decide.calls k 4 0 (⟨#[97]⟩ : ByteArray) 0 2 3 10 5 2 0 0 6 0 2 99 t318 t319 _ A12.out).mono ?_
    rintro e w36 ⟨rfl, hb⟩
    refine ⟨_, rfl, ?_⟩
    replace BK300 := Aside0.mk (blk_below (g := gb300) (pk BK300) hb)
    replace BK301 := Aside0.mk (blk_below (g := gb301) (pk BK301) hb)
    replace HB := Aside0.mk (below_step (by repeat (first | (with_reducible first | exact HB.out | apply below_alloc | apply pw_below_drewN | apply below_drew1 | refine below_set ?_ GE300.out | refine below_set ?_ GE301.out) | exact HB.out)) hb)
    (try clear hb)
    (try clear hb2)
    (try clear hk)
    (try clear hi)
    refine hK.out _ _ ⟨bc BK300 0, bc BK300 1, bc BK300 2, bc BK300 3, bc BK300 4, bc BK300 5, bc BK301 0, bc BK301 1, bc BK301 2, bc BK301 3, bc BK301 4, bc BK301 5⟩ (fun hHeld => ?_)
    clear hK K
    refine norm_ (a' := ?_) ?_ ?_
    rotate_left
    · show Act.put _ (some 39) _ = _
      simp only [Act.put, List.setIfInBounds_toArray, List.set_cons_zero, List.set_cons_succ, i64_w, i32_w]
      rfl
    refine one_ (i := 29) (N := some 42) #[true, true, true, true, true, true, true, true, true, true, true, true, true, true, true, true, true, true, true, true, true, true, true, true, true, true, true, true, true, true, true, true, false, true, true, false, false, false] rfl rfl (one_of HT_.out (by kernel_rfl)) (by decide) (fun K hK => ?_)
    refine goes_ Try.func21 (by kernel_rfl) rfl #[.agg #[.int .i64 1, .int .i64 0], .agg #[.string (⟨#[97]⟩ : ByteArray), .int .i64 0, .int .i64 2, .int .i64 0, .int .i64 10, .int .i64 5], .int .i64 0, .int .i64 5, .int .i64 600, .int .i64 6, .int .i64 0, .int .i64 0, .int .i64 0] (by rfl) rfl rfl (by (try simp only [List.map_toArray, List.map_cons, List.map_nil]); first | done | rfl | (simp only [List.length_drop, List.length_take]; rfl)) ?_
    with_reducible refine (scale_Decide.calls k 1 0 (⟨#[97]⟩ : ByteArray) 0 2 0 10 5 0 5 600 6 0 0 0 t320 t321 _ A13.out).mono ?_
    rintro e w37 ⟨rfl, hb⟩
    refine ⟨_, rfl, ?_⟩
    replace BK300 := Aside0.mk (blk_below (g := gb300) (pk BK300) hb)
    replace BK301 := Aside0.mk (blk_below (g := gb301) (pk BK301) hb)
    replace HB := Aside0.mk (below_step (by repeat (first | (with_reducible first | exact HB.out | apply below_alloc | apply pw_below_drewN | apply below_drew1 | refine below_set ?_ GE300.out | refine below_set ?_ GE301.out) | exact HB.out)) hb)
    (try clear hb)
    (try clear hb2)
    (try clear hk)
    (try clear hi)
    refine hK.out _ _ ⟨bc BK300 0, bc BK300 1, bc BK300 2, bc BK300 3, bc BK300 4, bc BK300 5, bc BK301 0, bc BK301 1, bc BK301 2, bc BK301 3, bc BK301 4, bc BK301 5⟩ (fun hHeld => ?_)
    clear hK K
    refine norm_ (a' := ?_) ?_ ?_
    rotate_left
    · show Act.put _ (some 42) _ = _
      simp only [Act.put, List.setIfInBounds_toArray, List.set_cons_zero, List.set_cons_succ, i64_w, i32_w]
      rfl
    refine one_ (i := 32) (N := some 45) #[true, true, true, true, true, true, true, true, true, true, true, true, true, true, true, true, true, true, true, true, true, true, true, true, true, true, true, true, true, true, true, true, true, true, true, false, false, false] rfl rfl (one_of HT_.out (by kernel_rfl)) (by decide) (fun K hK => ?_)
    refine goes_ Try.func21 (by kernel_rfl) rfl #[.agg #[.int .i64 10, .int .i64 0], .agg #[.string (⟨#[97]⟩ : ByteArray), .int .i64 0, .int .i64 2, .int .i64 0, .int .i64 10, .int .i64 5], .int .i64 9, .int .i64 0, .int .i64 0, .int .i64 6, .int .i64 0, .int .i64 2, .int .i64 99] (by rfl) rfl rfl (by (try simp only [List.map_toArray, List.map_cons, List.map_nil]); first | done | rfl | (simp only [List.length_drop, List.length_take]; rfl)) ?_
    with_reducible refine (scale_Decide.calls k 10 0 (⟨#[97]⟩ : ByteArray) 0 2 0 10 5 9 0 0 6 0 2 99 t322 t323 _ A14.out).mono ?_
    rintro e w38 ⟨rfl, hb⟩
    refine ⟨_, rfl, ?_⟩
    replace BK300 := Aside0.mk (blk_below (g := gb300) (pk BK300) hb)
    replace BK301 := Aside0.mk (blk_below (g := gb301) (pk BK301) hb)
    replace HB := Aside0.mk (below_step (by repeat (first | (with_reducible first | exact HB.out | apply below_alloc | apply pw_below_drewN | apply below_drew1 | refine below_set ?_ GE300.out | refine below_set ?_ GE301.out) | exact HB.out)) hb)
    (try clear hb)
    (try clear hb2)
    (try clear hk)
    (try clear hi)
    refine hK.out _ _ ⟨bc BK300 0, bc BK300 1, bc BK300 2, bc BK300 3, bc BK300 4, bc BK300 5, bc BK301 0, bc BK301 1, bc BK301 2, bc BK301 3, bc BK301 4, bc BK301 5⟩ (fun hHeld => ?_)
    clear hK K
    refine norm_ (a' := ?_) ?_ ?_
    rotate_left
    · show Act.put _ (some 45) _ = _
      simp only [Act.put, List.setIfInBounds_toArray, List.set_cons_zero, List.set_cons_succ, i64_w, i32_w]
      rfl
    refine one_ (i := 35) (N := some 48) #[true, true, true, true, true, true, true, true, true, true, true, true, true, true, true, true, true, true, true, true, true, true, true, true, true, true, true, true, true, true, true, true, true, true, true, true, false, false] rfl rfl (one_of HT_.out (by kernel_rfl)) (by decide) (fun K hK => ?_)
    refine goes_ Try.func21 (by kernel_rfl) rfl #[.agg #[.int .i64 5, .int .i64 0], .agg #[.string (⟨#[97]⟩ : ByteArray), .int .i64 0, .int .i64 2, .int .i64 0, .int .i64 10, .int .i64 5], .int .i64 30, .int .i64 0, .int .i64 0, .int .i64 6, .int .i64 0, .int .i64 2, .int .i64 99] (by rfl) rfl rfl (by (try simp only [List.map_toArray, List.map_cons, List.map_nil]); first | done | rfl | (simp only [List.length_drop, List.length_take]; rfl)) ?_
    with_reducible refine (scale_Decide.calls k 5 0 (⟨#[97]⟩ : ByteArray) 0 2 0 10 5 30 0 0 6 0 2 99 t324 t325 _ A15.out).mono ?_
    rintro e w39 ⟨rfl, hb⟩
    refine ⟨_, rfl, ?_⟩
    replace BK300 := Aside0.mk (blk_below (g := gb300) (pk BK300) hb)
    replace BK301 := Aside0.mk (blk_below (g := gb301) (pk BK301) hb)
    replace HB := Aside0.mk (below_step (by repeat (first | (with_reducible first | exact HB.out | apply below_alloc | apply pw_below_drewN | apply below_drew1 | refine below_set ?_ GE300.out | refine below_set ?_ GE301.out) | exact HB.out)) hb)
    (try clear hb)
    (try clear hb2)
    (try clear hk)
    (try clear hi)
    refine hK.out _ _ ⟨bc BK300 0, bc BK300 1, bc BK300 2, bc BK300 3, bc BK300 4, bc BK300 5, bc BK301 0, bc BK301 1, bc BK301 2, bc BK301 3, bc BK301 4, bc BK301 5⟩ (fun hHeld => ?_)
    clear hK K
    refine norm_ (a' := ?_) ?_ ?_
    rotate_left
    · show Act.put _ (some 48) _ = _
      simp only [Act.put, List.setIfInBounds_toArray, List.set_cons_zero, List.set_cons_succ, i64_w, i32_w]
      rfl
    refine one_ (i := 36) (N := some 49) #[true, true, true, true, true, true, true, true, true, true, true, true, true, true, true, true, true, true, true, true, true, true, true, true, true, true, true, true, true, true, true, true, true, true, true, true, true, false] rfl rfl (one_of HT_.out (by kernel_rfl)) (by decide) (fun K hK => ?_)
    refine Kd.R_lit_step k30 _ 30 ?hg (N := 49) ?hd (xs := ([(⟨t302, t303⟩ : S30), (⟨t304, t305⟩ : S30), (⟨t306, t307⟩ : S30), (⟨t308, t309⟩ : S30), (⟨t310, t311⟩ : S30), (⟨t312, t313⟩ : S30), (⟨t314, t315⟩ : S30), (⟨t316, t317⟩ : S30), (⟨t318, t319⟩ : S30), (⟨t320, t321⟩ : S30), (⟨t322, t323⟩ : S30), (⟨t324, t325⟩ : S30)] : List (S30))) (inner := [.int .i64 t302, .int .i64 t303, .int .i64 t304, .int .i64 t305, .int .i64 t306, .int .i64 t307, .int .i64 t308, .int .i64 t309, .int .i64 t310, .int .i64 t311, .int .i64 t312, .int .i64 t313, .int .i64 t314, .int .i64 t315, .int .i64 t316, .int .i64 t317, .int .i64 t318, .int .i64 t319, .int .i64 t320, .int .i64 t321, .int .i64 t322, .int .i64 t323, .int .i64 t324, .int .i64 t325]) (ok := fun _ => True) (okp := fun _ => True) ?hr ?hp (fun _ hk => hk) trivial (Below.refl _ _) (Nat.le_refl _) (by simp) ?_; (case hd => rfl); (case hg => rfl); (case hr => first | (go_simp; done) | (go_simp; rfl)); (case hp => exact (Reps.c2 (show Kd.M k30 _ _ _ (⟨t302, t303⟩ : S30) [.int .i64 t302, .int .i64 t303] from (k30_mkM _ _ _ (⟨t302, t303⟩ : S30) )) (Reps.c2 (show Kd.M k30 _ _ _ (⟨t304, t305⟩ : S30) [.int .i64 t304, .int .i64 t305] from (k30_mkM _ _ _ (⟨t304, t305⟩ : S30) )) (Reps.c2 (show Kd.M k30 _ _ _ (⟨t306, t307⟩ : S30) [.int .i64 t306, .int .i64 t307] from (k30_mkM _ _ _ (⟨t306, t307⟩ : S30) )) (Reps.c2 (show Kd.M k30 _ _ _ (⟨t308, t309⟩ : S30) [.int .i64 t308, .int .i64 t309] from (k30_mkM _ _ _ (⟨t308, t309⟩ : S30) )) (Reps.c2 (show Kd.M k30 _ _ _ (⟨t310, t311⟩ : S30) [.int .i64 t310, .int .i64 t311] from (k30_mkM _ _ _ (⟨t310, t311⟩ : S30) )) (Reps.c2 (show Kd.M k30 _ _ _ (⟨t312, t313⟩ : S30) [.int .i64 t312, .int .i64 t313] from (k30_mkM _ _ _ (⟨t312, t313⟩ : S30) )) (Reps.c2 (show Kd.M k30 _ _ _ (⟨t314, t315⟩ : S30) [.int .i64 t314, .int .i64 t315] from (k30_mkM _ _ _ (⟨t314, t315⟩ : S30) )) (Reps.c2 (show Kd.M k30 _ _ _ (⟨t316, t317⟩ : S30) [.int .i64 t316, .int .i64 t317] from (k30_mkM _ _ _ (⟨t316, t317⟩ : S30) )) (Reps.c2 (show Kd.M k30 _ _ _ (⟨t318, t319⟩ : S30) [.int .i64 t318, .int .i64 t319] from (k30_mkM _ _ _ (⟨t318, t319⟩ : S30) )) (Reps.c2 (show Kd.M k30 _ _ _ (⟨t320, t321⟩ : S30) [.int .i64 t320, .int .i64 t321] from (k30_mkM _ _ _ (⟨t320, t321⟩ : S30) )) (Reps.c2 (show Kd.M k30 _ _ _ (⟨t322, t323⟩ : S30) [.int .i64 t322, .int .i64 t323] from (k30_mkM _ _ _ (⟨t322, t323⟩ : S30) )) (Reps.c2 (show Kd.M k30 _ _ _ (⟨t324, t325⟩ : S30) [.int .i64 t324, .int .i64 t325] from (k30_mkM _ _ _ (⟨t324, t325⟩ : S30) )) (Reps.none _ _))))))))))))))
    intro v327 w40 ho41 hb hg_ hnew_
    clear hg_ hnew_
    (first | rw [← Ny326.out] at ho41 | (simp only [Int.reduceToNat] at ho41; rw [← Ny326.out] at ho41))
    have HO328 := Aside0.mk (Kd.R_lower ho41 (below_size (by repeat (first | (with_reducible first | exact HB.out | apply below_alloc | apply pw_below_drewN | apply below_drew1 | refine below_set ?_ GE300.out | refine below_set ?_ GE301.out) | exact HB.out))))
    replace BK300 := Aside0.mk (blk_below (g := gb300) (pk BK300) hb)
    replace BK301 := Aside0.mk (blk_below (g := gb301) (pk BK301) hb)
    replace HB := Aside0.mk (below_step (by repeat (first | (with_reducible first | exact HB.out | apply below_alloc | apply pw_below_drewN | apply below_drew1 | refine below_set ?_ GE300.out | refine below_set ?_ GE301.out) | exact HB.out)) hb)
    clear hb ho41
    refine hK.out _ _ ⟨bc BK300 0, bc BK300 1, bc BK300 2, bc BK300 3, bc BK300 4, bc BK300 5, bc BK301 0, bc BK301 1, bc BK301 2, bc BK301 3, bc BK301 4, bc BK301 5⟩ (fun hHeld => ?_)
    clear hK K
    refine norm_ (a' := ?_) ?_ ?_
    rotate_left
    · show Act.put _ (some 49) _ = _
      simp only [Act.put, List.setIfInBounds_toArray, List.set_cons_zero, List.set_cons_succ, i64_w, i32_w]
      rfl
    refine pure_ (i := 37) (N := some 5) (v := ?_) (a' := ?_) #[true, true, true, true, true, true, true, true, true, true, true, true, true, true, true, true, true, true, true, true, true, true, true, true, true, true, true, true, true, true, true, true, true, true, true, true, true, true] rfl rfl (any_of HT_.out (by kernel_rfl)) (fun _ _ _ h => h) (Or.inl ⟨by rfl, ?_⟩) ?_ ?_
    rotate_left
    · intro w'
      go_simp
      with_reducible rfl
    rotate_left
    · simp only [Act.put, List.setIfInBounds_toArray, List.set_cons_zero, List.set_cons_succ, i64_w, i32_w]
      rfl
    refine done_ (done_of HT_.out (by kernel_rfl)) ?_
    try go_wp2_with (first | ((with_reducible refine gate_dst (N := 62) rfl ?_); refine Kd.R_lit k30 _ 30 ?hg (N := 62) ?hd (xs := ([(⟨0, 0⟩ : S30), (⟨1, 0⟩ : S30), (⟨0, 0⟩ : S30), (⟨1, 0⟩ : S30), (⟨3, 0⟩ : S30), (⟨4, 6⟩ : S30), (⟨8, 2⟩ : S30), (⟨4, 0⟩ : S30), (⟨3, 0⟩ : S30), (⟨4, 0⟩ : S30), (⟨4, 0⟩ : S30), (⟨10, 0⟩ : S30)] : List (S30))) (inner := [.int .i64 0, .int .i64 0, .int .i64 1, .int .i64 0, .int .i64 0, .int .i64 0, .int .i64 1, .int .i64 0, .int .i64 3, .int .i64 0, .int .i64 4, .int .i64 6, .int .i64 8, .int .i64 2, .int .i64 4, .int .i64 0, .int .i64 3, .int .i64 0, .int .i64 4, .int .i64 0, .int .i64 4, .int .i64 0, .int .i64 10, .int .i64 0]) (ok := fun _ => True) (okp := fun _ => True) ?hr ?hp (fun _ hk => hk) trivial (Below.refl _ _) (Nat.le_refl _) (by simp) ?_; (case hd => rfl); (case hg => rfl); (case hr => first | (go_simp; done) | (go_simp; rfl)); (case hp => exact (Reps.c2 (show Kd.M k30 _ _ _ (⟨0, 0⟩ : S30) [.int .i64 0, .int .i64 0] from (k30_mkM _ _ _ (⟨0, 0⟩ : S30) )) (Reps.c2 (show Kd.M k30 _ _ _ (⟨1, 0⟩ : S30) [.int .i64 1, .int .i64 0] from (k30_mkM _ _ _ (⟨1, 0⟩ : S30) )) (Reps.c2 (show Kd.M k30 _ _ _ (⟨0, 0⟩ : S30) [.int .i64 0, .int .i64 0] from (k30_mkM _ _ _ (⟨0, 0⟩ : S30) )) (Reps.c2 (show Kd.M k30 _ _ _ (⟨1, 0⟩ : S30) [.int .i64 1, .int .i64 0] from (k30_mkM _ _ _ (⟨1, 0⟩ : S30) )) (Reps.c2 (show Kd.M k30 _ _ _ (⟨3, 0⟩ : S30) [.int .i64 3, .int .i64 0] from (k30_mkM _ _ _ (⟨3, 0⟩ : S30) )) (Reps.c2 (show Kd.M k30 _ _ _ (⟨4, 6⟩ : S30) [.int .i64 4, .int .i64 6] from (k30_mkM _ _ _ (⟨4, 6⟩ : S30) )) (Reps.c2 (show Kd.M k30 _ _ _ (⟨8, 2⟩ : S30) [.int .i64 8, .int .i64 2] from (k30_mkM _ _ _ (⟨8, 2⟩ : S30) )) (Reps.c2 (show Kd.M k30 _ _ _ (⟨4, 0⟩ : S30) [.int .i64 4, .int .i64 0] from (k30_mkM _ _ _ (⟨4, 0⟩ : S30) )) (Reps.c2 (show Kd.M k30 _ _ _ (⟨3, 0⟩ : S30) [.int .i64 3, .int .i64 0] from (k30_mkM _ _ _ (⟨3, 0⟩ : S30) )) (Reps.c2 (show Kd.M k30 _ _ _ (⟨4, 0⟩ : S30) [.int .i64 4, .int .i64 0] from (k30_mkM _ _ _ (⟨4, 0⟩ : S30) )) (Reps.c2 (show Kd.M k30 _ _ _ (⟨4, 0⟩ : S30) [.int .i64 4, .int .i64 0] from (k30_mkM _ _ _ (⟨4, 0⟩ : S30) )) (Reps.c2 (show Kd.M k30 _ _ _ (⟨10, 0⟩ : S30) [.int .i64 10, .int .i64 0] from (k30_mkM _ _ _ (⟨10, 0⟩ : S30) )) (Reps.none _ _)))))))))))))); intro v330 w42 ho43 hb hg_ hnew_; clear hg_ hnew_; (first | rw [← Ny329.out] at ho43 | (simp only [Int.reduceToNat] at ho43; rw [← Ny329.out] at ho43)); have n0_ := Aside0.mk (Kd.R_elder' (by (with_reducible repeat (first | apply Kd.R_alloc | apply Kd.R_drewN | apply Kd.R_drew)); exact HO328.out) (Kd.R_base ho43) hb); have n1_ := Aside0.mk (Kd.R_lower (Kd.R_new' ho43 (Kd.R_lt (by (with_reducible repeat (first | apply Kd.R_alloc | apply Kd.R_drewN | apply Kd.R_drew)); exact HO328.out))) (below_size (by repeat (first | (with_reducible first | exact HB.out | apply below_alloc | apply pw_below_drewN | apply below_drew1 | refine below_set ?_ GE300.out | refine below_set ?_ GE301.out) | exact HB.out)))); have n2_ := Aside0.mk (blk_below (g := gb300) (pk BK300) hb); have n3_ := Aside0.mk (blk_below (g := gb301) (pk BK301) hb); have n4_ := Aside0.mk (below_step (by repeat (first | (with_reducible first | exact HB.out | apply below_alloc | apply pw_below_drewN | apply below_drew1 | refine below_set ?_ GE300.out | refine below_set ?_ GE301.out) | exact HB.out)) hb); clear HO328; clear BK300; clear BK301; clear HB; have HO328 := n0_; have HO331 := n1_; have BK300 := n2_; have BK301 := n3_; have HB := n4_; clear n0_ n1_ n2_ n3_ n4_; clear hb ho43; obtain ⟨Ao44, co44, eo44⟩ := Kd.R_slice HO328.out; subst eo44) | ((with_reducible refine gate_callee (f := 18) rfl ?_); refine goesL_ (some 66) rfl rfl Try.func18 (by kernel_rfl) rfl #[.int .i64 a0, .int .i64 (y326.length : Int)] rfl (by (try simp only [List.map_toArray, List.map_cons, List.map_nil]); first | done | rfl | (simp only [List.length_drop, List.length_take]; rfl)) ?_; (with_reducible refine (damperlaw10_within.calls a0 (y326.length : Int) t332 _ A16.out).mono ?_); rintro e w' ⟨rfl, ⟨nd, rfl⟩⟩; refine ⟨_, rfl, ?_⟩))
    (try simp only [World.drewN_drewN]); (try (rw [drewN_self w42]; generalize hq_ : World.drewN w42 _ = w42; have n0_ : Aside0 (Kd.R k30 30 w42 w.heap.size (fun k_ => some k_ ≠ (v330 : Value).ownBlock) (.slice Ao44 y326.length co44) y326) := ⟨by rw [← hq_]; exact (by (with_reducible repeat (first | apply Kd.R_alloc | apply Kd.R_drewN | apply Kd.R_drew)); exact Kd.R_mono HO328.out (fun _ hk => hk.2))⟩; have n1_ : Aside0 (Kd.R k30 30 w42 w.heap.size (fun k_ => some k_ ≠ (.slice Ao44 y326.length co44 : Value).ownBlock) v330 y329) := ⟨by rw [← hq_]; exact (by (with_reducible repeat (first | apply Kd.R_alloc | apply Kd.R_drewN | apply Kd.R_drew)); exact Kd.R_mono HO331.out (fun _ hk => hk.2))⟩; have n2_ : Aside0 (w42.heap[gb300]? = some (.cells #[.string (⟨#[97]⟩ : ByteArray), .int .i64 0, .int .i64 2, .int .i64 0, .int .i64 10, .int .i64 5] 25 (0, 0))) := ⟨by rw [← hq_]; exact (pk BK300)⟩; have n3_ : Aside0 (w42.heap[gb301]? = some (.cells #[.string (⟨#[97]⟩ : ByteArray), .int .i64 0, .int .i64 2, .int .i64 3, .int .i64 10, .int .i64 5] 25 (0, 0))) := ⟨by rw [← hq_]; exact (pk BK301)⟩; have n4_ : Aside0 (Below w.heap.size w w42) := ⟨by rw [← hq_]; exact (by repeat (first | (with_reducible first | exact HB.out | apply below_alloc | apply pw_below_drewN | apply below_drew1 | refine below_set ?_ GE300.out | refine below_set ?_ GE301.out) | exact HB.out))⟩; clear HO328 HO331 BK300 BK301 HB hq_; have HO328 := n0_; have HO331 := n1_; have BK300 := n2_; have BK301 := n3_; have HB := n4_; clear n0_ n1_ n2_ n3_ n4_))
    replace HO328 := Aside0.mk (Kd.R_drew HO328.out)
    replace HO331 := Aside0.mk (Kd.R_drew HO331.out)
    replace BK300 := Aside0.mk (blk_drew BK300.out)
    replace BK301 := Aside0.mk (blk_drew BK301.out)
    replace HB := Aside0.mk (below_drew1 HB.out)
    have p333 : 0 ≤ (t332 : Int) := of_decide_eq_true (by first | (with_reducible assumption) | assumption)
    have q333 : t332 < (y326.length : Int) := of_decide_eq_true (by first | (with_reducible assumption) | assumption)
    obtain ⟨ad333, e333, hx333_0, hx333_1⟩ := at_T30 (Kd.R_reads' HO328.out).2.2 t332 p333 q333
    cases e333
    replace p333 := eq_true p333
    replace q333 := eq_true q333
    obtain ⟨Ao46, co46, eo46⟩ := Kd.R_slice HO331.out
    (first | subst eo46 | (injection eo46 with f1_ f2_ f3_; have f4_ := f1_.symm; have f5_ := f3_.symm; clear f1_ f2_ f3_; subst f4_; subst f5_))
    have p334 : 0 ≤ (t332 : Int) := of_decide_eq_true (by first | (with_reducible assumption) | assumption)
    have q334 : t332 < (y329.length : Int) := of_decide_eq_true (by first | (with_reducible assumption) | assumption)
    obtain ⟨ad334, e334, hx334_0, hx334_1⟩ := at_T30 (Kd.R_reads' HO331.out).2.2 t332 p334 q334
    cases e334
    replace p334 := eq_true p334
    replace q334 := eq_true q334
    refine start_ (n := 10) (S := fun w' => w'.cell? (ad333.add ((t332).toNat * 2)) = some (.int .i64 ((rd_T30 y326 t332).f0)) ∧ w'.cell? ⟨(ad333.add ((t332).toNat * 2)).block, (ad333.add ((t332).toNat * 2)).off + 1, none⟩ = some (.int .i64 ((rd_T30 y326 t332).f1)) ∧ w'.cell? (ad334.add ((t332).toNat * 2)) = some (.int .i64 ((rd_T30 y329 t332).f0)) ∧ w'.cell? ⟨(ad334.add ((t332).toNat * 2)).block, (ad334.add ((t332).toNat * 2)).off + 1, none⟩ = some (.int .i64 ((rd_T30 y329 t332).f1))) (ds := []) #[false, false, false, false, false, false, false, false, false, false] (by kernel_rfl) rfl rfl ⟨hx333_0, hx333_1, hx334_0, hx334_1⟩ (fun hHeld => ?_); refine with_tabW damperlaw10_ScaleKnown.tab9 damperlaw10_ScaleKnown.bits9 (fun HT_ HW_ => ?_)
    generalize w42.drew = w45 at HO328 HO331 BK300 BK301 HB hx333_0 hx333_1 hx334_0 hx334_1 hHeld ⊢
    refine pure_ (i := 0) (N := some 67) (v := ?_) (a' := ?_) #[true, false, false, false, false, false, false, false, false, false] rfl rfl (any_of HT_.out (by kernel_rfl)) (fun _ _ _ h => h) (Or.inl ⟨by rfl, ?_⟩) ?_ ?_
    rotate_left
    · intro w'
      go_simp
      with_reducible rfl
    rotate_left
    · simp only [Act.put, List.setIfInBounds_toArray, List.set_cons_zero, List.set_cons_succ, i64_w, i32_w]
      rfl
    refine pure_ (i := 1) (N := some 68) (v := ?_) (a' := ?_) #[true, true, false, false, false, false, false, false, false, false] rfl rfl (any_of HT_.out (by kernel_rfl)) (fun _ _ _ h => h) (Or.inl ⟨by rfl, ?_⟩) ?_ ?_
    rotate_left
    · intro w'
      go_simp
      with_reducible rfl
    rotate_left
    · simp only [Act.put, List.setIfInBounds_toArray, List.set_cons_zero, List.set_cons_succ, i64_w, i32_w]
      rfl
    refine pure_ (i := 2) (N := some 69) (v := ?_) (a' := ?_) #[true, true, true, false, false, false, false, false, false, false] rfl rfl (any_of HT_.out (by kernel_rfl)) (fun _ _ _ h => h) (Or.inl ⟨by rfl, ?_⟩) ?_ ?_
    rotate_left
    · intro w'
      go_simp
      with_reducible rfl
    rotate_left
    · simp only [Act.put, List.setIfInBounds_toArray, List.set_cons_zero, List.set_cons_succ, i64_w, i32_w]
      rfl
    refine pure_ (i := 4) (N := some 71) (v := ?_) (a' := ?_) #[true, true, true, false, true, false, false, false, false, false] rfl rfl (any_of HT_.out (by kernel_rfl)) (fun _ _ _ h => h) (Or.inl ⟨by rfl, ?_⟩) ?_ ?_
    rotate_left
    · intro w'
      go_simp
      with_reducible rfl
    rotate_left
    · simp only [Act.put, List.setIfInBounds_toArray, List.set_cons_zero, List.set_cons_succ, i64_w, i32_w]
      rfl
    refine pure_ (i := 5) (N := some 72) (v := ?_) (a' := ?_) #[true, true, true, false, true, true, false, false, false, false] rfl rfl (any_of HT_.out (by kernel_rfl)) (fun _ _ _ h => h) (Or.inl ⟨by rfl, ?_⟩) ?_ ?_
    rotate_left
    · intro w'
      go_simp
      with_reducible rfl
    rotate_left
    · simp only [Act.put, List.setIfInBounds_toArray, List.set_cons_zero, List.set_cons_succ, i64_w, i32_w]
      rfl
    refine pure_ (i := 6) (N := some 73) (v := ?_) (a' := ?_) #[true, true, true, false, true, true, true, false, false, false] rfl rfl (any_of HT_.out (by kernel_rfl)) (fun _ _ _ h => h) (Or.inl ⟨by rfl, ?_⟩) ?_ ?_
    rotate_left
    · intro w'
      go_simp
      with_reducible rfl
    rotate_left
    · simp only [Act.put, List.setIfInBounds_toArray, List.set_cons_zero, List.set_cons_succ, i64_w, i32_w]
      rfl
    refine take_ (i := 3) (N := some 70) (v := ?_) (a' := ?_) #[true, true, true, true, true, true, true, false, false, false] rfl rfl (take_ofW HT_.out HW_.out (by kernel_rfl)) (fun _ _ _ h => h) (Or.inl ⟨by rfl, ?_⟩) hHeld ?_ ?_
    rotate_left
    · rintro w' ⟨s0, s1, s2, s3⟩
      go_simp
      with_reducible rfl
    rotate_left
    · simp only [Act.put, List.setIfInBounds_toArray, List.set_cons_zero, List.set_cons_succ, i64_w, i32_w]
      rfl
    refine take_ (i := 7) (N := some 74) (v := ?_) (a' := ?_) #[true, true, true, true, true, true, true, true, false, false] rfl rfl (take_ofW HT_.out HW_.out (by kernel_rfl)) (fun _ _ _ h => h) (Or.inl ⟨by rfl, ?_⟩) hHeld ?_ ?_
    rotate_left
    · rintro w' ⟨s0, s1, s2, s3⟩
      go_simp
      with_reducible rfl
    rotate_left
    · simp only [Act.put, List.setIfInBounds_toArray, List.set_cons_zero, List.set_cons_succ, i64_w, i32_w]
      rfl
    refine pure_ (i := 8) (N := some 75) (v := ?_) (a' := ?_) #[true, true, true, true, true, true, true, true, true, false] rfl rfl (any_of HT_.out (by kernel_rfl)) (fun _ _ _ h => h) (Or.inl ⟨by rfl, ?_⟩) ?_ ?_
    rotate_left
    · intro w'
      go_simp
      with_reducible rfl
    rotate_left
    · simp only [Act.put, List.setIfInBounds_toArray, List.set_cons_zero, List.set_cons_succ, i64_w, i32_w]
      rfl
    refine pure_ (i := 9) (N := some 2) (v := ?_) (a' := ?_) #[true, true, true, true, true, true, true, true, true, true] rfl rfl (any_of HT_.out (by kernel_rfl)) (fun _ _ _ h => h) (Or.inl ⟨by rfl, ?_⟩) ?_ ?_
    rotate_left
    · intro w'
      go_simp
      with_reducible rfl
    rotate_left
    · simp only [Act.put, List.setIfInBounds_toArray, List.set_cons_zero, List.set_cons_succ, i64_w, i32_w]
      rfl
    refine done_ (done_of HT_.out (by kernel_rfl)) ?_
    try go_wp2
    go_ret
    exact ⟨by first | rfl | (simp [errW_none, errW_some] <;> rfl) | (simp [*, errW_none, errW_some] <;> rfl), by repeat (first | (with_reducible first | exact HB.out | apply below_alloc | apply pw_below_drewN | apply below_drew1 | refine below_set ?_ GE300.out | refine below_set ?_ GE301.out) | exact HB.out)⟩
  · replace c3 := Bool.eq_false_iff.mpr c3
    subst c3
    have H1 : (some false) = some r := by rw [if_neg (show ¬ (false = true) by decide)] at H; exact H
    clear H
    have H := H1
    clear H1
    exact absurd (Option.some.inj H) (by rw [hr0_.out]; decide)

/-- THE ONE PURE STATEMENT of damperlaw10_ScaleKnown: yours. -/
def damperlaw10_ScaleKnown.Pure : Prop := ∀ (a0 : Int), ((Lit.int .i64 a0).wf = true) → ∃ k, damperlaw10_ScaleKnown.f k a0 = some true
theorem damperlaw10_ScaleKnown.walk (P : damperlaw10_ScaleKnown.Pure) (a0 : Int) (w : World) (w0 : (Lit.int .i64 a0).wf = true)  :
    Calls Try.prog 8 #[.int .i64 a0] w fun e w' => e = .returned (.bool true) ∧ Below w.heap.size w w' := by
  obtain ⟨k, h⟩ := P a0 w0
  refine (damperlaw10_ScaleKnown.calls k a0 true w ⟨rfl⟩ h).mono ?_
  rintro e w' ⟨rfl, hd⟩
  exact ⟨rfl, hd⟩

end Go.Proofs.Ytlikdmeickbigaa.Ma
