-- Written by a program of this session (wip/tools/myprint.py), in the form of the kit's print. Not trusted: Lean checks it.
import Derived.Test.YtlikdmeickbigaaMax0
import Derived.Test.YtlikdmeickbigaaMax7
import Derived.Test.YtlikdmeickbigaaMax8
import Derived.Test.YtlikdmeickbigaaMax9
import Derived.Test.YtlikdmeickbigaaMax11
import Derived.Test.YtlikdmeickbigaaMax12
namespace Go.Proofs.Ytlikdmeickbigaa.Ma
open Go.RowKit Go.Proofs.YtlikdmeickbigaaW.PrintWords Go.Proofs.YtlikdmeickbigaaW.PrintLast Go.Proofs.YtlikdmeickbigaaW.PrintMore
attribute [local go_sem] max2_int min2_int max_two min_two max_three min_three max_four min_four   -- for this text's walks alone
set_option linter.unusedVariables false
set_option linter.unusedSimpArgs false

theorem setCell_drewN_19 (w : World) (n : Nat) (a : Addr) (v : Value) : (w.drewN n).setCell a v = (w.setCell a v).drewN n := rfl
/-! ### damperlaw10_ScaleMore: function 7 -/
def damperlaw10_ScaleMore.f (k : Nat) (a0_0 : Int) (a0_1 : Int) (a0_2 : Int) (a0_3 : Int) (a0_4 : Int) (a0_5 : Int) (a0_6 : Int) (a0_7 : Int) (a0_8 : Int) (a1_0 : ByteArray) (a1_1 : Int) (a1_2 : Int) (a1_3 : Int) (a1_4 : Int) (a1_5 : Int) (a2 : Int) : Option (Bool) := (damperlaw10_known.f k).bind fun t271 => (if t271 = true then ((damperlaw10_Given_Make.f a0_0 a0_1 a0_2 a0_3 a0_4 a0_5 a0_6 a0_7 a0_8).bind fun bt272 => ((damperlaw2_Config.f a1_0 a1_1 a1_2 a1_3 a1_4 a1_5 0).bind fun bt281 => ((damperlaw10_within.f a2 50).bind fun t290 => ((damperlaw10_within.f (wrap64 (Int.tdiv a2 50)) 50).bind fun t291 => ((damperlaw10_within.f (wrap64 (Int.tdiv a2 2500)) 3).bind fun t292 => ((damperlaw10_decide.f k bt272.1 bt272.2.1 bt272.2.2.1 bt272.2.2.2.1 bt272.2.2.2.2.1 bt272.2.2.2.2.2.1 bt272.2.2.2.2.2.2.1 bt272.2.2.2.2.2.2.2.1 bt272.2.2.2.2.2.2.2.2 bt281.1 bt281.2.1 bt281.2.2.1 bt281.2.2.2.1 bt281.2.2.2.2.1 bt281.2.2.2.2.2).bind fun bt293 => ((damperlaw10_decide.f k bt272.1 bt272.2.1 bt272.2.2.1 (wrap64 (bt272.2.2.2.1 + t292)) (wrap64 (bt272.2.2.2.2.1 + t290)) bt272.2.2.2.2.2.1 (wrap64 (bt272.2.2.2.2.2.2.1 + t291)) bt272.2.2.2.2.2.2.2.1 bt272.2.2.2.2.2.2.2.2 bt281.1 bt281.2.1 bt281.2.2.1 bt281.2.2.2.1 bt281.2.2.2.2.1 bt281.2.2.2.2.2).bind fun bt295 => (if bt295.1 ≥ bt293.1 then (some (decide (bt295.2 ≥ bt293.2))) else (some false))))))))) else (some false))
theorem damperlaw10_ScaleMore.mono : ∀ a0 a1 a2 a3 a4 a5 a6 a7 a8 a9 a10 a11 a12 a13 a14 a15 k, LeO (damperlaw10_ScaleMore.f k a0 a1 a2 a3 a4 a5 a6 a7 a8 a9 a10 a11 a12 a13 a14 a15) (damperlaw10_ScaleMore.f (k + 1) a0 a1 a2 a3 a4 a5 a6 a7 a8 a9 a10 a11 a12 a13 a14 a15) := by
  intro a0 a1 a2 a3 a4 a5 a6 a7 a8 a9 a10 a11 a12 a13 a14 a15 k
  unfold damperlaw10_ScaleMore.f
  repeat' first
      | (with_reducible exact damperlaw10_decide.mono _ _ _ _ _ _ _ _ _ _ _ _ _ _ _ _)
      | (with_reducible exact damperlaw10_known.mono _)
      | (with_reducible exact LeO.refl _)
      | (with_reducible exact LeO.none _)
      | (with_reducible refine LeO.ite ?_ ?_)
      | (with_reducible refine LeO.bind ?_ (fun _ => ?_))
      | exact damperlaw10_decide.mono _ _ _ _ _ _ _ _ _ _ _ _ _ _ _ _
      | exact damperlaw10_known.mono _
      | exact LeO.none _
      | refine LeO.ite ?_ ?_
      | refine LeO.bind ?_ (fun _ => ?_)
def damperlaw10_ScaleMore.T3 : Bool × List (List Nat × List Nat) := (true, [([], []), ([0], [0]), ([], []), ([2, 1], [2]), ([], []), ([], []), ([4, 1, 3, 0, 1, 4, 5], [1, 4]), ([5, 3, 6, 0, 1, 2, 3, 4, 5, 6], [3, 5])])
def damperlaw10_ScaleMore.B3 : List Nat := [0, 1, 0, 7, 0, 0, 63, 127]
theorem damperlaw10_ScaleMore.tab3 : rtab .any (opsOf Try.f7 3) = damperlaw10_ScaleMore.T3 := by kernel_rfl
theorem damperlaw10_ScaleMore.bits3 : waitsOk damperlaw10_ScaleMore.T3.2 damperlaw10_ScaleMore.B3 = true := by kernel_rfl
def damperlaw10_ScaleMore.T5 : Bool × List (List Nat × List Nat) := (true, [([], []), ([0], [0]), ([], []), ([2], [2]), ([1, 3], [1, 3]), ([], []), ([5], [5]), ([], []), ([7], [7]), ([8, 3], [8]), ([6, 9], [6, 9]), ([], []), ([11], [11]), ([], []), ([13], [13]), ([14, 9], [14]), ([12, 15], [12, 15]), ([0, 1, 2, 3, 4], []), ([17, 4, 15, 0, 1, 2, 3, 4], [4, 17]), ([0, 1, 2, 3, 4, 5, 6, 7, 8, 9, 10, 17, 18], []), ([19, 10, 18, 0, 1, 2, 3, 4, 5, 6, 7, 8, 9, 10, 17, 18], [10, 19]), ([0, 1, 2, 3, 4, 5, 6, 7, 8, 9, 10, 11, 12, 13, 14, 15, 16, 17, 18, 19, 20], []), ([21, 16, 20, 0, 1, 2, 3, 4, 5, 6, 7, 8, 9, 10, 11, 12, 13, 14, 15, 16, 17, 18, 19, 20], [16, 21])])
def damperlaw10_ScaleMore.B5 : List Nat := [0, 1, 0, 4, 15, 0, 32, 0, 128, 396, 1004, 0, 2048, 0, 8192, 25484, 64396, 31, 189343, 452607, 976895, 2097151, 4194303]
theorem damperlaw10_ScaleMore.tab5 : rtab .any (opsOf Try.f7 5) = damperlaw10_ScaleMore.T5 := by kernel_rfl
theorem damperlaw10_ScaleMore.bits5 : waitsOk damperlaw10_ScaleMore.T5.2 damperlaw10_ScaleMore.B5 = true := by kernel_rfl
def damperlaw10_ScaleMore.T6 : Bool × List (List Nat × List Nat) := (true, [([], []), ([], []), ([0, 1], [0, 1]), ([], []), ([], []), ([3, 4, 2], [3, 4]), ([], []), ([], []), ([6, 2, 5, 0, 1, 2, 6, 7], [2, 6]), ([7, 5, 8, 0, 1, 2, 3, 4, 5, 6, 7, 8], [5, 7])])
def damperlaw10_ScaleMore.B6 : List Nat := [0, 0, 3, 0, 0, 31, 0, 0, 255, 511]
theorem damperlaw10_ScaleMore.tab6 : rtab .any (opsOf Try.f7 6) = damperlaw10_ScaleMore.T6 := by kernel_rfl
theorem damperlaw10_ScaleMore.bits6 : waitsOk damperlaw10_ScaleMore.T6.2 damperlaw10_ScaleMore.B6 = true := by kernel_rfl
set_option maxHeartbeats 8000000 in
set_option maxRecDepth 100000 in
theorem damperlaw10_ScaleMore.calls (k : Nat) (a0_0 : Int) (a0_1 : Int) (a0_2 : Int) (a0_3 : Int) (a0_4 : Int) (a0_5 : Int) (a0_6 : Int) (a0_7 : Int) (a0_8 : Int) (a1_0 : ByteArray) (a1_1 : Int) (a1_2 : Int) (a1_3 : Int) (a1_4 : Int) (a1_5 : Int) (a2 : Int) (r : Bool) (w : World) (hr0_ : Aside0 (r = true)) (h : damperlaw10_ScaleMore.f k a0_0 a0_1 a0_2 a0_3 a0_4 a0_5 a0_6 a0_7 a0_8 a1_0 a1_1 a1_2 a1_3 a1_4 a1_5 a2 = some r) :
  Calls Try.prog 7 #[.agg #[.int .i64 a0_0, .int .i64 a0_1, .int .i64 a0_2, .int .i64 a0_3, .int .i64 a0_4, .int .i64 a0_5, .int .i64 a0_6, .int .i64 a0_7, .int .i64 a0_8], .agg #[.string a1_0, .int .i64 a1_1, .int .i64 a1_2, .int .i64 a1_3, .int .i64 a1_4, .int .i64 a1_5], .int .i64 a2] w fun e w' => e = .returned (.bool r) ∧ Below w.heap.size w w' := by
 have hu23 := Try.underlying23
 have hu25 := Try.underlying25
 have hu30 := Try.underlying30
 have HB := A0 (Below.refl w.heap.size w)
 have H : ((damperlaw10_known.f k).bind fun t271 => (if t271 = true then ((damperlaw10_Given_Make.f a0_0 a0_1 a0_2 a0_3 a0_4 a0_5 a0_6 a0_7 a0_8).bind fun bt272 => ((damperlaw2_Config.f a1_0 a1_1 a1_2 a1_3 a1_4 a1_5 0).bind fun bt281 => ((damperlaw10_within.f a2 50).bind fun t290 => ((damperlaw10_within.f (wrap64 (Int.tdiv a2 50)) 50).bind fun t291 => ((damperlaw10_within.f (wrap64 (Int.tdiv a2 2500)) 3).bind fun t292 => ((damperlaw10_decide.f k bt272.1 bt272.2.1 bt272.2.2.1 bt272.2.2.2.1 bt272.2.2.2.2.1 bt272.2.2.2.2.2.1 bt272.2.2.2.2.2.2.1 bt272.2.2.2.2.2.2.2.1 bt272.2.2.2.2.2.2.2.2 bt281.1 bt281.2.1 bt281.2.2.1 bt281.2.2.2.1 bt281.2.2.2.2.1 bt281.2.2.2.2.2).bind fun bt293 => ((damperlaw10_decide.f k bt272.1 bt272.2.1 bt272.2.2.1 (wrap64 (bt272.2.2.2.1 + t292)) (wrap64 (bt272.2.2.2.2.1 + t290)) bt272.2.2.2.2.2.1 (wrap64 (bt272.2.2.2.2.2.2.1 + t291)) bt272.2.2.2.2.2.2.2.1 bt272.2.2.2.2.2.2.2.2 bt281.1 bt281.2.1 bt281.2.2.1 bt281.2.2.2.1 bt281.2.2.2.2.1 bt281.2.2.2.2.2).bind fun bt295 => (if bt295.1 ≥ bt293.1 then (some (decide (bt295.2 ≥ bt293.2))) else (some false))))))))) else (some false))) = some r := h
 clear h
 replace H := Option.bind_eq_some_iff.mp H
 obtain ⟨t271, A40, H⟩ := H
 replace H : (if t271 = true then ((damperlaw10_Given_Make.f a0_0 a0_1 a0_2 a0_3 a0_4 a0_5 a0_6 a0_7 a0_8).bind fun bt272 => ((damperlaw2_Config.f a1_0 a1_1 a1_2 a1_3 a1_4 a1_5 0).bind fun bt281 => ((damperlaw10_within.f a2 50).bind fun t290 => ((damperlaw10_within.f (wrap64 (Int.tdiv a2 50)) 50).bind fun t291 => ((damperlaw10_within.f (wrap64 (Int.tdiv a2 2500)) 3).bind fun t292 => ((damperlaw10_decide.f k bt272.1 bt272.2.1 bt272.2.2.1 bt272.2.2.2.1 bt272.2.2.2.2.1 bt272.2.2.2.2.2.1 bt272.2.2.2.2.2.2.1 bt272.2.2.2.2.2.2.2.1 bt272.2.2.2.2.2.2.2.2 bt281.1 bt281.2.1 bt281.2.2.1 bt281.2.2.2.1 bt281.2.2.2.2.1 bt281.2.2.2.2.2).bind fun bt293 => ((damperlaw10_decide.f k bt272.1 bt272.2.1 bt272.2.2.1 (wrap64 (bt272.2.2.2.1 + t292)) (wrap64 (bt272.2.2.2.2.1 + t290)) bt272.2.2.2.2.2.1 (wrap64 (bt272.2.2.2.2.2.2.1 + t291)) bt272.2.2.2.2.2.2.2.1 bt272.2.2.2.2.2.2.2.2 bt281.1 bt281.2.1 bt281.2.2.1 bt281.2.2.2.1 bt281.2.2.2.2.1 bt281.2.2.2.2.2).bind fun bt295 => (if bt295.1 ≥ bt293.1 then (some (decide (bt295.2 ≥ bt293.2))) else (some false))))))))) else (some false)) = some r := H
 have A4 := A0 A40
 clear A40
 by_cases c5 : t271 = true
 ·subst c5
  have H1 : ((damperlaw10_Given_Make.f a0_0 a0_1 a0_2 a0_3 a0_4 a0_5 a0_6 a0_7 a0_8).bind fun bt272 => ((damperlaw2_Config.f a1_0 a1_1 a1_2 a1_3 a1_4 a1_5 0).bind fun bt281 => ((damperlaw10_within.f a2 50).bind fun t290 => ((damperlaw10_within.f (wrap64 (Int.tdiv a2 50)) 50).bind fun t291 => ((damperlaw10_within.f (wrap64 (Int.tdiv a2 2500)) 3).bind fun t292 => ((damperlaw10_decide.f k bt272.1 bt272.2.1 bt272.2.2.1 bt272.2.2.2.1 bt272.2.2.2.2.1 bt272.2.2.2.2.2.1 bt272.2.2.2.2.2.2.1 bt272.2.2.2.2.2.2.2.1 bt272.2.2.2.2.2.2.2.2 bt281.1 bt281.2.1 bt281.2.2.1 bt281.2.2.2.1 bt281.2.2.2.2.1 bt281.2.2.2.2.2).bind fun bt293 => ((damperlaw10_decide.f k bt272.1 bt272.2.1 bt272.2.2.1 (wrap64 (bt272.2.2.2.1 + t292)) (wrap64 (bt272.2.2.2.2.1 + t290)) bt272.2.2.2.2.2.1 (wrap64 (bt272.2.2.2.2.2.2.1 + t291)) bt272.2.2.2.2.2.2.2.1 bt272.2.2.2.2.2.2.2.2 bt281.1 bt281.2.1 bt281.2.2.1 bt281.2.2.2.1 bt281.2.2.2.2.1 bt281.2.2.2.2.2).bind fun bt295 => (if bt295.1 ≥ bt293.1 then (some (decide (bt295.2 ≥ bt293.2))) else (some false))))))))) = some r := by rw [if_pos rfl] at H; exact H
  clear H
  have H := H1
  clear H1
  replace H := Option.bind_eq_some_iff.mp H
  obtain ⟨⟨t272, t273, t274, t275, t276, t277, t278, t279, t280⟩, A60, H⟩ := H
  replace H : ((damperlaw2_Config.f a1_0 a1_1 a1_2 a1_3 a1_4 a1_5 0).bind fun bt281 => ((damperlaw10_within.f a2 50).bind fun t290 => ((damperlaw10_within.f (wrap64 (Int.tdiv a2 50)) 50).bind fun t291 => ((damperlaw10_within.f (wrap64 (Int.tdiv a2 2500)) 3).bind fun t292 => ((damperlaw10_decide.f k t272 t273 t274 t275 t276 t277 t278 t279 t280 bt281.1 bt281.2.1 bt281.2.2.1 bt281.2.2.2.1 bt281.2.2.2.2.1 bt281.2.2.2.2.2).bind fun bt293 => ((damperlaw10_decide.f k t272 t273 t274 (wrap64 (t275 + t292)) (wrap64 (t276 + t290)) t277 (wrap64 (t278 + t291)) t279 t280 bt281.1 bt281.2.1 bt281.2.2.1 bt281.2.2.2.1 bt281.2.2.2.2.1 bt281.2.2.2.2.2).bind fun bt295 => (if bt295.1 ≥ bt293.1 then (some (decide (bt295.2 ≥ bt293.2))) else (some false)))))))) = some r := H
  have A6 := A0 A60
  clear A60
  replace H := Option.bind_eq_some_iff.mp H
  obtain ⟨⟨t281, t282, t283, t284, t285, t286⟩, A70, H⟩ := H
  replace H : ((damperlaw10_within.f a2 50).bind fun t290 => ((damperlaw10_within.f (wrap64 (Int.tdiv a2 50)) 50).bind fun t291 => ((damperlaw10_within.f (wrap64 (Int.tdiv a2 2500)) 3).bind fun t292 => ((damperlaw10_decide.f k t272 t273 t274 t275 t276 t277 t278 t279 t280 t281 t282 t283 t284 t285 t286).bind fun bt293 => ((damperlaw10_decide.f k t272 t273 t274 (wrap64 (t275 + t292)) (wrap64 (t276 + t290)) t277 (wrap64 (t278 + t291)) t279 t280 t281 t282 t283 t284 t285 t286).bind fun bt295 => (if bt295.1 ≥ bt293.1 then (some (decide (bt295.2 ≥ bt293.2))) else (some false))))))) = some r := H
  have A7 := A0 A70
  clear A70
  replace H := Option.bind_eq_some_iff.mp H
  obtain ⟨t290, A80, H⟩ := H
  replace H : ((damperlaw10_within.f (wrap64 (Int.tdiv a2 50)) 50).bind fun t291 => ((damperlaw10_within.f (wrap64 (Int.tdiv a2 2500)) 3).bind fun t292 => ((damperlaw10_decide.f k t272 t273 t274 t275 t276 t277 t278 t279 t280 t281 t282 t283 t284 t285 t286).bind fun bt293 => ((damperlaw10_decide.f k t272 t273 t274 (wrap64 (t275 + t292)) (wrap64 (t276 + t290)) t277 (wrap64 (t278 + t291)) t279 t280 t281 t282 t283 t284 t285 t286).bind fun bt295 => (if bt295.1 ≥ bt293.1 then (some (decide (bt295.2 ≥ bt293.2))) else (some false)))))) = some r := H
  have A8 := A0 A80
  clear A80
  replace H := Option.bind_eq_some_iff.mp H
  obtain ⟨t291, A90, H⟩ := H
  replace H : ((damperlaw10_within.f (wrap64 (Int.tdiv a2 2500)) 3).bind fun t292 => ((damperlaw10_decide.f k t272 t273 t274 t275 t276 t277 t278 t279 t280 t281 t282 t283 t284 t285 t286).bind fun bt293 => ((damperlaw10_decide.f k t272 t273 t274 (wrap64 (t275 + t292)) (wrap64 (t276 + t290)) t277 (wrap64 (t278 + t291)) t279 t280 t281 t282 t283 t284 t285 t286).bind fun bt295 => (if bt295.1 ≥ bt293.1 then (some (decide (bt295.2 ≥ bt293.2))) else (some false))))) = some r := H
  have A9 := A0 A90
  clear A90
  replace H := Option.bind_eq_some_iff.mp H
  obtain ⟨t292, A100, H⟩ := H
  replace H : ((damperlaw10_decide.f k t272 t273 t274 t275 t276 t277 t278 t279 t280 t281 t282 t283 t284 t285 t286).bind fun bt293 => ((damperlaw10_decide.f k t272 t273 t274 (wrap64 (t275 + t292)) (wrap64 (t276 + t290)) t277 (wrap64 (t278 + t291)) t279 t280 t281 t282 t283 t284 t285 t286).bind fun bt295 => (if bt295.1 ≥ bt293.1 then (some (decide (bt295.2 ≥ bt293.2))) else (some false)))) = some r := H
  have A10 := A0 A100
  clear A100
  replace H := Option.bind_eq_some_iff.mp H
  obtain ⟨⟨t293, t294⟩, A110, H⟩ := H
  replace H : ((damperlaw10_decide.f k t272 t273 t274 (wrap64 (t275 + t292)) (wrap64 (t276 + t290)) t277 (wrap64 (t278 + t291)) t279 t280 t281 t282 t283 t284 t285 t286).bind fun bt295 => (if bt295.1 ≥ t293 then (some (decide (bt295.2 ≥ t294))) else (some false))) = some r := H
  have A11 := A0 A110
  clear A110
  replace H := Option.bind_eq_some_iff.mp H
  obtain ⟨⟨t295, t296⟩, A120, H⟩ := H
  replace H : (if t295 ≥ t293 then (some (decide (t296 ≥ t294))) else (some false)) = some r := H
  have A12 := A0 A120
  clear A120
  by_cases c13 : t295 ≥ t293
  rotate_left
  ·rw [if_neg c13] at H
   have c13b0 : decide (t293 ≤ t295) = false := decide_eq_false c13
   clear c13
   exact absurd (Option.some.inj H) (by rw [hr0_.out]; decide)
  rw [if_pos c13] at H
  have c13b0 : decide (t293 ≤ t295) = true := decide_eq_true c13
  clear c13
  obtain rfl := Option.some.inj H
  go_enter Try.func7, Try.ntmps7
  try go_wp2_with (first | ((with_reducible refine gate_dst (N := 3) rfl ?_); refine box_event ?hg (N := 3) ?hd (cs := #[.int .i64 a0_0, .int .i64 a0_1, .int .i64 a0_2, .int .i64 a0_3, .int .i64 a0_4, .int .i64 a0_5, .int .i64 a0_6, .int .i64 a0_7, .int .i64 a0_8]) (t := 23) ?hr ?_; (case hd => rfl); (case hg => rfl); (case hr => first | (go_simp; done) | (go_simp; rfl)); intro gb269 hg w14 hbox hb; have n0_ := A0 (below_step (by repeat (first | (with_reducible first | exact HB.out | apply below_alloc | apply pw_below_drewN | apply below_drew1) | exact HB.out)) hb); have n1_ := A0 (hbox); have n2_ := A0 ((by rw [hg]; exact (below_size (by repeat (first | (with_reducible first | exact HB.out | apply below_alloc | apply pw_below_drewN | apply below_drew1) | exact HB.out))) : w.heap.size ≤ gb269)); have n3_ := A0 ((by rw [hg]; exact (below_size (by repeat (first | (with_reducible first | exact HB.out | apply below_alloc | apply pw_below_drewN | apply below_drew1) | exact HB.out))) : w.heap.size ≤ gb269)); clear HB; have HB := n0_; have BK269 := n1_; have GW269 := n2_; have GE269 := n3_; clear n0_ n1_ n2_ n3_; clear hb hbox hg) | ((with_reducible refine gate_dst (N := 4) rfl ?_); refine box_event ?hg (N := 4) ?hd (cs := #[.string a1_0, .int .i64 a1_1, .int .i64 a1_2, .int .i64 a1_3, .int .i64 a1_4, .int .i64 a1_5]) (t := 25) ?hr ?_; (case hd => rfl); (case hg => rfl); (case hr => first | (go_simp; done) | (go_simp; rfl)); intro gb270 hg w15 hbox hb; have n0_ := A0 (blk_below (g := gb269) (pk BK269) hb); have n1_ := A0 (below_step (by repeat (first | (with_reducible first | exact HB.out | apply below_alloc | apply pw_below_drewN | apply below_drew1 | refine below_set ?_ GE269.out) | exact HB.out)) hb); have n2_ := A0 (hbox); have n3_ := A0 ((by rw [hg]; exact (below_size (by repeat (first | (with_reducible first | exact HB.out | apply below_alloc | apply pw_below_drewN | apply below_drew1 | refine below_set ?_ GE269.out) | exact HB.out))) : w.heap.size ≤ gb270)); have n4_ := A0 ((by rw [hg]; exact (below_size (by repeat (first | (with_reducible first | exact HB.out | apply below_alloc | apply pw_below_drewN | apply below_drew1 | refine below_set ?_ GE269.out) | exact HB.out))) : w.heap.size ≤ gb270)); have n5_ := A0 ((ne_lt hg (pk BK269) : gb269 ≠ gb270)); have n6_ := A0 ((ne_gt hg (pk BK269) : gb270 ≠ gb269)); clear BK269; clear HB; have BK269 := n0_; have HB := n1_; have BK270 := n2_; have GW270 := n3_; have GE270 := n4_; have NB269_270 := n5_; have NB270_269 := n6_; clear n0_ n1_ n2_ n3_ n4_ n5_ n6_; clear hb hbox hg) | ((with_reducible refine gate_callee (f := 13) rfl ?_); refine goesL_ (some 12) rfl rfl Try.func13 (by kernel_rfl) rfl #[] rfl (by (try simp only [List.map_toArray, List.map_cons, List.map_nil]); first | done | rfl | (simp only [List.length_drop, List.length_take]; rfl)) ?_; (with_reducible refine (damperlaw10_known.calls k  true _ A4.out).mono ?_); rintro e w16 ⟨rfl, hb⟩; refine ⟨_, rfl, ?_⟩; have n0_ := A0 (blk_below (g := gb269) (pk BK269) hb); have n1_ := A0 (blk_below (g := gb270) (pk BK270) hb); have n2_ := A0 (below_step (by repeat (first | (with_reducible first | exact HB.out | apply below_alloc | apply pw_below_drewN | apply below_drew1 | refine below_set ?_ GE269.out | refine below_set ?_ GE270.out) | exact HB.out)) hb); clear BK269; clear BK270; clear HB; have BK269 := n0_; have BK270 := n1_; have HB := n2_; clear n0_ n1_ n2_; (try clear hb); (try clear hb2); (try clear hk); (try clear hi)))
  replace BK269 := A0 (blk_drew BK269.out)
  replace BK270 := A0 (blk_drew BK270.out)
  replace HB := A0 (below_drew1 HB.out)
  refine start_ (n := 8) (S := fun w' => w'.cell? ⟨gb269, 0, none⟩ = some (.int .i64 a0_0) ∧ w'.cell? ⟨gb269, 1, none⟩ = some (.int .i64 a0_1) ∧ w'.cell? ⟨gb269, 2, none⟩ = some (.int .i64 a0_2) ∧ w'.cell? ⟨gb269, 3, none⟩ = some (.int .i64 a0_3) ∧ w'.cell? ⟨gb269, 4, none⟩ = some (.int .i64 a0_4) ∧ w'.cell? ⟨gb269, 5, none⟩ = some (.int .i64 a0_5) ∧ w'.cell? ⟨gb269, 6, none⟩ = some (.int .i64 a0_6) ∧ w'.cell? ⟨gb269, 7, none⟩ = some (.int .i64 a0_7) ∧ w'.cell? ⟨gb269, 8, none⟩ = some (.int .i64 a0_8) ∧ w'.cell? ⟨gb270, 0, none⟩ = some (.string a1_0) ∧ w'.cell? ⟨gb270, 1, none⟩ = some (.int .i64 a1_1) ∧ w'.cell? ⟨gb270, 2, none⟩ = some (.int .i64 a1_2) ∧ w'.cell? ⟨gb270, 3, none⟩ = some (.int .i64 a1_3) ∧ w'.cell? ⟨gb270, 4, none⟩ = some (.int .i64 a1_4) ∧ w'.cell? ⟨gb270, 5, none⟩ = some (.int .i64 a1_5)) (ds := []) #[false, false, false, false, false, false, false, false] (by kernel_rfl) rfl rfl ⟨bc BK269 0, bc BK269 1, bc BK269 2, bc BK269 3, bc BK269 4, bc BK269 5, bc BK269 6, bc BK269 7, bc BK269 8, bc BK270 0, bc BK270 1, bc BK270 2, bc BK270 3, bc BK270 4, bc BK270 5⟩ (fun hHeld => ?_); refine with_tabW damperlaw10_ScaleMore.tab3 damperlaw10_ScaleMore.bits3 (fun HT_ HW_ => ?_)
  generalize w16.drew = w17 at BK269 BK270 HB hHeld ⊢
  refine take_ (i := 0) (N := some 14) (v := ?_) (a' := ?_) #[true, false, false, false, false, false, false, false] rfl rfl (take_ofW HT_.out HW_.out (by kernel_rfl)) (fun _ _ _ h => h) (Or.inl ⟨by rfl, ?_⟩) hHeld ?_ ?_
  rotate_left
  ·rintro w' ⟨s0, s1, s2, s3, s4, s5, s6, s7, s8, s9, s10, s11, s12, s13, s14⟩
   go_simp
   with_reducible rfl
  rotate_left
  ·simp only [Act.put, List.setIfInBounds_toArray, List.set_cons_zero, List.set_cons_succ, i64_w, i32_w]
   rfl
  refine take_ (i := 2) (N := some 16) (v := ?_) (a' := ?_) #[true, false, true, false, false, false, false, false] rfl rfl (take_ofW HT_.out HW_.out (by kernel_rfl)) (fun _ _ _ h => h) (Or.inl ⟨by rfl, ?_⟩) hHeld ?_ ?_
  rotate_left
  ·rintro w' ⟨s0, s1, s2, s3, s4, s5, s6, s7, s8, s9, s10, s11, s12, s13, s14⟩
   go_simp
   with_reducible rfl
  rotate_left
  ·simp only [Act.put, List.setIfInBounds_toArray, List.set_cons_zero, List.set_cons_succ, i64_w, i32_w]
   rfl
  refine join_ (σ := Nat × Nat) 2 #[true, true, true, true, true, true, false, false] (fun s_ => [(15, .agg #[.int .i64 t272, .int .i64 t273, .int .i64 t274, .int .i64 t275, .int .i64 t276, .int .i64 t277, .int .i64 t278, .int .i64 t279, .int .i64 t280]), (17, .agg #[.string t281, .int .i64 t282, .int .i64 t283, .int .i64 t284, .int .i64 t285, .int .i64 t286]), (7, .pointer (some ⟨s_.1, 0, none⟩)), (8, .pointer (some ⟨s_.2, 0, none⟩))]) (fun s_ w' => (w'.cell? ⟨gb269, 0, none⟩ = some (.int .i64 a0_0) ∧ w'.cell? ⟨gb269, 1, none⟩ = some (.int .i64 a0_1) ∧ w'.cell? ⟨gb269, 2, none⟩ = some (.int .i64 a0_2) ∧ w'.cell? ⟨gb269, 3, none⟩ = some (.int .i64 a0_3) ∧ w'.cell? ⟨gb269, 4, none⟩ = some (.int .i64 a0_4) ∧ w'.cell? ⟨gb269, 5, none⟩ = some (.int .i64 a0_5) ∧ w'.cell? ⟨gb269, 6, none⟩ = some (.int .i64 a0_6) ∧ w'.cell? ⟨gb269, 7, none⟩ = some (.int .i64 a0_7) ∧ w'.cell? ⟨gb269, 8, none⟩ = some (.int .i64 a0_8) ∧ w'.cell? ⟨gb270, 0, none⟩ = some (.string a1_0) ∧ w'.cell? ⟨gb270, 1, none⟩ = some (.int .i64 a1_1) ∧ w'.cell? ⟨gb270, 2, none⟩ = some (.int .i64 a1_2) ∧ w'.cell? ⟨gb270, 3, none⟩ = some (.int .i64 a1_3) ∧ w'.cell? ⟨gb270, 4, none⟩ = some (.int .i64 a1_4) ∧ w'.cell? ⟨gb270, 5, none⟩ = some (.int .i64 a1_5)) ∧ (w'.heap[gb269]? = some (.cells #[.int .i64 a0_0, .int .i64 a0_1, .int .i64 a0_2, .int .i64 a0_3, .int .i64 a0_4, .int .i64 a0_5, .int .i64 a0_6, .int .i64 a0_7, .int .i64 a0_8] 23 (0, 0))) ∧ (w'.heap[gb270]? = some (.cells #[.string a1_0, .int .i64 a1_1, .int .i64 a1_2, .int .i64 a1_3, .int .i64 a1_4, .int .i64 a1_5] 25 (0, 0))) ∧ (w'.heap[s_.1]? = some (.cells #[.int .i64 0, .int .i64 0, .int .i64 0, .int .i64 0, .int .i64 0, .int .i64 0, .int .i64 0, .int .i64 0, .int .i64 0] 23 (0, 0))) ∧ (w'.heap[s_.2]? = some (.cells #[.string (⟨#[]⟩ : ByteArray), .int .i64 0, .int .i64 0, .int .i64 0, .int .i64 0, .int .i64 0] 25 (0, 0))) ∧ (w.heap.size ≤ s_.1) ∧ (w.heap.size ≤ s_.1) ∧ (gb269 ≠ s_.1) ∧ (s_.1 ≠ gb269) ∧ (gb270 ≠ s_.1) ∧ (s_.1 ≠ gb270) ∧ (s_.2 ≠ s_.1) ∧ (s_.1 ≠ s_.2) ∧ (w.heap.size ≤ s_.2) ∧ (w.heap.size ≤ s_.2) ∧ (gb269 ≠ s_.2) ∧ (s_.2 ≠ gb269) ∧ (gb270 ≠ s_.2) ∧ (s_.2 ≠ gb270) ∧ (Below w.heap.size w w')) ?_ ?_
  rotate_left
  ·intro hJ1_3_4_5
   refine join_ (σ := Nat) 3 #[true, true, true, true, true, false, false, false] (fun s_ => [(15, .agg #[.int .i64 t272, .int .i64 t273, .int .i64 t274, .int .i64 t275, .int .i64 t276, .int .i64 t277, .int .i64 t278, .int .i64 t279, .int .i64 t280]), (17, .agg #[.string t281, .int .i64 t282, .int .i64 t283, .int .i64 t284, .int .i64 t285, .int .i64 t286]), (7, .pointer (some ⟨s_, 0, none⟩))]) (fun s_ w' => (w'.cell? ⟨gb269, 0, none⟩ = some (.int .i64 a0_0) ∧ w'.cell? ⟨gb269, 1, none⟩ = some (.int .i64 a0_1) ∧ w'.cell? ⟨gb269, 2, none⟩ = some (.int .i64 a0_2) ∧ w'.cell? ⟨gb269, 3, none⟩ = some (.int .i64 a0_3) ∧ w'.cell? ⟨gb269, 4, none⟩ = some (.int .i64 a0_4) ∧ w'.cell? ⟨gb269, 5, none⟩ = some (.int .i64 a0_5) ∧ w'.cell? ⟨gb269, 6, none⟩ = some (.int .i64 a0_6) ∧ w'.cell? ⟨gb269, 7, none⟩ = some (.int .i64 a0_7) ∧ w'.cell? ⟨gb269, 8, none⟩ = some (.int .i64 a0_8) ∧ w'.cell? ⟨gb270, 0, none⟩ = some (.string a1_0) ∧ w'.cell? ⟨gb270, 1, none⟩ = some (.int .i64 a1_1) ∧ w'.cell? ⟨gb270, 2, none⟩ = some (.int .i64 a1_2) ∧ w'.cell? ⟨gb270, 3, none⟩ = some (.int .i64 a1_3) ∧ w'.cell? ⟨gb270, 4, none⟩ = some (.int .i64 a1_4) ∧ w'.cell? ⟨gb270, 5, none⟩ = some (.int .i64 a1_5)) ∧ (w'.heap[gb269]? = some (.cells #[.int .i64 a0_0, .int .i64 a0_1, .int .i64 a0_2, .int .i64 a0_3, .int .i64 a0_4, .int .i64 a0_5, .int .i64 a0_6, .int .i64 a0_7, .int .i64 a0_8] 23 (0, 0))) ∧ (w'.heap[gb270]? = some (.cells #[.string a1_0, .int .i64 a1_1, .int .i64 a1_2, .int .i64 a1_3, .int .i64 a1_4, .int .i64 a1_5] 25 (0, 0))) ∧ (w'.heap[s_]? = some (.cells #[.int .i64 0, .int .i64 0, .int .i64 0, .int .i64 0, .int .i64 0, .int .i64 0, .int .i64 0, .int .i64 0, .int .i64 0] 23 (0, 0))) ∧ (w.heap.size ≤ s_) ∧ (w.heap.size ≤ s_) ∧ (gb269 ≠ s_) ∧ (s_ ≠ gb269) ∧ (gb270 ≠ s_) ∧ (s_ ≠ gb270) ∧ (Below w.heap.size w w')) ?_ ?_
   rotate_left
   ·intro hJ1_3_4
    refine join_ (σ := Nat) 3 #[true, true, true, true, false, true, false, false] (fun s_ => [(15, .agg #[.int .i64 t272, .int .i64 t273, .int .i64 t274, .int .i64 t275, .int .i64 t276, .int .i64 t277, .int .i64 t278, .int .i64 t279, .int .i64 t280]), (17, .agg #[.string t281, .int .i64 t282, .int .i64 t283, .int .i64 t284, .int .i64 t285, .int .i64 t286]), (8, .pointer (some ⟨s_, 0, none⟩))]) (fun s_ w' => (w'.cell? ⟨gb269, 0, none⟩ = some (.int .i64 a0_0) ∧ w'.cell? ⟨gb269, 1, none⟩ = some (.int .i64 a0_1) ∧ w'.cell? ⟨gb269, 2, none⟩ = some (.int .i64 a0_2) ∧ w'.cell? ⟨gb269, 3, none⟩ = some (.int .i64 a0_3) ∧ w'.cell? ⟨gb269, 4, none⟩ = some (.int .i64 a0_4) ∧ w'.cell? ⟨gb269, 5, none⟩ = some (.int .i64 a0_5) ∧ w'.cell? ⟨gb269, 6, none⟩ = some (.int .i64 a0_6) ∧ w'.cell? ⟨gb269, 7, none⟩ = some (.int .i64 a0_7) ∧ w'.cell? ⟨gb269, 8, none⟩ = some (.int .i64 a0_8) ∧ w'.cell? ⟨gb270, 0, none⟩ = some (.string a1_0) ∧ w'.cell? ⟨gb270, 1, none⟩ = some (.int .i64 a1_1) ∧ w'.cell? ⟨gb270, 2, none⟩ = some (.int .i64 a1_2) ∧ w'.cell? ⟨gb270, 3, none⟩ = some (.int .i64 a1_3) ∧ w'.cell? ⟨gb270, 4, none⟩ = some (.int .i64 a1_4) ∧ w'.cell? ⟨gb270, 5, none⟩ = some (.int .i64 a1_5)) ∧ (w'.heap[gb269]? = some (.cells #[.int .i64 a0_0, .int .i64 a0_1, .int .i64 a0_2, .int .i64 a0_3, .int .i64 a0_4, .int .i64 a0_5, .int .i64 a0_6, .int .i64 a0_7, .int .i64 a0_8] 23 (0, 0))) ∧ (w'.heap[gb270]? = some (.cells #[.string a1_0, .int .i64 a1_1, .int .i64 a1_2, .int .i64 a1_3, .int .i64 a1_4, .int .i64 a1_5] 25 (0, 0))) ∧ (w'.heap[s_]? = some (.cells #[.string (⟨#[]⟩ : ByteArray), .int .i64 0, .int .i64 0, .int .i64 0, .int .i64 0, .int .i64 0] 25 (0, 0))) ∧ (w.heap.size ≤ s_) ∧ (w.heap.size ≤ s_) ∧ (gb269 ≠ s_) ∧ (s_ ≠ gb269) ∧ (gb270 ≠ s_) ∧ (s_ ≠ gb270) ∧ (Below w.heap.size w w')) ?_ ?_
    rotate_left
    ·intro hJ1_3_5
     refine join_ (σ := Nat × Nat) 3 #[true, true, true, false, true, true, false, false] (fun s_ => [(15, .agg #[.int .i64 t272, .int .i64 t273, .int .i64 t274, .int .i64 t275, .int .i64 t276, .int .i64 t277, .int .i64 t278, .int .i64 t279, .int .i64 t280]), (7, .pointer (some ⟨s_.1, 0, none⟩)), (8, .pointer (some ⟨s_.2, 0, none⟩))]) (fun s_ w' => (w'.cell? ⟨gb269, 0, none⟩ = some (.int .i64 a0_0) ∧ w'.cell? ⟨gb269, 1, none⟩ = some (.int .i64 a0_1) ∧ w'.cell? ⟨gb269, 2, none⟩ = some (.int .i64 a0_2) ∧ w'.cell? ⟨gb269, 3, none⟩ = some (.int .i64 a0_3) ∧ w'.cell? ⟨gb269, 4, none⟩ = some (.int .i64 a0_4) ∧ w'.cell? ⟨gb269, 5, none⟩ = some (.int .i64 a0_5) ∧ w'.cell? ⟨gb269, 6, none⟩ = some (.int .i64 a0_6) ∧ w'.cell? ⟨gb269, 7, none⟩ = some (.int .i64 a0_7) ∧ w'.cell? ⟨gb269, 8, none⟩ = some (.int .i64 a0_8) ∧ w'.cell? ⟨gb270, 0, none⟩ = some (.string a1_0) ∧ w'.cell? ⟨gb270, 1, none⟩ = some (.int .i64 a1_1) ∧ w'.cell? ⟨gb270, 2, none⟩ = some (.int .i64 a1_2) ∧ w'.cell? ⟨gb270, 3, none⟩ = some (.int .i64 a1_3) ∧ w'.cell? ⟨gb270, 4, none⟩ = some (.int .i64 a1_4) ∧ w'.cell? ⟨gb270, 5, none⟩ = some (.int .i64 a1_5)) ∧ (w'.heap[gb269]? = some (.cells #[.int .i64 a0_0, .int .i64 a0_1, .int .i64 a0_2, .int .i64 a0_3, .int .i64 a0_4, .int .i64 a0_5, .int .i64 a0_6, .int .i64 a0_7, .int .i64 a0_8] 23 (0, 0))) ∧ (w'.heap[gb270]? = some (.cells #[.string a1_0, .int .i64 a1_1, .int .i64 a1_2, .int .i64 a1_3, .int .i64 a1_4, .int .i64 a1_5] 25 (0, 0))) ∧ (w'.heap[s_.1]? = some (.cells #[.int .i64 0, .int .i64 0, .int .i64 0, .int .i64 0, .int .i64 0, .int .i64 0, .int .i64 0, .int .i64 0, .int .i64 0] 23 (0, 0))) ∧ (w'.heap[s_.2]? = some (.cells #[.string (⟨#[]⟩ : ByteArray), .int .i64 0, .int .i64 0, .int .i64 0, .int .i64 0, .int .i64 0] 25 (0, 0))) ∧ (w.heap.size ≤ s_.1) ∧ (w.heap.size ≤ s_.1) ∧ (gb269 ≠ s_.1) ∧ (s_.1 ≠ gb269) ∧ (gb270 ≠ s_.1) ∧ (s_.1 ≠ gb270) ∧ (s_.2 ≠ s_.1) ∧ (s_.1 ≠ s_.2) ∧ (w.heap.size ≤ s_.2) ∧ (w.heap.size ≤ s_.2) ∧ (gb269 ≠ s_.2) ∧ (s_.2 ≠ gb269) ∧ (gb270 ≠ s_.2) ∧ (s_.2 ≠ gb270) ∧ (Below w.heap.size w w')) ?_ ?_
     rotate_left
     ·intro hJ1_4_5
      refine join_ (σ := Unit) 4 #[true, true, true, true, false, false, false, false] (fun s_ => [(15, .agg #[.int .i64 t272, .int .i64 t273, .int .i64 t274, .int .i64 t275, .int .i64 t276, .int .i64 t277, .int .i64 t278, .int .i64 t279, .int .i64 t280]), (17, .agg #[.string t281, .int .i64 t282, .int .i64 t283, .int .i64 t284, .int .i64 t285, .int .i64 t286])]) (fun s_ w' => (w'.cell? ⟨gb269, 0, none⟩ = some (.int .i64 a0_0) ∧ w'.cell? ⟨gb269, 1, none⟩ = some (.int .i64 a0_1) ∧ w'.cell? ⟨gb269, 2, none⟩ = some (.int .i64 a0_2) ∧ w'.cell? ⟨gb269, 3, none⟩ = some (.int .i64 a0_3) ∧ w'.cell? ⟨gb269, 4, none⟩ = some (.int .i64 a0_4) ∧ w'.cell? ⟨gb269, 5, none⟩ = some (.int .i64 a0_5) ∧ w'.cell? ⟨gb269, 6, none⟩ = some (.int .i64 a0_6) ∧ w'.cell? ⟨gb269, 7, none⟩ = some (.int .i64 a0_7) ∧ w'.cell? ⟨gb269, 8, none⟩ = some (.int .i64 a0_8) ∧ w'.cell? ⟨gb270, 0, none⟩ = some (.string a1_0) ∧ w'.cell? ⟨gb270, 1, none⟩ = some (.int .i64 a1_1) ∧ w'.cell? ⟨gb270, 2, none⟩ = some (.int .i64 a1_2) ∧ w'.cell? ⟨gb270, 3, none⟩ = some (.int .i64 a1_3) ∧ w'.cell? ⟨gb270, 4, none⟩ = some (.int .i64 a1_4) ∧ w'.cell? ⟨gb270, 5, none⟩ = some (.int .i64 a1_5)) ∧ (w'.heap[gb269]? = some (.cells #[.int .i64 a0_0, .int .i64 a0_1, .int .i64 a0_2, .int .i64 a0_3, .int .i64 a0_4, .int .i64 a0_5, .int .i64 a0_6, .int .i64 a0_7, .int .i64 a0_8] 23 (0, 0))) ∧ (w'.heap[gb270]? = some (.cells #[.string a1_0, .int .i64 a1_1, .int .i64 a1_2, .int .i64 a1_3, .int .i64 a1_4, .int .i64 a1_5] 25 (0, 0))) ∧ (Below w.heap.size w w')) ?_ ?_
      rotate_left
      ·intro hJ1_3
       refine join_ (σ := Nat) 4 #[true, true, true, false, true, false, false, false] (fun s_ => [(15, .agg #[.int .i64 t272, .int .i64 t273, .int .i64 t274, .int .i64 t275, .int .i64 t276, .int .i64 t277, .int .i64 t278, .int .i64 t279, .int .i64 t280]), (7, .pointer (some ⟨s_, 0, none⟩))]) (fun s_ w' => (w'.cell? ⟨gb269, 0, none⟩ = some (.int .i64 a0_0) ∧ w'.cell? ⟨gb269, 1, none⟩ = some (.int .i64 a0_1) ∧ w'.cell? ⟨gb269, 2, none⟩ = some (.int .i64 a0_2) ∧ w'.cell? ⟨gb269, 3, none⟩ = some (.int .i64 a0_3) ∧ w'.cell? ⟨gb269, 4, none⟩ = some (.int .i64 a0_4) ∧ w'.cell? ⟨gb269, 5, none⟩ = some (.int .i64 a0_5) ∧ w'.cell? ⟨gb269, 6, none⟩ = some (.int .i64 a0_6) ∧ w'.cell? ⟨gb269, 7, none⟩ = some (.int .i64 a0_7) ∧ w'.cell? ⟨gb269, 8, none⟩ = some (.int .i64 a0_8) ∧ w'.cell? ⟨gb270, 0, none⟩ = some (.string a1_0) ∧ w'.cell? ⟨gb270, 1, none⟩ = some (.int .i64 a1_1) ∧ w'.cell? ⟨gb270, 2, none⟩ = some (.int .i64 a1_2) ∧ w'.cell? ⟨gb270, 3, none⟩ = some (.int .i64 a1_3) ∧ w'.cell? ⟨gb270, 4, none⟩ = some (.int .i64 a1_4) ∧ w'.cell? ⟨gb270, 5, none⟩ = some (.int .i64 a1_5)) ∧ (w'.heap[gb269]? = some (.cells #[.int .i64 a0_0, .int .i64 a0_1, .int .i64 a0_2, .int .i64 a0_3, .int .i64 a0_4, .int .i64 a0_5, .int .i64 a0_6, .int .i64 a0_7, .int .i64 a0_8] 23 (0, 0))) ∧ (w'.heap[gb270]? = some (.cells #[.string a1_0, .int .i64 a1_1, .int .i64 a1_2, .int .i64 a1_3, .int .i64 a1_4, .int .i64 a1_5] 25 (0, 0))) ∧ (w'.heap[s_]? = some (.cells #[.int .i64 0, .int .i64 0, .int .i64 0, .int .i64 0, .int .i64 0, .int .i64 0, .int .i64 0, .int .i64 0, .int .i64 0] 23 (0, 0))) ∧ (w.heap.size ≤ s_) ∧ (w.heap.size ≤ s_) ∧ (gb269 ≠ s_) ∧ (s_ ≠ gb269) ∧ (gb270 ≠ s_) ∧ (s_ ≠ gb270) ∧ (Below w.heap.size w w')) ?_ ?_
       rotate_left
       ·intro hJ1_4
        refine join_ (σ := Nat) 4 #[true, true, true, false, false, true, false, false] (fun s_ => [(15, .agg #[.int .i64 t272, .int .i64 t273, .int .i64 t274, .int .i64 t275, .int .i64 t276, .int .i64 t277, .int .i64 t278, .int .i64 t279, .int .i64 t280]), (8, .pointer (some ⟨s_, 0, none⟩))]) (fun s_ w' => (w'.cell? ⟨gb269, 0, none⟩ = some (.int .i64 a0_0) ∧ w'.cell? ⟨gb269, 1, none⟩ = some (.int .i64 a0_1) ∧ w'.cell? ⟨gb269, 2, none⟩ = some (.int .i64 a0_2) ∧ w'.cell? ⟨gb269, 3, none⟩ = some (.int .i64 a0_3) ∧ w'.cell? ⟨gb269, 4, none⟩ = some (.int .i64 a0_4) ∧ w'.cell? ⟨gb269, 5, none⟩ = some (.int .i64 a0_5) ∧ w'.cell? ⟨gb269, 6, none⟩ = some (.int .i64 a0_6) ∧ w'.cell? ⟨gb269, 7, none⟩ = some (.int .i64 a0_7) ∧ w'.cell? ⟨gb269, 8, none⟩ = some (.int .i64 a0_8) ∧ w'.cell? ⟨gb270, 0, none⟩ = some (.string a1_0) ∧ w'.cell? ⟨gb270, 1, none⟩ = some (.int .i64 a1_1) ∧ w'.cell? ⟨gb270, 2, none⟩ = some (.int .i64 a1_2) ∧ w'.cell? ⟨gb270, 3, none⟩ = some (.int .i64 a1_3) ∧ w'.cell? ⟨gb270, 4, none⟩ = some (.int .i64 a1_4) ∧ w'.cell? ⟨gb270, 5, none⟩ = some (.int .i64 a1_5)) ∧ (w'.heap[gb269]? = some (.cells #[.int .i64 a0_0, .int .i64 a0_1, .int .i64 a0_2, .int .i64 a0_3, .int .i64 a0_4, .int .i64 a0_5, .int .i64 a0_6, .int .i64 a0_7, .int .i64 a0_8] 23 (0, 0))) ∧ (w'.heap[gb270]? = some (.cells #[.string a1_0, .int .i64 a1_1, .int .i64 a1_2, .int .i64 a1_3, .int .i64 a1_4, .int .i64 a1_5] 25 (0, 0))) ∧ (w'.heap[s_]? = some (.cells #[.string (⟨#[]⟩ : ByteArray), .int .i64 0, .int .i64 0, .int .i64 0, .int .i64 0, .int .i64 0] 25 (0, 0))) ∧ (w.heap.size ≤ s_) ∧ (w.heap.size ≤ s_) ∧ (gb269 ≠ s_) ∧ (s_ ≠ gb269) ∧ (gb270 ≠ s_) ∧ (s_ ≠ gb270) ∧ (Below w.heap.size w w')) ?_ ?_
        rotate_left
        ·intro hJ1_5
         refine join_ (σ := Nat × Nat) 4 #[true, false, true, false, true, true, false, false] (fun s_ => [(7, .pointer (some ⟨s_.1, 0, none⟩)), (8, .pointer (some ⟨s_.2, 0, none⟩))]) (fun s_ w' => (w'.cell? ⟨gb269, 0, none⟩ = some (.int .i64 a0_0) ∧ w'.cell? ⟨gb269, 1, none⟩ = some (.int .i64 a0_1) ∧ w'.cell? ⟨gb269, 2, none⟩ = some (.int .i64 a0_2) ∧ w'.cell? ⟨gb269, 3, none⟩ = some (.int .i64 a0_3) ∧ w'.cell? ⟨gb269, 4, none⟩ = some (.int .i64 a0_4) ∧ w'.cell? ⟨gb269, 5, none⟩ = some (.int .i64 a0_5) ∧ w'.cell? ⟨gb269, 6, none⟩ = some (.int .i64 a0_6) ∧ w'.cell? ⟨gb269, 7, none⟩ = some (.int .i64 a0_7) ∧ w'.cell? ⟨gb269, 8, none⟩ = some (.int .i64 a0_8) ∧ w'.cell? ⟨gb270, 0, none⟩ = some (.string a1_0) ∧ w'.cell? ⟨gb270, 1, none⟩ = some (.int .i64 a1_1) ∧ w'.cell? ⟨gb270, 2, none⟩ = some (.int .i64 a1_2) ∧ w'.cell? ⟨gb270, 3, none⟩ = some (.int .i64 a1_3) ∧ w'.cell? ⟨gb270, 4, none⟩ = some (.int .i64 a1_4) ∧ w'.cell? ⟨gb270, 5, none⟩ = some (.int .i64 a1_5)) ∧ (w'.heap[gb269]? = some (.cells #[.int .i64 a0_0, .int .i64 a0_1, .int .i64 a0_2, .int .i64 a0_3, .int .i64 a0_4, .int .i64 a0_5, .int .i64 a0_6, .int .i64 a0_7, .int .i64 a0_8] 23 (0, 0))) ∧ (w'.heap[gb270]? = some (.cells #[.string a1_0, .int .i64 a1_1, .int .i64 a1_2, .int .i64 a1_3, .int .i64 a1_4, .int .i64 a1_5] 25 (0, 0))) ∧ (w'.heap[s_.1]? = some (.cells #[.int .i64 0, .int .i64 0, .int .i64 0, .int .i64 0, .int .i64 0, .int .i64 0, .int .i64 0, .int .i64 0, .int .i64 0] 23 (0, 0))) ∧ (w'.heap[s_.2]? = some (.cells #[.string (⟨#[]⟩ : ByteArray), .int .i64 0, .int .i64 0, .int .i64 0, .int .i64 0, .int .i64 0] 25 (0, 0))) ∧ (w.heap.size ≤ s_.1) ∧ (w.heap.size ≤ s_.1) ∧ (gb269 ≠ s_.1) ∧ (s_.1 ≠ gb269) ∧ (gb270 ≠ s_.1) ∧ (s_.1 ≠ gb270) ∧ (s_.2 ≠ s_.1) ∧ (s_.1 ≠ s_.2) ∧ (w.heap.size ≤ s_.2) ∧ (w.heap.size ≤ s_.2) ∧ (gb269 ≠ s_.2) ∧ (s_.2 ≠ gb269) ∧ (gb270 ≠ s_.2) ∧ (s_.2 ≠ gb270) ∧ (Below w.heap.size w w')) ?_ ?_
         rotate_left
         ·intro hJ4_5
          refine join_ (σ := Unit) 5 #[true, true, true, false, false, false, false, false] (fun s_ => [(15, .agg #[.int .i64 t272, .int .i64 t273, .int .i64 t274, .int .i64 t275, .int .i64 t276, .int .i64 t277, .int .i64 t278, .int .i64 t279, .int .i64 t280])]) (fun s_ w' => (w'.cell? ⟨gb269, 0, none⟩ = some (.int .i64 a0_0) ∧ w'.cell? ⟨gb269, 1, none⟩ = some (.int .i64 a0_1) ∧ w'.cell? ⟨gb269, 2, none⟩ = some (.int .i64 a0_2) ∧ w'.cell? ⟨gb269, 3, none⟩ = some (.int .i64 a0_3) ∧ w'.cell? ⟨gb269, 4, none⟩ = some (.int .i64 a0_4) ∧ w'.cell? ⟨gb269, 5, none⟩ = some (.int .i64 a0_5) ∧ w'.cell? ⟨gb269, 6, none⟩ = some (.int .i64 a0_6) ∧ w'.cell? ⟨gb269, 7, none⟩ = some (.int .i64 a0_7) ∧ w'.cell? ⟨gb269, 8, none⟩ = some (.int .i64 a0_8) ∧ w'.cell? ⟨gb270, 0, none⟩ = some (.string a1_0) ∧ w'.cell? ⟨gb270, 1, none⟩ = some (.int .i64 a1_1) ∧ w'.cell? ⟨gb270, 2, none⟩ = some (.int .i64 a1_2) ∧ w'.cell? ⟨gb270, 3, none⟩ = some (.int .i64 a1_3) ∧ w'.cell? ⟨gb270, 4, none⟩ = some (.int .i64 a1_4) ∧ w'.cell? ⟨gb270, 5, none⟩ = some (.int .i64 a1_5)) ∧ (w'.heap[gb269]? = some (.cells #[.int .i64 a0_0, .int .i64 a0_1, .int .i64 a0_2, .int .i64 a0_3, .int .i64 a0_4, .int .i64 a0_5, .int .i64 a0_6, .int .i64 a0_7, .int .i64 a0_8] 23 (0, 0))) ∧ (w'.heap[gb270]? = some (.cells #[.string a1_0, .int .i64 a1_1, .int .i64 a1_2, .int .i64 a1_3, .int .i64 a1_4, .int .i64 a1_5] 25 (0, 0))) ∧ (Below w.heap.size w w')) ?_ ?_
          rotate_left
          ·intro hJ1
           refine join_ (σ := Nat) 5 #[true, false, true, false, true, false, false, false] (fun s_ => [(7, .pointer (some ⟨s_, 0, none⟩))]) (fun s_ w' => (w'.cell? ⟨gb269, 0, none⟩ = some (.int .i64 a0_0) ∧ w'.cell? ⟨gb269, 1, none⟩ = some (.int .i64 a0_1) ∧ w'.cell? ⟨gb269, 2, none⟩ = some (.int .i64 a0_2) ∧ w'.cell? ⟨gb269, 3, none⟩ = some (.int .i64 a0_3) ∧ w'.cell? ⟨gb269, 4, none⟩ = some (.int .i64 a0_4) ∧ w'.cell? ⟨gb269, 5, none⟩ = some (.int .i64 a0_5) ∧ w'.cell? ⟨gb269, 6, none⟩ = some (.int .i64 a0_6) ∧ w'.cell? ⟨gb269, 7, none⟩ = some (.int .i64 a0_7) ∧ w'.cell? ⟨gb269, 8, none⟩ = some (.int .i64 a0_8) ∧ w'.cell? ⟨gb270, 0, none⟩ = some (.string a1_0) ∧ w'.cell? ⟨gb270, 1, none⟩ = some (.int .i64 a1_1) ∧ w'.cell? ⟨gb270, 2, none⟩ = some (.int .i64 a1_2) ∧ w'.cell? ⟨gb270, 3, none⟩ = some (.int .i64 a1_3) ∧ w'.cell? ⟨gb270, 4, none⟩ = some (.int .i64 a1_4) ∧ w'.cell? ⟨gb270, 5, none⟩ = some (.int .i64 a1_5)) ∧ (w'.heap[gb269]? = some (.cells #[.int .i64 a0_0, .int .i64 a0_1, .int .i64 a0_2, .int .i64 a0_3, .int .i64 a0_4, .int .i64 a0_5, .int .i64 a0_6, .int .i64 a0_7, .int .i64 a0_8] 23 (0, 0))) ∧ (w'.heap[gb270]? = some (.cells #[.string a1_0, .int .i64 a1_1, .int .i64 a1_2, .int .i64 a1_3, .int .i64 a1_4, .int .i64 a1_5] 25 (0, 0))) ∧ (w'.heap[s_]? = some (.cells #[.int .i64 0, .int .i64 0, .int .i64 0, .int .i64 0, .int .i64 0, .int .i64 0, .int .i64 0, .int .i64 0, .int .i64 0] 23 (0, 0))) ∧ (w.heap.size ≤ s_) ∧ (w.heap.size ≤ s_) ∧ (gb269 ≠ s_) ∧ (s_ ≠ gb269) ∧ (gb270 ≠ s_) ∧ (s_ ≠ gb270) ∧ (Below w.heap.size w w')) ?_ ?_
           rotate_left
           ·intro hJ4
            refine join_ (σ := Nat) 5 #[true, false, true, false, false, true, false, false] (fun s_ => [(8, .pointer (some ⟨s_, 0, none⟩))]) (fun s_ w' => (w'.cell? ⟨gb269, 0, none⟩ = some (.int .i64 a0_0) ∧ w'.cell? ⟨gb269, 1, none⟩ = some (.int .i64 a0_1) ∧ w'.cell? ⟨gb269, 2, none⟩ = some (.int .i64 a0_2) ∧ w'.cell? ⟨gb269, 3, none⟩ = some (.int .i64 a0_3) ∧ w'.cell? ⟨gb269, 4, none⟩ = some (.int .i64 a0_4) ∧ w'.cell? ⟨gb269, 5, none⟩ = some (.int .i64 a0_5) ∧ w'.cell? ⟨gb269, 6, none⟩ = some (.int .i64 a0_6) ∧ w'.cell? ⟨gb269, 7, none⟩ = some (.int .i64 a0_7) ∧ w'.cell? ⟨gb269, 8, none⟩ = some (.int .i64 a0_8) ∧ w'.cell? ⟨gb270, 0, none⟩ = some (.string a1_0) ∧ w'.cell? ⟨gb270, 1, none⟩ = some (.int .i64 a1_1) ∧ w'.cell? ⟨gb270, 2, none⟩ = some (.int .i64 a1_2) ∧ w'.cell? ⟨gb270, 3, none⟩ = some (.int .i64 a1_3) ∧ w'.cell? ⟨gb270, 4, none⟩ = some (.int .i64 a1_4) ∧ w'.cell? ⟨gb270, 5, none⟩ = some (.int .i64 a1_5)) ∧ (w'.heap[gb269]? = some (.cells #[.int .i64 a0_0, .int .i64 a0_1, .int .i64 a0_2, .int .i64 a0_3, .int .i64 a0_4, .int .i64 a0_5, .int .i64 a0_6, .int .i64 a0_7, .int .i64 a0_8] 23 (0, 0))) ∧ (w'.heap[gb270]? = some (.cells #[.string a1_0, .int .i64 a1_1, .int .i64 a1_2, .int .i64 a1_3, .int .i64 a1_4, .int .i64 a1_5] 25 (0, 0))) ∧ (w'.heap[s_]? = some (.cells #[.string (⟨#[]⟩ : ByteArray), .int .i64 0, .int .i64 0, .int .i64 0, .int .i64 0, .int .i64 0] 25 (0, 0))) ∧ (w.heap.size ≤ s_) ∧ (w.heap.size ≤ s_) ∧ (gb269 ≠ s_) ∧ (s_ ≠ gb269) ∧ (gb270 ≠ s_) ∧ (s_ ≠ gb270) ∧ (Below w.heap.size w w')) ?_ ?_
            rotate_left
            ·intro hJ5
             refine three_ (i := 1) (j := 4) (k := 5) (Ni := some 15) (Nj := some 7) (Nk := some 8) #[true, true, true, false, false, false, false, false] #[true, false, true, false, true, false, false, false] #[true, false, true, false, false, true, false, false] rfl rfl rfl rfl rfl rfl (three_of HT_.out (by kernel_rfl)) (by decide) (by decide) (by decide) (fun K hK => ?_) (fun K hK => ?_) (fun K hK => ?_)
             ·skip
              refine goes_ Try.func14 (by kernel_rfl) rfl #[.agg #[.int .i64 a0_0, .int .i64 a0_1, .int .i64 a0_2, .int .i64 a0_3, .int .i64 a0_4, .int .i64 a0_5, .int .i64 a0_6, .int .i64 a0_7, .int .i64 a0_8]] (by rfl) rfl rfl (by (try simp only [List.map_toArray, List.map_cons, List.map_nil]); first | done | rfl | (simp only [List.length_drop, List.length_take]; rfl)) ?_
              with_reducible refine (damperlaw10_Given_Make.calls a0_0 a0_1 a0_2 a0_3 a0_4 a0_5 a0_6 a0_7 a0_8 t272 t273 t274 t275 t276 t277 t278 t279 t280 _ A6.out).mono ?_
              rintro e w18 ⟨rfl, hb⟩
              refine ⟨_, rfl, ?_⟩
              replace BK269 := A0 (blk_below (g := gb269) (pk BK269) hb)
              replace BK270 := A0 (blk_below (g := gb270) (pk BK270) hb)
              replace HB := A0 (below_step (by repeat (first | (with_reducible first | exact HB.out | apply below_alloc | apply pw_below_drewN | apply below_drew1 | refine below_set ?_ GE269.out | refine below_set ?_ GE270.out) | exact HB.out)) hb)
              (try clear hb)
              (try clear hb2)
              (try clear hk)
              (try clear hi)
              refine hK.out _ _ ⟨bc BK269 0, bc BK269 1, bc BK269 2, bc BK269 3, bc BK269 4, bc BK269 5, bc BK269 6, bc BK269 7, bc BK269 8, bc BK270 0, bc BK270 1, bc BK270 2, bc BK270 3, bc BK270 4, bc BK270 5⟩ (fun hHeld => ?_)
              clear hK K
              refine norm_ (a' := ?_) ?_ ?_
              rotate_left
              ·show Act.put _ (some 15) _ = _
               simp only [Act.put, List.setIfInBounds_toArray, List.set_cons_zero, List.set_cons_succ, i64_w, i32_w]
               rfl
              exact norm0_ (hJ1 () _ ⟨hHeld, (pk BK269), (pk BK270), (by repeat (first | (with_reducible first | exact HB.out | apply below_alloc | apply pw_below_drewN | apply below_drew1 | refine below_set ?_ GE269.out | refine below_set ?_ GE270.out) | exact HB.out))⟩)
             ·skip
              refine box_step ?hg (N := 7) ?hd (cs := #[.int .i64 0, .int .i64 0, .int .i64 0, .int .i64 0, .int .i64 0, .int .i64 0, .int .i64 0, .int .i64 0, .int .i64 0]) (t := 23) ?hr ?_; (case hd => rfl); (case hg => rfl); (case hr => first | (go_simp; done) | (go_simp; rfl))
              intro gb287 hg w18 hbox hb
              have BK287 := A0 (hbox)
              have GW287 := A0 ((by rw [hg]; exact (below_size (by repeat (first | (with_reducible first | exact HB.out | apply below_alloc | apply pw_below_drewN | apply below_drew1 | refine below_set ?_ GE269.out | refine below_set ?_ GE270.out) | exact HB.out))) : w.heap.size ≤ gb287))
              have GE287 := GW287
              have NB269_287 := A0 ((ne_lt hg (pk BK269) : gb269 ≠ gb287))
              have NB287_269 := A0 ((ne_gt hg (pk BK269) : gb287 ≠ gb269))
              have NB270_287 := A0 ((ne_lt hg (pk BK270) : gb270 ≠ gb287))
              have NB287_270 := A0 ((ne_gt hg (pk BK270) : gb287 ≠ gb270))
              replace BK269 := A0 (blk_below (g := gb269) (pk BK269) hb)
              replace BK270 := A0 (blk_below (g := gb270) (pk BK270) hb)
              replace HB := A0 (below_step (by repeat (first | (with_reducible first | exact HB.out | apply below_alloc | apply pw_below_drewN | apply below_drew1 | refine below_set ?_ GE269.out | refine below_set ?_ GE270.out) | exact HB.out)) hb)
              clear hb hbox hg
              refine hK.out _ _ ⟨bc BK269 0, bc BK269 1, bc BK269 2, bc BK269 3, bc BK269 4, bc BK269 5, bc BK269 6, bc BK269 7, bc BK269 8, bc BK270 0, bc BK270 1, bc BK270 2, bc BK270 3, bc BK270 4, bc BK270 5⟩ (fun hHeld => ?_)
              clear hK K
              refine norm_ (a' := ?_) ?_ ?_
              rotate_left
              ·show Act.put _ (some 7) _ = _
               simp only [Act.put, List.setIfInBounds_toArray, List.set_cons_zero, List.set_cons_succ, i64_w, i32_w]
               rfl
              exact norm0_ (hJ4 (gb287) _ ⟨hHeld, (pk BK269), (pk BK270), (pk BK287), GW287.out, GE287.out, NB269_287.out, NB287_269.out, NB270_287.out, NB287_270.out, (by repeat (first | (with_reducible first | exact HB.out | apply below_alloc | apply pw_below_drewN | apply below_drew1 | refine below_set ?_ GE269.out | refine below_set ?_ GE270.out | refine below_set ?_ GE287.out) | exact HB.out))⟩)
             ·skip
              refine box_step ?hg (N := 8) ?hd (cs := #[.string (⟨#[]⟩ : ByteArray), .int .i64 0, .int .i64 0, .int .i64 0, .int .i64 0, .int .i64 0]) (t := 25) ?hr ?_; (case hd => rfl); (case hg => rfl); (case hr => first | (go_simp; done) | (go_simp; rfl))
              intro gb288 hg w18 hbox hb
              have BK288 := A0 (hbox)
              have GW288 := A0 ((by rw [hg]; exact (below_size (by repeat (first | (with_reducible first | exact HB.out | apply below_alloc | apply pw_below_drewN | apply below_drew1 | refine below_set ?_ GE269.out | refine below_set ?_ GE270.out) | exact HB.out))) : w.heap.size ≤ gb288))
              have GE288 := GW288
              have NB269_288 := A0 ((ne_lt hg (pk BK269) : gb269 ≠ gb288))
              have NB288_269 := A0 ((ne_gt hg (pk BK269) : gb288 ≠ gb269))
              have NB270_288 := A0 ((ne_lt hg (pk BK270) : gb270 ≠ gb288))
              have NB288_270 := A0 ((ne_gt hg (pk BK270) : gb288 ≠ gb270))
              replace BK269 := A0 (blk_below (g := gb269) (pk BK269) hb)
              replace BK270 := A0 (blk_below (g := gb270) (pk BK270) hb)
              replace HB := A0 (below_step (by repeat (first | (with_reducible first | exact HB.out | apply below_alloc | apply pw_below_drewN | apply below_drew1 | refine below_set ?_ GE269.out | refine below_set ?_ GE270.out) | exact HB.out)) hb)
              clear hb hbox hg
              refine hK.out _ _ ⟨bc BK269 0, bc BK269 1, bc BK269 2, bc BK269 3, bc BK269 4, bc BK269 5, bc BK269 6, bc BK269 7, bc BK269 8, bc BK270 0, bc BK270 1, bc BK270 2, bc BK270 3, bc BK270 4, bc BK270 5⟩ (fun hHeld => ?_)
              clear hK K
              refine norm_ (a' := ?_) ?_ ?_
              rotate_left
              ·show Act.put _ (some 8) _ = _
               simp only [Act.put, List.setIfInBounds_toArray, List.set_cons_zero, List.set_cons_succ, i64_w, i32_w]
               rfl
              exact norm0_ (hJ5 (gb288) _ ⟨hHeld, (pk BK269), (pk BK270), (pk BK288), GW288.out, GE288.out, NB269_288.out, NB288_269.out, NB270_288.out, NB288_270.out, (by repeat (first | (with_reducible first | exact HB.out | apply below_alloc | apply pw_below_drewN | apply below_drew1 | refine below_set ?_ GE269.out | refine below_set ?_ GE270.out | refine below_set ?_ GE288.out) | exact HB.out))⟩)
            ·skip
             rintro gb288 w19 ⟨hS_, h0_, h1_, h2_, h3_, h4_, h5_, h6_, h7_, h8_, h9_⟩
             have BK288 := A0 h2_
             have GW288 : Aside0 (w.heap.size ≤ gb288) := ⟨h3_⟩
             have GE288 : Aside0 (w.heap.size ≤ gb288) := ⟨h4_⟩
             have NB269_288 : Aside0 (gb269 ≠ gb288) := ⟨h5_⟩
             have NB288_269 : Aside0 (gb288 ≠ gb269) := ⟨h6_⟩
             have NB270_288 : Aside0 (gb270 ≠ gb288) := ⟨h7_⟩
             have NB288_270 : Aside0 (gb288 ≠ gb270) := ⟨h8_⟩
             replace BK269 := A0 h0_
             replace BK270 := A0 h1_
             replace HB : Aside0 (Below w.heap.size w w19) := ⟨h9_⟩
             clear h0_ h1_ h2_ h3_ h4_ h5_ h6_ h7_ h8_ h9_
             have hHeld := hS_
             refine norm_ (a' := ?_) ?_ ?_
             rotate_left
             ·simp only [putAll, Act.put, List.setIfInBounds_toArray, List.set_cons_zero, List.set_cons_succ]
              rfl
             refine two_ (i := 1) (j := 4) (Ni := some 15) (Nj := some 7) #[true, true, true, false, false, true, false, false] #[true, false, true, false, true, true, false, false] rfl rfl rfl rfl (two_of HT_.out (by kernel_rfl)) (by decide) (by decide) (fun K hK => ?_) (fun K hK => ?_)
             ·skip
              refine goes_ Try.func14 (by kernel_rfl) rfl #[.agg #[.int .i64 a0_0, .int .i64 a0_1, .int .i64 a0_2, .int .i64 a0_3, .int .i64 a0_4, .int .i64 a0_5, .int .i64 a0_6, .int .i64 a0_7, .int .i64 a0_8]] (by rfl) rfl rfl (by (try simp only [List.map_toArray, List.map_cons, List.map_nil]); first | done | rfl | (simp only [List.length_drop, List.length_take]; rfl)) ?_
              with_reducible refine (damperlaw10_Given_Make.calls a0_0 a0_1 a0_2 a0_3 a0_4 a0_5 a0_6 a0_7 a0_8 t272 t273 t274 t275 t276 t277 t278 t279 t280 _ A6.out).mono ?_
              rintro e w20 ⟨rfl, hb⟩
              refine ⟨_, rfl, ?_⟩
              replace BK269 := A0 (blk_below (g := gb269) (pk BK269) hb)
              replace BK270 := A0 (blk_below (g := gb270) (pk BK270) hb)
              replace BK288 := A0 (blk_below (g := gb288) (pk BK288) hb)
              replace HB := A0 (below_step (by repeat (first | (with_reducible first | exact HB.out | apply below_alloc | apply pw_below_drewN | apply below_drew1 | refine below_set ?_ GE269.out | refine below_set ?_ GE270.out | refine below_set ?_ GE288.out) | exact HB.out)) hb)
              (try clear hb)
              (try clear hb2)
              (try clear hk)
              (try clear hi)
              refine hK.out _ _ ⟨bc BK269 0, bc BK269 1, bc BK269 2, bc BK269 3, bc BK269 4, bc BK269 5, bc BK269 6, bc BK269 7, bc BK269 8, bc BK270 0, bc BK270 1, bc BK270 2, bc BK270 3, bc BK270 4, bc BK270 5⟩ (fun hHeld => ?_)
              clear hK K
              refine norm_ (a' := ?_) ?_ ?_
              rotate_left
              ·show Act.put _ (some 15) _ = _
               simp only [Act.put, List.setIfInBounds_toArray, List.set_cons_zero, List.set_cons_succ, i64_w, i32_w]
               rfl
              exact norm0_ (hJ1_5 (gb288) _ ⟨hHeld, (pk BK269), (pk BK270), (pk BK288), GW288.out, GE288.out, NB269_288.out, NB288_269.out, NB270_288.out, NB288_270.out, (by repeat (first | (with_reducible first | exact HB.out | apply below_alloc | apply pw_below_drewN | apply below_drew1 | refine below_set ?_ GE269.out | refine below_set ?_ GE270.out | refine below_set ?_ GE288.out) | exact HB.out))⟩)
             ·skip
              refine box_step ?hg (N := 7) ?hd (cs := #[.int .i64 0, .int .i64 0, .int .i64 0, .int .i64 0, .int .i64 0, .int .i64 0, .int .i64 0, .int .i64 0, .int .i64 0]) (t := 23) ?hr ?_; (case hd => rfl); (case hg => rfl); (case hr => first | (go_simp; done) | (go_simp; rfl))
              intro gb287 hg w20 hbox hb
              have BK287 := A0 (hbox)
              have GW287 := A0 ((by rw [hg]; exact (below_size (by repeat (first | (with_reducible first | exact HB.out | apply below_alloc | apply pw_below_drewN | apply below_drew1 | refine below_set ?_ GE269.out | refine below_set ?_ GE270.out | refine below_set ?_ GE288.out) | exact HB.out))) : w.heap.size ≤ gb287))
              have GE287 := GW287
              have NB269_287 := A0 ((ne_lt hg (pk BK269) : gb269 ≠ gb287))
              have NB287_269 := A0 ((ne_gt hg (pk BK269) : gb287 ≠ gb269))
              have NB270_287 := A0 ((ne_lt hg (pk BK270) : gb270 ≠ gb287))
              have NB287_270 := A0 ((ne_gt hg (pk BK270) : gb287 ≠ gb270))
              have NB288_287 := A0 ((ne_lt hg (pk BK288) : gb288 ≠ gb287))
              have NB287_288 := A0 ((ne_gt hg (pk BK288) : gb287 ≠ gb288))
              replace BK269 := A0 (blk_below (g := gb269) (pk BK269) hb)
              replace BK270 := A0 (blk_below (g := gb270) (pk BK270) hb)
              replace BK288 := A0 (blk_below (g := gb288) (pk BK288) hb)
              replace HB := A0 (below_step (by repeat (first | (with_reducible first | exact HB.out | apply below_alloc | apply pw_below_drewN | apply below_drew1 | refine below_set ?_ GE269.out | refine below_set ?_ GE270.out | refine below_set ?_ GE288.out) | exact HB.out)) hb)
              clear hb hbox hg
              refine hK.out _ _ ⟨bc BK269 0, bc BK269 1, bc BK269 2, bc BK269 3, bc BK269 4, bc BK269 5, bc BK269 6, bc BK269 7, bc BK269 8, bc BK270 0, bc BK270 1, bc BK270 2, bc BK270 3, bc BK270 4, bc BK270 5⟩ (fun hHeld => ?_)
              clear hK K
              refine norm_ (a' := ?_) ?_ ?_
              rotate_left
              ·show Act.put _ (some 7) _ = _
               simp only [Act.put, List.setIfInBounds_toArray, List.set_cons_zero, List.set_cons_succ, i64_w, i32_w]
               rfl
              exact norm0_ (hJ4_5 (gb287, gb288) _ ⟨hHeld, (pk BK269), (pk BK270), (pk BK287), (pk BK288), GW287.out, GE287.out, NB269_287.out, NB287_269.out, NB270_287.out, NB287_270.out, NB288_287.out, NB287_288.out, GW288.out, GE288.out, NB269_288.out, NB288_269.out, NB270_288.out, NB288_270.out, (by repeat (first | (with_reducible first | exact HB.out | apply below_alloc | apply pw_below_drewN | apply below_drew1 | refine below_set ?_ GE269.out | refine below_set ?_ GE270.out | refine below_set ?_ GE288.out | refine below_set ?_ GE287.out) | exact HB.out))⟩)
           ·skip
            rintro gb287 w19 ⟨hS_, h0_, h1_, h2_, h3_, h4_, h5_, h6_, h7_, h8_, h9_⟩
            have BK287 := A0 h2_
            have GW287 : Aside0 (w.heap.size ≤ gb287) := ⟨h3_⟩
            have GE287 : Aside0 (w.heap.size ≤ gb287) := ⟨h4_⟩
            have NB269_287 : Aside0 (gb269 ≠ gb287) := ⟨h5_⟩
            have NB287_269 : Aside0 (gb287 ≠ gb269) := ⟨h6_⟩
            have NB270_287 : Aside0 (gb270 ≠ gb287) := ⟨h7_⟩
            have NB287_270 : Aside0 (gb287 ≠ gb270) := ⟨h8_⟩
            replace BK269 := A0 h0_
            replace BK270 := A0 h1_
            replace HB : Aside0 (Below w.heap.size w w19) := ⟨h9_⟩
            clear h0_ h1_ h2_ h3_ h4_ h5_ h6_ h7_ h8_ h9_
            have hHeld := hS_
            refine norm_ (a' := ?_) ?_ ?_
            rotate_left
            ·simp only [putAll, Act.put, List.setIfInBounds_toArray, List.set_cons_zero, List.set_cons_succ]
             rfl
            refine two_ (i := 1) (j := 5) (Ni := some 15) (Nj := some 8) #[true, true, true, false, true, false, false, false] #[true, false, true, false, true, true, false, false] rfl rfl rfl rfl (two_of HT_.out (by kernel_rfl)) (by decide) (by decide) (fun K hK => ?_) (fun K hK => ?_)
            ·skip
             refine goes_ Try.func14 (by kernel_rfl) rfl #[.agg #[.int .i64 a0_0, .int .i64 a0_1, .int .i64 a0_2, .int .i64 a0_3, .int .i64 a0_4, .int .i64 a0_5, .int .i64 a0_6, .int .i64 a0_7, .int .i64 a0_8]] (by rfl) rfl rfl (by (try simp only [List.map_toArray, List.map_cons, List.map_nil]); first | done | rfl | (simp only [List.length_drop, List.length_take]; rfl)) ?_
             with_reducible refine (damperlaw10_Given_Make.calls a0_0 a0_1 a0_2 a0_3 a0_4 a0_5 a0_6 a0_7 a0_8 t272 t273 t274 t275 t276 t277 t278 t279 t280 _ A6.out).mono ?_
             rintro e w20 ⟨rfl, hb⟩
             refine ⟨_, rfl, ?_⟩
             replace BK269 := A0 (blk_below (g := gb269) (pk BK269) hb)
             replace BK270 := A0 (blk_below (g := gb270) (pk BK270) hb)
             replace BK287 := A0 (blk_below (g := gb287) (pk BK287) hb)
             replace HB := A0 (below_step (by repeat (first | (with_reducible first | exact HB.out | apply below_alloc | apply pw_below_drewN | apply below_drew1 | refine below_set ?_ GE269.out | refine below_set ?_ GE270.out | refine below_set ?_ GE287.out) | exact HB.out)) hb)
             (try clear hb)
             (try clear hb2)
             (try clear hk)
             (try clear hi)
             refine hK.out _ _ ⟨bc BK269 0, bc BK269 1, bc BK269 2, bc BK269 3, bc BK269 4, bc BK269 5, bc BK269 6, bc BK269 7, bc BK269 8, bc BK270 0, bc BK270 1, bc BK270 2, bc BK270 3, bc BK270 4, bc BK270 5⟩ (fun hHeld => ?_)
             clear hK K
             refine norm_ (a' := ?_) ?_ ?_
             rotate_left
             ·show Act.put _ (some 15) _ = _
              simp only [Act.put, List.setIfInBounds_toArray, List.set_cons_zero, List.set_cons_succ, i64_w, i32_w]
              rfl
             exact norm0_ (hJ1_4 (gb287) _ ⟨hHeld, (pk BK269), (pk BK270), (pk BK287), GW287.out, GE287.out, NB269_287.out, NB287_269.out, NB270_287.out, NB287_270.out, (by repeat (first | (with_reducible first | exact HB.out | apply below_alloc | apply pw_below_drewN | apply below_drew1 | refine below_set ?_ GE269.out | refine below_set ?_ GE270.out | refine below_set ?_ GE287.out) | exact HB.out))⟩)
            ·skip
             refine box_step ?hg (N := 8) ?hd (cs := #[.string (⟨#[]⟩ : ByteArray), .int .i64 0, .int .i64 0, .int .i64 0, .int .i64 0, .int .i64 0]) (t := 25) ?hr ?_; (case hd => rfl); (case hg => rfl); (case hr => first | (go_simp; done) | (go_simp; rfl))
             intro gb288 hg w20 hbox hb
             have BK288 := A0 (hbox)
             have GW288 := A0 ((by rw [hg]; exact (below_size (by repeat (first | (with_reducible first | exact HB.out | apply below_alloc | apply pw_below_drewN | apply below_drew1 | refine below_set ?_ GE269.out | refine below_set ?_ GE270.out | refine below_set ?_ GE287.out) | exact HB.out))) : w.heap.size ≤ gb288))
             have GE288 := GW288
             have NB269_288 := A0 ((ne_lt hg (pk BK269) : gb269 ≠ gb288))
             have NB288_269 := A0 ((ne_gt hg (pk BK269) : gb288 ≠ gb269))
             have NB270_288 := A0 ((ne_lt hg (pk BK270) : gb270 ≠ gb288))
             have NB288_270 := A0 ((ne_gt hg (pk BK270) : gb288 ≠ gb270))
             have NB287_288 := A0 ((ne_lt hg (pk BK287) : gb287 ≠ gb288))
             have NB288_287 := A0 ((ne_gt hg (pk BK287) : gb288 ≠ gb287))
             replace BK269 := A0 (blk_below (g := gb269) (pk BK269) hb)
             replace BK270 := A0 (blk_below (g := gb270) (pk BK270) hb)
             replace BK287 := A0 (blk_below (g := gb287) (pk BK287) hb)
             replace HB := A0 (below_step (by repeat (first | (with_reducible first | exact HB.out | apply below_alloc | apply pw_below_drewN | apply below_drew1 | refine below_set ?_ GE269.out | refine below_set ?_ GE270.out | refine below_set ?_ GE287.out) | exact HB.out)) hb)
             clear hb hbox hg
             refine hK.out _ _ ⟨bc BK269 0, bc BK269 1, bc BK269 2, bc BK269 3, bc BK269 4, bc BK269 5, bc BK269 6, bc BK269 7, bc BK269 8, bc BK270 0, bc BK270 1, bc BK270 2, bc BK270 3, bc BK270 4, bc BK270 5⟩ (fun hHeld => ?_)
             clear hK K
             refine norm_ (a' := ?_) ?_ ?_
             rotate_left
             ·show Act.put _ (some 8) _ = _
              simp only [Act.put, List.setIfInBounds_toArray, List.set_cons_zero, List.set_cons_succ, i64_w, i32_w]
              rfl
             exact norm0_ (hJ4_5 (gb287, gb288) _ ⟨hHeld, (pk BK269), (pk BK270), (pk BK287), (pk BK288), GW287.out, GE287.out, NB269_287.out, NB287_269.out, NB270_287.out, NB287_270.out, NB288_287.out, NB287_288.out, GW288.out, GE288.out, NB269_288.out, NB288_269.out, NB270_288.out, NB288_270.out, (by repeat (first | (with_reducible first | exact HB.out | apply below_alloc | apply pw_below_drewN | apply below_drew1 | refine below_set ?_ GE269.out | refine below_set ?_ GE270.out | refine below_set ?_ GE287.out | refine below_set ?_ GE288.out) | exact HB.out))⟩)
          ·skip
           rintro _ w19 ⟨hS_, h0_, h1_, h2_⟩
           replace BK269 := A0 h0_
           replace BK270 := A0 h1_
           replace HB : Aside0 (Below w.heap.size w w19) := ⟨h2_⟩
           clear h0_ h1_ h2_
           have hHeld := hS_
           refine norm_ (a' := ?_) ?_ ?_
           rotate_left
           ·simp only [putAll, Act.put, List.setIfInBounds_toArray, List.set_cons_zero, List.set_cons_succ]
            rfl
           refine three_ (i := 3) (j := 4) (k := 5) (Ni := some 17) (Nj := some 7) (Nk := some 8) #[true, true, true, true, false, false, false, false] #[true, true, true, false, true, false, false, false] #[true, true, true, false, false, true, false, false] rfl rfl rfl rfl rfl rfl (three_of HT_.out (by kernel_rfl)) (by decide) (by decide) (by decide) (fun K hK => ?_) (fun K hK => ?_) (fun K hK => ?_)
           ·skip
            refine goes_ Try.func15 (by kernel_rfl) rfl #[.agg #[.string a1_0, .int .i64 a1_1, .int .i64 a1_2, .int .i64 a1_3, .int .i64 a1_4, .int .i64 a1_5], .int .i64 0] (by rfl) rfl rfl (by (try simp only [List.map_toArray, List.map_cons, List.map_nil]); first | done | rfl | (simp only [List.length_drop, List.length_take]; rfl)) ?_
            with_reducible refine (damperlaw2_Config.calls a1_0 a1_1 a1_2 a1_3 a1_4 a1_5 0 t281 t282 t283 t284 t285 t286 _ A7.out).mono ?_
            rintro e w20 ⟨rfl, hb⟩
            refine ⟨_, rfl, ?_⟩
            replace BK269 := A0 (blk_below (g := gb269) (pk BK269) hb)
            replace BK270 := A0 (blk_below (g := gb270) (pk BK270) hb)
            replace HB := A0 (below_step (by repeat (first | (with_reducible first | exact HB.out | apply below_alloc | apply pw_below_drewN | apply below_drew1 | refine below_set ?_ GE269.out | refine below_set ?_ GE270.out) | exact HB.out)) hb)
            (try clear hb)
            (try clear hb2)
            (try clear hk)
            (try clear hi)
            refine hK.out _ _ ⟨bc BK269 0, bc BK269 1, bc BK269 2, bc BK269 3, bc BK269 4, bc BK269 5, bc BK269 6, bc BK269 7, bc BK269 8, bc BK270 0, bc BK270 1, bc BK270 2, bc BK270 3, bc BK270 4, bc BK270 5⟩ (fun hHeld => ?_)
            clear hK K
            refine norm_ (a' := ?_) ?_ ?_
            rotate_left
            ·show Act.put _ (some 17) _ = _
             simp only [Act.put, List.setIfInBounds_toArray, List.set_cons_zero, List.set_cons_succ, i64_w, i32_w]
             rfl
            exact norm0_ (hJ1_3 () _ ⟨hHeld, (pk BK269), (pk BK270), (by repeat (first | (with_reducible first | exact HB.out | apply below_alloc | apply pw_below_drewN | apply below_drew1 | refine below_set ?_ GE269.out | refine below_set ?_ GE270.out) | exact HB.out))⟩)
           ·skip
            refine box_step ?hg (N := 7) ?hd (cs := #[.int .i64 0, .int .i64 0, .int .i64 0, .int .i64 0, .int .i64 0, .int .i64 0, .int .i64 0, .int .i64 0, .int .i64 0]) (t := 23) ?hr ?_; (case hd => rfl); (case hg => rfl); (case hr => first | (go_simp; done) | (go_simp; rfl))
            intro gb287 hg w20 hbox hb
            have BK287 := A0 (hbox)
            have GW287 := A0 ((by rw [hg]; exact (below_size (by repeat (first | (with_reducible first | exact HB.out | apply below_alloc | apply pw_below_drewN | apply below_drew1 | refine below_set ?_ GE269.out | refine below_set ?_ GE270.out) | exact HB.out))) : w.heap.size ≤ gb287))
            have GE287 := GW287
            have NB269_287 := A0 ((ne_lt hg (pk BK269) : gb269 ≠ gb287))
            have NB287_269 := A0 ((ne_gt hg (pk BK269) : gb287 ≠ gb269))
            have NB270_287 := A0 ((ne_lt hg (pk BK270) : gb270 ≠ gb287))
            have NB287_270 := A0 ((ne_gt hg (pk BK270) : gb287 ≠ gb270))
            replace BK269 := A0 (blk_below (g := gb269) (pk BK269) hb)
            replace BK270 := A0 (blk_below (g := gb270) (pk BK270) hb)
            replace HB := A0 (below_step (by repeat (first | (with_reducible first | exact HB.out | apply below_alloc | apply pw_below_drewN | apply below_drew1 | refine below_set ?_ GE269.out | refine below_set ?_ GE270.out) | exact HB.out)) hb)
            clear hb hbox hg
            refine hK.out _ _ ⟨bc BK269 0, bc BK269 1, bc BK269 2, bc BK269 3, bc BK269 4, bc BK269 5, bc BK269 6, bc BK269 7, bc BK269 8, bc BK270 0, bc BK270 1, bc BK270 2, bc BK270 3, bc BK270 4, bc BK270 5⟩ (fun hHeld => ?_)
            clear hK K
            refine norm_ (a' := ?_) ?_ ?_
            rotate_left
            ·show Act.put _ (some 7) _ = _
             simp only [Act.put, List.setIfInBounds_toArray, List.set_cons_zero, List.set_cons_succ, i64_w, i32_w]
             rfl
            exact norm0_ (hJ1_4 (gb287) _ ⟨hHeld, (pk BK269), (pk BK270), (pk BK287), GW287.out, GE287.out, NB269_287.out, NB287_269.out, NB270_287.out, NB287_270.out, (by repeat (first | (with_reducible first | exact HB.out | apply below_alloc | apply pw_below_drewN | apply below_drew1 | refine below_set ?_ GE269.out | refine below_set ?_ GE270.out | refine below_set ?_ GE287.out) | exact HB.out))⟩)
           ·skip
            refine box_step ?hg (N := 8) ?hd (cs := #[.string (⟨#[]⟩ : ByteArray), .int .i64 0, .int .i64 0, .int .i64 0, .int .i64 0, .int .i64 0]) (t := 25) ?hr ?_; (case hd => rfl); (case hg => rfl); (case hr => first | (go_simp; done) | (go_simp; rfl))
            intro gb288 hg w20 hbox hb
            have BK288 := A0 (hbox)
            have GW288 := A0 ((by rw [hg]; exact (below_size (by repeat (first | (with_reducible first | exact HB.out | apply below_alloc | apply pw_below_drewN | apply below_drew1 | refine below_set ?_ GE269.out | refine below_set ?_ GE270.out) | exact HB.out))) : w.heap.size ≤ gb288))
            have GE288 := GW288
            have NB269_288 := A0 ((ne_lt hg (pk BK269) : gb269 ≠ gb288))
            have NB288_269 := A0 ((ne_gt hg (pk BK269) : gb288 ≠ gb269))
            have NB270_288 := A0 ((ne_lt hg (pk BK270) : gb270 ≠ gb288))
            have NB288_270 := A0 ((ne_gt hg (pk BK270) : gb288 ≠ gb270))
            replace BK269 := A0 (blk_below (g := gb269) (pk BK269) hb)
            replace BK270 := A0 (blk_below (g := gb270) (pk BK270) hb)
            replace HB := A0 (below_step (by repeat (first | (with_reducible first | exact HB.out | apply below_alloc | apply pw_below_drewN | apply below_drew1 | refine below_set ?_ GE269.out | refine below_set ?_ GE270.out) | exact HB.out)) hb)
            clear hb hbox hg
            refine hK.out _ _ ⟨bc BK269 0, bc BK269 1, bc BK269 2, bc BK269 3, bc BK269 4, bc BK269 5, bc BK269 6, bc BK269 7, bc BK269 8, bc BK270 0, bc BK270 1, bc BK270 2, bc BK270 3, bc BK270 4, bc BK270 5⟩ (fun hHeld => ?_)
            clear hK K
            refine norm_ (a' := ?_) ?_ ?_
            rotate_left
            ·show Act.put _ (some 8) _ = _
             simp only [Act.put, List.setIfInBounds_toArray, List.set_cons_zero, List.set_cons_succ, i64_w, i32_w]
             rfl
            exact norm0_ (hJ1_5 (gb288) _ ⟨hHeld, (pk BK269), (pk BK270), (pk BK288), GW288.out, GE288.out, NB269_288.out, NB288_269.out, NB270_288.out, NB288_270.out, (by repeat (first | (with_reducible first | exact HB.out | apply below_alloc | apply pw_below_drewN | apply below_drew1 | refine below_set ?_ GE269.out | refine below_set ?_ GE270.out | refine below_set ?_ GE288.out) | exact HB.out))⟩)
         ·skip
          rintro ⟨gb287, gb288⟩ w20 ⟨hS_, h0_, h1_, h2_, h3_, h4_, h5_, h6_, h7_, h8_, h9_, h10_, h11_, h12_, h13_, h14_, h15_, h16_, h17_, h18_⟩
          have BK287 : Aside0 (w20.heap[gb287]? = some (.cells #[.int .i64 0, .int .i64 0, .int .i64 0, .int .i64 0, .int .i64 0, .int .i64 0, .int .i64 0, .int .i64 0, .int .i64 0] 23 (0, 0))) := ⟨h2_⟩
          have BK288 : Aside0 (w20.heap[gb288]? = some (.cells #[.string (⟨#[]⟩ : ByteArray), .int .i64 0, .int .i64 0, .int .i64 0, .int .i64 0, .int .i64 0] 25 (0, 0))) := ⟨h3_⟩
          have GW287 : Aside0 (w.heap.size ≤ gb287) := ⟨h4_⟩
          have GE287 : Aside0 (w.heap.size ≤ gb287) := ⟨h5_⟩
          have NB269_287 : Aside0 (gb269 ≠ gb287) := ⟨h6_⟩
          have NB287_269 : Aside0 (gb287 ≠ gb269) := ⟨h7_⟩
          have NB270_287 : Aside0 (gb270 ≠ gb287) := ⟨h8_⟩
          have NB287_270 : Aside0 (gb287 ≠ gb270) := ⟨h9_⟩
          have NB288_287 : Aside0 (gb288 ≠ gb287) := ⟨h10_⟩
          have NB287_288 : Aside0 (gb287 ≠ gb288) := ⟨h11_⟩
          have GW288 : Aside0 (w.heap.size ≤ gb288) := ⟨h12_⟩
          have GE288 : Aside0 (w.heap.size ≤ gb288) := ⟨h13_⟩
          have NB269_288 : Aside0 (gb269 ≠ gb288) := ⟨h14_⟩
          have NB288_269 : Aside0 (gb288 ≠ gb269) := ⟨h15_⟩
          have NB270_288 : Aside0 (gb270 ≠ gb288) := ⟨h16_⟩
          have NB288_270 : Aside0 (gb288 ≠ gb270) := ⟨h17_⟩
          replace BK269 := A0 h0_
          replace BK270 := A0 h1_
          replace HB : Aside0 (Below w.heap.size w w20) := ⟨h18_⟩
          clear h0_ h1_ h2_ h3_ h4_ h5_ h6_ h7_ h8_ h9_ h10_ h11_ h12_ h13_ h14_ h15_ h16_ h17_ h18_
          have hHeld := hS_
          refine norm_ (a' := ?_) ?_ ?_
          rotate_left
          ·simp only [putAll, Act.put, List.setIfInBounds_toArray, List.set_cons_zero, List.set_cons_succ]
           rfl
          refine one_ (i := 1) (N := some 15) #[true, true, true, false, true, true, false, false] rfl rfl (one_of HT_.out (by kernel_rfl)) (by decide) (fun K hK => ?_)
          refine goes_ Try.func14 (by kernel_rfl) rfl #[.agg #[.int .i64 a0_0, .int .i64 a0_1, .int .i64 a0_2, .int .i64 a0_3, .int .i64 a0_4, .int .i64 a0_5, .int .i64 a0_6, .int .i64 a0_7, .int .i64 a0_8]] (by rfl) rfl rfl (by (try simp only [List.map_toArray, List.map_cons, List.map_nil]); first | done | rfl | (simp only [List.length_drop, List.length_take]; rfl)) ?_
          with_reducible refine (damperlaw10_Given_Make.calls a0_0 a0_1 a0_2 a0_3 a0_4 a0_5 a0_6 a0_7 a0_8 t272 t273 t274 t275 t276 t277 t278 t279 t280 _ A6.out).mono ?_
          rintro e w21 ⟨rfl, hb⟩
          refine ⟨_, rfl, ?_⟩
          replace BK269 := A0 (blk_below (g := gb269) (pk BK269) hb)
          replace BK270 := A0 (blk_below (g := gb270) (pk BK270) hb)
          replace BK287 := A0 (blk_below (g := gb287) (pk BK287) hb)
          replace BK288 := A0 (blk_below (g := gb288) (pk BK288) hb)
          replace HB := A0 (below_step (by repeat (first | (with_reducible first | exact HB.out | apply below_alloc | apply pw_below_drewN | apply below_drew1 | refine below_set ?_ GE269.out | refine below_set ?_ GE270.out | refine below_set ?_ GE287.out | refine below_set ?_ GE288.out) | exact HB.out)) hb)
          (try clear hb)
          (try clear hb2)
          (try clear hk)
          (try clear hi)
          refine hK.out _ _ ⟨bc BK269 0, bc BK269 1, bc BK269 2, bc BK269 3, bc BK269 4, bc BK269 5, bc BK269 6, bc BK269 7, bc BK269 8, bc BK270 0, bc BK270 1, bc BK270 2, bc BK270 3, bc BK270 4, bc BK270 5⟩ (fun hHeld => ?_)
          clear hK K
          refine norm_ (a' := ?_) ?_ ?_
          rotate_left
          ·show Act.put _ (some 15) _ = _
           simp only [Act.put, List.setIfInBounds_toArray, List.set_cons_zero, List.set_cons_succ, i64_w, i32_w]
           rfl
          exact norm0_ (hJ1_4_5 (gb287, gb288) _ ⟨hHeld, (pk BK269), (pk BK270), (pk BK287), (pk BK288), GW287.out, GE287.out, NB269_287.out, NB287_269.out, NB270_287.out, NB287_270.out, NB288_287.out, NB287_288.out, GW288.out, GE288.out, NB269_288.out, NB288_269.out, NB270_288.out, NB288_270.out, (by repeat (first | (with_reducible first | exact HB.out | apply below_alloc | apply pw_below_drewN | apply below_drew1 | refine below_set ?_ GE269.out | refine below_set ?_ GE270.out | refine below_set ?_ GE287.out | refine below_set ?_ GE288.out) | exact HB.out))⟩)
        ·skip
         rintro gb288 w20 ⟨hS_, h0_, h1_, h2_, h3_, h4_, h5_, h6_, h7_, h8_, h9_⟩
         have BK288 := A0 h2_
         have GW288 : Aside0 (w.heap.size ≤ gb288) := ⟨h3_⟩
         have GE288 : Aside0 (w.heap.size ≤ gb288) := ⟨h4_⟩
         have NB269_288 : Aside0 (gb269 ≠ gb288) := ⟨h5_⟩
         have NB288_269 : Aside0 (gb288 ≠ gb269) := ⟨h6_⟩
         have NB270_288 : Aside0 (gb270 ≠ gb288) := ⟨h7_⟩
         have NB288_270 : Aside0 (gb288 ≠ gb270) := ⟨h8_⟩
         replace BK269 := A0 h0_
         replace BK270 := A0 h1_
         replace HB : Aside0 (Below w.heap.size w w20) := ⟨h9_⟩
         clear h0_ h1_ h2_ h3_ h4_ h5_ h6_ h7_ h8_ h9_
         have hHeld := hS_
         refine norm_ (a' := ?_) ?_ ?_
         rotate_left
         ·simp only [putAll, Act.put, List.setIfInBounds_toArray, List.set_cons_zero, List.set_cons_succ]
          rfl
         refine two_ (i := 3) (j := 4) (Ni := some 17) (Nj := some 7) #[true, true, true, true, false, true, false, false] #[true, true, true, false, true, true, false, false] rfl rfl rfl rfl (two_of HT_.out (by kernel_rfl)) (by decide) (by decide) (fun K hK => ?_) (fun K hK => ?_)
         ·skip
          refine goes_ Try.func15 (by kernel_rfl) rfl #[.agg #[.string a1_0, .int .i64 a1_1, .int .i64 a1_2, .int .i64 a1_3, .int .i64 a1_4, .int .i64 a1_5], .int .i64 0] (by rfl) rfl rfl (by (try simp only [List.map_toArray, List.map_cons, List.map_nil]); first | done | rfl | (simp only [List.length_drop, List.length_take]; rfl)) ?_
          with_reducible refine (damperlaw2_Config.calls a1_0 a1_1 a1_2 a1_3 a1_4 a1_5 0 t281 t282 t283 t284 t285 t286 _ A7.out).mono ?_
          rintro e w21 ⟨rfl, hb⟩
          refine ⟨_, rfl, ?_⟩
          replace BK269 := A0 (blk_below (g := gb269) (pk BK269) hb)
          replace BK270 := A0 (blk_below (g := gb270) (pk BK270) hb)
          replace BK288 := A0 (blk_below (g := gb288) (pk BK288) hb)
          replace HB := A0 (below_step (by repeat (first | (with_reducible first | exact HB.out | apply below_alloc | apply pw_below_drewN | apply below_drew1 | refine below_set ?_ GE269.out | refine below_set ?_ GE270.out | refine below_set ?_ GE288.out) | exact HB.out)) hb)
          (try clear hb)
          (try clear hb2)
          (try clear hk)
          (try clear hi)
          refine hK.out _ _ ⟨bc BK269 0, bc BK269 1, bc BK269 2, bc BK269 3, bc BK269 4, bc BK269 5, bc BK269 6, bc BK269 7, bc BK269 8, bc BK270 0, bc BK270 1, bc BK270 2, bc BK270 3, bc BK270 4, bc BK270 5⟩ (fun hHeld => ?_)
          clear hK K
          refine norm_ (a' := ?_) ?_ ?_
          rotate_left
          ·show Act.put _ (some 17) _ = _
           simp only [Act.put, List.setIfInBounds_toArray, List.set_cons_zero, List.set_cons_succ, i64_w, i32_w]
           rfl
          exact norm0_ (hJ1_3_5 (gb288) _ ⟨hHeld, (pk BK269), (pk BK270), (pk BK288), GW288.out, GE288.out, NB269_288.out, NB288_269.out, NB270_288.out, NB288_270.out, (by repeat (first | (with_reducible first | exact HB.out | apply below_alloc | apply pw_below_drewN | apply below_drew1 | refine below_set ?_ GE269.out | refine below_set ?_ GE270.out | refine below_set ?_ GE288.out) | exact HB.out))⟩)
         ·skip
          refine box_step ?hg (N := 7) ?hd (cs := #[.int .i64 0, .int .i64 0, .int .i64 0, .int .i64 0, .int .i64 0, .int .i64 0, .int .i64 0, .int .i64 0, .int .i64 0]) (t := 23) ?hr ?_; (case hd => rfl); (case hg => rfl); (case hr => first | (go_simp; done) | (go_simp; rfl))
          intro gb287 hg w21 hbox hb
          have BK287 := A0 (hbox)
          have GW287 := A0 ((by rw [hg]; exact (below_size (by repeat (first | (with_reducible first | exact HB.out | apply below_alloc | apply pw_below_drewN | apply below_drew1 | refine below_set ?_ GE269.out | refine below_set ?_ GE270.out | refine below_set ?_ GE288.out) | exact HB.out))) : w.heap.size ≤ gb287))
          have GE287 := GW287
          have NB269_287 := A0 ((ne_lt hg (pk BK269) : gb269 ≠ gb287))
          have NB287_269 := A0 ((ne_gt hg (pk BK269) : gb287 ≠ gb269))
          have NB270_287 := A0 ((ne_lt hg (pk BK270) : gb270 ≠ gb287))
          have NB287_270 := A0 ((ne_gt hg (pk BK270) : gb287 ≠ gb270))
          have NB288_287 := A0 ((ne_lt hg (pk BK288) : gb288 ≠ gb287))
          have NB287_288 := A0 ((ne_gt hg (pk BK288) : gb287 ≠ gb288))
          replace BK269 := A0 (blk_below (g := gb269) (pk BK269) hb)
          replace BK270 := A0 (blk_below (g := gb270) (pk BK270) hb)
          replace BK288 := A0 (blk_below (g := gb288) (pk BK288) hb)
          replace HB := A0 (below_step (by repeat (first | (with_reducible first | exact HB.out | apply below_alloc | apply pw_below_drewN | apply below_drew1 | refine below_set ?_ GE269.out | refine below_set ?_ GE270.out | refine below_set ?_ GE288.out) | exact HB.out)) hb)
          clear hb hbox hg
          refine hK.out _ _ ⟨bc BK269 0, bc BK269 1, bc BK269 2, bc BK269 3, bc BK269 4, bc BK269 5, bc BK269 6, bc BK269 7, bc BK269 8, bc BK270 0, bc BK270 1, bc BK270 2, bc BK270 3, bc BK270 4, bc BK270 5⟩ (fun hHeld => ?_)
          clear hK K
          refine norm_ (a' := ?_) ?_ ?_
          rotate_left
          ·show Act.put _ (some 7) _ = _
           simp only [Act.put, List.setIfInBounds_toArray, List.set_cons_zero, List.set_cons_succ, i64_w, i32_w]
           rfl
          exact norm0_ (hJ1_4_5 (gb287, gb288) _ ⟨hHeld, (pk BK269), (pk BK270), (pk BK287), (pk BK288), GW287.out, GE287.out, NB269_287.out, NB287_269.out, NB270_287.out, NB287_270.out, NB288_287.out, NB287_288.out, GW288.out, GE288.out, NB269_288.out, NB288_269.out, NB270_288.out, NB288_270.out, (by repeat (first | (with_reducible first | exact HB.out | apply below_alloc | apply pw_below_drewN | apply below_drew1 | refine below_set ?_ GE269.out | refine below_set ?_ GE270.out | refine below_set ?_ GE288.out | refine below_set ?_ GE287.out) | exact HB.out))⟩)
       ·skip
        rintro gb287 w20 ⟨hS_, h0_, h1_, h2_, h3_, h4_, h5_, h6_, h7_, h8_, h9_⟩
        have BK287 := A0 h2_
        have GW287 : Aside0 (w.heap.size ≤ gb287) := ⟨h3_⟩
        have GE287 : Aside0 (w.heap.size ≤ gb287) := ⟨h4_⟩
        have NB269_287 : Aside0 (gb269 ≠ gb287) := ⟨h5_⟩
        have NB287_269 : Aside0 (gb287 ≠ gb269) := ⟨h6_⟩
        have NB270_287 : Aside0 (gb270 ≠ gb287) := ⟨h7_⟩
        have NB287_270 : Aside0 (gb287 ≠ gb270) := ⟨h8_⟩
        replace BK269 := A0 h0_
        replace BK270 := A0 h1_
        replace HB : Aside0 (Below w.heap.size w w20) := ⟨h9_⟩
        clear h0_ h1_ h2_ h3_ h4_ h5_ h6_ h7_ h8_ h9_
        have hHeld := hS_
        refine norm_ (a' := ?_) ?_ ?_
        rotate_left
        ·simp only [putAll, Act.put, List.setIfInBounds_toArray, List.set_cons_zero, List.set_cons_succ]
         rfl
        refine two_ (i := 3) (j := 5) (Ni := some 17) (Nj := some 8) #[true, true, true, true, true, false, false, false] #[true, true, true, false, true, true, false, false] rfl rfl rfl rfl (two_of HT_.out (by kernel_rfl)) (by decide) (by decide) (fun K hK => ?_) (fun K hK => ?_)
        ·skip
         refine goes_ Try.func15 (by kernel_rfl) rfl #[.agg #[.string a1_0, .int .i64 a1_1, .int .i64 a1_2, .int .i64 a1_3, .int .i64 a1_4, .int .i64 a1_5], .int .i64 0] (by rfl) rfl rfl (by (try simp only [List.map_toArray, List.map_cons, List.map_nil]); first | done | rfl | (simp only [List.length_drop, List.length_take]; rfl)) ?_
         with_reducible refine (damperlaw2_Config.calls a1_0 a1_1 a1_2 a1_3 a1_4 a1_5 0 t281 t282 t283 t284 t285 t286 _ A7.out).mono ?_
         rintro e w21 ⟨rfl, hb⟩
         refine ⟨_, rfl, ?_⟩
         replace BK269 := A0 (blk_below (g := gb269) (pk BK269) hb)
         replace BK270 := A0 (blk_below (g := gb270) (pk BK270) hb)
         replace BK287 := A0 (blk_below (g := gb287) (pk BK287) hb)
         replace HB := A0 (below_step (by repeat (first | (with_reducible first | exact HB.out | apply below_alloc | apply pw_below_drewN | apply below_drew1 | refine below_set ?_ GE269.out | refine below_set ?_ GE270.out | refine below_set ?_ GE287.out) | exact HB.out)) hb)
         (try clear hb)
         (try clear hb2)
         (try clear hk)
         (try clear hi)
         refine hK.out _ _ ⟨bc BK269 0, bc BK269 1, bc BK269 2, bc BK269 3, bc BK269 4, bc BK269 5, bc BK269 6, bc BK269 7, bc BK269 8, bc BK270 0, bc BK270 1, bc BK270 2, bc BK270 3, bc BK270 4, bc BK270 5⟩ (fun hHeld => ?_)
         clear hK K
         refine norm_ (a' := ?_) ?_ ?_
         rotate_left
         ·show Act.put _ (some 17) _ = _
          simp only [Act.put, List.setIfInBounds_toArray, List.set_cons_zero, List.set_cons_succ, i64_w, i32_w]
          rfl
         exact norm0_ (hJ1_3_4 (gb287) _ ⟨hHeld, (pk BK269), (pk BK270), (pk BK287), GW287.out, GE287.out, NB269_287.out, NB287_269.out, NB270_287.out, NB287_270.out, (by repeat (first | (with_reducible first | exact HB.out | apply below_alloc | apply pw_below_drewN | apply below_drew1 | refine below_set ?_ GE269.out | refine below_set ?_ GE270.out | refine below_set ?_ GE287.out) | exact HB.out))⟩)
        ·skip
         refine box_step ?hg (N := 8) ?hd (cs := #[.string (⟨#[]⟩ : ByteArray), .int .i64 0, .int .i64 0, .int .i64 0, .int .i64 0, .int .i64 0]) (t := 25) ?hr ?_; (case hd => rfl); (case hg => rfl); (case hr => first | (go_simp; done) | (go_simp; rfl))
         intro gb288 hg w21 hbox hb
         have BK288 := A0 (hbox)
         have GW288 := A0 ((by rw [hg]; exact (below_size (by repeat (first | (with_reducible first | exact HB.out | apply below_alloc | apply pw_below_drewN | apply below_drew1 | refine below_set ?_ GE269.out | refine below_set ?_ GE270.out | refine below_set ?_ GE287.out) | exact HB.out))) : w.heap.size ≤ gb288))
         have GE288 := GW288
         have NB269_288 := A0 ((ne_lt hg (pk BK269) : gb269 ≠ gb288))
         have NB288_269 := A0 ((ne_gt hg (pk BK269) : gb288 ≠ gb269))
         have NB270_288 := A0 ((ne_lt hg (pk BK270) : gb270 ≠ gb288))
         have NB288_270 := A0 ((ne_gt hg (pk BK270) : gb288 ≠ gb270))
         have NB287_288 := A0 ((ne_lt hg (pk BK287) : gb287 ≠ gb288))
         have NB288_287 := A0 ((ne_gt hg (pk BK287) : gb288 ≠ gb287))
         replace BK269 := A0 (blk_below (g := gb269) (pk BK269) hb)
         replace BK270 := A0 (blk_below (g := gb270) (pk BK270) hb)
         replace BK287 := A0 (blk_below (g := gb287) (pk BK287) hb)
         replace HB := A0 (below_step (by repeat (first | (with_reducible first | exact HB.out | apply below_alloc | apply pw_below_drewN | apply below_drew1 | refine below_set ?_ GE269.out | refine below_set ?_ GE270.out | refine below_set ?_ GE287.out) | exact HB.out)) hb)
         clear hb hbox hg
         refine hK.out _ _ ⟨bc BK269 0, bc BK269 1, bc BK269 2, bc BK269 3, bc BK269 4, bc BK269 5, bc BK269 6, bc BK269 7, bc BK269 8, bc BK270 0, bc BK270 1, bc BK270 2, bc BK270 3, bc BK270 4, bc BK270 5⟩ (fun hHeld => ?_)
         clear hK K
         refine norm_ (a' := ?_) ?_ ?_
         rotate_left
         ·show Act.put _ (some 8) _ = _
          simp only [Act.put, List.setIfInBounds_toArray, List.set_cons_zero, List.set_cons_succ, i64_w, i32_w]
          rfl
         exact norm0_ (hJ1_4_5 (gb287, gb288) _ ⟨hHeld, (pk BK269), (pk BK270), (pk BK287), (pk BK288), GW287.out, GE287.out, NB269_287.out, NB287_269.out, NB270_287.out, NB287_270.out, NB288_287.out, NB287_288.out, GW288.out, GE288.out, NB269_288.out, NB288_269.out, NB270_288.out, NB288_270.out, (by repeat (first | (with_reducible first | exact HB.out | apply below_alloc | apply pw_below_drewN | apply below_drew1 | refine below_set ?_ GE269.out | refine below_set ?_ GE270.out | refine below_set ?_ GE287.out | refine below_set ?_ GE288.out) | exact HB.out))⟩)
      ·skip
       rintro _ w20 ⟨hS_, h0_, h1_, h2_⟩
       replace BK269 := A0 h0_
       replace BK270 := A0 h1_
       replace HB : Aside0 (Below w.heap.size w w20) := ⟨h2_⟩
       clear h0_ h1_ h2_
       have hHeld := hS_
       refine norm_ (a' := ?_) ?_ ?_
       rotate_left
       ·simp only [putAll, Act.put, List.setIfInBounds_toArray, List.set_cons_zero, List.set_cons_succ]
        rfl
       refine two_ (i := 4) (j := 5) (Ni := some 7) (Nj := some 8) #[true, true, true, true, true, false, false, false] #[true, true, true, true, false, true, false, false] rfl rfl rfl rfl (two_of HT_.out (by kernel_rfl)) (by decide) (by decide) (fun K hK => ?_) (fun K hK => ?_)
       ·skip
        refine box_step ?hg (N := 7) ?hd (cs := #[.int .i64 0, .int .i64 0, .int .i64 0, .int .i64 0, .int .i64 0, .int .i64 0, .int .i64 0, .int .i64 0, .int .i64 0]) (t := 23) ?hr ?_; (case hd => rfl); (case hg => rfl); (case hr => first | (go_simp; done) | (go_simp; rfl))
        intro gb287 hg w21 hbox hb
        have BK287 := A0 (hbox)
        have GW287 := A0 ((by rw [hg]; exact (below_size (by repeat (first | (with_reducible first | exact HB.out | apply below_alloc | apply pw_below_drewN | apply below_drew1 | refine below_set ?_ GE269.out | refine below_set ?_ GE270.out) | exact HB.out))) : w.heap.size ≤ gb287))
        have GE287 := GW287
        have NB269_287 := A0 ((ne_lt hg (pk BK269) : gb269 ≠ gb287))
        have NB287_269 := A0 ((ne_gt hg (pk BK269) : gb287 ≠ gb269))
        have NB270_287 := A0 ((ne_lt hg (pk BK270) : gb270 ≠ gb287))
        have NB287_270 := A0 ((ne_gt hg (pk BK270) : gb287 ≠ gb270))
        replace BK269 := A0 (blk_below (g := gb269) (pk BK269) hb)
        replace BK270 := A0 (blk_below (g := gb270) (pk BK270) hb)
        replace HB := A0 (below_step (by repeat (first | (with_reducible first | exact HB.out | apply below_alloc | apply pw_below_drewN | apply below_drew1 | refine below_set ?_ GE269.out | refine below_set ?_ GE270.out) | exact HB.out)) hb)
        clear hb hbox hg
        refine hK.out _ _ ⟨bc BK269 0, bc BK269 1, bc BK269 2, bc BK269 3, bc BK269 4, bc BK269 5, bc BK269 6, bc BK269 7, bc BK269 8, bc BK270 0, bc BK270 1, bc BK270 2, bc BK270 3, bc BK270 4, bc BK270 5⟩ (fun hHeld => ?_)
        clear hK K
        refine norm_ (a' := ?_) ?_ ?_
        rotate_left
        ·show Act.put _ (some 7) _ = _
         simp only [Act.put, List.setIfInBounds_toArray, List.set_cons_zero, List.set_cons_succ, i64_w, i32_w]
         rfl
        exact norm0_ (hJ1_3_4 (gb287) _ ⟨hHeld, (pk BK269), (pk BK270), (pk BK287), GW287.out, GE287.out, NB269_287.out, NB287_269.out, NB270_287.out, NB287_270.out, (by repeat (first | (with_reducible first | exact HB.out | apply below_alloc | apply pw_below_drewN | apply below_drew1 | refine below_set ?_ GE269.out | refine below_set ?_ GE270.out | refine below_set ?_ GE287.out) | exact HB.out))⟩)
       ·skip
        refine box_step ?hg (N := 8) ?hd (cs := #[.string (⟨#[]⟩ : ByteArray), .int .i64 0, .int .i64 0, .int .i64 0, .int .i64 0, .int .i64 0]) (t := 25) ?hr ?_; (case hd => rfl); (case hg => rfl); (case hr => first | (go_simp; done) | (go_simp; rfl))
        intro gb288 hg w21 hbox hb
        have BK288 := A0 (hbox)
        have GW288 := A0 ((by rw [hg]; exact (below_size (by repeat (first | (with_reducible first | exact HB.out | apply below_alloc | apply pw_below_drewN | apply below_drew1 | refine below_set ?_ GE269.out | refine below_set ?_ GE270.out) | exact HB.out))) : w.heap.size ≤ gb288))
        have GE288 := GW288
        have NB269_288 := A0 ((ne_lt hg (pk BK269) : gb269 ≠ gb288))
        have NB288_269 := A0 ((ne_gt hg (pk BK269) : gb288 ≠ gb269))
        have NB270_288 := A0 ((ne_lt hg (pk BK270) : gb270 ≠ gb288))
        have NB288_270 := A0 ((ne_gt hg (pk BK270) : gb288 ≠ gb270))
        replace BK269 := A0 (blk_below (g := gb269) (pk BK269) hb)
        replace BK270 := A0 (blk_below (g := gb270) (pk BK270) hb)
        replace HB := A0 (below_step (by repeat (first | (with_reducible first | exact HB.out | apply below_alloc | apply pw_below_drewN | apply below_drew1 | refine below_set ?_ GE269.out | refine below_set ?_ GE270.out) | exact HB.out)) hb)
        clear hb hbox hg
        refine hK.out _ _ ⟨bc BK269 0, bc BK269 1, bc BK269 2, bc BK269 3, bc BK269 4, bc BK269 5, bc BK269 6, bc BK269 7, bc BK269 8, bc BK270 0, bc BK270 1, bc BK270 2, bc BK270 3, bc BK270 4, bc BK270 5⟩ (fun hHeld => ?_)
        clear hK K
        refine norm_ (a' := ?_) ?_ ?_
        rotate_left
        ·show Act.put _ (some 8) _ = _
         simp only [Act.put, List.setIfInBounds_toArray, List.set_cons_zero, List.set_cons_succ, i64_w, i32_w]
         rfl
        exact norm0_ (hJ1_3_5 (gb288) _ ⟨hHeld, (pk BK269), (pk BK270), (pk BK288), GW288.out, GE288.out, NB269_288.out, NB288_269.out, NB270_288.out, NB288_270.out, (by repeat (first | (with_reducible first | exact HB.out | apply below_alloc | apply pw_below_drewN | apply below_drew1 | refine below_set ?_ GE269.out | refine below_set ?_ GE270.out | refine below_set ?_ GE288.out) | exact HB.out))⟩)
     ·skip
      rintro ⟨gb287, gb288⟩ w21 ⟨hS_, h0_, h1_, h2_, h3_, h4_, h5_, h6_, h7_, h8_, h9_, h10_, h11_, h12_, h13_, h14_, h15_, h16_, h17_, h18_⟩
      have BK287 : Aside0 (w21.heap[gb287]? = some (.cells #[.int .i64 0, .int .i64 0, .int .i64 0, .int .i64 0, .int .i64 0, .int .i64 0, .int .i64 0, .int .i64 0, .int .i64 0] 23 (0, 0))) := ⟨h2_⟩
      have BK288 : Aside0 (w21.heap[gb288]? = some (.cells #[.string (⟨#[]⟩ : ByteArray), .int .i64 0, .int .i64 0, .int .i64 0, .int .i64 0, .int .i64 0] 25 (0, 0))) := ⟨h3_⟩
      have GW287 : Aside0 (w.heap.size ≤ gb287) := ⟨h4_⟩
      have GE287 : Aside0 (w.heap.size ≤ gb287) := ⟨h5_⟩
      have NB269_287 : Aside0 (gb269 ≠ gb287) := ⟨h6_⟩
      have NB287_269 : Aside0 (gb287 ≠ gb269) := ⟨h7_⟩
      have NB270_287 : Aside0 (gb270 ≠ gb287) := ⟨h8_⟩
      have NB287_270 : Aside0 (gb287 ≠ gb270) := ⟨h9_⟩
      have NB288_287 : Aside0 (gb288 ≠ gb287) := ⟨h10_⟩
      have NB287_288 : Aside0 (gb287 ≠ gb288) := ⟨h11_⟩
      have GW288 : Aside0 (w.heap.size ≤ gb288) := ⟨h12_⟩
      have GE288 : Aside0 (w.heap.size ≤ gb288) := ⟨h13_⟩
      have NB269_288 : Aside0 (gb269 ≠ gb288) := ⟨h14_⟩
      have NB288_269 : Aside0 (gb288 ≠ gb269) := ⟨h15_⟩
      have NB270_288 : Aside0 (gb270 ≠ gb288) := ⟨h16_⟩
      have NB288_270 : Aside0 (gb288 ≠ gb270) := ⟨h17_⟩
      replace BK269 := A0 h0_
      replace BK270 := A0 h1_
      replace HB : Aside0 (Below w.heap.size w w21) := ⟨h18_⟩
      clear h0_ h1_ h2_ h3_ h4_ h5_ h6_ h7_ h8_ h9_ h10_ h11_ h12_ h13_ h14_ h15_ h16_ h17_ h18_
      have hHeld := hS_
      refine norm_ (a' := ?_) ?_ ?_
      rotate_left
      ·simp only [putAll, Act.put, List.setIfInBounds_toArray, List.set_cons_zero, List.set_cons_succ]
       rfl
      refine one_ (i := 3) (N := some 17) #[true, true, true, true, true, true, false, false] rfl rfl (one_of HT_.out (by kernel_rfl)) (by decide) (fun K hK => ?_)
      refine goes_ Try.func15 (by kernel_rfl) rfl #[.agg #[.string a1_0, .int .i64 a1_1, .int .i64 a1_2, .int .i64 a1_3, .int .i64 a1_4, .int .i64 a1_5], .int .i64 0] (by rfl) rfl rfl (by (try simp only [List.map_toArray, List.map_cons, List.map_nil]); first | done | rfl | (simp only [List.length_drop, List.length_take]; rfl)) ?_
      with_reducible refine (damperlaw2_Config.calls a1_0 a1_1 a1_2 a1_3 a1_4 a1_5 0 t281 t282 t283 t284 t285 t286 _ A7.out).mono ?_
      rintro e w22 ⟨rfl, hb⟩
      refine ⟨_, rfl, ?_⟩
      replace BK269 := A0 (blk_below (g := gb269) (pk BK269) hb)
      replace BK270 := A0 (blk_below (g := gb270) (pk BK270) hb)
      replace BK287 := A0 (blk_below (g := gb287) (pk BK287) hb)
      replace BK288 := A0 (blk_below (g := gb288) (pk BK288) hb)
      replace HB := A0 (below_step (by repeat (first | (with_reducible first | exact HB.out | apply below_alloc | apply pw_below_drewN | apply below_drew1 | refine below_set ?_ GE269.out | refine below_set ?_ GE270.out | refine below_set ?_ GE287.out | refine below_set ?_ GE288.out) | exact HB.out)) hb)
      (try clear hb)
      (try clear hb2)
      (try clear hk)
      (try clear hi)
      refine hK.out _ _ ⟨bc BK269 0, bc BK269 1, bc BK269 2, bc BK269 3, bc BK269 4, bc BK269 5, bc BK269 6, bc BK269 7, bc BK269 8, bc BK270 0, bc BK270 1, bc BK270 2, bc BK270 3, bc BK270 4, bc BK270 5⟩ (fun hHeld => ?_)
      clear hK K
      refine norm_ (a' := ?_) ?_ ?_
      rotate_left
      ·show Act.put _ (some 17) _ = _
       simp only [Act.put, List.setIfInBounds_toArray, List.set_cons_zero, List.set_cons_succ, i64_w, i32_w]
       rfl
      exact norm0_ (hJ1_3_4_5 (gb287, gb288) _ ⟨hHeld, (pk BK269), (pk BK270), (pk BK287), (pk BK288), GW287.out, GE287.out, NB269_287.out, NB287_269.out, NB270_287.out, NB287_270.out, NB288_287.out, NB287_288.out, GW288.out, GE288.out, NB269_288.out, NB288_269.out, NB270_288.out, NB288_270.out, (by repeat (first | (with_reducible first | exact HB.out | apply below_alloc | apply pw_below_drewN | apply below_drew1 | refine below_set ?_ GE269.out | refine below_set ?_ GE270.out | refine below_set ?_ GE287.out | refine below_set ?_ GE288.out) | exact HB.out))⟩)
    ·skip
     rintro gb288 w21 ⟨hS_, h0_, h1_, h2_, h3_, h4_, h5_, h6_, h7_, h8_, h9_⟩
     have BK288 := A0 h2_
     have GW288 : Aside0 (w.heap.size ≤ gb288) := ⟨h3_⟩
     have GE288 : Aside0 (w.heap.size ≤ gb288) := ⟨h4_⟩
     have NB269_288 : Aside0 (gb269 ≠ gb288) := ⟨h5_⟩
     have NB288_269 : Aside0 (gb288 ≠ gb269) := ⟨h6_⟩
     have NB270_288 : Aside0 (gb270 ≠ gb288) := ⟨h7_⟩
     have NB288_270 : Aside0 (gb288 ≠ gb270) := ⟨h8_⟩
     replace BK269 := A0 h0_
     replace BK270 := A0 h1_
     replace HB : Aside0 (Below w.heap.size w w21) := ⟨h9_⟩
     clear h0_ h1_ h2_ h3_ h4_ h5_ h6_ h7_ h8_ h9_
     have hHeld := hS_
     refine norm_ (a' := ?_) ?_ ?_
     rotate_left
     ·simp only [putAll, Act.put, List.setIfInBounds_toArray, List.set_cons_zero, List.set_cons_succ]
      rfl
     refine one_ (i := 4) (N := some 7) #[true, true, true, true, true, true, false, false] rfl rfl (one_of HT_.out (by kernel_rfl)) (by decide) (fun K hK => ?_)
     refine box_step ?hg (N := 7) ?hd (cs := #[.int .i64 0, .int .i64 0, .int .i64 0, .int .i64 0, .int .i64 0, .int .i64 0, .int .i64 0, .int .i64 0, .int .i64 0]) (t := 23) ?hr ?_; (case hd => rfl); (case hg => rfl); (case hr => first | (go_simp; done) | (go_simp; rfl))
     intro gb287 hg w22 hbox hb
     have BK287 := A0 (hbox)
     have GW287 := A0 ((by rw [hg]; exact (below_size (by repeat (first | (with_reducible first | exact HB.out | apply below_alloc | apply pw_below_drewN | apply below_drew1 | refine below_set ?_ GE269.out | refine below_set ?_ GE270.out | refine below_set ?_ GE288.out) | exact HB.out))) : w.heap.size ≤ gb287))
     have GE287 := GW287
     have NB269_287 := A0 ((ne_lt hg (pk BK269) : gb269 ≠ gb287))
     have NB287_269 := A0 ((ne_gt hg (pk BK269) : gb287 ≠ gb269))
     have NB270_287 := A0 ((ne_lt hg (pk BK270) : gb270 ≠ gb287))
     have NB287_270 := A0 ((ne_gt hg (pk BK270) : gb287 ≠ gb270))
     have NB288_287 := A0 ((ne_lt hg (pk BK288) : gb288 ≠ gb287))
     have NB287_288 := A0 ((ne_gt hg (pk BK288) : gb287 ≠ gb288))
     replace BK269 := A0 (blk_below (g := gb269) (pk BK269) hb)
     replace BK270 := A0 (blk_below (g := gb270) (pk BK270) hb)
     replace BK288 := A0 (blk_below (g := gb288) (pk BK288) hb)
     replace HB := A0 (below_step (by repeat (first | (with_reducible first | exact HB.out | apply below_alloc | apply pw_below_drewN | apply below_drew1 | refine below_set ?_ GE269.out | refine below_set ?_ GE270.out | refine below_set ?_ GE288.out) | exact HB.out)) hb)
     clear hb hbox hg
     refine hK.out _ _ ⟨bc BK269 0, bc BK269 1, bc BK269 2, bc BK269 3, bc BK269 4, bc BK269 5, bc BK269 6, bc BK269 7, bc BK269 8, bc BK270 0, bc BK270 1, bc BK270 2, bc BK270 3, bc BK270 4, bc BK270 5⟩ (fun hHeld => ?_)
     clear hK K
     refine norm_ (a' := ?_) ?_ ?_
     rotate_left
     ·show Act.put _ (some 7) _ = _
      simp only [Act.put, List.setIfInBounds_toArray, List.set_cons_zero, List.set_cons_succ, i64_w, i32_w]
      rfl
     exact norm0_ (hJ1_3_4_5 (gb287, gb288) _ ⟨hHeld, (pk BK269), (pk BK270), (pk BK287), (pk BK288), GW287.out, GE287.out, NB269_287.out, NB287_269.out, NB270_287.out, NB287_270.out, NB288_287.out, NB287_288.out, GW288.out, GE288.out, NB269_288.out, NB288_269.out, NB270_288.out, NB288_270.out, (by repeat (first | (with_reducible first | exact HB.out | apply below_alloc | apply pw_below_drewN | apply below_drew1 | refine below_set ?_ GE269.out | refine below_set ?_ GE270.out | refine below_set ?_ GE288.out | refine below_set ?_ GE287.out) | exact HB.out))⟩)
   ·skip
    rintro gb287 w21 ⟨hS_, h0_, h1_, h2_, h3_, h4_, h5_, h6_, h7_, h8_, h9_⟩
    have BK287 := A0 h2_
    have GW287 : Aside0 (w.heap.size ≤ gb287) := ⟨h3_⟩
    have GE287 : Aside0 (w.heap.size ≤ gb287) := ⟨h4_⟩
    have NB269_287 : Aside0 (gb269 ≠ gb287) := ⟨h5_⟩
    have NB287_269 : Aside0 (gb287 ≠ gb269) := ⟨h6_⟩
    have NB270_287 : Aside0 (gb270 ≠ gb287) := ⟨h7_⟩
    have NB287_270 : Aside0 (gb287 ≠ gb270) := ⟨h8_⟩
    replace BK269 := A0 h0_
    replace BK270 := A0 h1_
    replace HB : Aside0 (Below w.heap.size w w21) := ⟨h9_⟩
    clear h0_ h1_ h2_ h3_ h4_ h5_ h6_ h7_ h8_ h9_
    have hHeld := hS_
    refine norm_ (a' := ?_) ?_ ?_
    rotate_left
    ·simp only [putAll, Act.put, List.setIfInBounds_toArray, List.set_cons_zero, List.set_cons_succ]
     rfl
    refine one_ (i := 5) (N := some 8) #[true, true, true, true, true, true, false, false] rfl rfl (one_of HT_.out (by kernel_rfl)) (by decide) (fun K hK => ?_)
    refine box_step ?hg (N := 8) ?hd (cs := #[.string (⟨#[]⟩ : ByteArray), .int .i64 0, .int .i64 0, .int .i64 0, .int .i64 0, .int .i64 0]) (t := 25) ?hr ?_; (case hd => rfl); (case hg => rfl); (case hr => first | (go_simp; done) | (go_simp; rfl))
    intro gb288 hg w22 hbox hb
    have BK288 := A0 (hbox)
    have GW288 := A0 ((by rw [hg]; exact (below_size (by repeat (first | (with_reducible first | exact HB.out | apply below_alloc | apply pw_below_drewN | apply below_drew1 | refine below_set ?_ GE269.out | refine below_set ?_ GE270.out | refine below_set ?_ GE287.out) | exact HB.out))) : w.heap.size ≤ gb288))
    have GE288 := GW288
    have NB269_288 := A0 ((ne_lt hg (pk BK269) : gb269 ≠ gb288))
    have NB288_269 := A0 ((ne_gt hg (pk BK269) : gb288 ≠ gb269))
    have NB270_288 := A0 ((ne_lt hg (pk BK270) : gb270 ≠ gb288))
    have NB288_270 := A0 ((ne_gt hg (pk BK270) : gb288 ≠ gb270))
    have NB287_288 := A0 ((ne_lt hg (pk BK287) : gb287 ≠ gb288))
    have NB288_287 := A0 ((ne_gt hg (pk BK287) : gb288 ≠ gb287))
    replace BK269 := A0 (blk_below (g := gb269) (pk BK269) hb)
    replace BK270 := A0 (blk_below (g := gb270) (pk BK270) hb)
    replace BK287 := A0 (blk_below (g := gb287) (pk BK287) hb)
    replace HB := A0 (below_step (by repeat (first | (with_reducible first | exact HB.out | apply below_alloc | apply pw_below_drewN | apply below_drew1 | refine below_set ?_ GE269.out | refine below_set ?_ GE270.out | refine below_set ?_ GE287.out) | exact HB.out)) hb)
    clear hb hbox hg
    refine hK.out _ _ ⟨bc BK269 0, bc BK269 1, bc BK269 2, bc BK269 3, bc BK269 4, bc BK269 5, bc BK269 6, bc BK269 7, bc BK269 8, bc BK270 0, bc BK270 1, bc BK270 2, bc BK270 3, bc BK270 4, bc BK270 5⟩ (fun hHeld => ?_)
    clear hK K
    refine norm_ (a' := ?_) ?_ ?_
    rotate_left
    ·show Act.put _ (some 8) _ = _
     simp only [Act.put, List.setIfInBounds_toArray, List.set_cons_zero, List.set_cons_succ, i64_w, i32_w]
     rfl
    exact norm0_ (hJ1_3_4_5 (gb287, gb288) _ ⟨hHeld, (pk BK269), (pk BK270), (pk BK287), (pk BK288), GW287.out, GE287.out, NB269_287.out, NB287_269.out, NB270_287.out, NB287_270.out, NB288_287.out, NB287_288.out, GW288.out, GE288.out, NB269_288.out, NB288_269.out, NB270_288.out, NB288_270.out, (by repeat (first | (with_reducible first | exact HB.out | apply below_alloc | apply pw_below_drewN | apply below_drew1 | refine below_set ?_ GE269.out | refine below_set ?_ GE270.out | refine below_set ?_ GE287.out | refine below_set ?_ GE288.out) | exact HB.out))⟩)
  rintro ⟨gb287, gb288⟩ w22 ⟨hS_, h0_, h1_, h2_, h3_, h4_, h5_, h6_, h7_, h8_, h9_, h10_, h11_, h12_, h13_, h14_, h15_, h16_, h17_, h18_⟩
  have BK287 : Aside0 (w22.heap[gb287]? = some (.cells #[.int .i64 0, .int .i64 0, .int .i64 0, .int .i64 0, .int .i64 0, .int .i64 0, .int .i64 0, .int .i64 0, .int .i64 0] 23 (0, 0))) := ⟨h2_⟩
  have BK288 : Aside0 (w22.heap[gb288]? = some (.cells #[.string (⟨#[]⟩ : ByteArray), .int .i64 0, .int .i64 0, .int .i64 0, .int .i64 0, .int .i64 0] 25 (0, 0))) := ⟨h3_⟩
  have GW287 : Aside0 (w.heap.size ≤ gb287) := ⟨h4_⟩
  have GE287 : Aside0 (w.heap.size ≤ gb287) := ⟨h5_⟩
  have NB269_287 : Aside0 (gb269 ≠ gb287) := ⟨h6_⟩
  have NB287_269 : Aside0 (gb287 ≠ gb269) := ⟨h7_⟩
  have NB270_287 : Aside0 (gb270 ≠ gb287) := ⟨h8_⟩
  have NB287_270 : Aside0 (gb287 ≠ gb270) := ⟨h9_⟩
  have NB288_287 : Aside0 (gb288 ≠ gb287) := ⟨h10_⟩
  have NB287_288 : Aside0 (gb287 ≠ gb288) := ⟨h11_⟩
  have GW288 : Aside0 (w.heap.size ≤ gb288) := ⟨h12_⟩
  have GE288 : Aside0 (w.heap.size ≤ gb288) := ⟨h13_⟩
  have NB269_288 : Aside0 (gb269 ≠ gb288) := ⟨h14_⟩
  have NB288_269 : Aside0 (gb288 ≠ gb269) := ⟨h15_⟩
  have NB270_288 : Aside0 (gb270 ≠ gb288) := ⟨h16_⟩
  have NB288_270 : Aside0 (gb288 ≠ gb270) := ⟨h17_⟩
  replace BK269 := A0 h0_
  replace BK270 := A0 h1_
  replace HB : Aside0 (Below w.heap.size w w22) := ⟨h18_⟩
  clear h0_ h1_ h2_ h3_ h4_ h5_ h6_ h7_ h8_ h9_ h10_ h11_ h12_ h13_ h14_ h15_ h16_ h17_ h18_
  have hHeld := hS_
  refine norm_ (a' := ?_) ?_ ?_
  rotate_left
  ·simp only [putAll, Act.put, List.setIfInBounds_toArray, List.set_cons_zero, List.set_cons_succ]
   rfl
  refine one_ (i := 6) (N := none) #[true, true, true, true, true, true, true, false] rfl rfl (one_of HT_.out (by kernel_rfl)) (by decide) (fun K hK => ?_)
  have hs23 : w22.cell? ⟨gb287, 0, none⟩ = some (.int .i64 0) := bc BK287 0
  have hfs23 := blk_frozen BK287.out 0
  have hns23_0 := NB269_287.out
  have hns23_1 := NB270_287.out
  have hns23_3 := NB288_287.out
  have hms23_0 := NB287_269.out
  have hms23_1 := NB287_270.out
  have hms23_3 := NB287_288.out
  have hs24 : w22.cell? ⟨gb287, 1, none⟩ = some (.int .i64 0) := bc BK287 1
  have hfs24 := blk_frozen BK287.out 1
  have hs25 : w22.cell? ⟨gb287, 2, none⟩ = some (.int .i64 0) := bc BK287 2
  have hfs25 := blk_frozen BK287.out 2
  have hs26 : w22.cell? ⟨gb287, 3, none⟩ = some (.int .i64 0) := bc BK287 3
  have hfs26 := blk_frozen BK287.out 3
  have hs27 : w22.cell? ⟨gb287, 4, none⟩ = some (.int .i64 0) := bc BK287 4
  have hfs27 := blk_frozen BK287.out 4
  have hs28 : w22.cell? ⟨gb287, 5, none⟩ = some (.int .i64 0) := bc BK287 5
  have hfs28 := blk_frozen BK287.out 5
  have hs29 : w22.cell? ⟨gb287, 6, none⟩ = some (.int .i64 0) := bc BK287 6
  have hfs29 := blk_frozen BK287.out 6
  have hs30 : w22.cell? ⟨gb287, 7, none⟩ = some (.int .i64 0) := bc BK287 7
  have hfs30 := blk_frozen BK287.out 7
  have hs31 : w22.cell? ⟨gb287, 8, none⟩ = some (.int .i64 0) := bc BK287 8
  have hfs31 := blk_frozen BK287.out 8
  with_reducible_and_instances refine skip_ (w1 := ?_) ?hw_ ?hN_ ?_ ?_
  (case hw_ => rfl)
  (case hN_ => rfl)
  rotate_left
  ·go_simp
   rfl
  refine hK.out _ _ ⟨(cf NB269_287 ((cf NB269_287 ((cf NB269_287 ((cf NB269_287 ((cf NB269_287 ((cf NB269_287 ((cf NB269_287 ((cf NB269_287 ((cf NB269_287 (hHeld.1)))))))))))))))))), (cf NB269_287 ((cf NB269_287 ((cf NB269_287 ((cf NB269_287 ((cf NB269_287 ((cf NB269_287 ((cf NB269_287 ((cf NB269_287 ((cf NB269_287 (hHeld.2.1)))))))))))))))))), (cf NB269_287 ((cf NB269_287 ((cf NB269_287 ((cf NB269_287 ((cf NB269_287 ((cf NB269_287 ((cf NB269_287 ((cf NB269_287 ((cf NB269_287 (hHeld.2.2.1)))))))))))))))))), (cf NB269_287 ((cf NB269_287 ((cf NB269_287 ((cf NB269_287 ((cf NB269_287 ((cf NB269_287 ((cf NB269_287 ((cf NB269_287 ((cf NB269_287 (hHeld.2.2.2.1)))))))))))))))))), (cf NB269_287 ((cf NB269_287 ((cf NB269_287 ((cf NB269_287 ((cf NB269_287 ((cf NB269_287 ((cf NB269_287 ((cf NB269_287 ((cf NB269_287 (hHeld.2.2.2.2.1)))))))))))))))))), (cf NB269_287 ((cf NB269_287 ((cf NB269_287 ((cf NB269_287 ((cf NB269_287 ((cf NB269_287 ((cf NB269_287 ((cf NB269_287 ((cf NB269_287 (hHeld.2.2.2.2.2.1)))))))))))))))))), (cf NB269_287 ((cf NB269_287 ((cf NB269_287 ((cf NB269_287 ((cf NB269_287 ((cf NB269_287 ((cf NB269_287 ((cf NB269_287 ((cf NB269_287 (hHeld.2.2.2.2.2.2.1)))))))))))))))))), (cf NB269_287 ((cf NB269_287 ((cf NB269_287 ((cf NB269_287 ((cf NB269_287 ((cf NB269_287 ((cf NB269_287 ((cf NB269_287 ((cf NB269_287 (hHeld.2.2.2.2.2.2.2.1)))))))))))))))))), (cf NB269_287 ((cf NB269_287 ((cf NB269_287 ((cf NB269_287 ((cf NB269_287 ((cf NB269_287 ((cf NB269_287 ((cf NB269_287 ((cf NB269_287 (hHeld.2.2.2.2.2.2.2.2.1)))))))))))))))))), (cf NB270_287 ((cf NB270_287 ((cf NB270_287 ((cf NB270_287 ((cf NB270_287 ((cf NB270_287 ((cf NB270_287 ((cf NB270_287 ((cf NB270_287 (hHeld.2.2.2.2.2.2.2.2.2.1)))))))))))))))))), (cf NB270_287 ((cf NB270_287 ((cf NB270_287 ((cf NB270_287 ((cf NB270_287 ((cf NB270_287 ((cf NB270_287 ((cf NB270_287 ((cf NB270_287 (hHeld.2.2.2.2.2.2.2.2.2.2.1)))))))))))))))))), (cf NB270_287 ((cf NB270_287 ((cf NB270_287 ((cf NB270_287 ((cf NB270_287 ((cf NB270_287 ((cf NB270_287 ((cf NB270_287 ((cf NB270_287 (hHeld.2.2.2.2.2.2.2.2.2.2.2.1)))))))))))))))))), (cf NB270_287 ((cf NB270_287 ((cf NB270_287 ((cf NB270_287 ((cf NB270_287 ((cf NB270_287 ((cf NB270_287 ((cf NB270_287 ((cf NB270_287 (hHeld.2.2.2.2.2.2.2.2.2.2.2.2.1)))))))))))))))))), (cf NB270_287 ((cf NB270_287 ((cf NB270_287 ((cf NB270_287 ((cf NB270_287 ((cf NB270_287 ((cf NB270_287 ((cf NB270_287 ((cf NB270_287 (hHeld.2.2.2.2.2.2.2.2.2.2.2.2.2.1)))))))))))))))))), (cf NB270_287 ((cf NB270_287 ((cf NB270_287 ((cf NB270_287 ((cf NB270_287 ((cf NB270_287 ((cf NB270_287 ((cf NB270_287 ((cf NB270_287 (hHeld.2.2.2.2.2.2.2.2.2.2.2.2.2.2))))))))))))))))))⟩ (fun hHeld => ?_)
  clear hK K
  refine one_ (i := 7) (N := none) #[true, true, true, true, true, true, true, true] rfl rfl (one_of HT_.out (by kernel_rfl)) (by decide) (fun K hK => ?_)
  have hs32 : w22.cell? ⟨gb288, 0, none⟩ = some (.string (⟨#[]⟩ : ByteArray)) := bc BK288 0
  have hfs32 := blk_frozen BK288.out 0
  have hns32_0 := NB269_288.out
  have hns32_1 := NB270_288.out
  have hns32_2 := NB287_288.out
  have hms32_0 := NB288_269.out
  have hms32_1 := NB288_270.out
  have hms32_2 := NB288_287.out
  have hs33 : w22.cell? ⟨gb288, 1, none⟩ = some (.int .i64 0) := bc BK288 1
  have hfs33 := blk_frozen BK288.out 1
  have hs34 : w22.cell? ⟨gb288, 2, none⟩ = some (.int .i64 0) := bc BK288 2
  have hfs34 := blk_frozen BK288.out 2
  have hs35 : w22.cell? ⟨gb288, 3, none⟩ = some (.int .i64 0) := bc BK288 3
  have hfs35 := blk_frozen BK288.out 3
  have hs36 : w22.cell? ⟨gb288, 4, none⟩ = some (.int .i64 0) := bc BK288 4
  have hfs36 := blk_frozen BK288.out 4
  have hs37 : w22.cell? ⟨gb288, 5, none⟩ = some (.int .i64 0) := bc BK288 5
  have hfs37 := blk_frozen BK288.out 5
  with_reducible_and_instances refine skip_ (w1 := ?_) ?hw_ ?hN_ ?_ ?_
  (case hw_ => rfl)
  (case hN_ => rfl)
  rotate_left
  ·go_simp
   rfl
  refine hK.out _ _ ⟨(cf NB269_288 ((cf NB269_288 ((cf NB269_288 ((cf NB269_288 ((cf NB269_288 ((cf NB269_288 (hHeld.1)))))))))))), (cf NB269_288 ((cf NB269_288 ((cf NB269_288 ((cf NB269_288 ((cf NB269_288 ((cf NB269_288 (hHeld.2.1)))))))))))), (cf NB269_288 ((cf NB269_288 ((cf NB269_288 ((cf NB269_288 ((cf NB269_288 ((cf NB269_288 (hHeld.2.2.1)))))))))))), (cf NB269_288 ((cf NB269_288 ((cf NB269_288 ((cf NB269_288 ((cf NB269_288 ((cf NB269_288 (hHeld.2.2.2.1)))))))))))), (cf NB269_288 ((cf NB269_288 ((cf NB269_288 ((cf NB269_288 ((cf NB269_288 ((cf NB269_288 (hHeld.2.2.2.2.1)))))))))))), (cf NB269_288 ((cf NB269_288 ((cf NB269_288 ((cf NB269_288 ((cf NB269_288 ((cf NB269_288 (hHeld.2.2.2.2.2.1)))))))))))), (cf NB269_288 ((cf NB269_288 ((cf NB269_288 ((cf NB269_288 ((cf NB269_288 ((cf NB269_288 (hHeld.2.2.2.2.2.2.1)))))))))))), (cf NB269_288 ((cf NB269_288 ((cf NB269_288 ((cf NB269_288 ((cf NB269_288 ((cf NB269_288 (hHeld.2.2.2.2.2.2.2.1)))))))))))), (cf NB269_288 ((cf NB269_288 ((cf NB269_288 ((cf NB269_288 ((cf NB269_288 ((cf NB269_288 (hHeld.2.2.2.2.2.2.2.2.1)))))))))))), (cf NB270_288 ((cf NB270_288 ((cf NB270_288 ((cf NB270_288 ((cf NB270_288 ((cf NB270_288 (hHeld.2.2.2.2.2.2.2.2.2.1)))))))))))), (cf NB270_288 ((cf NB270_288 ((cf NB270_288 ((cf NB270_288 ((cf NB270_288 ((cf NB270_288 (hHeld.2.2.2.2.2.2.2.2.2.2.1)))))))))))), (cf NB270_288 ((cf NB270_288 ((cf NB270_288 ((cf NB270_288 ((cf NB270_288 ((cf NB270_288 (hHeld.2.2.2.2.2.2.2.2.2.2.2.1)))))))))))), (cf NB270_288 ((cf NB270_288 ((cf NB270_288 ((cf NB270_288 ((cf NB270_288 ((cf NB270_288 (hHeld.2.2.2.2.2.2.2.2.2.2.2.2.1)))))))))))), (cf NB270_288 ((cf NB270_288 ((cf NB270_288 ((cf NB270_288 ((cf NB270_288 ((cf NB270_288 (hHeld.2.2.2.2.2.2.2.2.2.2.2.2.2.1)))))))))))), (cf NB270_288 ((cf NB270_288 ((cf NB270_288 ((cf NB270_288 ((cf NB270_288 ((cf NB270_288 (hHeld.2.2.2.2.2.2.2.2.2.2.2.2.2.2))))))))))))⟩ (fun hHeld => ?_)
  clear hK K
  refine done_ (done_of HT_.out (by kernel_rfl)) ?_
  have hnb38 := NB287_269.out
  have hnc38 := NB269_287.out
  have hnb39 := NB287_270.out
  have hnc39 := NB270_287.out
  have hnb40 := NB287_288.out
  have hnc40 := NB288_287.out
  have hcz41_0 : w22.cell? ⟨gb287, 0, none⟩ = some (.int .i64 0) := bc BK287 0
  have hcz41_1 : w22.cell? ⟨gb287, 1, none⟩ = some (.int .i64 0) := bc BK287 1
  have hcz41_2 : w22.cell? ⟨gb287, 2, none⟩ = some (.int .i64 0) := bc BK287 2
  have hcz41_3 : w22.cell? ⟨gb287, 3, none⟩ = some (.int .i64 0) := bc BK287 3
  have hcz41_4 : w22.cell? ⟨gb287, 4, none⟩ = some (.int .i64 0) := bc BK287 4
  have hcz41_5 : w22.cell? ⟨gb287, 5, none⟩ = some (.int .i64 0) := bc BK287 5
  have hcz41_6 : w22.cell? ⟨gb287, 6, none⟩ = some (.int .i64 0) := bc BK287 6
  have hcz41_7 : w22.cell? ⟨gb287, 7, none⟩ = some (.int .i64 0) := bc BK287 7
  have hcz41_8 : w22.cell? ⟨gb287, 8, none⟩ = some (.int .i64 0) := bc BK287 8
  have hfz41_0 := blk_frozen BK287.out 0
  have hfz41_1 := blk_frozen BK287.out 1
  have hfz41_2 := blk_frozen BK287.out 2
  have hfz41_3 := blk_frozen BK287.out 3
  have hfz41_4 := blk_frozen BK287.out 4
  have hfz41_5 := blk_frozen BK287.out 5
  have hfz41_6 := blk_frozen BK287.out 6
  have hfz41_7 := blk_frozen BK287.out 7
  have hfz41_8 := blk_frozen BK287.out 8
  try go_wp2_with (first | ((with_reducible refine gate_dst (N := 9) rfl ?_); refine box_event ?hg (N := 9) ?hd (cs := #[.int .i64 0, .int .i64 0, .int .i64 0, .int .i64 0, .int .i64 0, .int .i64 0, .int .i64 0, .int .i64 0, .int .i64 0]) (t := 23) ?hr ?_; (case hd => rfl); (case hg => rfl); (case hr => first | (go_simp; done) | (go_simp; rfl)); intro gb289 hg w42 hbox hb; have n0_ := A0 (blk_below (g := gb269) (o := .cells #[.int .i64 a0_0, .int .i64 a0_1, .int .i64 a0_2, .int .i64 a0_3, .int .i64 a0_4, .int .i64 a0_5, .int .i64 a0_6, .int .i64 a0_7, .int .i64 a0_8] 23 (0, 0)) (by (repeat ((with_reducible repeat (first | refine blk_drewN ?_ _ | refine blk_drew ?_ | refine blk_alloc ?_ _)); with_reducible refine blk_far ?_ NB269_288.out _)); (repeat ((with_reducible repeat (first | refine blk_drewN ?_ _ | refine blk_drew ?_ | refine blk_alloc ?_ _)); with_reducible refine blk_far ?_ NB269_287.out _)); (with_reducible repeat (first | refine blk_drewN ?_ _ | refine blk_drew ?_ | refine blk_alloc ?_ _)); exact BK269.out) hb); have n1_ := A0 (blk_below (g := gb270) (o := .cells #[.string a1_0, .int .i64 a1_1, .int .i64 a1_2, .int .i64 a1_3, .int .i64 a1_4, .int .i64 a1_5] 25 (0, 0)) (by (repeat ((with_reducible repeat (first | refine blk_drewN ?_ _ | refine blk_drew ?_ | refine blk_alloc ?_ _)); with_reducible refine blk_far ?_ NB270_288.out _)); (repeat ((with_reducible repeat (first | refine blk_drewN ?_ _ | refine blk_drew ?_ | refine blk_alloc ?_ _)); with_reducible refine blk_far ?_ NB270_287.out _)); (with_reducible repeat (first | refine blk_drewN ?_ _ | refine blk_drew ?_ | refine blk_alloc ?_ _)); exact BK270.out) hb); have n2_ := A0 (blk_below (g := gb287) (o := .cells #[.int .i64 t272, .int .i64 t273, .int .i64 t274, .int .i64 t275, .int .i64 t276, .int .i64 t277, .int .i64 t278, .int .i64 t279, .int .i64 t280] 23 (0, 0)) (by (repeat ((with_reducible repeat (first | refine blk_drewN ?_ _ | refine blk_drew ?_ | refine blk_alloc ?_ _)); with_reducible refine blk_far ?_ NB287_288.out _)); (with_reducible repeat (first | refine blk_drewN ?_ _ | refine blk_drew ?_ | refine blk_alloc ?_ _)); refine blk_put (cs := #[.int .i64 t272, .int .i64 t273, .int .i64 t274, .int .i64 t275, .int .i64 t276, .int .i64 t277, .int .i64 t278, .int .i64 t279, .int .i64 0]) ?_ 8 _ rfl; refine blk_put (cs := #[.int .i64 t272, .int .i64 t273, .int .i64 t274, .int .i64 t275, .int .i64 t276, .int .i64 t277, .int .i64 t278, .int .i64 0, .int .i64 0]) ?_ 7 _ rfl; refine blk_put (cs := #[.int .i64 t272, .int .i64 t273, .int .i64 t274, .int .i64 t275, .int .i64 t276, .int .i64 t277, .int .i64 0, .int .i64 0, .int .i64 0]) ?_ 6 _ rfl; refine blk_put (cs := #[.int .i64 t272, .int .i64 t273, .int .i64 t274, .int .i64 t275, .int .i64 t276, .int .i64 0, .int .i64 0, .int .i64 0, .int .i64 0]) ?_ 5 _ rfl; refine blk_put (cs := #[.int .i64 t272, .int .i64 t273, .int .i64 t274, .int .i64 t275, .int .i64 0, .int .i64 0, .int .i64 0, .int .i64 0, .int .i64 0]) ?_ 4 _ rfl; refine blk_put (cs := #[.int .i64 t272, .int .i64 t273, .int .i64 t274, .int .i64 0, .int .i64 0, .int .i64 0, .int .i64 0, .int .i64 0, .int .i64 0]) ?_ 3 _ rfl; refine blk_put (cs := #[.int .i64 t272, .int .i64 t273, .int .i64 0, .int .i64 0, .int .i64 0, .int .i64 0, .int .i64 0, .int .i64 0, .int .i64 0]) ?_ 2 _ rfl; refine blk_put (cs := #[.int .i64 t272, .int .i64 0, .int .i64 0, .int .i64 0, .int .i64 0, .int .i64 0, .int .i64 0, .int .i64 0, .int .i64 0]) ?_ 1 _ rfl; refine blk_put (cs := #[.int .i64 0, .int .i64 0, .int .i64 0, .int .i64 0, .int .i64 0, .int .i64 0, .int .i64 0, .int .i64 0, .int .i64 0]) ?_ 0 _ rfl; (with_reducible repeat (first | refine blk_drewN ?_ _ | refine blk_drew ?_ | refine blk_alloc ?_ _)); exact BK287.out) hb); have n3_ := A0 (blk_below (g := gb288) (o := .cells #[.string t281, .int .i64 t282, .int .i64 t283, .int .i64 t284, .int .i64 t285, .int .i64 t286] 25 (0, 0)) (by (with_reducible repeat (first | refine blk_drewN ?_ _ | refine blk_drew ?_ | refine blk_alloc ?_ _)); refine blk_put (cs := #[.string t281, .int .i64 t282, .int .i64 t283, .int .i64 t284, .int .i64 t285, .int .i64 0]) ?_ 5 _ rfl; refine blk_put (cs := #[.string t281, .int .i64 t282, .int .i64 t283, .int .i64 t284, .int .i64 0, .int .i64 0]) ?_ 4 _ rfl; refine blk_put (cs := #[.string t281, .int .i64 t282, .int .i64 t283, .int .i64 0, .int .i64 0, .int .i64 0]) ?_ 3 _ rfl; refine blk_put (cs := #[.string t281, .int .i64 t282, .int .i64 0, .int .i64 0, .int .i64 0, .int .i64 0]) ?_ 2 _ rfl; refine blk_put (cs := #[.string t281, .int .i64 0, .int .i64 0, .int .i64 0, .int .i64 0, .int .i64 0]) ?_ 1 _ rfl; refine blk_put (cs := #[.string (⟨#[]⟩ : ByteArray), .int .i64 0, .int .i64 0, .int .i64 0, .int .i64 0, .int .i64 0]) ?_ 0 _ rfl; (repeat ((with_reducible repeat (first | refine blk_drewN ?_ _ | refine blk_drew ?_ | refine blk_alloc ?_ _)); with_reducible refine blk_far ?_ NB288_287.out _)); (with_reducible repeat (first | refine blk_drewN ?_ _ | refine blk_drew ?_ | refine blk_alloc ?_ _)); exact BK288.out) hb); have n4_ := A0 (below_step (by repeat (first | (with_reducible first | exact HB.out | apply below_alloc | apply pw_below_drewN | apply below_drew1 | refine below_set ?_ GE269.out | refine below_set ?_ GE270.out | refine below_set ?_ GE287.out | refine below_set ?_ GE288.out) | exact HB.out)) hb); have n5_ := A0 (hbox); have n6_ := A0 ((by rw [hg]; exact (below_size (by repeat (first | (with_reducible first | exact HB.out | apply below_alloc | apply pw_below_drewN | apply below_drew1 | refine below_set ?_ GE269.out | refine below_set ?_ GE270.out | refine below_set ?_ GE287.out | refine below_set ?_ GE288.out) | exact HB.out))) : w.heap.size ≤ gb289)); have n7_ := A0 ((by rw [hg]; exact (below_size (by repeat (first | (with_reducible first | exact HB.out | apply below_alloc | apply pw_below_drewN | apply below_drew1 | refine below_set ?_ GE269.out | refine below_set ?_ GE270.out | refine below_set ?_ GE287.out | refine below_set ?_ GE288.out) | exact HB.out))) : w.heap.size ≤ gb289)); have n8_ := A0 ((by rw [hg]; exact Nat.ne_of_lt (blk_lt (g := gb269) (o := .cells #[.int .i64 a0_0, .int .i64 a0_1, .int .i64 a0_2, .int .i64 a0_3, .int .i64 a0_4, .int .i64 a0_5, .int .i64 a0_6, .int .i64 a0_7, .int .i64 a0_8] 23 (0, 0)) (by (repeat ((with_reducible repeat (first | refine blk_drewN ?_ _ | refine blk_drew ?_ | refine blk_alloc ?_ _)); with_reducible refine blk_far ?_ NB269_288.out _)); (repeat ((with_reducible repeat (first | refine blk_drewN ?_ _ | refine blk_drew ?_ | refine blk_alloc ?_ _)); with_reducible refine blk_far ?_ NB269_287.out _)); (with_reducible repeat (first | refine blk_drewN ?_ _ | refine blk_drew ?_ | refine blk_alloc ?_ _)); exact BK269.out)) : gb269 ≠ gb289)); have n9_ := A0 ((by rw [hg]; exact Nat.ne_of_gt (blk_lt (g := gb269) (o := .cells #[.int .i64 a0_0, .int .i64 a0_1, .int .i64 a0_2, .int .i64 a0_3, .int .i64 a0_4, .int .i64 a0_5, .int .i64 a0_6, .int .i64 a0_7, .int .i64 a0_8] 23 (0, 0)) (by (repeat ((with_reducible repeat (first | refine blk_drewN ?_ _ | refine blk_drew ?_ | refine blk_alloc ?_ _)); with_reducible refine blk_far ?_ NB269_288.out _)); (repeat ((with_reducible repeat (first | refine blk_drewN ?_ _ | refine blk_drew ?_ | refine blk_alloc ?_ _)); with_reducible refine blk_far ?_ NB269_287.out _)); (with_reducible repeat (first | refine blk_drewN ?_ _ | refine blk_drew ?_ | refine blk_alloc ?_ _)); exact BK269.out)) : gb289 ≠ gb269)); have n10_ := A0 ((by rw [hg]; exact Nat.ne_of_lt (blk_lt (g := gb270) (o := .cells #[.string a1_0, .int .i64 a1_1, .int .i64 a1_2, .int .i64 a1_3, .int .i64 a1_4, .int .i64 a1_5] 25 (0, 0)) (by (repeat ((with_reducible repeat (first | refine blk_drewN ?_ _ | refine blk_drew ?_ | refine blk_alloc ?_ _)); with_reducible refine blk_far ?_ NB270_288.out _)); (repeat ((with_reducible repeat (first | refine blk_drewN ?_ _ | refine blk_drew ?_ | refine blk_alloc ?_ _)); with_reducible refine blk_far ?_ NB270_287.out _)); (with_reducible repeat (first | refine blk_drewN ?_ _ | refine blk_drew ?_ | refine blk_alloc ?_ _)); exact BK270.out)) : gb270 ≠ gb289)); have n11_ := A0 ((by rw [hg]; exact Nat.ne_of_gt (blk_lt (g := gb270) (o := .cells #[.string a1_0, .int .i64 a1_1, .int .i64 a1_2, .int .i64 a1_3, .int .i64 a1_4, .int .i64 a1_5] 25 (0, 0)) (by (repeat ((with_reducible repeat (first | refine blk_drewN ?_ _ | refine blk_drew ?_ | refine blk_alloc ?_ _)); with_reducible refine blk_far ?_ NB270_288.out _)); (repeat ((with_reducible repeat (first | refine blk_drewN ?_ _ | refine blk_drew ?_ | refine blk_alloc ?_ _)); with_reducible refine blk_far ?_ NB270_287.out _)); (with_reducible repeat (first | refine blk_drewN ?_ _ | refine blk_drew ?_ | refine blk_alloc ?_ _)); exact BK270.out)) : gb289 ≠ gb270)); have n12_ := A0 ((by rw [hg]; exact Nat.ne_of_lt (blk_lt (g := gb287) (o := .cells #[.int .i64 t272, .int .i64 t273, .int .i64 t274, .int .i64 t275, .int .i64 t276, .int .i64 t277, .int .i64 t278, .int .i64 t279, .int .i64 t280] 23 (0, 0)) (by (repeat ((with_reducible repeat (first | refine blk_drewN ?_ _ | refine blk_drew ?_ | refine blk_alloc ?_ _)); with_reducible refine blk_far ?_ NB287_288.out _)); (with_reducible repeat (first | refine blk_drewN ?_ _ | refine blk_drew ?_ | refine blk_alloc ?_ _)); refine blk_put (cs := #[.int .i64 t272, .int .i64 t273, .int .i64 t274, .int .i64 t275, .int .i64 t276, .int .i64 t277, .int .i64 t278, .int .i64 t279, .int .i64 0]) ?_ 8 _ rfl; refine blk_put (cs := #[.int .i64 t272, .int .i64 t273, .int .i64 t274, .int .i64 t275, .int .i64 t276, .int .i64 t277, .int .i64 t278, .int .i64 0, .int .i64 0]) ?_ 7 _ rfl; refine blk_put (cs := #[.int .i64 t272, .int .i64 t273, .int .i64 t274, .int .i64 t275, .int .i64 t276, .int .i64 t277, .int .i64 0, .int .i64 0, .int .i64 0]) ?_ 6 _ rfl; refine blk_put (cs := #[.int .i64 t272, .int .i64 t273, .int .i64 t274, .int .i64 t275, .int .i64 t276, .int .i64 0, .int .i64 0, .int .i64 0, .int .i64 0]) ?_ 5 _ rfl; refine blk_put (cs := #[.int .i64 t272, .int .i64 t273, .int .i64 t274, .int .i64 t275, .int .i64 0, .int .i64 0, .int .i64 0, .int .i64 0, .int .i64 0]) ?_ 4 _ rfl; refine blk_put (cs := #[.int .i64 t272, .int .i64 t273, .int .i64 t274, .int .i64 0, .int .i64 0, .int .i64 0, .int .i64 0, .int .i64 0, .int .i64 0]) ?_ 3 _ rfl; refine blk_put (cs := #[.int .i64 t272, .int .i64 t273, .int .i64 0, .int .i64 0, .int .i64 0, .int .i64 0, .int .i64 0, .int .i64 0, .int .i64 0]) ?_ 2 _ rfl; refine blk_put (cs := #[.int .i64 t272, .int .i64 0, .int .i64 0, .int .i64 0, .int .i64 0, .int .i64 0, .int .i64 0, .int .i64 0, .int .i64 0]) ?_ 1 _ rfl; refine blk_put (cs := #[.int .i64 0, .int .i64 0, .int .i64 0, .int .i64 0, .int .i64 0, .int .i64 0, .int .i64 0, .int .i64 0, .int .i64 0]) ?_ 0 _ rfl; (with_reducible repeat (first | refine blk_drewN ?_ _ | refine blk_drew ?_ | refine blk_alloc ?_ _)); exact BK287.out)) : gb287 ≠ gb289)); have n13_ := A0 ((by rw [hg]; exact Nat.ne_of_gt (blk_lt (g := gb287) (o := .cells #[.int .i64 t272, .int .i64 t273, .int .i64 t274, .int .i64 t275, .int .i64 t276, .int .i64 t277, .int .i64 t278, .int .i64 t279, .int .i64 t280] 23 (0, 0)) (by (repeat ((with_reducible repeat (first | refine blk_drewN ?_ _ | refine blk_drew ?_ | refine blk_alloc ?_ _)); with_reducible refine blk_far ?_ NB287_288.out _)); (with_reducible repeat (first | refine blk_drewN ?_ _ | refine blk_drew ?_ | refine blk_alloc ?_ _)); refine blk_put (cs := #[.int .i64 t272, .int .i64 t273, .int .i64 t274, .int .i64 t275, .int .i64 t276, .int .i64 t277, .int .i64 t278, .int .i64 t279, .int .i64 0]) ?_ 8 _ rfl; refine blk_put (cs := #[.int .i64 t272, .int .i64 t273, .int .i64 t274, .int .i64 t275, .int .i64 t276, .int .i64 t277, .int .i64 t278, .int .i64 0, .int .i64 0]) ?_ 7 _ rfl; refine blk_put (cs := #[.int .i64 t272, .int .i64 t273, .int .i64 t274, .int .i64 t275, .int .i64 t276, .int .i64 t277, .int .i64 0, .int .i64 0, .int .i64 0]) ?_ 6 _ rfl; refine blk_put (cs := #[.int .i64 t272, .int .i64 t273, .int .i64 t274, .int .i64 t275, .int .i64 t276, .int .i64 0, .int .i64 0, .int .i64 0, .int .i64 0]) ?_ 5 _ rfl; refine blk_put (cs := #[.int .i64 t272, .int .i64 t273, .int .i64 t274, .int .i64 t275, .int .i64 0, .int .i64 0, .int .i64 0, .int .i64 0, .int .i64 0]) ?_ 4 _ rfl; refine blk_put (cs := #[.int .i64 t272, .int .i64 t273, .int .i64 t274, .int .i64 0, .int .i64 0, .int .i64 0, .int .i64 0, .int .i64 0, .int .i64 0]) ?_ 3 _ rfl; refine blk_put (cs := #[.int .i64 t272, .int .i64 t273, .int .i64 0, .int .i64 0, .int .i64 0, .int .i64 0, .int .i64 0, .int .i64 0, .int .i64 0]) ?_ 2 _ rfl; refine blk_put (cs := #[.int .i64 t272, .int .i64 0, .int .i64 0, .int .i64 0, .int .i64 0, .int .i64 0, .int .i64 0, .int .i64 0, .int .i64 0]) ?_ 1 _ rfl; refine blk_put (cs := #[.int .i64 0, .int .i64 0, .int .i64 0, .int .i64 0, .int .i64 0, .int .i64 0, .int .i64 0, .int .i64 0, .int .i64 0]) ?_ 0 _ rfl; (with_reducible repeat (first | refine blk_drewN ?_ _ | refine blk_drew ?_ | refine blk_alloc ?_ _)); exact BK287.out)) : gb289 ≠ gb287)); have n14_ := A0 ((by rw [hg]; exact Nat.ne_of_lt (blk_lt (g := gb288) (o := .cells #[.string t281, .int .i64 t282, .int .i64 t283, .int .i64 t284, .int .i64 t285, .int .i64 t286] 25 (0, 0)) (by (with_reducible repeat (first | refine blk_drewN ?_ _ | refine blk_drew ?_ | refine blk_alloc ?_ _)); refine blk_put (cs := #[.string t281, .int .i64 t282, .int .i64 t283, .int .i64 t284, .int .i64 t285, .int .i64 0]) ?_ 5 _ rfl; refine blk_put (cs := #[.string t281, .int .i64 t282, .int .i64 t283, .int .i64 t284, .int .i64 0, .int .i64 0]) ?_ 4 _ rfl; refine blk_put (cs := #[.string t281, .int .i64 t282, .int .i64 t283, .int .i64 0, .int .i64 0, .int .i64 0]) ?_ 3 _ rfl; refine blk_put (cs := #[.string t281, .int .i64 t282, .int .i64 0, .int .i64 0, .int .i64 0, .int .i64 0]) ?_ 2 _ rfl; refine blk_put (cs := #[.string t281, .int .i64 0, .int .i64 0, .int .i64 0, .int .i64 0, .int .i64 0]) ?_ 1 _ rfl; refine blk_put (cs := #[.string (⟨#[]⟩ : ByteArray), .int .i64 0, .int .i64 0, .int .i64 0, .int .i64 0, .int .i64 0]) ?_ 0 _ rfl; (repeat ((with_reducible repeat (first | refine blk_drewN ?_ _ | refine blk_drew ?_ | refine blk_alloc ?_ _)); with_reducible refine blk_far ?_ NB288_287.out _)); (with_reducible repeat (first | refine blk_drewN ?_ _ | refine blk_drew ?_ | refine blk_alloc ?_ _)); exact BK288.out)) : gb288 ≠ gb289)); have n15_ := A0 ((by rw [hg]; exact Nat.ne_of_gt (blk_lt (g := gb288) (o := .cells #[.string t281, .int .i64 t282, .int .i64 t283, .int .i64 t284, .int .i64 t285, .int .i64 t286] 25 (0, 0)) (by (with_reducible repeat (first | refine blk_drewN ?_ _ | refine blk_drew ?_ | refine blk_alloc ?_ _)); refine blk_put (cs := #[.string t281, .int .i64 t282, .int .i64 t283, .int .i64 t284, .int .i64 t285, .int .i64 0]) ?_ 5 _ rfl; refine blk_put (cs := #[.string t281, .int .i64 t282, .int .i64 t283, .int .i64 t284, .int .i64 0, .int .i64 0]) ?_ 4 _ rfl; refine blk_put (cs := #[.string t281, .int .i64 t282, .int .i64 t283, .int .i64 0, .int .i64 0, .int .i64 0]) ?_ 3 _ rfl; refine blk_put (cs := #[.string t281, .int .i64 t282, .int .i64 0, .int .i64 0, .int .i64 0, .int .i64 0]) ?_ 2 _ rfl; refine blk_put (cs := #[.string t281, .int .i64 0, .int .i64 0, .int .i64 0, .int .i64 0, .int .i64 0]) ?_ 1 _ rfl; refine blk_put (cs := #[.string (⟨#[]⟩ : ByteArray), .int .i64 0, .int .i64 0, .int .i64 0, .int .i64 0, .int .i64 0]) ?_ 0 _ rfl; (repeat ((with_reducible repeat (first | refine blk_drewN ?_ _ | refine blk_drew ?_ | refine blk_alloc ?_ _)); with_reducible refine blk_far ?_ NB288_287.out _)); (with_reducible repeat (first | refine blk_drewN ?_ _ | refine blk_drew ?_ | refine blk_alloc ?_ _)); exact BK288.out)) : gb289 ≠ gb288)); clear BK269; clear BK270; clear BK287; clear BK288; clear HB; have BK269 := n0_; have BK270 := n1_; have BK287 := n2_; have BK288 := n3_; have HB := n4_; have BK289 := n5_; have GW289 := n6_; have GE289 := n7_; have NB269_289 := n8_; have NB289_269 := n9_; have NB270_289 := n10_; have NB289_270 := n11_; have NB287_289 := n12_; have NB289_287 := n13_; have NB288_289 := n14_; have NB289_288 := n15_; clear n0_ n1_ n2_ n3_ n4_ n5_ n6_ n7_ n8_ n9_ n10_ n11_ n12_ n13_ n14_ n15_; clear hb hbox hg; have hnb43 := NB289_269.out; have hnc43 := NB269_289.out; have hnb44 := NB289_270.out; have hnc44 := NB270_289.out; have hnb45 := NB289_287.out; have hnc45 := NB287_289.out; have hnb46 := NB289_288.out; have hnc46 := NB288_289.out; have hcz47_0 : w42.cell? ⟨gb289, 0, none⟩ = some (.int .i64 0) := bc BK289 0; have hcz47_1 : w42.cell? ⟨gb289, 1, none⟩ = some (.int .i64 0) := bc BK289 1; have hcz47_2 : w42.cell? ⟨gb289, 2, none⟩ = some (.int .i64 0) := bc BK289 2; have hcz47_3 : w42.cell? ⟨gb289, 3, none⟩ = some (.int .i64 0) := bc BK289 3; have hcz47_4 : w42.cell? ⟨gb289, 4, none⟩ = some (.int .i64 0) := bc BK289 4; have hcz47_5 : w42.cell? ⟨gb289, 5, none⟩ = some (.int .i64 0) := bc BK289 5; have hcz47_6 : w42.cell? ⟨gb289, 6, none⟩ = some (.int .i64 0) := bc BK289 6; have hcz47_7 : w42.cell? ⟨gb289, 7, none⟩ = some (.int .i64 0) := bc BK289 7; have hcz47_8 : w42.cell? ⟨gb289, 8, none⟩ = some (.int .i64 0) := bc BK289 8; have hfz47_0 := blk_frozen BK289.out 0; have hfz47_1 := blk_frozen BK289.out 1; have hfz47_2 := blk_frozen BK289.out 2; have hfz47_3 := blk_frozen BK289.out 3; have hfz47_4 := blk_frozen BK289.out 4; have hfz47_5 := blk_frozen BK289.out 5; have hfz47_6 := blk_frozen BK289.out 6; have hfz47_7 := blk_frozen BK289.out 7; have hfz47_8 := blk_frozen BK289.out 8))
  have n0_ : Aside0 ((((((((((w42.setCell ⟨gb289, 0, none⟩ (.int .i64 t272)).setCell ⟨gb289, 1, none⟩ (.int .i64 t273)).setCell ⟨gb289, 2, none⟩ (.int .i64 t274)).setCell ⟨gb289, 3, none⟩ (.int .i64 t275)).setCell ⟨gb289, 4, none⟩ (.int .i64 t276)).setCell ⟨gb289, 5, none⟩ (.int .i64 t277)).setCell ⟨gb289, 6, none⟩ (.int .i64 t278)).setCell ⟨gb289, 7, none⟩ (.int .i64 t279)).setCell ⟨gb289, 8, none⟩ (.int .i64 t280)).heap[gb269]? = some (.cells #[.int .i64 a0_0, .int .i64 a0_1, .int .i64 a0_2, .int .i64 a0_3, .int .i64 a0_4, .int .i64 a0_5, .int .i64 a0_6, .int .i64 a0_7, .int .i64 a0_8] 23 (0, 0))) := ⟨by (repeat ((with_reducible repeat (first | refine blk_drewN ?_ _ | refine blk_drew ?_ | refine blk_alloc ?_ _)); with_reducible refine blk_far ?_ NB269_289.out _)); (with_reducible repeat (first | refine blk_drewN ?_ _ | refine blk_drew ?_ | refine blk_alloc ?_ _)); exact BK269.out⟩
  have n1_ : Aside0 ((((((((((w42.setCell ⟨gb289, 0, none⟩ (.int .i64 t272)).setCell ⟨gb289, 1, none⟩ (.int .i64 t273)).setCell ⟨gb289, 2, none⟩ (.int .i64 t274)).setCell ⟨gb289, 3, none⟩ (.int .i64 t275)).setCell ⟨gb289, 4, none⟩ (.int .i64 t276)).setCell ⟨gb289, 5, none⟩ (.int .i64 t277)).setCell ⟨gb289, 6, none⟩ (.int .i64 t278)).setCell ⟨gb289, 7, none⟩ (.int .i64 t279)).setCell ⟨gb289, 8, none⟩ (.int .i64 t280)).heap[gb270]? = some (.cells #[.string a1_0, .int .i64 a1_1, .int .i64 a1_2, .int .i64 a1_3, .int .i64 a1_4, .int .i64 a1_5] 25 (0, 0))) := ⟨by (repeat ((with_reducible repeat (first | refine blk_drewN ?_ _ | refine blk_drew ?_ | refine blk_alloc ?_ _)); with_reducible refine blk_far ?_ NB270_289.out _)); (with_reducible repeat (first | refine blk_drewN ?_ _ | refine blk_drew ?_ | refine blk_alloc ?_ _)); exact BK270.out⟩
  have n2_ : Aside0 ((((((((((w42.setCell ⟨gb289, 0, none⟩ (.int .i64 t272)).setCell ⟨gb289, 1, none⟩ (.int .i64 t273)).setCell ⟨gb289, 2, none⟩ (.int .i64 t274)).setCell ⟨gb289, 3, none⟩ (.int .i64 t275)).setCell ⟨gb289, 4, none⟩ (.int .i64 t276)).setCell ⟨gb289, 5, none⟩ (.int .i64 t277)).setCell ⟨gb289, 6, none⟩ (.int .i64 t278)).setCell ⟨gb289, 7, none⟩ (.int .i64 t279)).setCell ⟨gb289, 8, none⟩ (.int .i64 t280)).heap[gb287]? = some (.cells #[.int .i64 t272, .int .i64 t273, .int .i64 t274, .int .i64 t275, .int .i64 t276, .int .i64 t277, .int .i64 t278, .int .i64 t279, .int .i64 t280] 23 (0, 0))) := ⟨by (repeat ((with_reducible repeat (first | refine blk_drewN ?_ _ | refine blk_drew ?_ | refine blk_alloc ?_ _)); with_reducible refine blk_far ?_ NB287_289.out _)); (with_reducible repeat (first | refine blk_drewN ?_ _ | refine blk_drew ?_ | refine blk_alloc ?_ _)); exact BK287.out⟩
  have n3_ : Aside0 ((((((((((w42.setCell ⟨gb289, 0, none⟩ (.int .i64 t272)).setCell ⟨gb289, 1, none⟩ (.int .i64 t273)).setCell ⟨gb289, 2, none⟩ (.int .i64 t274)).setCell ⟨gb289, 3, none⟩ (.int .i64 t275)).setCell ⟨gb289, 4, none⟩ (.int .i64 t276)).setCell ⟨gb289, 5, none⟩ (.int .i64 t277)).setCell ⟨gb289, 6, none⟩ (.int .i64 t278)).setCell ⟨gb289, 7, none⟩ (.int .i64 t279)).setCell ⟨gb289, 8, none⟩ (.int .i64 t280)).heap[gb288]? = some (.cells #[.string t281, .int .i64 t282, .int .i64 t283, .int .i64 t284, .int .i64 t285, .int .i64 t286] 25 (0, 0))) := ⟨by (repeat ((with_reducible repeat (first | refine blk_drewN ?_ _ | refine blk_drew ?_ | refine blk_alloc ?_ _)); with_reducible refine blk_far ?_ NB288_289.out _)); (with_reducible repeat (first | refine blk_drewN ?_ _ | refine blk_drew ?_ | refine blk_alloc ?_ _)); exact BK288.out⟩
  have n4_ : Aside0 ((((((((((w42.setCell ⟨gb289, 0, none⟩ (.int .i64 t272)).setCell ⟨gb289, 1, none⟩ (.int .i64 t273)).setCell ⟨gb289, 2, none⟩ (.int .i64 t274)).setCell ⟨gb289, 3, none⟩ (.int .i64 t275)).setCell ⟨gb289, 4, none⟩ (.int .i64 t276)).setCell ⟨gb289, 5, none⟩ (.int .i64 t277)).setCell ⟨gb289, 6, none⟩ (.int .i64 t278)).setCell ⟨gb289, 7, none⟩ (.int .i64 t279)).setCell ⟨gb289, 8, none⟩ (.int .i64 t280)).heap[gb289]? = some (.cells #[.int .i64 t272, .int .i64 t273, .int .i64 t274, .int .i64 t275, .int .i64 t276, .int .i64 t277, .int .i64 t278, .int .i64 t279, .int .i64 t280] 23 (0, 0))) := ⟨by (with_reducible repeat (first | refine blk_drewN ?_ _ | refine blk_drew ?_ | refine blk_alloc ?_ _)); refine blk_put (cs := #[.int .i64 t272, .int .i64 t273, .int .i64 t274, .int .i64 t275, .int .i64 t276, .int .i64 t277, .int .i64 t278, .int .i64 t279, .int .i64 0]) ?_ 8 _ rfl; refine blk_put (cs := #[.int .i64 t272, .int .i64 t273, .int .i64 t274, .int .i64 t275, .int .i64 t276, .int .i64 t277, .int .i64 t278, .int .i64 0, .int .i64 0]) ?_ 7 _ rfl; refine blk_put (cs := #[.int .i64 t272, .int .i64 t273, .int .i64 t274, .int .i64 t275, .int .i64 t276, .int .i64 t277, .int .i64 0, .int .i64 0, .int .i64 0]) ?_ 6 _ rfl; refine blk_put (cs := #[.int .i64 t272, .int .i64 t273, .int .i64 t274, .int .i64 t275, .int .i64 t276, .int .i64 0, .int .i64 0, .int .i64 0, .int .i64 0]) ?_ 5 _ rfl; refine blk_put (cs := #[.int .i64 t272, .int .i64 t273, .int .i64 t274, .int .i64 t275, .int .i64 0, .int .i64 0, .int .i64 0, .int .i64 0, .int .i64 0]) ?_ 4 _ rfl; refine blk_put (cs := #[.int .i64 t272, .int .i64 t273, .int .i64 t274, .int .i64 0, .int .i64 0, .int .i64 0, .int .i64 0, .int .i64 0, .int .i64 0]) ?_ 3 _ rfl; refine blk_put (cs := #[.int .i64 t272, .int .i64 t273, .int .i64 0, .int .i64 0, .int .i64 0, .int .i64 0, .int .i64 0, .int .i64 0, .int .i64 0]) ?_ 2 _ rfl; refine blk_put (cs := #[.int .i64 t272, .int .i64 0, .int .i64 0, .int .i64 0, .int .i64 0, .int .i64 0, .int .i64 0, .int .i64 0, .int .i64 0]) ?_ 1 _ rfl; refine blk_put (cs := #[.int .i64 0, .int .i64 0, .int .i64 0, .int .i64 0, .int .i64 0, .int .i64 0, .int .i64 0, .int .i64 0, .int .i64 0]) ?_ 0 _ rfl; (with_reducible repeat (first | refine blk_drewN ?_ _ | refine blk_drew ?_ | refine blk_alloc ?_ _)); exact BK289.out⟩
  have n5_ : Aside0 (Below w.heap.size w (((((((((w42.setCell ⟨gb289, 0, none⟩ (.int .i64 t272)).setCell ⟨gb289, 1, none⟩ (.int .i64 t273)).setCell ⟨gb289, 2, none⟩ (.int .i64 t274)).setCell ⟨gb289, 3, none⟩ (.int .i64 t275)).setCell ⟨gb289, 4, none⟩ (.int .i64 t276)).setCell ⟨gb289, 5, none⟩ (.int .i64 t277)).setCell ⟨gb289, 6, none⟩ (.int .i64 t278)).setCell ⟨gb289, 7, none⟩ (.int .i64 t279)).setCell ⟨gb289, 8, none⟩ (.int .i64 t280))) := ⟨by repeat (first | (with_reducible first | exact HB.out | apply below_alloc | apply pw_below_drewN | apply below_drew1 | refine below_set ?_ GE269.out | refine below_set ?_ GE270.out | refine below_set ?_ GE287.out | refine below_set ?_ GE288.out | refine below_set ?_ GE289.out) | exact HB.out)⟩
  (try clear BK269)
  (try clear BK270)
  (try clear BK287)
  (try clear BK288)
  (try clear BK289)
  (try clear HB)
  (repeat rw [setCell_drewN_19])
  (repeat rw [World.drewN_drewN])
  generalize (((((((((w42.setCell ⟨gb289, 0, none⟩ (.int .i64 t272)).setCell ⟨gb289, 1, none⟩ (.int .i64 t273)).setCell ⟨gb289, 2, none⟩ (.int .i64 t274)).setCell ⟨gb289, 3, none⟩ (.int .i64 t275)).setCell ⟨gb289, 4, none⟩ (.int .i64 t276)).setCell ⟨gb289, 5, none⟩ (.int .i64 t277)).setCell ⟨gb289, 6, none⟩ (.int .i64 t278)).setCell ⟨gb289, 7, none⟩ (.int .i64 t279)).setCell ⟨gb289, 8, none⟩ (.int .i64 t280)) = w48 at n0_ n1_ n2_ n3_ n4_ n5_ ⊢
  have BK269 := n0_
  have BK270 := n1_
  have BK287 := n2_
  have BK288 := n3_
  have BK289 := n4_
  have HB := n5_
  clear n0_ n1_ n2_ n3_ n4_ n5_
  replace BK269 := A0 (blk_drew BK269.out)
  replace BK270 := A0 (blk_drew BK270.out)
  replace BK287 := A0 (blk_drew BK287.out)
  replace BK288 := A0 (blk_drew BK288.out)
  replace BK289 := A0 (blk_drew BK289.out)
  replace HB := A0 (below_drew1 HB.out)
  refine start_ (n := 23) (S := fun w' => w'.cell? ⟨gb287, 0, none⟩ = some (.int .i64 t272) ∧ w'.cell? ⟨gb287, 1, none⟩ = some (.int .i64 t273) ∧ w'.cell? ⟨gb287, 2, none⟩ = some (.int .i64 t274) ∧ w'.cell? ⟨gb287, 3, none⟩ = some (.int .i64 t275) ∧ w'.cell? ⟨gb287, 4, none⟩ = some (.int .i64 t276) ∧ w'.cell? ⟨gb287, 5, none⟩ = some (.int .i64 t277) ∧ w'.cell? ⟨gb287, 6, none⟩ = some (.int .i64 t278) ∧ w'.cell? ⟨gb287, 7, none⟩ = some (.int .i64 t279) ∧ w'.cell? ⟨gb287, 8, none⟩ = some (.int .i64 t280)) (ds := []) #[false, false, false, false, false, false, false, false, false, false, false, false, false, false, false, false, false, false, false, false, false, false, false] (by kernel_rfl) rfl rfl ⟨bc BK287 0, bc BK287 1, bc BK287 2, bc BK287 3, bc BK287 4, bc BK287 5, bc BK287 6, bc BK287 7, bc BK287 8⟩ (fun hHeld => ?_); refine with_tabW damperlaw10_ScaleMore.tab5 damperlaw10_ScaleMore.bits5 (fun HT_ HW_ => ?_)
  generalize w48.drew = w49 at BK269 BK270 BK287 BK288 BK289 HB hHeld ⊢
  refine pure_ (i := 0) (N := some 19) (v := ?_) (a' := ?_) #[true, false, false, false, false, false, false, false, false, false, false, false, false, false, false, false, false, false, false, false, false, false, false] rfl rfl (any_of HT_.out (by kernel_rfl)) (fun _ _ _ h => h) (Or.inl ⟨by rfl, ?_⟩) ?_ ?_
  rotate_left
  ·intro w'
   go_simp
   with_reducible rfl
  rotate_left
  ·simp only [Act.put, List.setIfInBounds_toArray, List.set_cons_zero, List.set_cons_succ, i64_w, i32_w]
   rfl
  refine pure_ (i := 2) (N := some 21) (v := ?_) (a' := ?_) #[true, false, true, false, false, false, false, false, false, false, false, false, false, false, false, false, false, false, false, false, false, false, false] rfl rfl (any_of HT_.out (by kernel_rfl)) (fun _ _ _ h => h) (Or.inl ⟨by rfl, ?_⟩) ?_ ?_
  rotate_left
  ·intro w'
   go_simp
   with_reducible rfl
  rotate_left
  ·simp only [Act.put, List.setIfInBounds_toArray, List.set_cons_zero, List.set_cons_succ, i64_w, i32_w]
   rfl
  refine pure_ (i := 5) (N := some 24) (v := ?_) (a' := ?_) #[true, false, true, false, false, true, false, false, false, false, false, false, false, false, false, false, false, false, false, false, false, false, false] rfl rfl (any_of HT_.out (by kernel_rfl)) (fun _ _ _ h => h) (Or.inl ⟨by rfl, ?_⟩) ?_ ?_
  rotate_left
  ·intro w'
   go_simp
   with_reducible rfl
  rotate_left
  ·simp only [Act.put, List.setIfInBounds_toArray, List.set_cons_zero, List.set_cons_succ, i64_w, i32_w]
   rfl
  refine pure_ (i := 7) (N := some 26) (v := ?_) (a' := ?_) #[true, false, true, false, false, true, false, true, false, false, false, false, false, false, false, false, false, false, false, false, false, false, false] rfl rfl (any_of HT_.out (by kernel_rfl)) (fun _ _ _ h => h) (Or.inl ⟨by rfl, ?_⟩) ?_ ?_
  rotate_left
  ·intro w'
   go_simp
   with_reducible rfl
  rotate_left
  ·simp only [Act.put, List.setIfInBounds_toArray, List.set_cons_zero, List.set_cons_succ, i64_w, i32_w]
   rfl
  refine pure_ (i := 8) (N := some 27) (v := ?_) (a' := ?_) #[true, false, true, false, false, true, false, true, true, false, false, false, false, false, false, false, false, false, false, false, false, false, false] rfl rfl (any_of HT_.out (by kernel_rfl)) (fun _ _ _ h => h) (Or.inl ⟨by rfl, ?_⟩) ?_ ?_
  rotate_left
  ·intro w'
   go_simp
   with_reducible rfl
  rotate_left
  ·simp only [Act.put, List.setIfInBounds_toArray, List.set_cons_zero, List.set_cons_succ, i64_w, i32_w]
   rfl
  refine pure_ (i := 11) (N := some 30) (v := ?_) (a' := ?_) #[true, false, true, false, false, true, false, true, true, false, false, true, false, false, false, false, false, false, false, false, false, false, false] rfl rfl (any_of HT_.out (by kernel_rfl)) (fun _ _ _ h => h) (Or.inl ⟨by rfl, ?_⟩) ?_ ?_
  rotate_left
  ·intro w'
   go_simp
   with_reducible rfl
  rotate_left
  ·simp only [Act.put, List.setIfInBounds_toArray, List.set_cons_zero, List.set_cons_succ, i64_w, i32_w]
   rfl
  refine pure_ (i := 13) (N := some 32) (v := ?_) (a' := ?_) #[true, false, true, false, false, true, false, true, true, false, false, true, false, true, false, false, false, false, false, false, false, false, false] rfl rfl (any_of HT_.out (by kernel_rfl)) (fun _ _ _ h => h) (Or.inl ⟨by rfl, ?_⟩) ?_ ?_
  rotate_left
  ·intro w'
   go_simp
   with_reducible rfl
  rotate_left
  ·simp only [Act.put, List.setIfInBounds_toArray, List.set_cons_zero, List.set_cons_succ, i64_w, i32_w]
   rfl
  refine pure_ (i := 14) (N := some 33) (v := ?_) (a' := ?_) #[true, false, true, false, false, true, false, true, true, false, false, true, false, true, true, false, false, false, false, false, false, false, false] rfl rfl (any_of HT_.out (by kernel_rfl)) (fun _ _ _ h => h) (Or.inl ⟨by rfl, ?_⟩) ?_ ?_
  rotate_left
  ·intro w'
   go_simp
   with_reducible rfl
  rotate_left
  ·simp only [Act.put, List.setIfInBounds_toArray, List.set_cons_zero, List.set_cons_succ, i64_w, i32_w]
   rfl
  refine take_ (i := 1) (N := some 20) (v := ?_) (a' := ?_) #[true, true, true, false, false, true, false, true, true, false, false, true, false, true, true, false, false, false, false, false, false, false, false] rfl rfl (take_ofW HT_.out HW_.out (by kernel_rfl)) (fun _ _ _ h => h) (Or.inl ⟨by rfl, ?_⟩) hHeld ?_ ?_
  rotate_left
  ·rintro w' ⟨s0, s1, s2, s3, s4, s5, s6, s7, s8⟩
   go_simp
   with_reducible rfl
  rotate_left
  ·simp only [Act.put, List.setIfInBounds_toArray, List.set_cons_zero, List.set_cons_succ, i64_w, i32_w]
   rfl
  refine take_ (i := 6) (N := some 25) (v := ?_) (a' := ?_) #[true, true, true, false, false, true, true, true, true, false, false, true, false, true, true, false, false, false, false, false, false, false, false] rfl rfl (take_ofW HT_.out HW_.out (by kernel_rfl)) (fun _ _ _ h => h) (Or.inl ⟨by rfl, ?_⟩) hHeld ?_ ?_
  rotate_left
  ·rintro w' ⟨s0, s1, s2, s3, s4, s5, s6, s7, s8⟩
   go_simp
   with_reducible rfl
  rotate_left
  ·simp only [Act.put, List.setIfInBounds_toArray, List.set_cons_zero, List.set_cons_succ, i64_w, i32_w]
   rfl
  refine take_ (i := 12) (N := some 31) (v := ?_) (a' := ?_) #[true, true, true, false, false, true, true, true, true, false, false, true, true, true, true, false, false, false, false, false, false, false, false] rfl rfl (take_ofW HT_.out HW_.out (by kernel_rfl)) (fun _ _ _ h => h) (Or.inl ⟨by rfl, ?_⟩) hHeld ?_ ?_
  rotate_left
  ·rintro w' ⟨s0, s1, s2, s3, s4, s5, s6, s7, s8⟩
   go_simp
   with_reducible rfl
  rotate_left
  ·simp only [Act.put, List.setIfInBounds_toArray, List.set_cons_zero, List.set_cons_succ, i64_w, i32_w]
   rfl
  refine one_ (i := 3) (N := some 22) #[true, true, true, true, false, true, true, true, true, false, false, true, true, true, true, false, false, false, false, false, false, false, false] rfl rfl (one_of HT_.out (by kernel_rfl)) (by decide) (fun K hK => ?_)
  refine goes_ Try.func18 (by kernel_rfl) rfl #[.int .i64 a2, .int .i64 50] (by rfl) rfl rfl (by (try simp only [List.map_toArray, List.map_cons, List.map_nil]); first | done | rfl | (simp only [List.length_drop, List.length_take]; rfl)) ?_
  with_reducible refine (damperlaw10_within.calls a2 50 t290 _ A8.out).mono ?_
  rintro e w' ⟨rfl, ⟨nd, rfl⟩⟩
  refine ⟨_, rfl, ?_⟩
  refine hK.out _ _ ⟨bc BK287 0, bc BK287 1, bc BK287 2, bc BK287 3, bc BK287 4, bc BK287 5, bc BK287 6, bc BK287 7, bc BK287 8⟩ (fun hHeld => ?_)
  clear hK K
  refine norm_ (a' := ?_) ?_ ?_
  rotate_left
  ·show Act.put _ (some 22) _ = _
   simp only [Act.put, List.setIfInBounds_toArray, List.set_cons_zero, List.set_cons_succ, i64_w, i32_w]
   rfl
  refine pure_ (i := 4) (N := some 23) (v := ?_) (a' := ?_) #[true, true, true, true, true, true, true, true, true, false, false, true, true, true, true, false, false, false, false, false, false, false, false] rfl rfl (any_of HT_.out (by kernel_rfl)) (fun _ _ _ h => h) (Or.inl ⟨by rfl, ?_⟩) ?_ ?_
  rotate_left
  ·intro w'
   go_simp
   with_reducible rfl
  rotate_left
  ·simp only [Act.put, List.setIfInBounds_toArray, List.set_cons_zero, List.set_cons_succ, i64_w, i32_w]
   rfl
  refine pure_ (i := 17) (N := some 36) (v := ?_) (a' := ?_) #[true, true, true, true, true, true, true, true, true, false, false, true, true, true, true, false, false, true, false, false, false, false, false] rfl rfl (any_of HT_.out (by kernel_rfl)) (fun _ _ _ h => h) (Or.inl ⟨by rfl, ?_⟩) ?_ ?_
  rotate_left
  ·intro w'
   go_simp
   with_reducible rfl
  rotate_left
  ·simp only [Act.put, List.setIfInBounds_toArray, List.set_cons_zero, List.set_cons_succ, i64_w, i32_w]
   rfl
  refine one_ (i := 9) (N := some 28) #[true, true, true, true, true, true, true, true, true, true, false, true, true, true, true, false, false, true, false, false, false, false, false] rfl rfl (one_of HT_.out (by kernel_rfl)) (by decide) (fun K hK => ?_)
  refine goes_ Try.func18 (by kernel_rfl) rfl #[.int .i64 (wrap64 (Int.tdiv a2 50)), .int .i64 50] (by rfl) rfl rfl (by (try simp only [List.map_toArray, List.map_cons, List.map_nil]); first | done | rfl | (simp only [List.length_drop, List.length_take]; rfl)) ?_
  with_reducible refine (damperlaw10_within.calls (wrap64 (Int.tdiv a2 50)) 50 t291 _ A9.out).mono ?_
  rintro e w' ⟨rfl, ⟨nd, rfl⟩⟩
  refine ⟨_, rfl, ?_⟩
  refine hK.out _ _ ⟨bc BK287 0, bc BK287 1, bc BK287 2, bc BK287 3, bc BK287 4, bc BK287 5, bc BK287 6, bc BK287 7, bc BK287 8⟩ (fun hHeld => ?_)
  clear hK K
  refine norm_ (a' := ?_) ?_ ?_
  rotate_left
  ·show Act.put _ (some 28) _ = _
   simp only [Act.put, List.setIfInBounds_toArray, List.set_cons_zero, List.set_cons_succ, i64_w, i32_w]
   rfl
  refine pure_ (i := 10) (N := some 29) (v := ?_) (a' := ?_) #[true, true, true, true, true, true, true, true, true, true, true, true, true, true, true, false, false, true, false, false, false, false, false] rfl rfl (any_of HT_.out (by kernel_rfl)) (fun _ _ _ h => h) (Or.inl ⟨by rfl, ?_⟩) ?_ ?_
  rotate_left
  ·intro w'
   go_simp
   with_reducible rfl
  rotate_left
  ·simp only [Act.put, List.setIfInBounds_toArray, List.set_cons_zero, List.set_cons_succ, i64_w, i32_w]
   rfl
  refine one_ (i := 15) (N := some 34) #[true, true, true, true, true, true, true, true, true, true, true, true, true, true, true, true, false, true, false, false, false, false, false] rfl rfl (one_of HT_.out (by kernel_rfl)) (by decide) (fun K hK => ?_)
  refine goes_ Try.func18 (by kernel_rfl) rfl #[.int .i64 (wrap64 (Int.tdiv a2 2500)), .int .i64 3] (by rfl) rfl rfl (by (try simp only [List.map_toArray, List.map_cons, List.map_nil]); first | done | rfl | (simp only [List.length_drop, List.length_take]; rfl)) ?_
  with_reducible refine (damperlaw10_within.calls (wrap64 (Int.tdiv a2 2500)) 3 t292 _ A10.out).mono ?_
  rintro e w' ⟨rfl, ⟨nd, rfl⟩⟩
  refine ⟨_, rfl, ?_⟩
  refine hK.out _ _ ⟨bc BK287 0, bc BK287 1, bc BK287 2, bc BK287 3, bc BK287 4, bc BK287 5, bc BK287 6, bc BK287 7, bc BK287 8⟩ (fun hHeld => ?_)
  clear hK K
  refine norm_ (a' := ?_) ?_ ?_
  rotate_left
  ·show Act.put _ (some 34) _ = _
   simp only [Act.put, List.setIfInBounds_toArray, List.set_cons_zero, List.set_cons_succ, i64_w, i32_w]
   rfl
  refine pure_ (i := 16) (N := some 35) (v := ?_) (a' := ?_) #[true, true, true, true, true, true, true, true, true, true, true, true, true, true, true, true, true, true, false, false, false, false, false] rfl rfl (any_of HT_.out (by kernel_rfl)) (fun _ _ _ h => h) (Or.inl ⟨by rfl, ?_⟩) ?_ ?_
  rotate_left
  ·intro w'
   go_simp
   with_reducible rfl
  rotate_left
  ·simp only [Act.put, List.setIfInBounds_toArray, List.set_cons_zero, List.set_cons_succ, i64_w, i32_w]
   rfl
  refine one_ (i := 18) (N := none) #[true, true, true, true, true, true, true, true, true, true, true, true, true, true, true, true, true, true, true, false, false, false, false] rfl rfl (one_of HT_.out (by kernel_rfl)) (by decide) (fun K hK => ?_)
  have hs50 : w49.cell? ⟨gb289, 4, none⟩ = some (.int .i64 t276) := bc BK289 4
  have hfs50 := blk_frozen BK289.out 4
  have hns50_0 := NB269_289.out
  have hns50_1 := NB270_289.out
  have hns50_2 := NB287_289.out
  have hns50_3 := NB288_289.out
  have hms50_0 := NB289_269.out
  have hms50_1 := NB289_270.out
  have hms50_2 := NB289_287.out
  have hms50_3 := NB289_288.out
  with_reducible_and_instances refine skip_ (w1 := ?_) ?hw_ ?hN_ ?_ ?_
  (case hw_ => rfl)
  (case hN_ => rfl)
  rotate_left
  ·go_simp
   rfl
  refine hK.out _ _ ⟨(cf NB287_289 (hHeld.1)), (cf NB287_289 (hHeld.2.1)), (cf NB287_289 (hHeld.2.2.1)), (cf NB287_289 (hHeld.2.2.2.1)), (cf NB287_289 (hHeld.2.2.2.2.1)), (cf NB287_289 (hHeld.2.2.2.2.2.1)), (cf NB287_289 (hHeld.2.2.2.2.2.2.1)), (cf NB287_289 (hHeld.2.2.2.2.2.2.2.1)), (cf NB287_289 (hHeld.2.2.2.2.2.2.2.2))⟩ (fun hHeld => ?_)
  clear hK K
  refine pure_ (i := 19) (N := some 37) (v := ?_) (a' := ?_) #[true, true, true, true, true, true, true, true, true, true, true, true, true, true, true, true, true, true, true, true, false, false, false] rfl rfl (any_of HT_.out (by kernel_rfl)) (fun _ _ _ h => h) (Or.inl ⟨by rfl, ?_⟩) ?_ ?_
  rotate_left
  ·intro w'
   go_simp
   with_reducible rfl
  rotate_left
  ·simp only [Act.put, List.setIfInBounds_toArray, List.set_cons_zero, List.set_cons_succ, i64_w, i32_w]
   rfl
  refine one_ (i := 20) (N := none) #[true, true, true, true, true, true, true, true, true, true, true, true, true, true, true, true, true, true, true, true, true, false, false] rfl rfl (one_of HT_.out (by kernel_rfl)) (by decide) (fun K hK => ?_)
  have hs51 : w49.cell? ⟨gb289, 6, none⟩ = some (.int .i64 t278) := bc BK289 6
  have hfs51 := blk_frozen BK289.out 6
  have hns51_0 := NB269_289.out
  have hns51_1 := NB270_289.out
  have hns51_2 := NB287_289.out
  have hns51_3 := NB288_289.out
  have hms51_0 := NB289_269.out
  have hms51_1 := NB289_270.out
  have hms51_2 := NB289_287.out
  have hms51_3 := NB289_288.out
  with_reducible_and_instances refine skip_ (w1 := ?_) ?hw_ ?hN_ ?_ ?_
  (case hw_ => rfl)
  (case hN_ => rfl)
  rotate_left
  ·go_simp
   rfl
  refine hK.out _ _ ⟨(cf NB287_289 (hHeld.1)), (cf NB287_289 (hHeld.2.1)), (cf NB287_289 (hHeld.2.2.1)), (cf NB287_289 (hHeld.2.2.2.1)), (cf NB287_289 (hHeld.2.2.2.2.1)), (cf NB287_289 (hHeld.2.2.2.2.2.1)), (cf NB287_289 (hHeld.2.2.2.2.2.2.1)), (cf NB287_289 (hHeld.2.2.2.2.2.2.2.1)), (cf NB287_289 (hHeld.2.2.2.2.2.2.2.2))⟩ (fun hHeld => ?_)
  clear hK K
  refine pure_ (i := 21) (N := some 38) (v := ?_) (a' := ?_) #[true, true, true, true, true, true, true, true, true, true, true, true, true, true, true, true, true, true, true, true, true, true, false] rfl rfl (any_of HT_.out (by kernel_rfl)) (fun _ _ _ h => h) (Or.inl ⟨by rfl, ?_⟩) ?_ ?_
  rotate_left
  ·intro w'
   go_simp
   with_reducible rfl
  rotate_left
  ·simp only [Act.put, List.setIfInBounds_toArray, List.set_cons_zero, List.set_cons_succ, i64_w, i32_w]
   rfl
  refine one_ (i := 22) (N := none) #[true, true, true, true, true, true, true, true, true, true, true, true, true, true, true, true, true, true, true, true, true, true, true] rfl rfl (one_of HT_.out (by kernel_rfl)) (by decide) (fun K hK => ?_)
  have hs52 : w49.cell? ⟨gb289, 3, none⟩ = some (.int .i64 t275) := bc BK289 3
  have hfs52 := blk_frozen BK289.out 3
  have hns52_0 := NB269_289.out
  have hns52_1 := NB270_289.out
  have hns52_2 := NB287_289.out
  have hns52_3 := NB288_289.out
  have hms52_0 := NB289_269.out
  have hms52_1 := NB289_270.out
  have hms52_2 := NB289_287.out
  have hms52_3 := NB289_288.out
  with_reducible_and_instances refine skip_ (w1 := ?_) ?hw_ ?hN_ ?_ ?_
  (case hw_ => rfl)
  (case hN_ => rfl)
  rotate_left
  ·go_simp
   rfl
  refine hK.out _ _ ⟨(cf NB287_289 (hHeld.1)), (cf NB287_289 (hHeld.2.1)), (cf NB287_289 (hHeld.2.2.1)), (cf NB287_289 (hHeld.2.2.2.1)), (cf NB287_289 (hHeld.2.2.2.2.1)), (cf NB287_289 (hHeld.2.2.2.2.2.1)), (cf NB287_289 (hHeld.2.2.2.2.2.2.1)), (cf NB287_289 (hHeld.2.2.2.2.2.2.2.1)), (cf NB287_289 (hHeld.2.2.2.2.2.2.2.2))⟩ (fun hHeld => ?_)
  clear hK K
  refine done_ (done_of HT_.out (by kernel_rfl)) ?_
  try go_wp2
  have n0_ : Aside0 ((((w49.setCell ⟨gb289, 4, none⟩ (.int .i64 (wrap64 (t276 + t290)))).setCell ⟨gb289, 6, none⟩ (.int .i64 (wrap64 (t278 + t291)))).setCell ⟨gb289, 3, none⟩ (.int .i64 (wrap64 (t275 + t292)))).heap[gb269]? = some (.cells #[.int .i64 a0_0, .int .i64 a0_1, .int .i64 a0_2, .int .i64 a0_3, .int .i64 a0_4, .int .i64 a0_5, .int .i64 a0_6, .int .i64 a0_7, .int .i64 a0_8] 23 (0, 0))) := ⟨by (repeat ((with_reducible repeat (first | refine blk_drewN ?_ _ | refine blk_drew ?_ | refine blk_alloc ?_ _)); with_reducible refine blk_far ?_ NB269_289.out _)); (with_reducible repeat (first | refine blk_drewN ?_ _ | refine blk_drew ?_ | refine blk_alloc ?_ _)); exact BK269.out⟩
  have n1_ : Aside0 ((((w49.setCell ⟨gb289, 4, none⟩ (.int .i64 (wrap64 (t276 + t290)))).setCell ⟨gb289, 6, none⟩ (.int .i64 (wrap64 (t278 + t291)))).setCell ⟨gb289, 3, none⟩ (.int .i64 (wrap64 (t275 + t292)))).heap[gb270]? = some (.cells #[.string a1_0, .int .i64 a1_1, .int .i64 a1_2, .int .i64 a1_3, .int .i64 a1_4, .int .i64 a1_5] 25 (0, 0))) := ⟨by (repeat ((with_reducible repeat (first | refine blk_drewN ?_ _ | refine blk_drew ?_ | refine blk_alloc ?_ _)); with_reducible refine blk_far ?_ NB270_289.out _)); (with_reducible repeat (first | refine blk_drewN ?_ _ | refine blk_drew ?_ | refine blk_alloc ?_ _)); exact BK270.out⟩
  have n2_ : Aside0 ((((w49.setCell ⟨gb289, 4, none⟩ (.int .i64 (wrap64 (t276 + t290)))).setCell ⟨gb289, 6, none⟩ (.int .i64 (wrap64 (t278 + t291)))).setCell ⟨gb289, 3, none⟩ (.int .i64 (wrap64 (t275 + t292)))).heap[gb287]? = some (.cells #[.int .i64 t272, .int .i64 t273, .int .i64 t274, .int .i64 t275, .int .i64 t276, .int .i64 t277, .int .i64 t278, .int .i64 t279, .int .i64 t280] 23 (0, 0))) := ⟨by (repeat ((with_reducible repeat (first | refine blk_drewN ?_ _ | refine blk_drew ?_ | refine blk_alloc ?_ _)); with_reducible refine blk_far ?_ NB287_289.out _)); (with_reducible repeat (first | refine blk_drewN ?_ _ | refine blk_drew ?_ | refine blk_alloc ?_ _)); exact BK287.out⟩
  have n3_ : Aside0 ((((w49.setCell ⟨gb289, 4, none⟩ (.int .i64 (wrap64 (t276 + t290)))).setCell ⟨gb289, 6, none⟩ (.int .i64 (wrap64 (t278 + t291)))).setCell ⟨gb289, 3, none⟩ (.int .i64 (wrap64 (t275 + t292)))).heap[gb288]? = some (.cells #[.string t281, .int .i64 t282, .int .i64 t283, .int .i64 t284, .int .i64 t285, .int .i64 t286] 25 (0, 0))) := ⟨by (repeat ((with_reducible repeat (first | refine blk_drewN ?_ _ | refine blk_drew ?_ | refine blk_alloc ?_ _)); with_reducible refine blk_far ?_ NB288_289.out _)); (with_reducible repeat (first | refine blk_drewN ?_ _ | refine blk_drew ?_ | refine blk_alloc ?_ _)); exact BK288.out⟩
  have n4_ : Aside0 ((((w49.setCell ⟨gb289, 4, none⟩ (.int .i64 (wrap64 (t276 + t290)))).setCell ⟨gb289, 6, none⟩ (.int .i64 (wrap64 (t278 + t291)))).setCell ⟨gb289, 3, none⟩ (.int .i64 (wrap64 (t275 + t292)))).heap[gb289]? = some (.cells #[.int .i64 t272, .int .i64 t273, .int .i64 t274, .int .i64 (wrap64 (t275 + t292)), .int .i64 (wrap64 (t276 + t290)), .int .i64 t277, .int .i64 (wrap64 (t278 + t291)), .int .i64 t279, .int .i64 t280] 23 (0, 0))) := ⟨by (with_reducible repeat (first | refine blk_drewN ?_ _ | refine blk_drew ?_ | refine blk_alloc ?_ _)); refine blk_put (cs := #[.int .i64 t272, .int .i64 t273, .int .i64 t274, .int .i64 t275, .int .i64 (wrap64 (t276 + t290)), .int .i64 t277, .int .i64 (wrap64 (t278 + t291)), .int .i64 t279, .int .i64 t280]) ?_ 3 _ rfl; refine blk_put (cs := #[.int .i64 t272, .int .i64 t273, .int .i64 t274, .int .i64 t275, .int .i64 (wrap64 (t276 + t290)), .int .i64 t277, .int .i64 t278, .int .i64 t279, .int .i64 t280]) ?_ 6 _ rfl; refine blk_put (cs := #[.int .i64 t272, .int .i64 t273, .int .i64 t274, .int .i64 t275, .int .i64 t276, .int .i64 t277, .int .i64 t278, .int .i64 t279, .int .i64 t280]) ?_ 4 _ rfl; (with_reducible repeat (first | refine blk_drewN ?_ _ | refine blk_drew ?_ | refine blk_alloc ?_ _)); exact BK289.out⟩
  have n5_ : Aside0 (Below w.heap.size w (((w49.setCell ⟨gb289, 4, none⟩ (.int .i64 (wrap64 (t276 + t290)))).setCell ⟨gb289, 6, none⟩ (.int .i64 (wrap64 (t278 + t291)))).setCell ⟨gb289, 3, none⟩ (.int .i64 (wrap64 (t275 + t292))))) := ⟨by repeat (first | (with_reducible first | exact HB.out | apply below_alloc | apply pw_below_drewN | apply below_drew1 | refine below_set ?_ GE269.out | refine below_set ?_ GE270.out | refine below_set ?_ GE287.out | refine below_set ?_ GE288.out | refine below_set ?_ GE289.out) | exact HB.out)⟩
  (try clear BK269)
  (try clear BK270)
  (try clear BK287)
  (try clear BK288)
  (try clear BK289)
  (try clear HB)
  (repeat rw [setCell_drewN_19])
  (repeat rw [World.drewN_drewN])
  generalize (((w49.setCell ⟨gb289, 4, none⟩ (.int .i64 (wrap64 (t276 + t290)))).setCell ⟨gb289, 6, none⟩ (.int .i64 (wrap64 (t278 + t291)))).setCell ⟨gb289, 3, none⟩ (.int .i64 (wrap64 (t275 + t292)))) = w53 at n0_ n1_ n2_ n3_ n4_ n5_ ⊢
  have BK269 := n0_
  have BK270 := n1_
  have BK287 := n2_
  have BK288 := n3_
  have BK289 := n4_
  have HB := n5_
  clear n0_ n1_ n2_ n3_ n4_ n5_
  (try simp only [World.drewN_drewN]); (try (rw [drewN_self w53]; generalize hq_ : World.drewN w53 _ = w53; have n0_ : Aside0 (w53.heap[gb269]? = some (.cells #[.int .i64 a0_0, .int .i64 a0_1, .int .i64 a0_2, .int .i64 a0_3, .int .i64 a0_4, .int .i64 a0_5, .int .i64 a0_6, .int .i64 a0_7, .int .i64 a0_8] 23 (0, 0))) := ⟨by rw [← hq_]; exact (pk BK269)⟩; have n1_ : Aside0 (w53.heap[gb270]? = some (.cells #[.string a1_0, .int .i64 a1_1, .int .i64 a1_2, .int .i64 a1_3, .int .i64 a1_4, .int .i64 a1_5] 25 (0, 0))) := ⟨by rw [← hq_]; exact (pk BK270)⟩; have n2_ : Aside0 (w53.heap[gb287]? = some (.cells #[.int .i64 t272, .int .i64 t273, .int .i64 t274, .int .i64 t275, .int .i64 t276, .int .i64 t277, .int .i64 t278, .int .i64 t279, .int .i64 t280] 23 (0, 0))) := ⟨by rw [← hq_]; exact (pk BK287)⟩; have n3_ : Aside0 (w53.heap[gb288]? = some (.cells #[.string t281, .int .i64 t282, .int .i64 t283, .int .i64 t284, .int .i64 t285, .int .i64 t286] 25 (0, 0))) := ⟨by rw [← hq_]; exact (pk BK288)⟩; have n4_ : Aside0 (w53.heap[gb289]? = some (.cells #[.int .i64 t272, .int .i64 t273, .int .i64 t274, .int .i64 (wrap64 (t275 + t292)), .int .i64 (wrap64 (t276 + t290)), .int .i64 t277, .int .i64 (wrap64 (t278 + t291)), .int .i64 t279, .int .i64 t280] 23 (0, 0))) := ⟨by rw [← hq_]; exact (pk BK289)⟩; have n5_ : Aside0 (Below w.heap.size w w53) := ⟨by rw [← hq_]; exact (by repeat (first | (with_reducible first | exact HB.out | apply below_alloc | apply pw_below_drewN | apply below_drew1 | refine below_set ?_ GE269.out | refine below_set ?_ GE270.out | refine below_set ?_ GE287.out | refine below_set ?_ GE288.out | refine below_set ?_ GE289.out) | exact HB.out))⟩; clear BK269 BK270 BK287 BK288 BK289 HB hq_; have BK269 := n0_; have BK270 := n1_; have BK287 := n2_; have BK288 := n3_; have BK289 := n4_; have HB := n5_; clear n0_ n1_ n2_ n3_ n4_ n5_))
  replace BK269 := A0 (blk_drew BK269.out)
  replace BK270 := A0 (blk_drew BK270.out)
  replace BK287 := A0 (blk_drew BK287.out)
  replace BK288 := A0 (blk_drew BK288.out)
  replace BK289 := A0 (blk_drew BK289.out)
  replace HB := A0 (below_drew1 HB.out)
  refine start_ (n := 10) (S := fun w' => w'.cell? ⟨gb287, 0, none⟩ = some (.int .i64 t272) ∧ w'.cell? ⟨gb287, 1, none⟩ = some (.int .i64 t273) ∧ w'.cell? ⟨gb287, 2, none⟩ = some (.int .i64 t274) ∧ w'.cell? ⟨gb287, 3, none⟩ = some (.int .i64 t275) ∧ w'.cell? ⟨gb287, 4, none⟩ = some (.int .i64 t276) ∧ w'.cell? ⟨gb287, 5, none⟩ = some (.int .i64 t277) ∧ w'.cell? ⟨gb287, 6, none⟩ = some (.int .i64 t278) ∧ w'.cell? ⟨gb287, 7, none⟩ = some (.int .i64 t279) ∧ w'.cell? ⟨gb287, 8, none⟩ = some (.int .i64 t280) ∧ w'.cell? ⟨gb288, 0, none⟩ = some (.string t281) ∧ w'.cell? ⟨gb288, 1, none⟩ = some (.int .i64 t282) ∧ w'.cell? ⟨gb288, 2, none⟩ = some (.int .i64 t283) ∧ w'.cell? ⟨gb288, 3, none⟩ = some (.int .i64 t284) ∧ w'.cell? ⟨gb288, 4, none⟩ = some (.int .i64 t285) ∧ w'.cell? ⟨gb288, 5, none⟩ = some (.int .i64 t286) ∧ w'.cell? ⟨gb289, 0, none⟩ = some (.int .i64 t272) ∧ w'.cell? ⟨gb289, 1, none⟩ = some (.int .i64 t273) ∧ w'.cell? ⟨gb289, 2, none⟩ = some (.int .i64 t274) ∧ w'.cell? ⟨gb289, 3, none⟩ = some (.int .i64 (wrap64 (t275 + t292))) ∧ w'.cell? ⟨gb289, 4, none⟩ = some (.int .i64 (wrap64 (t276 + t290))) ∧ w'.cell? ⟨gb289, 5, none⟩ = some (.int .i64 t277) ∧ w'.cell? ⟨gb289, 6, none⟩ = some (.int .i64 (wrap64 (t278 + t291))) ∧ w'.cell? ⟨gb289, 7, none⟩ = some (.int .i64 t279) ∧ w'.cell? ⟨gb289, 8, none⟩ = some (.int .i64 t280)) (ds := []) #[false, false, false, false, false, false, false, false, false, false] (by kernel_rfl) rfl rfl ⟨bc BK287 0, bc BK287 1, bc BK287 2, bc BK287 3, bc BK287 4, bc BK287 5, bc BK287 6, bc BK287 7, bc BK287 8, bc BK288 0, bc BK288 1, bc BK288 2, bc BK288 3, bc BK288 4, bc BK288 5, bc BK289 0, bc BK289 1, bc BK289 2, bc BK289 3, bc BK289 4, bc BK289 5, bc BK289 6, bc BK289 7, bc BK289 8⟩ (fun hHeld => ?_); refine with_tabW damperlaw10_ScaleMore.tab6 damperlaw10_ScaleMore.bits6 (fun HT_ HW_ => ?_)
  generalize w53.drew = w54 at BK269 BK270 BK287 BK288 BK289 HB hHeld ⊢
  refine take_ (i := 0) (N := some 39) (v := ?_) (a' := ?_) #[true, false, false, false, false, false, false, false, false, false] rfl rfl (take_ofW HT_.out HW_.out (by kernel_rfl)) (fun _ _ _ h => h) (Or.inl ⟨by rfl, ?_⟩) hHeld ?_ ?_
  rotate_left
  ·rintro w' ⟨s0, s1, s2, s3, s4, s5, s6, s7, s8, s9, s10, s11, s12, s13, s14, s15, s16, s17, s18, s19, s20, s21, s22, s23⟩
   go_simp
   with_reducible rfl
  rotate_left
  ·simp only [Act.put, List.setIfInBounds_toArray, List.set_cons_zero, List.set_cons_succ, i64_w, i32_w]
   rfl
  refine take_ (i := 1) (N := some 40) (v := ?_) (a' := ?_) #[true, true, false, false, false, false, false, false, false, false] rfl rfl (take_ofW HT_.out HW_.out (by kernel_rfl)) (fun _ _ _ h => h) (Or.inl ⟨by rfl, ?_⟩) hHeld ?_ ?_
  rotate_left
  ·rintro w' ⟨s0, s1, s2, s3, s4, s5, s6, s7, s8, s9, s10, s11, s12, s13, s14, s15, s16, s17, s18, s19, s20, s21, s22, s23⟩
   go_simp
   with_reducible rfl
  rotate_left
  ·simp only [Act.put, List.setIfInBounds_toArray, List.set_cons_zero, List.set_cons_succ, i64_w, i32_w]
   rfl
  refine take_ (i := 3) (N := some 42) (v := ?_) (a' := ?_) #[true, true, false, true, false, false, false, false, false, false] rfl rfl (take_ofW HT_.out HW_.out (by kernel_rfl)) (fun _ _ _ h => h) (Or.inl ⟨by rfl, ?_⟩) hHeld ?_ ?_
  rotate_left
  ·rintro w' ⟨s0, s1, s2, s3, s4, s5, s6, s7, s8, s9, s10, s11, s12, s13, s14, s15, s16, s17, s18, s19, s20, s21, s22, s23⟩
   go_simp
   with_reducible rfl
  rotate_left
  ·simp only [Act.put, List.setIfInBounds_toArray, List.set_cons_zero, List.set_cons_succ, i64_w, i32_w]
   rfl
  refine take_ (i := 4) (N := some 43) (v := ?_) (a' := ?_) #[true, true, false, true, true, false, false, false, false, false] rfl rfl (take_ofW HT_.out HW_.out (by kernel_rfl)) (fun _ _ _ h => h) (Or.inl ⟨by rfl, ?_⟩) hHeld ?_ ?_
  rotate_left
  ·rintro w' ⟨s0, s1, s2, s3, s4, s5, s6, s7, s8, s9, s10, s11, s12, s13, s14, s15, s16, s17, s18, s19, s20, s21, s22, s23⟩
   go_simp
   with_reducible rfl
  rotate_left
  ·simp only [Act.put, List.setIfInBounds_toArray, List.set_cons_zero, List.set_cons_succ, i64_w, i32_w]
   rfl
  refine join_ (σ := Nat × Nat) 2 #[true, true, true, true, true, true, true, true, false, false] (fun s_ => [(41, .agg #[.int .i64 t293, .int .i64 t294]), (44, .agg #[.int .i64 t295, .int .i64 t296]), (10, .pointer (some ⟨s_.1, 0, none⟩)), (11, .pointer (some ⟨s_.2, 0, none⟩))]) (fun s_ w' => (w'.cell? ⟨gb287, 0, none⟩ = some (.int .i64 t272) ∧ w'.cell? ⟨gb287, 1, none⟩ = some (.int .i64 t273) ∧ w'.cell? ⟨gb287, 2, none⟩ = some (.int .i64 t274) ∧ w'.cell? ⟨gb287, 3, none⟩ = some (.int .i64 t275) ∧ w'.cell? ⟨gb287, 4, none⟩ = some (.int .i64 t276) ∧ w'.cell? ⟨gb287, 5, none⟩ = some (.int .i64 t277) ∧ w'.cell? ⟨gb287, 6, none⟩ = some (.int .i64 t278) ∧ w'.cell? ⟨gb287, 7, none⟩ = some (.int .i64 t279) ∧ w'.cell? ⟨gb287, 8, none⟩ = some (.int .i64 t280) ∧ w'.cell? ⟨gb288, 0, none⟩ = some (.string t281) ∧ w'.cell? ⟨gb288, 1, none⟩ = some (.int .i64 t282) ∧ w'.cell? ⟨gb288, 2, none⟩ = some (.int .i64 t283) ∧ w'.cell? ⟨gb288, 3, none⟩ = some (.int .i64 t284) ∧ w'.cell? ⟨gb288, 4, none⟩ = some (.int .i64 t285) ∧ w'.cell? ⟨gb288, 5, none⟩ = some (.int .i64 t286) ∧ w'.cell? ⟨gb289, 0, none⟩ = some (.int .i64 t272) ∧ w'.cell? ⟨gb289, 1, none⟩ = some (.int .i64 t273) ∧ w'.cell? ⟨gb289, 2, none⟩ = some (.int .i64 t274) ∧ w'.cell? ⟨gb289, 3, none⟩ = some (.int .i64 (wrap64 (t275 + t292))) ∧ w'.cell? ⟨gb289, 4, none⟩ = some (.int .i64 (wrap64 (t276 + t290))) ∧ w'.cell? ⟨gb289, 5, none⟩ = some (.int .i64 t277) ∧ w'.cell? ⟨gb289, 6, none⟩ = some (.int .i64 (wrap64 (t278 + t291))) ∧ w'.cell? ⟨gb289, 7, none⟩ = some (.int .i64 t279) ∧ w'.cell? ⟨gb289, 8, none⟩ = some (.int .i64 t280)) ∧ (w'.heap[gb269]? = some (.cells #[.int .i64 a0_0, .int .i64 a0_1, .int .i64 a0_2, .int .i64 a0_3, .int .i64 a0_4, .int .i64 a0_5, .int .i64 a0_6, .int .i64 a0_7, .int .i64 a0_8] 23 (0, 0))) ∧ (w'.heap[gb270]? = some (.cells #[.string a1_0, .int .i64 a1_1, .int .i64 a1_2, .int .i64 a1_3, .int .i64 a1_4, .int .i64 a1_5] 25 (0, 0))) ∧ (w'.heap[gb287]? = some (.cells #[.int .i64 t272, .int .i64 t273, .int .i64 t274, .int .i64 t275, .int .i64 t276, .int .i64 t277, .int .i64 t278, .int .i64 t279, .int .i64 t280] 23 (0, 0))) ∧ (w'.heap[gb288]? = some (.cells #[.string t281, .int .i64 t282, .int .i64 t283, .int .i64 t284, .int .i64 t285, .int .i64 t286] 25 (0, 0))) ∧ (w'.heap[gb289]? = some (.cells #[.int .i64 t272, .int .i64 t273, .int .i64 t274, .int .i64 (wrap64 (t275 + t292)), .int .i64 (wrap64 (t276 + t290)), .int .i64 t277, .int .i64 (wrap64 (t278 + t291)), .int .i64 t279, .int .i64 t280] 23 (0, 0))) ∧ (w'.heap[s_.1]? = some (.cells #[.int .i64 0, .int .i64 0] 30 (0, 0))) ∧ (w'.heap[s_.2]? = some (.cells #[.int .i64 0, .int .i64 0] 30 (0, 0))) ∧ (w.heap.size ≤ s_.1) ∧ (w.heap.size ≤ s_.1) ∧ (gb269 ≠ s_.1) ∧ (s_.1 ≠ gb269) ∧ (gb270 ≠ s_.1) ∧ (s_.1 ≠ gb270) ∧ (gb287 ≠ s_.1) ∧ (s_.1 ≠ gb287) ∧ (gb288 ≠ s_.1) ∧ (s_.1 ≠ gb288) ∧ (gb289 ≠ s_.1) ∧ (s_.1 ≠ gb289) ∧ (s_.2 ≠ s_.1) ∧ (s_.1 ≠ s_.2) ∧ (w.heap.size ≤ s_.2) ∧ (w.heap.size ≤ s_.2) ∧ (gb269 ≠ s_.2) ∧ (s_.2 ≠ gb269) ∧ (gb270 ≠ s_.2) ∧ (s_.2 ≠ gb270) ∧ (gb287 ≠ s_.2) ∧ (s_.2 ≠ gb287) ∧ (gb288 ≠ s_.2) ∧ (s_.2 ≠ gb288) ∧ (gb289 ≠ s_.2) ∧ (s_.2 ≠ gb289) ∧ (Below w.heap.size w w')) ?_ ?_
  ·rintro ⟨gb297, gb298⟩ w59 ⟨hS_, h0_, h1_, h2_, h3_, h4_, h5_, h6_, h7_, h8_, h9_, h10_, h11_, h12_, h13_, h14_, h15_, h16_, h17_, h18_, h19_, h20_, h21_, h22_, h23_, h24_, h25_, h26_, h27_, h28_, h29_, h30_, h31_, h32_, h33_⟩
   have BK297 : Aside0 (w59.heap[gb297]? = some (.cells #[.int .i64 0, .int .i64 0] 30 (0, 0))) := ⟨h5_⟩
   have BK298 : Aside0 (w59.heap[gb298]? = some (.cells #[.int .i64 0, .int .i64 0] 30 (0, 0))) := ⟨h6_⟩
   have GW297 : Aside0 (w.heap.size ≤ gb297) := ⟨h7_⟩
   have GE297 : Aside0 (w.heap.size ≤ gb297) := ⟨h8_⟩
   have NB269_297 : Aside0 (gb269 ≠ gb297) := ⟨h9_⟩
   have NB297_269 : Aside0 (gb297 ≠ gb269) := ⟨h10_⟩
   have NB270_297 : Aside0 (gb270 ≠ gb297) := ⟨h11_⟩
   have NB297_270 : Aside0 (gb297 ≠ gb270) := ⟨h12_⟩
   have NB287_297 : Aside0 (gb287 ≠ gb297) := ⟨h13_⟩
   have NB297_287 : Aside0 (gb297 ≠ gb287) := ⟨h14_⟩
   have NB288_297 : Aside0 (gb288 ≠ gb297) := ⟨h15_⟩
   have NB297_288 : Aside0 (gb297 ≠ gb288) := ⟨h16_⟩
   have NB289_297 : Aside0 (gb289 ≠ gb297) := ⟨h17_⟩
   have NB297_289 : Aside0 (gb297 ≠ gb289) := ⟨h18_⟩
   have NB298_297 : Aside0 (gb298 ≠ gb297) := ⟨h19_⟩
   have NB297_298 : Aside0 (gb297 ≠ gb298) := ⟨h20_⟩
   have GW298 : Aside0 (w.heap.size ≤ gb298) := ⟨h21_⟩
   have GE298 : Aside0 (w.heap.size ≤ gb298) := ⟨h22_⟩
   have NB269_298 : Aside0 (gb269 ≠ gb298) := ⟨h23_⟩
   have NB298_269 : Aside0 (gb298 ≠ gb269) := ⟨h24_⟩
   have NB270_298 : Aside0 (gb270 ≠ gb298) := ⟨h25_⟩
   have NB298_270 : Aside0 (gb298 ≠ gb270) := ⟨h26_⟩
   have NB287_298 : Aside0 (gb287 ≠ gb298) := ⟨h27_⟩
   have NB298_287 : Aside0 (gb298 ≠ gb287) := ⟨h28_⟩
   have NB288_298 : Aside0 (gb288 ≠ gb298) := ⟨h29_⟩
   have NB298_288 : Aside0 (gb298 ≠ gb288) := ⟨h30_⟩
   have NB289_298 : Aside0 (gb289 ≠ gb298) := ⟨h31_⟩
   have NB298_289 : Aside0 (gb298 ≠ gb289) := ⟨h32_⟩
   replace BK269 := A0 h0_
   replace BK270 := A0 h1_
   replace BK287 := A0 h2_
   replace BK288 := A0 h3_
   replace BK289 := A0 h4_
   replace HB : Aside0 (Below w.heap.size w w59) := ⟨h33_⟩
   clear h0_ h1_ h2_ h3_ h4_ h5_ h6_ h7_ h8_ h9_ h10_ h11_ h12_ h13_ h14_ h15_ h16_ h17_ h18_ h19_ h20_ h21_ h22_ h23_ h24_ h25_ h26_ h27_ h28_ h29_ h30_ h31_ h32_ h33_
   have hHeld := hS_
   refine norm_ (a' := ?_) ?_ ?_
   rotate_left
   ·simp only [putAll, Act.put, List.setIfInBounds_toArray, List.set_cons_zero, List.set_cons_succ]
    rfl
   refine one_ (i := 8) (N := none) #[true, true, true, true, true, true, true, true, true, false] rfl rfl (one_of HT_.out (by kernel_rfl)) (by decide) (fun K hK => ?_)
   have hs60 : w59.cell? ⟨gb297, 0, none⟩ = some (.int .i64 0) := bc BK297 0
   have hfs60 := blk_frozen BK297.out 0
   have hns60_0 := NB269_297.out
   have hns60_1 := NB270_297.out
   have hns60_2 := NB287_297.out
   have hns60_3 := NB288_297.out
   have hns60_4 := NB289_297.out
   have hns60_6 := NB298_297.out
   have hms60_0 := NB297_269.out
   have hms60_1 := NB297_270.out
   have hms60_2 := NB297_287.out
   have hms60_3 := NB297_288.out
   have hms60_4 := NB297_289.out
   have hms60_6 := NB297_298.out
   have hs61 : w59.cell? ⟨gb297, 1, none⟩ = some (.int .i64 0) := bc BK297 1
   have hfs61 := blk_frozen BK297.out 1
   with_reducible_and_instances refine skip_ (w1 := ?_) ?hw_ ?hN_ ?_ ?_
   (case hw_ => rfl)
   (case hN_ => rfl)
   rotate_left
   ·go_simp
    rfl
   refine hK.out _ _ ⟨(cf NB287_297 ((cf NB287_297 (hHeld.1)))), (cf NB287_297 ((cf NB287_297 (hHeld.2.1)))), (cf NB287_297 ((cf NB287_297 (hHeld.2.2.1)))), (cf NB287_297 ((cf NB287_297 (hHeld.2.2.2.1)))), (cf NB287_297 ((cf NB287_297 (hHeld.2.2.2.2.1)))), (cf NB287_297 ((cf NB287_297 (hHeld.2.2.2.2.2.1)))), (cf NB287_297 ((cf NB287_297 (hHeld.2.2.2.2.2.2.1)))), (cf NB287_297 ((cf NB287_297 (hHeld.2.2.2.2.2.2.2.1)))), (cf NB287_297 ((cf NB287_297 (hHeld.2.2.2.2.2.2.2.2.1)))), (cf NB288_297 ((cf NB288_297 (hHeld.2.2.2.2.2.2.2.2.2.1)))), (cf NB288_297 ((cf NB288_297 (hHeld.2.2.2.2.2.2.2.2.2.2.1)))), (cf NB288_297 ((cf NB288_297 (hHeld.2.2.2.2.2.2.2.2.2.2.2.1)))), (cf NB288_297 ((cf NB288_297 (hHeld.2.2.2.2.2.2.2.2.2.2.2.2.1)))), (cf NB288_297 ((cf NB288_297 (hHeld.2.2.2.2.2.2.2.2.2.2.2.2.2.1)))), (cf NB288_297 ((cf NB288_297 (hHeld.2.2.2.2.2.2.2.2.2.2.2.2.2.2.1)))), (cf NB289_297 ((cf NB289_297 (hHeld.2.2.2.2.2.2.2.2.2.2.2.2.2.2.2.1)))), (cf NB289_297 ((cf NB289_297 (hHeld.2.2.2.2.2.2.2.2.2.2.2.2.2.2.2.2.1)))), (cf NB289_297 ((cf NB289_297 (hHeld.2.2.2.2.2.2.2.2.2.2.2.2.2.2.2.2.2.1)))), (cf NB289_297 ((cf NB289_297 (hHeld.2.2.2.2.2.2.2.2.2.2.2.2.2.2.2.2.2.2.1)))), (cf NB289_297 ((cf NB289_297 (hHeld.2.2.2.2.2.2.2.2.2.2.2.2.2.2.2.2.2.2.2.1)))), (cf NB289_297 ((cf NB289_297 (hHeld.2.2.2.2.2.2.2.2.2.2.2.2.2.2.2.2.2.2.2.2.1)))), (cf NB289_297 ((cf NB289_297 (hHeld.2.2.2.2.2.2.2.2.2.2.2.2.2.2.2.2.2.2.2.2.2.1)))), (cf NB289_297 ((cf NB289_297 (hHeld.2.2.2.2.2.2.2.2.2.2.2.2.2.2.2.2.2.2.2.2.2.2.1)))), (cf NB289_297 ((cf NB289_297 (hHeld.2.2.2.2.2.2.2.2.2.2.2.2.2.2.2.2.2.2.2.2.2.2.2))))⟩ (fun hHeld => ?_)
   clear hK K
   refine one_ (i := 9) (N := none) #[true, true, true, true, true, true, true, true, true, true] rfl rfl (one_of HT_.out (by kernel_rfl)) (by decide) (fun K hK => ?_)
   have hs62 : w59.cell? ⟨gb298, 0, none⟩ = some (.int .i64 0) := bc BK298 0
   have hfs62 := blk_frozen BK298.out 0
   have hns62_0 := NB269_298.out
   have hns62_1 := NB270_298.out
   have hns62_2 := NB287_298.out
   have hns62_3 := NB288_298.out
   have hns62_4 := NB289_298.out
   have hns62_5 := NB297_298.out
   have hms62_0 := NB298_269.out
   have hms62_1 := NB298_270.out
   have hms62_2 := NB298_287.out
   have hms62_3 := NB298_288.out
   have hms62_4 := NB298_289.out
   have hms62_5 := NB298_297.out
   have hs63 : w59.cell? ⟨gb298, 1, none⟩ = some (.int .i64 0) := bc BK298 1
   have hfs63 := blk_frozen BK298.out 1
   with_reducible_and_instances refine skip_ (w1 := ?_) ?hw_ ?hN_ ?_ ?_
   (case hw_ => rfl)
   (case hN_ => rfl)
   rotate_left
   ·go_simp
    rfl
   refine hK.out _ _ ⟨(cf NB287_298 ((cf NB287_298 (hHeld.1)))), (cf NB287_298 ((cf NB287_298 (hHeld.2.1)))), (cf NB287_298 ((cf NB287_298 (hHeld.2.2.1)))), (cf NB287_298 ((cf NB287_298 (hHeld.2.2.2.1)))), (cf NB287_298 ((cf NB287_298 (hHeld.2.2.2.2.1)))), (cf NB287_298 ((cf NB287_298 (hHeld.2.2.2.2.2.1)))), (cf NB287_298 ((cf NB287_298 (hHeld.2.2.2.2.2.2.1)))), (cf NB287_298 ((cf NB287_298 (hHeld.2.2.2.2.2.2.2.1)))), (cf NB287_298 ((cf NB287_298 (hHeld.2.2.2.2.2.2.2.2.1)))), (cf NB288_298 ((cf NB288_298 (hHeld.2.2.2.2.2.2.2.2.2.1)))), (cf NB288_298 ((cf NB288_298 (hHeld.2.2.2.2.2.2.2.2.2.2.1)))), (cf NB288_298 ((cf NB288_298 (hHeld.2.2.2.2.2.2.2.2.2.2.2.1)))), (cf NB288_298 ((cf NB288_298 (hHeld.2.2.2.2.2.2.2.2.2.2.2.2.1)))), (cf NB288_298 ((cf NB288_298 (hHeld.2.2.2.2.2.2.2.2.2.2.2.2.2.1)))), (cf NB288_298 ((cf NB288_298 (hHeld.2.2.2.2.2.2.2.2.2.2.2.2.2.2.1)))), (cf NB289_298 ((cf NB289_298 (hHeld.2.2.2.2.2.2.2.2.2.2.2.2.2.2.2.1)))), (cf NB289_298 ((cf NB289_298 (hHeld.2.2.2.2.2.2.2.2.2.2.2.2.2.2.2.2.1)))), (cf NB289_298 ((cf NB289_298 (hHeld.2.2.2.2.2.2.2.2.2.2.2.2.2.2.2.2.2.1)))), (cf NB289_298 ((cf NB289_298 (hHeld.2.2.2.2.2.2.2.2.2.2.2.2.2.2.2.2.2.2.1)))), (cf NB289_298 ((cf NB289_298 (hHeld.2.2.2.2.2.2.2.2.2.2.2.2.2.2.2.2.2.2.2.1)))), (cf NB289_298 ((cf NB289_298 (hHeld.2.2.2.2.2.2.2.2.2.2.2.2.2.2.2.2.2.2.2.2.1)))), (cf NB289_298 ((cf NB289_298 (hHeld.2.2.2.2.2.2.2.2.2.2.2.2.2.2.2.2.2.2.2.2.2.1)))), (cf NB289_298 ((cf NB289_298 (hHeld.2.2.2.2.2.2.2.2.2.2.2.2.2.2.2.2.2.2.2.2.2.2.1)))), (cf NB289_298 ((cf NB289_298 (hHeld.2.2.2.2.2.2.2.2.2.2.2.2.2.2.2.2.2.2.2.2.2.2.2))))⟩ (fun hHeld => ?_)
   clear hK K
   refine done_ (done_of HT_.out (by kernel_rfl)) ?_
   have hnb64 := NB298_269.out
   have hnc64 := NB269_298.out
   have hnb65 := NB298_270.out
   have hnc65 := NB270_298.out
   have hnb66 := NB298_287.out
   have hnc66 := NB287_298.out
   have hnb67 := NB298_288.out
   have hnc67 := NB288_298.out
   have hnb68 := NB298_289.out
   have hnc68 := NB289_298.out
   have hnb69 := NB298_297.out
   have hnc69 := NB297_298.out
   have hcz70_0 : w59.cell? ⟨gb298, 0, none⟩ = some (.int .i64 0) := bc BK298 0
   have hcz70_1 : w59.cell? ⟨gb298, 1, none⟩ = some (.int .i64 0) := bc BK298 1
   have hfz70_0 := blk_frozen BK298.out 0
   have hfz70_1 := blk_frozen BK298.out 1
   have hnb71 := NB297_269.out
   have hnc71 := NB269_297.out
   have hnb72 := NB297_270.out
   have hnc72 := NB270_297.out
   have hnb73 := NB297_287.out
   have hnc73 := NB287_297.out
   have hnb74 := NB297_288.out
   have hnc74 := NB288_297.out
   have hnb75 := NB297_289.out
   have hnc75 := NB289_297.out
   have hcz76_0 : w59.cell? ⟨gb297, 0, none⟩ = some (.int .i64 0) := bc BK297 0
   have hcz76_1 : w59.cell? ⟨gb297, 1, none⟩ = some (.int .i64 0) := bc BK297 1
   have hfz76_0 := blk_frozen BK297.out 0
   have hfz76_1 := blk_frozen BK297.out 1
   try go_wp2
   go_ret
   exact ⟨by first | rfl | (simp [errW_none, errW_some] <;> rfl) | (simp [*, errW_none, errW_some] <;> rfl), by repeat (first | (with_reducible first | exact HB.out | apply below_alloc | apply pw_below_drewN | apply below_drew1 | refine below_set ?_ GE269.out | refine below_set ?_ GE270.out | refine below_set ?_ GE287.out | refine below_set ?_ GE288.out | refine below_set ?_ GE289.out | refine below_set ?_ GE297.out | refine below_set ?_ GE298.out) | exact HB.out)⟩
  intro hJ2_5_6_7
  refine join_ (σ := Nat) 3 #[true, true, true, true, true, true, true, false, false, false] (fun s_ => [(41, .agg #[.int .i64 t293, .int .i64 t294]), (44, .agg #[.int .i64 t295, .int .i64 t296]), (10, .pointer (some ⟨s_, 0, none⟩))]) (fun s_ w' => (w'.cell? ⟨gb287, 0, none⟩ = some (.int .i64 t272) ∧ w'.cell? ⟨gb287, 1, none⟩ = some (.int .i64 t273) ∧ w'.cell? ⟨gb287, 2, none⟩ = some (.int .i64 t274) ∧ w'.cell? ⟨gb287, 3, none⟩ = some (.int .i64 t275) ∧ w'.cell? ⟨gb287, 4, none⟩ = some (.int .i64 t276) ∧ w'.cell? ⟨gb287, 5, none⟩ = some (.int .i64 t277) ∧ w'.cell? ⟨gb287, 6, none⟩ = some (.int .i64 t278) ∧ w'.cell? ⟨gb287, 7, none⟩ = some (.int .i64 t279) ∧ w'.cell? ⟨gb287, 8, none⟩ = some (.int .i64 t280) ∧ w'.cell? ⟨gb288, 0, none⟩ = some (.string t281) ∧ w'.cell? ⟨gb288, 1, none⟩ = some (.int .i64 t282) ∧ w'.cell? ⟨gb288, 2, none⟩ = some (.int .i64 t283) ∧ w'.cell? ⟨gb288, 3, none⟩ = some (.int .i64 t284) ∧ w'.cell? ⟨gb288, 4, none⟩ = some (.int .i64 t285) ∧ w'.cell? ⟨gb288, 5, none⟩ = some (.int .i64 t286) ∧ w'.cell? ⟨gb289, 0, none⟩ = some (.int .i64 t272) ∧ w'.cell? ⟨gb289, 1, none⟩ = some (.int .i64 t273) ∧ w'.cell? ⟨gb289, 2, none⟩ = some (.int .i64 t274) ∧ w'.cell? ⟨gb289, 3, none⟩ = some (.int .i64 (wrap64 (t275 + t292))) ∧ w'.cell? ⟨gb289, 4, none⟩ = some (.int .i64 (wrap64 (t276 + t290))) ∧ w'.cell? ⟨gb289, 5, none⟩ = some (.int .i64 t277) ∧ w'.cell? ⟨gb289, 6, none⟩ = some (.int .i64 (wrap64 (t278 + t291))) ∧ w'.cell? ⟨gb289, 7, none⟩ = some (.int .i64 t279) ∧ w'.cell? ⟨gb289, 8, none⟩ = some (.int .i64 t280)) ∧ (w'.heap[gb269]? = some (.cells #[.int .i64 a0_0, .int .i64 a0_1, .int .i64 a0_2, .int .i64 a0_3, .int .i64 a0_4, .int .i64 a0_5, .int .i64 a0_6, .int .i64 a0_7, .int .i64 a0_8] 23 (0, 0))) ∧ (w'.heap[gb270]? = some (.cells #[.string a1_0, .int .i64 a1_1, .int .i64 a1_2, .int .i64 a1_3, .int .i64 a1_4, .int .i64 a1_5] 25 (0, 0))) ∧ (w'.heap[gb287]? = some (.cells #[.int .i64 t272, .int .i64 t273, .int .i64 t274, .int .i64 t275, .int .i64 t276, .int .i64 t277, .int .i64 t278, .int .i64 t279, .int .i64 t280] 23 (0, 0))) ∧ (w'.heap[gb288]? = some (.cells #[.string t281, .int .i64 t282, .int .i64 t283, .int .i64 t284, .int .i64 t285, .int .i64 t286] 25 (0, 0))) ∧ (w'.heap[gb289]? = some (.cells #[.int .i64 t272, .int .i64 t273, .int .i64 t274, .int .i64 (wrap64 (t275 + t292)), .int .i64 (wrap64 (t276 + t290)), .int .i64 t277, .int .i64 (wrap64 (t278 + t291)), .int .i64 t279, .int .i64 t280] 23 (0, 0))) ∧ (w'.heap[s_]? = some (.cells #[.int .i64 0, .int .i64 0] 30 (0, 0))) ∧ (w.heap.size ≤ s_) ∧ (w.heap.size ≤ s_) ∧ (gb269 ≠ s_) ∧ (s_ ≠ gb269) ∧ (gb270 ≠ s_) ∧ (s_ ≠ gb270) ∧ (gb287 ≠ s_) ∧ (s_ ≠ gb287) ∧ (gb288 ≠ s_) ∧ (s_ ≠ gb288) ∧ (gb289 ≠ s_) ∧ (s_ ≠ gb289) ∧ (Below w.heap.size w w')) ?_ ?_
  rotate_left
  ·intro hJ2_5_6
   refine join_ (σ := Nat) 3 #[true, true, true, true, true, true, false, true, false, false] (fun s_ => [(41, .agg #[.int .i64 t293, .int .i64 t294]), (44, .agg #[.int .i64 t295, .int .i64 t296]), (11, .pointer (some ⟨s_, 0, none⟩))]) (fun s_ w' => (w'.cell? ⟨gb287, 0, none⟩ = some (.int .i64 t272) ∧ w'.cell? ⟨gb287, 1, none⟩ = some (.int .i64 t273) ∧ w'.cell? ⟨gb287, 2, none⟩ = some (.int .i64 t274) ∧ w'.cell? ⟨gb287, 3, none⟩ = some (.int .i64 t275) ∧ w'.cell? ⟨gb287, 4, none⟩ = some (.int .i64 t276) ∧ w'.cell? ⟨gb287, 5, none⟩ = some (.int .i64 t277) ∧ w'.cell? ⟨gb287, 6, none⟩ = some (.int .i64 t278) ∧ w'.cell? ⟨gb287, 7, none⟩ = some (.int .i64 t279) ∧ w'.cell? ⟨gb287, 8, none⟩ = some (.int .i64 t280) ∧ w'.cell? ⟨gb288, 0, none⟩ = some (.string t281) ∧ w'.cell? ⟨gb288, 1, none⟩ = some (.int .i64 t282) ∧ w'.cell? ⟨gb288, 2, none⟩ = some (.int .i64 t283) ∧ w'.cell? ⟨gb288, 3, none⟩ = some (.int .i64 t284) ∧ w'.cell? ⟨gb288, 4, none⟩ = some (.int .i64 t285) ∧ w'.cell? ⟨gb288, 5, none⟩ = some (.int .i64 t286) ∧ w'.cell? ⟨gb289, 0, none⟩ = some (.int .i64 t272) ∧ w'.cell? ⟨gb289, 1, none⟩ = some (.int .i64 t273) ∧ w'.cell? ⟨gb289, 2, none⟩ = some (.int .i64 t274) ∧ w'.cell? ⟨gb289, 3, none⟩ = some (.int .i64 (wrap64 (t275 + t292))) ∧ w'.cell? ⟨gb289, 4, none⟩ = some (.int .i64 (wrap64 (t276 + t290))) ∧ w'.cell? ⟨gb289, 5, none⟩ = some (.int .i64 t277) ∧ w'.cell? ⟨gb289, 6, none⟩ = some (.int .i64 (wrap64 (t278 + t291))) ∧ w'.cell? ⟨gb289, 7, none⟩ = some (.int .i64 t279) ∧ w'.cell? ⟨gb289, 8, none⟩ = some (.int .i64 t280)) ∧ (w'.heap[gb269]? = some (.cells #[.int .i64 a0_0, .int .i64 a0_1, .int .i64 a0_2, .int .i64 a0_3, .int .i64 a0_4, .int .i64 a0_5, .int .i64 a0_6, .int .i64 a0_7, .int .i64 a0_8] 23 (0, 0))) ∧ (w'.heap[gb270]? = some (.cells #[.string a1_0, .int .i64 a1_1, .int .i64 a1_2, .int .i64 a1_3, .int .i64 a1_4, .int .i64 a1_5] 25 (0, 0))) ∧ (w'.heap[gb287]? = some (.cells #[.int .i64 t272, .int .i64 t273, .int .i64 t274, .int .i64 t275, .int .i64 t276, .int .i64 t277, .int .i64 t278, .int .i64 t279, .int .i64 t280] 23 (0, 0))) ∧ (w'.heap[gb288]? = some (.cells #[.string t281, .int .i64 t282, .int .i64 t283, .int .i64 t284, .int .i64 t285, .int .i64 t286] 25 (0, 0))) ∧ (w'.heap[gb289]? = some (.cells #[.int .i64 t272, .int .i64 t273, .int .i64 t274, .int .i64 (wrap64 (t275 + t292)), .int .i64 (wrap64 (t276 + t290)), .int .i64 t277, .int .i64 (wrap64 (t278 + t291)), .int .i64 t279, .int .i64 t280] 23 (0, 0))) ∧ (w'.heap[s_]? = some (.cells #[.int .i64 0, .int .i64 0] 30 (0, 0))) ∧ (w.heap.size ≤ s_) ∧ (w.heap.size ≤ s_) ∧ (gb269 ≠ s_) ∧ (s_ ≠ gb269) ∧ (gb270 ≠ s_) ∧ (s_ ≠ gb270) ∧ (gb287 ≠ s_) ∧ (s_ ≠ gb287) ∧ (gb288 ≠ s_) ∧ (s_ ≠ gb288) ∧ (gb289 ≠ s_) ∧ (s_ ≠ gb289) ∧ (Below w.heap.size w w')) ?_ ?_
   rotate_left
   ·intro hJ2_5_7
    refine join_ (σ := Nat × Nat) 3 #[true, true, true, true, true, false, true, true, false, false] (fun s_ => [(41, .agg #[.int .i64 t293, .int .i64 t294]), (10, .pointer (some ⟨s_.1, 0, none⟩)), (11, .pointer (some ⟨s_.2, 0, none⟩))]) (fun s_ w' => (w'.cell? ⟨gb287, 0, none⟩ = some (.int .i64 t272) ∧ w'.cell? ⟨gb287, 1, none⟩ = some (.int .i64 t273) ∧ w'.cell? ⟨gb287, 2, none⟩ = some (.int .i64 t274) ∧ w'.cell? ⟨gb287, 3, none⟩ = some (.int .i64 t275) ∧ w'.cell? ⟨gb287, 4, none⟩ = some (.int .i64 t276) ∧ w'.cell? ⟨gb287, 5, none⟩ = some (.int .i64 t277) ∧ w'.cell? ⟨gb287, 6, none⟩ = some (.int .i64 t278) ∧ w'.cell? ⟨gb287, 7, none⟩ = some (.int .i64 t279) ∧ w'.cell? ⟨gb287, 8, none⟩ = some (.int .i64 t280) ∧ w'.cell? ⟨gb288, 0, none⟩ = some (.string t281) ∧ w'.cell? ⟨gb288, 1, none⟩ = some (.int .i64 t282) ∧ w'.cell? ⟨gb288, 2, none⟩ = some (.int .i64 t283) ∧ w'.cell? ⟨gb288, 3, none⟩ = some (.int .i64 t284) ∧ w'.cell? ⟨gb288, 4, none⟩ = some (.int .i64 t285) ∧ w'.cell? ⟨gb288, 5, none⟩ = some (.int .i64 t286) ∧ w'.cell? ⟨gb289, 0, none⟩ = some (.int .i64 t272) ∧ w'.cell? ⟨gb289, 1, none⟩ = some (.int .i64 t273) ∧ w'.cell? ⟨gb289, 2, none⟩ = some (.int .i64 t274) ∧ w'.cell? ⟨gb289, 3, none⟩ = some (.int .i64 (wrap64 (t275 + t292))) ∧ w'.cell? ⟨gb289, 4, none⟩ = some (.int .i64 (wrap64 (t276 + t290))) ∧ w'.cell? ⟨gb289, 5, none⟩ = some (.int .i64 t277) ∧ w'.cell? ⟨gb289, 6, none⟩ = some (.int .i64 (wrap64 (t278 + t291))) ∧ w'.cell? ⟨gb289, 7, none⟩ = some (.int .i64 t279) ∧ w'.cell? ⟨gb289, 8, none⟩ = some (.int .i64 t280)) ∧ (w'.heap[gb269]? = some (.cells #[.int .i64 a0_0, .int .i64 a0_1, .int .i64 a0_2, .int .i64 a0_3, .int .i64 a0_4, .int .i64 a0_5, .int .i64 a0_6, .int .i64 a0_7, .int .i64 a0_8] 23 (0, 0))) ∧ (w'.heap[gb270]? = some (.cells #[.string a1_0, .int .i64 a1_1, .int .i64 a1_2, .int .i64 a1_3, .int .i64 a1_4, .int .i64 a1_5] 25 (0, 0))) ∧ (w'.heap[gb287]? = some (.cells #[.int .i64 t272, .int .i64 t273, .int .i64 t274, .int .i64 t275, .int .i64 t276, .int .i64 t277, .int .i64 t278, .int .i64 t279, .int .i64 t280] 23 (0, 0))) ∧ (w'.heap[gb288]? = some (.cells #[.string t281, .int .i64 t282, .int .i64 t283, .int .i64 t284, .int .i64 t285, .int .i64 t286] 25 (0, 0))) ∧ (w'.heap[gb289]? = some (.cells #[.int .i64 t272, .int .i64 t273, .int .i64 t274, .int .i64 (wrap64 (t275 + t292)), .int .i64 (wrap64 (t276 + t290)), .int .i64 t277, .int .i64 (wrap64 (t278 + t291)), .int .i64 t279, .int .i64 t280] 23 (0, 0))) ∧ (w'.heap[s_.1]? = some (.cells #[.int .i64 0, .int .i64 0] 30 (0, 0))) ∧ (w'.heap[s_.2]? = some (.cells #[.int .i64 0, .int .i64 0] 30 (0, 0))) ∧ (w.heap.size ≤ s_.1) ∧ (w.heap.size ≤ s_.1) ∧ (gb269 ≠ s_.1) ∧ (s_.1 ≠ gb269) ∧ (gb270 ≠ s_.1) ∧ (s_.1 ≠ gb270) ∧ (gb287 ≠ s_.1) ∧ (s_.1 ≠ gb287) ∧ (gb288 ≠ s_.1) ∧ (s_.1 ≠ gb288) ∧ (gb289 ≠ s_.1) ∧ (s_.1 ≠ gb289) ∧ (s_.2 ≠ s_.1) ∧ (s_.1 ≠ s_.2) ∧ (w.heap.size ≤ s_.2) ∧ (w.heap.size ≤ s_.2) ∧ (gb269 ≠ s_.2) ∧ (s_.2 ≠ gb269) ∧ (gb270 ≠ s_.2) ∧ (s_.2 ≠ gb270) ∧ (gb287 ≠ s_.2) ∧ (s_.2 ≠ gb287) ∧ (gb288 ≠ s_.2) ∧ (s_.2 ≠ gb288) ∧ (gb289 ≠ s_.2) ∧ (s_.2 ≠ gb289) ∧ (Below w.heap.size w w')) ?_ ?_
    rotate_left
    ·intro hJ2_6_7
     refine join_ (σ := Unit) 4 #[true, true, true, true, true, true, false, false, false, false] (fun s_ => [(41, .agg #[.int .i64 t293, .int .i64 t294]), (44, .agg #[.int .i64 t295, .int .i64 t296])]) (fun s_ w' => (w'.cell? ⟨gb287, 0, none⟩ = some (.int .i64 t272) ∧ w'.cell? ⟨gb287, 1, none⟩ = some (.int .i64 t273) ∧ w'.cell? ⟨gb287, 2, none⟩ = some (.int .i64 t274) ∧ w'.cell? ⟨gb287, 3, none⟩ = some (.int .i64 t275) ∧ w'.cell? ⟨gb287, 4, none⟩ = some (.int .i64 t276) ∧ w'.cell? ⟨gb287, 5, none⟩ = some (.int .i64 t277) ∧ w'.cell? ⟨gb287, 6, none⟩ = some (.int .i64 t278) ∧ w'.cell? ⟨gb287, 7, none⟩ = some (.int .i64 t279) ∧ w'.cell? ⟨gb287, 8, none⟩ = some (.int .i64 t280) ∧ w'.cell? ⟨gb288, 0, none⟩ = some (.string t281) ∧ w'.cell? ⟨gb288, 1, none⟩ = some (.int .i64 t282) ∧ w'.cell? ⟨gb288, 2, none⟩ = some (.int .i64 t283) ∧ w'.cell? ⟨gb288, 3, none⟩ = some (.int .i64 t284) ∧ w'.cell? ⟨gb288, 4, none⟩ = some (.int .i64 t285) ∧ w'.cell? ⟨gb288, 5, none⟩ = some (.int .i64 t286) ∧ w'.cell? ⟨gb289, 0, none⟩ = some (.int .i64 t272) ∧ w'.cell? ⟨gb289, 1, none⟩ = some (.int .i64 t273) ∧ w'.cell? ⟨gb289, 2, none⟩ = some (.int .i64 t274) ∧ w'.cell? ⟨gb289, 3, none⟩ = some (.int .i64 (wrap64 (t275 + t292))) ∧ w'.cell? ⟨gb289, 4, none⟩ = some (.int .i64 (wrap64 (t276 + t290))) ∧ w'.cell? ⟨gb289, 5, none⟩ = some (.int .i64 t277) ∧ w'.cell? ⟨gb289, 6, none⟩ = some (.int .i64 (wrap64 (t278 + t291))) ∧ w'.cell? ⟨gb289, 7, none⟩ = some (.int .i64 t279) ∧ w'.cell? ⟨gb289, 8, none⟩ = some (.int .i64 t280)) ∧ (w'.heap[gb269]? = some (.cells #[.int .i64 a0_0, .int .i64 a0_1, .int .i64 a0_2, .int .i64 a0_3, .int .i64 a0_4, .int .i64 a0_5, .int .i64 a0_6, .int .i64 a0_7, .int .i64 a0_8] 23 (0, 0))) ∧ (w'.heap[gb270]? = some (.cells #[.string a1_0, .int .i64 a1_1, .int .i64 a1_2, .int .i64 a1_3, .int .i64 a1_4, .int .i64 a1_5] 25 (0, 0))) ∧ (w'.heap[gb287]? = some (.cells #[.int .i64 t272, .int .i64 t273, .int .i64 t274, .int .i64 t275, .int .i64 t276, .int .i64 t277, .int .i64 t278, .int .i64 t279, .int .i64 t280] 23 (0, 0))) ∧ (w'.heap[gb288]? = some (.cells #[.string t281, .int .i64 t282, .int .i64 t283, .int .i64 t284, .int .i64 t285, .int .i64 t286] 25 (0, 0))) ∧ (w'.heap[gb289]? = some (.cells #[.int .i64 t272, .int .i64 t273, .int .i64 t274, .int .i64 (wrap64 (t275 + t292)), .int .i64 (wrap64 (t276 + t290)), .int .i64 t277, .int .i64 (wrap64 (t278 + t291)), .int .i64 t279, .int .i64 t280] 23 (0, 0))) ∧ (Below w.heap.size w w')) ?_ ?_
     rotate_left
     ·intro hJ2_5
      refine join_ (σ := Nat) 4 #[true, true, true, true, true, false, true, false, false, false] (fun s_ => [(41, .agg #[.int .i64 t293, .int .i64 t294]), (10, .pointer (some ⟨s_, 0, none⟩))]) (fun s_ w' => (w'.cell? ⟨gb287, 0, none⟩ = some (.int .i64 t272) ∧ w'.cell? ⟨gb287, 1, none⟩ = some (.int .i64 t273) ∧ w'.cell? ⟨gb287, 2, none⟩ = some (.int .i64 t274) ∧ w'.cell? ⟨gb287, 3, none⟩ = some (.int .i64 t275) ∧ w'.cell? ⟨gb287, 4, none⟩ = some (.int .i64 t276) ∧ w'.cell? ⟨gb287, 5, none⟩ = some (.int .i64 t277) ∧ w'.cell? ⟨gb287, 6, none⟩ = some (.int .i64 t278) ∧ w'.cell? ⟨gb287, 7, none⟩ = some (.int .i64 t279) ∧ w'.cell? ⟨gb287, 8, none⟩ = some (.int .i64 t280) ∧ w'.cell? ⟨gb288, 0, none⟩ = some (.string t281) ∧ w'.cell? ⟨gb288, 1, none⟩ = some (.int .i64 t282) ∧ w'.cell? ⟨gb288, 2, none⟩ = some (.int .i64 t283) ∧ w'.cell? ⟨gb288, 3, none⟩ = some (.int .i64 t284) ∧ w'.cell? ⟨gb288, 4, none⟩ = some (.int .i64 t285) ∧ w'.cell? ⟨gb288, 5, none⟩ = some (.int .i64 t286) ∧ w'.cell? ⟨gb289, 0, none⟩ = some (.int .i64 t272) ∧ w'.cell? ⟨gb289, 1, none⟩ = some (.int .i64 t273) ∧ w'.cell? ⟨gb289, 2, none⟩ = some (.int .i64 t274) ∧ w'.cell? ⟨gb289, 3, none⟩ = some (.int .i64 (wrap64 (t275 + t292))) ∧ w'.cell? ⟨gb289, 4, none⟩ = some (.int .i64 (wrap64 (t276 + t290))) ∧ w'.cell? ⟨gb289, 5, none⟩ = some (.int .i64 t277) ∧ w'.cell? ⟨gb289, 6, none⟩ = some (.int .i64 (wrap64 (t278 + t291))) ∧ w'.cell? ⟨gb289, 7, none⟩ = some (.int .i64 t279) ∧ w'.cell? ⟨gb289, 8, none⟩ = some (.int .i64 t280)) ∧ (w'.heap[gb269]? = some (.cells #[.int .i64 a0_0, .int .i64 a0_1, .int .i64 a0_2, .int .i64 a0_3, .int .i64 a0_4, .int .i64 a0_5, .int .i64 a0_6, .int .i64 a0_7, .int .i64 a0_8] 23 (0, 0))) ∧ (w'.heap[gb270]? = some (.cells #[.string a1_0, .int .i64 a1_1, .int .i64 a1_2, .int .i64 a1_3, .int .i64 a1_4, .int .i64 a1_5] 25 (0, 0))) ∧ (w'.heap[gb287]? = some (.cells #[.int .i64 t272, .int .i64 t273, .int .i64 t274, .int .i64 t275, .int .i64 t276, .int .i64 t277, .int .i64 t278, .int .i64 t279, .int .i64 t280] 23 (0, 0))) ∧ (w'.heap[gb288]? = some (.cells #[.string t281, .int .i64 t282, .int .i64 t283, .int .i64 t284, .int .i64 t285, .int .i64 t286] 25 (0, 0))) ∧ (w'.heap[gb289]? = some (.cells #[.int .i64 t272, .int .i64 t273, .int .i64 t274, .int .i64 (wrap64 (t275 + t292)), .int .i64 (wrap64 (t276 + t290)), .int .i64 t277, .int .i64 (wrap64 (t278 + t291)), .int .i64 t279, .int .i64 t280] 23 (0, 0))) ∧ (w'.heap[s_]? = some (.cells #[.int .i64 0, .int .i64 0] 30 (0, 0))) ∧ (w.heap.size ≤ s_) ∧ (w.heap.size ≤ s_) ∧ (gb269 ≠ s_) ∧ (s_ ≠ gb269) ∧ (gb270 ≠ s_) ∧ (s_ ≠ gb270) ∧ (gb287 ≠ s_) ∧ (s_ ≠ gb287) ∧ (gb288 ≠ s_) ∧ (s_ ≠ gb288) ∧ (gb289 ≠ s_) ∧ (s_ ≠ gb289) ∧ (Below w.heap.size w w')) ?_ ?_
      rotate_left
      ·intro hJ2_6
       refine join_ (σ := Nat) 4 #[true, true, true, true, true, false, false, true, false, false] (fun s_ => [(41, .agg #[.int .i64 t293, .int .i64 t294]), (11, .pointer (some ⟨s_, 0, none⟩))]) (fun s_ w' => (w'.cell? ⟨gb287, 0, none⟩ = some (.int .i64 t272) ∧ w'.cell? ⟨gb287, 1, none⟩ = some (.int .i64 t273) ∧ w'.cell? ⟨gb287, 2, none⟩ = some (.int .i64 t274) ∧ w'.cell? ⟨gb287, 3, none⟩ = some (.int .i64 t275) ∧ w'.cell? ⟨gb287, 4, none⟩ = some (.int .i64 t276) ∧ w'.cell? ⟨gb287, 5, none⟩ = some (.int .i64 t277) ∧ w'.cell? ⟨gb287, 6, none⟩ = some (.int .i64 t278) ∧ w'.cell? ⟨gb287, 7, none⟩ = some (.int .i64 t279) ∧ w'.cell? ⟨gb287, 8, none⟩ = some (.int .i64 t280) ∧ w'.cell? ⟨gb288, 0, none⟩ = some (.string t281) ∧ w'.cell? ⟨gb288, 1, none⟩ = some (.int .i64 t282) ∧ w'.cell? ⟨gb288, 2, none⟩ = some (.int .i64 t283) ∧ w'.cell? ⟨gb288, 3, none⟩ = some (.int .i64 t284) ∧ w'.cell? ⟨gb288, 4, none⟩ = some (.int .i64 t285) ∧ w'.cell? ⟨gb288, 5, none⟩ = some (.int .i64 t286) ∧ w'.cell? ⟨gb289, 0, none⟩ = some (.int .i64 t272) ∧ w'.cell? ⟨gb289, 1, none⟩ = some (.int .i64 t273) ∧ w'.cell? ⟨gb289, 2, none⟩ = some (.int .i64 t274) ∧ w'.cell? ⟨gb289, 3, none⟩ = some (.int .i64 (wrap64 (t275 + t292))) ∧ w'.cell? ⟨gb289, 4, none⟩ = some (.int .i64 (wrap64 (t276 + t290))) ∧ w'.cell? ⟨gb289, 5, none⟩ = some (.int .i64 t277) ∧ w'.cell? ⟨gb289, 6, none⟩ = some (.int .i64 (wrap64 (t278 + t291))) ∧ w'.cell? ⟨gb289, 7, none⟩ = some (.int .i64 t279) ∧ w'.cell? ⟨gb289, 8, none⟩ = some (.int .i64 t280)) ∧ (w'.heap[gb269]? = some (.cells #[.int .i64 a0_0, .int .i64 a0_1, .int .i64 a0_2, .int .i64 a0_3, .int .i64 a0_4, .int .i64 a0_5, .int .i64 a0_6, .int .i64 a0_7, .int .i64 a0_8] 23 (0, 0))) ∧ (w'.heap[gb270]? = some (.cells #[.string a1_0, .int .i64 a1_1, .int .i64 a1_2, .int .i64 a1_3, .int .i64 a1_4, .int .i64 a1_5] 25 (0, 0))) ∧ (w'.heap[gb287]? = some (.cells #[.int .i64 t272, .int .i64 t273, .int .i64 t274, .int .i64 t275, .int .i64 t276, .int .i64 t277, .int .i64 t278, .int .i64 t279, .int .i64 t280] 23 (0, 0))) ∧ (w'.heap[gb288]? = some (.cells #[.string t281, .int .i64 t282, .int .i64 t283, .int .i64 t284, .int .i64 t285, .int .i64 t286] 25 (0, 0))) ∧ (w'.heap[gb289]? = some (.cells #[.int .i64 t272, .int .i64 t273, .int .i64 t274, .int .i64 (wrap64 (t275 + t292)), .int .i64 (wrap64 (t276 + t290)), .int .i64 t277, .int .i64 (wrap64 (t278 + t291)), .int .i64 t279, .int .i64 t280] 23 (0, 0))) ∧ (w'.heap[s_]? = some (.cells #[.int .i64 0, .int .i64 0] 30 (0, 0))) ∧ (w.heap.size ≤ s_) ∧ (w.heap.size ≤ s_) ∧ (gb269 ≠ s_) ∧ (s_ ≠ gb269) ∧ (gb270 ≠ s_) ∧ (s_ ≠ gb270) ∧ (gb287 ≠ s_) ∧ (s_ ≠ gb287) ∧ (gb288 ≠ s_) ∧ (s_ ≠ gb288) ∧ (gb289 ≠ s_) ∧ (s_ ≠ gb289) ∧ (Below w.heap.size w w')) ?_ ?_
       rotate_left
       ·intro hJ2_7
        refine join_ (σ := Nat × Nat) 4 #[true, true, false, true, true, false, true, true, false, false] (fun s_ => [(10, .pointer (some ⟨s_.1, 0, none⟩)), (11, .pointer (some ⟨s_.2, 0, none⟩))]) (fun s_ w' => (w'.cell? ⟨gb287, 0, none⟩ = some (.int .i64 t272) ∧ w'.cell? ⟨gb287, 1, none⟩ = some (.int .i64 t273) ∧ w'.cell? ⟨gb287, 2, none⟩ = some (.int .i64 t274) ∧ w'.cell? ⟨gb287, 3, none⟩ = some (.int .i64 t275) ∧ w'.cell? ⟨gb287, 4, none⟩ = some (.int .i64 t276) ∧ w'.cell? ⟨gb287, 5, none⟩ = some (.int .i64 t277) ∧ w'.cell? ⟨gb287, 6, none⟩ = some (.int .i64 t278) ∧ w'.cell? ⟨gb287, 7, none⟩ = some (.int .i64 t279) ∧ w'.cell? ⟨gb287, 8, none⟩ = some (.int .i64 t280) ∧ w'.cell? ⟨gb288, 0, none⟩ = some (.string t281) ∧ w'.cell? ⟨gb288, 1, none⟩ = some (.int .i64 t282) ∧ w'.cell? ⟨gb288, 2, none⟩ = some (.int .i64 t283) ∧ w'.cell? ⟨gb288, 3, none⟩ = some (.int .i64 t284) ∧ w'.cell? ⟨gb288, 4, none⟩ = some (.int .i64 t285) ∧ w'.cell? ⟨gb288, 5, none⟩ = some (.int .i64 t286) ∧ w'.cell? ⟨gb289, 0, none⟩ = some (.int .i64 t272) ∧ w'.cell? ⟨gb289, 1, none⟩ = some (.int .i64 t273) ∧ w'.cell? ⟨gb289, 2, none⟩ = some (.int .i64 t274) ∧ w'.cell? ⟨gb289, 3, none⟩ = some (.int .i64 (wrap64 (t275 + t292))) ∧ w'.cell? ⟨gb289, 4, none⟩ = some (.int .i64 (wrap64 (t276 + t290))) ∧ w'.cell? ⟨gb289, 5, none⟩ = some (.int .i64 t277) ∧ w'.cell? ⟨gb289, 6, none⟩ = some (.int .i64 (wrap64 (t278 + t291))) ∧ w'.cell? ⟨gb289, 7, none⟩ = some (.int .i64 t279) ∧ w'.cell? ⟨gb289, 8, none⟩ = some (.int .i64 t280)) ∧ (w'.heap[gb269]? = some (.cells #[.int .i64 a0_0, .int .i64 a0_1, .int .i64 a0_2, .int .i64 a0_3, .int .i64 a0_4, .int .i64 a0_5, .int .i64 a0_6, .int .i64 a0_7, .int .i64 a0_8] 23 (0, 0))) ∧ (w'.heap[gb270]? = some (.cells #[.string a1_0, .int .i64 a1_1, .int .i64 a1_2, .int .i64 a1_3, .int .i64 a1_4, .int .i64 a1_5] 25 (0, 0))) ∧ (w'.heap[gb287]? = some (.cells #[.int .i64 t272, .int .i64 t273, .int .i64 t274, .int .i64 t275, .int .i64 t276, .int .i64 t277, .int .i64 t278, .int .i64 t279, .int .i64 t280] 23 (0, 0))) ∧ (w'.heap[gb288]? = some (.cells #[.string t281, .int .i64 t282, .int .i64 t283, .int .i64 t284, .int .i64 t285, .int .i64 t286] 25 (0, 0))) ∧ (w'.heap[gb289]? = some (.cells #[.int .i64 t272, .int .i64 t273, .int .i64 t274, .int .i64 (wrap64 (t275 + t292)), .int .i64 (wrap64 (t276 + t290)), .int .i64 t277, .int .i64 (wrap64 (t278 + t291)), .int .i64 t279, .int .i64 t280] 23 (0, 0))) ∧ (w'.heap[s_.1]? = some (.cells #[.int .i64 0, .int .i64 0] 30 (0, 0))) ∧ (w'.heap[s_.2]? = some (.cells #[.int .i64 0, .int .i64 0] 30 (0, 0))) ∧ (w.heap.size ≤ s_.1) ∧ (w.heap.size ≤ s_.1) ∧ (gb269 ≠ s_.1) ∧ (s_.1 ≠ gb269) ∧ (gb270 ≠ s_.1) ∧ (s_.1 ≠ gb270) ∧ (gb287 ≠ s_.1) ∧ (s_.1 ≠ gb287) ∧ (gb288 ≠ s_.1) ∧ (s_.1 ≠ gb288) ∧ (gb289 ≠ s_.1) ∧ (s_.1 ≠ gb289) ∧ (s_.2 ≠ s_.1) ∧ (s_.1 ≠ s_.2) ∧ (w.heap.size ≤ s_.2) ∧ (w.heap.size ≤ s_.2) ∧ (gb269 ≠ s_.2) ∧ (s_.2 ≠ gb269) ∧ (gb270 ≠ s_.2) ∧ (s_.2 ≠ gb270) ∧ (gb287 ≠ s_.2) ∧ (s_.2 ≠ gb287) ∧ (gb288 ≠ s_.2) ∧ (s_.2 ≠ gb288) ∧ (gb289 ≠ s_.2) ∧ (s_.2 ≠ gb289) ∧ (Below w.heap.size w w')) ?_ ?_
        rotate_left
        ·intro hJ6_7
         refine join_ (σ := Unit) 5 #[true, true, true, true, true, false, false, false, false, false] (fun s_ => [(41, .agg #[.int .i64 t293, .int .i64 t294])]) (fun s_ w' => (w'.cell? ⟨gb287, 0, none⟩ = some (.int .i64 t272) ∧ w'.cell? ⟨gb287, 1, none⟩ = some (.int .i64 t273) ∧ w'.cell? ⟨gb287, 2, none⟩ = some (.int .i64 t274) ∧ w'.cell? ⟨gb287, 3, none⟩ = some (.int .i64 t275) ∧ w'.cell? ⟨gb287, 4, none⟩ = some (.int .i64 t276) ∧ w'.cell? ⟨gb287, 5, none⟩ = some (.int .i64 t277) ∧ w'.cell? ⟨gb287, 6, none⟩ = some (.int .i64 t278) ∧ w'.cell? ⟨gb287, 7, none⟩ = some (.int .i64 t279) ∧ w'.cell? ⟨gb287, 8, none⟩ = some (.int .i64 t280) ∧ w'.cell? ⟨gb288, 0, none⟩ = some (.string t281) ∧ w'.cell? ⟨gb288, 1, none⟩ = some (.int .i64 t282) ∧ w'.cell? ⟨gb288, 2, none⟩ = some (.int .i64 t283) ∧ w'.cell? ⟨gb288, 3, none⟩ = some (.int .i64 t284) ∧ w'.cell? ⟨gb288, 4, none⟩ = some (.int .i64 t285) ∧ w'.cell? ⟨gb288, 5, none⟩ = some (.int .i64 t286) ∧ w'.cell? ⟨gb289, 0, none⟩ = some (.int .i64 t272) ∧ w'.cell? ⟨gb289, 1, none⟩ = some (.int .i64 t273) ∧ w'.cell? ⟨gb289, 2, none⟩ = some (.int .i64 t274) ∧ w'.cell? ⟨gb289, 3, none⟩ = some (.int .i64 (wrap64 (t275 + t292))) ∧ w'.cell? ⟨gb289, 4, none⟩ = some (.int .i64 (wrap64 (t276 + t290))) ∧ w'.cell? ⟨gb289, 5, none⟩ = some (.int .i64 t277) ∧ w'.cell? ⟨gb289, 6, none⟩ = some (.int .i64 (wrap64 (t278 + t291))) ∧ w'.cell? ⟨gb289, 7, none⟩ = some (.int .i64 t279) ∧ w'.cell? ⟨gb289, 8, none⟩ = some (.int .i64 t280)) ∧ (w'.heap[gb269]? = some (.cells #[.int .i64 a0_0, .int .i64 a0_1, .int .i64 a0_2, .int .i64 a0_3, .int .i64 a0_4, .int .i64 a0_5, .int .i64 a0_6, .int .i64 a0_7, .int .i64 a0_8] 23 (0, 0))) ∧ (w'.heap[gb270]? = some (.cells #[.string a1_0, .int .i64 a1_1, .int .i64 a1_2, .int .i64 a1_3, .int .i64 a1_4, .int .i64 a1_5] 25 (0, 0))) ∧ (w'.heap[gb287]? = some (.cells #[.int .i64 t272, .int .i64 t273, .int .i64 t274, .int .i64 t275, .int .i64 t276, .int .i64 t277, .int .i64 t278, .int .i64 t279, .int .i64 t280] 23 (0, 0))) ∧ (w'.heap[gb288]? = some (.cells #[.string t281, .int .i64 t282, .int .i64 t283, .int .i64 t284, .int .i64 t285, .int .i64 t286] 25 (0, 0))) ∧ (w'.heap[gb289]? = some (.cells #[.int .i64 t272, .int .i64 t273, .int .i64 t274, .int .i64 (wrap64 (t275 + t292)), .int .i64 (wrap64 (t276 + t290)), .int .i64 t277, .int .i64 (wrap64 (t278 + t291)), .int .i64 t279, .int .i64 t280] 23 (0, 0))) ∧ (Below w.heap.size w w')) ?_ ?_
         rotate_left
         ·intro hJ2
          refine join_ (σ := Nat) 5 #[true, true, false, true, true, false, true, false, false, false] (fun s_ => [(10, .pointer (some ⟨s_, 0, none⟩))]) (fun s_ w' => (w'.cell? ⟨gb287, 0, none⟩ = some (.int .i64 t272) ∧ w'.cell? ⟨gb287, 1, none⟩ = some (.int .i64 t273) ∧ w'.cell? ⟨gb287, 2, none⟩ = some (.int .i64 t274) ∧ w'.cell? ⟨gb287, 3, none⟩ = some (.int .i64 t275) ∧ w'.cell? ⟨gb287, 4, none⟩ = some (.int .i64 t276) ∧ w'.cell? ⟨gb287, 5, none⟩ = some (.int .i64 t277) ∧ w'.cell? ⟨gb287, 6, none⟩ = some (.int .i64 t278) ∧ w'.cell? ⟨gb287, 7, none⟩ = some (.int .i64 t279) ∧ w'.cell? ⟨gb287, 8, none⟩ = some (.int .i64 t280) ∧ w'.cell? ⟨gb288, 0, none⟩ = some (.string t281) ∧ w'.cell? ⟨gb288, 1, none⟩ = some (.int .i64 t282) ∧ w'.cell? ⟨gb288, 2, none⟩ = some (.int .i64 t283) ∧ w'.cell? ⟨gb288, 3, none⟩ = some (.int .i64 t284) ∧ w'.cell? ⟨gb288, 4, none⟩ = some (.int .i64 t285) ∧ w'.cell? ⟨gb288, 5, none⟩ = some (.int .i64 t286) ∧ w'.cell? ⟨gb289, 0, none⟩ = some (.int .i64 t272) ∧ w'.cell? ⟨gb289, 1, none⟩ = some (.int .i64 t273) ∧ w'.cell? ⟨gb289, 2, none⟩ = some (.int .i64 t274) ∧ w'.cell? ⟨gb289, 3, none⟩ = some (.int .i64 (wrap64 (t275 + t292))) ∧ w'.cell? ⟨gb289, 4, none⟩ = some (.int .i64 (wrap64 (t276 + t290))) ∧ w'.cell? ⟨gb289, 5, none⟩ = some (.int .i64 t277) ∧ w'.cell? ⟨gb289, 6, none⟩ = some (.int .i64 (wrap64 (t278 + t291))) ∧ w'.cell? ⟨gb289, 7, none⟩ = some (.int .i64 t279) ∧ w'.cell? ⟨gb289, 8, none⟩ = some (.int .i64 t280)) ∧ (w'.heap[gb269]? = some (.cells #[.int .i64 a0_0, .int .i64 a0_1, .int .i64 a0_2, .int .i64 a0_3, .int .i64 a0_4, .int .i64 a0_5, .int .i64 a0_6, .int .i64 a0_7, .int .i64 a0_8] 23 (0, 0))) ∧ (w'.heap[gb270]? = some (.cells #[.string a1_0, .int .i64 a1_1, .int .i64 a1_2, .int .i64 a1_3, .int .i64 a1_4, .int .i64 a1_5] 25 (0, 0))) ∧ (w'.heap[gb287]? = some (.cells #[.int .i64 t272, .int .i64 t273, .int .i64 t274, .int .i64 t275, .int .i64 t276, .int .i64 t277, .int .i64 t278, .int .i64 t279, .int .i64 t280] 23 (0, 0))) ∧ (w'.heap[gb288]? = some (.cells #[.string t281, .int .i64 t282, .int .i64 t283, .int .i64 t284, .int .i64 t285, .int .i64 t286] 25 (0, 0))) ∧ (w'.heap[gb289]? = some (.cells #[.int .i64 t272, .int .i64 t273, .int .i64 t274, .int .i64 (wrap64 (t275 + t292)), .int .i64 (wrap64 (t276 + t290)), .int .i64 t277, .int .i64 (wrap64 (t278 + t291)), .int .i64 t279, .int .i64 t280] 23 (0, 0))) ∧ (w'.heap[s_]? = some (.cells #[.int .i64 0, .int .i64 0] 30 (0, 0))) ∧ (w.heap.size ≤ s_) ∧ (w.heap.size ≤ s_) ∧ (gb269 ≠ s_) ∧ (s_ ≠ gb269) ∧ (gb270 ≠ s_) ∧ (s_ ≠ gb270) ∧ (gb287 ≠ s_) ∧ (s_ ≠ gb287) ∧ (gb288 ≠ s_) ∧ (s_ ≠ gb288) ∧ (gb289 ≠ s_) ∧ (s_ ≠ gb289) ∧ (Below w.heap.size w w')) ?_ ?_
          rotate_left
          ·intro hJ6
           refine join_ (σ := Nat) 5 #[true, true, false, true, true, false, false, true, false, false] (fun s_ => [(11, .pointer (some ⟨s_, 0, none⟩))]) (fun s_ w' => (w'.cell? ⟨gb287, 0, none⟩ = some (.int .i64 t272) ∧ w'.cell? ⟨gb287, 1, none⟩ = some (.int .i64 t273) ∧ w'.cell? ⟨gb287, 2, none⟩ = some (.int .i64 t274) ∧ w'.cell? ⟨gb287, 3, none⟩ = some (.int .i64 t275) ∧ w'.cell? ⟨gb287, 4, none⟩ = some (.int .i64 t276) ∧ w'.cell? ⟨gb287, 5, none⟩ = some (.int .i64 t277) ∧ w'.cell? ⟨gb287, 6, none⟩ = some (.int .i64 t278) ∧ w'.cell? ⟨gb287, 7, none⟩ = some (.int .i64 t279) ∧ w'.cell? ⟨gb287, 8, none⟩ = some (.int .i64 t280) ∧ w'.cell? ⟨gb288, 0, none⟩ = some (.string t281) ∧ w'.cell? ⟨gb288, 1, none⟩ = some (.int .i64 t282) ∧ w'.cell? ⟨gb288, 2, none⟩ = some (.int .i64 t283) ∧ w'.cell? ⟨gb288, 3, none⟩ = some (.int .i64 t284) ∧ w'.cell? ⟨gb288, 4, none⟩ = some (.int .i64 t285) ∧ w'.cell? ⟨gb288, 5, none⟩ = some (.int .i64 t286) ∧ w'.cell? ⟨gb289, 0, none⟩ = some (.int .i64 t272) ∧ w'.cell? ⟨gb289, 1, none⟩ = some (.int .i64 t273) ∧ w'.cell? ⟨gb289, 2, none⟩ = some (.int .i64 t274) ∧ w'.cell? ⟨gb289, 3, none⟩ = some (.int .i64 (wrap64 (t275 + t292))) ∧ w'.cell? ⟨gb289, 4, none⟩ = some (.int .i64 (wrap64 (t276 + t290))) ∧ w'.cell? ⟨gb289, 5, none⟩ = some (.int .i64 t277) ∧ w'.cell? ⟨gb289, 6, none⟩ = some (.int .i64 (wrap64 (t278 + t291))) ∧ w'.cell? ⟨gb289, 7, none⟩ = some (.int .i64 t279) ∧ w'.cell? ⟨gb289, 8, none⟩ = some (.int .i64 t280)) ∧ (w'.heap[gb269]? = some (.cells #[.int .i64 a0_0, .int .i64 a0_1, .int .i64 a0_2, .int .i64 a0_3, .int .i64 a0_4, .int .i64 a0_5, .int .i64 a0_6, .int .i64 a0_7, .int .i64 a0_8] 23 (0, 0))) ∧ (w'.heap[gb270]? = some (.cells #[.string a1_0, .int .i64 a1_1, .int .i64 a1_2, .int .i64 a1_3, .int .i64 a1_4, .int .i64 a1_5] 25 (0, 0))) ∧ (w'.heap[gb287]? = some (.cells #[.int .i64 t272, .int .i64 t273, .int .i64 t274, .int .i64 t275, .int .i64 t276, .int .i64 t277, .int .i64 t278, .int .i64 t279, .int .i64 t280] 23 (0, 0))) ∧ (w'.heap[gb288]? = some (.cells #[.string t281, .int .i64 t282, .int .i64 t283, .int .i64 t284, .int .i64 t285, .int .i64 t286] 25 (0, 0))) ∧ (w'.heap[gb289]? = some (.cells #[.int .i64 t272, .int .i64 t273, .int .i64 t274, .int .i64 (wrap64 (t275 + t292)), .int .i64 (wrap64 (t276 + t290)), .int .i64 t277, .int .i64 (wrap64 (t278 + t291)), .int .i64 t279, .int .i64 t280] 23 (0, 0))) ∧ (w'.heap[s_]? = some (.cells #[.int .i64 0, .int .i64 0] 30 (0, 0))) ∧ (w.heap.size ≤ s_) ∧ (w.heap.size ≤ s_) ∧ (gb269 ≠ s_) ∧ (s_ ≠ gb269) ∧ (gb270 ≠ s_) ∧ (s_ ≠ gb270) ∧ (gb287 ≠ s_) ∧ (s_ ≠ gb287) ∧ (gb288 ≠ s_) ∧ (s_ ≠ gb288) ∧ (gb289 ≠ s_) ∧ (s_ ≠ gb289) ∧ (Below w.heap.size w w')) ?_ ?_
           rotate_left
           ·intro hJ7
            refine three_ (i := 2) (j := 6) (k := 7) (Ni := some 41) (Nj := some 10) (Nk := some 11) #[true, true, true, true, true, false, false, false, false, false] #[true, true, false, true, true, false, true, false, false, false] #[true, true, false, true, true, false, false, true, false, false] rfl rfl rfl rfl rfl rfl (three_of HT_.out (by kernel_rfl)) (by decide) (by decide) (by decide) (fun K hK => ?_) (fun K hK => ?_) (fun K hK => ?_)
            ·skip
             refine goes_ Try.func16 (by kernel_rfl) rfl #[.agg #[.int .i64 t272, .int .i64 t273, .int .i64 t274, .int .i64 t275, .int .i64 t276, .int .i64 t277, .int .i64 t278, .int .i64 t279, .int .i64 t280], .agg #[.string t281, .int .i64 t282, .int .i64 t283, .int .i64 t284, .int .i64 t285, .int .i64 t286]] (by rfl) rfl rfl (by (try simp only [List.map_toArray, List.map_cons, List.map_nil]); first | done | rfl | (simp only [List.length_drop, List.length_take]; rfl)) ?_
             with_reducible refine (damperlaw10_decide.calls k t272 t273 t274 t275 t276 t277 t278 t279 t280 t281 t282 t283 t284 t285 t286 t293 t294 _ A11.out).mono ?_
             rintro e w55 ⟨rfl, hb⟩
             refine ⟨_, rfl, ?_⟩
             replace BK269 := A0 (blk_below (g := gb269) (pk BK269) hb)
             replace BK270 := A0 (blk_below (g := gb270) (pk BK270) hb)
             replace BK287 := A0 (blk_below (g := gb287) (pk BK287) hb)
             replace BK288 := A0 (blk_below (g := gb288) (pk BK288) hb)
             replace BK289 := A0 (blk_below (g := gb289) (pk BK289) hb)
             replace HB := A0 (below_step (by repeat (first | (with_reducible first | exact HB.out | apply below_alloc | apply pw_below_drewN | apply below_drew1 | refine below_set ?_ GE269.out | refine below_set ?_ GE270.out | refine below_set ?_ GE287.out | refine below_set ?_ GE288.out | refine below_set ?_ GE289.out) | exact HB.out)) hb)
             (try clear hb)
             (try clear hb2)
             (try clear hk)
             (try clear hi)
             refine hK.out _ _ ⟨bc BK287 0, bc BK287 1, bc BK287 2, bc BK287 3, bc BK287 4, bc BK287 5, bc BK287 6, bc BK287 7, bc BK287 8, bc BK288 0, bc BK288 1, bc BK288 2, bc BK288 3, bc BK288 4, bc BK288 5, bc BK289 0, bc BK289 1, bc BK289 2, bc BK289 3, bc BK289 4, bc BK289 5, bc BK289 6, bc BK289 7, bc BK289 8⟩ (fun hHeld => ?_)
             clear hK K
             refine norm_ (a' := ?_) ?_ ?_
             rotate_left
             ·show Act.put _ (some 41) _ = _
              simp only [Act.put, List.setIfInBounds_toArray, List.set_cons_zero, List.set_cons_succ, i64_w, i32_w]
              rfl
             exact norm0_ (hJ2 () _ ⟨hHeld, (pk BK269), (pk BK270), (pk BK287), (pk BK288), (pk BK289), (by repeat (first | (with_reducible first | exact HB.out | apply below_alloc | apply pw_below_drewN | apply below_drew1 | refine below_set ?_ GE269.out | refine below_set ?_ GE270.out | refine below_set ?_ GE287.out | refine below_set ?_ GE288.out | refine below_set ?_ GE289.out) | exact HB.out))⟩)
            ·skip
             refine box_step ?hg (N := 10) ?hd (cs := #[.int .i64 0, .int .i64 0]) (t := 30) ?hr ?_; (case hd => rfl); (case hg => rfl); (case hr => first | (go_simp; done) | (go_simp; rfl))
             intro gb297 hg w55 hbox hb
             have BK297 := A0 (hbox)
             have GW297 := A0 ((by rw [hg]; exact (below_size (by repeat (first | (with_reducible first | exact HB.out | apply below_alloc | apply pw_below_drewN | apply below_drew1 | refine below_set ?_ GE269.out | refine below_set ?_ GE270.out | refine below_set ?_ GE287.out | refine below_set ?_ GE288.out | refine below_set ?_ GE289.out) | exact HB.out))) : w.heap.size ≤ gb297))
             have GE297 := GW297
             have NB269_297 := A0 ((ne_lt hg (pk BK269) : gb269 ≠ gb297))
             have NB297_269 := A0 ((ne_gt hg (pk BK269) : gb297 ≠ gb269))
             have NB270_297 := A0 ((ne_lt hg (pk BK270) : gb270 ≠ gb297))
             have NB297_270 := A0 ((ne_gt hg (pk BK270) : gb297 ≠ gb270))
             have NB287_297 := A0 ((ne_lt hg (pk BK287) : gb287 ≠ gb297))
             have NB297_287 := A0 ((ne_gt hg (pk BK287) : gb297 ≠ gb287))
             have NB288_297 := A0 ((ne_lt hg (pk BK288) : gb288 ≠ gb297))
             have NB297_288 := A0 ((ne_gt hg (pk BK288) : gb297 ≠ gb288))
             have NB289_297 := A0 ((ne_lt hg (pk BK289) : gb289 ≠ gb297))
             have NB297_289 := A0 ((ne_gt hg (pk BK289) : gb297 ≠ gb289))
             replace BK269 := A0 (blk_below (g := gb269) (pk BK269) hb)
             replace BK270 := A0 (blk_below (g := gb270) (pk BK270) hb)
             replace BK287 := A0 (blk_below (g := gb287) (pk BK287) hb)
             replace BK288 := A0 (blk_below (g := gb288) (pk BK288) hb)
             replace BK289 := A0 (blk_below (g := gb289) (pk BK289) hb)
             replace HB := A0 (below_step (by repeat (first | (with_reducible first | exact HB.out | apply below_alloc | apply pw_below_drewN | apply below_drew1 | refine below_set ?_ GE269.out | refine below_set ?_ GE270.out | refine below_set ?_ GE287.out | refine below_set ?_ GE288.out | refine below_set ?_ GE289.out) | exact HB.out)) hb)
             clear hb hbox hg
             refine hK.out _ _ ⟨bc BK287 0, bc BK287 1, bc BK287 2, bc BK287 3, bc BK287 4, bc BK287 5, bc BK287 6, bc BK287 7, bc BK287 8, bc BK288 0, bc BK288 1, bc BK288 2, bc BK288 3, bc BK288 4, bc BK288 5, bc BK289 0, bc BK289 1, bc BK289 2, bc BK289 3, bc BK289 4, bc BK289 5, bc BK289 6, bc BK289 7, bc BK289 8⟩ (fun hHeld => ?_)
             clear hK K
             refine norm_ (a' := ?_) ?_ ?_
             rotate_left
             ·show Act.put _ (some 10) _ = _
              simp only [Act.put, List.setIfInBounds_toArray, List.set_cons_zero, List.set_cons_succ, i64_w, i32_w]
              rfl
             exact norm0_ (hJ6 (gb297) _ ⟨hHeld, (pk BK269), (pk BK270), (pk BK287), (pk BK288), (pk BK289), (pk BK297), GW297.out, GE297.out, NB269_297.out, NB297_269.out, NB270_297.out, NB297_270.out, NB287_297.out, NB297_287.out, NB288_297.out, NB297_288.out, NB289_297.out, NB297_289.out, (by repeat (first | (with_reducible first | exact HB.out | apply below_alloc | apply pw_below_drewN | apply below_drew1 | refine below_set ?_ GE269.out | refine below_set ?_ GE270.out | refine below_set ?_ GE287.out | refine below_set ?_ GE288.out | refine below_set ?_ GE289.out | refine below_set ?_ GE297.out) | exact HB.out))⟩)
            ·skip
             refine box_step ?hg (N := 11) ?hd (cs := #[.int .i64 0, .int .i64 0]) (t := 30) ?hr ?_; (case hd => rfl); (case hg => rfl); (case hr => first | (go_simp; done) | (go_simp; rfl))
             intro gb298 hg w55 hbox hb
             have BK298 := A0 (hbox)
             have GW298 := A0 ((by rw [hg]; exact (below_size (by repeat (first | (with_reducible first | exact HB.out | apply below_alloc | apply pw_below_drewN | apply below_drew1 | refine below_set ?_ GE269.out | refine below_set ?_ GE270.out | refine below_set ?_ GE287.out | refine below_set ?_ GE288.out | refine below_set ?_ GE289.out) | exact HB.out))) : w.heap.size ≤ gb298))
             have GE298 := GW298
             have NB269_298 := A0 ((ne_lt hg (pk BK269) : gb269 ≠ gb298))
             have NB298_269 := A0 ((ne_gt hg (pk BK269) : gb298 ≠ gb269))
             have NB270_298 := A0 ((ne_lt hg (pk BK270) : gb270 ≠ gb298))
             have NB298_270 := A0 ((ne_gt hg (pk BK270) : gb298 ≠ gb270))
             have NB287_298 := A0 ((ne_lt hg (pk BK287) : gb287 ≠ gb298))
             have NB298_287 := A0 ((ne_gt hg (pk BK287) : gb298 ≠ gb287))
             have NB288_298 := A0 ((ne_lt hg (pk BK288) : gb288 ≠ gb298))
             have NB298_288 := A0 ((ne_gt hg (pk BK288) : gb298 ≠ gb288))
             have NB289_298 := A0 ((ne_lt hg (pk BK289) : gb289 ≠ gb298))
             have NB298_289 := A0 ((ne_gt hg (pk BK289) : gb298 ≠ gb289))
             replace BK269 := A0 (blk_below (g := gb269) (pk BK269) hb)
             replace BK270 := A0 (blk_below (g := gb270) (pk BK270) hb)
             replace BK287 := A0 (blk_below (g := gb287) (pk BK287) hb)
             replace BK288 := A0 (blk_below (g := gb288) (pk BK288) hb)
             replace BK289 := A0 (blk_below (g := gb289) (pk BK289) hb)
             replace HB := A0 (below_step (by repeat (first | (with_reducible first | exact HB.out | apply below_alloc | apply pw_below_drewN | apply below_drew1 | refine below_set ?_ GE269.out | refine below_set ?_ GE270.out | refine below_set ?_ GE287.out | refine below_set ?_ GE288.out | refine below_set ?_ GE289.out) | exact HB.out)) hb)
             clear hb hbox hg
             refine hK.out _ _ ⟨bc BK287 0, bc BK287 1, bc BK287 2, bc BK287 3, bc BK287 4, bc BK287 5, bc BK287 6, bc BK287 7, bc BK287 8, bc BK288 0, bc BK288 1, bc BK288 2, bc BK288 3, bc BK288 4, bc BK288 5, bc BK289 0, bc BK289 1, bc BK289 2, bc BK289 3, bc BK289 4, bc BK289 5, bc BK289 6, bc BK289 7, bc BK289 8⟩ (fun hHeld => ?_)
             clear hK K
             refine norm_ (a' := ?_) ?_ ?_
             rotate_left
             ·show Act.put _ (some 11) _ = _
              simp only [Act.put, List.setIfInBounds_toArray, List.set_cons_zero, List.set_cons_succ, i64_w, i32_w]
              rfl
             exact norm0_ (hJ7 (gb298) _ ⟨hHeld, (pk BK269), (pk BK270), (pk BK287), (pk BK288), (pk BK289), (pk BK298), GW298.out, GE298.out, NB269_298.out, NB298_269.out, NB270_298.out, NB298_270.out, NB287_298.out, NB298_287.out, NB288_298.out, NB298_288.out, NB289_298.out, NB298_289.out, (by repeat (first | (with_reducible first | exact HB.out | apply below_alloc | apply pw_below_drewN | apply below_drew1 | refine below_set ?_ GE269.out | refine below_set ?_ GE270.out | refine below_set ?_ GE287.out | refine below_set ?_ GE288.out | refine below_set ?_ GE289.out | refine below_set ?_ GE298.out) | exact HB.out))⟩)
           ·skip
            rintro gb298 w56 ⟨hS_, h0_, h1_, h2_, h3_, h4_, h5_, h6_, h7_, h8_, h9_, h10_, h11_, h12_, h13_, h14_, h15_, h16_, h17_, h18_⟩
            have BK298 := A0 h5_
            have GW298 : Aside0 (w.heap.size ≤ gb298) := ⟨h6_⟩
            have GE298 : Aside0 (w.heap.size ≤ gb298) := ⟨h7_⟩
            have NB269_298 : Aside0 (gb269 ≠ gb298) := ⟨h8_⟩
            have NB298_269 : Aside0 (gb298 ≠ gb269) := ⟨h9_⟩
            have NB270_298 : Aside0 (gb270 ≠ gb298) := ⟨h10_⟩
            have NB298_270 : Aside0 (gb298 ≠ gb270) := ⟨h11_⟩
            have NB287_298 : Aside0 (gb287 ≠ gb298) := ⟨h12_⟩
            have NB298_287 : Aside0 (gb298 ≠ gb287) := ⟨h13_⟩
            have NB288_298 : Aside0 (gb288 ≠ gb298) := ⟨h14_⟩
            have NB298_288 : Aside0 (gb298 ≠ gb288) := ⟨h15_⟩
            have NB289_298 : Aside0 (gb289 ≠ gb298) := ⟨h16_⟩
            have NB298_289 : Aside0 (gb298 ≠ gb289) := ⟨h17_⟩
            replace BK269 := A0 h0_
            replace BK270 := A0 h1_
            replace BK287 := A0 h2_
            replace BK288 := A0 h3_
            replace BK289 := A0 h4_
            replace HB : Aside0 (Below w.heap.size w w56) := ⟨h18_⟩
            clear h0_ h1_ h2_ h3_ h4_ h5_ h6_ h7_ h8_ h9_ h10_ h11_ h12_ h13_ h14_ h15_ h16_ h17_ h18_
            have hHeld := hS_
            refine norm_ (a' := ?_) ?_ ?_
            rotate_left
            ·simp only [putAll, Act.put, List.setIfInBounds_toArray, List.set_cons_zero, List.set_cons_succ]
             rfl
            refine two_ (i := 2) (j := 6) (Ni := some 41) (Nj := some 10) #[true, true, true, true, true, false, false, true, false, false] #[true, true, false, true, true, false, true, true, false, false] rfl rfl rfl rfl (two_of HT_.out (by kernel_rfl)) (by decide) (by decide) (fun K hK => ?_) (fun K hK => ?_)
            ·skip
             refine goes_ Try.func16 (by kernel_rfl) rfl #[.agg #[.int .i64 t272, .int .i64 t273, .int .i64 t274, .int .i64 t275, .int .i64 t276, .int .i64 t277, .int .i64 t278, .int .i64 t279, .int .i64 t280], .agg #[.string t281, .int .i64 t282, .int .i64 t283, .int .i64 t284, .int .i64 t285, .int .i64 t286]] (by rfl) rfl rfl (by (try simp only [List.map_toArray, List.map_cons, List.map_nil]); first | done | rfl | (simp only [List.length_drop, List.length_take]; rfl)) ?_
             with_reducible refine (damperlaw10_decide.calls k t272 t273 t274 t275 t276 t277 t278 t279 t280 t281 t282 t283 t284 t285 t286 t293 t294 _ A11.out).mono ?_
             rintro e w57 ⟨rfl, hb⟩
             refine ⟨_, rfl, ?_⟩
             replace BK269 := A0 (blk_below (g := gb269) (pk BK269) hb)
             replace BK270 := A0 (blk_below (g := gb270) (pk BK270) hb)
             replace BK287 := A0 (blk_below (g := gb287) (pk BK287) hb)
             replace BK288 := A0 (blk_below (g := gb288) (pk BK288) hb)
             replace BK289 := A0 (blk_below (g := gb289) (pk BK289) hb)
             replace BK298 := A0 (blk_below (g := gb298) (pk BK298) hb)
             replace HB := A0 (below_step (by repeat (first | (with_reducible first | exact HB.out | apply below_alloc | apply pw_below_drewN | apply below_drew1 | refine below_set ?_ GE269.out | refine below_set ?_ GE270.out | refine below_set ?_ GE287.out | refine below_set ?_ GE288.out | refine below_set ?_ GE289.out | refine below_set ?_ GE298.out) | exact HB.out)) hb)
             (try clear hb)
             (try clear hb2)
             (try clear hk)
             (try clear hi)
             refine hK.out _ _ ⟨bc BK287 0, bc BK287 1, bc BK287 2, bc BK287 3, bc BK287 4, bc BK287 5, bc BK287 6, bc BK287 7, bc BK287 8, bc BK288 0, bc BK288 1, bc BK288 2, bc BK288 3, bc BK288 4, bc BK288 5, bc BK289 0, bc BK289 1, bc BK289 2, bc BK289 3, bc BK289 4, bc BK289 5, bc BK289 6, bc BK289 7, bc BK289 8⟩ (fun hHeld => ?_)
             clear hK K
             refine norm_ (a' := ?_) ?_ ?_
             rotate_left
             ·show Act.put _ (some 41) _ = _
              simp only [Act.put, List.setIfInBounds_toArray, List.set_cons_zero, List.set_cons_succ, i64_w, i32_w]
              rfl
             exact norm0_ (hJ2_7 (gb298) _ ⟨hHeld, (pk BK269), (pk BK270), (pk BK287), (pk BK288), (pk BK289), (pk BK298), GW298.out, GE298.out, NB269_298.out, NB298_269.out, NB270_298.out, NB298_270.out, NB287_298.out, NB298_287.out, NB288_298.out, NB298_288.out, NB289_298.out, NB298_289.out, (by repeat (first | (with_reducible first | exact HB.out | apply below_alloc | apply pw_below_drewN | apply below_drew1 | refine below_set ?_ GE269.out | refine below_set ?_ GE270.out | refine below_set ?_ GE287.out | refine below_set ?_ GE288.out | refine below_set ?_ GE289.out | refine below_set ?_ GE298.out) | exact HB.out))⟩)
            ·skip
             refine box_step ?hg (N := 10) ?hd (cs := #[.int .i64 0, .int .i64 0]) (t := 30) ?hr ?_; (case hd => rfl); (case hg => rfl); (case hr => first | (go_simp; done) | (go_simp; rfl))
             intro gb297 hg w57 hbox hb
             have BK297 := A0 (hbox)
             have GW297 := A0 ((by rw [hg]; exact (below_size (by repeat (first | (with_reducible first | exact HB.out | apply below_alloc | apply pw_below_drewN | apply below_drew1 | refine below_set ?_ GE269.out | refine below_set ?_ GE270.out | refine below_set ?_ GE287.out | refine below_set ?_ GE288.out | refine below_set ?_ GE289.out | refine below_set ?_ GE298.out) | exact HB.out))) : w.heap.size ≤ gb297))
             have GE297 := GW297
             have NB269_297 := A0 ((ne_lt hg (pk BK269) : gb269 ≠ gb297))
             have NB297_269 := A0 ((ne_gt hg (pk BK269) : gb297 ≠ gb269))
             have NB270_297 := A0 ((ne_lt hg (pk BK270) : gb270 ≠ gb297))
             have NB297_270 := A0 ((ne_gt hg (pk BK270) : gb297 ≠ gb270))
             have NB287_297 := A0 ((ne_lt hg (pk BK287) : gb287 ≠ gb297))
             have NB297_287 := A0 ((ne_gt hg (pk BK287) : gb297 ≠ gb287))
             have NB288_297 := A0 ((ne_lt hg (pk BK288) : gb288 ≠ gb297))
             have NB297_288 := A0 ((ne_gt hg (pk BK288) : gb297 ≠ gb288))
             have NB289_297 := A0 ((ne_lt hg (pk BK289) : gb289 ≠ gb297))
             have NB297_289 := A0 ((ne_gt hg (pk BK289) : gb297 ≠ gb289))
             have NB298_297 := A0 ((ne_lt hg (pk BK298) : gb298 ≠ gb297))
             have NB297_298 := A0 ((ne_gt hg (pk BK298) : gb297 ≠ gb298))
             replace BK269 := A0 (blk_below (g := gb269) (pk BK269) hb)
             replace BK270 := A0 (blk_below (g := gb270) (pk BK270) hb)
             replace BK287 := A0 (blk_below (g := gb287) (pk BK287) hb)
             replace BK288 := A0 (blk_below (g := gb288) (pk BK288) hb)
             replace BK289 := A0 (blk_below (g := gb289) (pk BK289) hb)
             replace BK298 := A0 (blk_below (g := gb298) (pk BK298) hb)
             replace HB := A0 (below_step (by repeat (first | (with_reducible first | exact HB.out | apply below_alloc | apply pw_below_drewN | apply below_drew1 | refine below_set ?_ GE269.out | refine below_set ?_ GE270.out | refine below_set ?_ GE287.out | refine below_set ?_ GE288.out | refine below_set ?_ GE289.out | refine below_set ?_ GE298.out) | exact HB.out)) hb)
             clear hb hbox hg
             refine hK.out _ _ ⟨bc BK287 0, bc BK287 1, bc BK287 2, bc BK287 3, bc BK287 4, bc BK287 5, bc BK287 6, bc BK287 7, bc BK287 8, bc BK288 0, bc BK288 1, bc BK288 2, bc BK288 3, bc BK288 4, bc BK288 5, bc BK289 0, bc BK289 1, bc BK289 2, bc BK289 3, bc BK289 4, bc BK289 5, bc BK289 6, bc BK289 7, bc BK289 8⟩ (fun hHeld => ?_)
             clear hK K
             refine norm_ (a' := ?_) ?_ ?_
             rotate_left
             ·show Act.put _ (some 10) _ = _
              simp only [Act.put, List.setIfInBounds_toArray, List.set_cons_zero, List.set_cons_succ, i64_w, i32_w]
              rfl
             exact norm0_ (hJ6_7 (gb297, gb298) _ ⟨hHeld, (pk BK269), (pk BK270), (pk BK287), (pk BK288), (pk BK289), (pk BK297), (pk BK298), GW297.out, GE297.out, NB269_297.out, NB297_269.out, NB270_297.out, NB297_270.out, NB287_297.out, NB297_287.out, NB288_297.out, NB297_288.out, NB289_297.out, NB297_289.out, NB298_297.out, NB297_298.out, GW298.out, GE298.out, NB269_298.out, NB298_269.out, NB270_298.out, NB298_270.out, NB287_298.out, NB298_287.out, NB288_298.out, NB298_288.out, NB289_298.out, NB298_289.out, (by repeat (first | (with_reducible first | exact HB.out | apply below_alloc | apply pw_below_drewN | apply below_drew1 | refine below_set ?_ GE269.out | refine below_set ?_ GE270.out | refine below_set ?_ GE287.out | refine below_set ?_ GE288.out | refine below_set ?_ GE289.out | refine below_set ?_ GE298.out | refine below_set ?_ GE297.out) | exact HB.out))⟩)
          ·skip
           rintro gb297 w56 ⟨hS_, h0_, h1_, h2_, h3_, h4_, h5_, h6_, h7_, h8_, h9_, h10_, h11_, h12_, h13_, h14_, h15_, h16_, h17_, h18_⟩
           have BK297 := A0 h5_
           have GW297 : Aside0 (w.heap.size ≤ gb297) := ⟨h6_⟩
           have GE297 : Aside0 (w.heap.size ≤ gb297) := ⟨h7_⟩
           have NB269_297 : Aside0 (gb269 ≠ gb297) := ⟨h8_⟩
           have NB297_269 : Aside0 (gb297 ≠ gb269) := ⟨h9_⟩
           have NB270_297 : Aside0 (gb270 ≠ gb297) := ⟨h10_⟩
           have NB297_270 : Aside0 (gb297 ≠ gb270) := ⟨h11_⟩
           have NB287_297 : Aside0 (gb287 ≠ gb297) := ⟨h12_⟩
           have NB297_287 : Aside0 (gb297 ≠ gb287) := ⟨h13_⟩
           have NB288_297 : Aside0 (gb288 ≠ gb297) := ⟨h14_⟩
           have NB297_288 : Aside0 (gb297 ≠ gb288) := ⟨h15_⟩
           have NB289_297 : Aside0 (gb289 ≠ gb297) := ⟨h16_⟩
           have NB297_289 : Aside0 (gb297 ≠ gb289) := ⟨h17_⟩
           replace BK269 := A0 h0_
           replace BK270 := A0 h1_
           replace BK287 := A0 h2_
           replace BK288 := A0 h3_
           replace BK289 := A0 h4_
           replace HB : Aside0 (Below w.heap.size w w56) := ⟨h18_⟩
           clear h0_ h1_ h2_ h3_ h4_ h5_ h6_ h7_ h8_ h9_ h10_ h11_ h12_ h13_ h14_ h15_ h16_ h17_ h18_
           have hHeld := hS_
           refine norm_ (a' := ?_) ?_ ?_
           rotate_left
           ·simp only [putAll, Act.put, List.setIfInBounds_toArray, List.set_cons_zero, List.set_cons_succ]
            rfl
           refine two_ (i := 2) (j := 7) (Ni := some 41) (Nj := some 11) #[true, true, true, true, true, false, true, false, false, false] #[true, true, false, true, true, false, true, true, false, false] rfl rfl rfl rfl (two_of HT_.out (by kernel_rfl)) (by decide) (by decide) (fun K hK => ?_) (fun K hK => ?_)
           ·skip
            refine goes_ Try.func16 (by kernel_rfl) rfl #[.agg #[.int .i64 t272, .int .i64 t273, .int .i64 t274, .int .i64 t275, .int .i64 t276, .int .i64 t277, .int .i64 t278, .int .i64 t279, .int .i64 t280], .agg #[.string t281, .int .i64 t282, .int .i64 t283, .int .i64 t284, .int .i64 t285, .int .i64 t286]] (by rfl) rfl rfl (by (try simp only [List.map_toArray, List.map_cons, List.map_nil]); first | done | rfl | (simp only [List.length_drop, List.length_take]; rfl)) ?_
            with_reducible refine (damperlaw10_decide.calls k t272 t273 t274 t275 t276 t277 t278 t279 t280 t281 t282 t283 t284 t285 t286 t293 t294 _ A11.out).mono ?_
            rintro e w57 ⟨rfl, hb⟩
            refine ⟨_, rfl, ?_⟩
            replace BK269 := A0 (blk_below (g := gb269) (pk BK269) hb)
            replace BK270 := A0 (blk_below (g := gb270) (pk BK270) hb)
            replace BK287 := A0 (blk_below (g := gb287) (pk BK287) hb)
            replace BK288 := A0 (blk_below (g := gb288) (pk BK288) hb)
            replace BK289 := A0 (blk_below (g := gb289) (pk BK289) hb)
            replace BK297 := A0 (blk_below (g := gb297) (pk BK297) hb)
            replace HB := A0 (below_step (by repeat (first | (with_reducible first | exact HB.out | apply below_alloc | apply pw_below_drewN | apply below_drew1 | refine below_set ?_ GE269.out | refine below_set ?_ GE270.out | refine below_set ?_ GE287.out | refine below_set ?_ GE288.out | refine below_set ?_ GE289.out | refine below_set ?_ GE297.out) | exact HB.out)) hb)
            (try clear hb)
            (try clear hb2)
            (try clear hk)
            (try clear hi)
            refine hK.out _ _ ⟨bc BK287 0, bc BK287 1, bc BK287 2, bc BK287 3, bc BK287 4, bc BK287 5, bc BK287 6, bc BK287 7, bc BK287 8, bc BK288 0, bc BK288 1, bc BK288 2, bc BK288 3, bc BK288 4, bc BK288 5, bc BK289 0, bc BK289 1, bc BK289 2, bc BK289 3, bc BK289 4, bc BK289 5, bc BK289 6, bc BK289 7, bc BK289 8⟩ (fun hHeld => ?_)
            clear hK K
            refine norm_ (a' := ?_) ?_ ?_
            rotate_left
            ·show Act.put _ (some 41) _ = _
             simp only [Act.put, List.setIfInBounds_toArray, List.set_cons_zero, List.set_cons_succ, i64_w, i32_w]
             rfl
            exact norm0_ (hJ2_6 (gb297) _ ⟨hHeld, (pk BK269), (pk BK270), (pk BK287), (pk BK288), (pk BK289), (pk BK297), GW297.out, GE297.out, NB269_297.out, NB297_269.out, NB270_297.out, NB297_270.out, NB287_297.out, NB297_287.out, NB288_297.out, NB297_288.out, NB289_297.out, NB297_289.out, (by repeat (first | (with_reducible first | exact HB.out | apply below_alloc | apply pw_below_drewN | apply below_drew1 | refine below_set ?_ GE269.out | refine below_set ?_ GE270.out | refine below_set ?_ GE287.out | refine below_set ?_ GE288.out | refine below_set ?_ GE289.out | refine below_set ?_ GE297.out) | exact HB.out))⟩)
           ·skip
            refine box_step ?hg (N := 11) ?hd (cs := #[.int .i64 0, .int .i64 0]) (t := 30) ?hr ?_; (case hd => rfl); (case hg => rfl); (case hr => first | (go_simp; done) | (go_simp; rfl))
            intro gb298 hg w57 hbox hb
            have BK298 := A0 (hbox)
            have GW298 := A0 ((by rw [hg]; exact (below_size (by repeat (first | (with_reducible first | exact HB.out | apply below_alloc | apply pw_below_drewN | apply below_drew1 | refine below_set ?_ GE269.out | refine below_set ?_ GE270.out | refine below_set ?_ GE287.out | refine below_set ?_ GE288.out | refine below_set ?_ GE289.out | refine below_set ?_ GE297.out) | exact HB.out))) : w.heap.size ≤ gb298))
            have GE298 := GW298
            have NB269_298 := A0 ((ne_lt hg (pk BK269) : gb269 ≠ gb298))
            have NB298_269 := A0 ((ne_gt hg (pk BK269) : gb298 ≠ gb269))
            have NB270_298 := A0 ((ne_lt hg (pk BK270) : gb270 ≠ gb298))
            have NB298_270 := A0 ((ne_gt hg (pk BK270) : gb298 ≠ gb270))
            have NB287_298 := A0 ((ne_lt hg (pk BK287) : gb287 ≠ gb298))
            have NB298_287 := A0 ((ne_gt hg (pk BK287) : gb298 ≠ gb287))
            have NB288_298 := A0 ((ne_lt hg (pk BK288) : gb288 ≠ gb298))
            have NB298_288 := A0 ((ne_gt hg (pk BK288) : gb298 ≠ gb288))
            have NB289_298 := A0 ((ne_lt hg (pk BK289) : gb289 ≠ gb298))
            have NB298_289 := A0 ((ne_gt hg (pk BK289) : gb298 ≠ gb289))
            have NB297_298 := A0 ((ne_lt hg (pk BK297) : gb297 ≠ gb298))
            have NB298_297 := A0 ((ne_gt hg (pk BK297) : gb298 ≠ gb297))
            replace BK269 := A0 (blk_below (g := gb269) (pk BK269) hb)
            replace BK270 := A0 (blk_below (g := gb270) (pk BK270) hb)
            replace BK287 := A0 (blk_below (g := gb287) (pk BK287) hb)
            replace BK288 := A0 (blk_below (g := gb288) (pk BK288) hb)
            replace BK289 := A0 (blk_below (g := gb289) (pk BK289) hb)
            replace BK297 := A0 (blk_below (g := gb297) (pk BK297) hb)
            replace HB := A0 (below_step (by repeat (first | (with_reducible first | exact HB.out | apply below_alloc | apply pw_below_drewN | apply below_drew1 | refine below_set ?_ GE269.out | refine below_set ?_ GE270.out | refine below_set ?_ GE287.out | refine below_set ?_ GE288.out | refine below_set ?_ GE289.out | refine below_set ?_ GE297.out) | exact HB.out)) hb)
            clear hb hbox hg
            refine hK.out _ _ ⟨bc BK287 0, bc BK287 1, bc BK287 2, bc BK287 3, bc BK287 4, bc BK287 5, bc BK287 6, bc BK287 7, bc BK287 8, bc BK288 0, bc BK288 1, bc BK288 2, bc BK288 3, bc BK288 4, bc BK288 5, bc BK289 0, bc BK289 1, bc BK289 2, bc BK289 3, bc BK289 4, bc BK289 5, bc BK289 6, bc BK289 7, bc BK289 8⟩ (fun hHeld => ?_)
            clear hK K
            refine norm_ (a' := ?_) ?_ ?_
            rotate_left
            ·show Act.put _ (some 11) _ = _
             simp only [Act.put, List.setIfInBounds_toArray, List.set_cons_zero, List.set_cons_succ, i64_w, i32_w]
             rfl
            exact norm0_ (hJ6_7 (gb297, gb298) _ ⟨hHeld, (pk BK269), (pk BK270), (pk BK287), (pk BK288), (pk BK289), (pk BK297), (pk BK298), GW297.out, GE297.out, NB269_297.out, NB297_269.out, NB270_297.out, NB297_270.out, NB287_297.out, NB297_287.out, NB288_297.out, NB297_288.out, NB289_297.out, NB297_289.out, NB298_297.out, NB297_298.out, GW298.out, GE298.out, NB269_298.out, NB298_269.out, NB270_298.out, NB298_270.out, NB287_298.out, NB298_287.out, NB288_298.out, NB298_288.out, NB289_298.out, NB298_289.out, (by repeat (first | (with_reducible first | exact HB.out | apply below_alloc | apply pw_below_drewN | apply below_drew1 | refine below_set ?_ GE269.out | refine below_set ?_ GE270.out | refine below_set ?_ GE287.out | refine below_set ?_ GE288.out | refine below_set ?_ GE289.out | refine below_set ?_ GE297.out | refine below_set ?_ GE298.out) | exact HB.out))⟩)
         ·skip
          rintro _ w56 ⟨hS_, h0_, h1_, h2_, h3_, h4_, h5_⟩
          replace BK269 := A0 h0_
          replace BK270 := A0 h1_
          replace BK287 := A0 h2_
          replace BK288 := A0 h3_
          replace BK289 := A0 h4_
          replace HB : Aside0 (Below w.heap.size w w56) := ⟨h5_⟩
          clear h0_ h1_ h2_ h3_ h4_ h5_
          have hHeld := hS_
          refine norm_ (a' := ?_) ?_ ?_
          rotate_left
          ·simp only [putAll, Act.put, List.setIfInBounds_toArray, List.set_cons_zero, List.set_cons_succ]
           rfl
          refine three_ (i := 5) (j := 6) (k := 7) (Ni := some 44) (Nj := some 10) (Nk := some 11) #[true, true, true, true, true, true, false, false, false, false] #[true, true, true, true, true, false, true, false, false, false] #[true, true, true, true, true, false, false, true, false, false] rfl rfl rfl rfl rfl rfl (three_of HT_.out (by kernel_rfl)) (by decide) (by decide) (by decide) (fun K hK => ?_) (fun K hK => ?_) (fun K hK => ?_)
          ·skip
           refine goes_ Try.func16 (by kernel_rfl) rfl #[.agg #[.int .i64 t272, .int .i64 t273, .int .i64 t274, .int .i64 (wrap64 (t275 + t292)), .int .i64 (wrap64 (t276 + t290)), .int .i64 t277, .int .i64 (wrap64 (t278 + t291)), .int .i64 t279, .int .i64 t280], .agg #[.string t281, .int .i64 t282, .int .i64 t283, .int .i64 t284, .int .i64 t285, .int .i64 t286]] (by rfl) rfl rfl (by (try simp only [List.map_toArray, List.map_cons, List.map_nil]); first | done | rfl | (simp only [List.length_drop, List.length_take]; rfl)) ?_
           with_reducible refine (damperlaw10_decide.calls k t272 t273 t274 (wrap64 (t275 + t292)) (wrap64 (t276 + t290)) t277 (wrap64 (t278 + t291)) t279 t280 t281 t282 t283 t284 t285 t286 t295 t296 _ A12.out).mono ?_
           rintro e w57 ⟨rfl, hb⟩
           refine ⟨_, rfl, ?_⟩
           replace BK269 := A0 (blk_below (g := gb269) (pk BK269) hb)
           replace BK270 := A0 (blk_below (g := gb270) (pk BK270) hb)
           replace BK287 := A0 (blk_below (g := gb287) (pk BK287) hb)
           replace BK288 := A0 (blk_below (g := gb288) (pk BK288) hb)
           replace BK289 := A0 (blk_below (g := gb289) (pk BK289) hb)
           replace HB := A0 (below_step (by repeat (first | (with_reducible first | exact HB.out | apply below_alloc | apply pw_below_drewN | apply below_drew1 | refine below_set ?_ GE269.out | refine below_set ?_ GE270.out | refine below_set ?_ GE287.out | refine below_set ?_ GE288.out | refine below_set ?_ GE289.out) | exact HB.out)) hb)
           (try clear hb)
           (try clear hb2)
           (try clear hk)
           (try clear hi)
           refine hK.out _ _ ⟨bc BK287 0, bc BK287 1, bc BK287 2, bc BK287 3, bc BK287 4, bc BK287 5, bc BK287 6, bc BK287 7, bc BK287 8, bc BK288 0, bc BK288 1, bc BK288 2, bc BK288 3, bc BK288 4, bc BK288 5, bc BK289 0, bc BK289 1, bc BK289 2, bc BK289 3, bc BK289 4, bc BK289 5, bc BK289 6, bc BK289 7, bc BK289 8⟩ (fun hHeld => ?_)
           clear hK K
           refine norm_ (a' := ?_) ?_ ?_
           rotate_left
           ·show Act.put _ (some 44) _ = _
            simp only [Act.put, List.setIfInBounds_toArray, List.set_cons_zero, List.set_cons_succ, i64_w, i32_w]
            rfl
           exact norm0_ (hJ2_5 () _ ⟨hHeld, (pk BK269), (pk BK270), (pk BK287), (pk BK288), (pk BK289), (by repeat (first | (with_reducible first | exact HB.out | apply below_alloc | apply pw_below_drewN | apply below_drew1 | refine below_set ?_ GE269.out | refine below_set ?_ GE270.out | refine below_set ?_ GE287.out | refine below_set ?_ GE288.out | refine below_set ?_ GE289.out) | exact HB.out))⟩)
          ·skip
           refine box_step ?hg (N := 10) ?hd (cs := #[.int .i64 0, .int .i64 0]) (t := 30) ?hr ?_; (case hd => rfl); (case hg => rfl); (case hr => first | (go_simp; done) | (go_simp; rfl))
           intro gb297 hg w57 hbox hb
           have BK297 := A0 (hbox)
           have GW297 := A0 ((by rw [hg]; exact (below_size (by repeat (first | (with_reducible first | exact HB.out | apply below_alloc | apply pw_below_drewN | apply below_drew1 | refine below_set ?_ GE269.out | refine below_set ?_ GE270.out | refine below_set ?_ GE287.out | refine below_set ?_ GE288.out | refine below_set ?_ GE289.out) | exact HB.out))) : w.heap.size ≤ gb297))
           have GE297 := GW297
           have NB269_297 := A0 ((ne_lt hg (pk BK269) : gb269 ≠ gb297))
           have NB297_269 := A0 ((ne_gt hg (pk BK269) : gb297 ≠ gb269))
           have NB270_297 := A0 ((ne_lt hg (pk BK270) : gb270 ≠ gb297))
           have NB297_270 := A0 ((ne_gt hg (pk BK270) : gb297 ≠ gb270))
           have NB287_297 := A0 ((ne_lt hg (pk BK287) : gb287 ≠ gb297))
           have NB297_287 := A0 ((ne_gt hg (pk BK287) : gb297 ≠ gb287))
           have NB288_297 := A0 ((ne_lt hg (pk BK288) : gb288 ≠ gb297))
           have NB297_288 := A0 ((ne_gt hg (pk BK288) : gb297 ≠ gb288))
           have NB289_297 := A0 ((ne_lt hg (pk BK289) : gb289 ≠ gb297))
           have NB297_289 := A0 ((ne_gt hg (pk BK289) : gb297 ≠ gb289))
           replace BK269 := A0 (blk_below (g := gb269) (pk BK269) hb)
           replace BK270 := A0 (blk_below (g := gb270) (pk BK270) hb)
           replace BK287 := A0 (blk_below (g := gb287) (pk BK287) hb)
           replace BK288 := A0 (blk_below (g := gb288) (pk BK288) hb)
           replace BK289 := A0 (blk_below (g := gb289) (pk BK289) hb)
           replace HB := A0 (below_step (by repeat (first | (with_reducible first | exact HB.out | apply below_alloc | apply pw_below_drewN | apply below_drew1 | refine below_set ?_ GE269.out | refine below_set ?_ GE270.out | refine below_set ?_ GE287.out | refine below_set ?_ GE288.out | refine below_set ?_ GE289.out) | exact HB.out)) hb)
           clear hb hbox hg
           refine hK.out _ _ ⟨bc BK287 0, bc BK287 1, bc BK287 2, bc BK287 3, bc BK287 4, bc BK287 5, bc BK287 6, bc BK287 7, bc BK287 8, bc BK288 0, bc BK288 1, bc BK288 2, bc BK288 3, bc BK288 4, bc BK288 5, bc BK289 0, bc BK289 1, bc BK289 2, bc BK289 3, bc BK289 4, bc BK289 5, bc BK289 6, bc BK289 7, bc BK289 8⟩ (fun hHeld => ?_)
           clear hK K
           refine norm_ (a' := ?_) ?_ ?_
           rotate_left
           ·show Act.put _ (some 10) _ = _
            simp only [Act.put, List.setIfInBounds_toArray, List.set_cons_zero, List.set_cons_succ, i64_w, i32_w]
            rfl
           exact norm0_ (hJ2_6 (gb297) _ ⟨hHeld, (pk BK269), (pk BK270), (pk BK287), (pk BK288), (pk BK289), (pk BK297), GW297.out, GE297.out, NB269_297.out, NB297_269.out, NB270_297.out, NB297_270.out, NB287_297.out, NB297_287.out, NB288_297.out, NB297_288.out, NB289_297.out, NB297_289.out, (by repeat (first | (with_reducible first | exact HB.out | apply below_alloc | apply pw_below_drewN | apply below_drew1 | refine below_set ?_ GE269.out | refine below_set ?_ GE270.out | refine below_set ?_ GE287.out | refine below_set ?_ GE288.out | refine below_set ?_ GE289.out | refine below_set ?_ GE297.out) | exact HB.out))⟩)
          ·skip
           refine box_step ?hg (N := 11) ?hd (cs := #[.int .i64 0, .int .i64 0]) (t := 30) ?hr ?_; (case hd => rfl); (case hg => rfl); (case hr => first | (go_simp; done) | (go_simp; rfl))
           intro gb298 hg w57 hbox hb
           have BK298 := A0 (hbox)
           have GW298 := A0 ((by rw [hg]; exact (below_size (by repeat (first | (with_reducible first | exact HB.out | apply below_alloc | apply pw_below_drewN | apply below_drew1 | refine below_set ?_ GE269.out | refine below_set ?_ GE270.out | refine below_set ?_ GE287.out | refine below_set ?_ GE288.out | refine below_set ?_ GE289.out) | exact HB.out))) : w.heap.size ≤ gb298))
           have GE298 := GW298
           have NB269_298 := A0 ((ne_lt hg (pk BK269) : gb269 ≠ gb298))
           have NB298_269 := A0 ((ne_gt hg (pk BK269) : gb298 ≠ gb269))
           have NB270_298 := A0 ((ne_lt hg (pk BK270) : gb270 ≠ gb298))
           have NB298_270 := A0 ((ne_gt hg (pk BK270) : gb298 ≠ gb270))
           have NB287_298 := A0 ((ne_lt hg (pk BK287) : gb287 ≠ gb298))
           have NB298_287 := A0 ((ne_gt hg (pk BK287) : gb298 ≠ gb287))
           have NB288_298 := A0 ((ne_lt hg (pk BK288) : gb288 ≠ gb298))
           have NB298_288 := A0 ((ne_gt hg (pk BK288) : gb298 ≠ gb288))
           have NB289_298 := A0 ((ne_lt hg (pk BK289) : gb289 ≠ gb298))
           have NB298_289 := A0 ((ne_gt hg (pk BK289) : gb298 ≠ gb289))
           replace BK269 := A0 (blk_below (g := gb269) (pk BK269) hb)
           replace BK270 := A0 (blk_below (g := gb270) (pk BK270) hb)
           replace BK287 := A0 (blk_below (g := gb287) (pk BK287) hb)
           replace BK288 := A0 (blk_below (g := gb288) (pk BK288) hb)
           replace BK289 := A0 (blk_below (g := gb289) (pk BK289) hb)
           replace HB := A0 (below_step (by repeat (first | (with_reducible first | exact HB.out | apply below_alloc | apply pw_below_drewN | apply below_drew1 | refine below_set ?_ GE269.out | refine below_set ?_ GE270.out | refine below_set ?_ GE287.out | refine below_set ?_ GE288.out | refine below_set ?_ GE289.out) | exact HB.out)) hb)
           clear hb hbox hg
           refine hK.out _ _ ⟨bc BK287 0, bc BK287 1, bc BK287 2, bc BK287 3, bc BK287 4, bc BK287 5, bc BK287 6, bc BK287 7, bc BK287 8, bc BK288 0, bc BK288 1, bc BK288 2, bc BK288 3, bc BK288 4, bc BK288 5, bc BK289 0, bc BK289 1, bc BK289 2, bc BK289 3, bc BK289 4, bc BK289 5, bc BK289 6, bc BK289 7, bc BK289 8⟩ (fun hHeld => ?_)
           clear hK K
           refine norm_ (a' := ?_) ?_ ?_
           rotate_left
           ·show Act.put _ (some 11) _ = _
            simp only [Act.put, List.setIfInBounds_toArray, List.set_cons_zero, List.set_cons_succ, i64_w, i32_w]
            rfl
           exact norm0_ (hJ2_7 (gb298) _ ⟨hHeld, (pk BK269), (pk BK270), (pk BK287), (pk BK288), (pk BK289), (pk BK298), GW298.out, GE298.out, NB269_298.out, NB298_269.out, NB270_298.out, NB298_270.out, NB287_298.out, NB298_287.out, NB288_298.out, NB298_288.out, NB289_298.out, NB298_289.out, (by repeat (first | (with_reducible first | exact HB.out | apply below_alloc | apply pw_below_drewN | apply below_drew1 | refine below_set ?_ GE269.out | refine below_set ?_ GE270.out | refine below_set ?_ GE287.out | refine below_set ?_ GE288.out | refine below_set ?_ GE289.out | refine below_set ?_ GE298.out) | exact HB.out))⟩)
        ·skip
         rintro ⟨gb297, gb298⟩ w57 ⟨hS_, h0_, h1_, h2_, h3_, h4_, h5_, h6_, h7_, h8_, h9_, h10_, h11_, h12_, h13_, h14_, h15_, h16_, h17_, h18_, h19_, h20_, h21_, h22_, h23_, h24_, h25_, h26_, h27_, h28_, h29_, h30_, h31_, h32_, h33_⟩
         have BK297 : Aside0 (w57.heap[gb297]? = some (.cells #[.int .i64 0, .int .i64 0] 30 (0, 0))) := ⟨h5_⟩
         have BK298 : Aside0 (w57.heap[gb298]? = some (.cells #[.int .i64 0, .int .i64 0] 30 (0, 0))) := ⟨h6_⟩
         have GW297 : Aside0 (w.heap.size ≤ gb297) := ⟨h7_⟩
         have GE297 : Aside0 (w.heap.size ≤ gb297) := ⟨h8_⟩
         have NB269_297 : Aside0 (gb269 ≠ gb297) := ⟨h9_⟩
         have NB297_269 : Aside0 (gb297 ≠ gb269) := ⟨h10_⟩
         have NB270_297 : Aside0 (gb270 ≠ gb297) := ⟨h11_⟩
         have NB297_270 : Aside0 (gb297 ≠ gb270) := ⟨h12_⟩
         have NB287_297 : Aside0 (gb287 ≠ gb297) := ⟨h13_⟩
         have NB297_287 : Aside0 (gb297 ≠ gb287) := ⟨h14_⟩
         have NB288_297 : Aside0 (gb288 ≠ gb297) := ⟨h15_⟩
         have NB297_288 : Aside0 (gb297 ≠ gb288) := ⟨h16_⟩
         have NB289_297 : Aside0 (gb289 ≠ gb297) := ⟨h17_⟩
         have NB297_289 : Aside0 (gb297 ≠ gb289) := ⟨h18_⟩
         have NB298_297 : Aside0 (gb298 ≠ gb297) := ⟨h19_⟩
         have NB297_298 : Aside0 (gb297 ≠ gb298) := ⟨h20_⟩
         have GW298 : Aside0 (w.heap.size ≤ gb298) := ⟨h21_⟩
         have GE298 : Aside0 (w.heap.size ≤ gb298) := ⟨h22_⟩
         have NB269_298 : Aside0 (gb269 ≠ gb298) := ⟨h23_⟩
         have NB298_269 : Aside0 (gb298 ≠ gb269) := ⟨h24_⟩
         have NB270_298 : Aside0 (gb270 ≠ gb298) := ⟨h25_⟩
         have NB298_270 : Aside0 (gb298 ≠ gb270) := ⟨h26_⟩
         have NB287_298 : Aside0 (gb287 ≠ gb298) := ⟨h27_⟩
         have NB298_287 : Aside0 (gb298 ≠ gb287) := ⟨h28_⟩
         have NB288_298 : Aside0 (gb288 ≠ gb298) := ⟨h29_⟩
         have NB298_288 : Aside0 (gb298 ≠ gb288) := ⟨h30_⟩
         have NB289_298 : Aside0 (gb289 ≠ gb298) := ⟨h31_⟩
         have NB298_289 : Aside0 (gb298 ≠ gb289) := ⟨h32_⟩
         replace BK269 := A0 h0_
         replace BK270 := A0 h1_
         replace BK287 := A0 h2_
         replace BK288 := A0 h3_
         replace BK289 := A0 h4_
         replace HB : Aside0 (Below w.heap.size w w57) := ⟨h33_⟩
         clear h0_ h1_ h2_ h3_ h4_ h5_ h6_ h7_ h8_ h9_ h10_ h11_ h12_ h13_ h14_ h15_ h16_ h17_ h18_ h19_ h20_ h21_ h22_ h23_ h24_ h25_ h26_ h27_ h28_ h29_ h30_ h31_ h32_ h33_
         have hHeld := hS_
         refine norm_ (a' := ?_) ?_ ?_
         rotate_left
         ·simp only [putAll, Act.put, List.setIfInBounds_toArray, List.set_cons_zero, List.set_cons_succ]
          rfl
         refine one_ (i := 2) (N := some 41) #[true, true, true, true, true, false, true, true, false, false] rfl rfl (one_of HT_.out (by kernel_rfl)) (by decide) (fun K hK => ?_)
         refine goes_ Try.func16 (by kernel_rfl) rfl #[.agg #[.int .i64 t272, .int .i64 t273, .int .i64 t274, .int .i64 t275, .int .i64 t276, .int .i64 t277, .int .i64 t278, .int .i64 t279, .int .i64 t280], .agg #[.string t281, .int .i64 t282, .int .i64 t283, .int .i64 t284, .int .i64 t285, .int .i64 t286]] (by rfl) rfl rfl (by (try simp only [List.map_toArray, List.map_cons, List.map_nil]); first | done | rfl | (simp only [List.length_drop, List.length_take]; rfl)) ?_
         with_reducible refine (damperlaw10_decide.calls k t272 t273 t274 t275 t276 t277 t278 t279 t280 t281 t282 t283 t284 t285 t286 t293 t294 _ A11.out).mono ?_
         rintro e w58 ⟨rfl, hb⟩
         refine ⟨_, rfl, ?_⟩
         replace BK269 := A0 (blk_below (g := gb269) (pk BK269) hb)
         replace BK270 := A0 (blk_below (g := gb270) (pk BK270) hb)
         replace BK287 := A0 (blk_below (g := gb287) (pk BK287) hb)
         replace BK288 := A0 (blk_below (g := gb288) (pk BK288) hb)
         replace BK289 := A0 (blk_below (g := gb289) (pk BK289) hb)
         replace BK297 := A0 (blk_below (g := gb297) (pk BK297) hb)
         replace BK298 := A0 (blk_below (g := gb298) (pk BK298) hb)
         replace HB := A0 (below_step (by repeat (first | (with_reducible first | exact HB.out | apply below_alloc | apply pw_below_drewN | apply below_drew1 | refine below_set ?_ GE269.out | refine below_set ?_ GE270.out | refine below_set ?_ GE287.out | refine below_set ?_ GE288.out | refine below_set ?_ GE289.out | refine below_set ?_ GE297.out | refine below_set ?_ GE298.out) | exact HB.out)) hb)
         (try clear hb)
         (try clear hb2)
         (try clear hk)
         (try clear hi)
         refine hK.out _ _ ⟨bc BK287 0, bc BK287 1, bc BK287 2, bc BK287 3, bc BK287 4, bc BK287 5, bc BK287 6, bc BK287 7, bc BK287 8, bc BK288 0, bc BK288 1, bc BK288 2, bc BK288 3, bc BK288 4, bc BK288 5, bc BK289 0, bc BK289 1, bc BK289 2, bc BK289 3, bc BK289 4, bc BK289 5, bc BK289 6, bc BK289 7, bc BK289 8⟩ (fun hHeld => ?_)
         clear hK K
         refine norm_ (a' := ?_) ?_ ?_
         rotate_left
         ·show Act.put _ (some 41) _ = _
          simp only [Act.put, List.setIfInBounds_toArray, List.set_cons_zero, List.set_cons_succ, i64_w, i32_w]
          rfl
         exact norm0_ (hJ2_6_7 (gb297, gb298) _ ⟨hHeld, (pk BK269), (pk BK270), (pk BK287), (pk BK288), (pk BK289), (pk BK297), (pk BK298), GW297.out, GE297.out, NB269_297.out, NB297_269.out, NB270_297.out, NB297_270.out, NB287_297.out, NB297_287.out, NB288_297.out, NB297_288.out, NB289_297.out, NB297_289.out, NB298_297.out, NB297_298.out, GW298.out, GE298.out, NB269_298.out, NB298_269.out, NB270_298.out, NB298_270.out, NB287_298.out, NB298_287.out, NB288_298.out, NB298_288.out, NB289_298.out, NB298_289.out, (by repeat (first | (with_reducible first | exact HB.out | apply below_alloc | apply pw_below_drewN | apply below_drew1 | refine below_set ?_ GE269.out | refine below_set ?_ GE270.out | refine below_set ?_ GE287.out | refine below_set ?_ GE288.out | refine below_set ?_ GE289.out | refine below_set ?_ GE297.out | refine below_set ?_ GE298.out) | exact HB.out))⟩)
       ·skip
        rintro gb298 w57 ⟨hS_, h0_, h1_, h2_, h3_, h4_, h5_, h6_, h7_, h8_, h9_, h10_, h11_, h12_, h13_, h14_, h15_, h16_, h17_, h18_⟩
        have BK298 := A0 h5_
        have GW298 : Aside0 (w.heap.size ≤ gb298) := ⟨h6_⟩
        have GE298 : Aside0 (w.heap.size ≤ gb298) := ⟨h7_⟩
        have NB269_298 : Aside0 (gb269 ≠ gb298) := ⟨h8_⟩
        have NB298_269 : Aside0 (gb298 ≠ gb269) := ⟨h9_⟩
        have NB270_298 : Aside0 (gb270 ≠ gb298) := ⟨h10_⟩
        have NB298_270 : Aside0 (gb298 ≠ gb270) := ⟨h11_⟩
        have NB287_298 : Aside0 (gb287 ≠ gb298) := ⟨h12_⟩
        have NB298_287 : Aside0 (gb298 ≠ gb287) := ⟨h13_⟩
        have NB288_298 : Aside0 (gb288 ≠ gb298) := ⟨h14_⟩
        have NB298_288 : Aside0 (gb298 ≠ gb288) := ⟨h15_⟩
        have NB289_298 : Aside0 (gb289 ≠ gb298) := ⟨h16_⟩
        have NB298_289 : Aside0 (gb298 ≠ gb289) := ⟨h17_⟩
        replace BK269 := A0 h0_
        replace BK270 := A0 h1_
        replace BK287 := A0 h2_
        replace BK288 := A0 h3_
        replace BK289 := A0 h4_
        replace HB : Aside0 (Below w.heap.size w w57) := ⟨h18_⟩
        clear h0_ h1_ h2_ h3_ h4_ h5_ h6_ h7_ h8_ h9_ h10_ h11_ h12_ h13_ h14_ h15_ h16_ h17_ h18_
        have hHeld := hS_
        refine norm_ (a' := ?_) ?_ ?_
        rotate_left
        ·simp only [putAll, Act.put, List.setIfInBounds_toArray, List.set_cons_zero, List.set_cons_succ]
         rfl
        refine two_ (i := 5) (j := 6) (Ni := some 44) (Nj := some 10) #[true, true, true, true, true, true, false, true, false, false] #[true, true, true, true, true, false, true, true, false, false] rfl rfl rfl rfl (two_of HT_.out (by kernel_rfl)) (by decide) (by decide) (fun K hK => ?_) (fun K hK => ?_)
        ·skip
         refine goes_ Try.func16 (by kernel_rfl) rfl #[.agg #[.int .i64 t272, .int .i64 t273, .int .i64 t274, .int .i64 (wrap64 (t275 + t292)), .int .i64 (wrap64 (t276 + t290)), .int .i64 t277, .int .i64 (wrap64 (t278 + t291)), .int .i64 t279, .int .i64 t280], .agg #[.string t281, .int .i64 t282, .int .i64 t283, .int .i64 t284, .int .i64 t285, .int .i64 t286]] (by rfl) rfl rfl (by (try simp only [List.map_toArray, List.map_cons, List.map_nil]); first | done | rfl | (simp only [List.length_drop, List.length_take]; rfl)) ?_
         with_reducible refine (damperlaw10_decide.calls k t272 t273 t274 (wrap64 (t275 + t292)) (wrap64 (t276 + t290)) t277 (wrap64 (t278 + t291)) t279 t280 t281 t282 t283 t284 t285 t286 t295 t296 _ A12.out).mono ?_
         rintro e w58 ⟨rfl, hb⟩
         refine ⟨_, rfl, ?_⟩
         replace BK269 := A0 (blk_below (g := gb269) (pk BK269) hb)
         replace BK270 := A0 (blk_below (g := gb270) (pk BK270) hb)
         replace BK287 := A0 (blk_below (g := gb287) (pk BK287) hb)
         replace BK288 := A0 (blk_below (g := gb288) (pk BK288) hb)
         replace BK289 := A0 (blk_below (g := gb289) (pk BK289) hb)
         replace BK298 := A0 (blk_below (g := gb298) (pk BK298) hb)
         replace HB := A0 (below_step (by repeat (first | (with_reducible first | exact HB.out | apply below_alloc | apply pw_below_drewN | apply below_drew1 | refine below_set ?_ GE269.out | refine below_set ?_ GE270.out | refine below_set ?_ GE287.out | refine below_set ?_ GE288.out | refine below_set ?_ GE289.out | refine below_set ?_ GE298.out) | exact HB.out)) hb)
         (try clear hb)
         (try clear hb2)
         (try clear hk)
         (try clear hi)
         refine hK.out _ _ ⟨bc BK287 0, bc BK287 1, bc BK287 2, bc BK287 3, bc BK287 4, bc BK287 5, bc BK287 6, bc BK287 7, bc BK287 8, bc BK288 0, bc BK288 1, bc BK288 2, bc BK288 3, bc BK288 4, bc BK288 5, bc BK289 0, bc BK289 1, bc BK289 2, bc BK289 3, bc BK289 4, bc BK289 5, bc BK289 6, bc BK289 7, bc BK289 8⟩ (fun hHeld => ?_)
         clear hK K
         refine norm_ (a' := ?_) ?_ ?_
         rotate_left
         ·show Act.put _ (some 44) _ = _
          simp only [Act.put, List.setIfInBounds_toArray, List.set_cons_zero, List.set_cons_succ, i64_w, i32_w]
          rfl
         exact norm0_ (hJ2_5_7 (gb298) _ ⟨hHeld, (pk BK269), (pk BK270), (pk BK287), (pk BK288), (pk BK289), (pk BK298), GW298.out, GE298.out, NB269_298.out, NB298_269.out, NB270_298.out, NB298_270.out, NB287_298.out, NB298_287.out, NB288_298.out, NB298_288.out, NB289_298.out, NB298_289.out, (by repeat (first | (with_reducible first | exact HB.out | apply below_alloc | apply pw_below_drewN | apply below_drew1 | refine below_set ?_ GE269.out | refine below_set ?_ GE270.out | refine below_set ?_ GE287.out | refine below_set ?_ GE288.out | refine below_set ?_ GE289.out | refine below_set ?_ GE298.out) | exact HB.out))⟩)
        ·skip
         refine box_step ?hg (N := 10) ?hd (cs := #[.int .i64 0, .int .i64 0]) (t := 30) ?hr ?_; (case hd => rfl); (case hg => rfl); (case hr => first | (go_simp; done) | (go_simp; rfl))
         intro gb297 hg w58 hbox hb
         have BK297 := A0 (hbox)
         have GW297 := A0 ((by rw [hg]; exact (below_size (by repeat (first | (with_reducible first | exact HB.out | apply below_alloc | apply pw_below_drewN | apply below_drew1 | refine below_set ?_ GE269.out | refine below_set ?_ GE270.out | refine below_set ?_ GE287.out | refine below_set ?_ GE288.out | refine below_set ?_ GE289.out | refine below_set ?_ GE298.out) | exact HB.out))) : w.heap.size ≤ gb297))
         have GE297 := GW297
         have NB269_297 := A0 ((ne_lt hg (pk BK269) : gb269 ≠ gb297))
         have NB297_269 := A0 ((ne_gt hg (pk BK269) : gb297 ≠ gb269))
         have NB270_297 := A0 ((ne_lt hg (pk BK270) : gb270 ≠ gb297))
         have NB297_270 := A0 ((ne_gt hg (pk BK270) : gb297 ≠ gb270))
         have NB287_297 := A0 ((ne_lt hg (pk BK287) : gb287 ≠ gb297))
         have NB297_287 := A0 ((ne_gt hg (pk BK287) : gb297 ≠ gb287))
         have NB288_297 := A0 ((ne_lt hg (pk BK288) : gb288 ≠ gb297))
         have NB297_288 := A0 ((ne_gt hg (pk BK288) : gb297 ≠ gb288))
         have NB289_297 := A0 ((ne_lt hg (pk BK289) : gb289 ≠ gb297))
         have NB297_289 := A0 ((ne_gt hg (pk BK289) : gb297 ≠ gb289))
         have NB298_297 := A0 ((ne_lt hg (pk BK298) : gb298 ≠ gb297))
         have NB297_298 := A0 ((ne_gt hg (pk BK298) : gb297 ≠ gb298))
         replace BK269 := A0 (blk_below (g := gb269) (pk BK269) hb)
         replace BK270 := A0 (blk_below (g := gb270) (pk BK270) hb)
         replace BK287 := A0 (blk_below (g := gb287) (pk BK287) hb)
         replace BK288 := A0 (blk_below (g := gb288) (pk BK288) hb)
         replace BK289 := A0 (blk_below (g := gb289) (pk BK289) hb)
         replace BK298 := A0 (blk_below (g := gb298) (pk BK298) hb)
         replace HB := A0 (below_step (by repeat (first | (with_reducible first | exact HB.out | apply below_alloc | apply pw_below_drewN | apply below_drew1 | refine below_set ?_ GE269.out | refine below_set ?_ GE270.out | refine below_set ?_ GE287.out | refine below_set ?_ GE288.out | refine below_set ?_ GE289.out | refine below_set ?_ GE298.out) | exact HB.out)) hb)
         clear hb hbox hg
         refine hK.out _ _ ⟨bc BK287 0, bc BK287 1, bc BK287 2, bc BK287 3, bc BK287 4, bc BK287 5, bc BK287 6, bc BK287 7, bc BK287 8, bc BK288 0, bc BK288 1, bc BK288 2, bc BK288 3, bc BK288 4, bc BK288 5, bc BK289 0, bc BK289 1, bc BK289 2, bc BK289 3, bc BK289 4, bc BK289 5, bc BK289 6, bc BK289 7, bc BK289 8⟩ (fun hHeld => ?_)
         clear hK K
         refine norm_ (a' := ?_) ?_ ?_
         rotate_left
         ·show Act.put _ (some 10) _ = _
          simp only [Act.put, List.setIfInBounds_toArray, List.set_cons_zero, List.set_cons_succ, i64_w, i32_w]
          rfl
         exact norm0_ (hJ2_6_7 (gb297, gb298) _ ⟨hHeld, (pk BK269), (pk BK270), (pk BK287), (pk BK288), (pk BK289), (pk BK297), (pk BK298), GW297.out, GE297.out, NB269_297.out, NB297_269.out, NB270_297.out, NB297_270.out, NB287_297.out, NB297_287.out, NB288_297.out, NB297_288.out, NB289_297.out, NB297_289.out, NB298_297.out, NB297_298.out, GW298.out, GE298.out, NB269_298.out, NB298_269.out, NB270_298.out, NB298_270.out, NB287_298.out, NB298_287.out, NB288_298.out, NB298_288.out, NB289_298.out, NB298_289.out, (by repeat (first | (with_reducible first | exact HB.out | apply below_alloc | apply pw_below_drewN | apply below_drew1 | refine below_set ?_ GE269.out | refine below_set ?_ GE270.out | refine below_set ?_ GE287.out | refine below_set ?_ GE288.out | refine below_set ?_ GE289.out | refine below_set ?_ GE298.out | refine below_set ?_ GE297.out) | exact HB.out))⟩)
      ·skip
       rintro gb297 w57 ⟨hS_, h0_, h1_, h2_, h3_, h4_, h5_, h6_, h7_, h8_, h9_, h10_, h11_, h12_, h13_, h14_, h15_, h16_, h17_, h18_⟩
       have BK297 := A0 h5_
       have GW297 : Aside0 (w.heap.size ≤ gb297) := ⟨h6_⟩
       have GE297 : Aside0 (w.heap.size ≤ gb297) := ⟨h7_⟩
       have NB269_297 : Aside0 (gb269 ≠ gb297) := ⟨h8_⟩
       have NB297_269 : Aside0 (gb297 ≠ gb269) := ⟨h9_⟩
       have NB270_297 : Aside0 (gb270 ≠ gb297) := ⟨h10_⟩
       have NB297_270 : Aside0 (gb297 ≠ gb270) := ⟨h11_⟩
       have NB287_297 : Aside0 (gb287 ≠ gb297) := ⟨h12_⟩
       have NB297_287 : Aside0 (gb297 ≠ gb287) := ⟨h13_⟩
       have NB288_297 : Aside0 (gb288 ≠ gb297) := ⟨h14_⟩
       have NB297_288 : Aside0 (gb297 ≠ gb288) := ⟨h15_⟩
       have NB289_297 : Aside0 (gb289 ≠ gb297) := ⟨h16_⟩
       have NB297_289 : Aside0 (gb297 ≠ gb289) := ⟨h17_⟩
       replace BK269 := A0 h0_
       replace BK270 := A0 h1_
       replace BK287 := A0 h2_
       replace BK288 := A0 h3_
       replace BK289 := A0 h4_
       replace HB : Aside0 (Below w.heap.size w w57) := ⟨h18_⟩
       clear h0_ h1_ h2_ h3_ h4_ h5_ h6_ h7_ h8_ h9_ h10_ h11_ h12_ h13_ h14_ h15_ h16_ h17_ h18_
       have hHeld := hS_
       refine norm_ (a' := ?_) ?_ ?_
       rotate_left
       ·simp only [putAll, Act.put, List.setIfInBounds_toArray, List.set_cons_zero, List.set_cons_succ]
        rfl
       refine two_ (i := 5) (j := 7) (Ni := some 44) (Nj := some 11) #[true, true, true, true, true, true, true, false, false, false] #[true, true, true, true, true, false, true, true, false, false] rfl rfl rfl rfl (two_of HT_.out (by kernel_rfl)) (by decide) (by decide) (fun K hK => ?_) (fun K hK => ?_)
       ·skip
        refine goes_ Try.func16 (by kernel_rfl) rfl #[.agg #[.int .i64 t272, .int .i64 t273, .int .i64 t274, .int .i64 (wrap64 (t275 + t292)), .int .i64 (wrap64 (t276 + t290)), .int .i64 t277, .int .i64 (wrap64 (t278 + t291)), .int .i64 t279, .int .i64 t280], .agg #[.string t281, .int .i64 t282, .int .i64 t283, .int .i64 t284, .int .i64 t285, .int .i64 t286]] (by rfl) rfl rfl (by (try simp only [List.map_toArray, List.map_cons, List.map_nil]); first | done | rfl | (simp only [List.length_drop, List.length_take]; rfl)) ?_
        with_reducible refine (damperlaw10_decide.calls k t272 t273 t274 (wrap64 (t275 + t292)) (wrap64 (t276 + t290)) t277 (wrap64 (t278 + t291)) t279 t280 t281 t282 t283 t284 t285 t286 t295 t296 _ A12.out).mono ?_
        rintro e w58 ⟨rfl, hb⟩
        refine ⟨_, rfl, ?_⟩
        replace BK269 := A0 (blk_below (g := gb269) (pk BK269) hb)
        replace BK270 := A0 (blk_below (g := gb270) (pk BK270) hb)
        replace BK287 := A0 (blk_below (g := gb287) (pk BK287) hb)
        replace BK288 := A0 (blk_below (g := gb288) (pk BK288) hb)
        replace BK289 := A0 (blk_below (g := gb289) (pk BK289) hb)
        replace BK297 := A0 (blk_below (g := gb297) (pk BK297) hb)
        replace HB := A0 (below_step (by repeat (first | (with_reducible first | exact HB.out | apply below_alloc | apply pw_below_drewN | apply below_drew1 | refine below_set ?_ GE269.out | refine below_set ?_ GE270.out | refine below_set ?_ GE287.out | refine below_set ?_ GE288.out | refine below_set ?_ GE289.out | refine below_set ?_ GE297.out) | exact HB.out)) hb)
        (try clear hb)
        (try clear hb2)
        (try clear hk)
        (try clear hi)
        refine hK.out _ _ ⟨bc BK287 0, bc BK287 1, bc BK287 2, bc BK287 3, bc BK287 4, bc BK287 5, bc BK287 6, bc BK287 7, bc BK287 8, bc BK288 0, bc BK288 1, bc BK288 2, bc BK288 3, bc BK288 4, bc BK288 5, bc BK289 0, bc BK289 1, bc BK289 2, bc BK289 3, bc BK289 4, bc BK289 5, bc BK289 6, bc BK289 7, bc BK289 8⟩ (fun hHeld => ?_)
        clear hK K
        refine norm_ (a' := ?_) ?_ ?_
        rotate_left
        ·show Act.put _ (some 44) _ = _
         simp only [Act.put, List.setIfInBounds_toArray, List.set_cons_zero, List.set_cons_succ, i64_w, i32_w]
         rfl
        exact norm0_ (hJ2_5_6 (gb297) _ ⟨hHeld, (pk BK269), (pk BK270), (pk BK287), (pk BK288), (pk BK289), (pk BK297), GW297.out, GE297.out, NB269_297.out, NB297_269.out, NB270_297.out, NB297_270.out, NB287_297.out, NB297_287.out, NB288_297.out, NB297_288.out, NB289_297.out, NB297_289.out, (by repeat (first | (with_reducible first | exact HB.out | apply below_alloc | apply pw_below_drewN | apply below_drew1 | refine below_set ?_ GE269.out | refine below_set ?_ GE270.out | refine below_set ?_ GE287.out | refine below_set ?_ GE288.out | refine below_set ?_ GE289.out | refine below_set ?_ GE297.out) | exact HB.out))⟩)
       ·skip
        refine box_step ?hg (N := 11) ?hd (cs := #[.int .i64 0, .int .i64 0]) (t := 30) ?hr ?_; (case hd => rfl); (case hg => rfl); (case hr => first | (go_simp; done) | (go_simp; rfl))
        intro gb298 hg w58 hbox hb
        have BK298 := A0 (hbox)
        have GW298 := A0 ((by rw [hg]; exact (below_size (by repeat (first | (with_reducible first | exact HB.out | apply below_alloc | apply pw_below_drewN | apply below_drew1 | refine below_set ?_ GE269.out | refine below_set ?_ GE270.out | refine below_set ?_ GE287.out | refine below_set ?_ GE288.out | refine below_set ?_ GE289.out | refine below_set ?_ GE297.out) | exact HB.out))) : w.heap.size ≤ gb298))
        have GE298 := GW298
        have NB269_298 := A0 ((ne_lt hg (pk BK269) : gb269 ≠ gb298))
        have NB298_269 := A0 ((ne_gt hg (pk BK269) : gb298 ≠ gb269))
        have NB270_298 := A0 ((ne_lt hg (pk BK270) : gb270 ≠ gb298))
        have NB298_270 := A0 ((ne_gt hg (pk BK270) : gb298 ≠ gb270))
        have NB287_298 := A0 ((ne_lt hg (pk BK287) : gb287 ≠ gb298))
        have NB298_287 := A0 ((ne_gt hg (pk BK287) : gb298 ≠ gb287))
        have NB288_298 := A0 ((ne_lt hg (pk BK288) : gb288 ≠ gb298))
        have NB298_288 := A0 ((ne_gt hg (pk BK288) : gb298 ≠ gb288))
        have NB289_298 := A0 ((ne_lt hg (pk BK289) : gb289 ≠ gb298))
        have NB298_289 := A0 ((ne_gt hg (pk BK289) : gb298 ≠ gb289))
        have NB297_298 := A0 ((ne_lt hg (pk BK297) : gb297 ≠ gb298))
        have NB298_297 := A0 ((ne_gt hg (pk BK297) : gb298 ≠ gb297))
        replace BK269 := A0 (blk_below (g := gb269) (pk BK269) hb)
        replace BK270 := A0 (blk_below (g := gb270) (pk BK270) hb)
        replace BK287 := A0 (blk_below (g := gb287) (pk BK287) hb)
        replace BK288 := A0 (blk_below (g := gb288) (pk BK288) hb)
        replace BK289 := A0 (blk_below (g := gb289) (pk BK289) hb)
        replace BK297 := A0 (blk_below (g := gb297) (pk BK297) hb)
        replace HB := A0 (below_step (by repeat (first | (with_reducible first | exact HB.out | apply below_alloc | apply pw_below_drewN | apply below_drew1 | refine below_set ?_ GE269.out | refine below_set ?_ GE270.out | refine below_set ?_ GE287.out | refine below_set ?_ GE288.out | refine below_set ?_ GE289.out | refine below_set ?_ GE297.out) | exact HB.out)) hb)
        clear hb hbox hg
        refine hK.out _ _ ⟨bc BK287 0, bc BK287 1, bc BK287 2, bc BK287 3, bc BK287 4, bc BK287 5, bc BK287 6, bc BK287 7, bc BK287 8, bc BK288 0, bc BK288 1, bc BK288 2, bc BK288 3, bc BK288 4, bc BK288 5, bc BK289 0, bc BK289 1, bc BK289 2, bc BK289 3, bc BK289 4, bc BK289 5, bc BK289 6, bc BK289 7, bc BK289 8⟩ (fun hHeld => ?_)
        clear hK K
        refine norm_ (a' := ?_) ?_ ?_
        rotate_left
        ·show Act.put _ (some 11) _ = _
         simp only [Act.put, List.setIfInBounds_toArray, List.set_cons_zero, List.set_cons_succ, i64_w, i32_w]
         rfl
        exact norm0_ (hJ2_6_7 (gb297, gb298) _ ⟨hHeld, (pk BK269), (pk BK270), (pk BK287), (pk BK288), (pk BK289), (pk BK297), (pk BK298), GW297.out, GE297.out, NB269_297.out, NB297_269.out, NB270_297.out, NB297_270.out, NB287_297.out, NB297_287.out, NB288_297.out, NB297_288.out, NB289_297.out, NB297_289.out, NB298_297.out, NB297_298.out, GW298.out, GE298.out, NB269_298.out, NB298_269.out, NB270_298.out, NB298_270.out, NB287_298.out, NB298_287.out, NB288_298.out, NB298_288.out, NB289_298.out, NB298_289.out, (by repeat (first | (with_reducible first | exact HB.out | apply below_alloc | apply pw_below_drewN | apply below_drew1 | refine below_set ?_ GE269.out | refine below_set ?_ GE270.out | refine below_set ?_ GE287.out | refine below_set ?_ GE288.out | refine below_set ?_ GE289.out | refine below_set ?_ GE297.out | refine below_set ?_ GE298.out) | exact HB.out))⟩)
     ·skip
      rintro _ w57 ⟨hS_, h0_, h1_, h2_, h3_, h4_, h5_⟩
      replace BK269 := A0 h0_
      replace BK270 := A0 h1_
      replace BK287 := A0 h2_
      replace BK288 := A0 h3_
      replace BK289 := A0 h4_
      replace HB : Aside0 (Below w.heap.size w w57) := ⟨h5_⟩
      clear h0_ h1_ h2_ h3_ h4_ h5_
      have hHeld := hS_
      refine norm_ (a' := ?_) ?_ ?_
      rotate_left
      ·simp only [putAll, Act.put, List.setIfInBounds_toArray, List.set_cons_zero, List.set_cons_succ]
       rfl
      refine two_ (i := 6) (j := 7) (Ni := some 10) (Nj := some 11) #[true, true, true, true, true, true, true, false, false, false] #[true, true, true, true, true, true, false, true, false, false] rfl rfl rfl rfl (two_of HT_.out (by kernel_rfl)) (by decide) (by decide) (fun K hK => ?_) (fun K hK => ?_)
      ·skip
       refine box_step ?hg (N := 10) ?hd (cs := #[.int .i64 0, .int .i64 0]) (t := 30) ?hr ?_; (case hd => rfl); (case hg => rfl); (case hr => first | (go_simp; done) | (go_simp; rfl))
       intro gb297 hg w58 hbox hb
       have BK297 := A0 (hbox)
       have GW297 := A0 ((by rw [hg]; exact (below_size (by repeat (first | (with_reducible first | exact HB.out | apply below_alloc | apply pw_below_drewN | apply below_drew1 | refine below_set ?_ GE269.out | refine below_set ?_ GE270.out | refine below_set ?_ GE287.out | refine below_set ?_ GE288.out | refine below_set ?_ GE289.out) | exact HB.out))) : w.heap.size ≤ gb297))
       have GE297 := GW297
       have NB269_297 := A0 ((ne_lt hg (pk BK269) : gb269 ≠ gb297))
       have NB297_269 := A0 ((ne_gt hg (pk BK269) : gb297 ≠ gb269))
       have NB270_297 := A0 ((ne_lt hg (pk BK270) : gb270 ≠ gb297))
       have NB297_270 := A0 ((ne_gt hg (pk BK270) : gb297 ≠ gb270))
       have NB287_297 := A0 ((ne_lt hg (pk BK287) : gb287 ≠ gb297))
       have NB297_287 := A0 ((ne_gt hg (pk BK287) : gb297 ≠ gb287))
       have NB288_297 := A0 ((ne_lt hg (pk BK288) : gb288 ≠ gb297))
       have NB297_288 := A0 ((ne_gt hg (pk BK288) : gb297 ≠ gb288))
       have NB289_297 := A0 ((ne_lt hg (pk BK289) : gb289 ≠ gb297))
       have NB297_289 := A0 ((ne_gt hg (pk BK289) : gb297 ≠ gb289))
       replace BK269 := A0 (blk_below (g := gb269) (pk BK269) hb)
       replace BK270 := A0 (blk_below (g := gb270) (pk BK270) hb)
       replace BK287 := A0 (blk_below (g := gb287) (pk BK287) hb)
       replace BK288 := A0 (blk_below (g := gb288) (pk BK288) hb)
       replace BK289 := A0 (blk_below (g := gb289) (pk BK289) hb)
       replace HB := A0 (below_step (by repeat (first | (with_reducible first | exact HB.out | apply below_alloc | apply pw_below_drewN | apply below_drew1 | refine below_set ?_ GE269.out | refine below_set ?_ GE270.out | refine below_set ?_ GE287.out | refine below_set ?_ GE288.out | refine below_set ?_ GE289.out) | exact HB.out)) hb)
       clear hb hbox hg
       refine hK.out _ _ ⟨bc BK287 0, bc BK287 1, bc BK287 2, bc BK287 3, bc BK287 4, bc BK287 5, bc BK287 6, bc BK287 7, bc BK287 8, bc BK288 0, bc BK288 1, bc BK288 2, bc BK288 3, bc BK288 4, bc BK288 5, bc BK289 0, bc BK289 1, bc BK289 2, bc BK289 3, bc BK289 4, bc BK289 5, bc BK289 6, bc BK289 7, bc BK289 8⟩ (fun hHeld => ?_)
       clear hK K
       refine norm_ (a' := ?_) ?_ ?_
       rotate_left
       ·show Act.put _ (some 10) _ = _
        simp only [Act.put, List.setIfInBounds_toArray, List.set_cons_zero, List.set_cons_succ, i64_w, i32_w]
        rfl
       exact norm0_ (hJ2_5_6 (gb297) _ ⟨hHeld, (pk BK269), (pk BK270), (pk BK287), (pk BK288), (pk BK289), (pk BK297), GW297.out, GE297.out, NB269_297.out, NB297_269.out, NB270_297.out, NB297_270.out, NB287_297.out, NB297_287.out, NB288_297.out, NB297_288.out, NB289_297.out, NB297_289.out, (by repeat (first | (with_reducible first | exact HB.out | apply below_alloc | apply pw_below_drewN | apply below_drew1 | refine below_set ?_ GE269.out | refine below_set ?_ GE270.out | refine below_set ?_ GE287.out | refine below_set ?_ GE288.out | refine below_set ?_ GE289.out | refine below_set ?_ GE297.out) | exact HB.out))⟩)
      ·skip
       refine box_step ?hg (N := 11) ?hd (cs := #[.int .i64 0, .int .i64 0]) (t := 30) ?hr ?_; (case hd => rfl); (case hg => rfl); (case hr => first | (go_simp; done) | (go_simp; rfl))
       intro gb298 hg w58 hbox hb
       have BK298 := A0 (hbox)
       have GW298 := A0 ((by rw [hg]; exact (below_size (by repeat (first | (with_reducible first | exact HB.out | apply below_alloc | apply pw_below_drewN | apply below_drew1 | refine below_set ?_ GE269.out | refine below_set ?_ GE270.out | refine below_set ?_ GE287.out | refine below_set ?_ GE288.out | refine below_set ?_ GE289.out) | exact HB.out))) : w.heap.size ≤ gb298))
       have GE298 := GW298
       have NB269_298 := A0 ((ne_lt hg (pk BK269) : gb269 ≠ gb298))
       have NB298_269 := A0 ((ne_gt hg (pk BK269) : gb298 ≠ gb269))
       have NB270_298 := A0 ((ne_lt hg (pk BK270) : gb270 ≠ gb298))
       have NB298_270 := A0 ((ne_gt hg (pk BK270) : gb298 ≠ gb270))
       have NB287_298 := A0 ((ne_lt hg (pk BK287) : gb287 ≠ gb298))
       have NB298_287 := A0 ((ne_gt hg (pk BK287) : gb298 ≠ gb287))
       have NB288_298 := A0 ((ne_lt hg (pk BK288) : gb288 ≠ gb298))
       have NB298_288 := A0 ((ne_gt hg (pk BK288) : gb298 ≠ gb288))
       have NB289_298 := A0 ((ne_lt hg (pk BK289) : gb289 ≠ gb298))
       have NB298_289 := A0 ((ne_gt hg (pk BK289) : gb298 ≠ gb289))
       replace BK269 := A0 (blk_below (g := gb269) (pk BK269) hb)
       replace BK270 := A0 (blk_below (g := gb270) (pk BK270) hb)
       replace BK287 := A0 (blk_below (g := gb287) (pk BK287) hb)
       replace BK288 := A0 (blk_below (g := gb288) (pk BK288) hb)
       replace BK289 := A0 (blk_below (g := gb289) (pk BK289) hb)
       replace HB := A0 (below_step (by repeat (first | (with_reducible first | exact HB.out | apply below_alloc | apply pw_below_drewN | apply below_drew1 | refine below_set ?_ GE269.out | refine below_set ?_ GE270.out | refine below_set ?_ GE287.out | refine below_set ?_ GE288.out | refine below_set ?_ GE289.out) | exact HB.out)) hb)
       clear hb hbox hg
       refine hK.out _ _ ⟨bc BK287 0, bc BK287 1, bc BK287 2, bc BK287 3, bc BK287 4, bc BK287 5, bc BK287 6, bc BK287 7, bc BK287 8, bc BK288 0, bc BK288 1, bc BK288 2, bc BK288 3, bc BK288 4, bc BK288 5, bc BK289 0, bc BK289 1, bc BK289 2, bc BK289 3, bc BK289 4, bc BK289 5, bc BK289 6, bc BK289 7, bc BK289 8⟩ (fun hHeld => ?_)
       clear hK K
       refine norm_ (a' := ?_) ?_ ?_
       rotate_left
       ·show Act.put _ (some 11) _ = _
        simp only [Act.put, List.setIfInBounds_toArray, List.set_cons_zero, List.set_cons_succ, i64_w, i32_w]
        rfl
       exact norm0_ (hJ2_5_7 (gb298) _ ⟨hHeld, (pk BK269), (pk BK270), (pk BK287), (pk BK288), (pk BK289), (pk BK298), GW298.out, GE298.out, NB269_298.out, NB298_269.out, NB270_298.out, NB298_270.out, NB287_298.out, NB298_287.out, NB288_298.out, NB298_288.out, NB289_298.out, NB298_289.out, (by repeat (first | (with_reducible first | exact HB.out | apply below_alloc | apply pw_below_drewN | apply below_drew1 | refine below_set ?_ GE269.out | refine below_set ?_ GE270.out | refine below_set ?_ GE287.out | refine below_set ?_ GE288.out | refine below_set ?_ GE289.out | refine below_set ?_ GE298.out) | exact HB.out))⟩)
    ·skip
     rintro ⟨gb297, gb298⟩ w58 ⟨hS_, h0_, h1_, h2_, h3_, h4_, h5_, h6_, h7_, h8_, h9_, h10_, h11_, h12_, h13_, h14_, h15_, h16_, h17_, h18_, h19_, h20_, h21_, h22_, h23_, h24_, h25_, h26_, h27_, h28_, h29_, h30_, h31_, h32_, h33_⟩
     have BK297 : Aside0 (w58.heap[gb297]? = some (.cells #[.int .i64 0, .int .i64 0] 30 (0, 0))) := ⟨h5_⟩
     have BK298 : Aside0 (w58.heap[gb298]? = some (.cells #[.int .i64 0, .int .i64 0] 30 (0, 0))) := ⟨h6_⟩
     have GW297 : Aside0 (w.heap.size ≤ gb297) := ⟨h7_⟩
     have GE297 : Aside0 (w.heap.size ≤ gb297) := ⟨h8_⟩
     have NB269_297 : Aside0 (gb269 ≠ gb297) := ⟨h9_⟩
     have NB297_269 : Aside0 (gb297 ≠ gb269) := ⟨h10_⟩
     have NB270_297 : Aside0 (gb270 ≠ gb297) := ⟨h11_⟩
     have NB297_270 : Aside0 (gb297 ≠ gb270) := ⟨h12_⟩
     have NB287_297 : Aside0 (gb287 ≠ gb297) := ⟨h13_⟩
     have NB297_287 : Aside0 (gb297 ≠ gb287) := ⟨h14_⟩
     have NB288_297 : Aside0 (gb288 ≠ gb297) := ⟨h15_⟩
     have NB297_288 : Aside0 (gb297 ≠ gb288) := ⟨h16_⟩
     have NB289_297 : Aside0 (gb289 ≠ gb297) := ⟨h17_⟩
     have NB297_289 : Aside0 (gb297 ≠ gb289) := ⟨h18_⟩
     have NB298_297 : Aside0 (gb298 ≠ gb297) := ⟨h19_⟩
     have NB297_298 : Aside0 (gb297 ≠ gb298) := ⟨h20_⟩
     have GW298 : Aside0 (w.heap.size ≤ gb298) := ⟨h21_⟩
     have GE298 : Aside0 (w.heap.size ≤ gb298) := ⟨h22_⟩
     have NB269_298 : Aside0 (gb269 ≠ gb298) := ⟨h23_⟩
     have NB298_269 : Aside0 (gb298 ≠ gb269) := ⟨h24_⟩
     have NB270_298 : Aside0 (gb270 ≠ gb298) := ⟨h25_⟩
     have NB298_270 : Aside0 (gb298 ≠ gb270) := ⟨h26_⟩
     have NB287_298 : Aside0 (gb287 ≠ gb298) := ⟨h27_⟩
     have NB298_287 : Aside0 (gb298 ≠ gb287) := ⟨h28_⟩
     have NB288_298 : Aside0 (gb288 ≠ gb298) := ⟨h29_⟩
     have NB298_288 : Aside0 (gb298 ≠ gb288) := ⟨h30_⟩
     have NB289_298 : Aside0 (gb289 ≠ gb298) := ⟨h31_⟩
     have NB298_289 : Aside0 (gb298 ≠ gb289) := ⟨h32_⟩
     replace BK269 := A0 h0_
     replace BK270 := A0 h1_
     replace BK287 := A0 h2_
     replace BK288 := A0 h3_
     replace BK289 := A0 h4_
     replace HB : Aside0 (Below w.heap.size w w58) := ⟨h33_⟩
     clear h0_ h1_ h2_ h3_ h4_ h5_ h6_ h7_ h8_ h9_ h10_ h11_ h12_ h13_ h14_ h15_ h16_ h17_ h18_ h19_ h20_ h21_ h22_ h23_ h24_ h25_ h26_ h27_ h28_ h29_ h30_ h31_ h32_ h33_
     have hHeld := hS_
     refine norm_ (a' := ?_) ?_ ?_
     rotate_left
     ·simp only [putAll, Act.put, List.setIfInBounds_toArray, List.set_cons_zero, List.set_cons_succ]
      rfl
     refine one_ (i := 5) (N := some 44) #[true, true, true, true, true, true, true, true, false, false] rfl rfl (one_of HT_.out (by kernel_rfl)) (by decide) (fun K hK => ?_)
     refine goes_ Try.func16 (by kernel_rfl) rfl #[.agg #[.int .i64 t272, .int .i64 t273, .int .i64 t274, .int .i64 (wrap64 (t275 + t292)), .int .i64 (wrap64 (t276 + t290)), .int .i64 t277, .int .i64 (wrap64 (t278 + t291)), .int .i64 t279, .int .i64 t280], .agg #[.string t281, .int .i64 t282, .int .i64 t283, .int .i64 t284, .int .i64 t285, .int .i64 t286]] (by rfl) rfl rfl (by (try simp only [List.map_toArray, List.map_cons, List.map_nil]); first | done | rfl | (simp only [List.length_drop, List.length_take]; rfl)) ?_
     with_reducible refine (damperlaw10_decide.calls k t272 t273 t274 (wrap64 (t275 + t292)) (wrap64 (t276 + t290)) t277 (wrap64 (t278 + t291)) t279 t280 t281 t282 t283 t284 t285 t286 t295 t296 _ A12.out).mono ?_
     rintro e w59 ⟨rfl, hb⟩
     refine ⟨_, rfl, ?_⟩
     replace BK269 := A0 (blk_below (g := gb269) (pk BK269) hb)
     replace BK270 := A0 (blk_below (g := gb270) (pk BK270) hb)
     replace BK287 := A0 (blk_below (g := gb287) (pk BK287) hb)
     replace BK288 := A0 (blk_below (g := gb288) (pk BK288) hb)
     replace BK289 := A0 (blk_below (g := gb289) (pk BK289) hb)
     replace BK297 := A0 (blk_below (g := gb297) (pk BK297) hb)
     replace BK298 := A0 (blk_below (g := gb298) (pk BK298) hb)
     replace HB := A0 (below_step (by repeat (first | (with_reducible first | exact HB.out | apply below_alloc | apply pw_below_drewN | apply below_drew1 | refine below_set ?_ GE269.out | refine below_set ?_ GE270.out | refine below_set ?_ GE287.out | refine below_set ?_ GE288.out | refine below_set ?_ GE289.out | refine below_set ?_ GE297.out | refine below_set ?_ GE298.out) | exact HB.out)) hb)
     (try clear hb)
     (try clear hb2)
     (try clear hk)
     (try clear hi)
     refine hK.out _ _ ⟨bc BK287 0, bc BK287 1, bc BK287 2, bc BK287 3, bc BK287 4, bc BK287 5, bc BK287 6, bc BK287 7, bc BK287 8, bc BK288 0, bc BK288 1, bc BK288 2, bc BK288 3, bc BK288 4, bc BK288 5, bc BK289 0, bc BK289 1, bc BK289 2, bc BK289 3, bc BK289 4, bc BK289 5, bc BK289 6, bc BK289 7, bc BK289 8⟩ (fun hHeld => ?_)
     clear hK K
     refine norm_ (a' := ?_) ?_ ?_
     rotate_left
     ·show Act.put _ (some 44) _ = _
      simp only [Act.put, List.setIfInBounds_toArray, List.set_cons_zero, List.set_cons_succ, i64_w, i32_w]
      rfl
     exact norm0_ (hJ2_5_6_7 (gb297, gb298) _ ⟨hHeld, (pk BK269), (pk BK270), (pk BK287), (pk BK288), (pk BK289), (pk BK297), (pk BK298), GW297.out, GE297.out, NB269_297.out, NB297_269.out, NB270_297.out, NB297_270.out, NB287_297.out, NB297_287.out, NB288_297.out, NB297_288.out, NB289_297.out, NB297_289.out, NB298_297.out, NB297_298.out, GW298.out, GE298.out, NB269_298.out, NB298_269.out, NB270_298.out, NB298_270.out, NB287_298.out, NB298_287.out, NB288_298.out, NB298_288.out, NB289_298.out, NB298_289.out, (by repeat (first | (with_reducible first | exact HB.out | apply below_alloc | apply pw_below_drewN | apply below_drew1 | refine below_set ?_ GE269.out | refine below_set ?_ GE270.out | refine below_set ?_ GE287.out | refine below_set ?_ GE288.out | refine below_set ?_ GE289.out | refine below_set ?_ GE297.out | refine below_set ?_ GE298.out) | exact HB.out))⟩)
   ·skip
    rintro gb298 w58 ⟨hS_, h0_, h1_, h2_, h3_, h4_, h5_, h6_, h7_, h8_, h9_, h10_, h11_, h12_, h13_, h14_, h15_, h16_, h17_, h18_⟩
    have BK298 := A0 h5_
    have GW298 : Aside0 (w.heap.size ≤ gb298) := ⟨h6_⟩
    have GE298 : Aside0 (w.heap.size ≤ gb298) := ⟨h7_⟩
    have NB269_298 : Aside0 (gb269 ≠ gb298) := ⟨h8_⟩
    have NB298_269 : Aside0 (gb298 ≠ gb269) := ⟨h9_⟩
    have NB270_298 : Aside0 (gb270 ≠ gb298) := ⟨h10_⟩
    have NB298_270 : Aside0 (gb298 ≠ gb270) := ⟨h11_⟩
    have NB287_298 : Aside0 (gb287 ≠ gb298) := ⟨h12_⟩
    have NB298_287 : Aside0 (gb298 ≠ gb287) := ⟨h13_⟩
    have NB288_298 : Aside0 (gb288 ≠ gb298) := ⟨h14_⟩
    have NB298_288 : Aside0 (gb298 ≠ gb288) := ⟨h15_⟩
    have NB289_298 : Aside0 (gb289 ≠ gb298) := ⟨h16_⟩
    have NB298_289 : Aside0 (gb298 ≠ gb289) := ⟨h17_⟩
    replace BK269 := A0 h0_
    replace BK270 := A0 h1_
    replace BK287 := A0 h2_
    replace BK288 := A0 h3_
    replace BK289 := A0 h4_
    replace HB : Aside0 (Below w.heap.size w w58) := ⟨h18_⟩
    clear h0_ h1_ h2_ h3_ h4_ h5_ h6_ h7_ h8_ h9_ h10_ h11_ h12_ h13_ h14_ h15_ h16_ h17_ h18_
    have hHeld := hS_
    refine norm_ (a' := ?_) ?_ ?_
    rotate_left
    ·simp only [putAll, Act.put, List.setIfInBounds_toArray, List.set_cons_zero, List.set_cons_succ]
     rfl
    refine one_ (i := 6) (N := some 10) #[true, true, true, true, true, true, true, true, false, false] rfl rfl (one_of HT_.out (by kernel_rfl)) (by decide) (fun K hK => ?_)
    refine box_step ?hg (N := 10) ?hd (cs := #[.int .i64 0, .int .i64 0]) (t := 30) ?hr ?_; (case hd => rfl); (case hg => rfl); (case hr => first | (go_simp; done) | (go_simp; rfl))
    intro gb297 hg w59 hbox hb
    have BK297 := A0 (hbox)
    have GW297 := A0 ((by rw [hg]; exact (below_size (by repeat (first | (with_reducible first | exact HB.out | apply below_alloc | apply pw_below_drewN | apply below_drew1 | refine below_set ?_ GE269.out | refine below_set ?_ GE270.out | refine below_set ?_ GE287.out | refine below_set ?_ GE288.out | refine below_set ?_ GE289.out | refine below_set ?_ GE298.out) | exact HB.out))) : w.heap.size ≤ gb297))
    have GE297 := GW297
    have NB269_297 := A0 ((ne_lt hg (pk BK269) : gb269 ≠ gb297))
    have NB297_269 := A0 ((ne_gt hg (pk BK269) : gb297 ≠ gb269))
    have NB270_297 := A0 ((ne_lt hg (pk BK270) : gb270 ≠ gb297))
    have NB297_270 := A0 ((ne_gt hg (pk BK270) : gb297 ≠ gb270))
    have NB287_297 := A0 ((ne_lt hg (pk BK287) : gb287 ≠ gb297))
    have NB297_287 := A0 ((ne_gt hg (pk BK287) : gb297 ≠ gb287))
    have NB288_297 := A0 ((ne_lt hg (pk BK288) : gb288 ≠ gb297))
    have NB297_288 := A0 ((ne_gt hg (pk BK288) : gb297 ≠ gb288))
    have NB289_297 := A0 ((ne_lt hg (pk BK289) : gb289 ≠ gb297))
    have NB297_289 := A0 ((ne_gt hg (pk BK289) : gb297 ≠ gb289))
    have NB298_297 := A0 ((ne_lt hg (pk BK298) : gb298 ≠ gb297))
    have NB297_298 := A0 ((ne_gt hg (pk BK298) : gb297 ≠ gb298))
    replace BK269 := A0 (blk_below (g := gb269) (pk BK269) hb)
    replace BK270 := A0 (blk_below (g := gb270) (pk BK270) hb)
    replace BK287 := A0 (blk_below (g := gb287) (pk BK287) hb)
    replace BK288 := A0 (blk_below (g := gb288) (pk BK288) hb)
    replace BK289 := A0 (blk_below (g := gb289) (pk BK289) hb)
    replace BK298 := A0 (blk_below (g := gb298) (pk BK298) hb)
    replace HB := A0 (below_step (by repeat (first | (with_reducible first | exact HB.out | apply below_alloc | apply pw_below_drewN | apply below_drew1 | refine below_set ?_ GE269.out | refine below_set ?_ GE270.out | refine below_set ?_ GE287.out | refine below_set ?_ GE288.out | refine below_set ?_ GE289.out | refine below_set ?_ GE298.out) | exact HB.out)) hb)
    clear hb hbox hg
    refine hK.out _ _ ⟨bc BK287 0, bc BK287 1, bc BK287 2, bc BK287 3, bc BK287 4, bc BK287 5, bc BK287 6, bc BK287 7, bc BK287 8, bc BK288 0, bc BK288 1, bc BK288 2, bc BK288 3, bc BK288 4, bc BK288 5, bc BK289 0, bc BK289 1, bc BK289 2, bc BK289 3, bc BK289 4, bc BK289 5, bc BK289 6, bc BK289 7, bc BK289 8⟩ (fun hHeld => ?_)
    clear hK K
    refine norm_ (a' := ?_) ?_ ?_
    rotate_left
    ·show Act.put _ (some 10) _ = _
     simp only [Act.put, List.setIfInBounds_toArray, List.set_cons_zero, List.set_cons_succ, i64_w, i32_w]
     rfl
    exact norm0_ (hJ2_5_6_7 (gb297, gb298) _ ⟨hHeld, (pk BK269), (pk BK270), (pk BK287), (pk BK288), (pk BK289), (pk BK297), (pk BK298), GW297.out, GE297.out, NB269_297.out, NB297_269.out, NB270_297.out, NB297_270.out, NB287_297.out, NB297_287.out, NB288_297.out, NB297_288.out, NB289_297.out, NB297_289.out, NB298_297.out, NB297_298.out, GW298.out, GE298.out, NB269_298.out, NB298_269.out, NB270_298.out, NB298_270.out, NB287_298.out, NB298_287.out, NB288_298.out, NB298_288.out, NB289_298.out, NB298_289.out, (by repeat (first | (with_reducible first | exact HB.out | apply below_alloc | apply pw_below_drewN | apply below_drew1 | refine below_set ?_ GE269.out | refine below_set ?_ GE270.out | refine below_set ?_ GE287.out | refine below_set ?_ GE288.out | refine below_set ?_ GE289.out | refine below_set ?_ GE298.out | refine below_set ?_ GE297.out) | exact HB.out))⟩)
  ·skip
   rintro gb297 w58 ⟨hS_, h0_, h1_, h2_, h3_, h4_, h5_, h6_, h7_, h8_, h9_, h10_, h11_, h12_, h13_, h14_, h15_, h16_, h17_, h18_⟩
   have BK297 := A0 h5_
   have GW297 : Aside0 (w.heap.size ≤ gb297) := ⟨h6_⟩
   have GE297 : Aside0 (w.heap.size ≤ gb297) := ⟨h7_⟩
   have NB269_297 : Aside0 (gb269 ≠ gb297) := ⟨h8_⟩
   have NB297_269 : Aside0 (gb297 ≠ gb269) := ⟨h9_⟩
   have NB270_297 : Aside0 (gb270 ≠ gb297) := ⟨h10_⟩
   have NB297_270 : Aside0 (gb297 ≠ gb270) := ⟨h11_⟩
   have NB287_297 : Aside0 (gb287 ≠ gb297) := ⟨h12_⟩
   have NB297_287 : Aside0 (gb297 ≠ gb287) := ⟨h13_⟩
   have NB288_297 : Aside0 (gb288 ≠ gb297) := ⟨h14_⟩
   have NB297_288 : Aside0 (gb297 ≠ gb288) := ⟨h15_⟩
   have NB289_297 : Aside0 (gb289 ≠ gb297) := ⟨h16_⟩
   have NB297_289 : Aside0 (gb297 ≠ gb289) := ⟨h17_⟩
   replace BK269 := A0 h0_
   replace BK270 := A0 h1_
   replace BK287 := A0 h2_
   replace BK288 := A0 h3_
   replace BK289 := A0 h4_
   replace HB : Aside0 (Below w.heap.size w w58) := ⟨h18_⟩
   clear h0_ h1_ h2_ h3_ h4_ h5_ h6_ h7_ h8_ h9_ h10_ h11_ h12_ h13_ h14_ h15_ h16_ h17_ h18_
   have hHeld := hS_
   refine norm_ (a' := ?_) ?_ ?_
   rotate_left
   ·simp only [putAll, Act.put, List.setIfInBounds_toArray, List.set_cons_zero, List.set_cons_succ]
    rfl
   refine one_ (i := 7) (N := some 11) #[true, true, true, true, true, true, true, true, false, false] rfl rfl (one_of HT_.out (by kernel_rfl)) (by decide) (fun K hK => ?_)
   refine box_step ?hg (N := 11) ?hd (cs := #[.int .i64 0, .int .i64 0]) (t := 30) ?hr ?_; (case hd => rfl); (case hg => rfl); (case hr => first | (go_simp; done) | (go_simp; rfl))
   intro gb298 hg w59 hbox hb
   have BK298 := A0 (hbox)
   have GW298 := A0 ((by rw [hg]; exact (below_size (by repeat (first | (with_reducible first | exact HB.out | apply below_alloc | apply pw_below_drewN | apply below_drew1 | refine below_set ?_ GE269.out | refine below_set ?_ GE270.out | refine below_set ?_ GE287.out | refine below_set ?_ GE288.out | refine below_set ?_ GE289.out | refine below_set ?_ GE297.out) | exact HB.out))) : w.heap.size ≤ gb298))
   have GE298 := GW298
   have NB269_298 := A0 ((ne_lt hg (pk BK269) : gb269 ≠ gb298))
   have NB298_269 := A0 ((ne_gt hg (pk BK269) : gb298 ≠ gb269))
   have NB270_298 := A0 ((ne_lt hg (pk BK270) : gb270 ≠ gb298))
   have NB298_270 := A0 ((ne_gt hg (pk BK270) : gb298 ≠ gb270))
   have NB287_298 := A0 ((ne_lt hg (pk BK287) : gb287 ≠ gb298))
   have NB298_287 := A0 ((ne_gt hg (pk BK287) : gb298 ≠ gb287))
   have NB288_298 := A0 ((ne_lt hg (pk BK288) : gb288 ≠ gb298))
   have NB298_288 := A0 ((ne_gt hg (pk BK288) : gb298 ≠ gb288))
   have NB289_298 := A0 ((ne_lt hg (pk BK289) : gb289 ≠ gb298))
   have NB298_289 := A0 ((ne_gt hg (pk BK289) : gb298 ≠ gb289))
   have NB297_298 := A0 ((ne_lt hg (pk BK297) : gb297 ≠ gb298))
   have NB298_297 := A0 ((ne_gt hg (pk BK297) : gb298 ≠ gb297))
   replace BK269 := A0 (blk_below (g := gb269) (pk BK269) hb)
   replace BK270 := A0 (blk_below (g := gb270) (pk BK270) hb)
   replace BK287 := A0 (blk_below (g := gb287) (pk BK287) hb)
   replace BK288 := A0 (blk_below (g := gb288) (pk BK288) hb)
   replace BK289 := A0 (blk_below (g := gb289) (pk BK289) hb)
   replace BK297 := A0 (blk_below (g := gb297) (pk BK297) hb)
   replace HB := A0 (below_step (by repeat (first | (with_reducible first | exact HB.out | apply below_alloc | apply pw_below_drewN | apply below_drew1 | refine below_set ?_ GE269.out | refine below_set ?_ GE270.out | refine below_set ?_ GE287.out | refine below_set ?_ GE288.out | refine below_set ?_ GE289.out | refine below_set ?_ GE297.out) | exact HB.out)) hb)
   clear hb hbox hg
   refine hK.out _ _ ⟨bc BK287 0, bc BK287 1, bc BK287 2, bc BK287 3, bc BK287 4, bc BK287 5, bc BK287 6, bc BK287 7, bc BK287 8, bc BK288 0, bc BK288 1, bc BK288 2, bc BK288 3, bc BK288 4, bc BK288 5, bc BK289 0, bc BK289 1, bc BK289 2, bc BK289 3, bc BK289 4, bc BK289 5, bc BK289 6, bc BK289 7, bc BK289 8⟩ (fun hHeld => ?_)
   clear hK K
   refine norm_ (a' := ?_) ?_ ?_
   rotate_left
   ·show Act.put _ (some 11) _ = _
    simp only [Act.put, List.setIfInBounds_toArray, List.set_cons_zero, List.set_cons_succ, i64_w, i32_w]
    rfl
   exact norm0_ (hJ2_5_6_7 (gb297, gb298) _ ⟨hHeld, (pk BK269), (pk BK270), (pk BK287), (pk BK288), (pk BK289), (pk BK297), (pk BK298), GW297.out, GE297.out, NB269_297.out, NB297_269.out, NB270_297.out, NB297_270.out, NB287_297.out, NB297_287.out, NB288_297.out, NB297_288.out, NB289_297.out, NB297_289.out, NB298_297.out, NB297_298.out, GW298.out, GE298.out, NB269_298.out, NB298_269.out, NB270_298.out, NB298_270.out, NB287_298.out, NB298_287.out, NB288_298.out, NB298_288.out, NB289_298.out, NB298_289.out, (by repeat (first | (with_reducible first | exact HB.out | apply below_alloc | apply pw_below_drewN | apply below_drew1 | refine below_set ?_ GE269.out | refine below_set ?_ GE270.out | refine below_set ?_ GE287.out | refine below_set ?_ GE288.out | refine below_set ?_ GE289.out | refine below_set ?_ GE297.out | refine below_set ?_ GE298.out) | exact HB.out))⟩)
 ·replace c5 := Bool.eq_false_iff.mpr c5
  subst c5
  have H1 : (some false) = some r := by rw [if_neg (show ¬ (false = true) by decide)] at H; exact H
  clear H
  have H := H1
  clear H1
  exact absurd (Option.some.inj H) (by rw [hr0_.out]; decide)

/-- THE ONE PURE STATEMENT of damperlaw10_ScaleMore: yours. -/
def damperlaw10_ScaleMore.Pure : Prop := ∀ (a0_0 : Int) (a0_1 : Int) (a0_2 : Int) (a0_3 : Int) (a0_4 : Int) (a0_5 : Int) (a0_6 : Int) (a0_7 : Int) (a0_8 : Int) (a1_0 : ByteArray) (a1_1 : Int) (a1_2 : Int) (a1_3 : Int) (a1_4 : Int) (a1_5 : Int) (a2 : Int), ((Lit.int .i64 a0_0).wf = true) → ((Lit.int .i64 a0_1).wf = true) → ((Lit.int .i64 a0_2).wf = true) → ((Lit.int .i64 a0_3).wf = true) → ((Lit.int .i64 a0_4).wf = true) → ((Lit.int .i64 a0_5).wf = true) → ((Lit.int .i64 a0_6).wf = true) → ((Lit.int .i64 a0_7).wf = true) → ((Lit.int .i64 a0_8).wf = true) → (a1_0.size ≤ maxLen) → ((Lit.int .i64 a1_1).wf = true) → ((Lit.int .i64 a1_2).wf = true) → ((Lit.int .i64 a1_3).wf = true) → ((Lit.int .i64 a1_4).wf = true) → ((Lit.int .i64 a1_5).wf = true) → ((Lit.int .i64 a2).wf = true) → ∃ k, damperlaw10_ScaleMore.f k a0_0 a0_1 a0_2 a0_3 a0_4 a0_5 a0_6 a0_7 a0_8 a1_0 a1_1 a1_2 a1_3 a1_4 a1_5 a2 = some true
theorem damperlaw10_ScaleMore.walk (P : damperlaw10_ScaleMore.Pure) (a0_0 : Int) (a0_1 : Int) (a0_2 : Int) (a0_3 : Int) (a0_4 : Int) (a0_5 : Int) (a0_6 : Int) (a0_7 : Int) (a0_8 : Int) (a1_0 : ByteArray) (a1_1 : Int) (a1_2 : Int) (a1_3 : Int) (a1_4 : Int) (a1_5 : Int) (a2 : Int) (w : World) (w0_0 : (Lit.int .i64 a0_0).wf = true) (w0_1 : (Lit.int .i64 a0_1).wf = true) (w0_2 : (Lit.int .i64 a0_2).wf = true) (w0_3 : (Lit.int .i64 a0_3).wf = true) (w0_4 : (Lit.int .i64 a0_4).wf = true) (w0_5 : (Lit.int .i64 a0_5).wf = true) (w0_6 : (Lit.int .i64 a0_6).wf = true) (w0_7 : (Lit.int .i64 a0_7).wf = true) (w0_8 : (Lit.int .i64 a0_8).wf = true) (w1_0 : a1_0.size ≤ maxLen) (w1_1 : (Lit.int .i64 a1_1).wf = true) (w1_2 : (Lit.int .i64 a1_2).wf = true) (w1_3 : (Lit.int .i64 a1_3).wf = true) (w1_4 : (Lit.int .i64 a1_4).wf = true) (w1_5 : (Lit.int .i64 a1_5).wf = true) (w2 : (Lit.int .i64 a2).wf = true)  :
    Calls Try.prog 7 #[.agg #[.int .i64 a0_0, .int .i64 a0_1, .int .i64 a0_2, .int .i64 a0_3, .int .i64 a0_4, .int .i64 a0_5, .int .i64 a0_6, .int .i64 a0_7, .int .i64 a0_8], .agg #[.string a1_0, .int .i64 a1_1, .int .i64 a1_2, .int .i64 a1_3, .int .i64 a1_4, .int .i64 a1_5], .int .i64 a2] w fun e w' => e = .returned (.bool true) ∧ Below w.heap.size w w' := by
  obtain ⟨k, h⟩ := P a0_0 a0_1 a0_2 a0_3 a0_4 a0_5 a0_6 a0_7 a0_8 a1_0 a1_1 a1_2 a1_3 a1_4 a1_5 a2 w0_0 w0_1 w0_2 w0_3 w0_4 w0_5 w0_6 w0_7 w0_8 w1_0 w1_1 w1_2 w1_3 w1_4 w1_5 w2
  refine (damperlaw10_ScaleMore.calls k a0_0 a0_1 a0_2 a0_3 a0_4 a0_5 a0_6 a0_7 a0_8 a1_0 a1_1 a1_2 a1_3 a1_4 a1_5 a2 true w ⟨rfl⟩ h).mono ?_
  rintro e w' ⟨rfl, hd⟩
  exact ⟨rfl, hd⟩

end Go.Proofs.Ytlikdmeickbigaa.Ma
