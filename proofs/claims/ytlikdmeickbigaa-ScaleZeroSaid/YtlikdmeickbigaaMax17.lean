-- Written by a program of this session (wip/tools/myprint.py), in the form of the kit's print. Not trusted: Lean checks it.
import Derived.Test.YtlikdmeickbigaaMax0
import Derived.Test.YtlikdmeickbigaaMax7
import Derived.Test.YtlikdmeickbigaaMax8
import Derived.Test.YtlikdmeickbigaaMax9
import Derived.Test.YtlikdmeickbigaaMax11
import Derived.Test.YtlikdmeickbigaaMax12
namespace Go.Proofs.Ytlikdmeickbigaa.Ma
open Go.RowKit Go.Proofs.YtlikdmeickbigaaW.PrintWords Go.Proofs.YtlikdmeickbigaaW.PrintLast Go.Proofs.YtlikdmeickbigaaW.PrintMore
attribute [local go_sem] max2_int min2_int max_two min_two max_three min_three max_four min_four   -- for this text's walks alone
set_option linter.unusedVariables false
set_option linter.unusedSimpArgs false

/-! ### damperlaw10_ScaleZero: function 5 -/
def damperlaw10_ScaleZero.j0 : Nat → Int → Int → Int → Int → Int → Int → Int → Int → Int → ByteArray → Int → Int → Int → Int → Int → Option (Bool)
  | 0, _, _, _, _, _, _, _, _, _, _, _, _, _, _, _ => none
  | k + 1, x236000, x236001, x236002, x236003, x236004, x236005, x236006, x236007, x236008, x237000, x237001, x237002, x237003, x237004, x237005 => (damperlaw10_decide.f k x236000 x236001 x236002 x236003 x236004 x236005 x236006 x236007 x236008 x237000 x237001 x237002 x237003 x237004 x237005).bind fun bt238 => (if bt238.1 = 0 then (if x237003 = 0 then (if x236003 = 0 then (if x236002 ≤ 1 then (if x236000 = 0 then (some true) else (some (decide (x236008 ≥ x237005)))) else (some false)) else (some false)) else (some false)) else (some true))
def damperlaw10_ScaleZero.f (k : Nat) (a0_0 : Int) (a0_1 : Int) (a0_2 : Int) (a0_3 : Int) (a0_4 : Int) (a0_5 : Int) (a0_6 : Int) (a0_7 : Int) (a0_8 : Int) (a1_0 : ByteArray) (a1_1 : Int) (a1_2 : Int) (a1_3 : Int) (a1_4 : Int) (a1_5 : Int) : Option (Bool) := (damperlaw10_known.f k).bind fun t219 => (if t219 = true then ((damperlaw10_Given_Make.f a0_0 a0_1 a0_2 a0_3 a0_4 a0_5 a0_6 a0_7 a0_8).bind fun bt220 => ((damperlaw2_Config.f a1_0 a1_1 a1_2 a1_3 a1_4 a1_5 0).bind fun bt229 => ((damperlaw10_within.f a0_1 2).bind fun t237 => (if t237 = 0 then (damperlaw10_ScaleZero.j0 k bt220.1 0 bt220.2.2.1 bt220.2.2.2.1 0 bt220.2.2.2.2.2.1 0 bt220.2.2.2.2.2.2.2.1 bt220.2.2.2.2.2.2.2.2 bt229.1 bt229.2.1 bt229.2.2.1 0 bt229.2.2.2.2.1 bt229.2.2.2.2.2) else (damperlaw10_ScaleZero.j0 k bt220.1 bt220.2.1 bt220.2.2.1 bt220.2.2.2.1 bt220.2.2.2.2.1 bt220.2.2.2.2.2.1 bt220.2.2.2.2.2.2.1 bt220.2.2.2.2.2.2.2.1 bt220.2.2.2.2.2.2.2.2 bt229.1 bt229.2.1 bt229.2.2.1 bt229.2.2.2.1 bt229.2.2.2.2.1 bt229.2.2.2.2.2))))) else (some false))
theorem damperlaw10_ScaleZero.mono_l : ∀ k, (∀ y0 y1 y2 y3 y4 y5 y6 y7 y8 y9 y10 y11 y12 y13 y14, LeO (damperlaw10_ScaleZero.j0 k y0 y1 y2 y3 y4 y5 y6 y7 y8 y9 y10 y11 y12 y13 y14) (damperlaw10_ScaleZero.j0 (k + 1) y0 y1 y2 y3 y4 y5 y6 y7 y8 y9 y10 y11 y12 y13 y14))
  | 0 => fun _ _ _ _ _ _ _ _ _ _ _ _ _ _ _ r h => by simp [damperlaw10_ScaleZero.j0] at h
  | k + 1 => by
    have ih0 := damperlaw10_ScaleZero.mono_l k
    · intro y0 y1 y2 y3 y4 y5 y6 y7 y8 y9 y10 y11 y12 y13 y14
      unfold damperlaw10_ScaleZero.j0
      repeat' first
      | (with_reducible exact ih0 _ _ _ _ _ _ _ _ _ _ _ _ _ _ _)
      | (with_reducible exact damperlaw10_decide.mono _ _ _ _ _ _ _ _ _ _ _ _ _ _ _ _)
      | (with_reducible exact damperlaw10_known.mono _)
      | (with_reducible exact LeO.refl _)
      | (with_reducible exact LeO.none _)
      | (with_reducible refine LeO.ite ?_ ?_)
      | (with_reducible refine LeO.bind ?_ (fun _ => ?_))
      | exact ih0 _ _ _ _ _ _ _ _ _ _ _ _ _ _ _
      | exact damperlaw10_decide.mono _ _ _ _ _ _ _ _ _ _ _ _ _ _ _ _
      | exact damperlaw10_known.mono _
      | exact LeO.none _
      | refine LeO.ite ?_ ?_
      | refine LeO.bind ?_ (fun _ => ?_)
theorem damperlaw10_ScaleZero.mono : ∀ a0 a1 a2 a3 a4 a5 a6 a7 a8 a9 a10 a11 a12 a13 a14 k, LeO (damperlaw10_ScaleZero.f k a0 a1 a2 a3 a4 a5 a6 a7 a8 a9 a10 a11 a12 a13 a14) (damperlaw10_ScaleZero.f (k + 1) a0 a1 a2 a3 a4 a5 a6 a7 a8 a9 a10 a11 a12 a13 a14) := by
  intro a0 a1 a2 a3 a4 a5 a6 a7 a8 a9 a10 a11 a12 a13 a14 k
  have ih0 := damperlaw10_ScaleZero.mono_l k
  unfold damperlaw10_ScaleZero.f
  repeat' first
      | (with_reducible exact ih0 _ _ _ _ _ _ _ _ _ _ _ _ _ _ _)
      | (with_reducible exact damperlaw10_decide.mono _ _ _ _ _ _ _ _ _ _ _ _ _ _ _ _)
      | (with_reducible exact damperlaw10_known.mono _)
      | (with_reducible exact LeO.refl _)
      | (with_reducible exact LeO.none _)
      | (with_reducible refine LeO.ite ?_ ?_)
      | (with_reducible refine LeO.bind ?_ (fun _ => ?_))
      | exact ih0 _ _ _ _ _ _ _ _ _ _ _ _ _ _ _
      | exact damperlaw10_decide.mono _ _ _ _ _ _ _ _ _ _ _ _ _ _ _ _
      | exact damperlaw10_known.mono _
      | exact LeO.none _
      | refine LeO.ite ?_ ?_
      | refine LeO.bind ?_ (fun _ => ?_)
def damperlaw10_ScaleZero.T3 : Bool × List (List Nat × List Nat) := (true, [([], []), ([0], [0]), ([], []), ([2, 1], [2]), ([], []), ([], []), ([4, 1, 3, 0, 1, 4, 5], [1, 4]), ([5, 3, 6, 0, 1, 2, 3, 4, 5, 6], [3, 5])])
def damperlaw10_ScaleZero.B3 : List Nat := [0, 1, 0, 7, 0, 0, 63, 127]
theorem damperlaw10_ScaleZero.tab3 : rtab .any (opsOf Try.f5 3) = damperlaw10_ScaleZero.T3 := by kernel_rfl
theorem damperlaw10_ScaleZero.bits3 : waitsOk damperlaw10_ScaleZero.T3.2 damperlaw10_ScaleZero.B3 = true := by kernel_rfl
set_option maxHeartbeats 8000000 in
set_option maxRecDepth 100000 in
theorem damperlaw10_ScaleZero.calls (k : Nat) (a0_0 : Int) (a0_1 : Int) (a0_2 : Int) (a0_3 : Int) (a0_4 : Int) (a0_5 : Int) (a0_6 : Int) (a0_7 : Int) (a0_8 : Int) (a1_0 : ByteArray) (a1_1 : Int) (a1_2 : Int) (a1_3 : Int) (a1_4 : Int) (a1_5 : Int) (r : Bool) (w : World) (hr0_ : Aside0 (r = true)) (h : damperlaw10_ScaleZero.f k a0_0 a0_1 a0_2 a0_3 a0_4 a0_5 a0_6 a0_7 a0_8 a1_0 a1_1 a1_2 a1_3 a1_4 a1_5 = some r) :
    Calls Try.prog 5 #[.agg #[.int .i64 a0_0, .int .i64 a0_1, .int .i64 a0_2, .int .i64 a0_3, .int .i64 a0_4, .int .i64 a0_5, .int .i64 a0_6, .int .i64 a0_7, .int .i64 a0_8], .agg #[.string a1_0, .int .i64 a1_1, .int .i64 a1_2, .int .i64 a1_3, .int .i64 a1_4, .int .i64 a1_5]] w fun e w' => e = .returned (.bool r) ∧ Below w.heap.size w w' := by
  have hu23 := Try.underlying23
  have hu25 := Try.underlying25
  have hu30 := Try.underlying30
  have HB := Aside0.mk (Below.refl w.heap.size w)
  have H : ((damperlaw10_known.f k).bind fun t219 => (if t219 = true then ((damperlaw10_Given_Make.f a0_0 a0_1 a0_2 a0_3 a0_4 a0_5 a0_6 a0_7 a0_8).bind fun bt220 => ((damperlaw2_Config.f a1_0 a1_1 a1_2 a1_3 a1_4 a1_5 0).bind fun bt229 => ((damperlaw10_within.f a0_1 2).bind fun t237 => (if t237 = 0 then (damperlaw10_ScaleZero.j0 k bt220.1 0 bt220.2.2.1 bt220.2.2.2.1 0 bt220.2.2.2.2.2.1 0 bt220.2.2.2.2.2.2.2.1 bt220.2.2.2.2.2.2.2.2 bt229.1 bt229.2.1 bt229.2.2.1 0 bt229.2.2.2.2.1 bt229.2.2.2.2.2) else (damperlaw10_ScaleZero.j0 k bt220.1 bt220.2.1 bt220.2.2.1 bt220.2.2.2.1 bt220.2.2.2.2.1 bt220.2.2.2.2.2.1 bt220.2.2.2.2.2.2.1 bt220.2.2.2.2.2.2.2.1 bt220.2.2.2.2.2.2.2.2 bt229.1 bt229.2.1 bt229.2.2.1 bt229.2.2.2.1 bt229.2.2.2.2.1 bt229.2.2.2.2.2))))) else (some false))) = some r := h
  clear h
  replace H := Option.bind_eq_some_iff.mp H
  obtain ⟨t219, A30, H⟩ := H
  replace H : (if t219 = true then ((damperlaw10_Given_Make.f a0_0 a0_1 a0_2 a0_3 a0_4 a0_5 a0_6 a0_7 a0_8).bind fun bt220 => ((damperlaw2_Config.f a1_0 a1_1 a1_2 a1_3 a1_4 a1_5 0).bind fun bt229 => ((damperlaw10_within.f a0_1 2).bind fun t237 => (if t237 = 0 then (damperlaw10_ScaleZero.j0 k bt220.1 0 bt220.2.2.1 bt220.2.2.2.1 0 bt220.2.2.2.2.2.1 0 bt220.2.2.2.2.2.2.2.1 bt220.2.2.2.2.2.2.2.2 bt229.1 bt229.2.1 bt229.2.2.1 0 bt229.2.2.2.2.1 bt229.2.2.2.2.2) else (damperlaw10_ScaleZero.j0 k bt220.1 bt220.2.1 bt220.2.2.1 bt220.2.2.2.1 bt220.2.2.2.2.1 bt220.2.2.2.2.2.1 bt220.2.2.2.2.2.2.1 bt220.2.2.2.2.2.2.2.1 bt220.2.2.2.2.2.2.2.2 bt229.1 bt229.2.1 bt229.2.2.1 bt229.2.2.2.1 bt229.2.2.2.2.1 bt229.2.2.2.2.2))))) else (some false)) = some r := H
  have A3 := Aside0.mk A30
  clear A30
  by_cases c4 : t219 = true
  · subst c4
    have H1 : ((damperlaw10_Given_Make.f a0_0 a0_1 a0_2 a0_3 a0_4 a0_5 a0_6 a0_7 a0_8).bind fun bt220 => ((damperlaw2_Config.f a1_0 a1_1 a1_2 a1_3 a1_4 a1_5 0).bind fun bt229 => ((damperlaw10_within.f a0_1 2).bind fun t237 => (if t237 = 0 then (damperlaw10_ScaleZero.j0 k bt220.1 0 bt220.2.2.1 bt220.2.2.2.1 0 bt220.2.2.2.2.2.1 0 bt220.2.2.2.2.2.2.2.1 bt220.2.2.2.2.2.2.2.2 bt229.1 bt229.2.1 bt229.2.2.1 0 bt229.2.2.2.2.1 bt229.2.2.2.2.2) else (damperlaw10_ScaleZero.j0 k bt220.1 bt220.2.1 bt220.2.2.1 bt220.2.2.2.1 bt220.2.2.2.2.1 bt220.2.2.2.2.2.1 bt220.2.2.2.2.2.2.1 bt220.2.2.2.2.2.2.2.1 bt220.2.2.2.2.2.2.2.2 bt229.1 bt229.2.1 bt229.2.2.1 bt229.2.2.2.1 bt229.2.2.2.2.1 bt229.2.2.2.2.2))))) = some r := by rw [if_pos rfl] at H; exact H
    clear H
    have H := H1
    clear H1
    replace H := Option.bind_eq_some_iff.mp H
    obtain ⟨⟨t220, t221, t222, t223, t224, t225, t226, t227, t228⟩, A50, H⟩ := H
    replace H : ((damperlaw2_Config.f a1_0 a1_1 a1_2 a1_3 a1_4 a1_5 0).bind fun bt229 => ((damperlaw10_within.f a0_1 2).bind fun t237 => (if t237 = 0 then (damperlaw10_ScaleZero.j0 k t220 0 t222 t223 0 t225 0 t227 t228 bt229.1 bt229.2.1 bt229.2.2.1 0 bt229.2.2.2.2.1 bt229.2.2.2.2.2) else (damperlaw10_ScaleZero.j0 k t220 t221 t222 t223 t224 t225 t226 t227 t228 bt229.1 bt229.2.1 bt229.2.2.1 bt229.2.2.2.1 bt229.2.2.2.2.1 bt229.2.2.2.2.2)))) = some r := H
    have A5 := Aside0.mk A50
    clear A50
    replace H := Option.bind_eq_some_iff.mp H
    obtain ⟨⟨t229, t230, t231, t232, t233, t234⟩, A60, H⟩ := H
    replace H : ((damperlaw10_within.f a0_1 2).bind fun t237 => (if t237 = 0 then (damperlaw10_ScaleZero.j0 k t220 0 t222 t223 0 t225 0 t227 t228 t229 t230 t231 0 t233 t234) else (damperlaw10_ScaleZero.j0 k t220 t221 t222 t223 t224 t225 t226 t227 t228 t229 t230 t231 t232 t233 t234))) = some r := H
    have A6 := Aside0.mk A60
    clear A60
    replace H := Option.bind_eq_some_iff.mp H
    obtain ⟨t237, A70, H⟩ := H
    replace H : (if t237 = 0 then (damperlaw10_ScaleZero.j0 k t220 0 t222 t223 0 t225 0 t227 t228 t229 t230 t231 0 t233 t234) else (damperlaw10_ScaleZero.j0 k t220 t221 t222 t223 t224 t225 t226 t227 t228 t229 t230 t231 t232 t233 t234)) = some r := H
    have A7 := Aside0.mk A70
    clear A70
    have HC8 := Aside0.mk H
    clear H
    go_enter Try.func5, Try.ntmps5
    try go_wp2_with (first | ((with_reducible refine gate_dst (N := 2) rfl ?_); refine box_event ?hg (N := 2) ?hd (cs := #[.int .i64 a0_0, .int .i64 a0_1, .int .i64 a0_2, .int .i64 a0_3, .int .i64 a0_4, .int .i64 a0_5, .int .i64 a0_6, .int .i64 a0_7, .int .i64 a0_8]) (t := 23) ?hr ?_; (case hd => rfl); (case hg => rfl); (case hr => first | (go_simp; done) | (go_simp; rfl)); intro gb217 hg w9 hbox hb; have n0_ := Aside0.mk (below_step (by repeat (first | (with_reducible first | exact HB.out | apply below_alloc | apply pw_below_drewN | apply below_drew1) | exact HB.out)) hb); have n1_ := Aside0.mk (hbox); have n2_ := Aside0.mk ((by rw [hg]; exact (below_size (by repeat (first | (with_reducible first | exact HB.out | apply below_alloc | apply pw_below_drewN | apply below_drew1) | exact HB.out))) : w.heap.size ≤ gb217)); have n3_ := Aside0.mk ((by rw [hg]; exact (below_size (by repeat (first | (with_reducible first | exact HB.out | apply below_alloc | apply pw_below_drewN | apply below_drew1) | exact HB.out))) : w.heap.size ≤ gb217)); clear HB; have HB := n0_; have BK217 := n1_; have GW217 := n2_; have GE217 := n3_; clear n0_ n1_ n2_ n3_; clear hb hbox hg) | ((with_reducible refine gate_dst (N := 3) rfl ?_); refine box_event ?hg (N := 3) ?hd (cs := #[.string a1_0, .int .i64 a1_1, .int .i64 a1_2, .int .i64 a1_3, .int .i64 a1_4, .int .i64 a1_5]) (t := 25) ?hr ?_; (case hd => rfl); (case hg => rfl); (case hr => first | (go_simp; done) | (go_simp; rfl)); intro gb218 hg w10 hbox hb; have n0_ := Aside0.mk (blk_below (g := gb217) (pk BK217) hb); have n1_ := Aside0.mk (below_step (by repeat (first | (with_reducible first | exact HB.out | apply below_alloc | apply pw_below_drewN | apply below_drew1 | refine below_set ?_ GE217.out) | exact HB.out)) hb); have n2_ := Aside0.mk (hbox); have n3_ := Aside0.mk ((by rw [hg]; exact (below_size (by repeat (first | (with_reducible first | exact HB.out | apply below_alloc | apply pw_below_drewN | apply below_drew1 | refine below_set ?_ GE217.out) | exact HB.out))) : w.heap.size ≤ gb218)); have n4_ := Aside0.mk ((by rw [hg]; exact (below_size (by repeat (first | (with_reducible first | exact HB.out | apply below_alloc | apply pw_below_drewN | apply below_drew1 | refine below_set ?_ GE217.out) | exact HB.out))) : w.heap.size ≤ gb218)); have n5_ := Aside0.mk ((ne_lt hg (pk BK217) : gb217 ≠ gb218)); have n6_ := Aside0.mk ((ne_gt hg (pk BK217) : gb218 ≠ gb217)); clear BK217; clear HB; have BK217 := n0_; have HB := n1_; have BK218 := n2_; have GW218 := n3_; have GE218 := n4_; have NB217_218 := n5_; have NB218_217 := n6_; clear n0_ n1_ n2_ n3_ n4_ n5_ n6_; clear hb hbox hg) | ((with_reducible refine gate_callee (f := 13) rfl ?_); refine goesL_ (some 8) rfl rfl Try.func13 (by kernel_rfl) rfl #[] rfl (by (try simp only [List.map_toArray, List.map_cons, List.map_nil]); first | done | rfl | (simp only [List.length_drop, List.length_take]; rfl)) ?_; (with_reducible refine (damperlaw10_known.calls k  true _ A3.out).mono ?_); rintro e w11 ⟨rfl, hb⟩; refine ⟨_, rfl, ?_⟩; have n0_ := Aside0.mk (blk_below (g := gb217) (pk BK217) hb); have n1_ := Aside0.mk (blk_below (g := gb218) (pk BK218) hb); have n2_ := Aside0.mk (below_step (by repeat (first | (with_reducible first | exact HB.out | apply below_alloc | apply pw_below_drewN | apply below_drew1 | refine below_set ?_ GE217.out | refine below_set ?_ GE218.out) | exact HB.out)) hb); clear BK217; clear BK218; clear HB; have BK217 := n0_; have BK218 := n1_; have HB := n2_; clear n0_ n1_ n2_; (try clear hb); (try clear hb2); (try clear hk); (try clear hi)))
    replace BK217 := Aside0.mk (blk_drew BK217.out)
    replace BK218 := Aside0.mk (blk_drew BK218.out)
    replace HB := Aside0.mk (below_drew1 HB.out)
    refine start_ (n := 8) (S := fun w' => w'.cell? ⟨gb217, 0, none⟩ = some (.int .i64 a0_0) ∧ w'.cell? ⟨gb217, 1, none⟩ = some (.int .i64 a0_1) ∧ w'.cell? ⟨gb217, 2, none⟩ = some (.int .i64 a0_2) ∧ w'.cell? ⟨gb217, 3, none⟩ = some (.int .i64 a0_3) ∧ w'.cell? ⟨gb217, 4, none⟩ = some (.int .i64 a0_4) ∧ w'.cell? ⟨gb217, 5, none⟩ = some (.int .i64 a0_5) ∧ w'.cell? ⟨gb217, 6, none⟩ = some (.int .i64 a0_6) ∧ w'.cell? ⟨gb217, 7, none⟩ = some (.int .i64 a0_7) ∧ w'.cell? ⟨gb217, 8, none⟩ = some (.int .i64 a0_8) ∧ w'.cell? ⟨gb218, 0, none⟩ = some (.string a1_0) ∧ w'.cell? ⟨gb218, 1, none⟩ = some (.int .i64 a1_1) ∧ w'.cell? ⟨gb218, 2, none⟩ = some (.int .i64 a1_2) ∧ w'.cell? ⟨gb218, 3, none⟩ = some (.int .i64 a1_3) ∧ w'.cell? ⟨gb218, 4, none⟩ = some (.int .i64 a1_4) ∧ w'.cell? ⟨gb218, 5, none⟩ = some (.int .i64 a1_5)) (ds := []) #[false, false, false, false, false, false, false, false] (by kernel_rfl) rfl rfl ⟨bc BK217 0, bc BK217 1, bc BK217 2, bc BK217 3, bc BK217 4, bc BK217 5, bc BK217 6, bc BK217 7, bc BK217 8, bc BK218 0, bc BK218 1, bc BK218 2, bc BK218 3, bc BK218 4, bc BK218 5⟩ (fun hHeld => ?_); refine with_tabW damperlaw10_ScaleZero.tab3 damperlaw10_ScaleZero.bits3 (fun HT_ HW_ => ?_)
    generalize w11.drew = w12 at BK217 BK218 HB hHeld ⊢
    refine take_ (i := 0) (N := some 10) (v := ?_) (a' := ?_) #[true, false, false, false, false, false, false, false] rfl rfl (take_ofW HT_.out HW_.out (by kernel_rfl)) (fun _ _ _ h => h) (Or.inl ⟨by rfl, ?_⟩) hHeld ?_ ?_
    rotate_left
    · rintro w' ⟨s0, s1, s2, s3, s4, s5, s6, s7, s8, s9, s10, s11, s12, s13, s14⟩
      go_simp
      with_reducible rfl
    rotate_left
    · simp only [Act.put, List.setIfInBounds_toArray, List.set_cons_zero, List.set_cons_succ, i64_w, i32_w]
      rfl
    refine take_ (i := 2) (N := some 12) (v := ?_) (a' := ?_) #[true, false, true, false, false, false, false, false] rfl rfl (take_ofW HT_.out HW_.out (by kernel_rfl)) (fun _ _ _ h => h) (Or.inl ⟨by rfl, ?_⟩) hHeld ?_ ?_
    rotate_left
    · rintro w' ⟨s0, s1, s2, s3, s4, s5, s6, s7, s8, s9, s10, s11, s12, s13, s14⟩
      go_simp
      with_reducible rfl
    rotate_left
    · simp only [Act.put, List.setIfInBounds_toArray, List.set_cons_zero, List.set_cons_succ, i64_w, i32_w]
      rfl
    refine join_ (σ := Nat × Nat) 2 #[true, true, true, true, true, true, false, false] (fun s_ => [(11, .agg #[.int .i64 t220, .int .i64 t221, .int .i64 t222, .int .i64 t223, .int .i64 t224, .int .i64 t225, .int .i64 t226, .int .i64 t227, .int .i64 t228]), (13, .agg #[.string t229, .int .i64 t230, .int .i64 t231, .int .i64 t232, .int .i64 t233, .int .i64 t234]), (5, .pointer (some ⟨s_.1, 0, none⟩)), (6, .pointer (some ⟨s_.2, 0, none⟩))]) (fun s_ w' => (w'.cell? ⟨gb217, 0, none⟩ = some (.int .i64 a0_0) ∧ w'.cell? ⟨gb217, 1, none⟩ = some (.int .i64 a0_1) ∧ w'.cell? ⟨gb217, 2, none⟩ = some (.int .i64 a0_2) ∧ w'.cell? ⟨gb217, 3, none⟩ = some (.int .i64 a0_3) ∧ w'.cell? ⟨gb217, 4, none⟩ = some (.int .i64 a0_4) ∧ w'.cell? ⟨gb217, 5, none⟩ = some (.int .i64 a0_5) ∧ w'.cell? ⟨gb217, 6, none⟩ = some (.int .i64 a0_6) ∧ w'.cell? ⟨gb217, 7, none⟩ = some (.int .i64 a0_7) ∧ w'.cell? ⟨gb217, 8, none⟩ = some (.int .i64 a0_8) ∧ w'.cell? ⟨gb218, 0, none⟩ = some (.string a1_0) ∧ w'.cell? ⟨gb218, 1, none⟩ = some (.int .i64 a1_1) ∧ w'.cell? ⟨gb218, 2, none⟩ = some (.int .i64 a1_2) ∧ w'.cell? ⟨gb218, 3, none⟩ = some (.int .i64 a1_3) ∧ w'.cell? ⟨gb218, 4, none⟩ = some (.int .i64 a1_4) ∧ w'.cell? ⟨gb218, 5, none⟩ = some (.int .i64 a1_5)) ∧ (w'.heap[gb217]? = some (.cells #[.int .i64 a0_0, .int .i64 a0_1, .int .i64 a0_2, .int .i64 a0_3, .int .i64 a0_4, .int .i64 a0_5, .int .i64 a0_6, .int .i64 a0_7, .int .i64 a0_8] 23 (0, 0))) ∧ (w'.heap[gb218]? = some (.cells #[.string a1_0, .int .i64 a1_1, .int .i64 a1_2, .int .i64 a1_3, .int .i64 a1_4, .int .i64 a1_5] 25 (0, 0))) ∧ (w'.heap[s_.1]? = some (.cells #[.int .i64 0, .int .i64 0, .int .i64 0, .int .i64 0, .int .i64 0, .int .i64 0, .int .i64 0, .int .i64 0, .int .i64 0] 23 (0, 0))) ∧ (w'.heap[s_.2]? = some (.cells #[.string (⟨#[]⟩ : ByteArray), .int .i64 0, .int .i64 0, .int .i64 0, .int .i64 0, .int .i64 0] 25 (0, 0))) ∧ (w.heap.size ≤ s_.1) ∧ (w.heap.size ≤ s_.1) ∧ (gb217 ≠ s_.1) ∧ (s_.1 ≠ gb217) ∧ (gb218 ≠ s_.1) ∧ (s_.1 ≠ gb218) ∧ (s_.2 ≠ s_.1) ∧ (s_.1 ≠ s_.2) ∧ (w.heap.size ≤ s_.2) ∧ (w.heap.size ≤ s_.2) ∧ (gb217 ≠ s_.2) ∧ (s_.2 ≠ gb217) ∧ (gb218 ≠ s_.2) ∧ (s_.2 ≠ gb218) ∧ (Below w.heap.size w w')) ?_ ?_
    · rintro ⟨gb235, gb236⟩ w17 ⟨hS_, h0_, h1_, h2_, h3_, h4_, h5_, h6_, h7_, h8_, h9_, h10_, h11_, h12_, h13_, h14_, h15_, h16_, h17_, h18_⟩
      have BK235 : Aside0 (w17.heap[gb235]? = some (.cells #[.int .i64 0, .int .i64 0, .int .i64 0, .int .i64 0, .int .i64 0, .int .i64 0, .int .i64 0, .int .i64 0, .int .i64 0] 23 (0, 0))) := ⟨h2_⟩
      have BK236 : Aside0 (w17.heap[gb236]? = some (.cells #[.string (⟨#[]⟩ : ByteArray), .int .i64 0, .int .i64 0, .int .i64 0, .int .i64 0, .int .i64 0] 25 (0, 0))) := ⟨h3_⟩
      have GW235 : Aside0 (w.heap.size ≤ gb235) := ⟨h4_⟩
      have GE235 : Aside0 (w.heap.size ≤ gb235) := ⟨h5_⟩
      have NB217_235 : Aside0 (gb217 ≠ gb235) := ⟨h6_⟩
      have NB235_217 : Aside0 (gb235 ≠ gb217) := ⟨h7_⟩
      have NB218_235 : Aside0 (gb218 ≠ gb235) := ⟨h8_⟩
      have NB235_218 : Aside0 (gb235 ≠ gb218) := ⟨h9_⟩
      have NB236_235 : Aside0 (gb236 ≠ gb235) := ⟨h10_⟩
      have NB235_236 : Aside0 (gb235 ≠ gb236) := ⟨h11_⟩
      have GW236 : Aside0 (w.heap.size ≤ gb236) := ⟨h12_⟩
      have GE236 : Aside0 (w.heap.size ≤ gb236) := ⟨h13_⟩
      have NB217_236 : Aside0 (gb217 ≠ gb236) := ⟨h14_⟩
      have NB236_217 : Aside0 (gb236 ≠ gb217) := ⟨h15_⟩
      have NB218_236 : Aside0 (gb218 ≠ gb236) := ⟨h16_⟩
      have NB236_218 : Aside0 (gb236 ≠ gb218) := ⟨h17_⟩
      replace BK217 := Aside0.mk h0_
      replace BK218 := Aside0.mk h1_
      replace HB : Aside0 (Below w.heap.size w w17) := ⟨h18_⟩
      clear h0_ h1_ h2_ h3_ h4_ h5_ h6_ h7_ h8_ h9_ h10_ h11_ h12_ h13_ h14_ h15_ h16_ h17_ h18_
      have hHeld := hS_
      refine norm_ (a' := ?_) ?_ ?_
      rotate_left
      · simp only [putAll, Act.put, List.setIfInBounds_toArray, List.set_cons_zero, List.set_cons_succ]
        rfl
      refine one_ (i := 6) (N := none) #[true, true, true, true, true, true, true, false] rfl rfl (one_of HT_.out (by kernel_rfl)) (by decide) (fun K hK => ?_)
      have hs18 : w17.cell? ⟨gb235, 0, none⟩ = some (.int .i64 0) := bc BK235 0
      have hfs18 := blk_frozen BK235.out 0
      have hns18_0 := NB217_235.out
      have hns18_1 := NB218_235.out
      have hns18_3 := NB236_235.out
      have hms18_0 := NB235_217.out
      have hms18_1 := NB235_218.out
      have hms18_3 := NB235_236.out
      have hs19 : w17.cell? ⟨gb235, 1, none⟩ = some (.int .i64 0) := bc BK235 1
      have hfs19 := blk_frozen BK235.out 1
      have hs20 : w17.cell? ⟨gb235, 2, none⟩ = some (.int .i64 0) := bc BK235 2
      have hfs20 := blk_frozen BK235.out 2
      have hs21 : w17.cell? ⟨gb235, 3, none⟩ = some (.int .i64 0) := bc BK235 3
      have hfs21 := blk_frozen BK235.out 3
      have hs22 : w17.cell? ⟨gb235, 4, none⟩ = some (.int .i64 0) := bc BK235 4
      have hfs22 := blk_frozen BK235.out 4
      have hs23 : w17.cell? ⟨gb235, 5, none⟩ = some (.int .i64 0) := bc BK235 5
      have hfs23 := blk_frozen BK235.out 5
      have hs24 : w17.cell? ⟨gb235, 6, none⟩ = some (.int .i64 0) := bc BK235 6
      have hfs24 := blk_frozen BK235.out 6
      have hs25 : w17.cell? ⟨gb235, 7, none⟩ = some (.int .i64 0) := bc BK235 7
      have hfs25 := blk_frozen BK235.out 7
      have hs26 : w17.cell? ⟨gb235, 8, none⟩ = some (.int .i64 0) := bc BK235 8
      have hfs26 := blk_frozen BK235.out 8
      with_reducible_and_instances refine skip_ (w1 := ?_) ?hw_ ?hN_ ?_ ?_
      (case hw_ => rfl)
      (case hN_ => rfl)
      rotate_left
      · go_simp
        rfl
      refine hK.out _ _ ⟨(cf NB217_235 ((cf NB217_235 ((cf NB217_235 ((cf NB217_235 ((cf NB217_235 ((cf NB217_235 ((cf NB217_235 ((cf NB217_235 ((cf NB217_235 (hHeld.1)))))))))))))))))), (cf NB217_235 ((cf NB217_235 ((cf NB217_235 ((cf NB217_235 ((cf NB217_235 ((cf NB217_235 ((cf NB217_235 ((cf NB217_235 ((cf NB217_235 (hHeld.2.1)))))))))))))))))), (cf NB217_235 ((cf NB217_235 ((cf NB217_235 ((cf NB217_235 ((cf NB217_235 ((cf NB217_235 ((cf NB217_235 ((cf NB217_235 ((cf NB217_235 (hHeld.2.2.1)))))))))))))))))), (cf NB217_235 ((cf NB217_235 ((cf NB217_235 ((cf NB217_235 ((cf NB217_235 ((cf NB217_235 ((cf NB217_235 ((cf NB217_235 ((cf NB217_235 (hHeld.2.2.2.1)))))))))))))))))), (cf NB217_235 ((cf NB217_235 ((cf NB217_235 ((cf NB217_235 ((cf NB217_235 ((cf NB217_235 ((cf NB217_235 ((cf NB217_235 ((cf NB217_235 (hHeld.2.2.2.2.1)))))))))))))))))), (cf NB217_235 ((cf NB217_235 ((cf NB217_235 ((cf NB217_235 ((cf NB217_235 ((cf NB217_235 ((cf NB217_235 ((cf NB217_235 ((cf NB217_235 (hHeld.2.2.2.2.2.1)))))))))))))))))), (cf NB217_235 ((cf NB217_235 ((cf NB217_235 ((cf NB217_235 ((cf NB217_235 ((cf NB217_235 ((cf NB217_235 ((cf NB217_235 ((cf NB217_235 (hHeld.2.2.2.2.2.2.1)))))))))))))))))), (cf NB217_235 ((cf NB217_235 ((cf NB217_235 ((cf NB217_235 ((cf NB217_235 ((cf NB217_235 ((cf NB217_235 ((cf NB217_235 ((cf NB217_235 (hHeld.2.2.2.2.2.2.2.1)))))))))))))))))), (cf NB217_235 ((cf NB217_235 ((cf NB217_235 ((cf NB217_235 ((cf NB217_235 ((cf NB217_235 ((cf NB217_235 ((cf NB217_235 ((cf NB217_235 (hHeld.2.2.2.2.2.2.2.2.1)))))))))))))))))), (cf NB218_235 ((cf NB218_235 ((cf NB218_235 ((cf NB218_235 ((cf NB218_235 ((cf NB218_235 ((cf NB218_235 ((cf NB218_235 ((cf NB218_235 (hHeld.2.2.2.2.2.2.2.2.2.1)))))))))))))))))), (cf NB218_235 ((cf NB218_235 ((cf NB218_235 ((cf NB218_235 ((cf NB218_235 ((cf NB218_235 ((cf NB218_235 ((cf NB218_235 ((cf NB218_235 (hHeld.2.2.2.2.2.2.2.2.2.2.1)))))))))))))))))), (cf NB218_235 ((cf NB218_235 ((cf NB218_235 ((cf NB218_235 ((cf NB218_235 ((cf NB218_235 ((cf NB218_235 ((cf NB218_235 ((cf NB218_235 (hHeld.2.2.2.2.2.2.2.2.2.2.2.1)))))))))))))))))), (cf NB218_235 ((cf NB218_235 ((cf NB218_235 ((cf NB218_235 ((cf NB218_235 ((cf NB218_235 ((cf NB218_235 ((cf NB218_235 ((cf NB218_235 (hHeld.2.2.2.2.2.2.2.2.2.2.2.2.1)))))))))))))))))), (cf NB218_235 ((cf NB218_235 ((cf NB218_235 ((cf NB218_235 ((cf NB218_235 ((cf NB218_235 ((cf NB218_235 ((cf NB218_235 ((cf NB218_235 (hHeld.2.2.2.2.2.2.2.2.2.2.2.2.2.1)))))))))))))))))), (cf NB218_235 ((cf NB218_235 ((cf NB218_235 ((cf NB218_235 ((cf NB218_235 ((cf NB218_235 ((cf NB218_235 ((cf NB218_235 ((cf NB218_235 (hHeld.2.2.2.2.2.2.2.2.2.2.2.2.2.2))))))))))))))))))⟩ (fun hHeld => ?_)
      clear hK K
      refine one_ (i := 7) (N := none) #[true, true, true, true, true, true, true, true] rfl rfl (one_of HT_.out (by kernel_rfl)) (by decide) (fun K hK => ?_)
      have hs27 : w17.cell? ⟨gb236, 0, none⟩ = some (.string (⟨#[]⟩ : ByteArray)) := bc BK236 0
      have hfs27 := blk_frozen BK236.out 0
      have hns27_0 := NB217_236.out
      have hns27_1 := NB218_236.out
      have hns27_2 := NB235_236.out
      have hms27_0 := NB236_217.out
      have hms27_1 := NB236_218.out
      have hms27_2 := NB236_235.out
      have hs28 : w17.cell? ⟨gb236, 1, none⟩ = some (.int .i64 0) := bc BK236 1
      have hfs28 := blk_frozen BK236.out 1
      have hs29 : w17.cell? ⟨gb236, 2, none⟩ = some (.int .i64 0) := bc BK236 2
      have hfs29 := blk_frozen BK236.out 2
      have hs30 : w17.cell? ⟨gb236, 3, none⟩ = some (.int .i64 0) := bc BK236 3
      have hfs30 := blk_frozen BK236.out 3
      have hs31 : w17.cell? ⟨gb236, 4, none⟩ = some (.int .i64 0) := bc BK236 4
      have hfs31 := blk_frozen BK236.out 4
      have hs32 : w17.cell? ⟨gb236, 5, none⟩ = some (.int .i64 0) := bc BK236 5
      have hfs32 := blk_frozen BK236.out 5
      with_reducible_and_instances refine skip_ (w1 := ?_) ?hw_ ?hN_ ?_ ?_
      (case hw_ => rfl)
      (case hN_ => rfl)
      rotate_left
      · go_simp
        rfl
      refine hK.out _ _ ⟨(cf NB217_236 ((cf NB217_236 ((cf NB217_236 ((cf NB217_236 ((cf NB217_236 ((cf NB217_236 (hHeld.1)))))))))))), (cf NB217_236 ((cf NB217_236 ((cf NB217_236 ((cf NB217_236 ((cf NB217_236 ((cf NB217_236 (hHeld.2.1)))))))))))), (cf NB217_236 ((cf NB217_236 ((cf NB217_236 ((cf NB217_236 ((cf NB217_236 ((cf NB217_236 (hHeld.2.2.1)))))))))))), (cf NB217_236 ((cf NB217_236 ((cf NB217_236 ((cf NB217_236 ((cf NB217_236 ((cf NB217_236 (hHeld.2.2.2.1)))))))))))), (cf NB217_236 ((cf NB217_236 ((cf NB217_236 ((cf NB217_236 ((cf NB217_236 ((cf NB217_236 (hHeld.2.2.2.2.1)))))))))))), (cf NB217_236 ((cf NB217_236 ((cf NB217_236 ((cf NB217_236 ((cf NB217_236 ((cf NB217_236 (hHeld.2.2.2.2.2.1)))))))))))), (cf NB217_236 ((cf NB217_236 ((cf NB217_236 ((cf NB217_236 ((cf NB217_236 ((cf NB217_236 (hHeld.2.2.2.2.2.2.1)))))))))))), (cf NB217_236 ((cf NB217_236 ((cf NB217_236 ((cf NB217_236 ((cf NB217_236 ((cf NB217_236 (hHeld.2.2.2.2.2.2.2.1)))))))))))), (cf NB217_236 ((cf NB217_236 ((cf NB217_236 ((cf NB217_236 ((cf NB217_236 ((cf NB217_236 (hHeld.2.2.2.2.2.2.2.2.1)))))))))))), (cf NB218_236 ((cf NB218_236 ((cf NB218_236 ((cf NB218_236 ((cf NB218_236 ((cf NB218_236 (hHeld.2.2.2.2.2.2.2.2.2.1)))))))))))), (cf NB218_236 ((cf NB218_236 ((cf NB218_236 ((cf NB218_236 ((cf NB218_236 ((cf NB218_236 (hHeld.2.2.2.2.2.2.2.2.2.2.1)))))))))))), (cf NB218_236 ((cf NB218_236 ((cf NB218_236 ((cf NB218_236 ((cf NB218_236 ((cf NB218_236 (hHeld.2.2.2.2.2.2.2.2.2.2.2.1)))))))))))), (cf NB218_236 ((cf NB218_236 ((cf NB218_236 ((cf NB218_236 ((cf NB218_236 ((cf NB218_236 (hHeld.2.2.2.2.2.2.2.2.2.2.2.2.1)))))))))))), (cf NB218_236 ((cf NB218_236 ((cf NB218_236 ((cf NB218_236 ((cf NB218_236 ((cf NB218_236 (hHeld.2.2.2.2.2.2.2.2.2.2.2.2.2.1)))))))))))), (cf NB218_236 ((cf NB218_236 ((cf NB218_236 ((cf NB218_236 ((cf NB218_236 ((cf NB218_236 (hHeld.2.2.2.2.2.2.2.2.2.2.2.2.2.2))))))))))))⟩ (fun hHeld => ?_)
      clear hK K
      refine done_ (done_of HT_.out (by kernel_rfl)) ?_
      have hnb33 := NB217_218.out
      have hnc33 := NB218_217.out
      have hnb34 := NB217_235.out
      have hnc34 := NB235_217.out
      have hnb35 := NB217_236.out
      have hnc35 := NB236_217.out
      have hcz36_0 : w17.cell? ⟨gb217, 0, none⟩ = some (.int .i64 a0_0) := bc BK217 0
      have hcz36_1 : w17.cell? ⟨gb217, 1, none⟩ = some (.int .i64 a0_1) := bc BK217 1
      have hcz36_2 : w17.cell? ⟨gb217, 2, none⟩ = some (.int .i64 a0_2) := bc BK217 2
      have hcz36_3 : w17.cell? ⟨gb217, 3, none⟩ = some (.int .i64 a0_3) := bc BK217 3
      have hcz36_4 : w17.cell? ⟨gb217, 4, none⟩ = some (.int .i64 a0_4) := bc BK217 4
      have hcz36_5 : w17.cell? ⟨gb217, 5, none⟩ = some (.int .i64 a0_5) := bc BK217 5
      have hcz36_6 : w17.cell? ⟨gb217, 6, none⟩ = some (.int .i64 a0_6) := bc BK217 6
      have hcz36_7 : w17.cell? ⟨gb217, 7, none⟩ = some (.int .i64 a0_7) := bc BK217 7
      have hcz36_8 : w17.cell? ⟨gb217, 8, none⟩ = some (.int .i64 a0_8) := bc BK217 8
      have hfz36_0 := blk_frozen BK217.out 0
      have hfz36_1 := blk_frozen BK217.out 1
      have hfz36_2 := blk_frozen BK217.out 2
      have hfz36_3 := blk_frozen BK217.out 3
      have hfz36_4 := blk_frozen BK217.out 4
      have hfz36_5 := blk_frozen BK217.out 5
      have hfz36_6 := blk_frozen BK217.out 6
      have hfz36_7 := blk_frozen BK217.out 7
      have hfz36_8 := blk_frozen BK217.out 8
      go_upto_if 17 with (first | ((with_reducible refine gate_callee (f := 18) rfl ?_); refine goesL_ (some 16) rfl rfl Try.func18 (by kernel_rfl) rfl #[.int .i64 a0_1, .int .i64 2] rfl (by (try simp only [List.map_toArray, List.map_cons, List.map_nil]); first | done | rfl | (simp only [List.length_drop, List.length_take]; rfl)) ?_; (with_reducible refine (damperlaw10_within.calls a0_1 2 t237 _ A7.out).mono ?_); rintro e w' ⟨rfl, ⟨nd, rfl⟩⟩; refine ⟨_, rfl, ?_⟩))
      (try simp only [Act.put, List.setIfInBounds_toArray, List.set_cons_zero, List.set_cons_succ])
      go_cut [] (fun wc => ∃ (kq : Nat) (x236001_7 : Int) (x236004_7 : Int) (x236006_7 : Int) (x237003_7 : Int), Aside0 (damperlaw10_ScaleZero.j0 kq t220 x236001_7 t222 t223 x236004_7 t225 x236006_7 t227 t228 t229 t230 t231 x237003_7 t233 t234 = some r) ∧ Aside0 (kq ≤ k) ∧ Aside0 (wc.heap[gb217]? = some (.cells #[.int .i64 a0_0, .int .i64 a0_1, .int .i64 a0_2, .int .i64 a0_3, .int .i64 a0_4, .int .i64 a0_5, .int .i64 a0_6, .int .i64 a0_7, .int .i64 a0_8] 23 (0, 0))) ∧ Aside0 (wc.heap[gb218]? = some (.cells #[.string a1_0, .int .i64 a1_1, .int .i64 a1_2, .int .i64 a1_3, .int .i64 a1_4, .int .i64 a1_5] 25 (0, 0))) ∧ Aside0 (wc.heap[gb235]? = some (.cells #[.int .i64 t220, .int .i64 x236001_7, .int .i64 t222, .int .i64 t223, .int .i64 x236004_7, .int .i64 t225, .int .i64 x236006_7, .int .i64 t227, .int .i64 t228] 23 (0, 0))) ∧ Aside0 (wc.heap[gb236]? = some (.cells #[.string t229, .int .i64 t230, .int .i64 t231, .int .i64 x237003_7, .int .i64 t233, .int .i64 t234] 25 (0, 0))) ∧ Aside0 (Below w.heap.size w wc))
      case first =>
        have H := HC8.out
        clear HC8
        by_cases c37 : t237 = 0
        · rw [if_pos c37] at H
          have c37b0 : (t237 == 0) = true := beq_iff_eq.mpr c37
          have c37b1 : (t237 != 0) = false := bne_eq_false_iff_eq.mpr c37
          clear c37
          (first | rw [c37b0] | (simp only [i64_w, i32_w]; rw [c37b0]) | skip)
          have H' := Aside0.mk H
          clear H
          have hnb38 := NB236_217.out
          have hnc38 := NB217_236.out
          have hnb39 := NB236_218.out
          have hnc39 := NB218_236.out
          have hnb40 := NB236_235.out
          have hnc40 := NB235_236.out
          have hcz41_0 : w17.cell? ⟨gb236, 0, none⟩ = some (.string (⟨#[]⟩ : ByteArray)) := bc BK236 0
          have hcz41_1 : w17.cell? ⟨gb236, 1, none⟩ = some (.int .i64 0) := bc BK236 1
          have hcz41_2 : w17.cell? ⟨gb236, 2, none⟩ = some (.int .i64 0) := bc BK236 2
          have hcz41_3 : w17.cell? ⟨gb236, 3, none⟩ = some (.int .i64 0) := bc BK236 3
          have hcz41_4 : w17.cell? ⟨gb236, 4, none⟩ = some (.int .i64 0) := bc BK236 4
          have hcz41_5 : w17.cell? ⟨gb236, 5, none⟩ = some (.int .i64 0) := bc BK236 5
          have hfz41_0 := blk_frozen BK236.out 0
          have hfz41_1 := blk_frozen BK236.out 1
          have hfz41_2 := blk_frozen BK236.out 2
          have hfz41_3 := blk_frozen BK236.out 3
          have hfz41_4 := blk_frozen BK236.out 4
          have hfz41_5 := blk_frozen BK236.out 5
          have hnb42 := NB235_217.out
          have hnc42 := NB217_235.out
          have hnb43 := NB235_218.out
          have hnc43 := NB218_235.out
          have hcz44_0 : w17.cell? ⟨gb235, 0, none⟩ = some (.int .i64 0) := bc BK235 0
          have hcz44_1 : w17.cell? ⟨gb235, 1, none⟩ = some (.int .i64 0) := bc BK235 1
          have hcz44_2 : w17.cell? ⟨gb235, 2, none⟩ = some (.int .i64 0) := bc BK235 2
          have hcz44_3 : w17.cell? ⟨gb235, 3, none⟩ = some (.int .i64 0) := bc BK235 3
          have hcz44_4 : w17.cell? ⟨gb235, 4, none⟩ = some (.int .i64 0) := bc BK235 4
          have hcz44_5 : w17.cell? ⟨gb235, 5, none⟩ = some (.int .i64 0) := bc BK235 5
          have hcz44_6 : w17.cell? ⟨gb235, 6, none⟩ = some (.int .i64 0) := bc BK235 6
          have hcz44_7 : w17.cell? ⟨gb235, 7, none⟩ = some (.int .i64 0) := bc BK235 7
          have hcz44_8 : w17.cell? ⟨gb235, 8, none⟩ = some (.int .i64 0) := bc BK235 8
          have hfz44_0 := blk_frozen BK235.out 0
          have hfz44_1 := blk_frozen BK235.out 1
          have hfz44_2 := blk_frozen BK235.out 2
          have hfz44_3 := blk_frozen BK235.out 3
          have hfz44_4 := blk_frozen BK235.out 4
          have hfz44_5 := blk_frozen BK235.out 5
          have hfz44_6 := blk_frozen BK235.out 6
          have hfz44_7 := blk_frozen BK235.out 7
          have hfz44_8 := blk_frozen BK235.out 8
          go_wp2
          go_meet
          case rel => exact ⟨_, (0), (0), (0), (0), H', ⟨by first | omega | exact Nat.le_refl _⟩, ⟨by (repeat ((with_reducible repeat (first | refine blk_drewN ?_ _ | refine blk_drew ?_ | refine blk_alloc ?_ _)); with_reducible refine blk_far ?_ NB217_235.out _)); (repeat ((with_reducible repeat (first | refine blk_drewN ?_ _ | refine blk_drew ?_ | refine blk_alloc ?_ _)); with_reducible refine blk_far ?_ NB217_236.out _)); (repeat ((with_reducible repeat (first | refine blk_drewN ?_ _ | refine blk_drew ?_ | refine blk_alloc ?_ _)); with_reducible refine blk_far ?_ NB217_235.out _)); (with_reducible repeat (first | refine blk_drewN ?_ _ | refine blk_drew ?_ | refine blk_alloc ?_ _)); exact BK217.out⟩, ⟨by (repeat ((with_reducible repeat (first | refine blk_drewN ?_ _ | refine blk_drew ?_ | refine blk_alloc ?_ _)); with_reducible refine blk_far ?_ NB218_235.out _)); (repeat ((with_reducible repeat (first | refine blk_drewN ?_ _ | refine blk_drew ?_ | refine blk_alloc ?_ _)); with_reducible refine blk_far ?_ NB218_236.out _)); (repeat ((with_reducible repeat (first | refine blk_drewN ?_ _ | refine blk_drew ?_ | refine blk_alloc ?_ _)); with_reducible refine blk_far ?_ NB218_235.out _)); (with_reducible repeat (first | refine blk_drewN ?_ _ | refine blk_drew ?_ | refine blk_alloc ?_ _)); exact BK218.out⟩, ⟨by (with_reducible repeat (first | refine blk_drewN ?_ _ | refine blk_drew ?_ | refine blk_alloc ?_ _)); refine blk_put (cs := #[.int .i64 t220, .int .i64 t221, .int .i64 t222, .int .i64 t223, .int .i64 0, .int .i64 t225, .int .i64 0, .int .i64 t227, .int .i64 t228]) ?_ 1 _ rfl; (with_reducible repeat (first | refine blk_drewN ?_ _ | refine blk_drew ?_ | refine blk_alloc ?_ _)); refine blk_put (cs := #[.int .i64 t220, .int .i64 t221, .int .i64 t222, .int .i64 t223, .int .i64 0, .int .i64 t225, .int .i64 t226, .int .i64 t227, .int .i64 t228]) ?_ 6 _ rfl; (with_reducible repeat (first | refine blk_drewN ?_ _ | refine blk_drew ?_ | refine blk_alloc ?_ _)); refine blk_put (cs := #[.int .i64 t220, .int .i64 t221, .int .i64 t222, .int .i64 t223, .int .i64 t224, .int .i64 t225, .int .i64 t226, .int .i64 t227, .int .i64 t228]) ?_ 4 _ rfl; (repeat ((with_reducible repeat (first | refine blk_drewN ?_ _ | refine blk_drew ?_ | refine blk_alloc ?_ _)); with_reducible refine blk_far ?_ NB235_236.out _)); (with_reducible repeat (first | refine blk_drewN ?_ _ | refine blk_drew ?_ | refine blk_alloc ?_ _)); refine blk_put (cs := #[.int .i64 t220, .int .i64 t221, .int .i64 t222, .int .i64 t223, .int .i64 t224, .int .i64 t225, .int .i64 t226, .int .i64 t227, .int .i64 0]) ?_ 8 _ rfl; (with_reducible repeat (first | refine blk_drewN ?_ _ | refine blk_drew ?_ | refine blk_alloc ?_ _)); refine blk_put (cs := #[.int .i64 t220, .int .i64 t221, .int .i64 t222, .int .i64 t223, .int .i64 t224, .int .i64 t225, .int .i64 t226, .int .i64 0, .int .i64 0]) ?_ 7 _ rfl; (with_reducible repeat (first | refine blk_drewN ?_ _ | refine blk_drew ?_ | refine blk_alloc ?_ _)); refine blk_put (cs := #[.int .i64 t220, .int .i64 t221, .int .i64 t222, .int .i64 t223, .int .i64 t224, .int .i64 t225, .int .i64 0, .int .i64 0, .int .i64 0]) ?_ 6 _ rfl; (with_reducible repeat (first | refine blk_drewN ?_ _ | refine blk_drew ?_ | refine blk_alloc ?_ _)); refine blk_put (cs := #[.int .i64 t220, .int .i64 t221, .int .i64 t222, .int .i64 t223, .int .i64 t224, .int .i64 0, .int .i64 0, .int .i64 0, .int .i64 0]) ?_ 5 _ rfl; (with_reducible repeat (first | refine blk_drewN ?_ _ | refine blk_drew ?_ | refine blk_alloc ?_ _)); refine blk_put (cs := #[.int .i64 t220, .int .i64 t221, .int .i64 t222, .int .i64 t223, .int .i64 0, .int .i64 0, .int .i64 0, .int .i64 0, .int .i64 0]) ?_ 4 _ rfl; (with_reducible repeat (first | refine blk_drewN ?_ _ | refine blk_drew ?_ | refine blk_alloc ?_ _)); refine blk_put (cs := #[.int .i64 t220, .int .i64 t221, .int .i64 t222, .int .i64 0, .int .i64 0, .int .i64 0, .int .i64 0, .int .i64 0, .int .i64 0]) ?_ 3 _ rfl; (with_reducible repeat (first | refine blk_drewN ?_ _ | refine blk_drew ?_ | refine blk_alloc ?_ _)); refine blk_put (cs := #[.int .i64 t220, .int .i64 t221, .int .i64 0, .int .i64 0, .int .i64 0, .int .i64 0, .int .i64 0, .int .i64 0, .int .i64 0]) ?_ 2 _ rfl; (with_reducible repeat (first | refine blk_drewN ?_ _ | refine blk_drew ?_ | refine blk_alloc ?_ _)); refine blk_put (cs := #[.int .i64 t220, .int .i64 0, .int .i64 0, .int .i64 0, .int .i64 0, .int .i64 0, .int .i64 0, .int .i64 0, .int .i64 0]) ?_ 1 _ rfl; (with_reducible repeat (first | refine blk_drewN ?_ _ | refine blk_drew ?_ | refine blk_alloc ?_ _)); refine blk_put (cs := #[.int .i64 0, .int .i64 0, .int .i64 0, .int .i64 0, .int .i64 0, .int .i64 0, .int .i64 0, .int .i64 0, .int .i64 0]) ?_ 0 _ rfl; (with_reducible repeat (first | refine blk_drewN ?_ _ | refine blk_drew ?_ | refine blk_alloc ?_ _)); exact BK235.out⟩, ⟨by (repeat ((with_reducible repeat (first | refine blk_drewN ?_ _ | refine blk_drew ?_ | refine blk_alloc ?_ _)); with_reducible refine blk_far ?_ NB236_235.out _)); (with_reducible repeat (first | refine blk_drewN ?_ _ | refine blk_drew ?_ | refine blk_alloc ?_ _)); refine blk_put (cs := #[.string t229, .int .i64 t230, .int .i64 t231, .int .i64 t232, .int .i64 t233, .int .i64 t234]) ?_ 3 _ rfl; (with_reducible repeat (first | refine blk_drewN ?_ _ | refine blk_drew ?_ | refine blk_alloc ?_ _)); refine blk_put (cs := #[.string t229, .int .i64 t230, .int .i64 t231, .int .i64 t232, .int .i64 t233, .int .i64 0]) ?_ 5 _ rfl; (with_reducible repeat (first | refine blk_drewN ?_ _ | refine blk_drew ?_ | refine blk_alloc ?_ _)); refine blk_put (cs := #[.string t229, .int .i64 t230, .int .i64 t231, .int .i64 t232, .int .i64 0, .int .i64 0]) ?_ 4 _ rfl; (with_reducible repeat (first | refine blk_drewN ?_ _ | refine blk_drew ?_ | refine blk_alloc ?_ _)); refine blk_put (cs := #[.string t229, .int .i64 t230, .int .i64 t231, .int .i64 0, .int .i64 0, .int .i64 0]) ?_ 3 _ rfl; (with_reducible repeat (first | refine blk_drewN ?_ _ | refine blk_drew ?_ | refine blk_alloc ?_ _)); refine blk_put (cs := #[.string t229, .int .i64 t230, .int .i64 0, .int .i64 0, .int .i64 0, .int .i64 0]) ?_ 2 _ rfl; (with_reducible repeat (first | refine blk_drewN ?_ _ | refine blk_drew ?_ | refine blk_alloc ?_ _)); refine blk_put (cs := #[.string t229, .int .i64 0, .int .i64 0, .int .i64 0, .int .i64 0, .int .i64 0]) ?_ 1 _ rfl; (with_reducible repeat (first | refine blk_drewN ?_ _ | refine blk_drew ?_ | refine blk_alloc ?_ _)); refine blk_put (cs := #[.string (⟨#[]⟩ : ByteArray), .int .i64 0, .int .i64 0, .int .i64 0, .int .i64 0, .int .i64 0]) ?_ 0 _ rfl; (repeat ((with_reducible repeat (first | refine blk_drewN ?_ _ | refine blk_drew ?_ | refine blk_alloc ?_ _)); with_reducible refine blk_far ?_ NB236_235.out _)); (with_reducible repeat (first | refine blk_drewN ?_ _ | refine blk_drew ?_ | refine blk_alloc ?_ _)); exact BK236.out⟩, ⟨by repeat (first | (with_reducible first | exact HB.out | apply below_alloc | apply pw_below_drewN | apply below_drew1 | refine below_set ?_ GE217.out | refine below_set ?_ GE218.out | refine below_set ?_ GE235.out | refine below_set ?_ GE236.out) | exact HB.out)⟩⟩
        · rw [if_neg c37] at H
          have c37b0 : (t237 == 0) = false := beq_eq_false_iff_ne.mpr c37
          have c37b1 : (t237 != 0) = true := bne_iff_ne.mpr c37
          (first | rw [c37b0] | (simp only [i64_w, i32_w]; rw [c37b0]) | skip)
          have H' := Aside0.mk H
          clear H
          go_wp2
          go_meet
          case rel => exact ⟨_, (t221), (t224), (t226), (t232), H', ⟨by first | omega | exact Nat.le_refl _⟩, ⟨by (repeat ((with_reducible repeat (first | refine blk_drewN ?_ _ | refine blk_drew ?_ | refine blk_alloc ?_ _)); with_reducible refine blk_far ?_ NB217_236.out _)); (repeat ((with_reducible repeat (first | refine blk_drewN ?_ _ | refine blk_drew ?_ | refine blk_alloc ?_ _)); with_reducible refine blk_far ?_ NB217_235.out _)); (with_reducible repeat (first | refine blk_drewN ?_ _ | refine blk_drew ?_ | refine blk_alloc ?_ _)); exact BK217.out⟩, ⟨by (repeat ((with_reducible repeat (first | refine blk_drewN ?_ _ | refine blk_drew ?_ | refine blk_alloc ?_ _)); with_reducible refine blk_far ?_ NB218_236.out _)); (repeat ((with_reducible repeat (first | refine blk_drewN ?_ _ | refine blk_drew ?_ | refine blk_alloc ?_ _)); with_reducible refine blk_far ?_ NB218_235.out _)); (with_reducible repeat (first | refine blk_drewN ?_ _ | refine blk_drew ?_ | refine blk_alloc ?_ _)); exact BK218.out⟩, ⟨by (repeat ((with_reducible repeat (first | refine blk_drewN ?_ _ | refine blk_drew ?_ | refine blk_alloc ?_ _)); with_reducible refine blk_far ?_ NB235_236.out _)); (with_reducible repeat (first | refine blk_drewN ?_ _ | refine blk_drew ?_ | refine blk_alloc ?_ _)); refine blk_put (cs := #[.int .i64 t220, .int .i64 t221, .int .i64 t222, .int .i64 t223, .int .i64 t224, .int .i64 t225, .int .i64 t226, .int .i64 t227, .int .i64 0]) ?_ 8 _ rfl; (with_reducible repeat (first | refine blk_drewN ?_ _ | refine blk_drew ?_ | refine blk_alloc ?_ _)); refine blk_put (cs := #[.int .i64 t220, .int .i64 t221, .int .i64 t222, .int .i64 t223, .int .i64 t224, .int .i64 t225, .int .i64 t226, .int .i64 0, .int .i64 0]) ?_ 7 _ rfl; (with_reducible repeat (first | refine blk_drewN ?_ _ | refine blk_drew ?_ | refine blk_alloc ?_ _)); refine blk_put (cs := #[.int .i64 t220, .int .i64 t221, .int .i64 t222, .int .i64 t223, .int .i64 t224, .int .i64 t225, .int .i64 0, .int .i64 0, .int .i64 0]) ?_ 6 _ rfl; (with_reducible repeat (first | refine blk_drewN ?_ _ | refine blk_drew ?_ | refine blk_alloc ?_ _)); refine blk_put (cs := #[.int .i64 t220, .int .i64 t221, .int .i64 t222, .int .i64 t223, .int .i64 t224, .int .i64 0, .int .i64 0, .int .i64 0, .int .i64 0]) ?_ 5 _ rfl; (with_reducible repeat (first | refine blk_drewN ?_ _ | refine blk_drew ?_ | refine blk_alloc ?_ _)); refine blk_put (cs := #[.int .i64 t220, .int .i64 t221, .int .i64 t222, .int .i64 t223, .int .i64 0, .int .i64 0, .int .i64 0, .int .i64 0, .int .i64 0]) ?_ 4 _ rfl; (with_reducible repeat (first | refine blk_drewN ?_ _ | refine blk_drew ?_ | refine blk_alloc ?_ _)); refine blk_put (cs := #[.int .i64 t220, .int .i64 t221, .int .i64 t222, .int .i64 0, .int .i64 0, .int .i64 0, .int .i64 0, .int .i64 0, .int .i64 0]) ?_ 3 _ rfl; (with_reducible repeat (first | refine blk_drewN ?_ _ | refine blk_drew ?_ | refine blk_alloc ?_ _)); refine blk_put (cs := #[.int .i64 t220, .int .i64 t221, .int .i64 0, .int .i64 0, .int .i64 0, .int .i64 0, .int .i64 0, .int .i64 0, .int .i64 0]) ?_ 2 _ rfl; (with_reducible repeat (first | refine blk_drewN ?_ _ | refine blk_drew ?_ | refine blk_alloc ?_ _)); refine blk_put (cs := #[.int .i64 t220, .int .i64 0, .int .i64 0, .int .i64 0, .int .i64 0, .int .i64 0, .int .i64 0, .int .i64 0, .int .i64 0]) ?_ 1 _ rfl; (with_reducible repeat (first | refine blk_drewN ?_ _ | refine blk_drew ?_ | refine blk_alloc ?_ _)); refine blk_put (cs := #[.int .i64 0, .int .i64 0, .int .i64 0, .int .i64 0, .int .i64 0, .int .i64 0, .int .i64 0, .int .i64 0, .int .i64 0]) ?_ 0 _ rfl; (with_reducible repeat (first | refine blk_drewN ?_ _ | refine blk_drew ?_ | refine blk_alloc ?_ _)); exact BK235.out⟩, ⟨by (with_reducible repeat (first | refine blk_drewN ?_ _ | refine blk_drew ?_ | refine blk_alloc ?_ _)); refine blk_put (cs := #[.string t229, .int .i64 t230, .int .i64 t231, .int .i64 t232, .int .i64 t233, .int .i64 0]) ?_ 5 _ rfl; (with_reducible repeat (first | refine blk_drewN ?_ _ | refine blk_drew ?_ | refine blk_alloc ?_ _)); refine blk_put (cs := #[.string t229, .int .i64 t230, .int .i64 t231, .int .i64 t232, .int .i64 0, .int .i64 0]) ?_ 4 _ rfl; (with_reducible repeat (first | refine blk_drewN ?_ _ | refine blk_drew ?_ | refine blk_alloc ?_ _)); refine blk_put (cs := #[.string t229, .int .i64 t230, .int .i64 t231, .int .i64 0, .int .i64 0, .int .i64 0]) ?_ 3 _ rfl; (with_reducible repeat (first | refine blk_drewN ?_ _ | refine blk_drew ?_ | refine blk_alloc ?_ _)); refine blk_put (cs := #[.string t229, .int .i64 t230, .int .i64 0, .int .i64 0, .int .i64 0, .int .i64 0]) ?_ 2 _ rfl; (with_reducible repeat (first | refine blk_drewN ?_ _ | refine blk_drew ?_ | refine blk_alloc ?_ _)); refine blk_put (cs := #[.string t229, .int .i64 0, .int .i64 0, .int .i64 0, .int .i64 0, .int .i64 0]) ?_ 1 _ rfl; (with_reducible repeat (first | refine blk_drewN ?_ _ | refine blk_drew ?_ | refine blk_alloc ?_ _)); refine blk_put (cs := #[.string (⟨#[]⟩ : ByteArray), .int .i64 0, .int .i64 0, .int .i64 0, .int .i64 0, .int .i64 0]) ?_ 0 _ rfl; (repeat ((with_reducible repeat (first | refine blk_drewN ?_ _ | refine blk_drew ?_ | refine blk_alloc ?_ _)); with_reducible refine blk_far ?_ NB236_235.out _)); (with_reducible repeat (first | refine blk_drewN ?_ _ | refine blk_drew ?_ | refine blk_alloc ?_ _)); exact BK236.out⟩, ⟨by repeat (first | (with_reducible first | exact HB.out | apply below_alloc | apply pw_below_drewN | apply below_drew1 | refine below_set ?_ GE217.out | refine below_set ?_ GE218.out | refine below_set ?_ GE235.out | refine below_set ?_ GE236.out) | exact HB.out)⟩⟩
      case rest =>
        clear HC8
        try clear c1
        try clear p2
        try clear c3
        try clear c4
        try clear c15
        try clear c18
        try clear c33
        try clear c34
        try clear c35
        try clear c37
        try clear c37b0
        try clear c37b1
        try clear c38
        try clear c39
        try clear c40
        try clear c42
        try clear c43
        try clear hcz36_0
        try clear hcz36_1
        try clear hcz36_2
        try clear hcz36_3
        try clear hcz36_4
        try clear hcz36_5
        try clear hcz36_6
        try clear hcz36_7
        try clear hcz36_8
        try clear hcz41_0
        try clear hcz41_1
        try clear hcz41_2
        try clear hcz41_3
        try clear hcz41_4
        try clear hcz41_5
        try clear hcz44_0
        try clear hcz44_1
        try clear hcz44_2
        try clear hcz44_3
        try clear hcz44_4
        try clear hcz44_5
        try clear hcz44_6
        try clear hcz44_7
        try clear hcz44_8
        try clear hfz36_0
        try clear hfz36_1
        try clear hfz36_2
        try clear hfz36_3
        try clear hfz36_4
        try clear hfz36_5
        try clear hfz36_6
        try clear hfz36_7
        try clear hfz36_8
        try clear hfz41_0
        try clear hfz41_1
        try clear hfz41_2
        try clear hfz41_3
        try clear hfz41_4
        try clear hfz41_5
        try clear hfz44_0
        try clear hfz44_1
        try clear hfz44_2
        try clear hfz44_3
        try clear hfz44_4
        try clear hfz44_5
        try clear hfz44_6
        try clear hfz44_7
        try clear hfz44_8
        obtain ⟨kq, x236001_7, x236004_7, x236006_7, x237003_7, HA, HJ7, BK217, BK218, BK235, BK236, HB⟩ := hcut
        cases kq with
        | zero => exact absurd HA.out (by simp [damperlaw10_ScaleZero.j0])
        | succ kj7 =>
          have H := HA.out
          clear HA
          simp only [damperlaw10_ScaleZero.j0] at H
          replace H := Option.bind_eq_some_iff.mp H
          obtain ⟨⟨t238, t239⟩, A450, H⟩ := H
          replace H : (if t238 = 0 then (if x237003_7 = 0 then (if t223 = 0 then (if t222 ≤ 1 then (if t220 = 0 then (some true) else (some (decide (t228 ≥ t234)))) else (some false)) else (some false)) else (some false)) else (some true)) = some r := H
          have A45 := Aside0.mk A450
          clear A450
          by_cases c46 : t238 = 0
          · rw [if_pos c46] at H
            have c46b0 : (t238 == 0) = true := beq_iff_eq.mpr c46
            have c46b1 : (t238 != 0) = false := bne_eq_false_iff_eq.mpr c46
            clear c46
            by_cases c47 : x237003_7 = 0
            rotate_left
            · rw [if_neg c47] at H
              have c47b0 : (x237003_7 == 0) = false := beq_eq_false_iff_ne.mpr c47
              have c47b1 : (x237003_7 != 0) = true := bne_iff_ne.mpr c47
              exact absurd (Option.some.inj H) (by rw [hr0_.out]; decide)
            rw [if_pos c47] at H
            have c47b0 : (x237003_7 == 0) = true := beq_iff_eq.mpr c47
            have c47b1 : (x237003_7 != 0) = false := bne_eq_false_iff_eq.mpr c47
            clear c47
            by_cases c48 : t223 = 0
            rotate_left
            · rw [if_neg c48] at H
              have c48b0 : (t223 == 0) = false := beq_eq_false_iff_ne.mpr c48
              have c48b1 : (t223 != 0) = true := bne_iff_ne.mpr c48
              exact absurd (Option.some.inj H) (by rw [hr0_.out]; decide)
            rw [if_pos c48] at H
            have c48b0 : (t223 == 0) = true := beq_iff_eq.mpr c48
            have c48b1 : (t223 != 0) = false := bne_eq_false_iff_eq.mpr c48
            clear c48
            by_cases c49 : t222 ≤ 1
            rotate_left
            · rw [if_neg c49] at H
              have c49b0 : decide (t222 ≤ 1) = false := decide_eq_false c49
              clear c49
              exact absurd (Option.some.inj H) (by rw [hr0_.out]; decide)
            rw [if_pos c49] at H
            have c49b0 : decide (t222 ≤ 1) = true := decide_eq_true c49
            clear c49
            by_cases c50 : t220 = 0
            · rw [if_pos c50] at H
              have c50b0 : (t220 == 0) = true := beq_iff_eq.mpr c50
              have c50b1 : (t220 != 0) = false := bne_eq_false_iff_eq.mpr c50
              clear c50
              obtain rfl := Option.some.inj H
              have hnb51 := NB235_217.out
              have hnc51 := NB217_235.out
              have hnb52 := NB235_218.out
              have hnc52 := NB218_235.out
              have hnb53 := NB235_236.out
              have hnc53 := NB236_235.out
              have hcz54_0 : wc.cell? ⟨gb235, 0, none⟩ = some (.int .i64 t220) := bc BK235 0
              have hcz54_1 : wc.cell? ⟨gb235, 1, none⟩ = some (.int .i64 x236001_7) := bc BK235 1
              have hcz54_2 : wc.cell? ⟨gb235, 2, none⟩ = some (.int .i64 t222) := bc BK235 2
              have hcz54_3 : wc.cell? ⟨gb235, 3, none⟩ = some (.int .i64 t223) := bc BK235 3
              have hcz54_4 : wc.cell? ⟨gb235, 4, none⟩ = some (.int .i64 x236004_7) := bc BK235 4
              have hcz54_5 : wc.cell? ⟨gb235, 5, none⟩ = some (.int .i64 t225) := bc BK235 5
              have hcz54_6 : wc.cell? ⟨gb235, 6, none⟩ = some (.int .i64 x236006_7) := bc BK235 6
              have hcz54_7 : wc.cell? ⟨gb235, 7, none⟩ = some (.int .i64 t227) := bc BK235 7
              have hcz54_8 : wc.cell? ⟨gb235, 8, none⟩ = some (.int .i64 t228) := bc BK235 8
              have hfz54_0 := blk_frozen BK235.out 0
              have hfz54_1 := blk_frozen BK235.out 1
              have hfz54_2 := blk_frozen BK235.out 2
              have hfz54_3 := blk_frozen BK235.out 3
              have hfz54_4 := blk_frozen BK235.out 4
              have hfz54_5 := blk_frozen BK235.out 5
              have hfz54_6 := blk_frozen BK235.out 6
              have hfz54_7 := blk_frozen BK235.out 7
              have hfz54_8 := blk_frozen BK235.out 8
              have hnb55 := NB236_217.out
              have hnc55 := NB217_236.out
              have hnb56 := NB236_218.out
              have hnc56 := NB218_236.out
              have hcz57_0 : wc.cell? ⟨gb236, 0, none⟩ = some (.string t229) := bc BK236 0
              have hcz57_1 : wc.cell? ⟨gb236, 1, none⟩ = some (.int .i64 t230) := bc BK236 1
              have hcz57_2 : wc.cell? ⟨gb236, 2, none⟩ = some (.int .i64 t231) := bc BK236 2
              have hcz57_3 : wc.cell? ⟨gb236, 3, none⟩ = some (.int .i64 x237003_7) := bc BK236 3
              have hcz57_4 : wc.cell? ⟨gb236, 4, none⟩ = some (.int .i64 t233) := bc BK236 4
              have hcz57_5 : wc.cell? ⟨gb236, 5, none⟩ = some (.int .i64 t234) := bc BK236 5
              have hfz57_0 := blk_frozen BK236.out 0
              have hfz57_1 := blk_frozen BK236.out 1
              have hfz57_2 := blk_frozen BK236.out 2
              have hfz57_3 := blk_frozen BK236.out 3
              have hfz57_4 := blk_frozen BK236.out 4
              have hfz57_5 := blk_frozen BK236.out 5
              go_wp2_with (first | ((with_reducible refine gate_callee (f := 16) rfl ?_); refine goesL_ (some 24) rfl rfl Try.func16 (by kernel_rfl) rfl #[.agg #[.int .i64 t220, .int .i64 x236001_7, .int .i64 t222, .int .i64 t223, .int .i64 x236004_7, .int .i64 t225, .int .i64 x236006_7, .int .i64 t227, .int .i64 t228], .agg #[.string t229, .int .i64 t230, .int .i64 t231, .int .i64 x237003_7, .int .i64 t233, .int .i64 t234]] rfl (by (try simp only [List.map_toArray, List.map_cons, List.map_nil]); first | done | rfl | (simp only [List.length_drop, List.length_take]; rfl)) ?_; (with_reducible refine (damperlaw10_decide.calls kj7 t220 x236001_7 t222 t223 x236004_7 t225 x236006_7 t227 t228 t229 t230 t231 x237003_7 t233 t234 t238 t239 _ A45.out).mono ?_); rintro e w58 ⟨rfl, hb⟩; refine ⟨_, rfl, ?_⟩; have n0_ := Aside0.mk (blk_below (g := gb217) (pk BK217) hb); have n1_ := Aside0.mk (blk_below (g := gb218) (pk BK218) hb); have n2_ := Aside0.mk (blk_below (g := gb235) (pk BK235) hb); have n3_ := Aside0.mk (blk_below (g := gb236) (pk BK236) hb); have n4_ := Aside0.mk (below_step (by repeat (first | (with_reducible first | exact HB.out | apply below_alloc | apply pw_below_drewN | apply below_drew1 | refine below_set ?_ GE217.out | refine below_set ?_ GE218.out | refine below_set ?_ GE235.out | refine below_set ?_ GE236.out) | exact HB.out)) hb); clear BK217; clear BK218; clear BK235; clear BK236; clear HB; have BK217 := n0_; have BK218 := n1_; have BK235 := n2_; have BK236 := n3_; have HB := n4_; clear n0_ n1_ n2_ n3_ n4_; (try clear hb); (try clear hb2); (try clear hk); (try clear hi)) | ((with_reducible refine gate_dst (N := 7) rfl ?_); refine box_event ?hg (N := 7) ?hd (cs := #[.int .i64 0, .int .i64 0]) (t := 30) ?hr ?_; (case hd => rfl); (case hg => rfl); (case hr => first | (go_simp; done) | (go_simp; rfl)); intro gb240 hg w59 hbox hb; have n0_ := Aside0.mk (blk_below (g := gb217) (pk BK217) hb); have n1_ := Aside0.mk (blk_below (g := gb218) (pk BK218) hb); have n2_ := Aside0.mk (blk_below (g := gb235) (pk BK235) hb); have n3_ := Aside0.mk (blk_below (g := gb236) (pk BK236) hb); have n4_ := Aside0.mk (below_step (by repeat (first | (with_reducible first | exact HB.out | apply below_alloc | apply pw_below_drewN | apply below_drew1 | refine below_set ?_ GE217.out | refine below_set ?_ GE218.out | refine below_set ?_ GE235.out | refine below_set ?_ GE236.out) | exact HB.out)) hb); have n5_ := Aside0.mk (hbox); have n6_ := Aside0.mk ((by rw [hg]; exact (below_size (by repeat (first | (with_reducible first | exact HB.out | apply below_alloc | apply pw_below_drewN | apply below_drew1 | refine below_set ?_ GE217.out | refine below_set ?_ GE218.out | refine below_set ?_ GE235.out | refine below_set ?_ GE236.out) | exact HB.out))) : w.heap.size ≤ gb240)); have n7_ := Aside0.mk ((by rw [hg]; exact (below_size (by repeat (first | (with_reducible first | exact HB.out | apply below_alloc | apply pw_below_drewN | apply below_drew1 | refine below_set ?_ GE217.out | refine below_set ?_ GE218.out | refine below_set ?_ GE235.out | refine below_set ?_ GE236.out) | exact HB.out))) : w.heap.size ≤ gb240)); have n8_ := Aside0.mk ((ne_lt hg (pk BK217) : gb217 ≠ gb240)); have n9_ := Aside0.mk ((ne_gt hg (pk BK217) : gb240 ≠ gb217)); have n10_ := Aside0.mk ((ne_lt hg (pk BK218) : gb218 ≠ gb240)); have n11_ := Aside0.mk ((ne_gt hg (pk BK218) : gb240 ≠ gb218)); have n12_ := Aside0.mk ((ne_lt hg (pk BK235) : gb235 ≠ gb240)); have n13_ := Aside0.mk ((ne_gt hg (pk BK235) : gb240 ≠ gb235)); have n14_ := Aside0.mk ((ne_lt hg (pk BK236) : gb236 ≠ gb240)); have n15_ := Aside0.mk ((ne_gt hg (pk BK236) : gb240 ≠ gb236)); clear BK217; clear BK218; clear BK235; clear BK236; clear HB; have BK217 := n0_; have BK218 := n1_; have BK235 := n2_; have BK236 := n3_; have HB := n4_; have BK240 := n5_; have GW240 := n6_; have GE240 := n7_; have NB217_240 := n8_; have NB240_217 := n9_; have NB218_240 := n10_; have NB240_218 := n11_; have NB235_240 := n12_; have NB240_235 := n13_; have NB236_240 := n14_; have NB240_236 := n15_; clear n0_ n1_ n2_ n3_ n4_ n5_ n6_ n7_ n8_ n9_ n10_ n11_ n12_ n13_ n14_ n15_; clear hb hbox hg; have hnb60 := NB240_217.out; have hnc60 := NB217_240.out; have hnb61 := NB240_218.out; have hnc61 := NB218_240.out; have hnb62 := NB240_235.out; have hnc62 := NB235_240.out; have hnb63 := NB240_236.out; have hnc63 := NB236_240.out; have hcz64_0 : w59.cell? ⟨gb240, 0, none⟩ = some (.int .i64 0) := bc BK240 0; have hcz64_1 : w59.cell? ⟨gb240, 1, none⟩ = some (.int .i64 0) := bc BK240 1; have hfz64_0 := blk_frozen BK240.out 0; have hfz64_1 := blk_frozen BK240.out 1; have hcz65_0 : w59.cell? ⟨gb236, 0, none⟩ = some (.string t229) := bc BK236 0; have hcz65_1 : w59.cell? ⟨gb236, 1, none⟩ = some (.int .i64 t230) := bc BK236 1; have hcz65_2 : w59.cell? ⟨gb236, 2, none⟩ = some (.int .i64 t231) := bc BK236 2; have hcz65_3 : w59.cell? ⟨gb236, 3, none⟩ = some (.int .i64 x237003_7) := bc BK236 3; have hcz65_4 : w59.cell? ⟨gb236, 4, none⟩ = some (.int .i64 t233) := bc BK236 4; have hcz65_5 : w59.cell? ⟨gb236, 5, none⟩ = some (.int .i64 t234) := bc BK236 5; have hfz65_0 := blk_frozen BK236.out 0; have hfz65_1 := blk_frozen BK236.out 1; have hfz65_2 := blk_frozen BK236.out 2; have hfz65_3 := blk_frozen BK236.out 3; have hfz65_4 := blk_frozen BK236.out 4; have hfz65_5 := blk_frozen BK236.out 5; have hcz66_0 : w59.cell? ⟨gb235, 0, none⟩ = some (.int .i64 t220) := bc BK235 0; have hcz66_1 : w59.cell? ⟨gb235, 1, none⟩ = some (.int .i64 x236001_7) := bc BK235 1; have hcz66_2 : w59.cell? ⟨gb235, 2, none⟩ = some (.int .i64 t222) := bc BK235 2; have hcz66_3 : w59.cell? ⟨gb235, 3, none⟩ = some (.int .i64 t223) := bc BK235 3; have hcz66_4 : w59.cell? ⟨gb235, 4, none⟩ = some (.int .i64 x236004_7) := bc BK235 4; have hcz66_5 : w59.cell? ⟨gb235, 5, none⟩ = some (.int .i64 t225) := bc BK235 5; have hcz66_6 : w59.cell? ⟨gb235, 6, none⟩ = some (.int .i64 x236006_7) := bc BK235 6; have hcz66_7 : w59.cell? ⟨gb235, 7, none⟩ = some (.int .i64 t227) := bc BK235 7; have hcz66_8 : w59.cell? ⟨gb235, 8, none⟩ = some (.int .i64 t228) := bc BK235 8; have hfz66_0 := blk_frozen BK235.out 0; have hfz66_1 := blk_frozen BK235.out 1; have hfz66_2 := blk_frozen BK235.out 2; have hfz66_3 := blk_frozen BK235.out 3; have hfz66_4 := blk_frozen BK235.out 4; have hfz66_5 := blk_frozen BK235.out 5; have hfz66_6 := blk_frozen BK235.out 6; have hfz66_7 := blk_frozen BK235.out 7; have hfz66_8 := blk_frozen BK235.out 8))
              go_ret
              exact ⟨by first | rfl | (simp [errW_none, errW_some] <;> rfl) | (simp [*, errW_none, errW_some] <;> rfl), by repeat (first | (with_reducible first | exact HB.out | apply below_alloc | apply pw_below_drewN | apply below_drew1 | refine below_set ?_ GE217.out | refine below_set ?_ GE218.out | refine below_set ?_ GE235.out | refine below_set ?_ GE236.out | refine below_set ?_ GE240.out) | exact HB.out)⟩
            · rw [if_neg c50] at H
              have c50b0 : (t220 == 0) = false := beq_eq_false_iff_ne.mpr c50
              have c50b1 : (t220 != 0) = true := bne_iff_ne.mpr c50
              obtain rfl := Option.some.inj H
              have hnb67 := NB235_217.out
              have hnc67 := NB217_235.out
              have hnb68 := NB235_218.out
              have hnc68 := NB218_235.out
              have hnb69 := NB235_236.out
              have hnc69 := NB236_235.out
              have hcz70_0 : wc.cell? ⟨gb235, 0, none⟩ = some (.int .i64 t220) := bc BK235 0
              have hcz70_1 : wc.cell? ⟨gb235, 1, none⟩ = some (.int .i64 x236001_7) := bc BK235 1
              have hcz70_2 : wc.cell? ⟨gb235, 2, none⟩ = some (.int .i64 t222) := bc BK235 2
              have hcz70_3 : wc.cell? ⟨gb235, 3, none⟩ = some (.int .i64 t223) := bc BK235 3
              have hcz70_4 : wc.cell? ⟨gb235, 4, none⟩ = some (.int .i64 x236004_7) := bc BK235 4
              have hcz70_5 : wc.cell? ⟨gb235, 5, none⟩ = some (.int .i64 t225) := bc BK235 5
              have hcz70_6 : wc.cell? ⟨gb235, 6, none⟩ = some (.int .i64 x236006_7) := bc BK235 6
              have hcz70_7 : wc.cell? ⟨gb235, 7, none⟩ = some (.int .i64 t227) := bc BK235 7
              have hcz70_8 : wc.cell? ⟨gb235, 8, none⟩ = some (.int .i64 t228) := bc BK235 8
              have hfz70_0 := blk_frozen BK235.out 0
              have hfz70_1 := blk_frozen BK235.out 1
              have hfz70_2 := blk_frozen BK235.out 2
              have hfz70_3 := blk_frozen BK235.out 3
              have hfz70_4 := blk_frozen BK235.out 4
              have hfz70_5 := blk_frozen BK235.out 5
              have hfz70_6 := blk_frozen BK235.out 6
              have hfz70_7 := blk_frozen BK235.out 7
              have hfz70_8 := blk_frozen BK235.out 8
              have hnb71 := NB236_217.out
              have hnc71 := NB217_236.out
              have hnb72 := NB236_218.out
              have hnc72 := NB218_236.out
              have hcz73_0 : wc.cell? ⟨gb236, 0, none⟩ = some (.string t229) := bc BK236 0
              have hcz73_1 : wc.cell? ⟨gb236, 1, none⟩ = some (.int .i64 t230) := bc BK236 1
              have hcz73_2 : wc.cell? ⟨gb236, 2, none⟩ = some (.int .i64 t231) := bc BK236 2
              have hcz73_3 : wc.cell? ⟨gb236, 3, none⟩ = some (.int .i64 x237003_7) := bc BK236 3
              have hcz73_4 : wc.cell? ⟨gb236, 4, none⟩ = some (.int .i64 t233) := bc BK236 4
              have hcz73_5 : wc.cell? ⟨gb236, 5, none⟩ = some (.int .i64 t234) := bc BK236 5
              have hfz73_0 := blk_frozen BK236.out 0
              have hfz73_1 := blk_frozen BK236.out 1
              have hfz73_2 := blk_frozen BK236.out 2
              have hfz73_3 := blk_frozen BK236.out 3
              have hfz73_4 := blk_frozen BK236.out 4
              have hfz73_5 := blk_frozen BK236.out 5
              go_wp2_with (first | ((with_reducible refine gate_callee (f := 16) rfl ?_); refine goesL_ (some 24) rfl rfl Try.func16 (by kernel_rfl) rfl #[.agg #[.int .i64 t220, .int .i64 x236001_7, .int .i64 t222, .int .i64 t223, .int .i64 x236004_7, .int .i64 t225, .int .i64 x236006_7, .int .i64 t227, .int .i64 t228], .agg #[.string t229, .int .i64 t230, .int .i64 t231, .int .i64 x237003_7, .int .i64 t233, .int .i64 t234]] rfl (by (try simp only [List.map_toArray, List.map_cons, List.map_nil]); first | done | rfl | (simp only [List.length_drop, List.length_take]; rfl)) ?_; (with_reducible refine (damperlaw10_decide.calls kj7 t220 x236001_7 t222 t223 x236004_7 t225 x236006_7 t227 t228 t229 t230 t231 x237003_7 t233 t234 t238 t239 _ A45.out).mono ?_); rintro e w74 ⟨rfl, hb⟩; refine ⟨_, rfl, ?_⟩; have n0_ := Aside0.mk (blk_below (g := gb217) (pk BK217) hb); have n1_ := Aside0.mk (blk_below (g := gb218) (pk BK218) hb); have n2_ := Aside0.mk (blk_below (g := gb235) (pk BK235) hb); have n3_ := Aside0.mk (blk_below (g := gb236) (pk BK236) hb); have n4_ := Aside0.mk (below_step (by repeat (first | (with_reducible first | exact HB.out | apply below_alloc | apply pw_below_drewN | apply below_drew1 | refine below_set ?_ GE217.out | refine below_set ?_ GE218.out | refine below_set ?_ GE235.out | refine below_set ?_ GE236.out) | exact HB.out)) hb); clear BK217; clear BK218; clear BK235; clear BK236; clear HB; have BK217 := n0_; have BK218 := n1_; have BK235 := n2_; have BK236 := n3_; have HB := n4_; clear n0_ n1_ n2_ n3_ n4_; (try clear hb); (try clear hb2); (try clear hk); (try clear hi)) | ((with_reducible refine gate_dst (N := 7) rfl ?_); refine box_event ?hg (N := 7) ?hd (cs := #[.int .i64 0, .int .i64 0]) (t := 30) ?hr ?_; (case hd => rfl); (case hg => rfl); (case hr => first | (go_simp; done) | (go_simp; rfl)); intro gb240 hg w75 hbox hb; have n0_ := Aside0.mk (blk_below (g := gb217) (pk BK217) hb); have n1_ := Aside0.mk (blk_below (g := gb218) (pk BK218) hb); have n2_ := Aside0.mk (blk_below (g := gb235) (pk BK235) hb); have n3_ := Aside0.mk (blk_below (g := gb236) (pk BK236) hb); have n4_ := Aside0.mk (below_step (by repeat (first | (with_reducible first | exact HB.out | apply below_alloc | apply pw_below_drewN | apply below_drew1 | refine below_set ?_ GE217.out | refine below_set ?_ GE218.out | refine below_set ?_ GE235.out | refine below_set ?_ GE236.out) | exact HB.out)) hb); have n5_ := Aside0.mk (hbox); have n6_ := Aside0.mk ((by rw [hg]; exact (below_size (by repeat (first | (with_reducible first | exact HB.out | apply below_alloc | apply pw_below_drewN | apply below_drew1 | refine below_set ?_ GE217.out | refine below_set ?_ GE218.out | refine below_set ?_ GE235.out | refine below_set ?_ GE236.out) | exact HB.out))) : w.heap.size ≤ gb240)); have n7_ := Aside0.mk ((by rw [hg]; exact (below_size (by repeat (first | (with_reducible first | exact HB.out | apply below_alloc | apply pw_below_drewN | apply below_drew1 | refine below_set ?_ GE217.out | refine below_set ?_ GE218.out | refine below_set ?_ GE235.out | refine below_set ?_ GE236.out) | exact HB.out))) : w.heap.size ≤ gb240)); have n8_ := Aside0.mk ((ne_lt hg (pk BK217) : gb217 ≠ gb240)); have n9_ := Aside0.mk ((ne_gt hg (pk BK217) : gb240 ≠ gb217)); have n10_ := Aside0.mk ((ne_lt hg (pk BK218) : gb218 ≠ gb240)); have n11_ := Aside0.mk ((ne_gt hg (pk BK218) : gb240 ≠ gb218)); have n12_ := Aside0.mk ((ne_lt hg (pk BK235) : gb235 ≠ gb240)); have n13_ := Aside0.mk ((ne_gt hg (pk BK235) : gb240 ≠ gb235)); have n14_ := Aside0.mk ((ne_lt hg (pk BK236) : gb236 ≠ gb240)); have n15_ := Aside0.mk ((ne_gt hg (pk BK236) : gb240 ≠ gb236)); clear BK217; clear BK218; clear BK235; clear BK236; clear HB; have BK217 := n0_; have BK218 := n1_; have BK235 := n2_; have BK236 := n3_; have HB := n4_; have BK240 := n5_; have GW240 := n6_; have GE240 := n7_; have NB217_240 := n8_; have NB240_217 := n9_; have NB218_240 := n10_; have NB240_218 := n11_; have NB235_240 := n12_; have NB240_235 := n13_; have NB236_240 := n14_; have NB240_236 := n15_; clear n0_ n1_ n2_ n3_ n4_ n5_ n6_ n7_ n8_ n9_ n10_ n11_ n12_ n13_ n14_ n15_; clear hb hbox hg; have hnb76 := NB240_217.out; have hnc76 := NB217_240.out; have hnb77 := NB240_218.out; have hnc77 := NB218_240.out; have hnb78 := NB240_235.out; have hnc78 := NB235_240.out; have hnb79 := NB240_236.out; have hnc79 := NB236_240.out; have hcz80_0 : w75.cell? ⟨gb240, 0, none⟩ = some (.int .i64 0) := bc BK240 0; have hcz80_1 : w75.cell? ⟨gb240, 1, none⟩ = some (.int .i64 0) := bc BK240 1; have hfz80_0 := blk_frozen BK240.out 0; have hfz80_1 := blk_frozen BK240.out 1; have hcz81_0 : w75.cell? ⟨gb236, 0, none⟩ = some (.string t229) := bc BK236 0; have hcz81_1 : w75.cell? ⟨gb236, 1, none⟩ = some (.int .i64 t230) := bc BK236 1; have hcz81_2 : w75.cell? ⟨gb236, 2, none⟩ = some (.int .i64 t231) := bc BK236 2; have hcz81_3 : w75.cell? ⟨gb236, 3, none⟩ = some (.int .i64 x237003_7) := bc BK236 3; have hcz81_4 : w75.cell? ⟨gb236, 4, none⟩ = some (.int .i64 t233) := bc BK236 4; have hcz81_5 : w75.cell? ⟨gb236, 5, none⟩ = some (.int .i64 t234) := bc BK236 5; have hfz81_0 := blk_frozen BK236.out 0; have hfz81_1 := blk_frozen BK236.out 1; have hfz81_2 := blk_frozen BK236.out 2; have hfz81_3 := blk_frozen BK236.out 3; have hfz81_4 := blk_frozen BK236.out 4; have hfz81_5 := blk_frozen BK236.out 5; have hcz82_0 : w75.cell? ⟨gb235, 0, none⟩ = some (.int .i64 t220) := bc BK235 0; have hcz82_1 : w75.cell? ⟨gb235, 1, none⟩ = some (.int .i64 x236001_7) := bc BK235 1; have hcz82_2 : w75.cell? ⟨gb235, 2, none⟩ = some (.int .i64 t222) := bc BK235 2; have hcz82_3 : w75.cell? ⟨gb235, 3, none⟩ = some (.int .i64 t223) := bc BK235 3; have hcz82_4 : w75.cell? ⟨gb235, 4, none⟩ = some (.int .i64 x236004_7) := bc BK235 4; have hcz82_5 : w75.cell? ⟨gb235, 5, none⟩ = some (.int .i64 t225) := bc BK235 5; have hcz82_6 : w75.cell? ⟨gb235, 6, none⟩ = some (.int .i64 x236006_7) := bc BK235 6; have hcz82_7 : w75.cell? ⟨gb235, 7, none⟩ = some (.int .i64 t227) := bc BK235 7; have hcz82_8 : w75.cell? ⟨gb235, 8, none⟩ = some (.int .i64 t228) := bc BK235 8; have hfz82_0 := blk_frozen BK235.out 0; have hfz82_1 := blk_frozen BK235.out 1; have hfz82_2 := blk_frozen BK235.out 2; have hfz82_3 := blk_frozen BK235.out 3; have hfz82_4 := blk_frozen BK235.out 4; have hfz82_5 := blk_frozen BK235.out 5; have hfz82_6 := blk_frozen BK235.out 6; have hfz82_7 := blk_frozen BK235.out 7; have hfz82_8 := blk_frozen BK235.out 8))
              go_ret
              exact ⟨by first | rfl | (simp [errW_none, errW_some] <;> rfl) | (simp [*, errW_none, errW_some] <;> rfl), by repeat (first | (with_reducible first | exact HB.out | apply below_alloc | apply pw_below_drewN | apply below_drew1 | refine below_set ?_ GE217.out | refine below_set ?_ GE218.out | refine below_set ?_ GE235.out | refine below_set ?_ GE236.out | refine below_set ?_ GE240.out) | exact HB.out)⟩
          · rw [if_neg c46] at H
            have c46b0 : (t238 == 0) = false := beq_eq_false_iff_ne.mpr c46
            have c46b1 : (t238 != 0) = true := bne_iff_ne.mpr c46
            obtain rfl := Option.some.inj H
            have hnb83 := NB235_217.out
            have hnc83 := NB217_235.out
            have hnb84 := NB235_218.out
            have hnc84 := NB218_235.out
            have hnb85 := NB235_236.out
            have hnc85 := NB236_235.out
            have hcz86_0 : wc.cell? ⟨gb235, 0, none⟩ = some (.int .i64 t220) := bc BK235 0
            have hcz86_1 : wc.cell? ⟨gb235, 1, none⟩ = some (.int .i64 x236001_7) := bc BK235 1
            have hcz86_2 : wc.cell? ⟨gb235, 2, none⟩ = some (.int .i64 t222) := bc BK235 2
            have hcz86_3 : wc.cell? ⟨gb235, 3, none⟩ = some (.int .i64 t223) := bc BK235 3
            have hcz86_4 : wc.cell? ⟨gb235, 4, none⟩ = some (.int .i64 x236004_7) := bc BK235 4
            have hcz86_5 : wc.cell? ⟨gb235, 5, none⟩ = some (.int .i64 t225) := bc BK235 5
            have hcz86_6 : wc.cell? ⟨gb235, 6, none⟩ = some (.int .i64 x236006_7) := bc BK235 6
            have hcz86_7 : wc.cell? ⟨gb235, 7, none⟩ = some (.int .i64 t227) := bc BK235 7
            have hcz86_8 : wc.cell? ⟨gb235, 8, none⟩ = some (.int .i64 t228) := bc BK235 8
            have hfz86_0 := blk_frozen BK235.out 0
            have hfz86_1 := blk_frozen BK235.out 1
            have hfz86_2 := blk_frozen BK235.out 2
            have hfz86_3 := blk_frozen BK235.out 3
            have hfz86_4 := blk_frozen BK235.out 4
            have hfz86_5 := blk_frozen BK235.out 5
            have hfz86_6 := blk_frozen BK235.out 6
            have hfz86_7 := blk_frozen BK235.out 7
            have hfz86_8 := blk_frozen BK235.out 8
            have hnb87 := NB236_217.out
            have hnc87 := NB217_236.out
            have hnb88 := NB236_218.out
            have hnc88 := NB218_236.out
            have hcz89_0 : wc.cell? ⟨gb236, 0, none⟩ = some (.string t229) := bc BK236 0
            have hcz89_1 : wc.cell? ⟨gb236, 1, none⟩ = some (.int .i64 t230) := bc BK236 1
            have hcz89_2 : wc.cell? ⟨gb236, 2, none⟩ = some (.int .i64 t231) := bc BK236 2
            have hcz89_3 : wc.cell? ⟨gb236, 3, none⟩ = some (.int .i64 x237003_7) := bc BK236 3
            have hcz89_4 : wc.cell? ⟨gb236, 4, none⟩ = some (.int .i64 t233) := bc BK236 4
            have hcz89_5 : wc.cell? ⟨gb236, 5, none⟩ = some (.int .i64 t234) := bc BK236 5
            have hfz89_0 := blk_frozen BK236.out 0
            have hfz89_1 := blk_frozen BK236.out 1
            have hfz89_2 := blk_frozen BK236.out 2
            have hfz89_3 := blk_frozen BK236.out 3
            have hfz89_4 := blk_frozen BK236.out 4
            have hfz89_5 := blk_frozen BK236.out 5
            go_wp2_with (first | ((with_reducible refine gate_callee (f := 16) rfl ?_); refine goesL_ (some 24) rfl rfl Try.func16 (by kernel_rfl) rfl #[.agg #[.int .i64 t220, .int .i64 x236001_7, .int .i64 t222, .int .i64 t223, .int .i64 x236004_7, .int .i64 t225, .int .i64 x236006_7, .int .i64 t227, .int .i64 t228], .agg #[.string t229, .int .i64 t230, .int .i64 t231, .int .i64 x237003_7, .int .i64 t233, .int .i64 t234]] rfl (by (try simp only [List.map_toArray, List.map_cons, List.map_nil]); first | done | rfl | (simp only [List.length_drop, List.length_take]; rfl)) ?_; (with_reducible refine (damperlaw10_decide.calls kj7 t220 x236001_7 t222 t223 x236004_7 t225 x236006_7 t227 t228 t229 t230 t231 x237003_7 t233 t234 t238 t239 _ A45.out).mono ?_); rintro e w90 ⟨rfl, hb⟩; refine ⟨_, rfl, ?_⟩; have n0_ := Aside0.mk (blk_below (g := gb217) (pk BK217) hb); have n1_ := Aside0.mk (blk_below (g := gb218) (pk BK218) hb); have n2_ := Aside0.mk (blk_below (g := gb235) (pk BK235) hb); have n3_ := Aside0.mk (blk_below (g := gb236) (pk BK236) hb); have n4_ := Aside0.mk (below_step (by repeat (first | (with_reducible first | exact HB.out | apply below_alloc | apply pw_below_drewN | apply below_drew1 | refine below_set ?_ GE217.out | refine below_set ?_ GE218.out | refine below_set ?_ GE235.out | refine below_set ?_ GE236.out) | exact HB.out)) hb); clear BK217; clear BK218; clear BK235; clear BK236; clear HB; have BK217 := n0_; have BK218 := n1_; have BK235 := n2_; have BK236 := n3_; have HB := n4_; clear n0_ n1_ n2_ n3_ n4_; (try clear hb); (try clear hb2); (try clear hk); (try clear hi)) | ((with_reducible refine gate_dst (N := 7) rfl ?_); refine box_event ?hg (N := 7) ?hd (cs := #[.int .i64 0, .int .i64 0]) (t := 30) ?hr ?_; (case hd => rfl); (case hg => rfl); (case hr => first | (go_simp; done) | (go_simp; rfl)); intro gb240 hg w91 hbox hb; have n0_ := Aside0.mk (blk_below (g := gb217) (pk BK217) hb); have n1_ := Aside0.mk (blk_below (g := gb218) (pk BK218) hb); have n2_ := Aside0.mk (blk_below (g := gb235) (pk BK235) hb); have n3_ := Aside0.mk (blk_below (g := gb236) (pk BK236) hb); have n4_ := Aside0.mk (below_step (by repeat (first | (with_reducible first | exact HB.out | apply below_alloc | apply pw_below_drewN | apply below_drew1 | refine below_set ?_ GE217.out | refine below_set ?_ GE218.out | refine below_set ?_ GE235.out | refine below_set ?_ GE236.out) | exact HB.out)) hb); have n5_ := Aside0.mk (hbox); have n6_ := Aside0.mk ((by rw [hg]; exact (below_size (by repeat (first | (with_reducible first | exact HB.out | apply below_alloc | apply pw_below_drewN | apply below_drew1 | refine below_set ?_ GE217.out | refine below_set ?_ GE218.out | refine below_set ?_ GE235.out | refine below_set ?_ GE236.out) | exact HB.out))) : w.heap.size ≤ gb240)); have n7_ := Aside0.mk ((by rw [hg]; exact (below_size (by repeat (first | (with_reducible first | exact HB.out | apply below_alloc | apply pw_below_drewN | apply below_drew1 | refine below_set ?_ GE217.out | refine below_set ?_ GE218.out | refine below_set ?_ GE235.out | refine below_set ?_ GE236.out) | exact HB.out))) : w.heap.size ≤ gb240)); have n8_ := Aside0.mk ((ne_lt hg (pk BK217) : gb217 ≠ gb240)); have n9_ := Aside0.mk ((ne_gt hg (pk BK217) : gb240 ≠ gb217)); have n10_ := Aside0.mk ((ne_lt hg (pk BK218) : gb218 ≠ gb240)); have n11_ := Aside0.mk ((ne_gt hg (pk BK218) : gb240 ≠ gb218)); have n12_ := Aside0.mk ((ne_lt hg (pk BK235) : gb235 ≠ gb240)); have n13_ := Aside0.mk ((ne_gt hg (pk BK235) : gb240 ≠ gb235)); have n14_ := Aside0.mk ((ne_lt hg (pk BK236) : gb236 ≠ gb240)); have n15_ := Aside0.mk ((ne_gt hg (pk BK236) : gb240 ≠ gb236)); clear BK217; clear BK218; clear BK235; clear BK236; clear HB; have BK217 := n0_; have BK218 := n1_; have BK235 := n2_; have BK236 := n3_; have HB := n4_; have BK240 := n5_; have GW240 := n6_; have GE240 := n7_; have NB217_240 := n8_; have NB240_217 := n9_; have NB218_240 := n10_; have NB240_218 := n11_; have NB235_240 := n12_; have NB240_235 := n13_; have NB236_240 := n14_; have NB240_236 := n15_; clear n0_ n1_ n2_ n3_ n4_ n5_ n6_ n7_ n8_ n9_ n10_ n11_ n12_ n13_ n14_ n15_; clear hb hbox hg; have hnb92 := NB240_217.out; have hnc92 := NB217_240.out; have hnb93 := NB240_218.out; have hnc93 := NB218_240.out; have hnb94 := NB240_235.out; have hnc94 := NB235_240.out; have hnb95 := NB240_236.out; have hnc95 := NB236_240.out; have hcz96_0 : w91.cell? ⟨gb240, 0, none⟩ = some (.int .i64 0) := bc BK240 0; have hcz96_1 : w91.cell? ⟨gb240, 1, none⟩ = some (.int .i64 0) := bc BK240 1; have hfz96_0 := blk_frozen BK240.out 0; have hfz96_1 := blk_frozen BK240.out 1))
            go_ret
            exact ⟨by first | rfl | (simp [errW_none, errW_some] <;> rfl) | (simp [*, errW_none, errW_some] <;> rfl), by repeat (first | (with_reducible first | exact HB.out | apply below_alloc | apply pw_below_drewN | apply below_drew1 | refine below_set ?_ GE217.out | refine below_set ?_ GE218.out | refine below_set ?_ GE235.out | refine below_set ?_ GE236.out | refine below_set ?_ GE240.out) | exact HB.out)⟩
    intro hJ1_3_4_5
    refine join_ (σ := Nat) 3 #[true, true, true, true, true, false, false, false] (fun s_ => [(11, .agg #[.int .i64 t220, .int .i64 t221, .int .i64 t222, .int .i64 t223, .int .i64 t224, .int .i64 t225, .int .i64 t226, .int .i64 t227, .int .i64 t228]), (13, .agg #[.string t229, .int .i64 t230, .int .i64 t231, .int .i64 t232, .int .i64 t233, .int .i64 t234]), (5, .pointer (some ⟨s_, 0, none⟩))]) (fun s_ w' => (w'.cell? ⟨gb217, 0, none⟩ = some (.int .i64 a0_0) ∧ w'.cell? ⟨gb217, 1, none⟩ = some (.int .i64 a0_1) ∧ w'.cell? ⟨gb217, 2, none⟩ = some (.int .i64 a0_2) ∧ w'.cell? ⟨gb217, 3, none⟩ = some (.int .i64 a0_3) ∧ w'.cell? ⟨gb217, 4, none⟩ = some (.int .i64 a0_4) ∧ w'.cell? ⟨gb217, 5, none⟩ = some (.int .i64 a0_5) ∧ w'.cell? ⟨gb217, 6, none⟩ = some (.int .i64 a0_6) ∧ w'.cell? ⟨gb217, 7, none⟩ = some (.int .i64 a0_7) ∧ w'.cell? ⟨gb217, 8, none⟩ = some (.int .i64 a0_8) ∧ w'.cell? ⟨gb218, 0, none⟩ = some (.string a1_0) ∧ w'.cell? ⟨gb218, 1, none⟩ = some (.int .i64 a1_1) ∧ w'.cell? ⟨gb218, 2, none⟩ = some (.int .i64 a1_2) ∧ w'.cell? ⟨gb218, 3, none⟩ = some (.int .i64 a1_3) ∧ w'.cell? ⟨gb218, 4, none⟩ = some (.int .i64 a1_4) ∧ w'.cell? ⟨gb218, 5, none⟩ = some (.int .i64 a1_5)) ∧ (w'.heap[gb217]? = some (.cells #[.int .i64 a0_0, .int .i64 a0_1, .int .i64 a0_2, .int .i64 a0_3, .int .i64 a0_4, .int .i64 a0_5, .int .i64 a0_6, .int .i64 a0_7, .int .i64 a0_8] 23 (0, 0))) ∧ (w'.heap[gb218]? = some (.cells #[.string a1_0, .int .i64 a1_1, .int .i64 a1_2, .int .i64 a1_3, .int .i64 a1_4, .int .i64 a1_5] 25 (0, 0))) ∧ (w'.heap[s_]? = some (.cells #[.int .i64 0, .int .i64 0, .int .i64 0, .int .i64 0, .int .i64 0, .int .i64 0, .int .i64 0, .int .i64 0, .int .i64 0] 23 (0, 0))) ∧ (w.heap.size ≤ s_) ∧ (w.heap.size ≤ s_) ∧ (gb217 ≠ s_) ∧ (s_ ≠ gb217) ∧ (gb218 ≠ s_) ∧ (s_ ≠ gb218) ∧ (Below w.heap.size w w')) ?_ ?_
    rotate_left
    · intro hJ1_3_4
      refine join_ (σ := Nat) 3 #[true, true, true, true, false, true, false, false] (fun s_ => [(11, .agg #[.int .i64 t220, .int .i64 t221, .int .i64 t222, .int .i64 t223, .int .i64 t224, .int .i64 t225, .int .i64 t226, .int .i64 t227, .int .i64 t228]), (13, .agg #[.string t229, .int .i64 t230, .int .i64 t231, .int .i64 t232, .int .i64 t233, .int .i64 t234]), (6, .pointer (some ⟨s_, 0, none⟩))]) (fun s_ w' => (w'.cell? ⟨gb217, 0, none⟩ = some (.int .i64 a0_0) ∧ w'.cell? ⟨gb217, 1, none⟩ = some (.int .i64 a0_1) ∧ w'.cell? ⟨gb217, 2, none⟩ = some (.int .i64 a0_2) ∧ w'.cell? ⟨gb217, 3, none⟩ = some (.int .i64 a0_3) ∧ w'.cell? ⟨gb217, 4, none⟩ = some (.int .i64 a0_4) ∧ w'.cell? ⟨gb217, 5, none⟩ = some (.int .i64 a0_5) ∧ w'.cell? ⟨gb217, 6, none⟩ = some (.int .i64 a0_6) ∧ w'.cell? ⟨gb217, 7, none⟩ = some (.int .i64 a0_7) ∧ w'.cell? ⟨gb217, 8, none⟩ = some (.int .i64 a0_8) ∧ w'.cell? ⟨gb218, 0, none⟩ = some (.string a1_0) ∧ w'.cell? ⟨gb218, 1, none⟩ = some (.int .i64 a1_1) ∧ w'.cell? ⟨gb218, 2, none⟩ = some (.int .i64 a1_2) ∧ w'.cell? ⟨gb218, 3, none⟩ = some (.int .i64 a1_3) ∧ w'.cell? ⟨gb218, 4, none⟩ = some (.int .i64 a1_4) ∧ w'.cell? ⟨gb218, 5, none⟩ = some (.int .i64 a1_5)) ∧ (w'.heap[gb217]? = some (.cells #[.int .i64 a0_0, .int .i64 a0_1, .int .i64 a0_2, .int .i64 a0_3, .int .i64 a0_4, .int .i64 a0_5, .int .i64 a0_6, .int .i64 a0_7, .int .i64 a0_8] 23 (0, 0))) ∧ (w'.heap[gb218]? = some (.cells #[.string a1_0, .int .i64 a1_1, .int .i64 a1_2, .int .i64 a1_3, .int .i64 a1_4, .int .i64 a1_5] 25 (0, 0))) ∧ (w'.heap[s_]? = some (.cells #[.string (⟨#[]⟩ : ByteArray), .int .i64 0, .int .i64 0, .int .i64 0, .int .i64 0, .int .i64 0] 25 (0, 0))) ∧ (w.heap.size ≤ s_) ∧ (w.heap.size ≤ s_) ∧ (gb217 ≠ s_) ∧ (s_ ≠ gb217) ∧ (gb218 ≠ s_) ∧ (s_ ≠ gb218) ∧ (Below w.heap.size w w')) ?_ ?_
      rotate_left
      · intro hJ1_3_5
        refine join_ (σ := Nat × Nat) 3 #[true, true, true, false, true, true, false, false] (fun s_ => [(11, .agg #[.int .i64 t220, .int .i64 t221, .int .i64 t222, .int .i64 t223, .int .i64 t224, .int .i64 t225, .int .i64 t226, .int .i64 t227, .int .i64 t228]), (5, .pointer (some ⟨s_.1, 0, none⟩)), (6, .pointer (some ⟨s_.2, 0, none⟩))]) (fun s_ w' => (w'.cell? ⟨gb217, 0, none⟩ = some (.int .i64 a0_0) ∧ w'.cell? ⟨gb217, 1, none⟩ = some (.int .i64 a0_1) ∧ w'.cell? ⟨gb217, 2, none⟩ = some (.int .i64 a0_2) ∧ w'.cell? ⟨gb217, 3, none⟩ = some (.int .i64 a0_3) ∧ w'.cell? ⟨gb217, 4, none⟩ = some (.int .i64 a0_4) ∧ w'.cell? ⟨gb217, 5, none⟩ = some (.int .i64 a0_5) ∧ w'.cell? ⟨gb217, 6, none⟩ = some (.int .i64 a0_6) ∧ w'.cell? ⟨gb217, 7, none⟩ = some (.int .i64 a0_7) ∧ w'.cell? ⟨gb217, 8, none⟩ = some (.int .i64 a0_8) ∧ w'.cell? ⟨gb218, 0, none⟩ = some (.string a1_0) ∧ w'.cell? ⟨gb218, 1, none⟩ = some (.int .i64 a1_1) ∧ w'.cell? ⟨gb218, 2, none⟩ = some (.int .i64 a1_2) ∧ w'.cell? ⟨gb218, 3, none⟩ = some (.int .i64 a1_3) ∧ w'.cell? ⟨gb218, 4, none⟩ = some (.int .i64 a1_4) ∧ w'.cell? ⟨gb218, 5, none⟩ = some (.int .i64 a1_5)) ∧ (w'.heap[gb217]? = some (.cells #[.int .i64 a0_0, .int .i64 a0_1, .int .i64 a0_2, .int .i64 a0_3, .int .i64 a0_4, .int .i64 a0_5, .int .i64 a0_6, .int .i64 a0_7, .int .i64 a0_8] 23 (0, 0))) ∧ (w'.heap[gb218]? = some (.cells #[.string a1_0, .int .i64 a1_1, .int .i64 a1_2, .int .i64 a1_3, .int .i64 a1_4, .int .i64 a1_5] 25 (0, 0))) ∧ (w'.heap[s_.1]? = some (.cells #[.int .i64 0, .int .i64 0, .int .i64 0, .int .i64 0, .int .i64 0, .int .i64 0, .int .i64 0, .int .i64 0, .int .i64 0] 23 (0, 0))) ∧ (w'.heap[s_.2]? = some (.cells #[.string (⟨#[]⟩ : ByteArray), .int .i64 0, .int .i64 0, .int .i64 0, .int .i64 0, .int .i64 0] 25 (0, 0))) ∧ (w.heap.size ≤ s_.1) ∧ (w.heap.size ≤ s_.1) ∧ (gb217 ≠ s_.1) ∧ (s_.1 ≠ gb217) ∧ (gb218 ≠ s_.1) ∧ (s_.1 ≠ gb218) ∧ (s_.2 ≠ s_.1) ∧ (s_.1 ≠ s_.2) ∧ (w.heap.size ≤ s_.2) ∧ (w.heap.size ≤ s_.2) ∧ (gb217 ≠ s_.2) ∧ (s_.2 ≠ gb217) ∧ (gb218 ≠ s_.2) ∧ (s_.2 ≠ gb218) ∧ (Below w.heap.size w w')) ?_ ?_
        rotate_left
        · intro hJ1_4_5
          refine join_ (σ := Unit) 4 #[true, true, true, true, false, false, false, false] (fun s_ => [(11, .agg #[.int .i64 t220, .int .i64 t221, .int .i64 t222, .int .i64 t223, .int .i64 t224, .int .i64 t225, .int .i64 t226, .int .i64 t227, .int .i64 t228]), (13, .agg #[.string t229, .int .i64 t230, .int .i64 t231, .int .i64 t232, .int .i64 t233, .int .i64 t234])]) (fun s_ w' => (w'.cell? ⟨gb217, 0, none⟩ = some (.int .i64 a0_0) ∧ w'.cell? ⟨gb217, 1, none⟩ = some (.int .i64 a0_1) ∧ w'.cell? ⟨gb217, 2, none⟩ = some (.int .i64 a0_2) ∧ w'.cell? ⟨gb217, 3, none⟩ = some (.int .i64 a0_3) ∧ w'.cell? ⟨gb217, 4, none⟩ = some (.int .i64 a0_4) ∧ w'.cell? ⟨gb217, 5, none⟩ = some (.int .i64 a0_5) ∧ w'.cell? ⟨gb217, 6, none⟩ = some (.int .i64 a0_6) ∧ w'.cell? ⟨gb217, 7, none⟩ = some (.int .i64 a0_7) ∧ w'.cell? ⟨gb217, 8, none⟩ = some (.int .i64 a0_8) ∧ w'.cell? ⟨gb218, 0, none⟩ = some (.string a1_0) ∧ w'.cell? ⟨gb218, 1, none⟩ = some (.int .i64 a1_1) ∧ w'.cell? ⟨gb218, 2, none⟩ = some (.int .i64 a1_2) ∧ w'.cell? ⟨gb218, 3, none⟩ = some (.int .i64 a1_3) ∧ w'.cell? ⟨gb218, 4, none⟩ = some (.int .i64 a1_4) ∧ w'.cell? ⟨gb218, 5, none⟩ = some (.int .i64 a1_5)) ∧ (w'.heap[gb217]? = some (.cells #[.int .i64 a0_0, .int .i64 a0_1, .int .i64 a0_2, .int .i64 a0_3, .int .i64 a0_4, .int .i64 a0_5, .int .i64 a0_6, .int .i64 a0_7, .int .i64 a0_8] 23 (0, 0))) ∧ (w'.heap[gb218]? = some (.cells #[.string a1_0, .int .i64 a1_1, .int .i64 a1_2, .int .i64 a1_3, .int .i64 a1_4, .int .i64 a1_5] 25 (0, 0))) ∧ (Below w.heap.size w w')) ?_ ?_
          rotate_left
          · intro hJ1_3
            refine join_ (σ := Nat) 4 #[true, true, true, false, true, false, false, false] (fun s_ => [(11, .agg #[.int .i64 t220, .int .i64 t221, .int .i64 t222, .int .i64 t223, .int .i64 t224, .int .i64 t225, .int .i64 t226, .int .i64 t227, .int .i64 t228]), (5, .pointer (some ⟨s_, 0, none⟩))]) (fun s_ w' => (w'.cell? ⟨gb217, 0, none⟩ = some (.int .i64 a0_0) ∧ w'.cell? ⟨gb217, 1, none⟩ = some (.int .i64 a0_1) ∧ w'.cell? ⟨gb217, 2, none⟩ = some (.int .i64 a0_2) ∧ w'.cell? ⟨gb217, 3, none⟩ = some (.int .i64 a0_3) ∧ w'.cell? ⟨gb217, 4, none⟩ = some (.int .i64 a0_4) ∧ w'.cell? ⟨gb217, 5, none⟩ = some (.int .i64 a0_5) ∧ w'.cell? ⟨gb217, 6, none⟩ = some (.int .i64 a0_6) ∧ w'.cell? ⟨gb217, 7, none⟩ = some (.int .i64 a0_7) ∧ w'.cell? ⟨gb217, 8, none⟩ = some (.int .i64 a0_8) ∧ w'.cell? ⟨gb218, 0, none⟩ = some (.string a1_0) ∧ w'.cell? ⟨gb218, 1, none⟩ = some (.int .i64 a1_1) ∧ w'.cell? ⟨gb218, 2, none⟩ = some (.int .i64 a1_2) ∧ w'.cell? ⟨gb218, 3, none⟩ = some (.int .i64 a1_3) ∧ w'.cell? ⟨gb218, 4, none⟩ = some (.int .i64 a1_4) ∧ w'.cell? ⟨gb218, 5, none⟩ = some (.int .i64 a1_5)) ∧ (w'.heap[gb217]? = some (.cells #[.int .i64 a0_0, .int .i64 a0_1, .int .i64 a0_2, .int .i64 a0_3, .int .i64 a0_4, .int .i64 a0_5, .int .i64 a0_6, .int .i64 a0_7, .int .i64 a0_8] 23 (0, 0))) ∧ (w'.heap[gb218]? = some (.cells #[.string a1_0, .int .i64 a1_1, .int .i64 a1_2, .int .i64 a1_3, .int .i64 a1_4, .int .i64 a1_5] 25 (0, 0))) ∧ (w'.heap[s_]? = some (.cells #[.int .i64 0, .int .i64 0, .int .i64 0, .int .i64 0, .int .i64 0, .int .i64 0, .int .i64 0, .int .i64 0, .int .i64 0] 23 (0, 0))) ∧ (w.heap.size ≤ s_) ∧ (w.heap.size ≤ s_) ∧ (gb217 ≠ s_) ∧ (s_ ≠ gb217) ∧ (gb218 ≠ s_) ∧ (s_ ≠ gb218) ∧ (Below w.heap.size w w')) ?_ ?_
            rotate_left
            · intro hJ1_4
              refine join_ (σ := Nat) 4 #[true, true, true, false, false, true, false, false] (fun s_ => [(11, .agg #[.int .i64 t220, .int .i64 t221, .int .i64 t222, .int .i64 t223, .int .i64 t224, .int .i64 t225, .int .i64 t226, .int .i64 t227, .int .i64 t228]), (6, .pointer (some ⟨s_, 0, none⟩))]) (fun s_ w' => (w'.cell? ⟨gb217, 0, none⟩ = some (.int .i64 a0_0) ∧ w'.cell? ⟨gb217, 1, none⟩ = some (.int .i64 a0_1) ∧ w'.cell? ⟨gb217, 2, none⟩ = some (.int .i64 a0_2) ∧ w'.cell? ⟨gb217, 3, none⟩ = some (.int .i64 a0_3) ∧ w'.cell? ⟨gb217, 4, none⟩ = some (.int .i64 a0_4) ∧ w'.cell? ⟨gb217, 5, none⟩ = some (.int .i64 a0_5) ∧ w'.cell? ⟨gb217, 6, none⟩ = some (.int .i64 a0_6) ∧ w'.cell? ⟨gb217, 7, none⟩ = some (.int .i64 a0_7) ∧ w'.cell? ⟨gb217, 8, none⟩ = some (.int .i64 a0_8) ∧ w'.cell? ⟨gb218, 0, none⟩ = some (.string a1_0) ∧ w'.cell? ⟨gb218, 1, none⟩ = some (.int .i64 a1_1) ∧ w'.cell? ⟨gb218, 2, none⟩ = some (.int .i64 a1_2) ∧ w'.cell? ⟨gb218, 3, none⟩ = some (.int .i64 a1_3) ∧ w'.cell? ⟨gb218, 4, none⟩ = some (.int .i64 a1_4) ∧ w'.cell? ⟨gb218, 5, none⟩ = some (.int .i64 a1_5)) ∧ (w'.heap[gb217]? = some (.cells #[.int .i64 a0_0, .int .i64 a0_1, .int .i64 a0_2, .int .i64 a0_3, .int .i64 a0_4, .int .i64 a0_5, .int .i64 a0_6, .int .i64 a0_7, .int .i64 a0_8] 23 (0, 0))) ∧ (w'.heap[gb218]? = some (.cells #[.string a1_0, .int .i64 a1_1, .int .i64 a1_2, .int .i64 a1_3, .int .i64 a1_4, .int .i64 a1_5] 25 (0, 0))) ∧ (w'.heap[s_]? = some (.cells #[.string (⟨#[]⟩ : ByteArray), .int .i64 0, .int .i64 0, .int .i64 0, .int .i64 0, .int .i64 0] 25 (0, 0))) ∧ (w.heap.size ≤ s_) ∧ (w.heap.size ≤ s_) ∧ (gb217 ≠ s_) ∧ (s_ ≠ gb217) ∧ (gb218 ≠ s_) ∧ (s_ ≠ gb218) ∧ (Below w.heap.size w w')) ?_ ?_
              rotate_left
              · intro hJ1_5
                refine join_ (σ := Nat × Nat) 4 #[true, false, true, false, true, true, false, false] (fun s_ => [(5, .pointer (some ⟨s_.1, 0, none⟩)), (6, .pointer (some ⟨s_.2, 0, none⟩))]) (fun s_ w' => (w'.cell? ⟨gb217, 0, none⟩ = some (.int .i64 a0_0) ∧ w'.cell? ⟨gb217, 1, none⟩ = some (.int .i64 a0_1) ∧ w'.cell? ⟨gb217, 2, none⟩ = some (.int .i64 a0_2) ∧ w'.cell? ⟨gb217, 3, none⟩ = some (.int .i64 a0_3) ∧ w'.cell? ⟨gb217, 4, none⟩ = some (.int .i64 a0_4) ∧ w'.cell? ⟨gb217, 5, none⟩ = some (.int .i64 a0_5) ∧ w'.cell? ⟨gb217, 6, none⟩ = some (.int .i64 a0_6) ∧ w'.cell? ⟨gb217, 7, none⟩ = some (.int .i64 a0_7) ∧ w'.cell? ⟨gb217, 8, none⟩ = some (.int .i64 a0_8) ∧ w'.cell? ⟨gb218, 0, none⟩ = some (.string a1_0) ∧ w'.cell? ⟨gb218, 1, none⟩ = some (.int .i64 a1_1) ∧ w'.cell? ⟨gb218, 2, none⟩ = some (.int .i64 a1_2) ∧ w'.cell? ⟨gb218, 3, none⟩ = some (.int .i64 a1_3) ∧ w'.cell? ⟨gb218, 4, none⟩ = some (.int .i64 a1_4) ∧ w'.cell? ⟨gb218, 5, none⟩ = some (.int .i64 a1_5)) ∧ (w'.heap[gb217]? = some (.cells #[.int .i64 a0_0, .int .i64 a0_1, .int .i64 a0_2, .int .i64 a0_3, .int .i64 a0_4, .int .i64 a0_5, .int .i64 a0_6, .int .i64 a0_7, .int .i64 a0_8] 23 (0, 0))) ∧ (w'.heap[gb218]? = some (.cells #[.string a1_0, .int .i64 a1_1, .int .i64 a1_2, .int .i64 a1_3, .int .i64 a1_4, .int .i64 a1_5] 25 (0, 0))) ∧ (w'.heap[s_.1]? = some (.cells #[.int .i64 0, .int .i64 0, .int .i64 0, .int .i64 0, .int .i64 0, .int .i64 0, .int .i64 0, .int .i64 0, .int .i64 0] 23 (0, 0))) ∧ (w'.heap[s_.2]? = some (.cells #[.string (⟨#[]⟩ : ByteArray), .int .i64 0, .int .i64 0, .int .i64 0, .int .i64 0, .int .i64 0] 25 (0, 0))) ∧ (w.heap.size ≤ s_.1) ∧ (w.heap.size ≤ s_.1) ∧ (gb217 ≠ s_.1) ∧ (s_.1 ≠ gb217) ∧ (gb218 ≠ s_.1) ∧ (s_.1 ≠ gb218) ∧ (s_.2 ≠ s_.1) ∧ (s_.1 ≠ s_.2) ∧ (w.heap.size ≤ s_.2) ∧ (w.heap.size ≤ s_.2) ∧ (gb217 ≠ s_.2) ∧ (s_.2 ≠ gb217) ∧ (gb218 ≠ s_.2) ∧ (s_.2 ≠ gb218) ∧ (Below w.heap.size w w')) ?_ ?_
                rotate_left
                · intro hJ4_5
                  refine join_ (σ := Unit) 5 #[true, true, true, false, false, false, false, false] (fun s_ => [(11, .agg #[.int .i64 t220, .int .i64 t221, .int .i64 t222, .int .i64 t223, .int .i64 t224, .int .i64 t225, .int .i64 t226, .int .i64 t227, .int .i64 t228])]) (fun s_ w' => (w'.cell? ⟨gb217, 0, none⟩ = some (.int .i64 a0_0) ∧ w'.cell? ⟨gb217, 1, none⟩ = some (.int .i64 a0_1) ∧ w'.cell? ⟨gb217, 2, none⟩ = some (.int .i64 a0_2) ∧ w'.cell? ⟨gb217, 3, none⟩ = some (.int .i64 a0_3) ∧ w'.cell? ⟨gb217, 4, none⟩ = some (.int .i64 a0_4) ∧ w'.cell? ⟨gb217, 5, none⟩ = some (.int .i64 a0_5) ∧ w'.cell? ⟨gb217, 6, none⟩ = some (.int .i64 a0_6) ∧ w'.cell? ⟨gb217, 7, none⟩ = some (.int .i64 a0_7) ∧ w'.cell? ⟨gb217, 8, none⟩ = some (.int .i64 a0_8) ∧ w'.cell? ⟨gb218, 0, none⟩ = some (.string a1_0) ∧ w'.cell? ⟨gb218, 1, none⟩ = some (.int .i64 a1_1) ∧ w'.cell? ⟨gb218, 2, none⟩ = some (.int .i64 a1_2) ∧ w'.cell? ⟨gb218, 3, none⟩ = some (.int .i64 a1_3) ∧ w'.cell? ⟨gb218, 4, none⟩ = some (.int .i64 a1_4) ∧ w'.cell? ⟨gb218, 5, none⟩ = some (.int .i64 a1_5)) ∧ (w'.heap[gb217]? = some (.cells #[.int .i64 a0_0, .int .i64 a0_1, .int .i64 a0_2, .int .i64 a0_3, .int .i64 a0_4, .int .i64 a0_5, .int .i64 a0_6, .int .i64 a0_7, .int .i64 a0_8] 23 (0, 0))) ∧ (w'.heap[gb218]? = some (.cells #[.string a1_0, .int .i64 a1_1, .int .i64 a1_2, .int .i64 a1_3, .int .i64 a1_4, .int .i64 a1_5] 25 (0, 0))) ∧ (Below w.heap.size w w')) ?_ ?_
                  rotate_left
                  · intro hJ1
                    refine join_ (σ := Nat) 5 #[true, false, true, false, true, false, false, false] (fun s_ => [(5, .pointer (some ⟨s_, 0, none⟩))]) (fun s_ w' => (w'.cell? ⟨gb217, 0, none⟩ = some (.int .i64 a0_0) ∧ w'.cell? ⟨gb217, 1, none⟩ = some (.int .i64 a0_1) ∧ w'.cell? ⟨gb217, 2, none⟩ = some (.int .i64 a0_2) ∧ w'.cell? ⟨gb217, 3, none⟩ = some (.int .i64 a0_3) ∧ w'.cell? ⟨gb217, 4, none⟩ = some (.int .i64 a0_4) ∧ w'.cell? ⟨gb217, 5, none⟩ = some (.int .i64 a0_5) ∧ w'.cell? ⟨gb217, 6, none⟩ = some (.int .i64 a0_6) ∧ w'.cell? ⟨gb217, 7, none⟩ = some (.int .i64 a0_7) ∧ w'.cell? ⟨gb217, 8, none⟩ = some (.int .i64 a0_8) ∧ w'.cell? ⟨gb218, 0, none⟩ = some (.string a1_0) ∧ w'.cell? ⟨gb218, 1, none⟩ = some (.int .i64 a1_1) ∧ w'.cell? ⟨gb218, 2, none⟩ = some (.int .i64 a1_2) ∧ w'.cell? ⟨gb218, 3, none⟩ = some (.int .i64 a1_3) ∧ w'.cell? ⟨gb218, 4, none⟩ = some (.int .i64 a1_4) ∧ w'.cell? ⟨gb218, 5, none⟩ = some (.int .i64 a1_5)) ∧ (w'.heap[gb217]? = some (.cells #[.int .i64 a0_0, .int .i64 a0_1, .int .i64 a0_2, .int .i64 a0_3, .int .i64 a0_4, .int .i64 a0_5, .int .i64 a0_6, .int .i64 a0_7, .int .i64 a0_8] 23 (0, 0))) ∧ (w'.heap[gb218]? = some (.cells #[.string a1_0, .int .i64 a1_1, .int .i64 a1_2, .int .i64 a1_3, .int .i64 a1_4, .int .i64 a1_5] 25 (0, 0))) ∧ (w'.heap[s_]? = some (.cells #[.int .i64 0, .int .i64 0, .int .i64 0, .int .i64 0, .int .i64 0, .int .i64 0, .int .i64 0, .int .i64 0, .int .i64 0] 23 (0, 0))) ∧ (w.heap.size ≤ s_) ∧ (w.heap.size ≤ s_) ∧ (gb217 ≠ s_) ∧ (s_ ≠ gb217) ∧ (gb218 ≠ s_) ∧ (s_ ≠ gb218) ∧ (Below w.heap.size w w')) ?_ ?_
                    rotate_left
                    · intro hJ4
                      refine join_ (σ := Nat) 5 #[true, false, true, false, false, true, false, false] (fun s_ => [(6, .pointer (some ⟨s_, 0, none⟩))]) (fun s_ w' => (w'.cell? ⟨gb217, 0, none⟩ = some (.int .i64 a0_0) ∧ w'.cell? ⟨gb217, 1, none⟩ = some (.int .i64 a0_1) ∧ w'.cell? ⟨gb217, 2, none⟩ = some (.int .i64 a0_2) ∧ w'.cell? ⟨gb217, 3, none⟩ = some (.int .i64 a0_3) ∧ w'.cell? ⟨gb217, 4, none⟩ = some (.int .i64 a0_4) ∧ w'.cell? ⟨gb217, 5, none⟩ = some (.int .i64 a0_5) ∧ w'.cell? ⟨gb217, 6, none⟩ = some (.int .i64 a0_6) ∧ w'.cell? ⟨gb217, 7, none⟩ = some (.int .i64 a0_7) ∧ w'.cell? ⟨gb217, 8, none⟩ = some (.int .i64 a0_8) ∧ w'.cell? ⟨gb218, 0, none⟩ = some (.string a1_0) ∧ w'.cell? ⟨gb218, 1, none⟩ = some (.int .i64 a1_1) ∧ w'.cell? ⟨gb218, 2, none⟩ = some (.int .i64 a1_2) ∧ w'.cell? ⟨gb218, 3, none⟩ = some (.int .i64 a1_3) ∧ w'.cell? ⟨gb218, 4, none⟩ = some (.int .i64 a1_4) ∧ w'.cell? ⟨gb218, 5, none⟩ = some (.int .i64 a1_5)) ∧ (w'.heap[gb217]? = some (.cells #[.int .i64 a0_0, .int .i64 a0_1, .int .i64 a0_2, .int .i64 a0_3, .int .i64 a0_4, .int .i64 a0_5, .int .i64 a0_6, .int .i64 a0_7, .int .i64 a0_8] 23 (0, 0))) ∧ (w'.heap[gb218]? = some (.cells #[.string a1_0, .int .i64 a1_1, .int .i64 a1_2, .int .i64 a1_3, .int .i64 a1_4, .int .i64 a1_5] 25 (0, 0))) ∧ (w'.heap[s_]? = some (.cells #[.string (⟨#[]⟩ : ByteArray), .int .i64 0, .int .i64 0, .int .i64 0, .int .i64 0, .int .i64 0] 25 (0, 0))) ∧ (w.heap.size ≤ s_) ∧ (w.heap.size ≤ s_) ∧ (gb217 ≠ s_) ∧ (s_ ≠ gb217) ∧ (gb218 ≠ s_) ∧ (s_ ≠ gb218) ∧ (Below w.heap.size w w')) ?_ ?_
                      rotate_left
                      · intro hJ5
                        refine three_ (i := 1) (j := 4) (k := 5) (Ni := some 11) (Nj := some 5) (Nk := some 6) #[true, true, true, false, false, false, false, false] #[true, false, true, false, true, false, false, false] #[true, false, true, false, false, true, false, false] rfl rfl rfl rfl rfl rfl (three_of HT_.out (by kernel_rfl)) (by decide) (by decide) (by decide) (fun K hK => ?_) (fun K hK => ?_) (fun K hK => ?_)
                        · skip
                          refine goes_ Try.func14 (by kernel_rfl) rfl #[.agg #[.int .i64 a0_0, .int .i64 a0_1, .int .i64 a0_2, .int .i64 a0_3, .int .i64 a0_4, .int .i64 a0_5, .int .i64 a0_6, .int .i64 a0_7, .int .i64 a0_8]] (by rfl) rfl rfl (by (try simp only [List.map_toArray, List.map_cons, List.map_nil]); first | done | rfl | (simp only [List.length_drop, List.length_take]; rfl)) ?_
                          with_reducible refine (damperlaw10_Given_Make.calls a0_0 a0_1 a0_2 a0_3 a0_4 a0_5 a0_6 a0_7 a0_8 t220 t221 t222 t223 t224 t225 t226 t227 t228 _ A5.out).mono ?_
                          rintro e w13 ⟨rfl, hb⟩
                          refine ⟨_, rfl, ?_⟩
                          replace BK217 := Aside0.mk (blk_below (g := gb217) (pk BK217) hb)
                          replace BK218 := Aside0.mk (blk_below (g := gb218) (pk BK218) hb)
                          replace HB := Aside0.mk (below_step (by repeat (first | (with_reducible first | exact HB.out | apply below_alloc | apply pw_below_drewN | apply below_drew1 | refine below_set ?_ GE217.out | refine below_set ?_ GE218.out) | exact HB.out)) hb)
                          (try clear hb)
                          (try clear hb2)
                          (try clear hk)
                          (try clear hi)
                          refine hK.out _ _ ⟨bc BK217 0, bc BK217 1, bc BK217 2, bc BK217 3, bc BK217 4, bc BK217 5, bc BK217 6, bc BK217 7, bc BK217 8, bc BK218 0, bc BK218 1, bc BK218 2, bc BK218 3, bc BK218 4, bc BK218 5⟩ (fun hHeld => ?_)
                          clear hK K
                          refine norm_ (a' := ?_) ?_ ?_
                          rotate_left
                          · show Act.put _ (some 11) _ = _
                            simp only [Act.put, List.setIfInBounds_toArray, List.set_cons_zero, List.set_cons_succ, i64_w, i32_w]
                            rfl
                          exact norm0_ (hJ1 () _ ⟨hHeld, (pk BK217), (pk BK218), (by repeat (first | (with_reducible first | exact HB.out | apply below_alloc | apply pw_below_drewN | apply below_drew1 | refine below_set ?_ GE217.out | refine below_set ?_ GE218.out) | exact HB.out))⟩)
                        · skip
                          refine box_step ?hg (N := 5) ?hd (cs := #[.int .i64 0, .int .i64 0, .int .i64 0, .int .i64 0, .int .i64 0, .int .i64 0, .int .i64 0, .int .i64 0, .int .i64 0]) (t := 23) ?hr ?_; (case hd => rfl); (case hg => rfl); (case hr => first | (go_simp; done) | (go_simp; rfl))
                          intro gb235 hg w13 hbox hb
                          have BK235 := Aside0.mk (hbox)
                          have GW235 := Aside0.mk ((by rw [hg]; exact (below_size (by repeat (first | (with_reducible first | exact HB.out | apply below_alloc | apply pw_below_drewN | apply below_drew1 | refine below_set ?_ GE217.out | refine below_set ?_ GE218.out) | exact HB.out))) : w.heap.size ≤ gb235))
                          have GE235 := GW235
                          have NB217_235 := Aside0.mk ((ne_lt hg (pk BK217) : gb217 ≠ gb235))
                          have NB235_217 := Aside0.mk ((ne_gt hg (pk BK217) : gb235 ≠ gb217))
                          have NB218_235 := Aside0.mk ((ne_lt hg (pk BK218) : gb218 ≠ gb235))
                          have NB235_218 := Aside0.mk ((ne_gt hg (pk BK218) : gb235 ≠ gb218))
                          replace BK217 := Aside0.mk (blk_below (g := gb217) (pk BK217) hb)
                          replace BK218 := Aside0.mk (blk_below (g := gb218) (pk BK218) hb)
                          replace HB := Aside0.mk (below_step (by repeat (first | (with_reducible first | exact HB.out | apply below_alloc | apply pw_below_drewN | apply below_drew1 | refine below_set ?_ GE217.out | refine below_set ?_ GE218.out) | exact HB.out)) hb)
                          clear hb hbox hg
                          refine hK.out _ _ ⟨bc BK217 0, bc BK217 1, bc BK217 2, bc BK217 3, bc BK217 4, bc BK217 5, bc BK217 6, bc BK217 7, bc BK217 8, bc BK218 0, bc BK218 1, bc BK218 2, bc BK218 3, bc BK218 4, bc BK218 5⟩ (fun hHeld => ?_)
                          clear hK K
                          refine norm_ (a' := ?_) ?_ ?_
                          rotate_left
                          · show Act.put _ (some 5) _ = _
                            simp only [Act.put, List.setIfInBounds_toArray, List.set_cons_zero, List.set_cons_succ, i64_w, i32_w]
                            rfl
                          exact norm0_ (hJ4 (gb235) _ ⟨hHeld, (pk BK217), (pk BK218), (pk BK235), GW235.out, GE235.out, NB217_235.out, NB235_217.out, NB218_235.out, NB235_218.out, (by repeat (first | (with_reducible first | exact HB.out | apply below_alloc | apply pw_below_drewN | apply below_drew1 | refine below_set ?_ GE217.out | refine below_set ?_ GE218.out | refine below_set ?_ GE235.out) | exact HB.out))⟩)
                        · skip
                          refine box_step ?hg (N := 6) ?hd (cs := #[.string (⟨#[]⟩ : ByteArray), .int .i64 0, .int .i64 0, .int .i64 0, .int .i64 0, .int .i64 0]) (t := 25) ?hr ?_; (case hd => rfl); (case hg => rfl); (case hr => first | (go_simp; done) | (go_simp; rfl))
                          intro gb236 hg w13 hbox hb
                          have BK236 := Aside0.mk (hbox)
                          have GW236 := Aside0.mk ((by rw [hg]; exact (below_size (by repeat (first | (with_reducible first | exact HB.out | apply below_alloc | apply pw_below_drewN | apply below_drew1 | refine below_set ?_ GE217.out | refine below_set ?_ GE218.out) | exact HB.out))) : w.heap.size ≤ gb236))
                          have GE236 := GW236
                          have NB217_236 := Aside0.mk ((ne_lt hg (pk BK217) : gb217 ≠ gb236))
                          have NB236_217 := Aside0.mk ((ne_gt hg (pk BK217) : gb236 ≠ gb217))
                          have NB218_236 := Aside0.mk ((ne_lt hg (pk BK218) : gb218 ≠ gb236))
                          have NB236_218 := Aside0.mk ((ne_gt hg (pk BK218) : gb236 ≠ gb218))
                          replace BK217 := Aside0.mk (blk_below (g := gb217) (pk BK217) hb)
                          replace BK218 := Aside0.mk (blk_below (g := gb218) (pk BK218) hb)
                          replace HB := Aside0.mk (below_step (by repeat (first | (with_reducible first | exact HB.out | apply below_alloc | apply pw_below_drewN | apply below_drew1 | refine below_set ?_ GE217.out | refine below_set ?_ GE218.out) | exact HB.out)) hb)
                          clear hb hbox hg
                          refine hK.out _ _ ⟨bc BK217 0, bc BK217 1, bc BK217 2, bc BK217 3, bc BK217 4, bc BK217 5, bc BK217 6, bc BK217 7, bc BK217 8, bc BK218 0, bc BK218 1, bc BK218 2, bc BK218 3, bc BK218 4, bc BK218 5⟩ (fun hHeld => ?_)
                          clear hK K
                          refine norm_ (a' := ?_) ?_ ?_
                          rotate_left
                          · show Act.put _ (some 6) _ = _
                            simp only [Act.put, List.setIfInBounds_toArray, List.set_cons_zero, List.set_cons_succ, i64_w, i32_w]
                            rfl
                          exact norm0_ (hJ5 (gb236) _ ⟨hHeld, (pk BK217), (pk BK218), (pk BK236), GW236.out, GE236.out, NB217_236.out, NB236_217.out, NB218_236.out, NB236_218.out, (by repeat (first | (with_reducible first | exact HB.out | apply below_alloc | apply pw_below_drewN | apply below_drew1 | refine below_set ?_ GE217.out | refine below_set ?_ GE218.out | refine below_set ?_ GE236.out) | exact HB.out))⟩)
                      · skip
                        rintro gb236 w14 ⟨hS_, h0_, h1_, h2_, h3_, h4_, h5_, h6_, h7_, h8_, h9_⟩
                        have BK236 := Aside0.mk h2_
                        have GW236 : Aside0 (w.heap.size ≤ gb236) := ⟨h3_⟩
                        have GE236 : Aside0 (w.heap.size ≤ gb236) := ⟨h4_⟩
                        have NB217_236 : Aside0 (gb217 ≠ gb236) := ⟨h5_⟩
                        have NB236_217 : Aside0 (gb236 ≠ gb217) := ⟨h6_⟩
                        have NB218_236 : Aside0 (gb218 ≠ gb236) := ⟨h7_⟩
                        have NB236_218 : Aside0 (gb236 ≠ gb218) := ⟨h8_⟩
                        replace BK217 := Aside0.mk h0_
                        replace BK218 := Aside0.mk h1_
                        replace HB : Aside0 (Below w.heap.size w w14) := ⟨h9_⟩
                        clear h0_ h1_ h2_ h3_ h4_ h5_ h6_ h7_ h8_ h9_
                        have hHeld := hS_
                        refine norm_ (a' := ?_) ?_ ?_
                        rotate_left
                        · simp only [putAll, Act.put, List.setIfInBounds_toArray, List.set_cons_zero, List.set_cons_succ]
                          rfl
                        refine two_ (i := 1) (j := 4) (Ni := some 11) (Nj := some 5) #[true, true, true, false, false, true, false, false] #[true, false, true, false, true, true, false, false] rfl rfl rfl rfl (two_of HT_.out (by kernel_rfl)) (by decide) (by decide) (fun K hK => ?_) (fun K hK => ?_)
                        · skip
                          refine goes_ Try.func14 (by kernel_rfl) rfl #[.agg #[.int .i64 a0_0, .int .i64 a0_1, .int .i64 a0_2, .int .i64 a0_3, .int .i64 a0_4, .int .i64 a0_5, .int .i64 a0_6, .int .i64 a0_7, .int .i64 a0_8]] (by rfl) rfl rfl (by (try simp only [List.map_toArray, List.map_cons, List.map_nil]); first | done | rfl | (simp only [List.length_drop, List.length_take]; rfl)) ?_
                          with_reducible refine (damperlaw10_Given_Make.calls a0_0 a0_1 a0_2 a0_3 a0_4 a0_5 a0_6 a0_7 a0_8 t220 t221 t222 t223 t224 t225 t226 t227 t228 _ A5.out).mono ?_
                          rintro e w15 ⟨rfl, hb⟩
                          refine ⟨_, rfl, ?_⟩
                          replace BK217 := Aside0.mk (blk_below (g := gb217) (pk BK217) hb)
                          replace BK218 := Aside0.mk (blk_below (g := gb218) (pk BK218) hb)
                          replace BK236 := Aside0.mk (blk_below (g := gb236) (pk BK236) hb)
                          replace HB := Aside0.mk (below_step (by repeat (first | (with_reducible first | exact HB.out | apply below_alloc | apply pw_below_drewN | apply below_drew1 | refine below_set ?_ GE217.out | refine below_set ?_ GE218.out | refine below_set ?_ GE236.out) | exact HB.out)) hb)
                          (try clear hb)
                          (try clear hb2)
                          (try clear hk)
                          (try clear hi)
                          refine hK.out _ _ ⟨bc BK217 0, bc BK217 1, bc BK217 2, bc BK217 3, bc BK217 4, bc BK217 5, bc BK217 6, bc BK217 7, bc BK217 8, bc BK218 0, bc BK218 1, bc BK218 2, bc BK218 3, bc BK218 4, bc BK218 5⟩ (fun hHeld => ?_)
                          clear hK K
                          refine norm_ (a' := ?_) ?_ ?_
                          rotate_left
                          · show Act.put _ (some 11) _ = _
                            simp only [Act.put, List.setIfInBounds_toArray, List.set_cons_zero, List.set_cons_succ, i64_w, i32_w]
                            rfl
                          exact norm0_ (hJ1_5 (gb236) _ ⟨hHeld, (pk BK217), (pk BK218), (pk BK236), GW236.out, GE236.out, NB217_236.out, NB236_217.out, NB218_236.out, NB236_218.out, (by repeat (first | (with_reducible first | exact HB.out | apply below_alloc | apply pw_below_drewN | apply below_drew1 | refine below_set ?_ GE217.out | refine below_set ?_ GE218.out | refine below_set ?_ GE236.out) | exact HB.out))⟩)
                        · skip
                          refine box_step ?hg (N := 5) ?hd (cs := #[.int .i64 0, .int .i64 0, .int .i64 0, .int .i64 0, .int .i64 0, .int .i64 0, .int .i64 0, .int .i64 0, .int .i64 0]) (t := 23) ?hr ?_; (case hd => rfl); (case hg => rfl); (case hr => first | (go_simp; done) | (go_simp; rfl))
                          intro gb235 hg w15 hbox hb
                          have BK235 := Aside0.mk (hbox)
                          have GW235 := Aside0.mk ((by rw [hg]; exact (below_size (by repeat (first | (with_reducible first | exact HB.out | apply below_alloc | apply pw_below_drewN | apply below_drew1 | refine below_set ?_ GE217.out | refine below_set ?_ GE218.out | refine below_set ?_ GE236.out) | exact HB.out))) : w.heap.size ≤ gb235))
                          have GE235 := GW235
                          have NB217_235 := Aside0.mk ((ne_lt hg (pk BK217) : gb217 ≠ gb235))
                          have NB235_217 := Aside0.mk ((ne_gt hg (pk BK217) : gb235 ≠ gb217))
                          have NB218_235 := Aside0.mk ((ne_lt hg (pk BK218) : gb218 ≠ gb235))
                          have NB235_218 := Aside0.mk ((ne_gt hg (pk BK218) : gb235 ≠ gb218))
                          have NB236_235 := Aside0.mk ((ne_lt hg (pk BK236) : gb236 ≠ gb235))
                          have NB235_236 := Aside0.mk ((ne_gt hg (pk BK236) : gb235 ≠ gb236))
                          replace BK217 := Aside0.mk (blk_below (g := gb217) (pk BK217) hb)
                          replace BK218 := Aside0.mk (blk_below (g := gb218) (pk BK218) hb)
                          replace BK236 := Aside0.mk (blk_below (g := gb236) (pk BK236) hb)
                          replace HB := Aside0.mk (below_step (by repeat (first | (with_reducible first | exact HB.out | apply below_alloc | apply pw_below_drewN | apply below_drew1 | refine below_set ?_ GE217.out | refine below_set ?_ GE218.out | refine below_set ?_ GE236.out) | exact HB.out)) hb)
                          clear hb hbox hg
                          refine hK.out _ _ ⟨bc BK217 0, bc BK217 1, bc BK217 2, bc BK217 3, bc BK217 4, bc BK217 5, bc BK217 6, bc BK217 7, bc BK217 8, bc BK218 0, bc BK218 1, bc BK218 2, bc BK218 3, bc BK218 4, bc BK218 5⟩ (fun hHeld => ?_)
                          clear hK K
                          refine norm_ (a' := ?_) ?_ ?_
                          rotate_left
                          · show Act.put _ (some 5) _ = _
                            simp only [Act.put, List.setIfInBounds_toArray, List.set_cons_zero, List.set_cons_succ, i64_w, i32_w]
                            rfl
                          exact norm0_ (hJ4_5 (gb235, gb236) _ ⟨hHeld, (pk BK217), (pk BK218), (pk BK235), (pk BK236), GW235.out, GE235.out, NB217_235.out, NB235_217.out, NB218_235.out, NB235_218.out, NB236_235.out, NB235_236.out, GW236.out, GE236.out, NB217_236.out, NB236_217.out, NB218_236.out, NB236_218.out, (by repeat (first | (with_reducible first | exact HB.out | apply below_alloc | apply pw_below_drewN | apply below_drew1 | refine below_set ?_ GE217.out | refine below_set ?_ GE218.out | refine below_set ?_ GE236.out | refine below_set ?_ GE235.out) | exact HB.out))⟩)
                    · skip
                      rintro gb235 w14 ⟨hS_, h0_, h1_, h2_, h3_, h4_, h5_, h6_, h7_, h8_, h9_⟩
                      have BK235 := Aside0.mk h2_
                      have GW235 : Aside0 (w.heap.size ≤ gb235) := ⟨h3_⟩
                      have GE235 : Aside0 (w.heap.size ≤ gb235) := ⟨h4_⟩
                      have NB217_235 : Aside0 (gb217 ≠ gb235) := ⟨h5_⟩
                      have NB235_217 : Aside0 (gb235 ≠ gb217) := ⟨h6_⟩
                      have NB218_235 : Aside0 (gb218 ≠ gb235) := ⟨h7_⟩
                      have NB235_218 : Aside0 (gb235 ≠ gb218) := ⟨h8_⟩
                      replace BK217 := Aside0.mk h0_
                      replace BK218 := Aside0.mk h1_
                      replace HB : Aside0 (Below w.heap.size w w14) := ⟨h9_⟩
                      clear h0_ h1_ h2_ h3_ h4_ h5_ h6_ h7_ h8_ h9_
                      have hHeld := hS_
                      refine norm_ (a' := ?_) ?_ ?_
                      rotate_left
                      · simp only [putAll, Act.put, List.setIfInBounds_toArray, List.set_cons_zero, List.set_cons_succ]
                        rfl
                      refine two_ (i := 1) (j := 5) (Ni := some 11) (Nj := some 6) #[true, true, true, false, true, false, false, false] #[true, false, true, false, true, true, false, false] rfl rfl rfl rfl (two_of HT_.out (by kernel_rfl)) (by decide) (by decide) (fun K hK => ?_) (fun K hK => ?_)
                      · skip
                        refine goes_ Try.func14 (by kernel_rfl) rfl #[.agg #[.int .i64 a0_0, .int .i64 a0_1, .int .i64 a0_2, .int .i64 a0_3, .int .i64 a0_4, .int .i64 a0_5, .int .i64 a0_6, .int .i64 a0_7, .int .i64 a0_8]] (by rfl) rfl rfl (by (try simp only [List.map_toArray, List.map_cons, List.map_nil]); first | done | rfl | (simp only [List.length_drop, List.length_take]; rfl)) ?_
                        with_reducible refine (damperlaw10_Given_Make.calls a0_0 a0_1 a0_2 a0_3 a0_4 a0_5 a0_6 a0_7 a0_8 t220 t221 t222 t223 t224 t225 t226 t227 t228 _ A5.out).mono ?_
                        rintro e w15 ⟨rfl, hb⟩
                        refine ⟨_, rfl, ?_⟩
                        replace BK217 := Aside0.mk (blk_below (g := gb217) (pk BK217) hb)
                        replace BK218 := Aside0.mk (blk_below (g := gb218) (pk BK218) hb)
                        replace BK235 := Aside0.mk (blk_below (g := gb235) (pk BK235) hb)
                        replace HB := Aside0.mk (below_step (by repeat (first | (with_reducible first | exact HB.out | apply below_alloc | apply pw_below_drewN | apply below_drew1 | refine below_set ?_ GE217.out | refine below_set ?_ GE218.out | refine below_set ?_ GE235.out) | exact HB.out)) hb)
                        (try clear hb)
                        (try clear hb2)
                        (try clear hk)
                        (try clear hi)
                        refine hK.out _ _ ⟨bc BK217 0, bc BK217 1, bc BK217 2, bc BK217 3, bc BK217 4, bc BK217 5, bc BK217 6, bc BK217 7, bc BK217 8, bc BK218 0, bc BK218 1, bc BK218 2, bc BK218 3, bc BK218 4, bc BK218 5⟩ (fun hHeld => ?_)
                        clear hK K
                        refine norm_ (a' := ?_) ?_ ?_
                        rotate_left
                        · show Act.put _ (some 11) _ = _
                          simp only [Act.put, List.setIfInBounds_toArray, List.set_cons_zero, List.set_cons_succ, i64_w, i32_w]
                          rfl
                        exact norm0_ (hJ1_4 (gb235) _ ⟨hHeld, (pk BK217), (pk BK218), (pk BK235), GW235.out, GE235.out, NB217_235.out, NB235_217.out, NB218_235.out, NB235_218.out, (by repeat (first | (with_reducible first | exact HB.out | apply below_alloc | apply pw_below_drewN | apply below_drew1 | refine below_set ?_ GE217.out | refine below_set ?_ GE218.out | refine below_set ?_ GE235.out) | exact HB.out))⟩)
                      · skip
                        refine box_step ?hg (N := 6) ?hd (cs := #[.string (⟨#[]⟩ : ByteArray), .int .i64 0, .int .i64 0, .int .i64 0, .int .i64 0, .int .i64 0]) (t := 25) ?hr ?_; (case hd => rfl); (case hg => rfl); (case hr => first | (go_simp; done) | (go_simp; rfl))
                        intro gb236 hg w15 hbox hb
                        have BK236 := Aside0.mk (hbox)
                        have GW236 := Aside0.mk ((by rw [hg]; exact (below_size (by repeat (first | (with_reducible first | exact HB.out | apply below_alloc | apply pw_below_drewN | apply below_drew1 | refine below_set ?_ GE217.out | refine below_set ?_ GE218.out | refine below_set ?_ GE235.out) | exact HB.out))) : w.heap.size ≤ gb236))
                        have GE236 := GW236
                        have NB217_236 := Aside0.mk ((ne_lt hg (pk BK217) : gb217 ≠ gb236))
                        have NB236_217 := Aside0.mk ((ne_gt hg (pk BK217) : gb236 ≠ gb217))
                        have NB218_236 := Aside0.mk ((ne_lt hg (pk BK218) : gb218 ≠ gb236))
                        have NB236_218 := Aside0.mk ((ne_gt hg (pk BK218) : gb236 ≠ gb218))
                        have NB235_236 := Aside0.mk ((ne_lt hg (pk BK235) : gb235 ≠ gb236))
                        have NB236_235 := Aside0.mk ((ne_gt hg (pk BK235) : gb236 ≠ gb235))
                        replace BK217 := Aside0.mk (blk_below (g := gb217) (pk BK217) hb)
                        replace BK218 := Aside0.mk (blk_below (g := gb218) (pk BK218) hb)
                        replace BK235 := Aside0.mk (blk_below (g := gb235) (pk BK235) hb)
                        replace HB := Aside0.mk (below_step (by repeat (first | (with_reducible first | exact HB.out | apply below_alloc | apply pw_below_drewN | apply below_drew1 | refine below_set ?_ GE217.out | refine below_set ?_ GE218.out | refine below_set ?_ GE235.out) | exact HB.out)) hb)
                        clear hb hbox hg
                        refine hK.out _ _ ⟨bc BK217 0, bc BK217 1, bc BK217 2, bc BK217 3, bc BK217 4, bc BK217 5, bc BK217 6, bc BK217 7, bc BK217 8, bc BK218 0, bc BK218 1, bc BK218 2, bc BK218 3, bc BK218 4, bc BK218 5⟩ (fun hHeld => ?_)
                        clear hK K
                        refine norm_ (a' := ?_) ?_ ?_
                        rotate_left
                        · show Act.put _ (some 6) _ = _
                          simp only [Act.put, List.setIfInBounds_toArray, List.set_cons_zero, List.set_cons_succ, i64_w, i32_w]
                          rfl
                        exact norm0_ (hJ4_5 (gb235, gb236) _ ⟨hHeld, (pk BK217), (pk BK218), (pk BK235), (pk BK236), GW235.out, GE235.out, NB217_235.out, NB235_217.out, NB218_235.out, NB235_218.out, NB236_235.out, NB235_236.out, GW236.out, GE236.out, NB217_236.out, NB236_217.out, NB218_236.out, NB236_218.out, (by repeat (first | (with_reducible first | exact HB.out | apply below_alloc | apply pw_below_drewN | apply below_drew1 | refine below_set ?_ GE217.out | refine below_set ?_ GE218.out | refine below_set ?_ GE235.out | refine below_set ?_ GE236.out) | exact HB.out))⟩)
                  · skip
                    rintro _ w14 ⟨hS_, h0_, h1_, h2_⟩
                    replace BK217 := Aside0.mk h0_
                    replace BK218 := Aside0.mk h1_
                    replace HB : Aside0 (Below w.heap.size w w14) := ⟨h2_⟩
                    clear h0_ h1_ h2_
                    have hHeld := hS_
                    refine norm_ (a' := ?_) ?_ ?_
                    rotate_left
                    · simp only [putAll, Act.put, List.setIfInBounds_toArray, List.set_cons_zero, List.set_cons_succ]
                      rfl
                    refine three_ (i := 3) (j := 4) (k := 5) (Ni := some 13) (Nj := some 5) (Nk := some 6) #[true, true, true, true, false, false, false, false] #[true, true, true, false, true, false, false, false] #[true, true, true, false, false, true, false, false] rfl rfl rfl rfl rfl rfl (three_of HT_.out (by kernel_rfl)) (by decide) (by decide) (by decide) (fun K hK => ?_) (fun K hK => ?_) (fun K hK => ?_)
                    · skip
                      refine goes_ Try.func15 (by kernel_rfl) rfl #[.agg #[.string a1_0, .int .i64 a1_1, .int .i64 a1_2, .int .i64 a1_3, .int .i64 a1_4, .int .i64 a1_5], .int .i64 0] (by rfl) rfl rfl (by (try simp only [List.map_toArray, List.map_cons, List.map_nil]); first | done | rfl | (simp only [List.length_drop, List.length_take]; rfl)) ?_
                      with_reducible refine (damperlaw2_Config.calls a1_0 a1_1 a1_2 a1_3 a1_4 a1_5 0 t229 t230 t231 t232 t233 t234 _ A6.out).mono ?_
                      rintro e w15 ⟨rfl, hb⟩
                      refine ⟨_, rfl, ?_⟩
                      replace BK217 := Aside0.mk (blk_below (g := gb217) (pk BK217) hb)
                      replace BK218 := Aside0.mk (blk_below (g := gb218) (pk BK218) hb)
                      replace HB := Aside0.mk (below_step (by repeat (first | (with_reducible first | exact HB.out | apply below_alloc | apply pw_below_drewN | apply below_drew1 | refine below_set ?_ GE217.out | refine below_set ?_ GE218.out) | exact HB.out)) hb)
                      (try clear hb)
                      (try clear hb2)
                      (try clear hk)
                      (try clear hi)
                      refine hK.out _ _ ⟨bc BK217 0, bc BK217 1, bc BK217 2, bc BK217 3, bc BK217 4, bc BK217 5, bc BK217 6, bc BK217 7, bc BK217 8, bc BK218 0, bc BK218 1, bc BK218 2, bc BK218 3, bc BK218 4, bc BK218 5⟩ (fun hHeld => ?_)
                      clear hK K
                      refine norm_ (a' := ?_) ?_ ?_
                      rotate_left
                      · show Act.put _ (some 13) _ = _
                        simp only [Act.put, List.setIfInBounds_toArray, List.set_cons_zero, List.set_cons_succ, i64_w, i32_w]
                        rfl
                      exact norm0_ (hJ1_3 () _ ⟨hHeld, (pk BK217), (pk BK218), (by repeat (first | (with_reducible first | exact HB.out | apply below_alloc | apply pw_below_drewN | apply below_drew1 | refine below_set ?_ GE217.out | refine below_set ?_ GE218.out) | exact HB.out))⟩)
                    · skip
                      refine box_step ?hg (N := 5) ?hd (cs := #[.int .i64 0, .int .i64 0, .int .i64 0, .int .i64 0, .int .i64 0, .int .i64 0, .int .i64 0, .int .i64 0, .int .i64 0]) (t := 23) ?hr ?_; (case hd => rfl); (case hg => rfl); (case hr => first | (go_simp; done) | (go_simp; rfl))
                      intro gb235 hg w15 hbox hb
                      have BK235 := Aside0.mk (hbox)
                      have GW235 := Aside0.mk ((by rw [hg]; exact (below_size (by repeat (first | (with_reducible first | exact HB.out | apply below_alloc | apply pw_below_drewN | apply below_drew1 | refine below_set ?_ GE217.out | refine below_set ?_ GE218.out) | exact HB.out))) : w.heap.size ≤ gb235))
                      have GE235 := GW235
                      have NB217_235 := Aside0.mk ((ne_lt hg (pk BK217) : gb217 ≠ gb235))
                      have NB235_217 := Aside0.mk ((ne_gt hg (pk BK217) : gb235 ≠ gb217))
                      have NB218_235 := Aside0.mk ((ne_lt hg (pk BK218) : gb218 ≠ gb235))
                      have NB235_218 := Aside0.mk ((ne_gt hg (pk BK218) : gb235 ≠ gb218))
                      replace BK217 := Aside0.mk (blk_below (g := gb217) (pk BK217) hb)
                      replace BK218 := Aside0.mk (blk_below (g := gb218) (pk BK218) hb)
                      replace HB := Aside0.mk (below_step (by repeat (first | (with_reducible first | exact HB.out | apply below_alloc | apply pw_below_drewN | apply below_drew1 | refine below_set ?_ GE217.out | refine below_set ?_ GE218.out) | exact HB.out)) hb)
                      clear hb hbox hg
                      refine hK.out _ _ ⟨bc BK217 0, bc BK217 1, bc BK217 2, bc BK217 3, bc BK217 4, bc BK217 5, bc BK217 6, bc BK217 7, bc BK217 8, bc BK218 0, bc BK218 1, bc BK218 2, bc BK218 3, bc BK218 4, bc BK218 5⟩ (fun hHeld => ?_)
                      clear hK K
                      refine norm_ (a' := ?_) ?_ ?_
                      rotate_left
                      · show Act.put _ (some 5) _ = _
                        simp only [Act.put, List.setIfInBounds_toArray, List.set_cons_zero, List.set_cons_succ, i64_w, i32_w]
                        rfl
                      exact norm0_ (hJ1_4 (gb235) _ ⟨hHeld, (pk BK217), (pk BK218), (pk BK235), GW235.out, GE235.out, NB217_235.out, NB235_217.out, NB218_235.out, NB235_218.out, (by repeat (first | (with_reducible first | exact HB.out | apply below_alloc | apply pw_below_drewN | apply below_drew1 | refine below_set ?_ GE217.out | refine below_set ?_ GE218.out | refine below_set ?_ GE235.out) | exact HB.out))⟩)
                    · skip
                      refine box_step ?hg (N := 6) ?hd (cs := #[.string (⟨#[]⟩ : ByteArray), .int .i64 0, .int .i64 0, .int .i64 0, .int .i64 0, .int .i64 0]) (t := 25) ?hr ?_; (case hd => rfl); (case hg => rfl); (case hr => first | (go_simp; done) | (go_simp; rfl))
                      intro gb236 hg w15 hbox hb
                      have BK236 := Aside0.mk (hbox)
                      have GW236 := Aside0.mk ((by rw [hg]; exact (below_size (by repeat (first | (with_reducible first | exact HB.out | apply below_alloc | apply pw_below_drewN | apply below_drew1 | refine below_set ?_ GE217.out | refine below_set ?_ GE218.out) | exact HB.out))) : w.heap.size ≤ gb236))
                      have GE236 := GW236
                      have NB217_236 := Aside0.mk ((ne_lt hg (pk BK217) : gb217 ≠ gb236))
                      have NB236_217 := Aside0.mk ((ne_gt hg (pk BK217) : gb236 ≠ gb217))
                      have NB218_236 := Aside0.mk ((ne_lt hg (pk BK218) : gb218 ≠ gb236))
                      have NB236_218 := Aside0.mk ((ne_gt hg (pk BK218) : gb236 ≠ gb218))
                      replace BK217 := Aside0.mk (blk_below (g := gb217) (pk BK217) hb)
                      replace BK218 := Aside0.mk (blk_below (g := gb218) (pk BK218) hb)
                      replace HB := Aside0.mk (below_step (by repeat (first | (with_reducible first | exact HB.out | apply below_alloc | apply pw_below_drewN | apply below_drew1 | refine below_set ?_ GE217.out | refine below_set ?_ GE218.out) | exact HB.out)) hb)
                      clear hb hbox hg
                      refine hK.out _ _ ⟨bc BK217 0, bc BK217 1, bc BK217 2, bc BK217 3, bc BK217 4, bc BK217 5, bc BK217 6, bc BK217 7, bc BK217 8, bc BK218 0, bc BK218 1, bc BK218 2, bc BK218 3, bc BK218 4, bc BK218 5⟩ (fun hHeld => ?_)
                      clear hK K
                      refine norm_ (a' := ?_) ?_ ?_
                      rotate_left
                      · show Act.put _ (some 6) _ = _
                        simp only [Act.put, List.setIfInBounds_toArray, List.set_cons_zero, List.set_cons_succ, i64_w, i32_w]
                        rfl
                      exact norm0_ (hJ1_5 (gb236) _ ⟨hHeld, (pk BK217), (pk BK218), (pk BK236), GW236.out, GE236.out, NB217_236.out, NB236_217.out, NB218_236.out, NB236_218.out, (by repeat (first | (with_reducible first | exact HB.out | apply below_alloc | apply pw_below_drewN | apply below_drew1 | refine below_set ?_ GE217.out | refine below_set ?_ GE218.out | refine below_set ?_ GE236.out) | exact HB.out))⟩)
                · skip
                  rintro ⟨gb235, gb236⟩ w15 ⟨hS_, h0_, h1_, h2_, h3_, h4_, h5_, h6_, h7_, h8_, h9_, h10_, h11_, h12_, h13_, h14_, h15_, h16_, h17_, h18_⟩
                  have BK235 : Aside0 (w15.heap[gb235]? = some (.cells #[.int .i64 0, .int .i64 0, .int .i64 0, .int .i64 0, .int .i64 0, .int .i64 0, .int .i64 0, .int .i64 0, .int .i64 0] 23 (0, 0))) := ⟨h2_⟩
                  have BK236 : Aside0 (w15.heap[gb236]? = some (.cells #[.string (⟨#[]⟩ : ByteArray), .int .i64 0, .int .i64 0, .int .i64 0, .int .i64 0, .int .i64 0] 25 (0, 0))) := ⟨h3_⟩
                  have GW235 : Aside0 (w.heap.size ≤ gb235) := ⟨h4_⟩
                  have GE235 : Aside0 (w.heap.size ≤ gb235) := ⟨h5_⟩
                  have NB217_235 : Aside0 (gb217 ≠ gb235) := ⟨h6_⟩
                  have NB235_217 : Aside0 (gb235 ≠ gb217) := ⟨h7_⟩
                  have NB218_235 : Aside0 (gb218 ≠ gb235) := ⟨h8_⟩
                  have NB235_218 : Aside0 (gb235 ≠ gb218) := ⟨h9_⟩
                  have NB236_235 : Aside0 (gb236 ≠ gb235) := ⟨h10_⟩
                  have NB235_236 : Aside0 (gb235 ≠ gb236) := ⟨h11_⟩
                  have GW236 : Aside0 (w.heap.size ≤ gb236) := ⟨h12_⟩
                  have GE236 : Aside0 (w.heap.size ≤ gb236) := ⟨h13_⟩
                  have NB217_236 : Aside0 (gb217 ≠ gb236) := ⟨h14_⟩
                  have NB236_217 : Aside0 (gb236 ≠ gb217) := ⟨h15_⟩
                  have NB218_236 : Aside0 (gb218 ≠ gb236) := ⟨h16_⟩
                  have NB236_218 : Aside0 (gb236 ≠ gb218) := ⟨h17_⟩
                  replace BK217 := Aside0.mk h0_
                  replace BK218 := Aside0.mk h1_
                  replace HB : Aside0 (Below w.heap.size w w15) := ⟨h18_⟩
                  clear h0_ h1_ h2_ h3_ h4_ h5_ h6_ h7_ h8_ h9_ h10_ h11_ h12_ h13_ h14_ h15_ h16_ h17_ h18_
                  have hHeld := hS_
                  refine norm_ (a' := ?_) ?_ ?_
                  rotate_left
                  · simp only [putAll, Act.put, List.setIfInBounds_toArray, List.set_cons_zero, List.set_cons_succ]
                    rfl
                  refine one_ (i := 1) (N := some 11) #[true, true, true, false, true, true, false, false] rfl rfl (one_of HT_.out (by kernel_rfl)) (by decide) (fun K hK => ?_)
                  refine goes_ Try.func14 (by kernel_rfl) rfl #[.agg #[.int .i64 a0_0, .int .i64 a0_1, .int .i64 a0_2, .int .i64 a0_3, .int .i64 a0_4, .int .i64 a0_5, .int .i64 a0_6, .int .i64 a0_7, .int .i64 a0_8]] (by rfl) rfl rfl (by (try simp only [List.map_toArray, List.map_cons, List.map_nil]); first | done | rfl | (simp only [List.length_drop, List.length_take]; rfl)) ?_
                  with_reducible refine (damperlaw10_Given_Make.calls a0_0 a0_1 a0_2 a0_3 a0_4 a0_5 a0_6 a0_7 a0_8 t220 t221 t222 t223 t224 t225 t226 t227 t228 _ A5.out).mono ?_
                  rintro e w16 ⟨rfl, hb⟩
                  refine ⟨_, rfl, ?_⟩
                  replace BK217 := Aside0.mk (blk_below (g := gb217) (pk BK217) hb)
                  replace BK218 := Aside0.mk (blk_below (g := gb218) (pk BK218) hb)
                  replace BK235 := Aside0.mk (blk_below (g := gb235) (pk BK235) hb)
                  replace BK236 := Aside0.mk (blk_below (g := gb236) (pk BK236) hb)
                  replace HB := Aside0.mk (below_step (by repeat (first | (with_reducible first | exact HB.out | apply below_alloc | apply pw_below_drewN | apply below_drew1 | refine below_set ?_ GE217.out | refine below_set ?_ GE218.out | refine below_set ?_ GE235.out | refine below_set ?_ GE236.out) | exact HB.out)) hb)
                  (try clear hb)
                  (try clear hb2)
                  (try clear hk)
                  (try clear hi)
                  refine hK.out _ _ ⟨bc BK217 0, bc BK217 1, bc BK217 2, bc BK217 3, bc BK217 4, bc BK217 5, bc BK217 6, bc BK217 7, bc BK217 8, bc BK218 0, bc BK218 1, bc BK218 2, bc BK218 3, bc BK218 4, bc BK218 5⟩ (fun hHeld => ?_)
                  clear hK K
                  refine norm_ (a' := ?_) ?_ ?_
                  rotate_left
                  · show Act.put _ (some 11) _ = _
                    simp only [Act.put, List.setIfInBounds_toArray, List.set_cons_zero, List.set_cons_succ, i64_w, i32_w]
                    rfl
                  exact norm0_ (hJ1_4_5 (gb235, gb236) _ ⟨hHeld, (pk BK217), (pk BK218), (pk BK235), (pk BK236), GW235.out, GE235.out, NB217_235.out, NB235_217.out, NB218_235.out, NB235_218.out, NB236_235.out, NB235_236.out, GW236.out, GE236.out, NB217_236.out, NB236_217.out, NB218_236.out, NB236_218.out, (by repeat (first | (with_reducible first | exact HB.out | apply below_alloc | apply pw_below_drewN | apply below_drew1 | refine below_set ?_ GE217.out | refine below_set ?_ GE218.out | refine below_set ?_ GE235.out | refine below_set ?_ GE236.out) | exact HB.out))⟩)
              · skip
                rintro gb236 w15 ⟨hS_, h0_, h1_, h2_, h3_, h4_, h5_, h6_, h7_, h8_, h9_⟩
                have BK236 := Aside0.mk h2_
                have GW236 : Aside0 (w.heap.size ≤ gb236) := ⟨h3_⟩
                have GE236 : Aside0 (w.heap.size ≤ gb236) := ⟨h4_⟩
                have NB217_236 : Aside0 (gb217 ≠ gb236) := ⟨h5_⟩
                have NB236_217 : Aside0 (gb236 ≠ gb217) := ⟨h6_⟩
                have NB218_236 : Aside0 (gb218 ≠ gb236) := ⟨h7_⟩
                have NB236_218 : Aside0 (gb236 ≠ gb218) := ⟨h8_⟩
                replace BK217 := Aside0.mk h0_
                replace BK218 := Aside0.mk h1_
                replace HB : Aside0 (Below w.heap.size w w15) := ⟨h9_⟩
                clear h0_ h1_ h2_ h3_ h4_ h5_ h6_ h7_ h8_ h9_
                have hHeld := hS_
                refine norm_ (a' := ?_) ?_ ?_
                rotate_left
                · simp only [putAll, Act.put, List.setIfInBounds_toArray, List.set_cons_zero, List.set_cons_succ]
                  rfl
                refine two_ (i := 3) (j := 4) (Ni := some 13) (Nj := some 5) #[true, true, true, true, false, true, false, false] #[true, true, true, false, true, true, false, false] rfl rfl rfl rfl (two_of HT_.out (by kernel_rfl)) (by decide) (by decide) (fun K hK => ?_) (fun K hK => ?_)
                · skip
                  refine goes_ Try.func15 (by kernel_rfl) rfl #[.agg #[.string a1_0, .int .i64 a1_1, .int .i64 a1_2, .int .i64 a1_3, .int .i64 a1_4, .int .i64 a1_5], .int .i64 0] (by rfl) rfl rfl (by (try simp only [List.map_toArray, List.map_cons, List.map_nil]); first | done | rfl | (simp only [List.length_drop, List.length_take]; rfl)) ?_
                  with_reducible refine (damperlaw2_Config.calls a1_0 a1_1 a1_2 a1_3 a1_4 a1_5 0 t229 t230 t231 t232 t233 t234 _ A6.out).mono ?_
                  rintro e w16 ⟨rfl, hb⟩
                  refine ⟨_, rfl, ?_⟩
                  replace BK217 := Aside0.mk (blk_below (g := gb217) (pk BK217) hb)
                  replace BK218 := Aside0.mk (blk_below (g := gb218) (pk BK218) hb)
                  replace BK236 := Aside0.mk (blk_below (g := gb236) (pk BK236) hb)
                  replace HB := Aside0.mk (below_step (by repeat (first | (with_reducible first | exact HB.out | apply below_alloc | apply pw_below_drewN | apply below_drew1 | refine below_set ?_ GE217.out | refine below_set ?_ GE218.out | refine below_set ?_ GE236.out) | exact HB.out)) hb)
                  (try clear hb)
                  (try clear hb2)
                  (try clear hk)
                  (try clear hi)
                  refine hK.out _ _ ⟨bc BK217 0, bc BK217 1, bc BK217 2, bc BK217 3, bc BK217 4, bc BK217 5, bc BK217 6, bc BK217 7, bc BK217 8, bc BK218 0, bc BK218 1, bc BK218 2, bc BK218 3, bc BK218 4, bc BK218 5⟩ (fun hHeld => ?_)
                  clear hK K
                  refine norm_ (a' := ?_) ?_ ?_
                  rotate_left
                  · show Act.put _ (some 13) _ = _
                    simp only [Act.put, List.setIfInBounds_toArray, List.set_cons_zero, List.set_cons_succ, i64_w, i32_w]
                    rfl
                  exact norm0_ (hJ1_3_5 (gb236) _ ⟨hHeld, (pk BK217), (pk BK218), (pk BK236), GW236.out, GE236.out, NB217_236.out, NB236_217.out, NB218_236.out, NB236_218.out, (by repeat (first | (with_reducible first | exact HB.out | apply below_alloc | apply pw_below_drewN | apply below_drew1 | refine below_set ?_ GE217.out | refine below_set ?_ GE218.out | refine below_set ?_ GE236.out) | exact HB.out))⟩)
                · skip
                  refine box_step ?hg (N := 5) ?hd (cs := #[.int .i64 0, .int .i64 0, .int .i64 0, .int .i64 0, .int .i64 0, .int .i64 0, .int .i64 0, .int .i64 0, .int .i64 0]) (t := 23) ?hr ?_; (case hd => rfl); (case hg => rfl); (case hr => first | (go_simp; done) | (go_simp; rfl))
                  intro gb235 hg w16 hbox hb
                  have BK235 := Aside0.mk (hbox)
                  have GW235 := Aside0.mk ((by rw [hg]; exact (below_size (by repeat (first | (with_reducible first | exact HB.out | apply below_alloc | apply pw_below_drewN | apply below_drew1 | refine below_set ?_ GE217.out | refine below_set ?_ GE218.out | refine below_set ?_ GE236.out) | exact HB.out))) : w.heap.size ≤ gb235))
                  have GE235 := GW235
                  have NB217_235 := Aside0.mk ((ne_lt hg (pk BK217) : gb217 ≠ gb235))
                  have NB235_217 := Aside0.mk ((ne_gt hg (pk BK217) : gb235 ≠ gb217))
                  have NB218_235 := Aside0.mk ((ne_lt hg (pk BK218) : gb218 ≠ gb235))
                  have NB235_218 := Aside0.mk ((ne_gt hg (pk BK218) : gb235 ≠ gb218))
                  have NB236_235 := Aside0.mk ((ne_lt hg (pk BK236) : gb236 ≠ gb235))
                  have NB235_236 := Aside0.mk ((ne_gt hg (pk BK236) : gb235 ≠ gb236))
                  replace BK217 := Aside0.mk (blk_below (g := gb217) (pk BK217) hb)
                  replace BK218 := Aside0.mk (blk_below (g := gb218) (pk BK218) hb)
                  replace BK236 := Aside0.mk (blk_below (g := gb236) (pk BK236) hb)
                  replace HB := Aside0.mk (below_step (by repeat (first | (with_reducible first | exact HB.out | apply below_alloc | apply pw_below_drewN | apply below_drew1 | refine below_set ?_ GE217.out | refine below_set ?_ GE218.out | refine below_set ?_ GE236.out) | exact HB.out)) hb)
                  clear hb hbox hg
                  refine hK.out _ _ ⟨bc BK217 0, bc BK217 1, bc BK217 2, bc BK217 3, bc BK217 4, bc BK217 5, bc BK217 6, bc BK217 7, bc BK217 8, bc BK218 0, bc BK218 1, bc BK218 2, bc BK218 3, bc BK218 4, bc BK218 5⟩ (fun hHeld => ?_)
                  clear hK K
                  refine norm_ (a' := ?_) ?_ ?_
                  rotate_left
                  · show Act.put _ (some 5) _ = _
                    simp only [Act.put, List.setIfInBounds_toArray, List.set_cons_zero, List.set_cons_succ, i64_w, i32_w]
                    rfl
                  exact norm0_ (hJ1_4_5 (gb235, gb236) _ ⟨hHeld, (pk BK217), (pk BK218), (pk BK235), (pk BK236), GW235.out, GE235.out, NB217_235.out, NB235_217.out, NB218_235.out, NB235_218.out, NB236_235.out, NB235_236.out, GW236.out, GE236.out, NB217_236.out, NB236_217.out, NB218_236.out, NB236_218.out, (by repeat (first | (with_reducible first | exact HB.out | apply below_alloc | apply pw_below_drewN | apply below_drew1 | refine below_set ?_ GE217.out | refine below_set ?_ GE218.out | refine below_set ?_ GE236.out | refine below_set ?_ GE235.out) | exact HB.out))⟩)
            · skip
              rintro gb235 w15 ⟨hS_, h0_, h1_, h2_, h3_, h4_, h5_, h6_, h7_, h8_, h9_⟩
              have BK235 := Aside0.mk h2_
              have GW235 : Aside0 (w.heap.size ≤ gb235) := ⟨h3_⟩
              have GE235 : Aside0 (w.heap.size ≤ gb235) := ⟨h4_⟩
              have NB217_235 : Aside0 (gb217 ≠ gb235) := ⟨h5_⟩
              have NB235_217 : Aside0 (gb235 ≠ gb217) := ⟨h6_⟩
              have NB218_235 : Aside0 (gb218 ≠ gb235) := ⟨h7_⟩
              have NB235_218 : Aside0 (gb235 ≠ gb218) := ⟨h8_⟩
              replace BK217 := Aside0.mk h0_
              replace BK218 := Aside0.mk h1_
              replace HB : Aside0 (Below w.heap.size w w15) := ⟨h9_⟩
              clear h0_ h1_ h2_ h3_ h4_ h5_ h6_ h7_ h8_ h9_
              have hHeld := hS_
              refine norm_ (a' := ?_) ?_ ?_
              rotate_left
              · simp only [putAll, Act.put, List.setIfInBounds_toArray, List.set_cons_zero, List.set_cons_succ]
                rfl
              refine two_ (i := 3) (j := 5) (Ni := some 13) (Nj := some 6) #[true, true, true, true, true, false, false, false] #[true, true, true, false, true, true, false, false] rfl rfl rfl rfl (two_of HT_.out (by kernel_rfl)) (by decide) (by decide) (fun K hK => ?_) (fun K hK => ?_)
              · skip
                refine goes_ Try.func15 (by kernel_rfl) rfl #[.agg #[.string a1_0, .int .i64 a1_1, .int .i64 a1_2, .int .i64 a1_3, .int .i64 a1_4, .int .i64 a1_5], .int .i64 0] (by rfl) rfl rfl (by (try simp only [List.map_toArray, List.map_cons, List.map_nil]); first | done | rfl | (simp only [List.length_drop, List.length_take]; rfl)) ?_
                with_reducible refine (damperlaw2_Config.calls a1_0 a1_1 a1_2 a1_3 a1_4 a1_5 0 t229 t230 t231 t232 t233 t234 _ A6.out).mono ?_
                rintro e w16 ⟨rfl, hb⟩
                refine ⟨_, rfl, ?_⟩
                replace BK217 := Aside0.mk (blk_below (g := gb217) (pk BK217) hb)
                replace BK218 := Aside0.mk (blk_below (g := gb218) (pk BK218) hb)
                replace BK235 := Aside0.mk (blk_below (g := gb235) (pk BK235) hb)
                replace HB := Aside0.mk (below_step (by repeat (first | (with_reducible first | exact HB.out | apply below_alloc | apply pw_below_drewN | apply below_drew1 | refine below_set ?_ GE217.out | refine below_set ?_ GE218.out | refine below_set ?_ GE235.out) | exact HB.out)) hb)
                (try clear hb)
                (try clear hb2)
                (try clear hk)
                (try clear hi)
                refine hK.out _ _ ⟨bc BK217 0, bc BK217 1, bc BK217 2, bc BK217 3, bc BK217 4, bc BK217 5, bc BK217 6, bc BK217 7, bc BK217 8, bc BK218 0, bc BK218 1, bc BK218 2, bc BK218 3, bc BK218 4, bc BK218 5⟩ (fun hHeld => ?_)
                clear hK K
                refine norm_ (a' := ?_) ?_ ?_
                rotate_left
                · show Act.put _ (some 13) _ = _
                  simp only [Act.put, List.setIfInBounds_toArray, List.set_cons_zero, List.set_cons_succ, i64_w, i32_w]
                  rfl
                exact norm0_ (hJ1_3_4 (gb235) _ ⟨hHeld, (pk BK217), (pk BK218), (pk BK235), GW235.out, GE235.out, NB217_235.out, NB235_217.out, NB218_235.out, NB235_218.out, (by repeat (first | (with_reducible first | exact HB.out | apply below_alloc | apply pw_below_drewN | apply below_drew1 | refine below_set ?_ GE217.out | refine below_set ?_ GE218.out | refine below_set ?_ GE235.out) | exact HB.out))⟩)
              · skip
                refine box_step ?hg (N := 6) ?hd (cs := #[.string (⟨#[]⟩ : ByteArray), .int .i64 0, .int .i64 0, .int .i64 0, .int .i64 0, .int .i64 0]) (t := 25) ?hr ?_; (case hd => rfl); (case hg => rfl); (case hr => first | (go_simp; done) | (go_simp; rfl))
                intro gb236 hg w16 hbox hb
                have BK236 := Aside0.mk (hbox)
                have GW236 := Aside0.mk ((by rw [hg]; exact (below_size (by repeat (first | (with_reducible first | exact HB.out | apply below_alloc | apply pw_below_drewN | apply below_drew1 | refine below_set ?_ GE217.out | refine below_set ?_ GE218.out | refine below_set ?_ GE235.out) | exact HB.out))) : w.heap.size ≤ gb236))
                have GE236 := GW236
                have NB217_236 := Aside0.mk ((ne_lt hg (pk BK217) : gb217 ≠ gb236))
                have NB236_217 := Aside0.mk ((ne_gt hg (pk BK217) : gb236 ≠ gb217))
                have NB218_236 := Aside0.mk ((ne_lt hg (pk BK218) : gb218 ≠ gb236))
                have NB236_218 := Aside0.mk ((ne_gt hg (pk BK218) : gb236 ≠ gb218))
                have NB235_236 := Aside0.mk ((ne_lt hg (pk BK235) : gb235 ≠ gb236))
                have NB236_235 := Aside0.mk ((ne_gt hg (pk BK235) : gb236 ≠ gb235))
                replace BK217 := Aside0.mk (blk_below (g := gb217) (pk BK217) hb)
                replace BK218 := Aside0.mk (blk_below (g := gb218) (pk BK218) hb)
                replace BK235 := Aside0.mk (blk_below (g := gb235) (pk BK235) hb)
                replace HB := Aside0.mk (below_step (by repeat (first | (with_reducible first | exact HB.out | apply below_alloc | apply pw_below_drewN | apply below_drew1 | refine below_set ?_ GE217.out | refine below_set ?_ GE218.out | refine below_set ?_ GE235.out) | exact HB.out)) hb)
                clear hb hbox hg
                refine hK.out _ _ ⟨bc BK217 0, bc BK217 1, bc BK217 2, bc BK217 3, bc BK217 4, bc BK217 5, bc BK217 6, bc BK217 7, bc BK217 8, bc BK218 0, bc BK218 1, bc BK218 2, bc BK218 3, bc BK218 4, bc BK218 5⟩ (fun hHeld => ?_)
                clear hK K
                refine norm_ (a' := ?_) ?_ ?_
                rotate_left
                · show Act.put _ (some 6) _ = _
                  simp only [Act.put, List.setIfInBounds_toArray, List.set_cons_zero, List.set_cons_succ, i64_w, i32_w]
                  rfl
                exact norm0_ (hJ1_4_5 (gb235, gb236) _ ⟨hHeld, (pk BK217), (pk BK218), (pk BK235), (pk BK236), GW235.out, GE235.out, NB217_235.out, NB235_217.out, NB218_235.out, NB235_218.out, NB236_235.out, NB235_236.out, GW236.out, GE236.out, NB217_236.out, NB236_217.out, NB218_236.out, NB236_218.out, (by repeat (first | (with_reducible first | exact HB.out | apply below_alloc | apply pw_below_drewN | apply below_drew1 | refine below_set ?_ GE217.out | refine below_set ?_ GE218.out | refine below_set ?_ GE235.out | refine below_set ?_ GE236.out) | exact HB.out))⟩)
          · skip
            rintro _ w15 ⟨hS_, h0_, h1_, h2_⟩
            replace BK217 := Aside0.mk h0_
            replace BK218 := Aside0.mk h1_
            replace HB : Aside0 (Below w.heap.size w w15) := ⟨h2_⟩
            clear h0_ h1_ h2_
            have hHeld := hS_
            refine norm_ (a' := ?_) ?_ ?_
            rotate_left
            · simp only [putAll, Act.put, List.setIfInBounds_toArray, List.set_cons_zero, List.set_cons_succ]
              rfl
            refine two_ (i := 4) (j := 5) (Ni := some 5) (Nj := some 6) #[true, true, true, true, true, false, false, false] #[true, true, true, true, false, true, false, false] rfl rfl rfl rfl (two_of HT_.out (by kernel_rfl)) (by decide) (by decide) (fun K hK => ?_) (fun K hK => ?_)
            · skip
              refine box_step ?hg (N := 5) ?hd (cs := #[.int .i64 0, .int .i64 0, .int .i64 0, .int .i64 0, .int .i64 0, .int .i64 0, .int .i64 0, .int .i64 0, .int .i64 0]) (t := 23) ?hr ?_; (case hd => rfl); (case hg => rfl); (case hr => first | (go_simp; done) | (go_simp; rfl))
              intro gb235 hg w16 hbox hb
              have BK235 := Aside0.mk (hbox)
              have GW235 := Aside0.mk ((by rw [hg]; exact (below_size (by repeat (first | (with_reducible first | exact HB.out | apply below_alloc | apply pw_below_drewN | apply below_drew1 | refine below_set ?_ GE217.out | refine below_set ?_ GE218.out) | exact HB.out))) : w.heap.size ≤ gb235))
              have GE235 := GW235
              have NB217_235 := Aside0.mk ((ne_lt hg (pk BK217) : gb217 ≠ gb235))
              have NB235_217 := Aside0.mk ((ne_gt hg (pk BK217) : gb235 ≠ gb217))
              have NB218_235 := Aside0.mk ((ne_lt hg (pk BK218) : gb218 ≠ gb235))
              have NB235_218 := Aside0.mk ((ne_gt hg (pk BK218) : gb235 ≠ gb218))
              replace BK217 := Aside0.mk (blk_below (g := gb217) (pk BK217) hb)
              replace BK218 := Aside0.mk (blk_below (g := gb218) (pk BK218) hb)
              replace HB := Aside0.mk (below_step (by repeat (first | (with_reducible first | exact HB.out | apply below_alloc | apply pw_below_drewN | apply below_drew1 | refine below_set ?_ GE217.out | refine below_set ?_ GE218.out) | exact HB.out)) hb)
              clear hb hbox hg
              refine hK.out _ _ ⟨bc BK217 0, bc BK217 1, bc BK217 2, bc BK217 3, bc BK217 4, bc BK217 5, bc BK217 6, bc BK217 7, bc BK217 8, bc BK218 0, bc BK218 1, bc BK218 2, bc BK218 3, bc BK218 4, bc BK218 5⟩ (fun hHeld => ?_)
              clear hK K
              refine norm_ (a' := ?_) ?_ ?_
              rotate_left
              · show Act.put _ (some 5) _ = _
                simp only [Act.put, List.setIfInBounds_toArray, List.set_cons_zero, List.set_cons_succ, i64_w, i32_w]
                rfl
              exact norm0_ (hJ1_3_4 (gb235) _ ⟨hHeld, (pk BK217), (pk BK218), (pk BK235), GW235.out, GE235.out, NB217_235.out, NB235_217.out, NB218_235.out, NB235_218.out, (by repeat (first | (with_reducible first | exact HB.out | apply below_alloc | apply pw_below_drewN | apply below_drew1 | refine below_set ?_ GE217.out | refine below_set ?_ GE218.out | refine below_set ?_ GE235.out) | exact HB.out))⟩)
            · skip
              refine box_step ?hg (N := 6) ?hd (cs := #[.string (⟨#[]⟩ : ByteArray), .int .i64 0, .int .i64 0, .int .i64 0, .int .i64 0, .int .i64 0]) (t := 25) ?hr ?_; (case hd => rfl); (case hg => rfl); (case hr => first | (go_simp; done) | (go_simp; rfl))
              intro gb236 hg w16 hbox hb
              have BK236 := Aside0.mk (hbox)
              have GW236 := Aside0.mk ((by rw [hg]; exact (below_size (by repeat (first | (with_reducible first | exact HB.out | apply below_alloc | apply pw_below_drewN | apply below_drew1 | refine below_set ?_ GE217.out | refine below_set ?_ GE218.out) | exact HB.out))) : w.heap.size ≤ gb236))
              have GE236 := GW236
              have NB217_236 := Aside0.mk ((ne_lt hg (pk BK217) : gb217 ≠ gb236))
              have NB236_217 := Aside0.mk ((ne_gt hg (pk BK217) : gb236 ≠ gb217))
              have NB218_236 := Aside0.mk ((ne_lt hg (pk BK218) : gb218 ≠ gb236))
              have NB236_218 := Aside0.mk ((ne_gt hg (pk BK218) : gb236 ≠ gb218))
              replace BK217 := Aside0.mk (blk_below (g := gb217) (pk BK217) hb)
              replace BK218 := Aside0.mk (blk_below (g := gb218) (pk BK218) hb)
              replace HB := Aside0.mk (below_step (by repeat (first | (with_reducible first | exact HB.out | apply below_alloc | apply pw_below_drewN | apply below_drew1 | refine below_set ?_ GE217.out | refine below_set ?_ GE218.out) | exact HB.out)) hb)
              clear hb hbox hg
              refine hK.out _ _ ⟨bc BK217 0, bc BK217 1, bc BK217 2, bc BK217 3, bc BK217 4, bc BK217 5, bc BK217 6, bc BK217 7, bc BK217 8, bc BK218 0, bc BK218 1, bc BK218 2, bc BK218 3, bc BK218 4, bc BK218 5⟩ (fun hHeld => ?_)
              clear hK K
              refine norm_ (a' := ?_) ?_ ?_
              rotate_left
              · show Act.put _ (some 6) _ = _
                simp only [Act.put, List.setIfInBounds_toArray, List.set_cons_zero, List.set_cons_succ, i64_w, i32_w]
                rfl
              exact norm0_ (hJ1_3_5 (gb236) _ ⟨hHeld, (pk BK217), (pk BK218), (pk BK236), GW236.out, GE236.out, NB217_236.out, NB236_217.out, NB218_236.out, NB236_218.out, (by repeat (first | (with_reducible first | exact HB.out | apply below_alloc | apply pw_below_drewN | apply below_drew1 | refine below_set ?_ GE217.out | refine below_set ?_ GE218.out | refine below_set ?_ GE236.out) | exact HB.out))⟩)
        · skip
          rintro ⟨gb235, gb236⟩ w16 ⟨hS_, h0_, h1_, h2_, h3_, h4_, h5_, h6_, h7_, h8_, h9_, h10_, h11_, h12_, h13_, h14_, h15_, h16_, h17_, h18_⟩
          have BK235 : Aside0 (w16.heap[gb235]? = some (.cells #[.int .i64 0, .int .i64 0, .int .i64 0, .int .i64 0, .int .i64 0, .int .i64 0, .int .i64 0, .int .i64 0, .int .i64 0] 23 (0, 0))) := ⟨h2_⟩
          have BK236 : Aside0 (w16.heap[gb236]? = some (.cells #[.string (⟨#[]⟩ : ByteArray), .int .i64 0, .int .i64 0, .int .i64 0, .int .i64 0, .int .i64 0] 25 (0, 0))) := ⟨h3_⟩
          have GW235 : Aside0 (w.heap.size ≤ gb235) := ⟨h4_⟩
          have GE235 : Aside0 (w.heap.size ≤ gb235) := ⟨h5_⟩
          have NB217_235 : Aside0 (gb217 ≠ gb235) := ⟨h6_⟩
          have NB235_217 : Aside0 (gb235 ≠ gb217) := ⟨h7_⟩
          have NB218_235 : Aside0 (gb218 ≠ gb235) := ⟨h8_⟩
          have NB235_218 : Aside0 (gb235 ≠ gb218) := ⟨h9_⟩
          have NB236_235 : Aside0 (gb236 ≠ gb235) := ⟨h10_⟩
          have NB235_236 : Aside0 (gb235 ≠ gb236) := ⟨h11_⟩
          have GW236 : Aside0 (w.heap.size ≤ gb236) := ⟨h12_⟩
          have GE236 : Aside0 (w.heap.size ≤ gb236) := ⟨h13_⟩
          have NB217_236 : Aside0 (gb217 ≠ gb236) := ⟨h14_⟩
          have NB236_217 : Aside0 (gb236 ≠ gb217) := ⟨h15_⟩
          have NB218_236 : Aside0 (gb218 ≠ gb236) := ⟨h16_⟩
          have NB236_218 : Aside0 (gb236 ≠ gb218) := ⟨h17_⟩
          replace BK217 := Aside0.mk h0_
          replace BK218 := Aside0.mk h1_
          replace HB : Aside0 (Below w.heap.size w w16) := ⟨h18_⟩
          clear h0_ h1_ h2_ h3_ h4_ h5_ h6_ h7_ h8_ h9_ h10_ h11_ h12_ h13_ h14_ h15_ h16_ h17_ h18_
          have hHeld := hS_
          refine norm_ (a' := ?_) ?_ ?_
          rotate_left
          · simp only [putAll, Act.put, List.setIfInBounds_toArray, List.set_cons_zero, List.set_cons_succ]
            rfl
          refine one_ (i := 3) (N := some 13) #[true, true, true, true, true, true, false, false] rfl rfl (one_of HT_.out (by kernel_rfl)) (by decide) (fun K hK => ?_)
          refine goes_ Try.func15 (by kernel_rfl) rfl #[.agg #[.string a1_0, .int .i64 a1_1, .int .i64 a1_2, .int .i64 a1_3, .int .i64 a1_4, .int .i64 a1_5], .int .i64 0] (by rfl) rfl rfl (by (try simp only [List.map_toArray, List.map_cons, List.map_nil]); first | done | rfl | (simp only [List.length_drop, List.length_take]; rfl)) ?_
          with_reducible refine (damperlaw2_Config.calls a1_0 a1_1 a1_2 a1_3 a1_4 a1_5 0 t229 t230 t231 t232 t233 t234 _ A6.out).mono ?_
          rintro e w17 ⟨rfl, hb⟩
          refine ⟨_, rfl, ?_⟩
          replace BK217 := Aside0.mk (blk_below (g := gb217) (pk BK217) hb)
          replace BK218 := Aside0.mk (blk_below (g := gb218) (pk BK218) hb)
          replace BK235 := Aside0.mk (blk_below (g := gb235) (pk BK235) hb)
          replace BK236 := Aside0.mk (blk_below (g := gb236) (pk BK236) hb)
          replace HB := Aside0.mk (below_step (by repeat (first | (with_reducible first | exact HB.out | apply below_alloc | apply pw_below_drewN | apply below_drew1 | refine below_set ?_ GE217.out | refine below_set ?_ GE218.out | refine below_set ?_ GE235.out | refine below_set ?_ GE236.out) | exact HB.out)) hb)
          (try clear hb)
          (try clear hb2)
          (try clear hk)
          (try clear hi)
          refine hK.out _ _ ⟨bc BK217 0, bc BK217 1, bc BK217 2, bc BK217 3, bc BK217 4, bc BK217 5, bc BK217 6, bc BK217 7, bc BK217 8, bc BK218 0, bc BK218 1, bc BK218 2, bc BK218 3, bc BK218 4, bc BK218 5⟩ (fun hHeld => ?_)
          clear hK K
          refine norm_ (a' := ?_) ?_ ?_
          rotate_left
          · show Act.put _ (some 13) _ = _
            simp only [Act.put, List.setIfInBounds_toArray, List.set_cons_zero, List.set_cons_succ, i64_w, i32_w]
            rfl
          exact norm0_ (hJ1_3_4_5 (gb235, gb236) _ ⟨hHeld, (pk BK217), (pk BK218), (pk BK235), (pk BK236), GW235.out, GE235.out, NB217_235.out, NB235_217.out, NB218_235.out, NB235_218.out, NB236_235.out, NB235_236.out, GW236.out, GE236.out, NB217_236.out, NB236_217.out, NB218_236.out, NB236_218.out, (by repeat (first | (with_reducible first | exact HB.out | apply below_alloc | apply pw_below_drewN | apply below_drew1 | refine below_set ?_ GE217.out | refine below_set ?_ GE218.out | refine below_set ?_ GE235.out | refine below_set ?_ GE236.out) | exact HB.out))⟩)
      · skip
        rintro gb236 w16 ⟨hS_, h0_, h1_, h2_, h3_, h4_, h5_, h6_, h7_, h8_, h9_⟩
        have BK236 := Aside0.mk h2_
        have GW236 : Aside0 (w.heap.size ≤ gb236) := ⟨h3_⟩
        have GE236 : Aside0 (w.heap.size ≤ gb236) := ⟨h4_⟩
        have NB217_236 : Aside0 (gb217 ≠ gb236) := ⟨h5_⟩
        have NB236_217 : Aside0 (gb236 ≠ gb217) := ⟨h6_⟩
        have NB218_236 : Aside0 (gb218 ≠ gb236) := ⟨h7_⟩
        have NB236_218 : Aside0 (gb236 ≠ gb218) := ⟨h8_⟩
        replace BK217 := Aside0.mk h0_
        replace BK218 := Aside0.mk h1_
        replace HB : Aside0 (Below w.heap.size w w16) := ⟨h9_⟩
        clear h0_ h1_ h2_ h3_ h4_ h5_ h6_ h7_ h8_ h9_
        have hHeld := hS_
        refine norm_ (a' := ?_) ?_ ?_
        rotate_left
        · simp only [putAll, Act.put, List.setIfInBounds_toArray, List.set_cons_zero, List.set_cons_succ]
          rfl
        refine one_ (i := 4) (N := some 5) #[true, true, true, true, true, true, false, false] rfl rfl (one_of HT_.out (by kernel_rfl)) (by decide) (fun K hK => ?_)
        refine box_step ?hg (N := 5) ?hd (cs := #[.int .i64 0, .int .i64 0, .int .i64 0, .int .i64 0, .int .i64 0, .int .i64 0, .int .i64 0, .int .i64 0, .int .i64 0]) (t := 23) ?hr ?_; (case hd => rfl); (case hg => rfl); (case hr => first | (go_simp; done) | (go_simp; rfl))
        intro gb235 hg w17 hbox hb
        have BK235 := Aside0.mk (hbox)
        have GW235 := Aside0.mk ((by rw [hg]; exact (below_size (by repeat (first | (with_reducible first | exact HB.out | apply below_alloc | apply pw_below_drewN | apply below_drew1 | refine below_set ?_ GE217.out | refine below_set ?_ GE218.out | refine below_set ?_ GE236.out) | exact HB.out))) : w.heap.size ≤ gb235))
        have GE235 := GW235
        have NB217_235 := Aside0.mk ((ne_lt hg (pk BK217) : gb217 ≠ gb235))
        have NB235_217 := Aside0.mk ((ne_gt hg (pk BK217) : gb235 ≠ gb217))
        have NB218_235 := Aside0.mk ((ne_lt hg (pk BK218) : gb218 ≠ gb235))
        have NB235_218 := Aside0.mk ((ne_gt hg (pk BK218) : gb235 ≠ gb218))
        have NB236_235 := Aside0.mk ((ne_lt hg (pk BK236) : gb236 ≠ gb235))
        have NB235_236 := Aside0.mk ((ne_gt hg (pk BK236) : gb235 ≠ gb236))
        replace BK217 := Aside0.mk (blk_below (g := gb217) (pk BK217) hb)
        replace BK218 := Aside0.mk (blk_below (g := gb218) (pk BK218) hb)
        replace BK236 := Aside0.mk (blk_below (g := gb236) (pk BK236) hb)
        replace HB := Aside0.mk (below_step (by repeat (first | (with_reducible first | exact HB.out | apply below_alloc | apply pw_below_drewN | apply below_drew1 | refine below_set ?_ GE217.out | refine below_set ?_ GE218.out | refine below_set ?_ GE236.out) | exact HB.out)) hb)
        clear hb hbox hg
        refine hK.out _ _ ⟨bc BK217 0, bc BK217 1, bc BK217 2, bc BK217 3, bc BK217 4, bc BK217 5, bc BK217 6, bc BK217 7, bc BK217 8, bc BK218 0, bc BK218 1, bc BK218 2, bc BK218 3, bc BK218 4, bc BK218 5⟩ (fun hHeld => ?_)
        clear hK K
        refine norm_ (a' := ?_) ?_ ?_
        rotate_left
        · show Act.put _ (some 5) _ = _
          simp only [Act.put, List.setIfInBounds_toArray, List.set_cons_zero, List.set_cons_succ, i64_w, i32_w]
          rfl
        exact norm0_ (hJ1_3_4_5 (gb235, gb236) _ ⟨hHeld, (pk BK217), (pk BK218), (pk BK235), (pk BK236), GW235.out, GE235.out, NB217_235.out, NB235_217.out, NB218_235.out, NB235_218.out, NB236_235.out, NB235_236.out, GW236.out, GE236.out, NB217_236.out, NB236_217.out, NB218_236.out, NB236_218.out, (by repeat (first | (with_reducible first | exact HB.out | apply below_alloc | apply pw_below_drewN | apply below_drew1 | refine below_set ?_ GE217.out | refine below_set ?_ GE218.out | refine below_set ?_ GE236.out | refine below_set ?_ GE235.out) | exact HB.out))⟩)
    · skip
      rintro gb235 w16 ⟨hS_, h0_, h1_, h2_, h3_, h4_, h5_, h6_, h7_, h8_, h9_⟩
      have BK235 := Aside0.mk h2_
      have GW235 : Aside0 (w.heap.size ≤ gb235) := ⟨h3_⟩
      have GE235 : Aside0 (w.heap.size ≤ gb235) := ⟨h4_⟩
      have NB217_235 : Aside0 (gb217 ≠ gb235) := ⟨h5_⟩
      have NB235_217 : Aside0 (gb235 ≠ gb217) := ⟨h6_⟩
      have NB218_235 : Aside0 (gb218 ≠ gb235) := ⟨h7_⟩
      have NB235_218 : Aside0 (gb235 ≠ gb218) := ⟨h8_⟩
      replace BK217 := Aside0.mk h0_
      replace BK218 := Aside0.mk h1_
      replace HB : Aside0 (Below w.heap.size w w16) := ⟨h9_⟩
      clear h0_ h1_ h2_ h3_ h4_ h5_ h6_ h7_ h8_ h9_
      have hHeld := hS_
      refine norm_ (a' := ?_) ?_ ?_
      rotate_left
      · simp only [putAll, Act.put, List.setIfInBounds_toArray, List.set_cons_zero, List.set_cons_succ]
        rfl
      refine one_ (i := 5) (N := some 6) #[true, true, true, true, true, true, false, false] rfl rfl (one_of HT_.out (by kernel_rfl)) (by decide) (fun K hK => ?_)
      refine box_step ?hg (N := 6) ?hd (cs := #[.string (⟨#[]⟩ : ByteArray), .int .i64 0, .int .i64 0, .int .i64 0, .int .i64 0, .int .i64 0]) (t := 25) ?hr ?_; (case hd => rfl); (case hg => rfl); (case hr => first | (go_simp; done) | (go_simp; rfl))
      intro gb236 hg w17 hbox hb
      have BK236 := Aside0.mk (hbox)
      have GW236 := Aside0.mk ((by rw [hg]; exact (below_size (by repeat (first | (with_reducible first | exact HB.out | apply below_alloc | apply pw_below_drewN | apply below_drew1 | refine below_set ?_ GE217.out | refine below_set ?_ GE218.out | refine below_set ?_ GE235.out) | exact HB.out))) : w.heap.size ≤ gb236))
      have GE236 := GW236
      have NB217_236 := Aside0.mk ((ne_lt hg (pk BK217) : gb217 ≠ gb236))
      have NB236_217 := Aside0.mk ((ne_gt hg (pk BK217) : gb236 ≠ gb217))
      have NB218_236 := Aside0.mk ((ne_lt hg (pk BK218) : gb218 ≠ gb236))
      have NB236_218 := Aside0.mk ((ne_gt hg (pk BK218) : gb236 ≠ gb218))
      have NB235_236 := Aside0.mk ((ne_lt hg (pk BK235) : gb235 ≠ gb236))
      have NB236_235 := Aside0.mk ((ne_gt hg (pk BK235) : gb236 ≠ gb235))
      replace BK217 := Aside0.mk (blk_below (g := gb217) (pk BK217) hb)
      replace BK218 := Aside0.mk (blk_below (g := gb218) (pk BK218) hb)
      replace BK235 := Aside0.mk (blk_below (g := gb235) (pk BK235) hb)
      replace HB := Aside0.mk (below_step (by repeat (first | (with_reducible first | exact HB.out | apply below_alloc | apply pw_below_drewN | apply below_drew1 | refine below_set ?_ GE217.out | refine below_set ?_ GE218.out | refine below_set ?_ GE235.out) | exact HB.out)) hb)
      clear hb hbox hg
      refine hK.out _ _ ⟨bc BK217 0, bc BK217 1, bc BK217 2, bc BK217 3, bc BK217 4, bc BK217 5, bc BK217 6, bc BK217 7, bc BK217 8, bc BK218 0, bc BK218 1, bc BK218 2, bc BK218 3, bc BK218 4, bc BK218 5⟩ (fun hHeld => ?_)
      clear hK K
      refine norm_ (a' := ?_) ?_ ?_
      rotate_left
      · show Act.put _ (some 6) _ = _
        simp only [Act.put, List.setIfInBounds_toArray, List.set_cons_zero, List.set_cons_succ, i64_w, i32_w]
        rfl
      exact norm0_ (hJ1_3_4_5 (gb235, gb236) _ ⟨hHeld, (pk BK217), (pk BK218), (pk BK235), (pk BK236), GW235.out, GE235.out, NB217_235.out, NB235_217.out, NB218_235.out, NB235_218.out, NB236_235.out, NB235_236.out, GW236.out, GE236.out, NB217_236.out, NB236_217.out, NB218_236.out, NB236_218.out, (by repeat (first | (with_reducible first | exact HB.out | apply below_alloc | apply pw_below_drewN | apply below_drew1 | refine below_set ?_ GE217.out | refine below_set ?_ GE218.out | refine below_set ?_ GE235.out | refine below_set ?_ GE236.out) | exact HB.out))⟩)
  · replace c4 := Bool.eq_false_iff.mpr c4
    subst c4
    have H1 : (some false) = some r := by rw [if_neg (show ¬ (false = true) by decide)] at H; exact H
    clear H
    have H := H1
    clear H1
    exact absurd (Option.some.inj H) (by rw [hr0_.out]; decide)

/-- THE ONE PURE STATEMENT of damperlaw10_ScaleZero: yours. -/
def damperlaw10_ScaleZero.Pure : Prop := ∀ (a0_0 : Int) (a0_1 : Int) (a0_2 : Int) (a0_3 : Int) (a0_4 : Int) (a0_5 : Int) (a0_6 : Int) (a0_7 : Int) (a0_8 : Int) (a1_0 : ByteArray) (a1_1 : Int) (a1_2 : Int) (a1_3 : Int) (a1_4 : Int) (a1_5 : Int), ((Lit.int .i64 a0_0).wf = true) → ((Lit.int .i64 a0_1).wf = true) → ((Lit.int .i64 a0_2).wf = true) → ((Lit.int .i64 a0_3).wf = true) → ((Lit.int .i64 a0_4).wf = true) → ((Lit.int .i64 a0_5).wf = true) → ((Lit.int .i64 a0_6).wf = true) → ((Lit.int .i64 a0_7).wf = true) → ((Lit.int .i64 a0_8).wf = true) → (a1_0.size ≤ maxLen) → ((Lit.int .i64 a1_1).wf = true) → ((Lit.int .i64 a1_2).wf = true) → ((Lit.int .i64 a1_3).wf = true) → ((Lit.int .i64 a1_4).wf = true) → ((Lit.int .i64 a1_5).wf = true) → ∃ k, damperlaw10_ScaleZero.f k a0_0 a0_1 a0_2 a0_3 a0_4 a0_5 a0_6 a0_7 a0_8 a1_0 a1_1 a1_2 a1_3 a1_4 a1_5 = some true
theorem damperlaw10_ScaleZero.walk (P : damperlaw10_ScaleZero.Pure) (a0_0 : Int) (a0_1 : Int) (a0_2 : Int) (a0_3 : Int) (a0_4 : Int) (a0_5 : Int) (a0_6 : Int) (a0_7 : Int) (a0_8 : Int) (a1_0 : ByteArray) (a1_1 : Int) (a1_2 : Int) (a1_3 : Int) (a1_4 : Int) (a1_5 : Int) (w : World) (w0_0 : (Lit.int .i64 a0_0).wf = true) (w0_1 : (Lit.int .i64 a0_1).wf = true) (w0_2 : (Lit.int .i64 a0_2).wf = true) (w0_3 : (Lit.int .i64 a0_3).wf = true) (w0_4 : (Lit.int .i64 a0_4).wf = true) (w0_5 : (Lit.int .i64 a0_5).wf = true) (w0_6 : (Lit.int .i64 a0_6).wf = true) (w0_7 : (Lit.int .i64 a0_7).wf = true) (w0_8 : (Lit.int .i64 a0_8).wf = true) (w1_0 : a1_0.size ≤ maxLen) (w1_1 : (Lit.int .i64 a1_1).wf = true) (w1_2 : (Lit.int .i64 a1_2).wf = true) (w1_3 : (Lit.int .i64 a1_3).wf = true) (w1_4 : (Lit.int .i64 a1_4).wf = true) (w1_5 : (Lit.int .i64 a1_5).wf = true)  :
    Calls Try.prog 5 #[.agg #[.int .i64 a0_0, .int .i64 a0_1, .int .i64 a0_2, .int .i64 a0_3, .int .i64 a0_4, .int .i64 a0_5, .int .i64 a0_6, .int .i64 a0_7, .int .i64 a0_8], .agg #[.string a1_0, .int .i64 a1_1, .int .i64 a1_2, .int .i64 a1_3, .int .i64 a1_4, .int .i64 a1_5]] w fun e w' => e = .returned (.bool true) ∧ Below w.heap.size w w' := by
  obtain ⟨k, h⟩ := P a0_0 a0_1 a0_2 a0_3 a0_4 a0_5 a0_6 a0_7 a0_8 a1_0 a1_1 a1_2 a1_3 a1_4 a1_5 w0_0 w0_1 w0_2 w0_3 w0_4 w0_5 w0_6 w0_7 w0_8 w1_0 w1_1 w1_2 w1_3 w1_4 w1_5
  refine (damperlaw10_ScaleZero.calls k a0_0 a0_1 a0_2 a0_3 a0_4 a0_5 a0_6 a0_7 a0_8 a1_0 a1_1 a1_2 a1_3 a1_4 a1_5 true w ⟨rfl⟩ h).mono ?_
  rintro e w' ⟨rfl, hd⟩
  exact ⟨rfl, hd⟩

end Go.Proofs.Ytlikdmeickbigaa.Ma
