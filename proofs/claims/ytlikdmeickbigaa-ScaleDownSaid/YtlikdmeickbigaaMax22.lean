-- Written by a program of this session (wip/tools/myprint.py), in the form of the kit's print. Not trusted: Lean checks it.
import Derived.Test.YtlikdmeickbigaaMax0
import Derived.Test.YtlikdmeickbigaaMax6
import Derived.Test.YtlikdmeickbigaaMax7
import Derived.Test.YtlikdmeickbigaaMax8
import Derived.Test.YtlikdmeickbigaaMax11
namespace Go.Proofs.Ytlikdmeickbigaa.Ma
open Go.RowKit Go.Proofs.YtlikdmeickbigaaW.PrintWords Go.Proofs.YtlikdmeickbigaaW.PrintLast Go.Proofs.YtlikdmeickbigaaW.PrintMore
attribute [local go_sem] max2_int min2_int max_two min_two max_three min_three max_four min_four   -- for this text's walks alone
set_option linter.unusedVariables false
set_option linter.unusedSimpArgs false

/-! ### damperlaw10_ScaleDown: function 10 -/
def damperlaw10_ScaleDown.l0 : Nat → Int → Int → ByteArray → Int → Int → Int → Int → Int → Int → Int → Option (Bool)
  | 0, _, _, _, _, _, _, _, _, _, _ => none
  | k + 1, x7, x8, x363000, x363001, x363002, x363003, x363004, x363005, x365000, x365001 => if x8 < 12 then ((scale_Decide.f k x365000 x365001 x363000 x363001 x363002 x363003 x363004 x363005 x7 0 0 6 0 2 1000).bind fun bt365 => (if bt365.2 = 0 then (if bt365.1 = (mn x363004 (mx x363003 (wrap64 (Int.tdiv x7 2)))) then (damperlaw10_ScaleDown.l0 k bt365.1 (wrap64 (x8 + 1)) x363000 x363001 x363002 x363003 x363004 x363005 bt365.1 bt365.2) else (some false)) else (some false))) else (some (x365000 == x363003))
def damperlaw10_ScaleDown.f (k : Nat) (a0_0 : ByteArray) (a0_1 : Int) (a0_2 : Int) (a0_3 : Int) (a0_4 : Int) (a0_5 : Int) (a1 : Int) : Option (Bool) := (damperlaw10_known.f k).bind fun t355 => (if t355 = true then ((damperlaw2_Config.f a0_0 a0_1 a0_2 a0_3 a0_4 a0_5 0).bind fun bt356 => ((damperlaw10_within.f a1 10).bind fun t363 => (damperlaw10_ScaleDown.l0 k (mn bt356.2.2.2.2.1 (wrap64 (1 + t363))) 0 bt356.1 bt356.2.1 bt356.2.2.1 bt356.2.2.2.1 bt356.2.2.2.2.1 bt356.2.2.2.2.2 (mn bt356.2.2.2.2.1 (wrap64 (1 + t363))) 0))) else (some false))
theorem damperlaw10_ScaleDown.mono_l : ∀ k, (∀ y0 y1 y2 y3 y4 y5 y6 y7 y8 y9, LeO (damperlaw10_ScaleDown.l0 k y0 y1 y2 y3 y4 y5 y6 y7 y8 y9) (damperlaw10_ScaleDown.l0 (k + 1) y0 y1 y2 y3 y4 y5 y6 y7 y8 y9))
  | 0 => fun _ _ _ _ _ _ _ _ _ _ r h => by simp [damperlaw10_ScaleDown.l0] at h
  | k + 1 => by
    have ih0 := damperlaw10_ScaleDown.mono_l k
    · intro y0 y1 y2 y3 y4 y5 y6 y7 y8 y9
      unfold damperlaw10_ScaleDown.l0
      repeat' first
      | (with_reducible exact ih0 _ _ _ _ _ _ _ _ _ _)
      | (with_reducible exact damperlaw10_known.mono _)
      | (with_reducible exact scale_Decide.mono _ _ _ _ _ _ _ _ _ _ _ _ _ _ _ _)
      | (with_reducible exact LeO.refl _)
      | (with_reducible exact LeO.none _)
      | (with_reducible refine LeO.ite ?_ ?_)
      | (with_reducible refine LeO.bind ?_ (fun _ => ?_))
      | exact ih0 _ _ _ _ _ _ _ _ _ _
      | exact damperlaw10_known.mono _
      | exact scale_Decide.mono _ _ _ _ _ _ _ _ _ _ _ _ _ _ _ _
      | exact LeO.none _
      | refine LeO.ite ?_ ?_
      | refine LeO.bind ?_ (fun _ => ?_)
theorem damperlaw10_ScaleDown.mono : ∀ a0 a1 a2 a3 a4 a5 a6 k, LeO (damperlaw10_ScaleDown.f k a0 a1 a2 a3 a4 a5 a6) (damperlaw10_ScaleDown.f (k + 1) a0 a1 a2 a3 a4 a5 a6) := by
  intro a0 a1 a2 a3 a4 a5 a6 k
  have ih0 := damperlaw10_ScaleDown.mono_l k
  unfold damperlaw10_ScaleDown.f
  repeat' first
      | (with_reducible exact ih0 _ _ _ _ _ _ _ _ _ _)
      | (with_reducible exact damperlaw10_known.mono _)
      | (with_reducible exact scale_Decide.mono _ _ _ _ _ _ _ _ _ _ _ _ _ _ _ _)
      | (with_reducible exact LeO.refl _)
      | (with_reducible exact LeO.none _)
      | (with_reducible refine LeO.ite ?_ ?_)
      | (with_reducible refine LeO.bind ?_ (fun _ => ?_))
      | exact ih0 _ _ _ _ _ _ _ _ _ _
      | exact damperlaw10_known.mono _
      | exact scale_Decide.mono _ _ _ _ _ _ _ _ _ _ _ _ _ _ _ _
      | exact LeO.none _
      | refine LeO.ite ?_ ?_
      | refine LeO.bind ?_ (fun _ => ?_)
def damperlaw10_ScaleDown.T4 : Bool × List (List Nat × List Nat) := (true, [([], []), ([0], [0]), ([], []), ([2], [2]), ([3], [3]), ([1, 4], [1, 4]), ([5], [5]), ([], []), ([7, 6, 3, 0, 1, 2, 3, 4, 5, 6, 7], [6, 7])])
def damperlaw10_ScaleDown.B4 : List Nat := [0, 1, 0, 4, 12, 31, 63, 0, 255]
theorem damperlaw10_ScaleDown.tab4 : rtab .any (opsOf Try.f10 4) = damperlaw10_ScaleDown.T4 := by kernel_rfl
theorem damperlaw10_ScaleDown.bits4 : waitsOk damperlaw10_ScaleDown.T4.2 damperlaw10_ScaleDown.B4 = true := by kernel_rfl
set_option maxHeartbeats 8000000 in
set_option maxRecDepth 100000 in
theorem damperlaw10_ScaleDown.calls (k : Nat) (a0_0 : ByteArray) (a0_1 : Int) (a0_2 : Int) (a0_3 : Int) (a0_4 : Int) (a0_5 : Int) (a1 : Int) (r : Bool) (w : World) (hr0_ : Aside0 (r = true)) (h : damperlaw10_ScaleDown.f k a0_0 a0_1 a0_2 a0_3 a0_4 a0_5 a1 = some r) :
    Calls Try.prog 10 #[.agg #[.string a0_0, .int .i64 a0_1, .int .i64 a0_2, .int .i64 a0_3, .int .i64 a0_4, .int .i64 a0_5], .int .i64 a1] w fun e w' => e = .returned (.bool r) ∧ Below w.heap.size w w' := by
  have hu25 := Try.underlying25
  have hu30 := Try.underlying30
  have HB := Aside0.mk (Below.refl w.heap.size w)
  have H : ((damperlaw10_known.f k).bind fun t355 => (if t355 = true then ((damperlaw2_Config.f a0_0 a0_1 a0_2 a0_3 a0_4 a0_5 0).bind fun bt356 => ((damperlaw10_within.f a1 10).bind fun t363 => (damperlaw10_ScaleDown.l0 k (mn bt356.2.2.2.2.1 (wrap64 (1 + t363))) 0 bt356.1 bt356.2.1 bt356.2.2.1 bt356.2.2.2.1 bt356.2.2.2.2.1 bt356.2.2.2.2.2 (mn bt356.2.2.2.2.1 (wrap64 (1 + t363))) 0))) else (some false))) = some r := h
  clear h
  replace H := Option.bind_eq_some_iff.mp H
  obtain ⟨t355, A30, H⟩ := H
  replace H : (if t355 = true then ((damperlaw2_Config.f a0_0 a0_1 a0_2 a0_3 a0_4 a0_5 0).bind fun bt356 => ((damperlaw10_within.f a1 10).bind fun t363 => (damperlaw10_ScaleDown.l0 k (mn bt356.2.2.2.2.1 (wrap64 (1 + t363))) 0 bt356.1 bt356.2.1 bt356.2.2.1 bt356.2.2.2.1 bt356.2.2.2.2.1 bt356.2.2.2.2.2 (mn bt356.2.2.2.2.1 (wrap64 (1 + t363))) 0))) else (some false)) = some r := H
  have A3 := Aside0.mk A30
  clear A30
  by_cases c4 : t355 = true
  · subst c4
    have H1 : ((damperlaw2_Config.f a0_0 a0_1 a0_2 a0_3 a0_4 a0_5 0).bind fun bt356 => ((damperlaw10_within.f a1 10).bind fun t363 => (damperlaw10_ScaleDown.l0 k (mn bt356.2.2.2.2.1 (wrap64 (1 + t363))) 0 bt356.1 bt356.2.1 bt356.2.2.1 bt356.2.2.2.1 bt356.2.2.2.2.1 bt356.2.2.2.2.2 (mn bt356.2.2.2.2.1 (wrap64 (1 + t363))) 0))) = some r := by rw [if_pos rfl] at H; exact H
    clear H
    have H := H1
    clear H1
    replace H := Option.bind_eq_some_iff.mp H
    obtain ⟨⟨t356, t357, t358, t359, t360, t361⟩, A50, H⟩ := H
    replace H : ((damperlaw10_within.f a1 10).bind fun t363 => (damperlaw10_ScaleDown.l0 k (mn t360 (wrap64 (1 + t363))) 0 t356 t357 t358 t359 t360 t361 (mn t360 (wrap64 (1 + t363))) 0)) = some r := H
    have A5 := Aside0.mk A50
    clear A50
    replace H := Option.bind_eq_some_iff.mp H
    obtain ⟨t363, A60, H⟩ := H
    replace H : (damperlaw10_ScaleDown.l0 k (mn t360 (wrap64 (1 + t363))) 0 t356 t357 t358 t359 t360 t361 (mn t360 (wrap64 (1 + t363))) 0) = some r := H
    have A6 := Aside0.mk A60
    clear A60
    obtain ⟨ji7, hji7⟩ : ∃ j_ : Int, (mn t360 (wrap64 (1 + t363))) = j_ := ⟨_, rfl⟩
    replace H : (damperlaw10_ScaleDown.l0 k ji7 0 t356 t357 t358 t359 t360 t361 ji7 0) = some r := by first | (rw [hji7] at H; exact H) | (simp only [hji7] at H ⊢; exact H)
    (try rw [hji7] at A3)
    (try rw [hji7] at A5)
    (try rw [hji7] at A6)
    have hji7_ : (if (wrap64 (1 + t363)) < t360 then (wrap64 (1 + t363)) else t360) = ji7 := hji7
    have H' := Aside0.mk H
    clear H
    go_enter Try.func10, Try.ntmps10
    try go_wp2_with (first | ((with_reducible refine gate_dst (N := 2) rfl ?_); (try (refine gate_guard (by rfl) ?_; dsimp only)); refine box_event ?hg (N := 2) ?hd (cs := #[.string a0_0, .int .i64 a0_1, .int .i64 a0_2, .int .i64 a0_3, .int .i64 a0_4, .int .i64 a0_5]) (t := 25) ?hr ?_; (case hd => rfl); (case hg => rfl); (case hr => first | (go_simp; done) | (go_simp; rfl)); intro gb354 hg w8 hbox hb; have n0_ := Aside0.mk (below_step (by repeat (first | (with_reducible first | exact HB.out | apply below_alloc | apply pw_below_drewN | apply below_drew1) | exact HB.out)) hb); have n1_ := Aside0.mk (hbox); have n2_ := Aside0.mk ((by rw [hg]; exact (below_size (by repeat (first | (with_reducible first | exact HB.out | apply below_alloc | apply pw_below_drewN | apply below_drew1) | exact HB.out))) : w.heap.size ≤ gb354)); have n3_ := Aside0.mk ((by rw [hg]; exact (below_size (by repeat (first | (with_reducible first | exact HB.out | apply below_alloc | apply pw_below_drewN | apply below_drew1) | exact HB.out))) : w.heap.size ≤ gb354)); clear HB; have HB := n0_; have BK354 := n1_; have GW354 := n2_; have GE354 := n3_; clear n0_ n1_ n2_ n3_; clear hb hbox hg) | ((with_reducible refine gate_callee (f := 13) rfl ?_); refine goesL_ (some 10) rfl rfl Try.func13 (by kernel_rfl) rfl #[] rfl (by (try simp only [List.map_toArray, List.map_cons, List.map_nil]); first | done | rfl | (simp only [List.length_drop, List.length_take]; rfl)) ?_; (with_reducible refine (damperlaw10_known.calls k  true _ A3.out).mono ?_); rintro e w9 ⟨rfl, hb⟩; refine ⟨_, rfl, ?_⟩; have n0_ := Aside0.mk (blk_below (g := gb354) (pk BK354) hb); have n1_ := Aside0.mk (below_step (by repeat (first | (with_reducible first | exact HB.out | apply below_alloc | apply pw_below_drewN | apply below_drew1 | refine below_set ?_ GE354.out) | exact HB.out)) hb); clear BK354; clear HB; have BK354 := n0_; have HB := n1_; clear n0_ n1_; (try clear hb); (try clear hb2); (try clear hk); (try clear hi); have hcz10_0 : w9.cell? ⟨gb354, 0, none⟩ = some (.string a0_0) := (blk_cell BK354.out 0).trans rfl; have hcz10_1 : w9.cell? ⟨gb354, 1, none⟩ = some (.int .i64 a0_1) := (blk_cell BK354.out 1).trans rfl; have hcz10_2 : w9.cell? ⟨gb354, 2, none⟩ = some (.int .i64 a0_2) := (blk_cell BK354.out 2).trans rfl; have hcz10_3 : w9.cell? ⟨gb354, 3, none⟩ = some (.int .i64 a0_3) := (blk_cell BK354.out 3).trans rfl; have hcz10_4 : w9.cell? ⟨gb354, 4, none⟩ = some (.int .i64 a0_4) := (blk_cell BK354.out 4).trans rfl; have hcz10_5 : w9.cell? ⟨gb354, 5, none⟩ = some (.int .i64 a0_5) := (blk_cell BK354.out 5).trans rfl; have hfz10_0 := blk_frozen BK354.out 0; have hfz10_1 := blk_frozen BK354.out 1; have hfz10_2 := blk_frozen BK354.out 2; have hfz10_3 := blk_frozen BK354.out 3; have hfz10_4 := blk_frozen BK354.out 4; have hfz10_5 := blk_frozen BK354.out 5) | ((with_reducible refine gate_callee (f := 15) rfl ?_); refine goesL_ (some 13) rfl rfl Try.func15 (by kernel_rfl) rfl #[.agg #[.string a0_0, .int .i64 a0_1, .int .i64 a0_2, .int .i64 a0_3, .int .i64 a0_4, .int .i64 a0_5], .int .i64 0] rfl (by (try simp only [List.map_toArray, List.map_cons, List.map_nil]); first | done | rfl | (simp only [List.length_drop, List.length_take]; rfl)) ?_; (with_reducible refine (damperlaw2_Config.calls a0_0 a0_1 a0_2 a0_3 a0_4 a0_5 0 t356 t357 t358 t359 t360 t361 _ A5.out).mono ?_); rintro e w11 ⟨rfl, hb⟩; refine ⟨_, rfl, ?_⟩; have n0_ := Aside0.mk (blk_below (g := gb354) (pk BK354) hb); have n1_ := Aside0.mk (below_step (by repeat (first | (with_reducible first | exact HB.out | apply below_alloc | apply pw_below_drewN | apply below_drew1 | refine below_set ?_ GE354.out) | exact HB.out)) hb); clear BK354; clear HB; have BK354 := n0_; have HB := n1_; clear n0_ n1_; (try clear hb); (try clear hb2); (try clear hk); (try clear hi)) | ((with_reducible refine gate_dst (N := 5) rfl ?_); (try (refine gate_guard (by rfl) ?_; dsimp only)); refine box_event ?hg (N := 5) ?hd (cs := #[.string (⟨#[]⟩ : ByteArray), .int .i64 0, .int .i64 0, .int .i64 0, .int .i64 0, .int .i64 0]) (t := 25) ?hr ?_; (case hd => rfl); (case hg => rfl); (case hr => first | (go_simp; done) | (go_simp; rfl)); intro gb362 hg w12 hbox hb; have n0_ := Aside0.mk (blk_below (g := gb354) (pk BK354) hb); have n1_ := Aside0.mk (below_step (by repeat (first | (with_reducible first | exact HB.out | apply below_alloc | apply pw_below_drewN | apply below_drew1 | refine below_set ?_ GE354.out) | exact HB.out)) hb); have n2_ := Aside0.mk (hbox); have n3_ := Aside0.mk ((by rw [hg]; exact (below_size (by repeat (first | (with_reducible first | exact HB.out | apply below_alloc | apply pw_below_drewN | apply below_drew1 | refine below_set ?_ GE354.out) | exact HB.out))) : w.heap.size ≤ gb362)); have n4_ := Aside0.mk ((by rw [hg]; exact (below_size (by repeat (first | (with_reducible first | exact HB.out | apply below_alloc | apply pw_below_drewN | apply below_drew1 | refine below_set ?_ GE354.out) | exact HB.out))) : w.heap.size ≤ gb362)); have n5_ := Aside0.mk ((by rw [hg]; exact Nat.ne_of_lt (blk_lt (g := gb354) (pk BK354)) : gb354 ≠ gb362)); have n6_ := Aside0.mk ((by rw [hg]; exact Nat.ne_of_gt (blk_lt (g := gb354) (pk BK354)) : gb362 ≠ gb354)); clear BK354; clear HB; have BK354 := n0_; have HB := n1_; have BK362 := n2_; have GW362 := n3_; have GE362 := n4_; have NB354_362 := n5_; have NB362_354 := n6_; clear n0_ n1_ n2_ n3_ n4_ n5_ n6_; clear hb hbox hg; have hnb13 := NB362_354.out; have hnc13 := NB354_362.out; have hcz14_0 : w12.cell? ⟨gb362, 0, none⟩ = some (.string (⟨#[]⟩ : ByteArray)) := (blk_cell BK362.out 0).trans rfl; have hcz14_1 : w12.cell? ⟨gb362, 1, none⟩ = some (.int .i64 0) := (blk_cell BK362.out 1).trans rfl; have hcz14_2 : w12.cell? ⟨gb362, 2, none⟩ = some (.int .i64 0) := (blk_cell BK362.out 2).trans rfl; have hcz14_3 : w12.cell? ⟨gb362, 3, none⟩ = some (.int .i64 0) := (blk_cell BK362.out 3).trans rfl; have hcz14_4 : w12.cell? ⟨gb362, 4, none⟩ = some (.int .i64 0) := (blk_cell BK362.out 4).trans rfl; have hcz14_5 : w12.cell? ⟨gb362, 5, none⟩ = some (.int .i64 0) := (blk_cell BK362.out 5).trans rfl; have hfz14_0 := blk_frozen BK362.out 0; have hfz14_1 := blk_frozen BK362.out 1; have hfz14_2 := blk_frozen BK362.out 2; have hfz14_3 := blk_frozen BK362.out 3; have hfz14_4 := blk_frozen BK362.out 4; have hfz14_5 := blk_frozen BK362.out 5))
    have n0_ : Aside0 (((((((w12.setCell ⟨gb362, 0, none⟩ (.string t356)).setCell ⟨gb362, 1, none⟩ (.int .i64 t357)).setCell ⟨gb362, 2, none⟩ (.int .i64 t358)).setCell ⟨gb362, 3, none⟩ (.int .i64 t359)).setCell ⟨gb362, 4, none⟩ (.int .i64 t360)).setCell ⟨gb362, 5, none⟩ (.int .i64 t361)).heap[gb354]? = some (.cells #[.string a0_0, .int .i64 a0_1, .int .i64 a0_2, .int .i64 a0_3, .int .i64 a0_4, .int .i64 a0_5] 25 (0, 0))) := ⟨by (with_reducible repeat (first | refine blk_drewN ?_ _ | refine blk_drew ?_ | refine blk_alloc ?_ _)); refine blk_far ?_ NB354_362.out _; (with_reducible repeat (first | refine blk_drewN ?_ _ | refine blk_drew ?_ | refine blk_alloc ?_ _)); refine blk_far ?_ NB354_362.out _; (with_reducible repeat (first | refine blk_drewN ?_ _ | refine blk_drew ?_ | refine blk_alloc ?_ _)); refine blk_far ?_ NB354_362.out _; (with_reducible repeat (first | refine blk_drewN ?_ _ | refine blk_drew ?_ | refine blk_alloc ?_ _)); refine blk_far ?_ NB354_362.out _; (with_reducible repeat (first | refine blk_drewN ?_ _ | refine blk_drew ?_ | refine blk_alloc ?_ _)); refine blk_far ?_ NB354_362.out _; (with_reducible repeat (first | refine blk_drewN ?_ _ | refine blk_drew ?_ | refine blk_alloc ?_ _)); refine blk_far ?_ NB354_362.out _; (with_reducible repeat (first | refine blk_drewN ?_ _ | refine blk_drew ?_ | refine blk_alloc ?_ _)); exact BK354.out⟩
    have n1_ : Aside0 (((((((w12.setCell ⟨gb362, 0, none⟩ (.string t356)).setCell ⟨gb362, 1, none⟩ (.int .i64 t357)).setCell ⟨gb362, 2, none⟩ (.int .i64 t358)).setCell ⟨gb362, 3, none⟩ (.int .i64 t359)).setCell ⟨gb362, 4, none⟩ (.int .i64 t360)).setCell ⟨gb362, 5, none⟩ (.int .i64 t361)).heap[gb362]? = some (.cells #[.string t356, .int .i64 t357, .int .i64 t358, .int .i64 t359, .int .i64 t360, .int .i64 t361] 25 (0, 0))) := ⟨by (with_reducible repeat (first | refine blk_drewN ?_ _ | refine blk_drew ?_ | refine blk_alloc ?_ _)); refine blk_put (cs := #[.string t356, .int .i64 t357, .int .i64 t358, .int .i64 t359, .int .i64 t360, .int .i64 0]) ?_ 5 _ rfl; (with_reducible repeat (first | refine blk_drewN ?_ _ | refine blk_drew ?_ | refine blk_alloc ?_ _)); refine blk_put (cs := #[.string t356, .int .i64 t357, .int .i64 t358, .int .i64 t359, .int .i64 0, .int .i64 0]) ?_ 4 _ rfl; (with_reducible repeat (first | refine blk_drewN ?_ _ | refine blk_drew ?_ | refine blk_alloc ?_ _)); refine blk_put (cs := #[.string t356, .int .i64 t357, .int .i64 t358, .int .i64 0, .int .i64 0, .int .i64 0]) ?_ 3 _ rfl; (with_reducible repeat (first | refine blk_drewN ?_ _ | refine blk_drew ?_ | refine blk_alloc ?_ _)); refine blk_put (cs := #[.string t356, .int .i64 t357, .int .i64 0, .int .i64 0, .int .i64 0, .int .i64 0]) ?_ 2 _ rfl; (with_reducible repeat (first | refine blk_drewN ?_ _ | refine blk_drew ?_ | refine blk_alloc ?_ _)); refine blk_put (cs := #[.string t356, .int .i64 0, .int .i64 0, .int .i64 0, .int .i64 0, .int .i64 0]) ?_ 1 _ rfl; (with_reducible repeat (first | refine blk_drewN ?_ _ | refine blk_drew ?_ | refine blk_alloc ?_ _)); refine blk_put (cs := #[.string (⟨#[]⟩ : ByteArray), .int .i64 0, .int .i64 0, .int .i64 0, .int .i64 0, .int .i64 0]) ?_ 0 _ rfl; (with_reducible repeat (first | refine blk_drewN ?_ _ | refine blk_drew ?_ | refine blk_alloc ?_ _)); exact BK362.out⟩
    have n2_ : Aside0 (Below w.heap.size w ((((((w12.setCell ⟨gb362, 0, none⟩ (.string t356)).setCell ⟨gb362, 1, none⟩ (.int .i64 t357)).setCell ⟨gb362, 2, none⟩ (.int .i64 t358)).setCell ⟨gb362, 3, none⟩ (.int .i64 t359)).setCell ⟨gb362, 4, none⟩ (.int .i64 t360)).setCell ⟨gb362, 5, none⟩ (.int .i64 t361))) := ⟨by repeat (first | (with_reducible first | exact HB.out | apply below_alloc | apply pw_below_drewN | apply below_drew1 | refine below_set ?_ GE354.out | refine below_set ?_ GE362.out) | exact HB.out)⟩
    (try clear BK354)
    (try clear BK362)
    (try clear HB)
    generalize ((((((w12.setCell ⟨gb362, 0, none⟩ (.string t356)).setCell ⟨gb362, 1, none⟩ (.int .i64 t357)).setCell ⟨gb362, 2, none⟩ (.int .i64 t358)).setCell ⟨gb362, 3, none⟩ (.int .i64 t359)).setCell ⟨gb362, 4, none⟩ (.int .i64 t360)).setCell ⟨gb362, 5, none⟩ (.int .i64 t361)) = w15 at n0_ n1_ n2_ ⊢
    have BK354 := n0_
    have BK362 := n1_
    have HB := n2_
    clear n0_ n1_ n2_
    have n0_ := Aside0.mk (blk_drew BK354.out)
    have n1_ := Aside0.mk (blk_drew BK362.out)
    have n2_ := Aside0.mk (below_drew1 HB.out)
    clear BK354
    clear BK362
    clear HB
    have BK354 := n0_
    have BK362 := n1_
    have HB := n2_
    clear n0_ n1_ n2_
    refine start_ (n := 9) (S := fun w' => w'.cell? ⟨gb362, 0, none⟩ = some (.string t356) ∧ w'.cell? ⟨gb362, 1, none⟩ = some (.int .i64 t357) ∧ w'.cell? ⟨gb362, 2, none⟩ = some (.int .i64 t358) ∧ w'.cell? ⟨gb362, 3, none⟩ = some (.int .i64 t359) ∧ w'.cell? ⟨gb362, 4, none⟩ = some (.int .i64 t360) ∧ w'.cell? ⟨gb362, 5, none⟩ = some (.int .i64 t361)) (ds := []) #[false, false, false, false, false, false, false, false, false] (by kernel_rfl) rfl rfl ⟨(blk_cell BK362.out 0).trans rfl, (blk_cell BK362.out 1).trans rfl, (blk_cell BK362.out 2).trans rfl, (blk_cell BK362.out 3).trans rfl, (blk_cell BK362.out 4).trans rfl, (blk_cell BK362.out 5).trans rfl⟩ (fun hHeld => ?_); refine with_tabW damperlaw10_ScaleDown.tab4 damperlaw10_ScaleDown.bits4 (fun HT_ HW_ => ?_)
    generalize w15.drew = w16 at BK354 BK362 HB hHeld ⊢
    refine pure_ (i := 0) (N := some 14) (v := ?_) (a' := ?_) #[true, false, false, false, false, false, false, false, false] rfl rfl (any_of HT_.out (by kernel_rfl)) (fun _ _ _ h => h) (Or.inl ⟨by rfl, ?_⟩) ?_ ?_
    rotate_left
    · intro w'
      go_simp
      with_reducible rfl
    rotate_left
    · simp only [Act.put, List.setIfInBounds_toArray, List.set_cons_zero, List.set_cons_succ, i64_w, i32_w]
      rfl
    refine pure_ (i := 2) (N := some 16) (v := ?_) (a' := ?_) #[true, false, true, false, false, false, false, false, false] rfl rfl (any_of HT_.out (by kernel_rfl)) (fun _ _ _ h => h) (Or.inl ⟨by rfl, ?_⟩) ?_ ?_
    rotate_left
    · intro w'
      go_simp
      with_reducible rfl
    rotate_left
    · simp only [Act.put, List.setIfInBounds_toArray, List.set_cons_zero, List.set_cons_succ, i64_w, i32_w]
      rfl
    refine take_ (i := 1) (N := some 15) (v := ?_) (a' := ?_) #[true, true, true, false, false, false, false, false, false] rfl rfl (take_ofW HT_.out HW_.out (by kernel_rfl)) (fun _ _ _ h => h) (Or.inl ⟨by rfl, ?_⟩) hHeld ?_ ?_
    rotate_left
    · rintro w' ⟨s0, s1, s2, s3, s4, s5⟩
      go_simp
      with_reducible rfl
    rotate_left
    · simp only [Act.put, List.setIfInBounds_toArray, List.set_cons_zero, List.set_cons_succ, i64_w, i32_w]
      rfl
    refine join_ (σ := Nat) 1 #[true, true, true, true, true, true, true, true, false] (fun s_ => [(17, .int .i64 t363), (6, .pointer (some ⟨s_, 0, none⟩)), (18, .int .i64 (wrap64 (1 + t363))), (19, .int .i64 ji7), (20, .agg #[.int .i64 ji7, .int .i64 0])]) (fun s_ w' => (w'.cell? ⟨gb362, 0, none⟩ = some (.string t356) ∧ w'.cell? ⟨gb362, 1, none⟩ = some (.int .i64 t357) ∧ w'.cell? ⟨gb362, 2, none⟩ = some (.int .i64 t358) ∧ w'.cell? ⟨gb362, 3, none⟩ = some (.int .i64 t359) ∧ w'.cell? ⟨gb362, 4, none⟩ = some (.int .i64 t360) ∧ w'.cell? ⟨gb362, 5, none⟩ = some (.int .i64 t361)) ∧ (w'.heap[gb354]? = some (.cells #[.string a0_0, .int .i64 a0_1, .int .i64 a0_2, .int .i64 a0_3, .int .i64 a0_4, .int .i64 a0_5] 25 (0, 0))) ∧ (w'.heap[gb362]? = some (.cells #[.string t356, .int .i64 t357, .int .i64 t358, .int .i64 t359, .int .i64 t360, .int .i64 t361] 25 (0, 0))) ∧ (w'.heap[s_]? = some (.cells #[.int .i64 0, .int .i64 0] 30 (0, 0))) ∧ (w.heap.size ≤ s_) ∧ (w.heap.size ≤ s_) ∧ (gb354 ≠ s_) ∧ (s_ ≠ gb354) ∧ (gb362 ≠ s_) ∧ (s_ ≠ gb362) ∧ (Below w.heap.size w w')) ?_ ?_
    rotate_left
    · intro hCont
      refine two_ (i := 3) (j := 7) (Ni := some 17) (Nj := some 6) #[true, true, true, true, false, false, false, false, false] #[true, true, true, false, false, false, false, true, false] rfl rfl rfl rfl (two_of HT_.out (by kernel_rfl)) (by decide) (by decide) (fun K hK => ?_) (fun K hK => ?_)
      · skip
        refine goes_ Try.func18 (by kernel_rfl) rfl #[.int .i64 a1, .int .i64 10] (by rfl) rfl rfl (by (try simp only [List.map_toArray, List.map_cons, List.map_nil]); first | done | rfl | (simp only [List.length_drop, List.length_take]; rfl)) ?_
        with_reducible refine (damperlaw10_within.calls a1 10 t363 _ A6.out).mono ?_
        rintro e w' ⟨rfl, ⟨nd, rfl⟩⟩
        refine ⟨_, rfl, ?_⟩
        refine hK.out _ _ ⟨(blk_cell BK362.out 0).trans rfl, (blk_cell BK362.out 1).trans rfl, (blk_cell BK362.out 2).trans rfl, (blk_cell BK362.out 3).trans rfl, (blk_cell BK362.out 4).trans rfl, (blk_cell BK362.out 5).trans rfl⟩ (fun hHeld => ?_)
        clear hK K
        refine norm_ (a' := ?_) ?_ ?_
        rotate_left
        · show Act.put _ (some 17) _ = _
          simp only [Act.put, List.setIfInBounds_toArray, List.set_cons_zero, List.set_cons_succ, i64_w, i32_w]
          rfl
        refine pure_ (i := 4) (N := some 18) (v := ?_) (a' := ?_) #[true, true, true, true, true, false, false, false, false] rfl rfl (any_of HT_.out (by kernel_rfl)) (fun _ _ _ h => h) (Or.inl ⟨by rfl, ?_⟩) ?_ ?_
        rotate_left
        · intro w'
          go_simp
          with_reducible rfl
        rotate_left
        · simp only [Act.put, List.setIfInBounds_toArray, List.set_cons_zero, List.set_cons_succ, i64_w, i32_w]
          rfl
        refine pure_ (i := 5) (N := some 19) (v := ?_) (a' := ?_) #[true, true, true, true, true, true, false, false, false] rfl rfl (any_of HT_.out (by kernel_rfl)) (fun _ _ _ h => h) (Or.inl ⟨by rfl, ?_⟩) ?_ ?_
        rotate_left
        · intro w'
          go_simp
          with_reducible rfl
        rotate_left
        · simp only [Act.put, List.setIfInBounds_toArray, List.set_cons_zero, List.set_cons_succ, i64_w, i32_w]
          rfl
        refine pure_ (i := 6) (N := some 20) (v := ?_) (a' := ?_) #[true, true, true, true, true, true, true, false, false] rfl rfl (any_of HT_.out (by kernel_rfl)) (fun _ _ _ h => h) (Or.inl ⟨by rfl, ?_⟩) ?_ ?_
        rotate_left
        · intro w'
          go_simp
          with_reducible rfl
        rotate_left
        · simp only [Act.put, List.setIfInBounds_toArray, List.set_cons_zero, List.set_cons_succ, i64_w, i32_w]
          rfl
        refine one_ (i := 7) (N := some 6) #[true, true, true, true, true, true, true, true, false] rfl rfl (one_of HT_.out (by kernel_rfl)) (by decide) (fun K hK => ?_)
        refine box_step ?hg (N := 6) ?hd (cs := #[.int .i64 0, .int .i64 0]) (t := 30) ?hr ?_; (case hd => rfl); (case hg => rfl); (case hr => first | (go_simp; done) | (go_simp; rfl))
        intro gb364 hg w17 hbox hb
        have n0_ := Aside0.mk (blk_below (g := gb354) (pk BK354) hb)
        have n1_ := Aside0.mk (blk_below (g := gb362) (pk BK362) hb)
        have n2_ := Aside0.mk (below_step (by repeat (first | (with_reducible first | exact HB.out | apply below_alloc | apply pw_below_drewN | apply below_drew1 | refine below_set ?_ GE354.out | refine below_set ?_ GE362.out) | exact HB.out)) hb)
        have n3_ := Aside0.mk (hbox)
        have n4_ := Aside0.mk ((by rw [hg]; exact (below_size (by repeat (first | (with_reducible first | exact HB.out | apply below_alloc | apply pw_below_drewN | apply below_drew1 | refine below_set ?_ GE354.out | refine below_set ?_ GE362.out) | exact HB.out))) : w.heap.size ≤ gb364))
        have n5_ := Aside0.mk ((by rw [hg]; exact (below_size (by repeat (first | (with_reducible first | exact HB.out | apply below_alloc | apply pw_below_drewN | apply below_drew1 | refine below_set ?_ GE354.out | refine below_set ?_ GE362.out) | exact HB.out))) : w.heap.size ≤ gb364))
        have n6_ := Aside0.mk ((by rw [hg]; exact Nat.ne_of_lt (blk_lt (g := gb354) (pk BK354)) : gb354 ≠ gb364))
        have n7_ := Aside0.mk ((by rw [hg]; exact Nat.ne_of_gt (blk_lt (g := gb354) (pk BK354)) : gb364 ≠ gb354))
        have n8_ := Aside0.mk ((by rw [hg]; exact Nat.ne_of_lt (blk_lt (g := gb362) (pk BK362)) : gb362 ≠ gb364))
        have n9_ := Aside0.mk ((by rw [hg]; exact Nat.ne_of_gt (blk_lt (g := gb362) (pk BK362)) : gb364 ≠ gb362))
        clear BK354
        clear BK362
        clear HB
        have BK354 := n0_
        have BK362 := n1_
        have HB := n2_
        have BK364 := n3_
        have GW364 := n4_
        have GE364 := n5_
        have NB354_364 := n6_
        have NB364_354 := n7_
        have NB362_364 := n8_
        have NB364_362 := n9_
        clear n0_ n1_ n2_ n3_ n4_ n5_ n6_ n7_ n8_ n9_
        clear hb hbox hg
        refine hK.out _ _ ⟨(blk_cell BK362.out 0).trans rfl, (blk_cell BK362.out 1).trans rfl, (blk_cell BK362.out 2).trans rfl, (blk_cell BK362.out 3).trans rfl, (blk_cell BK362.out 4).trans rfl, (blk_cell BK362.out 5).trans rfl⟩ (fun hHeld => ?_)
        clear hK K
        refine norm_ (a' := ?_) ?_ ?_
        rotate_left
        · show Act.put _ (some 6) _ = _
          simp only [Act.put, List.setIfInBounds_toArray, List.set_cons_zero, List.set_cons_succ, i64_w, i32_w]
          rfl
        exact norm_ (by simp only [putAll, Act.put, List.setIfInBounds_toArray, List.set_cons_zero, List.set_cons_succ]) (hCont (gb364) _ ⟨hHeld, (pk BK354), (pk BK362), (pk BK364), GW364.out, GE364.out, NB354_364.out, NB364_354.out, NB362_364.out, NB364_362.out, (by repeat (first | (with_reducible first | exact HB.out | apply below_alloc | apply pw_below_drewN | apply below_drew1 | refine below_set ?_ GE354.out | refine below_set ?_ GE362.out | refine below_set ?_ GE364.out) | exact HB.out))⟩)
      · skip
        refine box_step ?hg (N := 6) ?hd (cs := #[.int .i64 0, .int .i64 0]) (t := 30) ?hr ?_; (case hd => rfl); (case hg => rfl); (case hr => first | (go_simp; done) | (go_simp; rfl))
        intro gb364 hg w17 hbox hb
        have n0_ := Aside0.mk (blk_below (g := gb354) (pk BK354) hb)
        have n1_ := Aside0.mk (blk_below (g := gb362) (pk BK362) hb)
        have n2_ := Aside0.mk (below_step (by repeat (first | (with_reducible first | exact HB.out | apply below_alloc | apply pw_below_drewN | apply below_drew1 | refine below_set ?_ GE354.out | refine below_set ?_ GE362.out) | exact HB.out)) hb)
        have n3_ := Aside0.mk (hbox)
        have n4_ := Aside0.mk ((by rw [hg]; exact (below_size (by repeat (first | (with_reducible first | exact HB.out | apply below_alloc | apply pw_below_drewN | apply below_drew1 | refine below_set ?_ GE354.out | refine below_set ?_ GE362.out) | exact HB.out))) : w.heap.size ≤ gb364))
        have n5_ := Aside0.mk ((by rw [hg]; exact (below_size (by repeat (first | (with_reducible first | exact HB.out | apply below_alloc | apply pw_below_drewN | apply below_drew1 | refine below_set ?_ GE354.out | refine below_set ?_ GE362.out) | exact HB.out))) : w.heap.size ≤ gb364))
        have n6_ := Aside0.mk ((by rw [hg]; exact Nat.ne_of_lt (blk_lt (g := gb354) (pk BK354)) : gb354 ≠ gb364))
        have n7_ := Aside0.mk ((by rw [hg]; exact Nat.ne_of_gt (blk_lt (g := gb354) (pk BK354)) : gb364 ≠ gb354))
        have n8_ := Aside0.mk ((by rw [hg]; exact Nat.ne_of_lt (blk_lt (g := gb362) (pk BK362)) : gb362 ≠ gb364))
        have n9_ := Aside0.mk ((by rw [hg]; exact Nat.ne_of_gt (blk_lt (g := gb362) (pk BK362)) : gb364 ≠ gb362))
        clear BK354
        clear BK362
        clear HB
        have BK354 := n0_
        have BK362 := n1_
        have HB := n2_
        have BK364 := n3_
        have GW364 := n4_
        have GE364 := n5_
        have NB354_364 := n6_
        have NB364_354 := n7_
        have NB362_364 := n8_
        have NB364_362 := n9_
        clear n0_ n1_ n2_ n3_ n4_ n5_ n6_ n7_ n8_ n9_
        clear hb hbox hg
        refine hK.out _ _ ⟨(blk_cell BK362.out 0).trans rfl, (blk_cell BK362.out 1).trans rfl, (blk_cell BK362.out 2).trans rfl, (blk_cell BK362.out 3).trans rfl, (blk_cell BK362.out 4).trans rfl, (blk_cell BK362.out 5).trans rfl⟩ (fun hHeld => ?_)
        clear hK K
        refine norm_ (a' := ?_) ?_ ?_
        rotate_left
        · show Act.put _ (some 6) _ = _
          simp only [Act.put, List.setIfInBounds_toArray, List.set_cons_zero, List.set_cons_succ, i64_w, i32_w]
          rfl
        refine one_ (i := 3) (N := some 17) #[true, true, true, true, false, false, false, true, false] rfl rfl (one_of HT_.out (by kernel_rfl)) (by decide) (fun K hK => ?_)
        refine goes_ Try.func18 (by kernel_rfl) rfl #[.int .i64 a1, .int .i64 10] (by rfl) rfl rfl (by (try simp only [List.map_toArray, List.map_cons, List.map_nil]); first | done | rfl | (simp only [List.length_drop, List.length_take]; rfl)) ?_
        with_reducible refine (damperlaw10_within.calls a1 10 t363 _ A6.out).mono ?_
        rintro e w' ⟨rfl, ⟨nd, rfl⟩⟩
        refine ⟨_, rfl, ?_⟩
        refine hK.out _ _ ⟨(blk_cell BK362.out 0).trans rfl, (blk_cell BK362.out 1).trans rfl, (blk_cell BK362.out 2).trans rfl, (blk_cell BK362.out 3).trans rfl, (blk_cell BK362.out 4).trans rfl, (blk_cell BK362.out 5).trans rfl⟩ (fun hHeld => ?_)
        clear hK K
        refine norm_ (a' := ?_) ?_ ?_
        rotate_left
        · show Act.put _ (some 17) _ = _
          simp only [Act.put, List.setIfInBounds_toArray, List.set_cons_zero, List.set_cons_succ, i64_w, i32_w]
          rfl
        refine pure_ (i := 4) (N := some 18) (v := ?_) (a' := ?_) #[true, true, true, true, true, false, false, true, false] rfl rfl (any_of HT_.out (by kernel_rfl)) (fun _ _ _ h => h) (Or.inl ⟨by rfl, ?_⟩) ?_ ?_
        rotate_left
        · intro w'
          go_simp
          with_reducible rfl
        rotate_left
        · simp only [Act.put, List.setIfInBounds_toArray, List.set_cons_zero, List.set_cons_succ, i64_w, i32_w]
          rfl
        refine pure_ (i := 5) (N := some 19) (v := ?_) (a' := ?_) #[true, true, true, true, true, true, false, true, false] rfl rfl (any_of HT_.out (by kernel_rfl)) (fun _ _ _ h => h) (Or.inl ⟨by rfl, ?_⟩) ?_ ?_
        rotate_left
        · intro w'
          go_simp
          with_reducible rfl
        rotate_left
        · simp only [Act.put, List.setIfInBounds_toArray, List.set_cons_zero, List.set_cons_succ, i64_w, i32_w]
          rfl
        refine pure_ (i := 6) (N := some 20) (v := ?_) (a' := ?_) #[true, true, true, true, true, true, true, true, false] rfl rfl (any_of HT_.out (by kernel_rfl)) (fun _ _ _ h => h) (Or.inl ⟨by rfl, ?_⟩) ?_ ?_
        rotate_left
        · intro w'
          go_simp
          with_reducible rfl
        rotate_left
        · simp only [Act.put, List.setIfInBounds_toArray, List.set_cons_zero, List.set_cons_succ, i64_w, i32_w]
          rfl
        exact norm_ (by simp only [putAll, Act.put, List.setIfInBounds_toArray, List.set_cons_zero, List.set_cons_succ]) (hCont (gb364) _ ⟨hHeld, (pk BK354), (pk BK362), (pk BK364), GW364.out, GE364.out, NB354_364.out, NB364_354.out, NB362_364.out, NB364_362.out, (by repeat (first | (with_reducible first | exact HB.out | apply below_alloc | apply pw_below_drewN | apply below_drew1 | refine below_set ?_ GE354.out | refine below_set ?_ GE362.out | refine below_set ?_ GE364.out) | exact HB.out))⟩)
    rintro gb364 w18 ⟨hS_, h0_, h1_, h2_, h3_, h4_, h5_, h6_, h7_, h8_, h9_⟩
    have n0_ : Aside0 (w18.heap[gb354]? = some (.cells #[.string a0_0, .int .i64 a0_1, .int .i64 a0_2, .int .i64 a0_3, .int .i64 a0_4, .int .i64 a0_5] 25 (0, 0))) := ⟨h0_⟩
    have n1_ : Aside0 (w18.heap[gb362]? = some (.cells #[.string t356, .int .i64 t357, .int .i64 t358, .int .i64 t359, .int .i64 t360, .int .i64 t361] 25 (0, 0))) := ⟨h1_⟩
    have n2_ : Aside0 (w18.heap[gb364]? = some (.cells #[.int .i64 0, .int .i64 0] 30 (0, 0))) := ⟨h2_⟩
    have n3_ : Aside0 (w.heap.size ≤ gb364) := ⟨h3_⟩
    have n4_ : Aside0 (w.heap.size ≤ gb364) := ⟨h4_⟩
    have n5_ : Aside0 (gb354 ≠ gb364) := ⟨h5_⟩
    have n6_ : Aside0 (gb364 ≠ gb354) := ⟨h6_⟩
    have n7_ : Aside0 (gb362 ≠ gb364) := ⟨h7_⟩
    have n8_ : Aside0 (gb364 ≠ gb362) := ⟨h8_⟩
    have n9_ : Aside0 (Below w.heap.size w w18) := ⟨h9_⟩
    clear BK354
    clear BK362
    clear HB
    clear h0_ h1_ h2_ h3_ h4_ h5_ h6_ h7_ h8_ h9_
    have BK354 := n0_
    have BK362 := n1_
    have BK364 := n2_
    have GW364 := n3_
    have GE364 := n4_
    have NB354_364 := n5_
    have NB364_354 := n6_
    have NB362_364 := n7_
    have NB364_362 := n8_
    have HB := n9_
    clear n0_ n1_ n2_ n3_ n4_ n5_ n6_ n7_ n8_ n9_
    have hHeld : w18.cell? ⟨gb362, 0, none⟩ = some (.string t356) ∧ w18.cell? ⟨gb362, 1, none⟩ = some (.int .i64 t357) ∧ w18.cell? ⟨gb362, 2, none⟩ = some (.int .i64 t358) ∧ w18.cell? ⟨gb362, 3, none⟩ = some (.int .i64 t359) ∧ w18.cell? ⟨gb362, 4, none⟩ = some (.int .i64 t360) ∧ w18.cell? ⟨gb362, 5, none⟩ = some (.int .i64 t361) := hS_
    refine norm_ (a' := ?_) ?_ ?_
    rotate_left
    · simp only [putAll, Act.put, List.setIfInBounds_toArray, List.set_cons_zero, List.set_cons_succ]
      rfl
    refine one_ (i := 8) (N := none) #[true, true, true, true, true, true, true, true, true] rfl rfl (one_of HT_.out (by kernel_rfl)) (by decide) (fun K hK => ?_)
    have hs19 : w18.cell? ⟨gb364, 0, none⟩ = some (.int .i64 0) := (blk_cell BK364.out 0).trans rfl
    have hfs19 := blk_frozen BK364.out 0
    have hns19_0 := NB354_364.out
    have hns19_1 := NB362_364.out
    have hms19_0 := NB364_354.out
    have hms19_1 := NB364_362.out
    have hs20 : w18.cell? ⟨gb364, 1, none⟩ = some (.int .i64 0) := (blk_cell BK364.out 1).trans rfl
    have hfs20 := blk_frozen BK364.out 1
    have hns20_0 := NB354_364.out
    have hns20_1 := NB362_364.out
    have hms20_0 := NB364_354.out
    have hms20_1 := NB364_362.out
    refine skip_ (w1 := ?_) (by rfl) rfl ?_ ?_
    rotate_left
    · go_simp
      rfl
    refine hK.out _ _ ⟨((cell_far (p := ⟨gb364, _, none⟩) NB362_364.out _).trans (((cell_far (p := ⟨gb364, _, none⟩) NB362_364.out _).trans (hHeld.1)))), ((cell_far (p := ⟨gb364, _, none⟩) NB362_364.out _).trans (((cell_far (p := ⟨gb364, _, none⟩) NB362_364.out _).trans (hHeld.2.1)))), ((cell_far (p := ⟨gb364, _, none⟩) NB362_364.out _).trans (((cell_far (p := ⟨gb364, _, none⟩) NB362_364.out _).trans (hHeld.2.2.1)))), ((cell_far (p := ⟨gb364, _, none⟩) NB362_364.out _).trans (((cell_far (p := ⟨gb364, _, none⟩) NB362_364.out _).trans (hHeld.2.2.2.1)))), ((cell_far (p := ⟨gb364, _, none⟩) NB362_364.out _).trans (((cell_far (p := ⟨gb364, _, none⟩) NB362_364.out _).trans (hHeld.2.2.2.2.1)))), ((cell_far (p := ⟨gb364, _, none⟩) NB362_364.out _).trans (((cell_far (p := ⟨gb364, _, none⟩) NB362_364.out _).trans (hHeld.2.2.2.2.2))))⟩ (fun hHeld => ?_)
    clear hK K
    refine done_ (done_of HT_.out (by kernel_rfl)) ?_
    have hnb21 := NB364_354.out
    have hnc21 := NB354_364.out
    have hnb22 := NB364_362.out
    have hnc22 := NB362_364.out
    have hcz23_0 : w18.cell? ⟨gb364, 0, none⟩ = some (.int .i64 0) := (blk_cell BK364.out 0).trans rfl
    have hcz23_1 : w18.cell? ⟨gb364, 1, none⟩ = some (.int .i64 0) := (blk_cell BK364.out 1).trans rfl
    have hfz23_0 := blk_frozen BK364.out 0
    have hfz23_1 := blk_frozen BK364.out 1
    try go_wp2
    go_loopg [7, 8] k (fun kq v7 v8 w' => ∃ (x7_1 : Int) (x8_1 : Int) (x365000_1 : Int) (x365001_1 : Int), v7 = .int .i64 x7_1 ∧ v8 = .int .i64 x8_1 ∧ Aside0 (damperlaw10_ScaleDown.l0 kq x7_1 x8_1 t356 t357 t358 t359 t360 t361 x365000_1 x365001_1 = some r) ∧ Aside0 (kq ≤ k) ∧ Aside0 (w'.heap[gb354]? = some (.cells #[.string a0_0, .int .i64 a0_1, .int .i64 a0_2, .int .i64 a0_3, .int .i64 a0_4, .int .i64 a0_5] 25 (0, 0))) ∧ Aside0 (w'.heap[gb362]? = some (.cells #[.string t356, .int .i64 t357, .int .i64 t358, .int .i64 t359, .int .i64 t360, .int .i64 t361] 25 (0, 0))) ∧ Aside0 (w'.heap[gb364]? = some (.cells #[.int .i64 x365000_1, .int .i64 x365001_1] 30 (0, 0))) ∧ Aside0 (Below w.heap.size w w'))
    case atStart => exact ⟨(ji7), (0), (ji7), (0), (by first | rfl | (simp; done) | (simp only [← hji7] <;> (first | rfl | simp)) | (simp [*]; done)), (by first | rfl | (simp; done) | (simp [*]; done)), H', ⟨Nat.le_refl _⟩, ⟨by (with_reducible repeat (first | refine blk_drewN ?_ _ | refine blk_drew ?_ | refine blk_alloc ?_ _)); refine blk_far ?_ NB354_364.out _; (with_reducible repeat (first | refine blk_drewN ?_ _ | refine blk_drew ?_ | refine blk_alloc ?_ _)); refine blk_far ?_ NB354_364.out _; (with_reducible repeat (first | refine blk_drewN ?_ _ | refine blk_drew ?_ | refine blk_alloc ?_ _)); exact BK354.out⟩, ⟨by (with_reducible repeat (first | refine blk_drewN ?_ _ | refine blk_drew ?_ | refine blk_alloc ?_ _)); refine blk_far ?_ NB362_364.out _; (with_reducible repeat (first | refine blk_drewN ?_ _ | refine blk_drew ?_ | refine blk_alloc ?_ _)); refine blk_far ?_ NB362_364.out _; (with_reducible repeat (first | refine blk_drewN ?_ _ | refine blk_drew ?_ | refine blk_alloc ?_ _)); exact BK362.out⟩, ⟨by (with_reducible repeat (first | refine blk_drewN ?_ _ | refine blk_drew ?_ | refine blk_alloc ?_ _)); refine blk_put (cs := #[.int .i64 ji7, .int .i64 0]) ?_ 1 _ rfl; (with_reducible repeat (first | refine blk_drewN ?_ _ | refine blk_drew ?_ | refine blk_alloc ?_ _)); refine blk_put (cs := #[.int .i64 0, .int .i64 0]) ?_ 0 _ rfl; (with_reducible repeat (first | refine blk_drewN ?_ _ | refine blk_drew ?_ | refine blk_alloc ?_ _)); exact BK364.out⟩, ⟨by repeat (first | (with_reducible first | exact HB.out | apply below_alloc | apply pw_below_drewN | apply below_drew1 | refine below_set ?_ GE354.out | refine below_set ?_ GE362.out | refine below_set ?_ GE364.out) | exact HB.out)⟩⟩
    case round =>
      clear H'
      try clear c1
      try clear c2
      try clear p2
      try clear c4
      try clear p6
      try clear c10
      try clear c13
      try clear c15
      try clear c18
      try clear c21
      try clear c22
      try clear hcz10_0
      try clear hcz10_1
      try clear hcz10_2
      try clear hcz10_3
      try clear hcz10_4
      try clear hcz10_5
      try clear hcz14_0
      try clear hcz14_1
      try clear hcz14_2
      try clear hcz14_3
      try clear hcz14_4
      try clear hcz14_5
      try clear hcz23_0
      try clear hcz23_1
      try clear hfz10_0
      try clear hfz10_1
      try clear hfz10_2
      try clear hfz10_3
      try clear hfz10_4
      try clear hfz10_5
      try clear hfz14_0
      try clear hfz14_1
      try clear hfz14_2
      try clear hfz14_3
      try clear hfz14_4
      try clear hfz14_5
      try clear hfz23_0
      try clear hfz23_1
      obtain ⟨x7_1, x8_1, x365000_1, x365001_1, rfl, rfl, HA, HK1, BK354, BK362, BK364, HB⟩ := hrel
      cases gk with
      | zero => exact absurd HA.out (by simp [damperlaw10_ScaleDown.l0])
      | succ k1 =>
        have H := HA.out
        clear HA
        simp only [damperlaw10_ScaleDown.l0] at H
        by_cases c24 : x8_1 < 12
        · rw [if_pos c24] at H
          have c24b0 : decide (x8_1 < 12) = true := decide_eq_true c24
          clear c24
          replace H := Option.bind_eq_some_iff.mp H
          obtain ⟨⟨t365, t366⟩, A250, H⟩ := H
          replace H : (if t366 = 0 then (if t365 = (mn t360 (mx t359 (wrap64 (Int.tdiv x7_1 2)))) then (damperlaw10_ScaleDown.l0 k1 t365 (wrap64 (x8_1 + 1)) t356 t357 t358 t359 t360 t361 t365 t366) else (some false)) else (some false)) = some r := H
          have A25 := Aside0.mk A250
          clear A250
          by_cases c26 : t366 = 0
          rotate_left
          · rw [if_neg c26] at H
            have c26b0 : (t366 == 0) = false := beq_eq_false_iff_ne.mpr c26
            have c26b1 : (t366 != 0) = true := bne_iff_ne.mpr c26
            exact absurd (Option.some.inj H) (by rw [hr0_.out]; decide)
          rw [if_pos c26] at H
          have c26b0 : (t366 == 0) = true := beq_iff_eq.mpr c26
          have c26b1 : (t366 != 0) = false := bne_eq_false_iff_eq.mpr c26
          clear c26
          obtain ⟨ji27, hji27⟩ : ∃ j_ : Int, (mx t359 (wrap64 (Int.tdiv x7_1 2))) = j_ := ⟨_, rfl⟩
          replace H : (if t365 = (mn t360 (ji27)) then (damperlaw10_ScaleDown.l0 k1 t365 (wrap64 (x8_1 + 1)) t356 t357 t358 t359 t360 t361 t365 t366) else (some false)) = some r := by first | (rw [hji27] at H; exact H) | (simp only [hji27] at H ⊢; exact H)
          (try rw [hji27] at A25)
          have hji27_ : (if t359 < (wrap64 (Int.tdiv x7_1 2)) then (wrap64 (Int.tdiv x7_1 2)) else t359) = ji27 := hji27
          obtain ⟨ji28, hji28⟩ : ∃ j_ : Int, (mn t360 (ji27)) = j_ := ⟨_, rfl⟩
          replace H : (if t365 = (ji28) then (damperlaw10_ScaleDown.l0 k1 t365 (wrap64 (x8_1 + 1)) t356 t357 t358 t359 t360 t361 t365 t366) else (some false)) = some r := by first | (rw [hji28] at H; exact H) | (simp only [hji28] at H ⊢; exact H)
          (try rw [hji28] at A25)
          have hji28_ : (if (ji27) < t360 then (ji27) else t360) = ji28 := hji28
          by_cases c29 : t365 = (ji28)
          rotate_left
          · rw [if_neg c29] at H
            have c29b0 : (t365 == (ji28)) = false := beq_eq_false_iff_ne.mpr c29
            have c29b1 : (t365 != (ji28)) = true := bne_iff_ne.mpr c29
            exact absurd (Option.some.inj H) (by rw [hr0_.out]; decide)
          rw [if_pos c29] at H
          have c29b0 : (t365 == (ji28)) = true := beq_iff_eq.mpr c29
          have c29b1 : (t365 != (ji28)) = false := bne_eq_false_iff_eq.mpr c29
          clear c29
          have H' := Aside0.mk H
          clear H
          have hnb30 := NB364_354.out
          have hnc30 := NB354_364.out
          have hnb31 := NB364_362.out
          have hnc31 := NB362_364.out
          have hcz32_0 : wr.cell? ⟨gb364, 0, none⟩ = some (.int .i64 x365000_1) := (blk_cell BK364.out 0).trans rfl
          have hcz32_1 : wr.cell? ⟨gb364, 1, none⟩ = some (.int .i64 x365001_1) := (blk_cell BK364.out 1).trans rfl
          have hfz32_0 := blk_frozen BK364.out 0
          have hfz32_1 := blk_frozen BK364.out 1
          have hnb33 := NB362_354.out
          have hnc33 := NB354_362.out
          have hcz34_0 : wr.cell? ⟨gb362, 0, none⟩ = some (.string t356) := (blk_cell BK362.out 0).trans rfl
          have hcz34_1 : wr.cell? ⟨gb362, 1, none⟩ = some (.int .i64 t357) := (blk_cell BK362.out 1).trans rfl
          have hcz34_2 : wr.cell? ⟨gb362, 2, none⟩ = some (.int .i64 t358) := (blk_cell BK362.out 2).trans rfl
          have hcz34_3 : wr.cell? ⟨gb362, 3, none⟩ = some (.int .i64 t359) := (blk_cell BK362.out 3).trans rfl
          have hcz34_4 : wr.cell? ⟨gb362, 4, none⟩ = some (.int .i64 t360) := (blk_cell BK362.out 4).trans rfl
          have hcz34_5 : wr.cell? ⟨gb362, 5, none⟩ = some (.int .i64 t361) := (blk_cell BK362.out 5).trans rfl
          have hfz34_0 := blk_frozen BK362.out 0
          have hfz34_1 := blk_frozen BK362.out 1
          have hfz34_2 := blk_frozen BK362.out 2
          have hfz34_3 := blk_frozen BK362.out 3
          have hfz34_4 := blk_frozen BK362.out 4
          have hfz34_5 := blk_frozen BK362.out 5
          try go_wp2_with (first | ((with_reducible refine gate_callee (f := 21) rfl ?_); refine goesL_ (some 30) rfl rfl Try.func21 (by kernel_rfl) rfl #[.agg #[.int .i64 x365000_1, .int .i64 x365001_1], .agg #[.string t356, .int .i64 t357, .int .i64 t358, .int .i64 t359, .int .i64 t360, .int .i64 t361], .int .i64 x7_1, .int .i64 0, .int .i64 0, .int .i64 6, .int .i64 0, .int .i64 2, .int .i64 1000] rfl (by (try simp only [List.map_toArray, List.map_cons, List.map_nil]); first | done | rfl | (simp only [List.length_drop, List.length_take]; rfl)) ?_; (with_reducible refine (scale_Decide.calls k1 x365000_1 x365001_1 t356 t357 t358 t359 t360 t361 x7_1 0 0 6 0 2 1000 t365 t366 _ A25.out).mono ?_); rintro e w35 ⟨rfl, hb⟩; refine ⟨_, rfl, ?_⟩; have n0_ := Aside0.mk (blk_below (g := gb354) (pk BK354) hb); have n1_ := Aside0.mk (blk_below (g := gb362) (pk BK362) hb); have n2_ := Aside0.mk (blk_below (g := gb364) (pk BK364) hb); have n3_ := Aside0.mk (below_step (by repeat (first | (with_reducible first | exact HB.out | apply below_alloc | apply pw_below_drewN | apply below_drew1 | refine below_set ?_ GE354.out | refine below_set ?_ GE362.out | refine below_set ?_ GE364.out) | exact HB.out)) hb); clear BK354; clear BK362; clear BK364; clear HB; have BK354 := n0_; have BK362 := n1_; have BK364 := n2_; have HB := n3_; clear n0_ n1_ n2_ n3_; (try clear hb); (try clear hb2); (try clear hk); (try clear hi)) | ((with_reducible refine gate_dst (N := 9) rfl ?_); (try (refine gate_guard (by rfl) ?_; dsimp only)); refine box_event ?hg (N := 9) ?hd (cs := #[.int .i64 0, .int .i64 0]) (t := 30) ?hr ?_; (case hd => rfl); (case hg => rfl); (case hr => first | (go_simp; done) | (go_simp; rfl)); intro gb367 hg w36 hbox hb; have n0_ := Aside0.mk (blk_below (g := gb354) (pk BK354) hb); have n1_ := Aside0.mk (blk_below (g := gb362) (pk BK362) hb); have n2_ := Aside0.mk (blk_below (g := gb364) (pk BK364) hb); have n3_ := Aside0.mk (below_step (by repeat (first | (with_reducible first | exact HB.out | apply below_alloc | apply pw_below_drewN | apply below_drew1 | refine below_set ?_ GE354.out | refine below_set ?_ GE362.out | refine below_set ?_ GE364.out) | exact HB.out)) hb); have n4_ := Aside0.mk (hbox); have n5_ := Aside0.mk ((by rw [hg]; exact (below_size (by repeat (first | (with_reducible first | exact HB.out | apply below_alloc | apply pw_below_drewN | apply below_drew1 | refine below_set ?_ GE354.out | refine below_set ?_ GE362.out | refine below_set ?_ GE364.out) | exact HB.out))) : w.heap.size ≤ gb367)); have n6_ := Aside0.mk ((by rw [hg]; exact (below_size (by repeat (first | (with_reducible first | exact HB.out | apply below_alloc | apply pw_below_drewN | apply below_drew1 | refine below_set ?_ GE354.out | refine below_set ?_ GE362.out | refine below_set ?_ GE364.out) | exact HB.out))) : w.heap.size ≤ gb367)); have n7_ := Aside0.mk ((by rw [hg]; exact Nat.ne_of_lt (blk_lt (g := gb354) (pk BK354)) : gb354 ≠ gb367)); have n8_ := Aside0.mk ((by rw [hg]; exact Nat.ne_of_gt (blk_lt (g := gb354) (pk BK354)) : gb367 ≠ gb354)); have n9_ := Aside0.mk ((by rw [hg]; exact Nat.ne_of_lt (blk_lt (g := gb362) (pk BK362)) : gb362 ≠ gb367)); have n10_ := Aside0.mk ((by rw [hg]; exact Nat.ne_of_gt (blk_lt (g := gb362) (pk BK362)) : gb367 ≠ gb362)); have n11_ := Aside0.mk ((by rw [hg]; exact Nat.ne_of_lt (blk_lt (g := gb364) (pk BK364)) : gb364 ≠ gb367)); have n12_ := Aside0.mk ((by rw [hg]; exact Nat.ne_of_gt (blk_lt (g := gb364) (pk BK364)) : gb367 ≠ gb364)); clear BK354; clear BK362; clear BK364; clear HB; have BK354 := n0_; have BK362 := n1_; have BK364 := n2_; have HB := n3_; have BK367 := n4_; have GW367 := n5_; have GE367 := n6_; have NB354_367 := n7_; have NB367_354 := n8_; have NB362_367 := n9_; have NB367_362 := n10_; have NB364_367 := n11_; have NB367_364 := n12_; clear n0_ n1_ n2_ n3_ n4_ n5_ n6_ n7_ n8_ n9_ n10_ n11_ n12_; clear hb hbox hg; have hnb37 := NB367_354.out; have hnc37 := NB354_367.out; have hnb38 := NB367_362.out; have hnc38 := NB362_367.out; have hnb39 := NB367_364.out; have hnc39 := NB364_367.out; have hcz40_0 : w36.cell? ⟨gb367, 0, none⟩ = some (.int .i64 0) := (blk_cell BK367.out 0).trans rfl; have hcz40_1 : w36.cell? ⟨gb367, 1, none⟩ = some (.int .i64 0) := (blk_cell BK367.out 1).trans rfl; have hfz40_0 := blk_frozen BK367.out 0; have hfz40_1 := blk_frozen BK367.out 1; have hcz41_0 : w36.cell? ⟨gb362, 0, none⟩ = some (.string t356) := (blk_cell BK362.out 0).trans rfl; have hcz41_1 : w36.cell? ⟨gb362, 1, none⟩ = some (.int .i64 t357) := (blk_cell BK362.out 1).trans rfl; have hcz41_2 : w36.cell? ⟨gb362, 2, none⟩ = some (.int .i64 t358) := (blk_cell BK362.out 2).trans rfl; have hcz41_3 : w36.cell? ⟨gb362, 3, none⟩ = some (.int .i64 t359) := (blk_cell BK362.out 3).trans rfl; have hcz41_4 : w36.cell? ⟨gb362, 4, none⟩ = some (.int .i64 t360) := (blk_cell BK362.out 4).trans rfl; have hcz41_5 : w36.cell? ⟨gb362, 5, none⟩ = some (.int .i64 t361) := (blk_cell BK362.out 5).trans rfl; have hfz41_0 := blk_frozen BK362.out 0; have hfz41_1 := blk_frozen BK362.out 1; have hfz41_2 := blk_frozen BK362.out 2; have hfz41_3 := blk_frozen BK362.out 3; have hfz41_4 := blk_frozen BK362.out 4; have hfz41_5 := blk_frozen BK362.out 5))
          have n0_ : Aside0 (((w36.setCell ⟨gb367, 0, none⟩ (.int .i64 t365)).setCell ⟨gb367, 1, none⟩ (.int .i64 t366)).heap[gb354]? = some (.cells #[.string a0_0, .int .i64 a0_1, .int .i64 a0_2, .int .i64 a0_3, .int .i64 a0_4, .int .i64 a0_5] 25 (0, 0))) := ⟨by (with_reducible repeat (first | refine blk_drewN ?_ _ | refine blk_drew ?_ | refine blk_alloc ?_ _)); refine blk_far ?_ NB354_367.out _; (with_reducible repeat (first | refine blk_drewN ?_ _ | refine blk_drew ?_ | refine blk_alloc ?_ _)); refine blk_far ?_ NB354_367.out _; (with_reducible repeat (first | refine blk_drewN ?_ _ | refine blk_drew ?_ | refine blk_alloc ?_ _)); exact BK354.out⟩
          have n1_ : Aside0 (((w36.setCell ⟨gb367, 0, none⟩ (.int .i64 t365)).setCell ⟨gb367, 1, none⟩ (.int .i64 t366)).heap[gb362]? = some (.cells #[.string t356, .int .i64 t357, .int .i64 t358, .int .i64 t359, .int .i64 t360, .int .i64 t361] 25 (0, 0))) := ⟨by (with_reducible repeat (first | refine blk_drewN ?_ _ | refine blk_drew ?_ | refine blk_alloc ?_ _)); refine blk_far ?_ NB362_367.out _; (with_reducible repeat (first | refine blk_drewN ?_ _ | refine blk_drew ?_ | refine blk_alloc ?_ _)); refine blk_far ?_ NB362_367.out _; (with_reducible repeat (first | refine blk_drewN ?_ _ | refine blk_drew ?_ | refine blk_alloc ?_ _)); exact BK362.out⟩
          have n2_ : Aside0 (((w36.setCell ⟨gb367, 0, none⟩ (.int .i64 t365)).setCell ⟨gb367, 1, none⟩ (.int .i64 t366)).heap[gb364]? = some (.cells #[.int .i64 x365000_1, .int .i64 x365001_1] 30 (0, 0))) := ⟨by (with_reducible repeat (first | refine blk_drewN ?_ _ | refine blk_drew ?_ | refine blk_alloc ?_ _)); refine blk_far ?_ NB364_367.out _; (with_reducible repeat (first | refine blk_drewN ?_ _ | refine blk_drew ?_ | refine blk_alloc ?_ _)); refine blk_far ?_ NB364_367.out _; (with_reducible repeat (first | refine blk_drewN ?_ _ | refine blk_drew ?_ | refine blk_alloc ?_ _)); exact BK364.out⟩
          have n3_ : Aside0 (((w36.setCell ⟨gb367, 0, none⟩ (.int .i64 t365)).setCell ⟨gb367, 1, none⟩ (.int .i64 t366)).heap[gb367]? = some (.cells #[.int .i64 t365, .int .i64 t366] 30 (0, 0))) := ⟨by (with_reducible repeat (first | refine blk_drewN ?_ _ | refine blk_drew ?_ | refine blk_alloc ?_ _)); refine blk_put (cs := #[.int .i64 t365, .int .i64 0]) ?_ 1 _ rfl; (with_reducible repeat (first | refine blk_drewN ?_ _ | refine blk_drew ?_ | refine blk_alloc ?_ _)); refine blk_put (cs := #[.int .i64 0, .int .i64 0]) ?_ 0 _ rfl; (with_reducible repeat (first | refine blk_drewN ?_ _ | refine blk_drew ?_ | refine blk_alloc ?_ _)); exact BK367.out⟩
          have n4_ : Aside0 (Below w.heap.size w ((w36.setCell ⟨gb367, 0, none⟩ (.int .i64 t365)).setCell ⟨gb367, 1, none⟩ (.int .i64 t366))) := ⟨by repeat (first | (with_reducible first | exact HB.out | apply below_alloc | apply pw_below_drewN | apply below_drew1 | refine below_set ?_ GE354.out | refine below_set ?_ GE362.out | refine below_set ?_ GE364.out | refine below_set ?_ GE367.out) | exact HB.out)⟩
          (try clear BK354)
          (try clear BK362)
          (try clear BK364)
          (try clear BK367)
          (try clear HB)
          generalize ((w36.setCell ⟨gb367, 0, none⟩ (.int .i64 t365)).setCell ⟨gb367, 1, none⟩ (.int .i64 t366)) = w42 at n0_ n1_ n2_ n3_ n4_ ⊢
          have BK354 := n0_
          have BK362 := n1_
          have BK364 := n2_
          have BK367 := n3_
          have HB := n4_
          clear n0_ n1_ n2_ n3_ n4_
          have n0_ := Aside0.mk (blk_drew BK354.out)
          have n1_ := Aside0.mk (blk_drew BK362.out)
          have n2_ := Aside0.mk (blk_drew BK364.out)
          have n3_ := Aside0.mk (blk_drew BK367.out)
          have n4_ := Aside0.mk (below_drew1 HB.out)
          clear BK354
          clear BK362
          clear BK364
          clear BK367
          clear HB
          have BK354 := n0_
          have BK362 := n1_
          have BK364 := n2_
          have BK367 := n3_
          have HB := n4_
          clear n0_ n1_ n2_ n3_ n4_
          refine start_ (n := 5) (S := fun w' => w'.cell? ⟨gb367, 0, none⟩ = some (.int .i64 t365) ∧ w'.cell? ⟨gb367, 1, none⟩ = some (.int .i64 t366)) (ds := []) #[false, false, false, false, false] (by kernel_rfl) rfl rfl ⟨(blk_cell BK367.out 0).trans rfl, (blk_cell BK367.out 1).trans rfl⟩ (fun hHeld => ?_)
          generalize w42.drew = w43 at BK354 BK362 BK364 BK367 HB hHeld ⊢
          refine pure_ (i := 1) (N := some 48) (v := ?_) (a' := ?_) #[false, true, false, false, false] rfl rfl (by kernel_rfl) (fun _ _ _ h => h) (Or.inl ⟨by rfl, ?_⟩) ?_ ?_
          rotate_left
          · intro w'
            go_simp
            with_reducible rfl
          rotate_left
          · simp only [Act.put, List.setIfInBounds_toArray, List.set_cons_zero, List.set_cons_succ, i64_w, i32_w]
            rfl
          refine take_ (i := 0) (N := some 47) (v := ?_) (a' := ?_) #[true, true, false, false, false] rfl rfl (by kernel_rfl) (fun _ _ _ h => h) (Or.inl ⟨by rfl, ?_⟩) hHeld ?_ ?_
          rotate_left
          · rintro w' ⟨s0, s1⟩
            go_simp
            with_reducible rfl
          rotate_left
          · simp only [Act.put, List.setIfInBounds_toArray, List.set_cons_zero, List.set_cons_succ, i64_w, i32_w]
            rfl
          refine take_ (i := 2) (N := some 49) (v := ?_) (a' := ?_) #[true, true, true, false, false] rfl rfl (by kernel_rfl) (fun _ _ _ h => h) (Or.inl ⟨by rfl, ?_⟩) hHeld ?_ ?_
          rotate_left
          · rintro w' ⟨s0, s1⟩
            go_simp
            with_reducible rfl
          rotate_left
          · simp only [Act.put, List.setIfInBounds_toArray, List.set_cons_zero, List.set_cons_succ, i64_w, i32_w]
            rfl
          refine one_ (i := 3) (N := none) #[true, true, true, true, false] rfl rfl (by kernel_rfl) (by decide) (fun K hK => ?_)
          have hs44 : w43.cell? ⟨gb364, 0, none⟩ = some (.int .i64 x365000_1) := (blk_cell BK364.out 0).trans rfl
          have hfs44 := blk_frozen BK364.out 0
          have hns44_0 := NB354_364.out
          have hns44_1 := NB362_364.out
          have hns44_3 := NB367_364.out
          have hms44_0 := NB364_354.out
          have hms44_1 := NB364_362.out
          have hms44_3 := NB364_367.out
          have hs45 : w43.cell? ⟨gb364, 1, none⟩ = some (.int .i64 x365001_1) := (blk_cell BK364.out 1).trans rfl
          have hfs45 := blk_frozen BK364.out 1
          have hns45_0 := NB354_364.out
          have hns45_1 := NB362_364.out
          have hns45_3 := NB367_364.out
          have hms45_0 := NB364_354.out
          have hms45_1 := NB364_362.out
          have hms45_3 := NB364_367.out
          refine skip_ (w1 := ?_) (by rfl) rfl ?_ ?_
          rotate_left
          · go_simp
            rfl
          refine hK.out _ _ ⟨((cell_far (p := ⟨gb364, _, none⟩) NB367_364.out _).trans (((cell_far (p := ⟨gb364, _, none⟩) NB367_364.out _).trans (hHeld.1)))), ((cell_far (p := ⟨gb364, _, none⟩) NB367_364.out _).trans (((cell_far (p := ⟨gb364, _, none⟩) NB367_364.out _).trans (hHeld.2))))⟩ (fun hHeld => ?_)
          clear hK K
          refine pure_ (i := 4) (N := some 7) (v := ?_) (a' := ?_) #[true, true, true, true, true] rfl rfl (by kernel_rfl) (fun _ _ _ h => h) (Or.inl ⟨by rfl, ?_⟩) ?_ ?_
          rotate_left
          · intro w'
            go_simp
            with_reducible rfl
          rotate_left
          · simp only [Act.put, List.setIfInBounds_toArray, List.set_cons_zero, List.set_cons_succ, i64_w, i32_w]
            rfl
          refine done_ (by kernel_rfl) ?_
          try go_wp2
          go_roundg k1
          case measure => have := HK1.out; omega
          case rel => exact ⟨(t365), (wrap64 (x8_1 + 1)), (t365), (t366), (by first | rfl | (simp; done) | (simp [*]; done)), (by first | rfl | (simp; done) | (simp [*]; done)), H', ⟨by have := HK1.out; omega⟩, ⟨by (with_reducible repeat (first | refine blk_drewN ?_ _ | refine blk_drew ?_ | refine blk_alloc ?_ _)); refine blk_far ?_ NB354_364.out _; (with_reducible repeat (first | refine blk_drewN ?_ _ | refine blk_drew ?_ | refine blk_alloc ?_ _)); refine blk_far ?_ NB354_364.out _; (with_reducible repeat (first | refine blk_drewN ?_ _ | refine blk_drew ?_ | refine blk_alloc ?_ _)); exact BK354.out⟩, ⟨by (with_reducible repeat (first | refine blk_drewN ?_ _ | refine blk_drew ?_ | refine blk_alloc ?_ _)); refine blk_far ?_ NB362_364.out _; (with_reducible repeat (first | refine blk_drewN ?_ _ | refine blk_drew ?_ | refine blk_alloc ?_ _)); refine blk_far ?_ NB362_364.out _; (with_reducible repeat (first | refine blk_drewN ?_ _ | refine blk_drew ?_ | refine blk_alloc ?_ _)); exact BK362.out⟩, ⟨by (with_reducible repeat (first | refine blk_drewN ?_ _ | refine blk_drew ?_ | refine blk_alloc ?_ _)); refine blk_put (cs := #[.int .i64 t365, .int .i64 x365001_1]) ?_ 1 _ rfl; (with_reducible repeat (first | refine blk_drewN ?_ _ | refine blk_drew ?_ | refine blk_alloc ?_ _)); refine blk_put (cs := #[.int .i64 x365000_1, .int .i64 x365001_1]) ?_ 0 _ rfl; (with_reducible repeat (first | refine blk_drewN ?_ _ | refine blk_drew ?_ | refine blk_alloc ?_ _)); exact BK364.out⟩, ⟨by repeat (first | (with_reducible first | exact HB.out | apply below_alloc | apply pw_below_drewN | apply below_drew1 | refine below_set ?_ GE354.out | refine below_set ?_ GE362.out | refine below_set ?_ GE364.out | refine below_set ?_ GE367.out) | exact HB.out)⟩⟩
        · rw [if_neg c24] at H
          have c24b0 : decide (x8_1 < 12) = false := decide_eq_false c24
          clear c24
          obtain rfl := Option.some.inj H
          have hnb46 := NB364_354.out
          have hnc46 := NB354_364.out
          have hnb47 := NB364_362.out
          have hnc47 := NB362_364.out
          have hcz48_0 : wr.cell? ⟨gb364, 0, none⟩ = some (.int .i64 x365000_1) := (blk_cell BK364.out 0).trans rfl
          have hcz48_1 : wr.cell? ⟨gb364, 1, none⟩ = some (.int .i64 x365001_1) := (blk_cell BK364.out 1).trans rfl
          have hfz48_0 := blk_frozen BK364.out 0
          have hfz48_1 := blk_frozen BK364.out 1
          have hnb49 := NB362_354.out
          have hnc49 := NB354_362.out
          have hcz50_0 : wr.cell? ⟨gb362, 0, none⟩ = some (.string t356) := (blk_cell BK362.out 0).trans rfl
          have hcz50_1 : wr.cell? ⟨gb362, 1, none⟩ = some (.int .i64 t357) := (blk_cell BK362.out 1).trans rfl
          have hcz50_2 : wr.cell? ⟨gb362, 2, none⟩ = some (.int .i64 t358) := (blk_cell BK362.out 2).trans rfl
          have hcz50_3 : wr.cell? ⟨gb362, 3, none⟩ = some (.int .i64 t359) := (blk_cell BK362.out 3).trans rfl
          have hcz50_4 : wr.cell? ⟨gb362, 4, none⟩ = some (.int .i64 t360) := (blk_cell BK362.out 4).trans rfl
          have hcz50_5 : wr.cell? ⟨gb362, 5, none⟩ = some (.int .i64 t361) := (blk_cell BK362.out 5).trans rfl
          have hfz50_0 := blk_frozen BK362.out 0
          have hfz50_1 := blk_frozen BK362.out 1
          have hfz50_2 := blk_frozen BK362.out 2
          have hfz50_3 := blk_frozen BK362.out 3
          have hfz50_4 := blk_frozen BK362.out 4
          have hfz50_5 := blk_frozen BK362.out 5
          go_wp2
          go_ret
          exact ⟨by first | rfl | (simp [errW_none, errW_some] <;> rfl) | (simp only [← hji7]; first | rfl | (simp [errW_none, errW_some] <;> rfl)) | (simp [*, errW_none, errW_some] <;> rfl), by repeat (first | (with_reducible first | exact HB.out | apply below_alloc | apply pw_below_drewN | apply below_drew1 | refine below_set ?_ GE354.out | refine below_set ?_ GE362.out | refine below_set ?_ GE364.out) | exact HB.out)⟩
  · replace c4 := Bool.eq_false_iff.mpr c4
    subst c4
    have H1 : (some false) = some r := by rw [if_neg (show ¬ (false = true) by decide)] at H; exact H
    clear H
    have H := H1
    clear H1
    exact absurd (Option.some.inj H) (by rw [hr0_.out]; decide)

/-- THE ONE PURE STATEMENT of damperlaw10_ScaleDown: yours. -/
def damperlaw10_ScaleDown.Pure : Prop := ∀ (a0_0 : ByteArray) (a0_1 : Int) (a0_2 : Int) (a0_3 : Int) (a0_4 : Int) (a0_5 : Int) (a1 : Int), (a0_0.size ≤ maxLen) → ((Lit.int .i64 a0_1).wf = true) → ((Lit.int .i64 a0_2).wf = true) → ((Lit.int .i64 a0_3).wf = true) → ((Lit.int .i64 a0_4).wf = true) → ((Lit.int .i64 a0_5).wf = true) → ((Lit.int .i64 a1).wf = true) → ∃ k, damperlaw10_ScaleDown.f k a0_0 a0_1 a0_2 a0_3 a0_4 a0_5 a1 = some true
theorem damperlaw10_ScaleDown.walk (P : damperlaw10_ScaleDown.Pure) (a0_0 : ByteArray) (a0_1 : Int) (a0_2 : Int) (a0_3 : Int) (a0_4 : Int) (a0_5 : Int) (a1 : Int) (w : World) (w0_0 : a0_0.size ≤ maxLen) (w0_1 : (Lit.int .i64 a0_1).wf = true) (w0_2 : (Lit.int .i64 a0_2).wf = true) (w0_3 : (Lit.int .i64 a0_3).wf = true) (w0_4 : (Lit.int .i64 a0_4).wf = true) (w0_5 : (Lit.int .i64 a0_5).wf = true) (w1 : (Lit.int .i64 a1).wf = true)  :
    Calls Try.prog 10 #[.agg #[.string a0_0, .int .i64 a0_1, .int .i64 a0_2, .int .i64 a0_3, .int .i64 a0_4, .int .i64 a0_5], .int .i64 a1] w fun e w' => e = .returned (.bool true) ∧ Below w.heap.size w w' := by
  obtain ⟨k, h⟩ := P a0_0 a0_1 a0_2 a0_3 a0_4 a0_5 a1 w0_0 w0_1 w0_2 w0_3 w0_4 w0_5 w1
  refine (damperlaw10_ScaleDown.calls k a0_0 a0_1 a0_2 a0_3 a0_4 a0_5 a1 true w ⟨rfl⟩ h).mono ?_
  rintro e w' ⟨rfl, hd⟩
  exact ⟨rfl, hd⟩

end Go.Proofs.Ytlikdmeickbigaa.Ma
