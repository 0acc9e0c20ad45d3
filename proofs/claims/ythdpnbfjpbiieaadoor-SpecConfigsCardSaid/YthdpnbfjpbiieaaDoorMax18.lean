-- Written by a program of this session (wip/tools/myprint.py), in the form of the kit's print. Not trusted: Lean checks it.
import Derived.Test.YthdpnbfjpbiieaaDoorMax0
import Derived.Test.YthdpnbfjpbiieaaDoorMax4
import Derived.Test.YthdpnbfjpbiieaaDoorMax14
import Derived.Test.YthdpnbfjpbiieaaDoorMax16
import Derived.Test.YthdpnbfjpbiieaaDoorMax17
namespace Go.Proofs.YthdpnbfjpbiieaaDoor.Ma
open Go.RowKit Go.Proofs.YthdpnbfjpbiieaaDoorW.PrintWords Go.Proofs.YthdpnbfjpbiieaaDoorW.PrintLast Go.Proofs.YthdpnbfjpbiieaaDoorW.PrintMore
attribute [local go_sem] max2_int min2_int max_two min_two max_three min_three max_four min_four   -- for this text's walks alone
set_option linter.unusedVariables false
set_option linter.unusedSimpArgs false

/-! ### damperlaw2_SpecConfigs: function 3 -/
mutual
def damperlaw2_SpecConfigs.j0 : Nat → Int → Int → List Int → Bool → ByteArray → Int → Int → Int → Int → Int → Option (Bool)
  | 0, _, _, _, _, _, _, _, _, _, _ => none
  | k + 1, x3, x4, x5, x32, x187000, x187001, x187002, x187003, x187004, x187005 => if x32 = true then (some false) else (if (wi x3 6) = 0 then ((damperlaw1_Text.f k x5).bind fun t190 => (damperlaw2_SpecConfigs.j1 k t190 x187001 x187002 x187003 x187004 x187005)) else (if (wi x3 6) = 1 then ((some (([(-1), 255, 256, x4] : List Int) : List Int)).bind fun y191 => (if 0 ≤ (wi x4 4) then (if (wi x4 4) < (y191.length : Int) then (damperlaw2_SpecConfigs.j1 k x187000 (rd y191 (wi x4 4)) x187002 x187003 x187004 x187005) else (none)) else (none))) else (if (wi x3 6) = 2 then ((some (([0, 1, 8, 9, x4] : List Int) : List Int)).bind fun y195 => (if 0 ≤ (wi x4 5) then (if (wi x4 5) < (y195.length : Int) then (damperlaw2_SpecConfigs.j1 k x187000 x187001 (rd y195 (wi x4 5)) x187003 x187004 x187005) else (none)) else (none))) else (if (wi x3 6) = 3 then ((some (([0, 1, 10, 11, x187003, wrap64 (x187003 - 1), x4] : List Int) : List Int)).bind fun y199 => (if 0 ≤ (wi x4 7) then (if (wi x4 7) < (y199.length : Int) then (damperlaw2_SpecConfigs.j1 k x187000 x187001 x187002 x187003 (rd y199 (wi x4 7)) x187005) else (none)) else (none))) else (if (wi x3 6) = 4 then ((some (([(-1), 0, x187004, wrap64 (x187004 + 1), x4] : List Int) : List Int)).bind fun y203 => (if 0 ≤ (wi x4 5) then (if (wi x4 5) < (y203.length : Int) then (damperlaw2_SpecConfigs.j1 k x187000 x187001 x187002 (rd y203 (wi x4 5)) x187004 x187005) else (none)) else (none))) else (if (wi x3 6) = 5 then ((some (([(-1), 30, 31, x4] : List Int) : List Int)).bind fun y207 => (if 0 ≤ (wi x4 4) then (if (wi x4 4) < (y207.length : Int) then (damperlaw2_SpecConfigs.j1 k x187000 x187001 x187002 x187003 x187004 (rd y207 (wi x4 4))) else (none)) else (none))) else (damperlaw2_SpecConfigs.j1 k x187000 x187001 x187002 x187003 x187004 x187005)))))))
def damperlaw2_SpecConfigs.j1 : Nat → ByteArray → Int → Int → Int → Int → Int → Option (Bool)
  | 0, _, _, _, _, _, _ => none
  | k + 1, x187000, x187001, x187002, x187003, x187004, x187005 => (spec_Config.f k x187000 x187001 x187002 x187003 x187004 x187005).bind fun t211 => ((damperref2_Config.f k x187000 x187001 x187002 x187003 x187004 x187005).bind fun t212 => (some (t211 == t212)))
end
def damperlaw2_SpecConfigs.f (k : Nat) (a0_0 : ByteArray) (a0_1 : Int) (a0_2 : Int) (a0_3 : Int) (a0_4 : Int) (a0_5 : Int) (a1_0 : ByteArray) (a1_1 : Int) (a1_2 : Int) (a1_3 : Int) (a1_4 : Int) (a1_5 : Int) (a2 : Int) (a3 : Int) (a4 : Int) (l5 : List Int) : Option (Bool) := (damperlaw2_known.f k).bind fun t179 => (if t179 = true then (if (a0_0.size : Int) > 100 then (some true) else ((damperlaw2_Config.f a1_0 a1_1 a1_2 a1_3 a1_4 a1_5 a2).bind fun bt180 => ((spec_Config.f k a0_0 a0_1 a0_2 a0_3 a0_4 a0_5).bind fun t187 => ((damperref2_Config.f k a0_0 a0_1 a0_2 a0_3 a0_4 a0_5).bind fun t188 => (if t187 = t188 then ((spec_Config.f k bt180.1 bt180.2.1 bt180.2.2.1 bt180.2.2.2.1 bt180.2.2.2.2.1 bt180.2.2.2.2.2).bind fun t189 => (damperlaw2_SpecConfigs.j0 k a3 a4 l5 (t189 != 0) bt180.1 bt180.2.1 bt180.2.2.1 bt180.2.2.2.1 bt180.2.2.2.2.1 bt180.2.2.2.2.2)) else (damperlaw2_SpecConfigs.j0 k a3 a4 l5 true bt180.1 bt180.2.1 bt180.2.2.1 bt180.2.2.2.1 bt180.2.2.2.2.1 bt180.2.2.2.2.2)))))) else (some false))
theorem damperlaw2_SpecConfigs.mono_l : ∀ k, (∀ y0 y1 y2 y3 y4 y5 y6 y7 y8 y9, LeO (damperlaw2_SpecConfigs.j0 k y0 y1 y2 y3 y4 y5 y6 y7 y8 y9) (damperlaw2_SpecConfigs.j0 (k + 1) y0 y1 y2 y3 y4 y5 y6 y7 y8 y9)) ∧ (∀ y0 y1 y2 y3 y4 y5, LeO (damperlaw2_SpecConfigs.j1 k y0 y1 y2 y3 y4 y5) (damperlaw2_SpecConfigs.j1 (k + 1) y0 y1 y2 y3 y4 y5))
  | 0 => ⟨fun _ _ _ _ _ _ _ _ _ _ r h => by simp [damperlaw2_SpecConfigs.j0] at h, fun _ _ _ _ _ _ r h => by simp [damperlaw2_SpecConfigs.j1] at h⟩
  | k + 1 => by
    obtain ⟨ih0, ih1⟩ := damperlaw2_SpecConfigs.mono_l k
    refine ⟨?_, ?_⟩
    · intro y0 y1 y2 y3 y4 y5 y6 y7 y8 y9
      unfold damperlaw2_SpecConfigs.j0
      repeat' first
      | (with_reducible exact ih0 _ _ _ _ _ _ _ _ _ _)
      | (with_reducible exact ih1 _ _ _ _ _ _)
      | (with_reducible exact damperlaw1_Text.mono _ _)
      | (with_reducible exact damperlaw2_known.mono _)
      | (with_reducible exact damperref2_Config.mono _ _ _ _ _ _ _)
      | (with_reducible exact spec_Config.mono _ _ _ _ _ _ _)
      | (with_reducible exact LeO.refl _)
      | (with_reducible exact LeO.none _)
      | (with_reducible refine LeO.ite ?_ ?_)
      | (with_reducible refine LeO.bind ?_ (fun _ => ?_))
      | exact ih0 _ _ _ _ _ _ _ _ _ _
      | exact ih1 _ _ _ _ _ _
      | exact damperlaw1_Text.mono _ _
      | exact damperlaw2_known.mono _
      | exact damperref2_Config.mono _ _ _ _ _ _ _
      | exact spec_Config.mono _ _ _ _ _ _ _
      | exact LeO.none _
      | refine LeO.ite ?_ ?_
      | refine LeO.bind ?_ (fun _ => ?_)
    · intro y0 y1 y2 y3 y4 y5
      unfold damperlaw2_SpecConfigs.j1
      repeat' first
      | (with_reducible exact ih0 _ _ _ _ _ _ _ _ _ _)
      | (with_reducible exact ih1 _ _ _ _ _ _)
      | (with_reducible exact damperlaw1_Text.mono _ _)
      | (with_reducible exact damperlaw2_known.mono _)
      | (with_reducible exact damperref2_Config.mono _ _ _ _ _ _ _)
      | (with_reducible exact spec_Config.mono _ _ _ _ _ _ _)
      | (with_reducible exact LeO.refl _)
      | (with_reducible exact LeO.none _)
      | (with_reducible refine LeO.ite ?_ ?_)
      | (with_reducible refine LeO.bind ?_ (fun _ => ?_))
      | exact ih0 _ _ _ _ _ _ _ _ _ _
      | exact ih1 _ _ _ _ _ _
      | exact damperlaw1_Text.mono _ _
      | exact damperlaw2_known.mono _
      | exact damperref2_Config.mono _ _ _ _ _ _ _
      | exact spec_Config.mono _ _ _ _ _ _ _
      | exact LeO.none _
      | refine LeO.ite ?_ ?_
      | refine LeO.bind ?_ (fun _ => ?_)
theorem damperlaw2_SpecConfigs.mono : ∀ a0 a1 a2 a3 a4 a5 a6 a7 a8 a9 a10 a11 a12 a13 a14 a15 k, LeO (damperlaw2_SpecConfigs.f k a0 a1 a2 a3 a4 a5 a6 a7 a8 a9 a10 a11 a12 a13 a14 a15) (damperlaw2_SpecConfigs.f (k + 1) a0 a1 a2 a3 a4 a5 a6 a7 a8 a9 a10 a11 a12 a13 a14 a15) := by
  intro a0 a1 a2 a3 a4 a5 a6 a7 a8 a9 a10 a11 a12 a13 a14 a15 k
  obtain ⟨ih0, ih1⟩ := damperlaw2_SpecConfigs.mono_l k
  unfold damperlaw2_SpecConfigs.f
  repeat' first
      | (with_reducible exact ih0 _ _ _ _ _ _ _ _ _ _)
      | (with_reducible exact ih1 _ _ _ _ _ _)
      | (with_reducible exact damperlaw1_Text.mono _ _)
      | (with_reducible exact damperlaw2_known.mono _)
      | (with_reducible exact damperref2_Config.mono _ _ _ _ _ _ _)
      | (with_reducible exact spec_Config.mono _ _ _ _ _ _ _)
      | (with_reducible exact LeO.refl _)
      | (with_reducible exact LeO.none _)
      | (with_reducible refine LeO.ite ?_ ?_)
      | (with_reducible refine LeO.bind ?_ (fun _ => ?_))
      | exact ih0 _ _ _ _ _ _ _ _ _ _
      | exact ih1 _ _ _ _ _ _
      | exact damperlaw1_Text.mono _ _
      | exact damperlaw2_known.mono _
      | exact damperref2_Config.mono _ _ _ _ _ _ _
      | exact spec_Config.mono _ _ _ _ _ _ _
      | exact LeO.none _
      | refine LeO.ite ?_ ?_
      | refine LeO.bind ?_ (fun _ => ?_)
def damperlaw2_SpecConfigs.T6 : Bool × List (List Nat × List Nat) := (true, [([], []), ([0], [0]), ([], []), ([2, 1], [2]), ([1, 3], [1, 3]), ([4, 3], [4]), ([5], [5]), ([6, 5, 5], [5, 6]), ([7, 5], [5, 7]), ([5, 8], [5, 8])])
def damperlaw2_SpecConfigs.B6 : List Nat := [0, 1, 0, 7, 15, 31, 63, 127, 255, 511]
theorem damperlaw2_SpecConfigs.tab6 : rtab .any (opsOf Tryd.f3 6) = damperlaw2_SpecConfigs.T6 := by kernel_rfl
theorem damperlaw2_SpecConfigs.bits6 : waitsOk damperlaw2_SpecConfigs.T6.2 damperlaw2_SpecConfigs.B6 = true := by kernel_rfl
def damperlaw2_SpecConfigs.T16 : Bool × List (List Nat × List Nat) := (true, [([], []), ([0], [0]), ([], []), ([2], [2]), ([3], [3]), ([], []), ([1, 4, 5], [1, 4, 5]), ([], []), ([7], [7]), ([6, 8], [6, 8]), ([9], [9]), ([0, 1, 2, 3, 4, 5, 6, 7, 8, 9, 10], []), ([11, 10, 8, 0, 1, 2, 3, 4, 5, 6, 7, 8, 9, 10], [10, 11])])
def damperlaw2_SpecConfigs.B16 : List Nat := [0, 1, 0, 4, 12, 0, 63, 0, 128, 511, 1023, 2047, 4095]
theorem damperlaw2_SpecConfigs.tab16 : rtab .any (opsOf Tryd.f3 16) = damperlaw2_SpecConfigs.T16 := by kernel_rfl
theorem damperlaw2_SpecConfigs.bits16 : waitsOk damperlaw2_SpecConfigs.T16.2 damperlaw2_SpecConfigs.B16 = true := by kernel_rfl
def damperlaw2_SpecConfigs.T18 : Bool × List (List Nat × List Nat) := (true, [([], []), ([0], [0]), ([], []), ([2], [2]), ([3], [3]), ([], []), ([1, 4, 5], [1, 4, 5]), ([], []), ([7], [7]), ([6, 8], [6, 8]), ([9], [9]), ([0, 1, 2, 3, 4, 5, 6, 7, 8, 9, 10], []), ([11, 10, 8, 0, 1, 2, 3, 4, 5, 6, 7, 8, 9, 10], [10, 11])])
def damperlaw2_SpecConfigs.B18 : List Nat := [0, 1, 0, 4, 12, 0, 63, 0, 128, 511, 1023, 2047, 4095]
theorem damperlaw2_SpecConfigs.tab18 : rtab .any (opsOf Tryd.f3 18) = damperlaw2_SpecConfigs.T18 := by kernel_rfl
theorem damperlaw2_SpecConfigs.bits18 : waitsOk damperlaw2_SpecConfigs.T18.2 damperlaw2_SpecConfigs.B18 = true := by kernel_rfl
set_option maxHeartbeats 8000000 in
set_option maxRecDepth 100000 in
theorem damperlaw2_SpecConfigs.calls (k : Nat) (a0_0 : ByteArray) (a0_1 : Int) (a0_2 : Int) (a0_3 : Int) (a0_4 : Int) (a0_5 : Int) (a1_0 : ByteArray) (a1_1 : Int) (a1_2 : Int) (a1_3 : Int) (a1_4 : Int) (a1_5 : Int) (a2 : Int) (a3 : Int) (a4 : Int) (A5 : Option Addr) (c5 : Nat) (l5 : List Int) (r : Bool) (w : World) (hLd_ : Aside0 (LaidW w)) (hr5 : Kd.C (Kd.int .i64) w A5 l5.length l5) (hc5 : l5.length ≤ c5) (hr0_ : Aside0 (r = true)) (h : damperlaw2_SpecConfigs.f k a0_0 a0_1 a0_2 a0_3 a0_4 a0_5 a1_0 a1_1 a1_2 a1_3 a1_4 a1_5 a2 a3 a4 l5 = some r) :
    Calls Tryd.prog 3 #[.agg #[.string a0_0, .int .i64 a0_1, .int .i64 a0_2, .int .i64 a0_3, .int .i64 a0_4, .int .i64 a0_5], .agg #[.string a1_0, .int .i64 a1_1, .int .i64 a1_2, .int .i64 a1_3, .int .i64 a1_4, .int .i64 a1_5], .int .i64 a2, .int .i64 a3, .int .i64 a4, .slice A5 l5.length c5] w fun e w' => e = .returned (.bool r) ∧ Below w.heap.size w w' := by
  have hu23 := Tryd.underlying23
  have HR5 := Aside0.mk hr5
  have HC5 := Aside0.mk hc5
  clear hr5 hc5
  have HB := Aside0.mk (Below.refl w.heap.size w)
  have H : ((damperlaw2_known.f k).bind fun t179 => (if t179 = true then (if (a0_0.size : Int) > 100 then (some true) else ((damperlaw2_Config.f a1_0 a1_1 a1_2 a1_3 a1_4 a1_5 a2).bind fun bt180 => ((spec_Config.f k a0_0 a0_1 a0_2 a0_3 a0_4 a0_5).bind fun t187 => ((damperref2_Config.f k a0_0 a0_1 a0_2 a0_3 a0_4 a0_5).bind fun t188 => (if t187 = t188 then ((spec_Config.f k bt180.1 bt180.2.1 bt180.2.2.1 bt180.2.2.2.1 bt180.2.2.2.2.1 bt180.2.2.2.2.2).bind fun t189 => (damperlaw2_SpecConfigs.j0 k a3 a4 l5 (t189 != 0) bt180.1 bt180.2.1 bt180.2.2.1 bt180.2.2.2.1 bt180.2.2.2.2.1 bt180.2.2.2.2.2)) else (damperlaw2_SpecConfigs.j0 k a3 a4 l5 true bt180.1 bt180.2.1 bt180.2.2.1 bt180.2.2.2.1 bt180.2.2.2.2.1 bt180.2.2.2.2.2)))))) else (some false))) = some r := h
  clear h
  replace H := Option.bind_eq_some_iff.mp H
  obtain ⟨t179, A70, H⟩ := H
  replace H : (if t179 = true then (if (a0_0.size : Int) > 100 then (some true) else ((damperlaw2_Config.f a1_0 a1_1 a1_2 a1_3 a1_4 a1_5 a2).bind fun bt180 => ((spec_Config.f k a0_0 a0_1 a0_2 a0_3 a0_4 a0_5).bind fun t187 => ((damperref2_Config.f k a0_0 a0_1 a0_2 a0_3 a0_4 a0_5).bind fun t188 => (if t187 = t188 then ((spec_Config.f k bt180.1 bt180.2.1 bt180.2.2.1 bt180.2.2.2.1 bt180.2.2.2.2.1 bt180.2.2.2.2.2).bind fun t189 => (damperlaw2_SpecConfigs.j0 k a3 a4 l5 (t189 != 0) bt180.1 bt180.2.1 bt180.2.2.1 bt180.2.2.2.1 bt180.2.2.2.2.1 bt180.2.2.2.2.2)) else (damperlaw2_SpecConfigs.j0 k a3 a4 l5 true bt180.1 bt180.2.1 bt180.2.2.1 bt180.2.2.2.1 bt180.2.2.2.2.1 bt180.2.2.2.2.2)))))) else (some false)) = some r := H
  have A7 := Aside0.mk A70
  clear A70
  by_cases c8 : t179 = true
  · subst c8
    have H1 : (if (a0_0.size : Int) > 100 then (some true) else ((damperlaw2_Config.f a1_0 a1_1 a1_2 a1_3 a1_4 a1_5 a2).bind fun bt180 => ((spec_Config.f k a0_0 a0_1 a0_2 a0_3 a0_4 a0_5).bind fun t187 => ((damperref2_Config.f k a0_0 a0_1 a0_2 a0_3 a0_4 a0_5).bind fun t188 => (if t187 = t188 then ((spec_Config.f k bt180.1 bt180.2.1 bt180.2.2.1 bt180.2.2.2.1 bt180.2.2.2.2.1 bt180.2.2.2.2.2).bind fun t189 => (damperlaw2_SpecConfigs.j0 k a3 a4 l5 (t189 != 0) bt180.1 bt180.2.1 bt180.2.2.1 bt180.2.2.2.1 bt180.2.2.2.2.1 bt180.2.2.2.2.2)) else (damperlaw2_SpecConfigs.j0 k a3 a4 l5 true bt180.1 bt180.2.1 bt180.2.2.1 bt180.2.2.2.1 bt180.2.2.2.2.1 bt180.2.2.2.2.2)))))) = some r := by rw [if_pos rfl] at H; exact H
    clear H
    have H := H1
    clear H1
    by_cases c9 : (a0_0.size : Int) > 100
    · rw [if_pos c9] at H
      have c9b0 : decide (100 < (a0_0.size : Int)) = true := decide_eq_true c9
      have c9b1 : decide (100 < a0_0.size) = true := decide_eq_true (by omega)
      clear c9
      obtain rfl := Option.some.inj H
      go_enter Tryd.func3, Tryd.ntmps3
      go_wp2_with (first | (go_at_call 15; refine (damperlaw2_within.keep _ _ rfl (by first | decide | assumption | exact wi_ne (by assumption) | exact wi_ne' (by assumption) | omega) _).mono ?_; rintro e w' ⟨rfl, rfl⟩) | ((with_reducible refine gate_dst (N := 6) rfl ?_); refine box_event ?hg (N := 6) ?hd (cs := #[.string a0_0, .int .i64 a0_1, .int .i64 a0_2, .int .i64 a0_3, .int .i64 a0_4, .int .i64 a0_5]) (t := 23) ?hr ?_; (case hd => rfl); (case hg => rfl); (case hr => first | (go_simp; done) | (go_simp; rfl)); intro gb177 hg w10 hbox hb; have n0_ := Aside0.mk (below_step (by repeat (first | (with_reducible first | exact HB.out | apply below_alloc | apply pw_below_drewN | apply below_drew1) | exact HB.out)) hb); have n1_ := Aside0.mk (hbox); have n2_ := Aside0.mk ((by rw [hg]; exact (below_size (by repeat (first | (with_reducible first | exact HB.out | apply below_alloc | apply pw_below_drewN | apply below_drew1) | exact HB.out))) : w.heap.size ≤ gb177)); have n3_ := Aside0.mk ((by rw [hg]; exact (below_size (by repeat (first | (with_reducible first | exact HB.out | apply below_alloc | apply pw_below_drewN | apply below_drew1) | exact HB.out))) : w.heap.size ≤ gb177)); clear HB; have HB := n0_; have BK177 := n1_; have GW177 := n2_; have GE177 := n3_; clear n0_ n1_ n2_ n3_; clear hb hbox hg) | ((with_reducible refine gate_dst (N := 7) rfl ?_); refine box_event ?hg (N := 7) ?hd (cs := #[.string a1_0, .int .i64 a1_1, .int .i64 a1_2, .int .i64 a1_3, .int .i64 a1_4, .int .i64 a1_5]) (t := 23) ?hr ?_; (case hd => rfl); (case hg => rfl); (case hr => first | (go_simp; done) | (go_simp; rfl)); intro gb178 hg w11 hbox hb; have n0_ := Aside0.mk (blk_below (g := gb177) (pk BK177) hb); have n1_ := Aside0.mk (below_step (by repeat (first | (with_reducible first | exact HB.out | apply below_alloc | apply pw_below_drewN | apply below_drew1 | refine below_set ?_ GE177.out) | exact HB.out)) hb); have n2_ := Aside0.mk (hbox); have n3_ := Aside0.mk ((by rw [hg]; exact (below_size (by repeat (first | (with_reducible first | exact HB.out | apply below_alloc | apply pw_below_drewN | apply below_drew1 | refine below_set ?_ GE177.out) | exact HB.out))) : w.heap.size ≤ gb178)); have n4_ := Aside0.mk ((by rw [hg]; exact (below_size (by repeat (first | (with_reducible first | exact HB.out | apply below_alloc | apply pw_below_drewN | apply below_drew1 | refine below_set ?_ GE177.out) | exact HB.out))) : w.heap.size ≤ gb178)); have n5_ := Aside0.mk ((ne_lt hg (pk BK177) : gb177 ≠ gb178)); have n6_ := Aside0.mk ((ne_gt hg (pk BK177) : gb178 ≠ gb177)); clear BK177; clear HB; have BK177 := n0_; have HB := n1_; have BK178 := n2_; have GW178 := n3_; have GE178 := n4_; have NB177_178 := n5_; have NB178_177 := n6_; clear n0_ n1_ n2_ n3_ n4_ n5_ n6_; clear hb hbox hg) | ((with_reducible refine gate_callee (f := 11) rfl ?_); refine goesL_ (some 14) rfl rfl Tryd.func11 (by kernel_rfl) rfl #[] rfl (by (try simp only [List.map_toArray, List.map_cons, List.map_nil]); first | done | rfl | (simp only [List.length_drop, List.length_take]; rfl)) ?_; (with_reducible refine (damperlaw2_known.calls k  true _ ?side1 A7.out).mono ?_); (case side1 => first | exact hLd_.out | exact hLd_ | exact ⟨LaidW.below hLd_.out (by repeat (first | (with_reducible first | exact HB.out | apply below_alloc | apply pw_below_drewN | apply below_drew1 | refine below_set ?_ GE177.out | refine below_set ?_ GE178.out) | exact HB.out))⟩ | exact ⟨LaidW.below hLd_.out (by repeat (first | exact Below.refl _ _ | apply below_alloc | apply pw_below_drewN | apply below_drew1))⟩); rintro e w12 ⟨rfl, hb⟩; refine ⟨_, rfl, ?_⟩; have n0_ := Aside0.mk (blk_below (g := gb177) (pk BK177) hb); have n1_ := Aside0.mk (blk_below (g := gb178) (pk BK178) hb); have n2_ := Aside0.mk (below_step (by repeat (first | (with_reducible first | exact HB.out | apply below_alloc | apply pw_below_drewN | apply below_drew1 | refine below_set ?_ GE177.out | refine below_set ?_ GE178.out) | exact HB.out)) hb); clear BK177; clear BK178; clear HB; have BK177 := n0_; have BK178 := n1_; have HB := n2_; clear n0_ n1_ n2_; (try clear hb); (try clear hb2); (try clear hk); (try clear hi); have hnb13 := NB177_178.out; have hnc13 := NB178_177.out; have hcz14_0 : w12.cell? ⟨gb177, 0, none⟩ = some (.string a0_0) := bc BK177 0; have hcz14_1 : w12.cell? ⟨gb177, 1, none⟩ = some (.int .i64 a0_1) := bc BK177 1; have hcz14_2 : w12.cell? ⟨gb177, 2, none⟩ = some (.int .i64 a0_2) := bc BK177 2; have hcz14_3 : w12.cell? ⟨gb177, 3, none⟩ = some (.int .i64 a0_3) := bc BK177 3; have hcz14_4 : w12.cell? ⟨gb177, 4, none⟩ = some (.int .i64 a0_4) := bc BK177 4; have hcz14_5 : w12.cell? ⟨gb177, 5, none⟩ = some (.int .i64 a0_5) := bc BK177 5; have hfz14_0 := blk_frozen BK177.out 0; have hfz14_1 := blk_frozen BK177.out 1; have hfz14_2 := blk_frozen BK177.out 2; have hfz14_3 := blk_frozen BK177.out 3; have hfz14_4 := blk_frozen BK177.out 4; have hfz14_5 := blk_frozen BK177.out 5))
      go_ret
      exact ⟨by first | rfl | (simp [errW_none, errW_some] <;> rfl) | (simp [*, errW_none, errW_some] <;> rfl), by repeat (first | (with_reducible first | exact HB.out | apply below_alloc | apply pw_below_drewN | apply below_drew1 | refine below_set ?_ GE177.out | refine below_set ?_ GE178.out) | exact HB.out)⟩
    · rw [if_neg c9] at H
      have c9b0 : decide (100 < (a0_0.size : Int)) = false := decide_eq_false c9
      have c9b1 : decide (100 < a0_0.size) = false := decide_eq_false (by omega)
      clear c9
      replace H := Option.bind_eq_some_iff.mp H
      obtain ⟨⟨t180, t181, t182, t183, t184, t185⟩, A150, H⟩ := H
      replace H : ((spec_Config.f k a0_0 a0_1 a0_2 a0_3 a0_4 a0_5).bind fun t187 => ((damperref2_Config.f k a0_0 a0_1 a0_2 a0_3 a0_4 a0_5).bind fun t188 => (if t187 = t188 then ((spec_Config.f k t180 t181 t182 t183 t184 t185).bind fun t189 => (damperlaw2_SpecConfigs.j0 k a3 a4 l5 (t189 != 0) t180 t181 t182 t183 t184 t185)) else (damperlaw2_SpecConfigs.j0 k a3 a4 l5 true t180 t181 t182 t183 t184 t185)))) = some r := H
      have A15 := Aside0.mk A150
      clear A150
      have HC16 := Aside0.mk H
      clear H
      go_enter Tryd.func3, Tryd.ntmps3
      go_upto_region 6 with (first | (go_at_call 15; refine (damperlaw2_within.keep _ _ rfl (by first | decide | assumption | exact wi_ne (by assumption) | exact wi_ne' (by assumption) | omega) _).mono ?_; rintro e w' ⟨rfl, rfl⟩) | ((with_reducible refine gate_dst (N := 6) rfl ?_); refine box_event ?hg (N := 6) ?hd (cs := #[.string a0_0, .int .i64 a0_1, .int .i64 a0_2, .int .i64 a0_3, .int .i64 a0_4, .int .i64 a0_5]) (t := 23) ?hr ?_; (case hd => rfl); (case hg => rfl); (case hr => first | (go_simp; done) | (go_simp; rfl)); intro gb177 hg w17 hbox hb; have n0_ := Aside0.mk (below_step (by repeat (first | (with_reducible first | exact HB.out | apply below_alloc | apply pw_below_drewN | apply below_drew1) | exact HB.out)) hb); have n1_ := Aside0.mk (hbox); have n2_ := Aside0.mk ((by rw [hg]; exact (below_size (by repeat (first | (with_reducible first | exact HB.out | apply below_alloc | apply pw_below_drewN | apply below_drew1) | exact HB.out))) : w.heap.size ≤ gb177)); have n3_ := Aside0.mk ((by rw [hg]; exact (below_size (by repeat (first | (with_reducible first | exact HB.out | apply below_alloc | apply pw_below_drewN | apply below_drew1) | exact HB.out))) : w.heap.size ≤ gb177)); clear HB; have HB := n0_; have BK177 := n1_; have GW177 := n2_; have GE177 := n3_; clear n0_ n1_ n2_ n3_; clear hb hbox hg) | ((with_reducible refine gate_dst (N := 7) rfl ?_); refine box_event ?hg (N := 7) ?hd (cs := #[.string a1_0, .int .i64 a1_1, .int .i64 a1_2, .int .i64 a1_3, .int .i64 a1_4, .int .i64 a1_5]) (t := 23) ?hr ?_; (case hd => rfl); (case hg => rfl); (case hr => first | (go_simp; done) | (go_simp; rfl)); intro gb178 hg w18 hbox hb; have n0_ := Aside0.mk (blk_below (g := gb177) (pk BK177) hb); have n1_ := Aside0.mk (below_step (by repeat (first | (with_reducible first | exact HB.out | apply below_alloc | apply pw_below_drewN | apply below_drew1 | refine below_set ?_ GE177.out) | exact HB.out)) hb); have n2_ := Aside0.mk (hbox); have n3_ := Aside0.mk ((by rw [hg]; exact (below_size (by repeat (first | (with_reducible first | exact HB.out | apply below_alloc | apply pw_below_drewN | apply below_drew1 | refine below_set ?_ GE177.out) | exact HB.out))) : w.heap.size ≤ gb178)); have n4_ := Aside0.mk ((by rw [hg]; exact (below_size (by repeat (first | (with_reducible first | exact HB.out | apply below_alloc | apply pw_below_drewN | apply below_drew1 | refine below_set ?_ GE177.out) | exact HB.out))) : w.heap.size ≤ gb178)); have n5_ := Aside0.mk ((ne_lt hg (pk BK177) : gb177 ≠ gb178)); have n6_ := Aside0.mk ((ne_gt hg (pk BK177) : gb178 ≠ gb177)); clear BK177; clear HB; have BK177 := n0_; have HB := n1_; have BK178 := n2_; have GW178 := n3_; have GE178 := n4_; have NB177_178 := n5_; have NB178_177 := n6_; clear n0_ n1_ n2_ n3_ n4_ n5_ n6_; clear hb hbox hg) | ((with_reducible refine gate_callee (f := 11) rfl ?_); refine goesL_ (some 14) rfl rfl Tryd.func11 (by kernel_rfl) rfl #[] rfl (by (try simp only [List.map_toArray, List.map_cons, List.map_nil]); first | done | rfl | (simp only [List.length_drop, List.length_take]; rfl)) ?_; (with_reducible refine (damperlaw2_known.calls k  true _ ?side1 A7.out).mono ?_); (case side1 => first | exact hLd_.out | exact hLd_ | exact ⟨LaidW.below hLd_.out (by repeat (first | (with_reducible first | exact HB.out | apply below_alloc | apply pw_below_drewN | apply below_drew1 | refine below_set ?_ GE177.out | refine below_set ?_ GE178.out) | exact HB.out))⟩ | exact ⟨LaidW.below hLd_.out (by repeat (first | exact Below.refl _ _ | apply below_alloc | apply pw_below_drewN | apply below_drew1))⟩); rintro e w19 ⟨rfl, hb⟩; refine ⟨_, rfl, ?_⟩; have n0_ := Aside0.mk (blk_below (g := gb177) (pk BK177) hb); have n1_ := Aside0.mk (blk_below (g := gb178) (pk BK178) hb); have n2_ := Aside0.mk (below_step (by repeat (first | (with_reducible first | exact HB.out | apply below_alloc | apply pw_below_drewN | apply below_drew1 | refine below_set ?_ GE177.out | refine below_set ?_ GE178.out) | exact HB.out)) hb); clear BK177; clear BK178; clear HB; have BK177 := n0_; have BK178 := n1_; have HB := n2_; clear n0_ n1_ n2_; (try clear hb); (try clear hb2); (try clear hk); (try clear hi); have hnb20 := NB177_178.out; have hnc20 := NB178_177.out; have hcz21_0 : w19.cell? ⟨gb177, 0, none⟩ = some (.string a0_0) := bc BK177 0; have hcz21_1 : w19.cell? ⟨gb177, 1, none⟩ = some (.int .i64 a0_1) := bc BK177 1; have hcz21_2 : w19.cell? ⟨gb177, 2, none⟩ = some (.int .i64 a0_2) := bc BK177 2; have hcz21_3 : w19.cell? ⟨gb177, 3, none⟩ = some (.int .i64 a0_3) := bc BK177 3; have hcz21_4 : w19.cell? ⟨gb177, 4, none⟩ = some (.int .i64 a0_4) := bc BK177 4; have hcz21_5 : w19.cell? ⟨gb177, 5, none⟩ = some (.int .i64 a0_5) := bc BK177 5; have hfz21_0 := blk_frozen BK177.out 0; have hfz21_1 := blk_frozen BK177.out 1; have hfz21_2 := blk_frozen BK177.out 2; have hfz21_3 := blk_frozen BK177.out 3; have hfz21_4 := blk_frozen BK177.out 4; have hfz21_5 := blk_frozen BK177.out 5; have hcz22_0 : w19.cell? ⟨gb178, 0, none⟩ = some (.string a1_0) := bc BK178 0; have hcz22_1 : w19.cell? ⟨gb178, 1, none⟩ = some (.int .i64 a1_1) := bc BK178 1; have hcz22_2 : w19.cell? ⟨gb178, 2, none⟩ = some (.int .i64 a1_2) := bc BK178 2; have hcz22_3 : w19.cell? ⟨gb178, 3, none⟩ = some (.int .i64 a1_3) := bc BK178 3; have hcz22_4 : w19.cell? ⟨gb178, 4, none⟩ = some (.int .i64 a1_4) := bc BK178 4; have hcz22_5 : w19.cell? ⟨gb178, 5, none⟩ = some (.int .i64 a1_5) := bc BK178 5; have hfz22_0 := blk_frozen BK178.out 0; have hfz22_1 := blk_frozen BK178.out 1; have hfz22_2 := blk_frozen BK178.out 2; have hfz22_3 := blk_frozen BK178.out 3; have hfz22_4 := blk_frozen BK178.out 4; have hfz22_5 := blk_frozen BK178.out 5) | ((with_reducible refine gate_callee (f := 12) rfl ?_); refine goesL_ (some 22) rfl rfl Tryd.func12 (by kernel_rfl) rfl #[.agg #[.string a1_0, .int .i64 a1_1, .int .i64 a1_2, .int .i64 a1_3, .int .i64 a1_4, .int .i64 a1_5], .int .i64 a2] rfl (by (try simp only [List.map_toArray, List.map_cons, List.map_nil]); first | done | rfl | (simp only [List.length_drop, List.length_take]; rfl)) ?_; (with_reducible refine (damperlaw2_Config.calls a1_0 a1_1 a1_2 a1_3 a1_4 a1_5 a2 t180 t181 t182 t183 t184 t185 _ A15.out).mono ?_); rintro e w23 ⟨rfl, hb⟩; refine ⟨_, rfl, ?_⟩; have n0_ := Aside0.mk (blk_below (g := gb177) (pk BK177) hb); have n1_ := Aside0.mk (blk_below (g := gb178) (pk BK178) hb); have n2_ := Aside0.mk (below_step (by repeat (first | (with_reducible first | exact HB.out | apply below_alloc | apply pw_below_drewN | apply below_drew1 | refine below_set ?_ GE177.out | refine below_set ?_ GE178.out) | exact HB.out)) hb); clear BK177; clear BK178; clear HB; have BK177 := n0_; have BK178 := n1_; have HB := n2_; clear n0_ n1_ n2_; (try clear hb); (try clear hb2); (try clear hk); (try clear hi)) | ((with_reducible refine gate_dst (N := 13) rfl ?_); refine box_event ?hg (N := 13) ?hd (cs := #[.string (⟨#[]⟩ : ByteArray), .int .i64 0, .int .i64 0, .int .i64 0, .int .i64 0, .int .i64 0]) (t := 23) ?hr ?_; (case hd => rfl); (case hg => rfl); (case hr => first | (go_simp; done) | (go_simp; rfl)); intro gb186 hg w24 hbox hb; have n0_ := Aside0.mk (blk_below (g := gb177) (pk BK177) hb); have n1_ := Aside0.mk (blk_below (g := gb178) (pk BK178) hb); have n2_ := Aside0.mk (below_step (by repeat (first | (with_reducible first | exact HB.out | apply below_alloc | apply pw_below_drewN | apply below_drew1 | refine below_set ?_ GE177.out | refine below_set ?_ GE178.out) | exact HB.out)) hb); have n3_ := Aside0.mk (hbox); have n4_ := Aside0.mk ((by rw [hg]; exact (below_size (by repeat (first | (with_reducible first | exact HB.out | apply below_alloc | apply pw_below_drewN | apply below_drew1 | refine below_set ?_ GE177.out | refine below_set ?_ GE178.out) | exact HB.out))) : w.heap.size ≤ gb186)); have n5_ := Aside0.mk ((by rw [hg]; exact (below_size (by repeat (first | (with_reducible first | exact HB.out | apply below_alloc | apply pw_below_drewN | apply below_drew1 | refine below_set ?_ GE177.out | refine below_set ?_ GE178.out) | exact HB.out))) : w.heap.size ≤ gb186)); have n6_ := Aside0.mk ((ne_lt hg (pk BK177) : gb177 ≠ gb186)); have n7_ := Aside0.mk ((ne_gt hg (pk BK177) : gb186 ≠ gb177)); have n8_ := Aside0.mk ((ne_lt hg (pk BK178) : gb178 ≠ gb186)); have n9_ := Aside0.mk ((ne_gt hg (pk BK178) : gb186 ≠ gb178)); clear BK177; clear BK178; clear HB; have BK177 := n0_; have BK178 := n1_; have HB := n2_; have BK186 := n3_; have GW186 := n4_; have GE186 := n5_; have NB177_186 := n6_; have NB186_177 := n7_; have NB178_186 := n8_; have NB186_178 := n9_; clear n0_ n1_ n2_ n3_ n4_ n5_ n6_ n7_ n8_ n9_; clear hb hbox hg; have hnb25 := NB186_177.out; have hnc25 := NB177_186.out; have hnb26 := NB186_178.out; have hnc26 := NB178_186.out; have hcz27_0 : w24.cell? ⟨gb186, 0, none⟩ = some (.string (⟨#[]⟩ : ByteArray)) := bc BK186 0; have hcz27_1 : w24.cell? ⟨gb186, 1, none⟩ = some (.int .i64 0) := bc BK186 1; have hcz27_2 : w24.cell? ⟨gb186, 2, none⟩ = some (.int .i64 0) := bc BK186 2; have hcz27_3 : w24.cell? ⟨gb186, 3, none⟩ = some (.int .i64 0) := bc BK186 3; have hcz27_4 : w24.cell? ⟨gb186, 4, none⟩ = some (.int .i64 0) := bc BK186 4; have hcz27_5 : w24.cell? ⟨gb186, 5, none⟩ = some (.int .i64 0) := bc BK186 5; have hfz27_0 := blk_frozen BK186.out 0; have hfz27_1 := blk_frozen BK186.out 1; have hfz27_2 := blk_frozen BK186.out 2; have hfz27_3 := blk_frozen BK186.out 3; have hfz27_4 := blk_frozen BK186.out 4; have hfz27_5 := blk_frozen BK186.out 5))
      (try simp only [Act.put, List.setIfInBounds_toArray, List.set_cons_zero, List.set_cons_succ])
      go_cut [32] (fun v32 wc => ∃ (kq : Nat) (x32_15 : Bool), v32 = .bool x32_15 ∧ Aside0 (damperlaw2_SpecConfigs.j0 kq a3 a4 l5 x32_15 t180 t181 t182 t183 t184 t185 = some r) ∧ Aside0 (kq ≤ k) ∧ Aside0 (wc.heap[gb177]? = some (.cells #[.string a0_0, .int .i64 a0_1, .int .i64 a0_2, .int .i64 a0_3, .int .i64 a0_4, .int .i64 a0_5] 23 (0, 0))) ∧ Aside0 (wc.heap[gb178]? = some (.cells #[.string a1_0, .int .i64 a1_1, .int .i64 a1_2, .int .i64 a1_3, .int .i64 a1_4, .int .i64 a1_5] 23 (0, 0))) ∧ Aside0 (wc.heap[gb186]? = some (.cells #[.string t180, .int .i64 t181, .int .i64 t182, .int .i64 t183, .int .i64 t184, .int .i64 t185] 23 (0, 0))) ∧ Aside0 (Below w.heap.size w wc))
      case first =>
        have H := HC16.out
        clear HC16
        replace H := Option.bind_eq_some_iff.mp H
        obtain ⟨t187, A280, H⟩ := H
        replace H : ((damperref2_Config.f k a0_0 a0_1 a0_2 a0_3 a0_4 a0_5).bind fun t188 => (if t187 = t188 then ((spec_Config.f k t180 t181 t182 t183 t184 t185).bind fun t189 => (damperlaw2_SpecConfigs.j0 k a3 a4 l5 (t189 != 0) t180 t181 t182 t183 t184 t185)) else (damperlaw2_SpecConfigs.j0 k a3 a4 l5 true t180 t181 t182 t183 t184 t185))) = some r := H
        have A28 := Aside0.mk A280
        clear A280
        replace H := Option.bind_eq_some_iff.mp H
        obtain ⟨t188, A290, H⟩ := H
        replace H : (if t187 = t188 then ((spec_Config.f k t180 t181 t182 t183 t184 t185).bind fun t189 => (damperlaw2_SpecConfigs.j0 k a3 a4 l5 (t189 != 0) t180 t181 t182 t183 t184 t185)) else (damperlaw2_SpecConfigs.j0 k a3 a4 l5 true t180 t181 t182 t183 t184 t185)) = some r := H
        have A29 := Aside0.mk A290
        clear A290
        by_cases c30 : t187 = t188
        · rw [if_pos c30] at H
          have c30b0 : (t187 == t188) = true := beq_iff_eq.mpr c30
          have c30b1 : (t187 != t188) = false := bne_eq_false_iff_eq.mpr c30
          clear c30
          (first | rw [c30b0] | (simp only [i64_w, i32_w]; rw [c30b0]) | rw [c30b1] | skip)
          replace H := Option.bind_eq_some_iff.mp H
          obtain ⟨t189, A310, H⟩ := H
          replace H : (damperlaw2_SpecConfigs.j0 k a3 a4 l5 (t189 != 0) t180 t181 t182 t183 t184 t185) = some r := H
          have A31 := Aside0.mk A310
          clear A310
          have H' := Aside0.mk H
          clear H
          try go_wp2_with (first | (go_at_call 15; refine (damperlaw2_within.keep _ _ rfl (by first | decide | assumption | exact wi_ne (by assumption) | exact wi_ne' (by assumption) | omega) _).mono ?_; rintro e w' ⟨rfl, rfl⟩))
          have n0_ : Aside0 (((((((w24.setCell ⟨gb186, 0, none⟩ (.string t180)).setCell ⟨gb186, 1, none⟩ (.int .i64 t181)).setCell ⟨gb186, 2, none⟩ (.int .i64 t182)).setCell ⟨gb186, 3, none⟩ (.int .i64 t183)).setCell ⟨gb186, 4, none⟩ (.int .i64 t184)).setCell ⟨gb186, 5, none⟩ (.int .i64 t185)).heap[gb177]? = some (.cells #[.string a0_0, .int .i64 a0_1, .int .i64 a0_2, .int .i64 a0_3, .int .i64 a0_4, .int .i64 a0_5] 23 (0, 0))) := ⟨by (repeat ((with_reducible repeat (first | refine blk_drewN ?_ _ | refine blk_drew ?_ | refine blk_alloc ?_ _)); with_reducible refine blk_far ?_ NB177_186.out _)); (with_reducible repeat (first | refine blk_drewN ?_ _ | refine blk_drew ?_ | refine blk_alloc ?_ _)); exact BK177.out⟩
          have n1_ : Aside0 (((((((w24.setCell ⟨gb186, 0, none⟩ (.string t180)).setCell ⟨gb186, 1, none⟩ (.int .i64 t181)).setCell ⟨gb186, 2, none⟩ (.int .i64 t182)).setCell ⟨gb186, 3, none⟩ (.int .i64 t183)).setCell ⟨gb186, 4, none⟩ (.int .i64 t184)).setCell ⟨gb186, 5, none⟩ (.int .i64 t185)).heap[gb178]? = some (.cells #[.string a1_0, .int .i64 a1_1, .int .i64 a1_2, .int .i64 a1_3, .int .i64 a1_4, .int .i64 a1_5] 23 (0, 0))) := ⟨by (repeat ((with_reducible repeat (first | refine blk_drewN ?_ _ | refine blk_drew ?_ | refine blk_alloc ?_ _)); with_reducible refine blk_far ?_ NB178_186.out _)); (with_reducible repeat (first | refine blk_drewN ?_ _ | refine blk_drew ?_ | refine blk_alloc ?_ _)); exact BK178.out⟩
          have n2_ : Aside0 (((((((w24.setCell ⟨gb186, 0, none⟩ (.string t180)).setCell ⟨gb186, 1, none⟩ (.int .i64 t181)).setCell ⟨gb186, 2, none⟩ (.int .i64 t182)).setCell ⟨gb186, 3, none⟩ (.int .i64 t183)).setCell ⟨gb186, 4, none⟩ (.int .i64 t184)).setCell ⟨gb186, 5, none⟩ (.int .i64 t185)).heap[gb186]? = some (.cells #[.string t180, .int .i64 t181, .int .i64 t182, .int .i64 t183, .int .i64 t184, .int .i64 t185] 23 (0, 0))) := ⟨by (with_reducible repeat (first | refine blk_drewN ?_ _ | refine blk_drew ?_ | refine blk_alloc ?_ _)); refine blk_put (cs := #[.string t180, .int .i64 t181, .int .i64 t182, .int .i64 t183, .int .i64 t184, .int .i64 0]) ?_ 5 _ rfl; (with_reducible repeat (first | refine blk_drewN ?_ _ | refine blk_drew ?_ | refine blk_alloc ?_ _)); refine blk_put (cs := #[.string t180, .int .i64 t181, .int .i64 t182, .int .i64 t183, .int .i64 0, .int .i64 0]) ?_ 4 _ rfl; (with_reducible repeat (first | refine blk_drewN ?_ _ | refine blk_drew ?_ | refine blk_alloc ?_ _)); refine blk_put (cs := #[.string t180, .int .i64 t181, .int .i64 t182, .int .i64 0, .int .i64 0, .int .i64 0]) ?_ 3 _ rfl; (with_reducible repeat (first | refine blk_drewN ?_ _ | refine blk_drew ?_ | refine blk_alloc ?_ _)); refine blk_put (cs := #[.string t180, .int .i64 t181, .int .i64 0, .int .i64 0, .int .i64 0, .int .i64 0]) ?_ 2 _ rfl; (with_reducible repeat (first | refine blk_drewN ?_ _ | refine blk_drew ?_ | refine blk_alloc ?_ _)); refine blk_put (cs := #[.string t180, .int .i64 0, .int .i64 0, .int .i64 0, .int .i64 0, .int .i64 0]) ?_ 1 _ rfl; (with_reducible repeat (first | refine blk_drewN ?_ _ | refine blk_drew ?_ | refine blk_alloc ?_ _)); refine blk_put (cs := #[.string (⟨#[]⟩ : ByteArray), .int .i64 0, .int .i64 0, .int .i64 0, .int .i64 0, .int .i64 0]) ?_ 0 _ rfl; (with_reducible repeat (first | refine blk_drewN ?_ _ | refine blk_drew ?_ | refine blk_alloc ?_ _)); exact BK186.out⟩
          have n3_ : Aside0 (Below w.heap.size w ((((((w24.setCell ⟨gb186, 0, none⟩ (.string t180)).setCell ⟨gb186, 1, none⟩ (.int .i64 t181)).setCell ⟨gb186, 2, none⟩ (.int .i64 t182)).setCell ⟨gb186, 3, none⟩ (.int .i64 t183)).setCell ⟨gb186, 4, none⟩ (.int .i64 t184)).setCell ⟨gb186, 5, none⟩ (.int .i64 t185))) := ⟨by repeat (first | (with_reducible first | exact HB.out | apply below_alloc | apply pw_below_drewN | apply below_drew1 | refine below_set ?_ GE177.out | refine below_set ?_ GE178.out | refine below_set ?_ GE186.out) | exact HB.out)⟩
          (try clear BK177)
          (try clear BK178)
          (try clear BK186)
          (try clear HB)
          (repeat rw [setCell_drewN_])
          (repeat rw [World.drewN_drewN])
          generalize ((((((w24.setCell ⟨gb186, 0, none⟩ (.string t180)).setCell ⟨gb186, 1, none⟩ (.int .i64 t181)).setCell ⟨gb186, 2, none⟩ (.int .i64 t182)).setCell ⟨gb186, 3, none⟩ (.int .i64 t183)).setCell ⟨gb186, 4, none⟩ (.int .i64 t184)).setCell ⟨gb186, 5, none⟩ (.int .i64 t185)) = w32 at n0_ n1_ n2_ n3_ ⊢
          have BK177 := n0_
          have BK178 := n1_
          have BK186 := n2_
          have HB := n3_
          clear n0_ n1_ n2_ n3_
          replace BK177 := Aside0.mk (blk_drew BK177.out)
          replace BK178 := Aside0.mk (blk_drew BK178.out)
          replace BK186 := Aside0.mk (blk_drew BK186.out)
          replace HB := Aside0.mk (below_drew1 HB.out)
          refine start_ (n := 10) (S := fun w' => w'.cell? ⟨gb177, 0, none⟩ = some (.string a0_0) ∧ w'.cell? ⟨gb177, 1, none⟩ = some (.int .i64 a0_1) ∧ w'.cell? ⟨gb177, 2, none⟩ = some (.int .i64 a0_2) ∧ w'.cell? ⟨gb177, 3, none⟩ = some (.int .i64 a0_3) ∧ w'.cell? ⟨gb177, 4, none⟩ = some (.int .i64 a0_4) ∧ w'.cell? ⟨gb177, 5, none⟩ = some (.int .i64 a0_5) ∧ w'.cell? ⟨gb186, 0, none⟩ = some (.string t180) ∧ w'.cell? ⟨gb186, 1, none⟩ = some (.int .i64 t181) ∧ w'.cell? ⟨gb186, 2, none⟩ = some (.int .i64 t182) ∧ w'.cell? ⟨gb186, 3, none⟩ = some (.int .i64 t183) ∧ w'.cell? ⟨gb186, 4, none⟩ = some (.int .i64 t184) ∧ w'.cell? ⟨gb186, 5, none⟩ = some (.int .i64 t185)) (ds := []) #[false, false, false, false, false, false, false, false, false, false] (by kernel_rfl) rfl rfl ⟨bc BK177 0, bc BK177 1, bc BK177 2, bc BK177 3, bc BK177 4, bc BK177 5, bc BK186 0, bc BK186 1, bc BK186 2, bc BK186 3, bc BK186 4, bc BK186 5⟩ (fun hHeld => ?_); refine with_tabW damperlaw2_SpecConfigs.tab6 damperlaw2_SpecConfigs.bits6 (fun HT_ HW_ => ?_)
          generalize w32.drew = w33 at BK177 BK178 BK186 HB hHeld ⊢
          refine take_ (i := 0) (N := some 23) (v := ?_) (a' := ?_) #[true, false, false, false, false, false, false, false, false, false] rfl rfl (take_ofW HT_.out HW_.out (by kernel_rfl)) (fun _ _ _ h => h) (Or.inl ⟨by rfl, ?_⟩) hHeld ?_ ?_
          rotate_left
          · rintro w' ⟨s0, s1, s2, s3, s4, s5, s6, s7, s8, s9, s10, s11⟩
            go_simp
            with_reducible rfl
          rotate_left
          · simp only [Act.put, List.setIfInBounds_toArray, List.set_cons_zero, List.set_cons_succ, i64_w, i32_w]
            rfl
          refine take_ (i := 2) (N := some 25) (v := ?_) (a' := ?_) #[true, false, true, false, false, false, false, false, false, false] rfl rfl (take_ofW HT_.out HW_.out (by kernel_rfl)) (fun _ _ _ h => h) (Or.inl ⟨by rfl, ?_⟩) hHeld ?_ ?_
          rotate_left
          · rintro w' ⟨s0, s1, s2, s3, s4, s5, s6, s7, s8, s9, s10, s11⟩
            go_simp
            with_reducible rfl
          rotate_left
          · simp only [Act.put, List.setIfInBounds_toArray, List.set_cons_zero, List.set_cons_succ, i64_w, i32_w]
            rfl
          refine one_ (i := 1) (N := some 24) #[true, true, true, false, false, false, false, false, false, false] rfl rfl (one_of HT_.out (by kernel_rfl)) (by decide) (fun K hK => ?_)
          refine goes_ Tryd.func13 (by kernel_rfl) rfl #[.agg #[.string a0_0, .int .i64 a0_1, .int .i64 a0_2, .int .i64 a0_3, .int .i64 a0_4, .int .i64 a0_5]] (by rfl) rfl rfl (by (try simp only [List.map_toArray, List.map_cons, List.map_nil]); first | done | rfl | (simp only [List.length_drop, List.length_take]; rfl)) ?_
          with_reducible refine (spec_Config.calls k a0_0 a0_1 a0_2 a0_3 a0_4 a0_5 t187 _ A28.out).mono ?_
          rintro e w34 ⟨rfl, hb⟩
          refine ⟨_, rfl, ?_⟩
          replace BK177 := Aside0.mk (blk_below (g := gb177) (pk BK177) hb)
          replace BK178 := Aside0.mk (blk_below (g := gb178) (pk BK178) hb)
          replace BK186 := Aside0.mk (blk_below (g := gb186) (pk BK186) hb)
          replace HB := Aside0.mk (below_step (by repeat (first | (with_reducible first | exact HB.out | apply below_alloc | apply pw_below_drewN | apply below_drew1 | refine below_set ?_ GE177.out | refine below_set ?_ GE178.out | refine below_set ?_ GE186.out) | exact HB.out)) hb)
          (try clear hb)
          (try clear hb2)
          (try clear hk)
          (try clear hi)
          refine hK.out _ _ ⟨bc BK177 0, bc BK177 1, bc BK177 2, bc BK177 3, bc BK177 4, bc BK177 5, bc BK186 0, bc BK186 1, bc BK186 2, bc BK186 3, bc BK186 4, bc BK186 5⟩ (fun hHeld => ?_)
          clear hK K
          refine norm_ (a' := ?_) ?_ ?_
          rotate_left
          · show Act.put _ (some 24) _ = _
            simp only [Act.put, List.setIfInBounds_toArray, List.set_cons_zero, List.set_cons_succ, i64_w, i32_w]
            rfl
          refine one_ (i := 3) (N := some 26) #[true, true, true, true, false, false, false, false, false, false] rfl rfl (one_of HT_.out (by kernel_rfl)) (by decide) (fun K hK => ?_)
          refine goes_ Tryd.func14 (by kernel_rfl) rfl #[.agg #[.string a0_0, .int .i64 a0_1, .int .i64 a0_2, .int .i64 a0_3, .int .i64 a0_4, .int .i64 a0_5]] (by rfl) rfl rfl (by (try simp only [List.map_toArray, List.map_cons, List.map_nil]); first | done | rfl | (simp only [List.length_drop, List.length_take]; rfl)) ?_
          with_reducible refine (damperref2_Config.calls k a0_0 a0_1 a0_2 a0_3 a0_4 a0_5 t188 _ A29.out).mono ?_
          rintro e w35 ⟨rfl, hb⟩
          refine ⟨_, rfl, ?_⟩
          replace BK177 := Aside0.mk (blk_below (g := gb177) (pk BK177) hb)
          replace BK178 := Aside0.mk (blk_below (g := gb178) (pk BK178) hb)
          replace BK186 := Aside0.mk (blk_below (g := gb186) (pk BK186) hb)
          replace HB := Aside0.mk (below_step (by repeat (first | (with_reducible first | exact HB.out | apply below_alloc | apply pw_below_drewN | apply below_drew1 | refine below_set ?_ GE177.out | refine below_set ?_ GE178.out | refine below_set ?_ GE186.out) | exact HB.out)) hb)
          (try clear hb)
          (try clear hb2)
          (try clear hk)
          (try clear hi)
          refine hK.out _ _ ⟨bc BK177 0, bc BK177 1, bc BK177 2, bc BK177 3, bc BK177 4, bc BK177 5, bc BK186 0, bc BK186 1, bc BK186 2, bc BK186 3, bc BK186 4, bc BK186 5⟩ (fun hHeld => ?_)
          clear hK K
          refine norm_ (a' := ?_) ?_ ?_
          rotate_left
          · show Act.put _ (some 26) _ = _
            simp only [Act.put, List.setIfInBounds_toArray, List.set_cons_zero, List.set_cons_succ, i64_w, i32_w]
            rfl
          refine pure_ (i := 4) (N := some 27) (v := ?_) (a' := ?_) #[true, true, true, true, true, false, false, false, false, false] rfl rfl (any_of HT_.out (by kernel_rfl)) (fun _ _ _ h => h) (Or.inl ⟨by rfl, ?_⟩) ?_ ?_
          rotate_left
          · intro w'
            go_simp
            with_reducible rfl
          rotate_left
          · simp only [Act.put, List.setIfInBounds_toArray, List.set_cons_zero, List.set_cons_succ, i64_w, i32_w]
            rfl
          refine pure_ (i := 5) (N := some 28) (v := ?_) (a' := ?_) #[true, true, true, true, true, true, false, false, false, false] rfl rfl (any_of HT_.out (by kernel_rfl)) (fun _ _ _ h => h) (Or.inl ⟨by rfl, ?_⟩) ?_ ?_
          rotate_left
          · intro w'
            go_simp
            with_reducible rfl
          rotate_left
          · simp only [Act.put, List.setIfInBounds_toArray, List.set_cons_zero, List.set_cons_succ, i64_w, i32_w]
            rfl
          refine take_ (i := 6) (N := some 29) (v := ?_) (a' := ?_) #[true, true, true, true, true, true, true, false, false, false] rfl rfl (take_ofW HT_.out HW_.out (by kernel_rfl)) (fun _ _ _ h => h) (Or.inl ⟨by rfl, ?_⟩) hHeld ?_ ?_
          rotate_left
          · rintro w' ⟨s0, s1, s2, s3, s4, s5, s6, s7, s8, s9, s10, s11⟩
            go_simp
            with_reducible rfl
          rotate_left
          · simp only [Act.put, List.setIfInBounds_toArray, List.set_cons_zero, List.set_cons_succ, i64_w, i32_w]
            rfl
          refine one_ (i := 7) (N := some 30) #[true, true, true, true, true, true, true, true, false, false] rfl rfl (one_of HT_.out (by kernel_rfl)) (by decide) (fun K hK => ?_)
          refine goes_ Tryd.func13 (by kernel_rfl) rfl #[.agg #[.string t180, .int .i64 t181, .int .i64 t182, .int .i64 t183, .int .i64 t184, .int .i64 t185]] (by rfl) rfl rfl (by (try simp only [List.map_toArray, List.map_cons, List.map_nil]); first | done | rfl | (simp only [List.length_drop, List.length_take]; rfl)) ?_
          with_reducible refine (spec_Config.calls k t180 t181 t182 t183 t184 t185 t189 _ A31.out).mono ?_
          rintro e w36 ⟨rfl, hb⟩
          refine ⟨_, rfl, ?_⟩
          replace BK177 := Aside0.mk (blk_below (g := gb177) (pk BK177) hb)
          replace BK178 := Aside0.mk (blk_below (g := gb178) (pk BK178) hb)
          replace BK186 := Aside0.mk (blk_below (g := gb186) (pk BK186) hb)
          replace HB := Aside0.mk (below_step (by repeat (first | (with_reducible first | exact HB.out | apply below_alloc | apply pw_below_drewN | apply below_drew1 | refine below_set ?_ GE177.out | refine below_set ?_ GE178.out | refine below_set ?_ GE186.out) | exact HB.out)) hb)
          (try clear hb)
          (try clear hb2)
          (try clear hk)
          (try clear hi)
          refine hK.out _ _ ⟨bc BK177 0, bc BK177 1, bc BK177 2, bc BK177 3, bc BK177 4, bc BK177 5, bc BK186 0, bc BK186 1, bc BK186 2, bc BK186 3, bc BK186 4, bc BK186 5⟩ (fun hHeld => ?_)
          clear hK K
          refine norm_ (a' := ?_) ?_ ?_
          rotate_left
          · show Act.put _ (some 30) _ = _
            simp only [Act.put, List.setIfInBounds_toArray, List.set_cons_zero, List.set_cons_succ, i64_w, i32_w]
            rfl
          refine pure_ (i := 8) (N := some 31) (v := ?_) (a' := ?_) #[true, true, true, true, true, true, true, true, true, false] rfl rfl (any_of HT_.out (by kernel_rfl)) (fun _ _ _ h => h) (Or.inl ⟨by rfl, ?_⟩) ?_ ?_
          rotate_left
          · intro w'
            go_simp
            with_reducible rfl
          rotate_left
          · simp only [Act.put, List.setIfInBounds_toArray, List.set_cons_zero, List.set_cons_succ, i64_w, i32_w]
            rfl
          refine pure_ (i := 9) (N := some 32) (v := ?_) (a' := ?_) #[true, true, true, true, true, true, true, true, true, true] rfl rfl (any_of HT_.out (by kernel_rfl)) (fun _ _ _ h => h) (Or.inl ⟨by rfl, ?_⟩) ?_ ?_
          rotate_left
          · intro w'
            go_simp
            with_reducible rfl
          rotate_left
          · simp only [Act.put, List.setIfInBounds_toArray, List.set_cons_zero, List.set_cons_succ, i64_w, i32_w]
            rfl
          refine done_ (done_of HT_.out (by kernel_rfl)) ?_
          try go_wp2_with (first | (go_at_call 15; refine (damperlaw2_within.keep _ _ rfl (by first | decide | assumption | exact wi_ne (by assumption) | exact wi_ne' (by assumption) | omega) _).mono ?_; rintro e w' ⟨rfl, rfl⟩))
          go_meet
          case rel => exact ⟨_, ((t189 != 0)), (by first | rfl | (simp; done) | (simp [*]; done)), H', ⟨by first | omega | exact Nat.le_refl _⟩, ⟨by (with_reducible repeat (first | refine blk_drewN ?_ _ | refine blk_drew ?_ | refine blk_alloc ?_ _)); exact BK177.out⟩, ⟨by (with_reducible repeat (first | refine blk_drewN ?_ _ | refine blk_drew ?_ | refine blk_alloc ?_ _)); exact BK178.out⟩, ⟨by (with_reducible repeat (first | refine blk_drewN ?_ _ | refine blk_drew ?_ | refine blk_alloc ?_ _)); exact BK186.out⟩, ⟨by repeat (first | (with_reducible first | exact HB.out | apply below_alloc | apply pw_below_drewN | apply below_drew1 | refine below_set ?_ GE177.out | refine below_set ?_ GE178.out | refine below_set ?_ GE186.out) | exact HB.out)⟩⟩
        · rw [if_neg c30] at H
          have c30b0 : (t187 == t188) = false := beq_eq_false_iff_ne.mpr c30
          have c30b1 : (t187 != t188) = true := bne_iff_ne.mpr c30
          (first | rw [c30b0] | (simp only [i64_w, i32_w]; rw [c30b0]) | rw [c30b1] | skip)
          have H' := Aside0.mk H
          clear H
          try go_wp2_with (first | (go_at_call 15; refine (damperlaw2_within.keep _ _ rfl (by first | decide | assumption | exact wi_ne (by assumption) | exact wi_ne' (by assumption) | omega) _).mono ?_; rintro e w' ⟨rfl, rfl⟩))
          have n0_ : Aside0 (((((((w24.setCell ⟨gb186, 0, none⟩ (.string t180)).setCell ⟨gb186, 1, none⟩ (.int .i64 t181)).setCell ⟨gb186, 2, none⟩ (.int .i64 t182)).setCell ⟨gb186, 3, none⟩ (.int .i64 t183)).setCell ⟨gb186, 4, none⟩ (.int .i64 t184)).setCell ⟨gb186, 5, none⟩ (.int .i64 t185)).heap[gb177]? = some (.cells #[.string a0_0, .int .i64 a0_1, .int .i64 a0_2, .int .i64 a0_3, .int .i64 a0_4, .int .i64 a0_5] 23 (0, 0))) := ⟨by (repeat ((with_reducible repeat (first | refine blk_drewN ?_ _ | refine blk_drew ?_ | refine blk_alloc ?_ _)); with_reducible refine blk_far ?_ NB177_186.out _)); (with_reducible repeat (first | refine blk_drewN ?_ _ | refine blk_drew ?_ | refine blk_alloc ?_ _)); exact BK177.out⟩
          have n1_ : Aside0 (((((((w24.setCell ⟨gb186, 0, none⟩ (.string t180)).setCell ⟨gb186, 1, none⟩ (.int .i64 t181)).setCell ⟨gb186, 2, none⟩ (.int .i64 t182)).setCell ⟨gb186, 3, none⟩ (.int .i64 t183)).setCell ⟨gb186, 4, none⟩ (.int .i64 t184)).setCell ⟨gb186, 5, none⟩ (.int .i64 t185)).heap[gb178]? = some (.cells #[.string a1_0, .int .i64 a1_1, .int .i64 a1_2, .int .i64 a1_3, .int .i64 a1_4, .int .i64 a1_5] 23 (0, 0))) := ⟨by (repeat ((with_reducible repeat (first | refine blk_drewN ?_ _ | refine blk_drew ?_ | refine blk_alloc ?_ _)); with_reducible refine blk_far ?_ NB178_186.out _)); (with_reducible repeat (first | refine blk_drewN ?_ _ | refine blk_drew ?_ | refine blk_alloc ?_ _)); exact BK178.out⟩
          have n2_ : Aside0 (((((((w24.setCell ⟨gb186, 0, none⟩ (.string t180)).setCell ⟨gb186, 1, none⟩ (.int .i64 t181)).setCell ⟨gb186, 2, none⟩ (.int .i64 t182)).setCell ⟨gb186, 3, none⟩ (.int .i64 t183)).setCell ⟨gb186, 4, none⟩ (.int .i64 t184)).setCell ⟨gb186, 5, none⟩ (.int .i64 t185)).heap[gb186]? = some (.cells #[.string t180, .int .i64 t181, .int .i64 t182, .int .i64 t183, .int .i64 t184, .int .i64 t185] 23 (0, 0))) := ⟨by (with_reducible repeat (first | refine blk_drewN ?_ _ | refine blk_drew ?_ | refine blk_alloc ?_ _)); refine blk_put (cs := #[.string t180, .int .i64 t181, .int .i64 t182, .int .i64 t183, .int .i64 t184, .int .i64 0]) ?_ 5 _ rfl; (with_reducible repeat (first | refine blk_drewN ?_ _ | refine blk_drew ?_ | refine blk_alloc ?_ _)); refine blk_put (cs := #[.string t180, .int .i64 t181, .int .i64 t182, .int .i64 t183, .int .i64 0, .int .i64 0]) ?_ 4 _ rfl; (with_reducible repeat (first | refine blk_drewN ?_ _ | refine blk_drew ?_ | refine blk_alloc ?_ _)); refine blk_put (cs := #[.string t180, .int .i64 t181, .int .i64 t182, .int .i64 0, .int .i64 0, .int .i64 0]) ?_ 3 _ rfl; (with_reducible repeat (first | refine blk_drewN ?_ _ | refine blk_drew ?_ | refine blk_alloc ?_ _)); refine blk_put (cs := #[.string t180, .int .i64 t181, .int .i64 0, .int .i64 0, .int .i64 0, .int .i64 0]) ?_ 2 _ rfl; (with_reducible repeat (first | refine blk_drewN ?_ _ | refine blk_drew ?_ | refine blk_alloc ?_ _)); refine blk_put (cs := #[.string t180, .int .i64 0, .int .i64 0, .int .i64 0, .int .i64 0, .int .i64 0]) ?_ 1 _ rfl; (with_reducible repeat (first | refine blk_drewN ?_ _ | refine blk_drew ?_ | refine blk_alloc ?_ _)); refine blk_put (cs := #[.string (⟨#[]⟩ : ByteArray), .int .i64 0, .int .i64 0, .int .i64 0, .int .i64 0, .int .i64 0]) ?_ 0 _ rfl; (with_reducible repeat (first | refine blk_drewN ?_ _ | refine blk_drew ?_ | refine blk_alloc ?_ _)); exact BK186.out⟩
          have n3_ : Aside0 (Below w.heap.size w ((((((w24.setCell ⟨gb186, 0, none⟩ (.string t180)).setCell ⟨gb186, 1, none⟩ (.int .i64 t181)).setCell ⟨gb186, 2, none⟩ (.int .i64 t182)).setCell ⟨gb186, 3, none⟩ (.int .i64 t183)).setCell ⟨gb186, 4, none⟩ (.int .i64 t184)).setCell ⟨gb186, 5, none⟩ (.int .i64 t185))) := ⟨by repeat (first | (with_reducible first | exact HB.out | apply below_alloc | apply pw_below_drewN | apply below_drew1 | refine below_set ?_ GE177.out | refine below_set ?_ GE178.out | refine below_set ?_ GE186.out) | exact HB.out)⟩
          (try clear BK177)
          (try clear BK178)
          (try clear BK186)
          (try clear HB)
          (repeat rw [setCell_drewN_])
          (repeat rw [World.drewN_drewN])
          generalize ((((((w24.setCell ⟨gb186, 0, none⟩ (.string t180)).setCell ⟨gb186, 1, none⟩ (.int .i64 t181)).setCell ⟨gb186, 2, none⟩ (.int .i64 t182)).setCell ⟨gb186, 3, none⟩ (.int .i64 t183)).setCell ⟨gb186, 4, none⟩ (.int .i64 t184)).setCell ⟨gb186, 5, none⟩ (.int .i64 t185)) = w37 at n0_ n1_ n2_ n3_ ⊢
          have BK177 := n0_
          have BK178 := n1_
          have BK186 := n2_
          have HB := n3_
          clear n0_ n1_ n2_ n3_
          replace BK177 := Aside0.mk (blk_drew BK177.out)
          replace BK178 := Aside0.mk (blk_drew BK178.out)
          replace BK186 := Aside0.mk (blk_drew BK186.out)
          replace HB := Aside0.mk (below_drew1 HB.out)
          refine start_ (n := 10) (S := fun w' => w'.cell? ⟨gb177, 0, none⟩ = some (.string a0_0) ∧ w'.cell? ⟨gb177, 1, none⟩ = some (.int .i64 a0_1) ∧ w'.cell? ⟨gb177, 2, none⟩ = some (.int .i64 a0_2) ∧ w'.cell? ⟨gb177, 3, none⟩ = some (.int .i64 a0_3) ∧ w'.cell? ⟨gb177, 4, none⟩ = some (.int .i64 a0_4) ∧ w'.cell? ⟨gb177, 5, none⟩ = some (.int .i64 a0_5)) (ds := []) #[false, false, false, false, false, false, false, false, false, false] (by kernel_rfl) rfl rfl ⟨bc BK177 0, bc BK177 1, bc BK177 2, bc BK177 3, bc BK177 4, bc BK177 5⟩ (fun hHeld => ?_); refine with_tabW damperlaw2_SpecConfigs.tab6 damperlaw2_SpecConfigs.bits6 (fun HT_ HW_ => ?_)
          generalize w37.drew = w38 at BK177 BK178 BK186 HB hHeld ⊢
          refine take_ (i := 0) (N := some 23) (v := ?_) (a' := ?_) #[true, false, false, false, false, false, false, false, false, false] rfl rfl (take_ofW HT_.out HW_.out (by kernel_rfl)) (fun _ _ _ h => h) (Or.inl ⟨by rfl, ?_⟩) hHeld ?_ ?_
          rotate_left
          · rintro w' ⟨s0, s1, s2, s3, s4, s5⟩
            go_simp
            with_reducible rfl
          rotate_left
          · simp only [Act.put, List.setIfInBounds_toArray, List.set_cons_zero, List.set_cons_succ, i64_w, i32_w]
            rfl
          refine take_ (i := 2) (N := some 25) (v := ?_) (a' := ?_) #[true, false, true, false, false, false, false, false, false, false] rfl rfl (take_ofW HT_.out HW_.out (by kernel_rfl)) (fun _ _ _ h => h) (Or.inl ⟨by rfl, ?_⟩) hHeld ?_ ?_
          rotate_left
          · rintro w' ⟨s0, s1, s2, s3, s4, s5⟩
            go_simp
            with_reducible rfl
          rotate_left
          · simp only [Act.put, List.setIfInBounds_toArray, List.set_cons_zero, List.set_cons_succ, i64_w, i32_w]
            rfl
          refine one_ (i := 1) (N := some 24) #[true, true, true, false, false, false, false, false, false, false] rfl rfl (one_of HT_.out (by kernel_rfl)) (by decide) (fun K hK => ?_)
          refine goes_ Tryd.func13 (by kernel_rfl) rfl #[.agg #[.string a0_0, .int .i64 a0_1, .int .i64 a0_2, .int .i64 a0_3, .int .i64 a0_4, .int .i64 a0_5]] (by rfl) rfl rfl (by (try simp only [List.map_toArray, List.map_cons, List.map_nil]); first | done | rfl | (simp only [List.length_drop, List.length_take]; rfl)) ?_
          with_reducible refine (spec_Config.calls k a0_0 a0_1 a0_2 a0_3 a0_4 a0_5 t187 _ A28.out).mono ?_
          rintro e w39 ⟨rfl, hb⟩
          refine ⟨_, rfl, ?_⟩
          replace BK177 := Aside0.mk (blk_below (g := gb177) (pk BK177) hb)
          replace BK178 := Aside0.mk (blk_below (g := gb178) (pk BK178) hb)
          replace BK186 := Aside0.mk (blk_below (g := gb186) (pk BK186) hb)
          replace HB := Aside0.mk (below_step (by repeat (first | (with_reducible first | exact HB.out | apply below_alloc | apply pw_below_drewN | apply below_drew1 | refine below_set ?_ GE177.out | refine below_set ?_ GE178.out | refine below_set ?_ GE186.out) | exact HB.out)) hb)
          (try clear hb)
          (try clear hb2)
          (try clear hk)
          (try clear hi)
          refine hK.out _ _ ⟨bc BK177 0, bc BK177 1, bc BK177 2, bc BK177 3, bc BK177 4, bc BK177 5⟩ (fun hHeld => ?_)
          clear hK K
          refine norm_ (a' := ?_) ?_ ?_
          rotate_left
          · show Act.put _ (some 24) _ = _
            simp only [Act.put, List.setIfInBounds_toArray, List.set_cons_zero, List.set_cons_succ, i64_w, i32_w]
            rfl
          refine one_ (i := 3) (N := some 26) #[true, true, true, true, false, false, false, false, false, false] rfl rfl (one_of HT_.out (by kernel_rfl)) (by decide) (fun K hK => ?_)
          refine goes_ Tryd.func14 (by kernel_rfl) rfl #[.agg #[.string a0_0, .int .i64 a0_1, .int .i64 a0_2, .int .i64 a0_3, .int .i64 a0_4, .int .i64 a0_5]] (by rfl) rfl rfl (by (try simp only [List.map_toArray, List.map_cons, List.map_nil]); first | done | rfl | (simp only [List.length_drop, List.length_take]; rfl)) ?_
          with_reducible refine (damperref2_Config.calls k a0_0 a0_1 a0_2 a0_3 a0_4 a0_5 t188 _ A29.out).mono ?_
          rintro e w40 ⟨rfl, hb⟩
          refine ⟨_, rfl, ?_⟩
          replace BK177 := Aside0.mk (blk_below (g := gb177) (pk BK177) hb)
          replace BK178 := Aside0.mk (blk_below (g := gb178) (pk BK178) hb)
          replace BK186 := Aside0.mk (blk_below (g := gb186) (pk BK186) hb)
          replace HB := Aside0.mk (below_step (by repeat (first | (with_reducible first | exact HB.out | apply below_alloc | apply pw_below_drewN | apply below_drew1 | refine below_set ?_ GE177.out | refine below_set ?_ GE178.out | refine below_set ?_ GE186.out) | exact HB.out)) hb)
          (try clear hb)
          (try clear hb2)
          (try clear hk)
          (try clear hi)
          refine hK.out _ _ ⟨bc BK177 0, bc BK177 1, bc BK177 2, bc BK177 3, bc BK177 4, bc BK177 5⟩ (fun hHeld => ?_)
          clear hK K
          refine norm_ (a' := ?_) ?_ ?_
          rotate_left
          · show Act.put _ (some 26) _ = _
            simp only [Act.put, List.setIfInBounds_toArray, List.set_cons_zero, List.set_cons_succ, i64_w, i32_w]
            rfl
          refine pure_ (i := 4) (N := some 27) (v := ?_) (a' := ?_) #[true, true, true, true, true, false, false, false, false, false] rfl rfl (any_of HT_.out (by kernel_rfl)) (fun _ _ _ h => h) (Or.inl ⟨by rfl, ?_⟩) ?_ ?_
          rotate_left
          · intro w'
            go_simp
            with_reducible rfl
          rotate_left
          · simp only [Act.put, List.setIfInBounds_toArray, List.set_cons_zero, List.set_cons_succ, i64_w, i32_w]
            rfl
          refine pure_ (i := 5) (N := some 28) (v := ?_) (a' := ?_) #[true, true, true, true, true, true, false, false, false, false] rfl rfl (any_of HT_.out (by kernel_rfl)) (fun _ _ _ h => h) (Or.inl ⟨by rfl, ?_⟩) ?_ ?_
          rotate_left
          · intro w'
            go_simp
            with_reducible rfl
          rotate_left
          · simp only [Act.put, List.setIfInBounds_toArray, List.set_cons_zero, List.set_cons_succ, i64_w, i32_w]
            rfl
          refine pure_ (i := 6) (N := some 29) (v := undef) (a' := ?_) #[true, true, true, true, true, true, true, false, false, false] rfl rfl (any_of HT_.out (by kernel_rfl)) (fun _ _ _ h => h) (Or.inr ⟨by rfl, rfl⟩) ?_ ?_
          rotate_left
          · simp only [Act.put, List.setIfInBounds_toArray, List.set_cons_zero, List.set_cons_succ, i64_w, i32_w]
            rfl
          refine pure_ (i := 7) (N := some 30) (v := undef) (a' := ?_) #[true, true, true, true, true, true, true, true, false, false] rfl rfl (any_of HT_.out (by kernel_rfl)) (fun _ _ _ h => h) (Or.inr ⟨by rfl, rfl⟩) ?_ ?_
          rotate_left
          · simp only [Act.put, List.setIfInBounds_toArray, List.set_cons_zero, List.set_cons_succ, i64_w, i32_w]
            rfl
          refine pure_ (i := 8) (N := some 31) (v := undef) (a' := ?_) #[true, true, true, true, true, true, true, true, true, false] rfl rfl (any_of HT_.out (by kernel_rfl)) (fun _ _ _ h => h) (Or.inr ⟨by rfl, rfl⟩) ?_ ?_
          rotate_left
          · simp only [Act.put, List.setIfInBounds_toArray, List.set_cons_zero, List.set_cons_succ, i64_w, i32_w]
            rfl
          refine pure_ (i := 9) (N := some 32) (v := ?_) (a' := ?_) #[true, true, true, true, true, true, true, true, true, true] rfl rfl (any_of HT_.out (by kernel_rfl)) (fun _ _ _ h => h) (Or.inl ⟨by rfl, ?_⟩) ?_ ?_
          rotate_left
          · intro w'
            go_simp
            with_reducible rfl
          rotate_left
          · simp only [Act.put, List.setIfInBounds_toArray, List.set_cons_zero, List.set_cons_succ, i64_w, i32_w]
            rfl
          refine done_ (done_of HT_.out (by kernel_rfl)) ?_
          try go_wp2_with (first | (go_at_call 15; refine (damperlaw2_within.keep _ _ rfl (by first | decide | assumption | exact wi_ne (by assumption) | exact wi_ne' (by assumption) | omega) _).mono ?_; rintro e w' ⟨rfl, rfl⟩))
          go_meet
          case rel => exact ⟨_, (true), (by first | rfl | (simp; done) | (simp [*]; done)), H', ⟨by first | omega | exact Nat.le_refl _⟩, ⟨by (with_reducible repeat (first | refine blk_drewN ?_ _ | refine blk_drew ?_ | refine blk_alloc ?_ _)); exact BK177.out⟩, ⟨by (with_reducible repeat (first | refine blk_drewN ?_ _ | refine blk_drew ?_ | refine blk_alloc ?_ _)); exact BK178.out⟩, ⟨by (with_reducible repeat (first | refine blk_drewN ?_ _ | refine blk_drew ?_ | refine blk_alloc ?_ _)); exact BK186.out⟩, ⟨by repeat (first | (with_reducible first | exact HB.out | apply below_alloc | apply pw_below_drewN | apply below_drew1 | refine below_set ?_ GE177.out | refine below_set ?_ GE178.out | refine below_set ?_ GE186.out) | exact HB.out)⟩⟩
      case rest =>
        clear HC16
        try clear c1
        try clear c2
        try clear p2
        try clear c3
        try clear c5
        try clear c8
        try clear c9
        try clear c9b0
        try clear c9b1
        try clear c11
        try clear c12
        try clear c13
        try clear c14
        try clear c20
        try clear c25
        try clear c26
        try clear c30
        try clear c30b0
        try clear c30b1
        try clear hcz14_0
        try clear hcz14_1
        try clear hcz14_2
        try clear hcz14_3
        try clear hcz14_4
        try clear hcz14_5
        try clear hcz21_0
        try clear hcz21_1
        try clear hcz21_2
        try clear hcz21_3
        try clear hcz21_4
        try clear hcz21_5
        try clear hcz22_0
        try clear hcz22_1
        try clear hcz22_2
        try clear hcz22_3
        try clear hcz22_4
        try clear hcz22_5
        try clear hcz27_0
        try clear hcz27_1
        try clear hcz27_2
        try clear hcz27_3
        try clear hcz27_4
        try clear hcz27_5
        try clear hfz14_0
        try clear hfz14_1
        try clear hfz14_2
        try clear hfz14_3
        try clear hfz14_4
        try clear hfz14_5
        try clear hfz21_0
        try clear hfz21_1
        try clear hfz21_2
        try clear hfz21_3
        try clear hfz21_4
        try clear hfz21_5
        try clear hfz22_0
        try clear hfz22_1
        try clear hfz22_2
        try clear hfz22_3
        try clear hfz22_4
        try clear hfz22_5
        try clear hfz27_0
        try clear hfz27_1
        try clear hfz27_2
        try clear hfz27_3
        try clear hfz27_4
        try clear hfz27_5
        obtain ⟨kq, x32_15, rfl, HA, HJ15, BK177, BK178, BK186, HB⟩ := hcut
        cases kq with
        | zero => exact absurd HA.out (by simp [damperlaw2_SpecConfigs.j0])
        | succ kj15 =>
          have H := HA.out
          clear HA
          simp only [damperlaw2_SpecConfigs.j0] at H
          by_cases c41 : x32_15 = true
          · subst c41
            have H1 : (some false) = some r := by rw [if_pos rfl] at H; exact H
            clear H
            have H := H1
            clear H1
            exact absurd (Option.some.inj H) (by rw [hr0_.out]; decide)
          · replace c41 := Bool.eq_false_iff.mpr c41
            subst c41
            have H1 : (if (wi a3 6) = 0 then ((damperlaw1_Text.f kj15 l5).bind fun t190 => (damperlaw2_SpecConfigs.j1 kj15 t190 t181 t182 t183 t184 t185)) else (if (wi a3 6) = 1 then ((some (([(-1), 255, 256, a4] : List Int) : List Int)).bind fun y191 => (if 0 ≤ (wi a4 4) then (if (wi a4 4) < (y191.length : Int) then (damperlaw2_SpecConfigs.j1 kj15 t180 (rd y191 (wi a4 4)) t182 t183 t184 t185) else (none)) else (none))) else (if (wi a3 6) = 2 then ((some (([0, 1, 8, 9, a4] : List Int) : List Int)).bind fun y195 => (if 0 ≤ (wi a4 5) then (if (wi a4 5) < (y195.length : Int) then (damperlaw2_SpecConfigs.j1 kj15 t180 t181 (rd y195 (wi a4 5)) t183 t184 t185) else (none)) else (none))) else (if (wi a3 6) = 3 then ((some (([0, 1, 10, 11, t183, wrap64 (t183 - 1), a4] : List Int) : List Int)).bind fun y199 => (if 0 ≤ (wi a4 7) then (if (wi a4 7) < (y199.length : Int) then (damperlaw2_SpecConfigs.j1 kj15 t180 t181 t182 t183 (rd y199 (wi a4 7)) t185) else (none)) else (none))) else (if (wi a3 6) = 4 then ((some (([(-1), 0, t184, wrap64 (t184 + 1), a4] : List Int) : List Int)).bind fun y203 => (if 0 ≤ (wi a4 5) then (if (wi a4 5) < (y203.length : Int) then (damperlaw2_SpecConfigs.j1 kj15 t180 t181 t182 (rd y203 (wi a4 5)) t184 t185) else (none)) else (none))) else (if (wi a3 6) = 5 then ((some (([(-1), 30, 31, a4] : List Int) : List Int)).bind fun y207 => (if 0 ≤ (wi a4 4) then (if (wi a4 4) < (y207.length : Int) then (damperlaw2_SpecConfigs.j1 kj15 t180 t181 t182 t183 t184 (rd y207 (wi a4 4))) else (none)) else (none))) else (damperlaw2_SpecConfigs.j1 kj15 t180 t181 t182 t183 t184 t185))))))) = some r := by rw [if_neg (show ¬ (false = true) by decide)] at H; exact H
            clear H
            have H := H1
            clear H1
            obtain ⟨ji42, hji42⟩ : ∃ j_ : Int, (wi a3 6) = j_ := ⟨_, rfl⟩
            replace H : (if (ji42) = 0 then ((damperlaw1_Text.f kj15 l5).bind fun t190 => (damperlaw2_SpecConfigs.j1 kj15 t190 t181 t182 t183 t184 t185)) else (if (ji42) = 1 then ((some (([(-1), 255, 256, a4] : List Int) : List Int)).bind fun y191 => (if 0 ≤ (wi a4 4) then (if (wi a4 4) < (y191.length : Int) then (damperlaw2_SpecConfigs.j1 kj15 t180 (rd y191 (wi a4 4)) t182 t183 t184 t185) else (none)) else (none))) else (if (ji42) = 2 then ((some (([0, 1, 8, 9, a4] : List Int) : List Int)).bind fun y195 => (if 0 ≤ (wi a4 5) then (if (wi a4 5) < (y195.length : Int) then (damperlaw2_SpecConfigs.j1 kj15 t180 t181 (rd y195 (wi a4 5)) t183 t184 t185) else (none)) else (none))) else (if (ji42) = 3 then ((some (([0, 1, 10, 11, t183, wrap64 (t183 - 1), a4] : List Int) : List Int)).bind fun y199 => (if 0 ≤ (wi a4 7) then (if (wi a4 7) < (y199.length : Int) then (damperlaw2_SpecConfigs.j1 kj15 t180 t181 t182 t183 (rd y199 (wi a4 7)) t185) else (none)) else (none))) else (if (ji42) = 4 then ((some (([(-1), 0, t184, wrap64 (t184 + 1), a4] : List Int) : List Int)).bind fun y203 => (if 0 ≤ (wi a4 5) then (if (wi a4 5) < (y203.length : Int) then (damperlaw2_SpecConfigs.j1 kj15 t180 t181 t182 (rd y203 (wi a4 5)) t184 t185) else (none)) else (none))) else (if (ji42) = 5 then ((some (([(-1), 30, 31, a4] : List Int) : List Int)).bind fun y207 => (if 0 ≤ (wi a4 4) then (if (wi a4 4) < (y207.length : Int) then (damperlaw2_SpecConfigs.j1 kj15 t180 t181 t182 t183 t184 (rd y207 (wi a4 4))) else (none)) else (none))) else (damperlaw2_SpecConfigs.j1 kj15 t180 t181 t182 t183 t184 t185))))))) = some r := by first | (rw [hji42] at H; exact H) | (simp only [hji42] at H ⊢; exact H)
            have HC43 := Aside0.mk H
            clear H
            go_upto_block 0 with (first | (go_at_call 15; refine (damperlaw2_within.keep _ _ rfl (by first | decide | assumption | exact wi_ne (by assumption) | exact wi_ne' (by assumption) | omega) _).mono ?_; rintro e w' ⟨rfl, rfl⟩))
            go_cut [] (fun wc => ∃ (kq : Nat) (x187000_42 : ByteArray) (x187001_42 : Int) (x187002_42 : Int) (x187003_42 : Int) (x187004_42 : Int) (x187005_42 : Int), Aside0 (damperlaw2_SpecConfigs.j1 kq x187000_42 x187001_42 x187002_42 x187003_42 x187004_42 x187005_42 = some r) ∧ Aside0 (kq ≤ kj15) ∧ Aside0 (wc.heap[gb177]? = some (.cells #[.string a0_0, .int .i64 a0_1, .int .i64 a0_2, .int .i64 a0_3, .int .i64 a0_4, .int .i64 a0_5] 23 (0, 0))) ∧ Aside0 (wc.heap[gb178]? = some (.cells #[.string a1_0, .int .i64 a1_1, .int .i64 a1_2, .int .i64 a1_3, .int .i64 a1_4, .int .i64 a1_5] 23 (0, 0))) ∧ Aside0 (wc.heap[gb186]? = some (.cells #[.string x187000_42, .int .i64 x187001_42, .int .i64 x187002_42, .int .i64 x187003_42, .int .i64 x187004_42, .int .i64 x187005_42] 23 (0, 0))) ∧ Aside0 (Below w.heap.size w wc))
            case first =>
              have H := HC43.out
              clear HC43
              by_cases c44 : (ji42) = 0
              · rw [if_pos c44] at H
                have c44b0 : ((ji42) == 0) = true := beq_iff_eq.mpr c44
                have c44b1 : ((ji42) != 0) = false := bne_eq_false_iff_eq.mpr c44
                clear c44
                (first | rw [c44b0] | (simp only [i64_w, i32_w]; rw [c44b0]) | rw [c44b1] | skip)
                replace H := Option.bind_eq_some_iff.mp H
                obtain ⟨t190, A450, H⟩ := H
                replace H : (damperlaw2_SpecConfigs.j1 kj15 t190 t181 t182 t183 t184 t185) = some r := H
                have A45 := Aside0.mk A450
                clear A450
                have H' := Aside0.mk H
                clear H
                go_wp2_with (first | (go_at_call 15; refine (damperlaw2_within.keep _ _ rfl (by first | decide | assumption | exact wi_ne (by assumption) | exact wi_ne' (by assumption) | omega) _).mono ?_; rintro e w' ⟨rfl, rfl⟩) | ((with_reducible refine gate_callee (f := 16) rfl ?_); refine goesL_ (some 38) rfl rfl Tryd.func16 (by kernel_rfl) rfl #[.slice A5 l5.length c5] rfl (by (try simp only [List.map_toArray, List.map_cons, List.map_nil]); first | done | rfl | (simp only [List.length_drop, List.length_take]; rfl)) ?_; (with_reducible refine (damperlaw1_Text.calls kj15 _ _ l5 t190 _ ?side1 ?side2 A45.out).mono ?_); (case side1 => repeat (first | exact (Kd.C_below HR5.out HB.out) | (with_reducible refine Kd.C_alloc ?_ _) | (with_reducible refine Kd.C_drewN ?_ _) | (with_reducible refine Kd.C_drew ?_))); (case side2 => exact HC5.out); rintro e w46 ⟨rfl, hb⟩; refine ⟨_, rfl, ?_⟩; have n0_ := Aside0.mk (blk_below (g := gb177) (pk BK177) hb); have n1_ := Aside0.mk (blk_below (g := gb178) (pk BK178) hb); have n2_ := Aside0.mk (blk_below (g := gb186) (pk BK186) hb); have n3_ := Aside0.mk (below_step (by repeat (first | (with_reducible first | exact HB.out | apply below_alloc | apply pw_below_drewN | apply below_drew1 | refine below_set ?_ GE177.out | refine below_set ?_ GE178.out | refine below_set ?_ GE186.out) | exact HB.out)) hb); clear BK177; clear BK178; clear BK186; clear HB; have BK177 := n0_; have BK178 := n1_; have BK186 := n2_; have HB := n3_; clear n0_ n1_ n2_ n3_; (try clear hb); (try clear hb2); (try clear hk); (try clear hi); have hnb47 := NB186_177.out; have hnc47 := NB177_186.out; have hnb48 := NB186_178.out; have hnc48 := NB178_186.out; have hcz49_0 : w46.cell? ⟨gb186, 0, none⟩ = some (.string t180) := bc BK186 0; have hcz49_1 : w46.cell? ⟨gb186, 1, none⟩ = some (.int .i64 t181) := bc BK186 1; have hcz49_2 : w46.cell? ⟨gb186, 2, none⟩ = some (.int .i64 t182) := bc BK186 2; have hcz49_3 : w46.cell? ⟨gb186, 3, none⟩ = some (.int .i64 t183) := bc BK186 3; have hcz49_4 : w46.cell? ⟨gb186, 4, none⟩ = some (.int .i64 t184) := bc BK186 4; have hcz49_5 : w46.cell? ⟨gb186, 5, none⟩ = some (.int .i64 t185) := bc BK186 5; have hfz49_0 := blk_frozen BK186.out 0; have hfz49_1 := blk_frozen BK186.out 1; have hfz49_2 := blk_frozen BK186.out 2; have hfz49_3 := blk_frozen BK186.out 3; have hfz49_4 := blk_frozen BK186.out 4; have hfz49_5 := blk_frozen BK186.out 5))
                go_meet
                case rel => exact ⟨_, (t190), (t181), (t182), (t183), (t184), (t185), H', ⟨by have := HJ15.out; first | omega | exact Nat.le_refl _⟩, ⟨by (with_reducible repeat (first | refine blk_drewN ?_ _ | refine blk_drew ?_ | refine blk_alloc ?_ _)); refine blk_far ?_ NB177_186.out _; (with_reducible repeat (first | refine blk_drewN ?_ _ | refine blk_drew ?_ | refine blk_alloc ?_ _)); exact BK177.out⟩, ⟨by (with_reducible repeat (first | refine blk_drewN ?_ _ | refine blk_drew ?_ | refine blk_alloc ?_ _)); refine blk_far ?_ NB178_186.out _; (with_reducible repeat (first | refine blk_drewN ?_ _ | refine blk_drew ?_ | refine blk_alloc ?_ _)); exact BK178.out⟩, ⟨by (with_reducible repeat (first | refine blk_drewN ?_ _ | refine blk_drew ?_ | refine blk_alloc ?_ _)); refine blk_put (cs := #[.string t180, .int .i64 t181, .int .i64 t182, .int .i64 t183, .int .i64 t184, .int .i64 t185]) ?_ 0 _ rfl; (with_reducible repeat (first | refine blk_drewN ?_ _ | refine blk_drew ?_ | refine blk_alloc ?_ _)); exact BK186.out⟩, ⟨by repeat (first | (with_reducible first | exact HB.out | apply below_alloc | apply pw_below_drewN | apply below_drew1 | refine below_set ?_ GE177.out | refine below_set ?_ GE178.out | refine below_set ?_ GE186.out) | exact HB.out)⟩⟩
              · rw [if_neg c44] at H
                have c44b0 : ((ji42) == 0) = false := beq_eq_false_iff_ne.mpr c44
                have c44b1 : ((ji42) != 0) = true := bne_iff_ne.mpr c44
                (first | rw [c44b0] | (simp only [i64_w, i32_w]; rw [c44b0]) | rw [c44b1] | skip)
                by_cases c50 : (ji42) = 1
                · rw [if_pos c50] at H
                  have c50b0 : ((ji42) == 1) = true := beq_iff_eq.mpr c50
                  have c50b1 : ((ji42) != 1) = false := bne_eq_false_iff_eq.mpr c50
                  clear c50
                  obtain ⟨y191, hy191⟩ : ∃ y_ : List Int, y_ = (([(-1), 255, 256, a4] : List Int)) := ⟨_, rfl⟩
                  replace H : (if 0 ≤ (wi a4 4) then (if (wi a4 4) < (y191.length : Int) then (damperlaw2_SpecConfigs.j1 kj15 t180 (rd y191 (wi a4 4)) t182 t183 t184 t185) else (none)) else (none)) = some r := by first | (rw [hy191]; with_reducible exact H) | (have H2_ := (Option.bind_some _ _).symm.trans H; rw [hy191]; with_reducible exact H2_) | (have H2_ := (Option.bind_some _ _).symm.trans H; with_reducible exact H2_) | with_reducible exact H | (rw [hy191]; exact H) | exact H
                  have Ny191 := Aside0.mk hy191
                  clear hy191
                  obtain ⟨ji51, hji51⟩ : ∃ j_ : Int, (wi a4 4) = j_ := ⟨_, rfl⟩
                  replace H : (if 0 ≤ (ji51) then (if (ji51) < (y191.length : Int) then (damperlaw2_SpecConfigs.j1 kj15 t180 (rd y191 (ji51)) t182 t183 t184 t185) else (none)) else (none)) = some r := by first | (rw [hji51] at H; exact H) | (simp only [hji51] at H ⊢; exact H)
                  by_cases c52 : 0 ≤ (ji51)
                  rotate_left
                  · rw [if_neg c52] at H
                    exact absurd H (by simp)
                  rw [if_pos c52] at H
                  have c52b0 : decide (0 ≤ (ji51)) = true := decide_eq_true c52
                  clear c52
                  by_cases c53 : (ji51) < (y191.length : Int)
                  rotate_left
                  · rw [if_neg c53] at H
                    exact absurd H (by simp)
                  rw [if_pos c53] at H
                  have c53b0 : decide ((ji51) < (y191.length : Int)) = true := decide_eq_true c53
                  clear c53
                  have H' := Aside0.mk H
                  clear H
                  go_wp2_with (first | (go_at_call 15; refine (damperlaw2_within.keep _ _ rfl (by first | decide | assumption | exact wi_ne (by assumption) | exact wi_ne' (by assumption) | omega) _).mono ?_; rintro e w' ⟨rfl, rfl⟩) | ((with_reducible refine gate_dst (N := 43) rfl ?_); refine Kd.R_lit (Kd.int .i64) _ 3 ?hg (N := 43) ?hd (xs := ([(-1), 255, 256, a4] : List Int)) (inner := [.int .i64 (-1), .int .i64 255, .int .i64 256, .int .i64 a4]) (ok := fun _ => True) (okp := fun _ => True) ?hr ?hp (fun _ hk => hk) trivial (Below.refl _ _) (Nat.le_refl _) (by simp) ?_; (case hd => rfl); (case hg => rfl); (case hr => first | (go_simp; done) | (go_simp; rfl)); (case hp => exact (Reps.one (show Kd.M (Kd.int .i64) _ _ _ (-1) [.int .i64 (-1)] from rfl) (Reps.one (show Kd.M (Kd.int .i64) _ _ _ 255 [.int .i64 255] from rfl) (Reps.one (show Kd.M (Kd.int .i64) _ _ _ 256 [.int .i64 256] from rfl) (Reps.one (show Kd.M (Kd.int .i64) _ _ _ a4 [.int .i64 a4] from rfl) (Reps.none _ _)))))); intro v192 w54 ho55 hb hg_ hnew_; clear hg_ hnew_; (first | rw [← Ny191.out] at ho55 | (simp only [Int.reduceToNat] at ho55; rw [← Ny191.out] at ho55)); have n0_ := Aside0.mk (Kd.R_lower ho55 (below_size (by repeat (first | (with_reducible first | exact HB.out | apply below_alloc | apply pw_below_drewN | apply below_drew1 | refine below_set ?_ GE177.out | refine below_set ?_ GE178.out | refine below_set ?_ GE186.out) | exact HB.out)))); have n1_ := Aside0.mk (blk_below (g := gb177) (pk BK177) hb); have n2_ := Aside0.mk (blk_below (g := gb178) (pk BK178) hb); have n3_ := Aside0.mk (blk_below (g := gb186) (pk BK186) hb); have n4_ := Aside0.mk (below_step (by repeat (first | (with_reducible first | exact HB.out | apply below_alloc | apply pw_below_drewN | apply below_drew1 | refine below_set ?_ GE177.out | refine below_set ?_ GE178.out | refine below_set ?_ GE186.out) | exact HB.out)) hb); clear BK177; clear BK178; clear BK186; clear HB; have HO193 := n0_; have BK177 := n1_; have BK178 := n2_; have BK186 := n3_; have HB := n4_; clear n0_ n1_ n2_ n3_ n4_; clear hb ho55; obtain ⟨Ao56, co56, eo56⟩ := Kd.R_slice HO193.out; subst eo56; have p194 : 0 ≤ ((ji51) : Int) := of_decide_eq_true (by first | (with_reducible assumption) | assumption); have q194 : (ji51) < (y191.length : Int) := of_decide_eq_true (by first | (with_reducible assumption) | assumption); obtain ⟨ad194, e194, hx194_0⟩ := Kd.at_int (Kd.R_reads' HO193.out).2.2 (ji51) p194 q194; cases e194; replace p194 := eq_true p194; replace q194 := eq_true q194; have hnb57 := NB186_177.out; have hnc57 := NB177_186.out; have hnb58 := NB186_178.out; have hnc58 := NB178_186.out; have hcz59_0 : w54.cell? ⟨gb186, 0, none⟩ = some (.string t180) := bc BK186 0; have hcz59_1 : w54.cell? ⟨gb186, 1, none⟩ = some (.int .i64 t181) := bc BK186 1; have hcz59_2 : w54.cell? ⟨gb186, 2, none⟩ = some (.int .i64 t182) := bc BK186 2; have hcz59_3 : w54.cell? ⟨gb186, 3, none⟩ = some (.int .i64 t183) := bc BK186 3; have hcz59_4 : w54.cell? ⟨gb186, 4, none⟩ = some (.int .i64 t184) := bc BK186 4; have hcz59_5 : w54.cell? ⟨gb186, 5, none⟩ = some (.int .i64 t185) := bc BK186 5; have hfz59_0 := blk_frozen BK186.out 0; have hfz59_1 := blk_frozen BK186.out 1; have hfz59_2 := blk_frozen BK186.out 2; have hfz59_3 := blk_frozen BK186.out 3; have hfz59_4 := blk_frozen BK186.out 4; have hfz59_5 := blk_frozen BK186.out 5))
                  go_meet
                  case rel => exact ⟨_, (t180), (rd y191 (ji51)), (t182), (t183), (t184), (t185), H', ⟨by have := HJ15.out; first | omega | exact Nat.le_refl _⟩, ⟨by (with_reducible repeat (first | refine blk_drewN ?_ _ | refine blk_drew ?_ | refine blk_alloc ?_ _)); refine blk_far ?_ NB177_186.out _; (with_reducible repeat (first | refine blk_drewN ?_ _ | refine blk_drew ?_ | refine blk_alloc ?_ _)); exact BK177.out⟩, ⟨by (with_reducible repeat (first | refine blk_drewN ?_ _ | refine blk_drew ?_ | refine blk_alloc ?_ _)); refine blk_far ?_ NB178_186.out _; (with_reducible repeat (first | refine blk_drewN ?_ _ | refine blk_drew ?_ | refine blk_alloc ?_ _)); exact BK178.out⟩, ⟨by (with_reducible repeat (first | refine blk_drewN ?_ _ | refine blk_drew ?_ | refine blk_alloc ?_ _)); refine blk_put (cs := #[.string t180, .int .i64 t181, .int .i64 t182, .int .i64 t183, .int .i64 t184, .int .i64 t185]) ?_ 1 _ rfl; (with_reducible repeat (first | refine blk_drewN ?_ _ | refine blk_drew ?_ | refine blk_alloc ?_ _)); exact BK186.out⟩, ⟨by repeat (first | (with_reducible first | exact HB.out | apply below_alloc | apply pw_below_drewN | apply below_drew1 | refine below_set ?_ GE177.out | refine below_set ?_ GE178.out | refine below_set ?_ GE186.out) | exact HB.out)⟩⟩
                · rw [if_neg c50] at H
                  have c50b0 : ((ji42) == 1) = false := beq_eq_false_iff_ne.mpr c50
                  have c50b1 : ((ji42) != 1) = true := bne_iff_ne.mpr c50
                  by_cases c60 : (ji42) = 2
                  · rw [if_pos c60] at H
                    have c60b0 : ((ji42) == 2) = true := beq_iff_eq.mpr c60
                    have c60b1 : ((ji42) != 2) = false := bne_eq_false_iff_eq.mpr c60
                    clear c60
                    obtain ⟨y195, hy195⟩ : ∃ y_ : List Int, y_ = (([0, 1, 8, 9, a4] : List Int)) := ⟨_, rfl⟩
                    replace H : (if 0 ≤ (wi a4 5) then (if (wi a4 5) < (y195.length : Int) then (damperlaw2_SpecConfigs.j1 kj15 t180 t181 (rd y195 (wi a4 5)) t183 t184 t185) else (none)) else (none)) = some r := by first | (rw [hy195]; with_reducible exact H) | (have H2_ := (Option.bind_some _ _).symm.trans H; rw [hy195]; with_reducible exact H2_) | (have H2_ := (Option.bind_some _ _).symm.trans H; with_reducible exact H2_) | with_reducible exact H | (rw [hy195]; exact H) | exact H
                    have Ny195 := Aside0.mk hy195
                    clear hy195
                    obtain ⟨ji61, hji61⟩ : ∃ j_ : Int, (wi a4 5) = j_ := ⟨_, rfl⟩
                    replace H : (if 0 ≤ (ji61) then (if (ji61) < (y195.length : Int) then (damperlaw2_SpecConfigs.j1 kj15 t180 t181 (rd y195 (ji61)) t183 t184 t185) else (none)) else (none)) = some r := by first | (rw [hji61] at H; exact H) | (simp only [hji61] at H ⊢; exact H)
                    by_cases c62 : 0 ≤ (ji61)
                    rotate_left
                    · rw [if_neg c62] at H
                      exact absurd H (by simp)
                    rw [if_pos c62] at H
                    have c62b0 : decide (0 ≤ (ji61)) = true := decide_eq_true c62
                    clear c62
                    by_cases c63 : (ji61) < (y195.length : Int)
                    rotate_left
                    · rw [if_neg c63] at H
                      exact absurd H (by simp)
                    rw [if_pos c63] at H
                    have c63b0 : decide ((ji61) < (y195.length : Int)) = true := decide_eq_true c63
                    clear c63
                    have H' := Aside0.mk H
                    clear H
                    go_wp2_with (first | (go_at_call 15; refine (damperlaw2_within.keep _ _ rfl (by first | decide | assumption | exact wi_ne (by assumption) | exact wi_ne' (by assumption) | omega) _).mono ?_; rintro e w' ⟨rfl, rfl⟩) | ((with_reducible refine gate_dst (N := 52) rfl ?_); refine Kd.R_lit (Kd.int .i64) _ 3 ?hg (N := 52) ?hd (xs := ([0, 1, 8, 9, a4] : List Int)) (inner := [.int .i64 0, .int .i64 1, .int .i64 8, .int .i64 9, .int .i64 a4]) (ok := fun _ => True) (okp := fun _ => True) ?hr ?hp (fun _ hk => hk) trivial (Below.refl _ _) (Nat.le_refl _) (by simp) ?_; (case hd => rfl); (case hg => rfl); (case hr => first | (go_simp; done) | (go_simp; rfl)); (case hp => exact (Reps.one (show Kd.M (Kd.int .i64) _ _ _ 0 [.int .i64 0] from rfl) (Reps.one (show Kd.M (Kd.int .i64) _ _ _ 1 [.int .i64 1] from rfl) (Reps.one (show Kd.M (Kd.int .i64) _ _ _ 8 [.int .i64 8] from rfl) (Reps.one (show Kd.M (Kd.int .i64) _ _ _ 9 [.int .i64 9] from rfl) (Reps.one (show Kd.M (Kd.int .i64) _ _ _ a4 [.int .i64 a4] from rfl) (Reps.none _ _))))))); intro v196 w64 ho65 hb hg_ hnew_; clear hg_ hnew_; (first | rw [← Ny195.out] at ho65 | (simp only [Int.reduceToNat] at ho65; rw [← Ny195.out] at ho65)); have n0_ := Aside0.mk (Kd.R_lower ho65 (below_size (by repeat (first | (with_reducible first | exact HB.out | apply below_alloc | apply pw_below_drewN | apply below_drew1 | refine below_set ?_ GE177.out | refine below_set ?_ GE178.out | refine below_set ?_ GE186.out) | exact HB.out)))); have n1_ := Aside0.mk (blk_below (g := gb177) (pk BK177) hb); have n2_ := Aside0.mk (blk_below (g := gb178) (pk BK178) hb); have n3_ := Aside0.mk (blk_below (g := gb186) (pk BK186) hb); have n4_ := Aside0.mk (below_step (by repeat (first | (with_reducible first | exact HB.out | apply below_alloc | apply pw_below_drewN | apply below_drew1 | refine below_set ?_ GE177.out | refine below_set ?_ GE178.out | refine below_set ?_ GE186.out) | exact HB.out)) hb); clear BK177; clear BK178; clear BK186; clear HB; have HO197 := n0_; have BK177 := n1_; have BK178 := n2_; have BK186 := n3_; have HB := n4_; clear n0_ n1_ n2_ n3_ n4_; clear hb ho65; obtain ⟨Ao66, co66, eo66⟩ := Kd.R_slice HO197.out; subst eo66; have p198 : 0 ≤ ((ji61) : Int) := of_decide_eq_true (by first | (with_reducible assumption) | assumption); have q198 : (ji61) < (y195.length : Int) := of_decide_eq_true (by first | (with_reducible assumption) | assumption); obtain ⟨ad198, e198, hx198_0⟩ := Kd.at_int (Kd.R_reads' HO197.out).2.2 (ji61) p198 q198; cases e198; replace p198 := eq_true p198; replace q198 := eq_true q198; have hnb67 := NB186_177.out; have hnc67 := NB177_186.out; have hnb68 := NB186_178.out; have hnc68 := NB178_186.out; have hcz69_0 : w64.cell? ⟨gb186, 0, none⟩ = some (.string t180) := bc BK186 0; have hcz69_1 : w64.cell? ⟨gb186, 1, none⟩ = some (.int .i64 t181) := bc BK186 1; have hcz69_2 : w64.cell? ⟨gb186, 2, none⟩ = some (.int .i64 t182) := bc BK186 2; have hcz69_3 : w64.cell? ⟨gb186, 3, none⟩ = some (.int .i64 t183) := bc BK186 3; have hcz69_4 : w64.cell? ⟨gb186, 4, none⟩ = some (.int .i64 t184) := bc BK186 4; have hcz69_5 : w64.cell? ⟨gb186, 5, none⟩ = some (.int .i64 t185) := bc BK186 5; have hfz69_0 := blk_frozen BK186.out 0; have hfz69_1 := blk_frozen BK186.out 1; have hfz69_2 := blk_frozen BK186.out 2; have hfz69_3 := blk_frozen BK186.out 3; have hfz69_4 := blk_frozen BK186.out 4; have hfz69_5 := blk_frozen BK186.out 5))
                    go_meet
                    case rel => exact ⟨_, (t180), (t181), (rd y195 (ji61)), (t183), (t184), (t185), H', ⟨by have := HJ15.out; first | omega | exact Nat.le_refl _⟩, ⟨by (with_reducible repeat (first | refine blk_drewN ?_ _ | refine blk_drew ?_ | refine blk_alloc ?_ _)); refine blk_far ?_ NB177_186.out _; (with_reducible repeat (first | refine blk_drewN ?_ _ | refine blk_drew ?_ | refine blk_alloc ?_ _)); exact BK177.out⟩, ⟨by (with_reducible repeat (first | refine blk_drewN ?_ _ | refine blk_drew ?_ | refine blk_alloc ?_ _)); refine blk_far ?_ NB178_186.out _; (with_reducible repeat (first | refine blk_drewN ?_ _ | refine blk_drew ?_ | refine blk_alloc ?_ _)); exact BK178.out⟩, ⟨by (with_reducible repeat (first | refine blk_drewN ?_ _ | refine blk_drew ?_ | refine blk_alloc ?_ _)); refine blk_put (cs := #[.string t180, .int .i64 t181, .int .i64 t182, .int .i64 t183, .int .i64 t184, .int .i64 t185]) ?_ 2 _ rfl; (with_reducible repeat (first | refine blk_drewN ?_ _ | refine blk_drew ?_ | refine blk_alloc ?_ _)); exact BK186.out⟩, ⟨by repeat (first | (with_reducible first | exact HB.out | apply below_alloc | apply pw_below_drewN | apply below_drew1 | refine below_set ?_ GE177.out | refine below_set ?_ GE178.out | refine below_set ?_ GE186.out) | exact HB.out)⟩⟩
                  · rw [if_neg c60] at H
                    have c60b0 : ((ji42) == 2) = false := beq_eq_false_iff_ne.mpr c60
                    have c60b1 : ((ji42) != 2) = true := bne_iff_ne.mpr c60
                    by_cases c70 : (ji42) = 3
                    · rw [if_pos c70] at H
                      have c70b0 : ((ji42) == 3) = true := beq_iff_eq.mpr c70
                      have c70b1 : ((ji42) != 3) = false := bne_eq_false_iff_eq.mpr c70
                      clear c70
                      obtain ⟨y199, hy199⟩ : ∃ y_ : List Int, y_ = (([0, 1, 10, 11, t183, wrap64 (t183 - 1), a4] : List Int)) := ⟨_, rfl⟩
                      replace H : (if 0 ≤ (wi a4 7) then (if (wi a4 7) < (y199.length : Int) then (damperlaw2_SpecConfigs.j1 kj15 t180 t181 t182 t183 (rd y199 (wi a4 7)) t185) else (none)) else (none)) = some r := by first | (rw [hy199]; with_reducible exact H) | (have H2_ := (Option.bind_some _ _).symm.trans H; rw [hy199]; with_reducible exact H2_) | (have H2_ := (Option.bind_some _ _).symm.trans H; with_reducible exact H2_) | with_reducible exact H | (rw [hy199]; exact H) | exact H
                      have Ny199 := Aside0.mk hy199
                      clear hy199
                      obtain ⟨ji71, hji71⟩ : ∃ j_ : Int, (wi a4 7) = j_ := ⟨_, rfl⟩
                      replace H : (if 0 ≤ (ji71) then (if (ji71) < (y199.length : Int) then (damperlaw2_SpecConfigs.j1 kj15 t180 t181 t182 t183 (rd y199 (ji71)) t185) else (none)) else (none)) = some r := by first | (rw [hji71] at H; exact H) | (simp only [hji71] at H ⊢; exact H)
                      by_cases c72 : 0 ≤ (ji71)
                      rotate_left
                      · rw [if_neg c72] at H
                        exact absurd H (by simp)
                      rw [if_pos c72] at H
                      have c72b0 : decide (0 ≤ (ji71)) = true := decide_eq_true c72
                      clear c72
                      by_cases c73 : (ji71) < (y199.length : Int)
                      rotate_left
                      · rw [if_neg c73] at H
                        exact absurd H (by simp)
                      rw [if_pos c73] at H
                      have c73b0 : decide ((ji71) < (y199.length : Int)) = true := decide_eq_true c73
                      clear c73
                      have H' := Aside0.mk H
                      clear H
                      try go_wp2_with (first | (go_at_call 15; refine (damperlaw2_within.keep _ _ rfl (by first | decide | assumption | exact wi_ne (by assumption) | exact wi_ne' (by assumption) | omega) _).mono ?_; rintro e w' ⟨rfl, rfl⟩))
                      have pi202 : (0 ≤ ((ji71) : Int)) = True := eq_true (of_decide_eq_true (by first | (with_reducible assumption) | assumption))
                      have qi202 : ((ji71) < (y199.length : Int)) = True := eq_true (of_decide_eq_true (by first | (with_reducible assumption) | assumption))
                      replace BK177 := Aside0.mk (blk_drew BK177.out)
                      replace BK178 := Aside0.mk (blk_drew BK178.out)
                      replace BK186 := Aside0.mk (blk_drew BK186.out)
                      replace HB := Aside0.mk (below_drew1 HB.out)
                      refine start_ (n := 13) (S := fun w' => w'.cell? ⟨gb186, 0, none⟩ = some (.string t180) ∧ w'.cell? ⟨gb186, 1, none⟩ = some (.int .i64 t181) ∧ w'.cell? ⟨gb186, 2, none⟩ = some (.int .i64 t182) ∧ w'.cell? ⟨gb186, 3, none⟩ = some (.int .i64 t183) ∧ w'.cell? ⟨gb186, 4, none⟩ = some (.int .i64 t184) ∧ w'.cell? ⟨gb186, 5, none⟩ = some (.int .i64 t185)) (ds := [12]) #[false, false, false, false, false, false, false, false, false, false, false, false, false] (by kernel_rfl) rfl rfl ⟨bc BK186 0, bc BK186 1, bc BK186 2, bc BK186 3, bc BK186 4, bc BK186 5⟩ (fun hHeld => ?_); refine with_tabW damperlaw2_SpecConfigs.tab16 damperlaw2_SpecConfigs.bits16 (fun HT_ HW_ => ?_)
                      generalize wc.drew = w74 at BK177 BK178 BK186 HB hHeld ⊢
                      refine pure_ (i := 0) (N := some 60) (v := ?_) (a' := ?_) #[true, false, false, false, false, false, false, false, false, false, false, false, false] rfl rfl (any_of HT_.out (by kernel_rfl)) (fun _ _ _ h => h) (Or.inl ⟨by rfl, ?_⟩) ?_ ?_
                      rotate_left
                      · intro w'
                        go_simp
                        with_reducible rfl
                      rotate_left
                      · simp only [Act.put, List.setIfInBounds_toArray, List.set_cons_zero, List.set_cons_succ, i64_w, i32_w]
                        rfl
                      refine pure_ (i := 2) (N := some 62) (v := ?_) (a' := ?_) #[true, false, true, false, false, false, false, false, false, false, false, false, false] rfl rfl (any_of HT_.out (by kernel_rfl)) (fun _ _ _ h => h) (Or.inl ⟨by rfl, ?_⟩) ?_ ?_
                      rotate_left
                      · intro w'
                        go_simp
                        with_reducible rfl
                      rotate_left
                      · simp only [Act.put, List.setIfInBounds_toArray, List.set_cons_zero, List.set_cons_succ, i64_w, i32_w]
                        rfl
                      refine pure_ (i := 5) (N := some 65) (v := ?_) (a' := ?_) #[true, false, true, false, false, true, false, false, false, false, false, false, false] rfl rfl (any_of HT_.out (by kernel_rfl)) (fun _ _ _ h => h) (Or.inl ⟨by rfl, ?_⟩) ?_ ?_
                      rotate_left
                      · intro w'
                        go_simp
                        with_reducible rfl
                      rotate_left
                      · simp only [Act.put, List.setIfInBounds_toArray, List.set_cons_zero, List.set_cons_succ, i64_w, i32_w]
                        rfl
                      refine pure_ (i := 7) (N := some 67) (v := ?_) (a' := ?_) #[true, false, true, false, false, true, false, true, false, false, false, false, false] rfl rfl (any_of HT_.out (by kernel_rfl)) (fun _ _ _ h => h) (Or.inl ⟨by rfl, ?_⟩) ?_ ?_
                      rotate_left
                      · intro w'
                        go_simp
                        with_reducible rfl
                      rotate_left
                      · simp only [Act.put, List.setIfInBounds_toArray, List.set_cons_zero, List.set_cons_succ, i64_w, i32_w]
                        rfl
                      refine callp_ (i := 8) (N := some 68) (a' := ?a1_) #[true, false, true, false, false, true, false, true, true, false, false, false, false] rfl rfl (by kernel_rfl) (fun _ _ _ h => h) (by rfl) Tryd.func15 (by kernel_rfl) rfl rfl (by (try simp only [List.map_toArray, List.map_cons, List.map_nil]); rfl) (damperlaw2_within.same _ _ (r := ?jj1_) ?hj1_ (by first | decide | assumption | exact wi_ne (by assumption) | exact wi_ne' (by assumption) | omega)) ?ha1_ ?h1_
                      (case hj1_ => (try simp only [i64_w, i32_w]); first | assumption | (go_simp; rfl))
                      (case ha1_ => simp only [Act.put, List.setIfInBounds_toArray, List.set_cons_zero, List.set_cons_succ, i64_w, i32_w]; rfl)
                      refine take_ (i := 1) (N := some 61) (v := ?_) (a' := ?_) #[true, true, true, false, false, true, false, true, true, false, false, false, false] rfl rfl (take_ofW HT_.out HW_.out (by kernel_rfl)) (fun _ _ _ h => h) (Or.inl ⟨by rfl, ?_⟩) hHeld ?_ ?_
                      rotate_left
                      · rintro w' ⟨s0, s1, s2, s3, s4, s5⟩
                        go_simp
                        with_reducible rfl
                      rotate_left
                      · simp only [Act.put, List.setIfInBounds_toArray, List.set_cons_zero, List.set_cons_succ, i64_w, i32_w]
                        rfl
                      refine take_ (i := 3) (N := some 63) (v := ?_) (a' := ?_) #[true, true, true, true, false, true, false, true, true, false, false, false, false] rfl rfl (take_ofW HT_.out HW_.out (by kernel_rfl)) (fun _ _ _ h => h) (Or.inl ⟨by rfl, ?_⟩) hHeld ?_ ?_
                      rotate_left
                      · rintro w' ⟨s0, s1, s2, s3, s4, s5⟩
                        go_simp
                        with_reducible rfl
                      rotate_left
                      · simp only [Act.put, List.setIfInBounds_toArray, List.set_cons_zero, List.set_cons_succ, i64_w, i32_w]
                        rfl
                      refine pure_ (i := 4) (N := some 64) (v := ?_) (a' := ?_) #[true, true, true, true, true, true, false, true, true, false, false, false, false] rfl rfl (any_of HT_.out (by kernel_rfl)) (fun _ _ _ h => h) (Or.inl ⟨by rfl, ?_⟩) ?_ ?_
                      rotate_left
                      · intro w'
                        go_simp
                        with_reducible rfl
                      rotate_left
                      · simp only [Act.put, List.setIfInBounds_toArray, List.set_cons_zero, List.set_cons_succ, i64_w, i32_w]
                        rfl
                      refine one_ (i := 6) (N := some 66) #[true, true, true, true, true, true, true, true, true, false, false, false, false] rfl rfl (one_of HT_.out (by kernel_rfl)) (by decide) (fun K hK => ?_)
                      refine Kd.R_lit_step (Kd.int .i64) _ 3 ?hg (N := 66) ?hd (xs := ([0, 1, 10, 11, t183, wrap64 (t183 - 1), a4] : List Int)) (inner := [.int .i64 0, .int .i64 1, .int .i64 10, .int .i64 11, .int .i64 t183, .int .i64 (wrap64 (t183 - 1)), .int .i64 a4]) (ok := fun _ => True) (okp := fun _ => True) ?hr ?hp (fun _ hk => hk) trivial (Below.refl _ _) (Nat.le_refl _) (by simp) ?_; (case hd => rfl); (case hg => rfl); (case hr => first | (go_simp; done) | (go_simp; rfl)); (case hp => exact (Reps.one (show Kd.M (Kd.int .i64) _ _ _ 0 [.int .i64 0] from rfl) (Reps.one (show Kd.M (Kd.int .i64) _ _ _ 1 [.int .i64 1] from rfl) (Reps.one (show Kd.M (Kd.int .i64) _ _ _ 10 [.int .i64 10] from rfl) (Reps.one (show Kd.M (Kd.int .i64) _ _ _ 11 [.int .i64 11] from rfl) (Reps.one (show Kd.M (Kd.int .i64) _ _ _ t183 [.int .i64 t183] from rfl) (Reps.one (show Kd.M (Kd.int .i64) _ _ _ (wrap64 (t183 - 1)) [.int .i64 (wrap64 (t183 - 1))] from rfl) (Reps.one (show Kd.M (Kd.int .i64) _ _ _ a4 [.int .i64 a4] from rfl) (Reps.none _ _)))))))))
                      intro v200 w75 ho76 hb hg_ hnew_
                      clear hg_ hnew_
                      (first | rw [← Ny199.out] at ho76 | (simp only [Int.reduceToNat] at ho76; rw [← Ny199.out] at ho76))
                      have HO201 := Aside0.mk (Kd.R_lower ho76 (below_size (by repeat (first | (with_reducible first | exact HB.out | apply below_alloc | apply pw_below_drewN | apply below_drew1 | refine below_set ?_ GE177.out | refine below_set ?_ GE178.out | refine below_set ?_ GE186.out) | exact HB.out))))
                      replace BK177 := Aside0.mk (blk_below (g := gb177) (pk BK177) hb)
                      replace BK178 := Aside0.mk (blk_below (g := gb178) (pk BK178) hb)
                      replace BK186 := Aside0.mk (blk_below (g := gb186) (pk BK186) hb)
                      replace HB := Aside0.mk (below_step (by repeat (first | (with_reducible first | exact HB.out | apply below_alloc | apply pw_below_drewN | apply below_drew1 | refine below_set ?_ GE177.out | refine below_set ?_ GE178.out | refine below_set ?_ GE186.out) | exact HB.out)) hb)
                      clear hb ho76
                      obtain ⟨Ao77, co77, eo77⟩ := Kd.R_slice HO201.out
                      subst eo77
                      obtain ⟨ado77, fo77, _⟩ := Kd.at_int (Kd.R_reads' HO201.out).2.2 0 (by decide) (by rw [Ny199.out]; simp)
                      cases fo77
                      refine hK.out _ _ ⟨bc BK186 0, bc BK186 1, bc BK186 2, bc BK186 3, bc BK186 4, bc BK186 5⟩ (fun hHeld => ?_)
                      clear hK K
                      refine norm_ (a' := ?_) ?_ ?_
                      rotate_left
                      · show Act.put _ (some 66) _ = _
                        simp only [Act.put, List.setIfInBounds_toArray, List.set_cons_zero, List.set_cons_succ, i64_w, i32_w]
                        rfl
                      refine pure_ (i := 9) (N := some 69) (v := ?_) (a' := ?_) #[true, true, true, true, true, true, true, true, true, true, false, false, false] rfl rfl (any_of HT_.out (by kernel_rfl)) (fun _ _ _ h => h) (Or.inl ⟨by rfl, ?_⟩) ?_ ?_
                      rotate_left
                      · intro w'
                        go_simp
                        with_reducible rfl
                      rotate_left
                      · simp only [Act.put, List.setIfInBounds_toArray, List.set_cons_zero, List.set_cons_succ, i64_w, i32_w]
                        rfl
                      refine one_ (i := 10) (N := some 70) #[true, true, true, true, true, true, true, true, true, true, true, false, false] rfl rfl (one_of HT_.out (by kernel_rfl)) (by decide) (fun K hK => ?_)
                      (have p202 : 0 ≤ ((ji71) : Int) := of_decide_eq_true (by first | (with_reducible assumption) | assumption); have q202 : (ji71) < (y199.length : Int) := of_decide_eq_true (by first | (with_reducible assumption) | assumption); obtain ⟨ad202, e202, hx202_0⟩ := Kd.at_int (Kd.R_reads' HO201.out).2.2 (ji71) p202 q202; obtain rfl : ado77 = ad202 := (by injection e202))
                      with_reducible_and_instances refine value_ (w1 := ?_) (v := ?_) ?hw_ ?hN_ ?_ ?_
                      (case hw_ => rfl)
                      (case hN_ => rfl)
                      rotate_left 2
                      · go_simp
                        constructor
                        · rfl
                        · rfl
                      clear hx202_0
                      refine hK.out _ _ ⟨bc BK186 0, bc BK186 1, bc BK186 2, bc BK186 3, bc BK186 4, bc BK186 5⟩ (fun hHeld => ?_)
                      clear hK K
                      refine norm_ (a' := ?_) ?_ ?_
                      rotate_left
                      · show Act.put _ (some 70) _ = _
                        simp only [Act.put, List.setIfInBounds_toArray, List.set_cons_zero, List.set_cons_succ, i64_w, i32_w]
                        rfl
                      refine pure_ (i := 11) (N := some 71) (v := ?_) (a' := ?_) #[true, true, true, true, true, true, true, true, true, true, true, true, false] rfl rfl (any_of HT_.out (by kernel_rfl)) (fun _ _ _ h => h) (Or.inl ⟨by rfl, ?_⟩) ?_ ?_
                      rotate_left
                      · intro w'
                        go_simp
                        with_reducible rfl
                      rotate_left
                      · simp only [Act.put, List.setIfInBounds_toArray, List.set_cons_zero, List.set_cons_succ, i64_w, i32_w]
                        rfl
                      refine last_ (i := 12) (N := none) #[true, true, true, true, true, true, true, true, true, true, true, true, true] rfl rfl (one_of HT_.out (by kernel_rfl)) (by decide) (fun K hK => ?_)
                      have hs78 : w75.cell? ⟨gb186, 4, none⟩ = some (.int .i64 t184) := bc BK186 4
                      have hfs78 := blk_frozen BK186.out 4
                      have hns78_0 := NB177_186.out
                      have hns78_1 := NB178_186.out
                      have hms78_0 := NB186_177.out
                      have hms78_1 := NB186_178.out
                      with_reducible_and_instances refine skip_ (w1 := ?_) ?hw_ ?hN_ ?_ ?_
                      (case hw_ => rfl)
                      (case hN_ => rfl)
                      rotate_left
                      · go_simp
                        rfl
                      refine hK.out _ _ ?_
                      clear hK K
                      refine done_ (done_of HT_.out (by kernel_rfl)) ?_
                      try go_wp2_with (first | (go_at_call 15; refine (damperlaw2_within.keep _ _ rfl (by first | decide | assumption | exact wi_ne (by assumption) | exact wi_ne' (by assumption) | omega) _).mono ?_; rintro e w' ⟨rfl, rfl⟩))
                      go_meet
                      case rel => exact ⟨_, (t180), (t181), (t182), (t183), (rd y199 (ji71)), (t185), H', ⟨by have := HJ15.out; first | omega | exact Nat.le_refl _⟩, ⟨by (with_reducible repeat (first | refine blk_drewN ?_ _ | refine blk_drew ?_ | refine blk_alloc ?_ _)); refine blk_far ?_ NB177_186.out _; (with_reducible repeat (first | refine blk_drewN ?_ _ | refine blk_drew ?_ | refine blk_alloc ?_ _)); exact BK177.out⟩, ⟨by (with_reducible repeat (first | refine blk_drewN ?_ _ | refine blk_drew ?_ | refine blk_alloc ?_ _)); refine blk_far ?_ NB178_186.out _; (with_reducible repeat (first | refine blk_drewN ?_ _ | refine blk_drew ?_ | refine blk_alloc ?_ _)); exact BK178.out⟩, ⟨by (with_reducible repeat (first | refine blk_drewN ?_ _ | refine blk_drew ?_ | refine blk_alloc ?_ _)); refine blk_put (cs := #[.string t180, .int .i64 t181, .int .i64 t182, .int .i64 t183, .int .i64 t184, .int .i64 t185]) ?_ 4 _ rfl; (with_reducible repeat (first | refine blk_drewN ?_ _ | refine blk_drew ?_ | refine blk_alloc ?_ _)); exact BK186.out⟩, ⟨by repeat (first | (with_reducible first | exact HB.out | apply below_alloc | apply pw_below_drewN | apply below_drew1 | refine below_set ?_ GE177.out | refine below_set ?_ GE178.out | refine below_set ?_ GE186.out) | exact HB.out)⟩⟩
                    · rw [if_neg c70] at H
                      have c70b0 : ((ji42) == 3) = false := beq_eq_false_iff_ne.mpr c70
                      have c70b1 : ((ji42) != 3) = true := bne_iff_ne.mpr c70
                      by_cases c79 : (ji42) = 4
                      · rw [if_pos c79] at H
                        have c79b0 : ((ji42) == 4) = true := beq_iff_eq.mpr c79
                        have c79b1 : ((ji42) != 4) = false := bne_eq_false_iff_eq.mpr c79
                        clear c79
                        obtain ⟨y203, hy203⟩ : ∃ y_ : List Int, y_ = (([(-1), 0, t184, wrap64 (t184 + 1), a4] : List Int)) := ⟨_, rfl⟩
                        replace H : (if 0 ≤ (wi a4 5) then (if (wi a4 5) < (y203.length : Int) then (damperlaw2_SpecConfigs.j1 kj15 t180 t181 t182 (rd y203 (wi a4 5)) t184 t185) else (none)) else (none)) = some r := by first | (rw [hy203]; with_reducible exact H) | (have H2_ := (Option.bind_some _ _).symm.trans H; rw [hy203]; with_reducible exact H2_) | (have H2_ := (Option.bind_some _ _).symm.trans H; with_reducible exact H2_) | with_reducible exact H | (rw [hy203]; exact H) | exact H
                        have Ny203 := Aside0.mk hy203
                        clear hy203
                        obtain ⟨ji80, hji80⟩ : ∃ j_ : Int, (wi a4 5) = j_ := ⟨_, rfl⟩
                        replace H : (if 0 ≤ (ji80) then (if (ji80) < (y203.length : Int) then (damperlaw2_SpecConfigs.j1 kj15 t180 t181 t182 (rd y203 (ji80)) t184 t185) else (none)) else (none)) = some r := by first | (rw [hji80] at H; exact H) | (simp only [hji80] at H ⊢; exact H)
                        by_cases c81 : 0 ≤ (ji80)
                        rotate_left
                        · rw [if_neg c81] at H
                          exact absurd H (by simp)
                        rw [if_pos c81] at H
                        have c81b0 : decide (0 ≤ (ji80)) = true := decide_eq_true c81
                        clear c81
                        by_cases c82 : (ji80) < (y203.length : Int)
                        rotate_left
                        · rw [if_neg c82] at H
                          exact absurd H (by simp)
                        rw [if_pos c82] at H
                        have c82b0 : decide ((ji80) < (y203.length : Int)) = true := decide_eq_true c82
                        clear c82
                        have H' := Aside0.mk H
                        clear H
                        try go_wp2_with (first | (go_at_call 15; refine (damperlaw2_within.keep _ _ rfl (by first | decide | assumption | exact wi_ne (by assumption) | exact wi_ne' (by assumption) | omega) _).mono ?_; rintro e w' ⟨rfl, rfl⟩))
                        have pi206 : (0 ≤ ((ji80) : Int)) = True := eq_true (of_decide_eq_true (by first | (with_reducible assumption) | assumption))
                        have qi206 : ((ji80) < (y203.length : Int)) = True := eq_true (of_decide_eq_true (by first | (with_reducible assumption) | assumption))
                        replace BK177 := Aside0.mk (blk_drew BK177.out)
                        replace BK178 := Aside0.mk (blk_drew BK178.out)
                        replace BK186 := Aside0.mk (blk_drew BK186.out)
                        replace HB := Aside0.mk (below_drew1 HB.out)
                        refine start_ (n := 13) (S := fun w' => w'.cell? ⟨gb186, 0, none⟩ = some (.string t180) ∧ w'.cell? ⟨gb186, 1, none⟩ = some (.int .i64 t181) ∧ w'.cell? ⟨gb186, 2, none⟩ = some (.int .i64 t182) ∧ w'.cell? ⟨gb186, 3, none⟩ = some (.int .i64 t183) ∧ w'.cell? ⟨gb186, 4, none⟩ = some (.int .i64 t184) ∧ w'.cell? ⟨gb186, 5, none⟩ = some (.int .i64 t185)) (ds := [12]) #[false, false, false, false, false, false, false, false, false, false, false, false, false] (by kernel_rfl) rfl rfl ⟨bc BK186 0, bc BK186 1, bc BK186 2, bc BK186 3, bc BK186 4, bc BK186 5⟩ (fun hHeld => ?_); refine with_tabW damperlaw2_SpecConfigs.tab18 damperlaw2_SpecConfigs.bits18 (fun HT_ HW_ => ?_)
                        generalize wc.drew = w83 at BK177 BK178 BK186 HB hHeld ⊢
                        refine pure_ (i := 0) (N := some 74) (v := ?_) (a' := ?_) #[true, false, false, false, false, false, false, false, false, false, false, false, false] rfl rfl (any_of HT_.out (by kernel_rfl)) (fun _ _ _ h => h) (Or.inl ⟨by rfl, ?_⟩) ?_ ?_
                        rotate_left
                        · intro w'
                          go_simp
                          with_reducible rfl
                        rotate_left
                        · simp only [Act.put, List.setIfInBounds_toArray, List.set_cons_zero, List.set_cons_succ, i64_w, i32_w]
                          rfl
                        refine pure_ (i := 2) (N := some 76) (v := ?_) (a' := ?_) #[true, false, true, false, false, false, false, false, false, false, false, false, false] rfl rfl (any_of HT_.out (by kernel_rfl)) (fun _ _ _ h => h) (Or.inl ⟨by rfl, ?_⟩) ?_ ?_
                        rotate_left
                        · intro w'
                          go_simp
                          with_reducible rfl
                        rotate_left
                        · simp only [Act.put, List.setIfInBounds_toArray, List.set_cons_zero, List.set_cons_succ, i64_w, i32_w]
                          rfl
                        refine pure_ (i := 5) (N := some 79) (v := ?_) (a' := ?_) #[true, false, true, false, false, true, false, false, false, false, false, false, false] rfl rfl (any_of HT_.out (by kernel_rfl)) (fun _ _ _ h => h) (Or.inl ⟨by rfl, ?_⟩) ?_ ?_
                        rotate_left
                        · intro w'
                          go_simp
                          with_reducible rfl
                        rotate_left
                        · simp only [Act.put, List.setIfInBounds_toArray, List.set_cons_zero, List.set_cons_succ, i64_w, i32_w]
                          rfl
                        refine pure_ (i := 7) (N := some 81) (v := ?_) (a' := ?_) #[true, false, true, false, false, true, false, true, false, false, false, false, false] rfl rfl (any_of HT_.out (by kernel_rfl)) (fun _ _ _ h => h) (Or.inl ⟨by rfl, ?_⟩) ?_ ?_
                        rotate_left
                        · intro w'
                          go_simp
                          with_reducible rfl
                        rotate_left
                        · simp only [Act.put, List.setIfInBounds_toArray, List.set_cons_zero, List.set_cons_succ, i64_w, i32_w]
                          rfl
                        refine callp_ (i := 8) (N := some 82) (a' := ?a2_) #[true, false, true, false, false, true, false, true, true, false, false, false, false] rfl rfl (by kernel_rfl) (fun _ _ _ h => h) (by rfl) Tryd.func15 (by kernel_rfl) rfl rfl (by (try simp only [List.map_toArray, List.map_cons, List.map_nil]); rfl) (damperlaw2_within.same _ _ (r := ?jj2_) ?hj2_ (by first | decide | assumption | exact wi_ne (by assumption) | exact wi_ne' (by assumption) | omega)) ?ha2_ ?h2_
                        (case hj2_ => (try simp only [i64_w, i32_w]); first | assumption | (go_simp; rfl))
                        (case ha2_ => simp only [Act.put, List.setIfInBounds_toArray, List.set_cons_zero, List.set_cons_succ, i64_w, i32_w]; rfl)
                        refine take_ (i := 1) (N := some 75) (v := ?_) (a' := ?_) #[true, true, true, false, false, true, false, true, true, false, false, false, false] rfl rfl (take_ofW HT_.out HW_.out (by kernel_rfl)) (fun _ _ _ h => h) (Or.inl ⟨by rfl, ?_⟩) hHeld ?_ ?_
                        rotate_left
                        · rintro w' ⟨s0, s1, s2, s3, s4, s5⟩
                          go_simp
                          with_reducible rfl
                        rotate_left
                        · simp only [Act.put, List.setIfInBounds_toArray, List.set_cons_zero, List.set_cons_succ, i64_w, i32_w]
                          rfl
                        refine take_ (i := 3) (N := some 77) (v := ?_) (a' := ?_) #[true, true, true, true, false, true, false, true, true, false, false, false, false] rfl rfl (take_ofW HT_.out HW_.out (by kernel_rfl)) (fun _ _ _ h => h) (Or.inl ⟨by rfl, ?_⟩) hHeld ?_ ?_
                        rotate_left
                        · rintro w' ⟨s0, s1, s2, s3, s4, s5⟩
                          go_simp
                          with_reducible rfl
                        rotate_left
                        · simp only [Act.put, List.setIfInBounds_toArray, List.set_cons_zero, List.set_cons_succ, i64_w, i32_w]
                          rfl
                        refine pure_ (i := 4) (N := some 78) (v := ?_) (a' := ?_) #[true, true, true, true, true, true, false, true, true, false, false, false, false] rfl rfl (any_of HT_.out (by kernel_rfl)) (fun _ _ _ h => h) (Or.inl ⟨by rfl, ?_⟩) ?_ ?_
                        rotate_left
                        · intro w'
                          go_simp
                          with_reducible rfl
                        rotate_left
                        · simp only [Act.put, List.setIfInBounds_toArray, List.set_cons_zero, List.set_cons_succ, i64_w, i32_w]
                          rfl
                        refine one_ (i := 6) (N := some 80) #[true, true, true, true, true, true, true, true, true, false, false, false, false] rfl rfl (one_of HT_.out (by kernel_rfl)) (by decide) (fun K hK => ?_)
                        refine Kd.R_lit_step (Kd.int .i64) _ 3 ?hg (N := 80) ?hd (xs := ([(-1), 0, t184, wrap64 (t184 + 1), a4] : List Int)) (inner := [.int .i64 (-1), .int .i64 0, .int .i64 t184, .int .i64 (wrap64 (t184 + 1)), .int .i64 a4]) (ok := fun _ => True) (okp := fun _ => True) ?hr ?hp (fun _ hk => hk) trivial (Below.refl _ _) (Nat.le_refl _) (by simp) ?_; (case hd => rfl); (case hg => rfl); (case hr => first | (go_simp; done) | (go_simp; rfl)); (case hp => exact (Reps.one (show Kd.M (Kd.int .i64) _ _ _ (-1) [.int .i64 (-1)] from rfl) (Reps.one (show Kd.M (Kd.int .i64) _ _ _ 0 [.int .i64 0] from rfl) (Reps.one (show Kd.M (Kd.int .i64) _ _ _ t184 [.int .i64 t184] from rfl) (Reps.one (show Kd.M (Kd.int .i64) _ _ _ (wrap64 (t184 + 1)) [.int .i64 (wrap64 (t184 + 1))] from rfl) (Reps.one (show Kd.M (Kd.int .i64) _ _ _ a4 [.int .i64 a4] from rfl) (Reps.none _ _)))))))
                        intro v204 w84 ho85 hb hg_ hnew_
                        clear hg_ hnew_
                        (first | rw [← Ny203.out] at ho85 | (simp only [Int.reduceToNat] at ho85; rw [← Ny203.out] at ho85))
                        have HO205 := Aside0.mk (Kd.R_lower ho85 (below_size (by repeat (first | (with_reducible first | exact HB.out | apply below_alloc | apply pw_below_drewN | apply below_drew1 | refine below_set ?_ GE177.out | refine below_set ?_ GE178.out | refine below_set ?_ GE186.out) | exact HB.out))))
                        replace BK177 := Aside0.mk (blk_below (g := gb177) (pk BK177) hb)
                        replace BK178 := Aside0.mk (blk_below (g := gb178) (pk BK178) hb)
                        replace BK186 := Aside0.mk (blk_below (g := gb186) (pk BK186) hb)
                        replace HB := Aside0.mk (below_step (by repeat (first | (with_reducible first | exact HB.out | apply below_alloc | apply pw_below_drewN | apply below_drew1 | refine below_set ?_ GE177.out | refine below_set ?_ GE178.out | refine below_set ?_ GE186.out) | exact HB.out)) hb)
                        clear hb ho85
                        obtain ⟨Ao86, co86, eo86⟩ := Kd.R_slice HO205.out
                        subst eo86
                        obtain ⟨ado86, fo86, _⟩ := Kd.at_int (Kd.R_reads' HO205.out).2.2 0 (by decide) (by rw [Ny203.out]; simp)
                        cases fo86
                        refine hK.out _ _ ⟨bc BK186 0, bc BK186 1, bc BK186 2, bc BK186 3, bc BK186 4, bc BK186 5⟩ (fun hHeld => ?_)
                        clear hK K
                        refine norm_ (a' := ?_) ?_ ?_
                        rotate_left
                        · show Act.put _ (some 80) _ = _
                          simp only [Act.put, List.setIfInBounds_toArray, List.set_cons_zero, List.set_cons_succ, i64_w, i32_w]
                          rfl
                        refine pure_ (i := 9) (N := some 83) (v := ?_) (a' := ?_) #[true, true, true, true, true, true, true, true, true, true, false, false, false] rfl rfl (any_of HT_.out (by kernel_rfl)) (fun _ _ _ h => h) (Or.inl ⟨by rfl, ?_⟩) ?_ ?_
                        rotate_left
                        · intro w'
                          go_simp
                          with_reducible rfl
                        rotate_left
                        · simp only [Act.put, List.setIfInBounds_toArray, List.set_cons_zero, List.set_cons_succ, i64_w, i32_w]
                          rfl
                        refine one_ (i := 10) (N := some 84) #[true, true, true, true, true, true, true, true, true, true, true, false, false] rfl rfl (one_of HT_.out (by kernel_rfl)) (by decide) (fun K hK => ?_)
                        (have p206 : 0 ≤ ((ji80) : Int) := of_decide_eq_true (by first | (with_reducible assumption) | assumption); have q206 : (ji80) < (y203.length : Int) := of_decide_eq_true (by first | (with_reducible assumption) | assumption); obtain ⟨ad206, e206, hx206_0⟩ := Kd.at_int (Kd.R_reads' HO205.out).2.2 (ji80) p206 q206; obtain rfl : ado86 = ad206 := (by injection e206))
                        with_reducible_and_instances refine value_ (w1 := ?_) (v := ?_) ?hw_ ?hN_ ?_ ?_
                        (case hw_ => rfl)
                        (case hN_ => rfl)
                        rotate_left 2
                        · go_simp
                          constructor
                          · rfl
                          · rfl
                        clear hx206_0
                        refine hK.out _ _ ⟨bc BK186 0, bc BK186 1, bc BK186 2, bc BK186 3, bc BK186 4, bc BK186 5⟩ (fun hHeld => ?_)
                        clear hK K
                        refine norm_ (a' := ?_) ?_ ?_
                        rotate_left
                        · show Act.put _ (some 84) _ = _
                          simp only [Act.put, List.setIfInBounds_toArray, List.set_cons_zero, List.set_cons_succ, i64_w, i32_w]
                          rfl
                        refine pure_ (i := 11) (N := some 85) (v := ?_) (a' := ?_) #[true, true, true, true, true, true, true, true, true, true, true, true, false] rfl rfl (any_of HT_.out (by kernel_rfl)) (fun _ _ _ h => h) (Or.inl ⟨by rfl, ?_⟩) ?_ ?_
                        rotate_left
                        · intro w'
                          go_simp
                          with_reducible rfl
                        rotate_left
                        · simp only [Act.put, List.setIfInBounds_toArray, List.set_cons_zero, List.set_cons_succ, i64_w, i32_w]
                          rfl
                        refine last_ (i := 12) (N := none) #[true, true, true, true, true, true, true, true, true, true, true, true, true] rfl rfl (one_of HT_.out (by kernel_rfl)) (by decide) (fun K hK => ?_)
                        have hs87 : w84.cell? ⟨gb186, 3, none⟩ = some (.int .i64 t183) := bc BK186 3
                        have hfs87 := blk_frozen BK186.out 3
                        have hns87_0 := NB177_186.out
                        have hns87_1 := NB178_186.out
                        have hms87_0 := NB186_177.out
                        have hms87_1 := NB186_178.out
                        with_reducible_and_instances refine skip_ (w1 := ?_) ?hw_ ?hN_ ?_ ?_
                        (case hw_ => rfl)
                        (case hN_ => rfl)
                        rotate_left
                        · go_simp
                          rfl
                        refine hK.out _ _ ?_
                        clear hK K
                        refine done_ (done_of HT_.out (by kernel_rfl)) ?_
                        try go_wp2_with (first | (go_at_call 15; refine (damperlaw2_within.keep _ _ rfl (by first | decide | assumption | exact wi_ne (by assumption) | exact wi_ne' (by assumption) | omega) _).mono ?_; rintro e w' ⟨rfl, rfl⟩))
                        go_meet
                        case rel => exact ⟨_, (t180), (t181), (t182), (rd y203 (ji80)), (t184), (t185), H', ⟨by have := HJ15.out; first | omega | exact Nat.le_refl _⟩, ⟨by (with_reducible repeat (first | refine blk_drewN ?_ _ | refine blk_drew ?_ | refine blk_alloc ?_ _)); refine blk_far ?_ NB177_186.out _; (with_reducible repeat (first | refine blk_drewN ?_ _ | refine blk_drew ?_ | refine blk_alloc ?_ _)); exact BK177.out⟩, ⟨by (with_reducible repeat (first | refine blk_drewN ?_ _ | refine blk_drew ?_ | refine blk_alloc ?_ _)); refine blk_far ?_ NB178_186.out _; (with_reducible repeat (first | refine blk_drewN ?_ _ | refine blk_drew ?_ | refine blk_alloc ?_ _)); exact BK178.out⟩, ⟨by (with_reducible repeat (first | refine blk_drewN ?_ _ | refine blk_drew ?_ | refine blk_alloc ?_ _)); refine blk_put (cs := #[.string t180, .int .i64 t181, .int .i64 t182, .int .i64 t183, .int .i64 t184, .int .i64 t185]) ?_ 3 _ rfl; (with_reducible repeat (first | refine blk_drewN ?_ _ | refine blk_drew ?_ | refine blk_alloc ?_ _)); exact BK186.out⟩, ⟨by repeat (first | (with_reducible first | exact HB.out | apply below_alloc | apply pw_below_drewN | apply below_drew1 | refine below_set ?_ GE177.out | refine below_set ?_ GE178.out | refine below_set ?_ GE186.out) | exact HB.out)⟩⟩
                      · rw [if_neg c79] at H
                        have c79b0 : ((ji42) == 4) = false := beq_eq_false_iff_ne.mpr c79
                        have c79b1 : ((ji42) != 4) = true := bne_iff_ne.mpr c79
                        by_cases c88 : (ji42) = 5
                        · rw [if_pos c88] at H
                          have c88b0 : ((ji42) == 5) = true := beq_iff_eq.mpr c88
                          have c88b1 : ((ji42) != 5) = false := bne_eq_false_iff_eq.mpr c88
                          clear c88
                          obtain ⟨y207, hy207⟩ : ∃ y_ : List Int, y_ = (([(-1), 30, 31, a4] : List Int)) := ⟨_, rfl⟩
                          replace H : (if 0 ≤ (wi a4 4) then (if (wi a4 4) < (y207.length : Int) then (damperlaw2_SpecConfigs.j1 kj15 t180 t181 t182 t183 t184 (rd y207 (wi a4 4))) else (none)) else (none)) = some r := by first | (rw [hy207]; with_reducible exact H) | (have H2_ := (Option.bind_some _ _).symm.trans H; rw [hy207]; with_reducible exact H2_) | (have H2_ := (Option.bind_some _ _).symm.trans H; with_reducible exact H2_) | with_reducible exact H | (rw [hy207]; exact H) | exact H
                          have Ny207 := Aside0.mk hy207
                          clear hy207
                          obtain ⟨ji89, hji89⟩ : ∃ j_ : Int, (wi a4 4) = j_ := ⟨_, rfl⟩
                          replace H : (if 0 ≤ (ji89) then (if (ji89) < (y207.length : Int) then (damperlaw2_SpecConfigs.j1 kj15 t180 t181 t182 t183 t184 (rd y207 (ji89))) else (none)) else (none)) = some r := by first | (rw [hji89] at H; exact H) | (simp only [hji89] at H ⊢; exact H)
                          by_cases c90 : 0 ≤ (ji89)
                          rotate_left
                          · rw [if_neg c90] at H
                            exact absurd H (by simp)
                          rw [if_pos c90] at H
                          have c90b0 : decide (0 ≤ (ji89)) = true := decide_eq_true c90
                          clear c90
                          by_cases c91 : (ji89) < (y207.length : Int)
                          rotate_left
                          · rw [if_neg c91] at H
                            exact absurd H (by simp)
                          rw [if_pos c91] at H
                          have c91b0 : decide ((ji89) < (y207.length : Int)) = true := decide_eq_true c91
                          clear c91
                          have H' := Aside0.mk H
                          clear H
                          go_wp2_with (first | (go_at_call 15; refine (damperlaw2_within.keep _ _ rfl (by first | decide | assumption | exact wi_ne (by assumption) | exact wi_ne' (by assumption) | omega) _).mono ?_; rintro e w' ⟨rfl, rfl⟩) | ((with_reducible refine gate_dst (N := 89) rfl ?_); refine Kd.R_lit (Kd.int .i64) _ 3 ?hg (N := 89) ?hd (xs := ([(-1), 30, 31, a4] : List Int)) (inner := [.int .i64 (-1), .int .i64 30, .int .i64 31, .int .i64 a4]) (ok := fun _ => True) (okp := fun _ => True) ?hr ?hp (fun _ hk => hk) trivial (Below.refl _ _) (Nat.le_refl _) (by simp) ?_; (case hd => rfl); (case hg => rfl); (case hr => first | (go_simp; done) | (go_simp; rfl)); (case hp => exact (Reps.one (show Kd.M (Kd.int .i64) _ _ _ (-1) [.int .i64 (-1)] from rfl) (Reps.one (show Kd.M (Kd.int .i64) _ _ _ 30 [.int .i64 30] from rfl) (Reps.one (show Kd.M (Kd.int .i64) _ _ _ 31 [.int .i64 31] from rfl) (Reps.one (show Kd.M (Kd.int .i64) _ _ _ a4 [.int .i64 a4] from rfl) (Reps.none _ _)))))); intro v208 w92 ho93 hb hg_ hnew_; clear hg_ hnew_; (first | rw [← Ny207.out] at ho93 | (simp only [Int.reduceToNat] at ho93; rw [← Ny207.out] at ho93)); have n0_ := Aside0.mk (Kd.R_lower ho93 (below_size (by repeat (first | (with_reducible first | exact HB.out | apply below_alloc | apply pw_below_drewN | apply below_drew1 | refine below_set ?_ GE177.out | refine below_set ?_ GE178.out | refine below_set ?_ GE186.out) | exact HB.out)))); have n1_ := Aside0.mk (blk_below (g := gb177) (pk BK177) hb); have n2_ := Aside0.mk (blk_below (g := gb178) (pk BK178) hb); have n3_ := Aside0.mk (blk_below (g := gb186) (pk BK186) hb); have n4_ := Aside0.mk (below_step (by repeat (first | (with_reducible first | exact HB.out | apply below_alloc | apply pw_below_drewN | apply below_drew1 | refine below_set ?_ GE177.out | refine below_set ?_ GE178.out | refine below_set ?_ GE186.out) | exact HB.out)) hb); clear BK177; clear BK178; clear BK186; clear HB; have HO209 := n0_; have BK177 := n1_; have BK178 := n2_; have BK186 := n3_; have HB := n4_; clear n0_ n1_ n2_ n3_ n4_; clear hb ho93; obtain ⟨Ao94, co94, eo94⟩ := Kd.R_slice HO209.out; subst eo94; have p210 : 0 ≤ ((ji89) : Int) := of_decide_eq_true (by first | (with_reducible assumption) | assumption); have q210 : (ji89) < (y207.length : Int) := of_decide_eq_true (by first | (with_reducible assumption) | assumption); obtain ⟨ad210, e210, hx210_0⟩ := Kd.at_int (Kd.R_reads' HO209.out).2.2 (ji89) p210 q210; cases e210; replace p210 := eq_true p210; replace q210 := eq_true q210; have hnb95 := NB186_177.out; have hnc95 := NB177_186.out; have hnb96 := NB186_178.out; have hnc96 := NB178_186.out; have hcz97_0 : w92.cell? ⟨gb186, 0, none⟩ = some (.string t180) := bc BK186 0; have hcz97_1 : w92.cell? ⟨gb186, 1, none⟩ = some (.int .i64 t181) := bc BK186 1; have hcz97_2 : w92.cell? ⟨gb186, 2, none⟩ = some (.int .i64 t182) := bc BK186 2; have hcz97_3 : w92.cell? ⟨gb186, 3, none⟩ = some (.int .i64 t183) := bc BK186 3; have hcz97_4 : w92.cell? ⟨gb186, 4, none⟩ = some (.int .i64 t184) := bc BK186 4; have hcz97_5 : w92.cell? ⟨gb186, 5, none⟩ = some (.int .i64 t185) := bc BK186 5; have hfz97_0 := blk_frozen BK186.out 0; have hfz97_1 := blk_frozen BK186.out 1; have hfz97_2 := blk_frozen BK186.out 2; have hfz97_3 := blk_frozen BK186.out 3; have hfz97_4 := blk_frozen BK186.out 4; have hfz97_5 := blk_frozen BK186.out 5))
                          go_meet
                          case rel => exact ⟨_, (t180), (t181), (t182), (t183), (t184), (rd y207 (ji89)), H', ⟨by have := HJ15.out; first | omega | exact Nat.le_refl _⟩, ⟨by (with_reducible repeat (first | refine blk_drewN ?_ _ | refine blk_drew ?_ | refine blk_alloc ?_ _)); refine blk_far ?_ NB177_186.out _; (with_reducible repeat (first | refine blk_drewN ?_ _ | refine blk_drew ?_ | refine blk_alloc ?_ _)); exact BK177.out⟩, ⟨by (with_reducible repeat (first | refine blk_drewN ?_ _ | refine blk_drew ?_ | refine blk_alloc ?_ _)); refine blk_far ?_ NB178_186.out _; (with_reducible repeat (first | refine blk_drewN ?_ _ | refine blk_drew ?_ | refine blk_alloc ?_ _)); exact BK178.out⟩, ⟨by (with_reducible repeat (first | refine blk_drewN ?_ _ | refine blk_drew ?_ | refine blk_alloc ?_ _)); refine blk_put (cs := #[.string t180, .int .i64 t181, .int .i64 t182, .int .i64 t183, .int .i64 t184, .int .i64 t185]) ?_ 5 _ rfl; (with_reducible repeat (first | refine blk_drewN ?_ _ | refine blk_drew ?_ | refine blk_alloc ?_ _)); exact BK186.out⟩, ⟨by repeat (first | (with_reducible first | exact HB.out | apply below_alloc | apply pw_below_drewN | apply below_drew1 | refine below_set ?_ GE177.out | refine below_set ?_ GE178.out | refine below_set ?_ GE186.out) | exact HB.out)⟩⟩
                        · rw [if_neg c88] at H
                          have c88b0 : ((ji42) == 5) = false := beq_eq_false_iff_ne.mpr c88
                          have c88b1 : ((ji42) != 5) = true := bne_iff_ne.mpr c88
                          have H' := Aside0.mk H
                          clear H
                          go_wp2_with (first | (go_at_call 15; refine (damperlaw2_within.keep _ _ rfl (by first | decide | assumption | exact wi_ne (by assumption) | exact wi_ne' (by assumption) | omega) _).mono ?_; rintro e w' ⟨rfl, rfl⟩))
                          go_meet
                          case rel => exact ⟨_, (t180), (t181), (t182), (t183), (t184), (t185), H', ⟨by have := HJ15.out; first | omega | exact Nat.le_refl _⟩, ⟨by (with_reducible repeat (first | refine blk_drewN ?_ _ | refine blk_drew ?_ | refine blk_alloc ?_ _)); exact BK177.out⟩, ⟨by (with_reducible repeat (first | refine blk_drewN ?_ _ | refine blk_drew ?_ | refine blk_alloc ?_ _)); exact BK178.out⟩, ⟨by (with_reducible repeat (first | refine blk_drewN ?_ _ | refine blk_drew ?_ | refine blk_alloc ?_ _)); exact BK186.out⟩, ⟨by repeat (first | (with_reducible first | exact HB.out | apply below_alloc | apply pw_below_drewN | apply below_drew1 | refine below_set ?_ GE177.out | refine below_set ?_ GE178.out | refine below_set ?_ GE186.out) | exact HB.out)⟩⟩
            case rest =>
              clear HC43
              try clear c1
              try clear p1
              try clear q1
              try clear hx1
              try clear c2
              try clear p2
              try clear q2
              try clear hx2
              try clear qi2
              try clear c3
              try clear c4
              try clear c5
              try clear c6
              try clear p6
              try clear c7
              try clear c8
              try clear c9
              try clear c9b0
              try clear c9b1
              try clear c11
              try clear c12
              try clear c13
              try clear c14
              try clear c15
              try clear c16
              try clear p19
              try clear q19
              try clear hx19
              try clear c20
              try clear p20
              try clear q20
              try clear hx20
              try clear qi20
              try clear p21
              try clear q21
              try clear hx21
              try clear c25
              try clear c26
              try clear c30
              try clear c30b0
              try clear c30b1
              try clear c41
              try clear c44
              try clear c44b0
              try clear c44b1
              try clear c47
              try clear c48
              try clear c50
              try clear c50b0
              try clear c50b1
              try clear c52
              try clear c52b0
              try clear c53
              try clear c53b0
              try clear c57
              try clear c58
              try clear c60
              try clear c60b0
              try clear c60b1
              try clear c62
              try clear c62b0
              try clear c63
              try clear c63b0
              try clear p64
              try clear c67
              try clear c68
              try clear c70
              try clear c70b0
              try clear c70b1
              try clear c72
              try clear c72b0
              try clear c73
              try clear c73b0
              try clear c79
              try clear c79b0
              try clear c79b1
              try clear c81
              try clear c81b0
              try clear c82
              try clear c82b0
              try clear c88
              try clear c88b0
              try clear c88b1
              try clear c90
              try clear c90b0
              try clear c91
              try clear c91b0
              try clear c95
              try clear c96
              try clear hcz14_0
              try clear hcz14_1
              try clear hcz14_2
              try clear hcz14_3
              try clear hcz14_4
              try clear hcz14_5
              try clear hcz21_0
              try clear hcz21_1
              try clear hcz21_2
              try clear hcz21_3
              try clear hcz21_4
              try clear hcz21_5
              try clear hcz22_0
              try clear hcz22_1
              try clear hcz22_2
              try clear hcz22_3
              try clear hcz22_4
              try clear hcz22_5
              try clear hcz27_0
              try clear hcz27_1
              try clear hcz27_2
              try clear hcz27_3
              try clear hcz27_4
              try clear hcz27_5
              try clear hcz49_0
              try clear hcz49_1
              try clear hcz49_2
              try clear hcz49_3
              try clear hcz49_4
              try clear hcz49_5
              try clear hcz59_0
              try clear hcz59_1
              try clear hcz59_2
              try clear hcz59_3
              try clear hcz59_4
              try clear hcz59_5
              try clear hcz69_0
              try clear hcz69_1
              try clear hcz69_2
              try clear hcz69_3
              try clear hcz69_4
              try clear hcz69_5
              try clear hcz97_0
              try clear hcz97_1
              try clear hcz97_2
              try clear hcz97_3
              try clear hcz97_4
              try clear hcz97_5
              try clear hfz14_0
              try clear hfz14_1
              try clear hfz14_2
              try clear hfz14_3
              try clear hfz14_4
              try clear hfz14_5
              try clear hfz21_0
              try clear hfz21_1
              try clear hfz21_2
              try clear hfz21_3
              try clear hfz21_4
              try clear hfz21_5
              try clear hfz22_0
              try clear hfz22_1
              try clear hfz22_2
              try clear hfz22_3
              try clear hfz22_4
              try clear hfz22_5
              try clear hfz27_0
              try clear hfz27_1
              try clear hfz27_2
              try clear hfz27_3
              try clear hfz27_4
              try clear hfz27_5
              try clear hfz49_0
              try clear hfz49_1
              try clear hfz49_2
              try clear hfz49_3
              try clear hfz49_4
              try clear hfz49_5
              try clear hfz59_0
              try clear hfz59_1
              try clear hfz59_2
              try clear hfz59_3
              try clear hfz59_4
              try clear hfz59_5
              try clear hfz69_0
              try clear hfz69_1
              try clear hfz69_2
              try clear hfz69_3
              try clear hfz69_4
              try clear hfz69_5
              try clear hfz97_0
              try clear hfz97_1
              try clear hfz97_2
              try clear hfz97_3
              try clear hfz97_4
              try clear hfz97_5
              try clear hx194_0
              try clear hx198_0
              try clear hx202_0
              try clear hx206_0
              try clear hx210_0
              try clear p194
              try clear p198
              try clear p202
              try clear p206
              try clear p210
              try clear q194
              try clear q198
              try clear q202
              try clear q206
              try clear q210
              obtain ⟨kq, x187000_42, x187001_42, x187002_42, x187003_42, x187004_42, x187005_42, HA, HJ42, BK177, BK178, BK186, HB⟩ := hcut
              cases kq with
              | zero => exact absurd HA.out (by simp [damperlaw2_SpecConfigs.j1])
              | succ kj42 =>
                have H := HA.out
                clear HA
                simp only [damperlaw2_SpecConfigs.j1] at H
                replace H := Option.bind_eq_some_iff.mp H
                obtain ⟨t211, A980, H⟩ := H
                replace H : ((damperref2_Config.f kj42 x187000_42 x187001_42 x187002_42 x187003_42 x187004_42 x187005_42).bind fun t212 => (some (t211 == t212))) = some r := H
                have A98 := Aside0.mk A980
                clear A980
                replace H := Option.bind_eq_some_iff.mp H
                obtain ⟨t212, A990, H⟩ := H
                replace H : (some (t211 == t212)) = some r := H
                have A99 := Aside0.mk A990
                clear A990
                obtain rfl := Option.some.inj H
                try go_wp2_with (first | (go_at_call 15; refine (damperlaw2_within.keep _ _ rfl (by first | decide | assumption | exact wi_ne (by assumption) | exact wi_ne' (by assumption) | omega) _).mono ?_; rintro e w' ⟨rfl, rfl⟩))
                replace BK177 := Aside0.mk (blk_drew BK177.out)
                replace BK178 := Aside0.mk (blk_drew BK178.out)
                replace BK186 := Aside0.mk (blk_drew BK186.out)
                replace HB := Aside0.mk (below_drew1 HB.out)
                refine start_ (n := 6) (S := fun w' => w'.cell? ⟨gb186, 0, none⟩ = some (.string x187000_42) ∧ w'.cell? ⟨gb186, 1, none⟩ = some (.int .i64 x187001_42) ∧ w'.cell? ⟨gb186, 2, none⟩ = some (.int .i64 x187002_42) ∧ w'.cell? ⟨gb186, 3, none⟩ = some (.int .i64 x187003_42) ∧ w'.cell? ⟨gb186, 4, none⟩ = some (.int .i64 x187004_42) ∧ w'.cell? ⟨gb186, 5, none⟩ = some (.int .i64 x187005_42)) (ds := []) #[false, false, false, false, false, false] (by kernel_rfl) rfl rfl ⟨bc BK186 0, bc BK186 1, bc BK186 2, bc BK186 3, bc BK186 4, bc BK186 5⟩ (fun hHeld => ?_)
                generalize wc.drew = w100 at BK177 BK178 BK186 HB hHeld ⊢
                refine take_ (i := 0) (N := some 95) (v := ?_) (a' := ?_) #[true, false, false, false, false, false] rfl rfl (by kernel_rfl) (fun _ _ _ h => h) (Or.inl ⟨by rfl, ?_⟩) hHeld ?_ ?_
                rotate_left
                · rintro w' ⟨s0, s1, s2, s3, s4, s5⟩
                  go_simp
                  with_reducible rfl
                rotate_left
                · simp only [Act.put, List.setIfInBounds_toArray, List.set_cons_zero, List.set_cons_succ, i64_w, i32_w]
                  rfl
                refine take_ (i := 2) (N := some 97) (v := ?_) (a' := ?_) #[true, false, true, false, false, false] rfl rfl (by kernel_rfl) (fun _ _ _ h => h) (Or.inl ⟨by rfl, ?_⟩) hHeld ?_ ?_
                rotate_left
                · rintro w' ⟨s0, s1, s2, s3, s4, s5⟩
                  go_simp
                  with_reducible rfl
                rotate_left
                · simp only [Act.put, List.setIfInBounds_toArray, List.set_cons_zero, List.set_cons_succ, i64_w, i32_w]
                  rfl
                refine one_ (i := 1) (N := some 96) #[true, true, true, false, false, false] rfl rfl (by kernel_rfl) (by decide) (fun K hK => ?_)
                refine goes_ Tryd.func13 (by kernel_rfl) rfl #[.agg #[.string x187000_42, .int .i64 x187001_42, .int .i64 x187002_42, .int .i64 x187003_42, .int .i64 x187004_42, .int .i64 x187005_42]] (by rfl) rfl rfl (by (try simp only [List.map_toArray, List.map_cons, List.map_nil]); first | done | rfl | (simp only [List.length_drop, List.length_take]; rfl)) ?_
                with_reducible refine (spec_Config.calls kj42 x187000_42 x187001_42 x187002_42 x187003_42 x187004_42 x187005_42 t211 _ A98.out).mono ?_
                rintro e w101 ⟨rfl, hb⟩
                refine ⟨_, rfl, ?_⟩
                replace BK177 := Aside0.mk (blk_below (g := gb177) (pk BK177) hb)
                replace BK178 := Aside0.mk (blk_below (g := gb178) (pk BK178) hb)
                replace BK186 := Aside0.mk (blk_below (g := gb186) (pk BK186) hb)
                replace HB := Aside0.mk (below_step (by repeat (first | (with_reducible first | exact HB.out | apply below_alloc | apply pw_below_drewN | apply below_drew1 | refine below_set ?_ GE177.out | refine below_set ?_ GE178.out | refine below_set ?_ GE186.out) | exact HB.out)) hb)
                (try clear hb)
                (try clear hb2)
                (try clear hk)
                (try clear hi)
                refine hK.out _ _ ⟨bc BK186 0, bc BK186 1, bc BK186 2, bc BK186 3, bc BK186 4, bc BK186 5⟩ (fun hHeld => ?_)
                clear hK K
                refine norm_ (a' := ?_) ?_ ?_
                rotate_left
                · show Act.put _ (some 96) _ = _
                  simp only [Act.put, List.setIfInBounds_toArray, List.set_cons_zero, List.set_cons_succ, i64_w, i32_w]
                  rfl
                refine one_ (i := 3) (N := some 98) #[true, true, true, true, false, false] rfl rfl (by kernel_rfl) (by decide) (fun K hK => ?_)
                refine goes_ Tryd.func14 (by kernel_rfl) rfl #[.agg #[.string x187000_42, .int .i64 x187001_42, .int .i64 x187002_42, .int .i64 x187003_42, .int .i64 x187004_42, .int .i64 x187005_42]] (by rfl) rfl rfl (by (try simp only [List.map_toArray, List.map_cons, List.map_nil]); first | done | rfl | (simp only [List.length_drop, List.length_take]; rfl)) ?_
                with_reducible refine (damperref2_Config.calls kj42 x187000_42 x187001_42 x187002_42 x187003_42 x187004_42 x187005_42 t212 _ A99.out).mono ?_
                rintro e w102 ⟨rfl, hb⟩
                refine ⟨_, rfl, ?_⟩
                replace BK177 := Aside0.mk (blk_below (g := gb177) (pk BK177) hb)
                replace BK178 := Aside0.mk (blk_below (g := gb178) (pk BK178) hb)
                replace BK186 := Aside0.mk (blk_below (g := gb186) (pk BK186) hb)
                replace HB := Aside0.mk (below_step (by repeat (first | (with_reducible first | exact HB.out | apply below_alloc | apply pw_below_drewN | apply below_drew1 | refine below_set ?_ GE177.out | refine below_set ?_ GE178.out | refine below_set ?_ GE186.out) | exact HB.out)) hb)
                (try clear hb)
                (try clear hb2)
                (try clear hk)
                (try clear hi)
                refine hK.out _ _ ⟨bc BK186 0, bc BK186 1, bc BK186 2, bc BK186 3, bc BK186 4, bc BK186 5⟩ (fun hHeld => ?_)
                clear hK K
                refine norm_ (a' := ?_) ?_ ?_
                rotate_left
                · show Act.put _ (some 98) _ = _
                  simp only [Act.put, List.setIfInBounds_toArray, List.set_cons_zero, List.set_cons_succ, i64_w, i32_w]
                  rfl
                refine pure_ (i := 4) (N := some 99) (v := ?_) (a' := ?_) #[true, true, true, true, true, false] rfl rfl (by kernel_rfl) (fun _ _ _ h => h) (Or.inl ⟨by rfl, ?_⟩) ?_ ?_
                rotate_left
                · intro w'
                  go_simp
                  with_reducible rfl
                rotate_left
                · simp only [Act.put, List.setIfInBounds_toArray, List.set_cons_zero, List.set_cons_succ, i64_w, i32_w]
                  rfl
                refine pure_ (i := 5) (N := some 12) (v := ?_) (a' := ?_) #[true, true, true, true, true, true] rfl rfl (by kernel_rfl) (fun _ _ _ h => h) (Or.inl ⟨by rfl, ?_⟩) ?_ ?_
                rotate_left
                · intro w'
                  go_simp
                  with_reducible rfl
                rotate_left
                · simp only [Act.put, List.setIfInBounds_toArray, List.set_cons_zero, List.set_cons_succ, i64_w, i32_w]
                  rfl
                refine done_ (by kernel_rfl) ?_
                try go_wp2_with (first | (go_at_call 15; refine (damperlaw2_within.keep _ _ rfl (by first | decide | assumption | exact wi_ne (by assumption) | exact wi_ne' (by assumption) | omega) _).mono ?_; rintro e w' ⟨rfl, rfl⟩))
                go_ret
                exact ⟨by first | rfl | (simp [errW_none, errW_some] <;> rfl) | (simp only [← hji42]; first | rfl | (simp [errW_none, errW_some] <;> rfl)) | (simp [*, errW_none, errW_some] <;> rfl), by repeat (first | (with_reducible first | exact HB.out | apply below_alloc | apply pw_below_drewN | apply below_drew1 | refine below_set ?_ GE177.out | refine below_set ?_ GE178.out | refine below_set ?_ GE186.out) | exact HB.out)⟩
  · replace c8 := Bool.eq_false_iff.mpr c8
    subst c8
    have H1 : (some false) = some r := by rw [if_neg (show ¬ (false = true) by decide)] at H; exact H
    clear H
    have H := H1
    clear H1
    exact absurd (Option.some.inj H) (by rw [hr0_.out]; decide)

/-- THE ONE PURE STATEMENT of damperlaw2_SpecConfigs: yours. -/
def damperlaw2_SpecConfigs.Pure : Prop := ∀ (a0_0 : ByteArray) (a0_1 : Int) (a0_2 : Int) (a0_3 : Int) (a0_4 : Int) (a0_5 : Int) (a1_0 : ByteArray) (a1_1 : Int) (a1_2 : Int) (a1_3 : Int) (a1_4 : Int) (a1_5 : Int) (a2 : Int) (a3 : Int) (a4 : Int) (l5 : List Int), (a0_0.size ≤ maxLen) → ((Lit.int .i64 a0_1).wf = true) → ((Lit.int .i64 a0_2).wf = true) → ((Lit.int .i64 a0_3).wf = true) → ((Lit.int .i64 a0_4).wf = true) → ((Lit.int .i64 a0_5).wf = true) → (a1_0.size ≤ maxLen) → ((Lit.int .i64 a1_1).wf = true) → ((Lit.int .i64 a1_2).wf = true) → ((Lit.int .i64 a1_3).wf = true) → ((Lit.int .i64 a1_4).wf = true) → ((Lit.int .i64 a1_5).wf = true) → ((Lit.int .i64 a2).wf = true) → ((Lit.int .i64 a3).wf = true) → ((Lit.int .i64 a4).wf = true) → (l5.length ≤ maxLen ∧ ∀ y_ ∈ l5, (Lit.int .i64 y_).wf = true) → ∃ k, damperlaw2_SpecConfigs.f k a0_0 a0_1 a0_2 a0_3 a0_4 a0_5 a1_0 a1_1 a1_2 a1_3 a1_4 a1_5 a2 a3 a4 l5 = some true
theorem damperlaw2_SpecConfigs.walk (P : damperlaw2_SpecConfigs.Pure) (a0_0 : ByteArray) (a0_1 : Int) (a0_2 : Int) (a0_3 : Int) (a0_4 : Int) (a0_5 : Int) (a1_0 : ByteArray) (a1_1 : Int) (a1_2 : Int) (a1_3 : Int) (a1_4 : Int) (a1_5 : Int) (a2 : Int) (a3 : Int) (a4 : Int) (A5 : Option Addr) (c5 : Nat) (l5 : List Int) (w : World) (hLd_ : LaidW w) (w0_0 : a0_0.size ≤ maxLen) (w0_1 : (Lit.int .i64 a0_1).wf = true) (w0_2 : (Lit.int .i64 a0_2).wf = true) (w0_3 : (Lit.int .i64 a0_3).wf = true) (w0_4 : (Lit.int .i64 a0_4).wf = true) (w0_5 : (Lit.int .i64 a0_5).wf = true) (w1_0 : a1_0.size ≤ maxLen) (w1_1 : (Lit.int .i64 a1_1).wf = true) (w1_2 : (Lit.int .i64 a1_2).wf = true) (w1_3 : (Lit.int .i64 a1_3).wf = true) (w1_4 : (Lit.int .i64 a1_4).wf = true) (w1_5 : (Lit.int .i64 a1_5).wf = true) (w2 : (Lit.int .i64 a2).wf = true) (w3 : (Lit.int .i64 a3).wf = true) (w4 : (Lit.int .i64 a4).wf = true) (w5 : l5.length ≤ maxLen ∧ ∀ y_ ∈ l5, (Lit.int .i64 y_).wf = true) (hr5 : Kd.C (Kd.int .i64) w A5 l5.length l5) (hc5 : l5.length ≤ c5) :
    Calls Tryd.prog 3 #[.agg #[.string a0_0, .int .i64 a0_1, .int .i64 a0_2, .int .i64 a0_3, .int .i64 a0_4, .int .i64 a0_5], .agg #[.string a1_0, .int .i64 a1_1, .int .i64 a1_2, .int .i64 a1_3, .int .i64 a1_4, .int .i64 a1_5], .int .i64 a2, .int .i64 a3, .int .i64 a4, .slice A5 l5.length c5] w fun e w' => e = .returned (.bool true) ∧ Below w.heap.size w w' := by
  obtain ⟨k, h⟩ := P a0_0 a0_1 a0_2 a0_3 a0_4 a0_5 a1_0 a1_1 a1_2 a1_3 a1_4 a1_5 a2 a3 a4 l5 w0_0 w0_1 w0_2 w0_3 w0_4 w0_5 w1_0 w1_1 w1_2 w1_3 w1_4 w1_5 w2 w3 w4 w5
  refine (damperlaw2_SpecConfigs.calls k a0_0 a0_1 a0_2 a0_3 a0_4 a0_5 a1_0 a1_1 a1_2 a1_3 a1_4 a1_5 a2 a3 a4 A5 c5 l5 true w ⟨hLd_⟩ hr5 hc5 ⟨rfl⟩ h).mono ?_
  rintro e w' ⟨rfl, hd⟩
  exact ⟨rfl, hd⟩

end Go.Proofs.YthdpnbfjpbiieaaDoor.Ma
