-- Written by a program of this session (wip/tools/myprint.py), in the form of the kit's print. Not trusted: Lean checks it.
import Derived.Test.YthdpnbfjpbiieaaDoorMax0
import Derived.Test.YthdpnbfjpbiieaaDoorMax4
import Derived.Test.YthdpnbfjpbiieaaDoorMax14
namespace Go.Proofs.YthdpnbfjpbiieaaDoor.Ma
open Go.RowKit Go.Proofs.YthdpnbfjpbiieaaDoorW.PrintWords Go.Proofs.YthdpnbfjpbiieaaDoorW.PrintLast Go.Proofs.YthdpnbfjpbiieaaDoorW.PrintMore
attribute [local go_sem] max2_int min2_int max_two min_two max_three min_three max_four min_four   -- for this text's walks alone
set_option linter.unusedVariables false
set_option linter.unusedSimpArgs false

/-! ### damperlaw2_config: function 21 -/
def damperlaw2_config.f (a0 : Int) (a1 : Int) (a2 : Int) (a3 : Int) : Option (ByteArray × Int × Int × Int × Int × Int) := some ((⟨#[97]⟩ : ByteArray), 0, a0, a2, a1, a3)
set_option maxHeartbeats 8000000 in
set_option maxRecDepth 100000 in
theorem damperlaw2_config.calls (a0 : Int) (a1 : Int) (a2 : Int) (a3 : Int) (r1 : ByteArray) (r2 : Int) (r3 : Int) (r4 : Int) (r5 : Int) (r6 : Int) (w : World) (h : damperlaw2_config.f a0 a1 a2 a3 = some (r1, r2, r3, r4, r5, r6)) :
    Calls Tryd.prog 21 #[.int .i64 a0, .int .i64 a1, .int .i64 a2, .int .i64 a3] w fun e w' => e = .returned (.agg #[.string r1, .int .i64 r2, .int .i64 r3, .int .i64 r4, .int .i64 r5, .int .i64 r6]) ∧ Below w.heap.size w w' := by
  have hu23 := Tryd.underlying23
  have HB := Aside0.mk (Below.refl w.heap.size w)
  have H : (some ((⟨#[97]⟩ : ByteArray), 0, a0, a2, a1, a3)) = some (r1, r2, r3, r4, r5, r6) := h
  clear h
  simp only [Option.some.injEq, Prod.mk.injEq] at H
  obtain ⟨rfl, rfl, rfl, rfl, rfl, rfl⟩ := H
  go_enter Tryd.func21, Tryd.ntmps21
  go_wp2_with (first | ((with_reducible refine gate_dst (N := 8) rfl ?_); refine box_event ?hg (N := 8) ?hd (cs := #[.string (⟨#[]⟩ : ByteArray), .int .i64 0, .int .i64 0, .int .i64 0, .int .i64 0, .int .i64 0]) (t := 23) ?hr ?_; (case hd => rfl); (case hg => rfl); (case hr => first | (go_simp; done) | (go_simp; rfl)); intro gb314 hg w5 hbox hb; have n0_ := Aside0.mk (below_step (by repeat (first | (with_reducible first | exact HB.out | apply below_alloc | apply pw_below_drewN | apply below_drew1) | exact HB.out)) hb); have n1_ := Aside0.mk (hbox); have n2_ := Aside0.mk ((by rw [hg]; exact (below_size (by repeat (first | (with_reducible first | exact HB.out | apply below_alloc | apply pw_below_drewN | apply below_drew1) | exact HB.out))) : w.heap.size ≤ gb314)); have n3_ := Aside0.mk ((by rw [hg]; exact (below_size (by repeat (first | (with_reducible first | exact HB.out | apply below_alloc | apply pw_below_drewN | apply below_drew1) | exact HB.out))) : w.heap.size ≤ gb314)); clear HB; have HB := n0_; have BK314 := n1_; have GW314 := n2_; have GE314 := n3_; clear n0_ n1_ n2_ n3_; clear hb hbox hg; have hcz6_0 : w5.cell? ⟨gb314, 0, none⟩ = some (.string (⟨#[]⟩ : ByteArray)) := bc BK314 0; have hcz6_1 : w5.cell? ⟨gb314, 1, none⟩ = some (.int .i64 0) := bc BK314 1; have hcz6_2 : w5.cell? ⟨gb314, 2, none⟩ = some (.int .i64 0) := bc BK314 2; have hcz6_3 : w5.cell? ⟨gb314, 3, none⟩ = some (.int .i64 0) := bc BK314 3; have hcz6_4 : w5.cell? ⟨gb314, 4, none⟩ = some (.int .i64 0) := bc BK314 4; have hcz6_5 : w5.cell? ⟨gb314, 5, none⟩ = some (.int .i64 0) := bc BK314 5; have hfz6_0 := blk_frozen BK314.out 0; have hfz6_1 := blk_frozen BK314.out 1; have hfz6_2 := blk_frozen BK314.out 2; have hfz6_3 := blk_frozen BK314.out 3; have hfz6_4 := blk_frozen BK314.out 4; have hfz6_5 := blk_frozen BK314.out 5))
  refine bodyPost_ret (results_cell_row rfl _ _ gb314 23 #[.string (⟨#[97]⟩ : ByteArray), .int .i64 0, .int .i64 a0, .int .i64 a2, .int .i64 a1, .int .i64 a3] (0, 0) _ rfl (by (with_reducible repeat (first | refine blk_drewN ?_ _ | refine blk_drew ?_ | refine blk_alloc ?_ _)); refine blk_put (cs := #[.string (⟨#[97]⟩ : ByteArray), .int .i64 0, .int .i64 a0, .int .i64 a2, .int .i64 a1, .int .i64 0]) ?_ 5 _ rfl; (with_reducible repeat (first | refine blk_drewN ?_ _ | refine blk_drew ?_ | refine blk_alloc ?_ _)); refine blk_put (cs := #[.string (⟨#[97]⟩ : ByteArray), .int .i64 0, .int .i64 a0, .int .i64 a2, .int .i64 0, .int .i64 0]) ?_ 4 _ rfl; (with_reducible repeat (first | refine blk_drewN ?_ _ | refine blk_drew ?_ | refine blk_alloc ?_ _)); refine blk_put (cs := #[.string (⟨#[97]⟩ : ByteArray), .int .i64 0, .int .i64 a0, .int .i64 0, .int .i64 0, .int .i64 0]) ?_ 3 _ rfl; (with_reducible repeat (first | refine blk_drewN ?_ _ | refine blk_drew ?_ | refine blk_alloc ?_ _)); refine blk_put (cs := #[.string (⟨#[97]⟩ : ByteArray), .int .i64 0, .int .i64 0, .int .i64 0, .int .i64 0, .int .i64 0]) ?_ 2 _ rfl; (with_reducible repeat (first | refine blk_drewN ?_ _ | refine blk_drew ?_ | refine blk_alloc ?_ _)); refine blk_put (cs := #[.string (⟨#[97]⟩ : ByteArray), .int .i64 0, .int .i64 0, .int .i64 0, .int .i64 0, .int .i64 0]) ?_ 1 _ rfl; (with_reducible repeat (first | refine blk_drewN ?_ _ | refine blk_drew ?_ | refine blk_alloc ?_ _)); refine blk_put (cs := #[.string (⟨#[]⟩ : ByteArray), .int .i64 0, .int .i64 0, .int .i64 0, .int .i64 0, .int .i64 0]) ?_ 0 _ rfl; (with_reducible repeat (first | refine blk_drewN ?_ _ | refine blk_drew ?_ | refine blk_alloc ?_ _)); exact BK314.out) Tryd.underlying23 rfl (by kernel_rfl)) rfl ?_
  exact ⟨by first | rfl | (simp [errW_none, errW_some] <;> rfl) | (simp [*, errW_none, errW_some] <;> rfl), by repeat (first | (with_reducible first | exact HB.out | apply below_alloc | apply pw_below_drewN | apply below_drew1 | refine below_set ?_ GE314.out) | exact HB.out)⟩

/-! ### damperlaw2_SpecKnown: function 6 -/
def damperlaw2_SpecKnown.f (k : Nat) (a0 : Int) : Option (Bool) := (damperlaw2_known.f k).bind fun t315 => (if t315 = true then ((damperlaw2_config.f 1 1 0 0).bind fun bt316 => ((some (([(⟨bt316.1, bt316.2.1, bt316.2.2.1, bt316.2.2.2.1, bt316.2.2.2.2.1, bt316.2.2.2.2.2⟩ : S23), (⟨(⟨#[65]⟩ : ByteArray), 0, 1, 0, 1, 0⟩ : S23), (⟨(⟨#[97]⟩ : ByteArray), 0, 0, 0, 1, 0⟩ : S23), (⟨(⟨#[97]⟩ : ByteArray), 0, 9, 0, 1, 0⟩ : S23), (⟨(⟨#[97]⟩ : ByteArray), 255, 8, 10, 10, 30⟩ : S23), (⟨(⟨#[97]⟩ : ByteArray), 0, 1, 0, 11, 0⟩ : S23), (⟨(⟨#[97]⟩ : ByteArray), 0, 1, 3, 2, 0⟩ : S23), (⟨(⟨#[97]⟩ : ByteArray), 0, 1, 0, 1, 31⟩ : S23), (⟨(⟨#[97]⟩ : ByteArray), 256, 1, 0, 1, 0⟩ : S23), (⟨(⟨#[]⟩ : ByteArray), 0, 9, 0, 0, 0⟩ : S23)] : List (S23)) : List (S23))).bind fun y323 => ((some (([0, 1, 2, 2, 0, 2, 2, 2, 2, 1] : List Int) : List Int)).bind fun y326 => (if (y323.length : Int) = 0 then (none) else (if 0 ≤ (wi a0 (y323.length : Int)) then (if (wi a0 (y323.length : Int)) < (y323.length : Int) then ((spec_Config.f k ((rd_T23 y323 (wi a0 (y323.length : Int))).f0) ((rd_T23 y323 (wi a0 (y323.length : Int))).f1) ((rd_T23 y323 (wi a0 (y323.length : Int))).f2) ((rd_T23 y323 (wi a0 (y323.length : Int))).f3) ((rd_T23 y323 (wi a0 (y323.length : Int))).f4) ((rd_T23 y323 (wi a0 (y323.length : Int))).f5)).bind fun t330 => (if (wi a0 (y323.length : Int)) < (y326.length : Int) then (some (t330 == (rd y326 (wi a0 (y323.length : Int))))) else (none))) else (none)) else (none)))))) else (some false))
theorem damperlaw2_SpecKnown.mono : ∀ a0 k, LeO (damperlaw2_SpecKnown.f k a0) (damperlaw2_SpecKnown.f (k + 1) a0) := by
  intro a0 k
  unfold damperlaw2_SpecKnown.f
  repeat' first
      | (with_reducible exact damperlaw2_known.mono _)
      | (with_reducible exact spec_Config.mono _ _ _ _ _ _ _)
      | (with_reducible exact LeO.refl _)
      | (with_reducible exact LeO.none _)
      | (with_reducible refine LeO.ite ?_ ?_)
      | (with_reducible refine LeO.bind ?_ (fun _ => ?_))
      | exact damperlaw2_known.mono _
      | exact spec_Config.mono _ _ _ _ _ _ _
      | exact LeO.none _
      | refine LeO.ite ?_ ?_
      | refine LeO.bind ?_ (fun _ => ?_)
def damperlaw2_SpecKnown.T7 : Bool × List (List Nat × List Nat) := (true, [([], []), ([], []), ([0, 1], [0, 1]), ([2], [2]), ([3], [3]), ([], []), ([], []), ([5, 6], [5, 6]), ([7], [7]), ([4, 8], [4, 8]), ([9, 4, 0, 1, 2, 3, 4, 5, 6, 7, 8, 9], [9])])
def damperlaw2_SpecKnown.B7 : List Nat := [0, 0, 3, 7, 15, 0, 0, 96, 224, 511, 1023]
theorem damperlaw2_SpecKnown.tab7 : rtab .any (opsOf Tryd.f6 7) = damperlaw2_SpecKnown.T7 := by kernel_rfl
theorem damperlaw2_SpecKnown.bits7 : waitsOk damperlaw2_SpecKnown.T7.2 damperlaw2_SpecKnown.B7 = true := by kernel_rfl
set_option maxHeartbeats 8000000 in
set_option maxRecDepth 100000 in
theorem damperlaw2_SpecKnown.calls (k : Nat) (a0 : Int) (r : Bool) (w : World) (hLd_ : Aside0 (LaidW w)) (hr0_ : Aside0 (r = true)) (h : damperlaw2_SpecKnown.f k a0 = some r) :
    Calls Tryd.prog 6 #[.int .i64 a0] w fun e w' => e = .returned (.bool r) ∧ Below w.heap.size w w' := by
  have hu23 := Tryd.underlying23
  have HB := Aside0.mk (Below.refl w.heap.size w)
  have H : ((damperlaw2_known.f k).bind fun t315 => (if t315 = true then ((damperlaw2_config.f 1 1 0 0).bind fun bt316 => ((some (([(⟨bt316.1, bt316.2.1, bt316.2.2.1, bt316.2.2.2.1, bt316.2.2.2.2.1, bt316.2.2.2.2.2⟩ : S23), (⟨(⟨#[65]⟩ : ByteArray), 0, 1, 0, 1, 0⟩ : S23), (⟨(⟨#[97]⟩ : ByteArray), 0, 0, 0, 1, 0⟩ : S23), (⟨(⟨#[97]⟩ : ByteArray), 0, 9, 0, 1, 0⟩ : S23), (⟨(⟨#[97]⟩ : ByteArray), 255, 8, 10, 10, 30⟩ : S23), (⟨(⟨#[97]⟩ : ByteArray), 0, 1, 0, 11, 0⟩ : S23), (⟨(⟨#[97]⟩ : ByteArray), 0, 1, 3, 2, 0⟩ : S23), (⟨(⟨#[97]⟩ : ByteArray), 0, 1, 0, 1, 31⟩ : S23), (⟨(⟨#[97]⟩ : ByteArray), 256, 1, 0, 1, 0⟩ : S23), (⟨(⟨#[]⟩ : ByteArray), 0, 9, 0, 0, 0⟩ : S23)] : List (S23)) : List (S23))).bind fun y323 => ((some (([0, 1, 2, 2, 0, 2, 2, 2, 2, 1] : List Int) : List Int)).bind fun y326 => (if (y323.length : Int) = 0 then (none) else (if 0 ≤ (wi a0 (y323.length : Int)) then (if (wi a0 (y323.length : Int)) < (y323.length : Int) then ((spec_Config.f k ((rd_T23 y323 (wi a0 (y323.length : Int))).f0) ((rd_T23 y323 (wi a0 (y323.length : Int))).f1) ((rd_T23 y323 (wi a0 (y323.length : Int))).f2) ((rd_T23 y323 (wi a0 (y323.length : Int))).f3) ((rd_T23 y323 (wi a0 (y323.length : Int))).f4) ((rd_T23 y323 (wi a0 (y323.length : Int))).f5)).bind fun t330 => (if (wi a0 (y323.length : Int)) < (y326.length : Int) then (some (t330 == (rd y326 (wi a0 (y323.length : Int))))) else (none))) else (none)) else (none)))))) else (some false))) = some r := h
  clear h
  replace H := Option.bind_eq_some_iff.mp H
  obtain ⟨t315, A20, H⟩ := H
  replace H : (if t315 = true then ((damperlaw2_config.f 1 1 0 0).bind fun bt316 => ((some (([(⟨bt316.1, bt316.2.1, bt316.2.2.1, bt316.2.2.2.1, bt316.2.2.2.2.1, bt316.2.2.2.2.2⟩ : S23), (⟨(⟨#[65]⟩ : ByteArray), 0, 1, 0, 1, 0⟩ : S23), (⟨(⟨#[97]⟩ : ByteArray), 0, 0, 0, 1, 0⟩ : S23), (⟨(⟨#[97]⟩ : ByteArray), 0, 9, 0, 1, 0⟩ : S23), (⟨(⟨#[97]⟩ : ByteArray), 255, 8, 10, 10, 30⟩ : S23), (⟨(⟨#[97]⟩ : ByteArray), 0, 1, 0, 11, 0⟩ : S23), (⟨(⟨#[97]⟩ : ByteArray), 0, 1, 3, 2, 0⟩ : S23), (⟨(⟨#[97]⟩ : ByteArray), 0, 1, 0, 1, 31⟩ : S23), (⟨(⟨#[97]⟩ : ByteArray), 256, 1, 0, 1, 0⟩ : S23), (⟨(⟨#[]⟩ : ByteArray), 0, 9, 0, 0, 0⟩ : S23)] : List (S23)) : List (S23))).bind fun y323 => ((some (([0, 1, 2, 2, 0, 2, 2, 2, 2, 1] : List Int) : List Int)).bind fun y326 => (if (y323.length : Int) = 0 then (none) else (if 0 ≤ (wi a0 (y323.length : Int)) then (if (wi a0 (y323.length : Int)) < (y323.length : Int) then ((spec_Config.f k ((rd_T23 y323 (wi a0 (y323.length : Int))).f0) ((rd_T23 y323 (wi a0 (y323.length : Int))).f1) ((rd_T23 y323 (wi a0 (y323.length : Int))).f2) ((rd_T23 y323 (wi a0 (y323.length : Int))).f3) ((rd_T23 y323 (wi a0 (y323.length : Int))).f4) ((rd_T23 y323 (wi a0 (y323.length : Int))).f5)).bind fun t330 => (if (wi a0 (y323.length : Int)) < (y326.length : Int) then (some (t330 == (rd y326 (wi a0 (y323.length : Int))))) else (none))) else (none)) else (none)))))) else (some false)) = some r := H
  have A2 := Aside0.mk A20
  clear A20
  by_cases c3 : t315 = true
  · subst c3
    have H1 : ((damperlaw2_config.f 1 1 0 0).bind fun bt316 => ((some (([(⟨bt316.1, bt316.2.1, bt316.2.2.1, bt316.2.2.2.1, bt316.2.2.2.2.1, bt316.2.2.2.2.2⟩ : S23), (⟨(⟨#[65]⟩ : ByteArray), 0, 1, 0, 1, 0⟩ : S23), (⟨(⟨#[97]⟩ : ByteArray), 0, 0, 0, 1, 0⟩ : S23), (⟨(⟨#[97]⟩ : ByteArray), 0, 9, 0, 1, 0⟩ : S23), (⟨(⟨#[97]⟩ : ByteArray), 255, 8, 10, 10, 30⟩ : S23), (⟨(⟨#[97]⟩ : ByteArray), 0, 1, 0, 11, 0⟩ : S23), (⟨(⟨#[97]⟩ : ByteArray), 0, 1, 3, 2, 0⟩ : S23), (⟨(⟨#[97]⟩ : ByteArray), 0, 1, 0, 1, 31⟩ : S23), (⟨(⟨#[97]⟩ : ByteArray), 256, 1, 0, 1, 0⟩ : S23), (⟨(⟨#[]⟩ : ByteArray), 0, 9, 0, 0, 0⟩ : S23)] : List (S23)) : List (S23))).bind fun y323 => ((some (([0, 1, 2, 2, 0, 2, 2, 2, 2, 1] : List Int) : List Int)).bind fun y326 => (if (y323.length : Int) = 0 then (none) else (if 0 ≤ (wi a0 (y323.length : Int)) then (if (wi a0 (y323.length : Int)) < (y323.length : Int) then ((spec_Config.f k ((rd_T23 y323 (wi a0 (y323.length : Int))).f0) ((rd_T23 y323 (wi a0 (y323.length : Int))).f1) ((rd_T23 y323 (wi a0 (y323.length : Int))).f2) ((rd_T23 y323 (wi a0 (y323.length : Int))).f3) ((rd_T23 y323 (wi a0 (y323.length : Int))).f4) ((rd_T23 y323 (wi a0 (y323.length : Int))).f5)).bind fun t330 => (if (wi a0 (y323.length : Int)) < (y326.length : Int) then (some (t330 == (rd y326 (wi a0 (y323.length : Int))))) else (none))) else (none)) else (none)))))) = some r := by rw [if_pos rfl] at H; exact H
    clear H
    have H := H1
    clear H1
    replace H := Option.bind_eq_some_iff.mp H
    obtain ⟨⟨t316, t317, t318, t319, t320, t321⟩, A40, H⟩ := H
    replace H : ((some (([(⟨t316, t317, t318, t319, t320, t321⟩ : S23), (⟨(⟨#[65]⟩ : ByteArray), 0, 1, 0, 1, 0⟩ : S23), (⟨(⟨#[97]⟩ : ByteArray), 0, 0, 0, 1, 0⟩ : S23), (⟨(⟨#[97]⟩ : ByteArray), 0, 9, 0, 1, 0⟩ : S23), (⟨(⟨#[97]⟩ : ByteArray), 255, 8, 10, 10, 30⟩ : S23), (⟨(⟨#[97]⟩ : ByteArray), 0, 1, 0, 11, 0⟩ : S23), (⟨(⟨#[97]⟩ : ByteArray), 0, 1, 3, 2, 0⟩ : S23), (⟨(⟨#[97]⟩ : ByteArray), 0, 1, 0, 1, 31⟩ : S23), (⟨(⟨#[97]⟩ : ByteArray), 256, 1, 0, 1, 0⟩ : S23), (⟨(⟨#[]⟩ : ByteArray), 0, 9, 0, 0, 0⟩ : S23)] : List (S23)) : List (S23))).bind fun y323 => ((some (([0, 1, 2, 2, 0, 2, 2, 2, 2, 1] : List Int) : List Int)).bind fun y326 => (if (y323.length : Int) = 0 then (none) else (if 0 ≤ (wi a0 (y323.length : Int)) then (if (wi a0 (y323.length : Int)) < (y323.length : Int) then ((spec_Config.f k ((rd_T23 y323 (wi a0 (y323.length : Int))).f0) ((rd_T23 y323 (wi a0 (y323.length : Int))).f1) ((rd_T23 y323 (wi a0 (y323.length : Int))).f2) ((rd_T23 y323 (wi a0 (y323.length : Int))).f3) ((rd_T23 y323 (wi a0 (y323.length : Int))).f4) ((rd_T23 y323 (wi a0 (y323.length : Int))).f5)).bind fun t330 => (if (wi a0 (y323.length : Int)) < (y326.length : Int) then (some (t330 == (rd y326 (wi a0 (y323.length : Int))))) else (none))) else (none)) else (none))))) = some r := H
    have A4 := Aside0.mk A40
    clear A40
    obtain ⟨y323, hy323⟩ : ∃ y_ : List (S23), y_ = (([(⟨t316, t317, t318, t319, t320, t321⟩ : S23), (⟨(⟨#[65]⟩ : ByteArray), 0, 1, 0, 1, 0⟩ : S23), (⟨(⟨#[97]⟩ : ByteArray), 0, 0, 0, 1, 0⟩ : S23), (⟨(⟨#[97]⟩ : ByteArray), 0, 9, 0, 1, 0⟩ : S23), (⟨(⟨#[97]⟩ : ByteArray), 255, 8, 10, 10, 30⟩ : S23), (⟨(⟨#[97]⟩ : ByteArray), 0, 1, 0, 11, 0⟩ : S23), (⟨(⟨#[97]⟩ : ByteArray), 0, 1, 3, 2, 0⟩ : S23), (⟨(⟨#[97]⟩ : ByteArray), 0, 1, 0, 1, 31⟩ : S23), (⟨(⟨#[97]⟩ : ByteArray), 256, 1, 0, 1, 0⟩ : S23), (⟨(⟨#[]⟩ : ByteArray), 0, 9, 0, 0, 0⟩ : S23)] : List (S23))) := ⟨_, rfl⟩
    replace H : ((some (([0, 1, 2, 2, 0, 2, 2, 2, 2, 1] : List Int) : List Int)).bind fun y326 => (if (y323.length : Int) = 0 then (none) else (if 0 ≤ (wi a0 (y323.length : Int)) then (if (wi a0 (y323.length : Int)) < (y323.length : Int) then ((spec_Config.f k ((rd_T23 y323 (wi a0 (y323.length : Int))).f0) ((rd_T23 y323 (wi a0 (y323.length : Int))).f1) ((rd_T23 y323 (wi a0 (y323.length : Int))).f2) ((rd_T23 y323 (wi a0 (y323.length : Int))).f3) ((rd_T23 y323 (wi a0 (y323.length : Int))).f4) ((rd_T23 y323 (wi a0 (y323.length : Int))).f5)).bind fun t330 => (if (wi a0 (y323.length : Int)) < (y326.length : Int) then (some (t330 == (rd y326 (wi a0 (y323.length : Int))))) else (none))) else (none)) else (none)))) = some r := by first | (rw [hy323]; with_reducible exact H) | (have H2_ := (Option.bind_some _ _).symm.trans H; rw [hy323]; with_reducible exact H2_) | (have H2_ := (Option.bind_some _ _).symm.trans H; with_reducible exact H2_) | with_reducible exact H | (rw [hy323]; exact H) | exact H
    have Ny323 := Aside0.mk hy323
    clear hy323
    obtain ⟨y326, hy326⟩ : ∃ y_ : List Int, y_ = (([0, 1, 2, 2, 0, 2, 2, 2, 2, 1] : List Int)) := ⟨_, rfl⟩
    replace H : (if (y323.length : Int) = 0 then (none) else (if 0 ≤ (wi a0 (y323.length : Int)) then (if (wi a0 (y323.length : Int)) < (y323.length : Int) then ((spec_Config.f k ((rd_T23 y323 (wi a0 (y323.length : Int))).f0) ((rd_T23 y323 (wi a0 (y323.length : Int))).f1) ((rd_T23 y323 (wi a0 (y323.length : Int))).f2) ((rd_T23 y323 (wi a0 (y323.length : Int))).f3) ((rd_T23 y323 (wi a0 (y323.length : Int))).f4) ((rd_T23 y323 (wi a0 (y323.length : Int))).f5)).bind fun t330 => (if (wi a0 (y323.length : Int)) < (y326.length : Int) then (some (t330 == (rd y326 (wi a0 (y323.length : Int))))) else (none))) else (none)) else (none))) = some r := by first | (rw [hy326]; with_reducible exact H) | (have H2_ := (Option.bind_some _ _).symm.trans H; rw [hy326]; with_reducible exact H2_) | (have H2_ := (Option.bind_some _ _).symm.trans H; with_reducible exact H2_) | with_reducible exact H | (rw [hy326]; exact H) | exact H
    have Ny326 := Aside0.mk hy326
    clear hy326
    by_cases c5 : (y323.length : Int) = 0
    · rw [if_pos c5] at H
      exact absurd H (by simp)
    rw [if_neg c5] at H
    have c5b0 : ((y323.length : Int) == 0) = false := beq_eq_false_iff_ne.mpr c5
    have c5b1 : ((y323.length : Int) != 0) = true := bne_iff_ne.mpr c5
    have c5b2 : ¬ (y323 = []) := fun h_ => c5 (by rw [h_]; rfl)
    obtain ⟨ji6, hji6⟩ : ∃ j_ : Int, (wi a0 (y323.length : Int)) = j_ := ⟨_, rfl⟩
    replace H : (if 0 ≤ (ji6) then (if (ji6) < (y323.length : Int) then ((spec_Config.f k ((rd_T23 y323 (ji6)).f0) ((rd_T23 y323 (ji6)).f1) ((rd_T23 y323 (ji6)).f2) ((rd_T23 y323 (ji6)).f3) ((rd_T23 y323 (ji6)).f4) ((rd_T23 y323 (ji6)).f5)).bind fun t330 => (if (ji6) < (y326.length : Int) then (some (t330 == (rd y326 (ji6)))) else (none))) else (none)) else (none)) = some r := by first | (rw [hji6] at H; exact H) | (simp only [hji6] at H ⊢; exact H)
    (try rw [hji6] at A2)
    (try rw [hji6] at A4)
    by_cases c7 : 0 ≤ (ji6)
    rotate_left
    · rw [if_neg c7] at H
      exact absurd H (by simp)
    rw [if_pos c7] at H
    have c7b0 : decide (0 ≤ (ji6)) = true := decide_eq_true c7
    clear c7
    by_cases c8 : (ji6) < (y323.length : Int)
    rotate_left
    · rw [if_neg c8] at H
      exact absurd H (by simp)
    rw [if_pos c8] at H
    have c8b0 : decide ((ji6) < (y323.length : Int)) = true := decide_eq_true c8
    clear c8
    replace H := Option.bind_eq_some_iff.mp H
    obtain ⟨t330, A90, H⟩ := H
    replace H : (if (ji6) < (y326.length : Int) then (some (t330 == (rd y326 (ji6)))) else (none)) = some r := H
    have A9 := Aside0.mk A90
    clear A90
    by_cases c10 : (ji6) < (y326.length : Int)
    rotate_left
    · rw [if_neg c10] at H
      exact absurd H (by simp)
    rw [if_pos c10] at H
    have c10b0 : decide ((ji6) < (y326.length : Int)) = true := decide_eq_true c10
    clear c10
    obtain rfl := Option.some.inj H
    go_enter Tryd.func6, Tryd.ntmps6
    try go_wp2_with (first | (go_at_call 15; refine (damperlaw2_within.keep _ _ rfl (by first | decide | assumption | exact wi_ne (by assumption) | exact wi_ne' (by assumption) | omega) _).mono ?_; rintro e w' ⟨rfl, rfl⟩) | ((with_reducible refine gate_callee (f := 11) rfl ?_); refine goesL_ (some 7) rfl rfl Tryd.func11 (by kernel_rfl) rfl #[] rfl (by (try simp only [List.map_toArray, List.map_cons, List.map_nil]); first | done | rfl | (simp only [List.length_drop, List.length_take]; rfl)) ?_; (with_reducible refine (damperlaw2_known.calls k  true _ ?side1 A2.out).mono ?_); (case side1 => first | exact hLd_.out | exact hLd_ | exact ⟨LaidW.below hLd_.out (by repeat (first | (with_reducible first | exact HB.out | apply below_alloc | apply pw_below_drewN | apply below_drew1) | exact HB.out))⟩ | exact ⟨LaidW.below hLd_.out (by repeat (first | exact Below.refl _ _ | apply below_alloc | apply pw_below_drewN | apply below_drew1))⟩); rintro e w11 ⟨rfl, hb⟩; refine ⟨_, rfl, ?_⟩; have n0_ := Aside0.mk (below_step (by repeat (first | (with_reducible first | exact HB.out | apply below_alloc | apply pw_below_drewN | apply below_drew1) | exact HB.out)) hb); clear HB; have HB := n0_; clear n0_; (try clear hb); (try clear hb2); (try clear hk); (try clear hi)) | ((with_reducible refine gate_callee (f := 21) rfl ?_); refine goesL_ (some 9) rfl rfl Tryd.func21 (by kernel_rfl) rfl #[.int .i64 1, .int .i64 1, .int .i64 0, .int .i64 0] rfl (by (try simp only [List.map_toArray, List.map_cons, List.map_nil]); first | done | rfl | (simp only [List.length_drop, List.length_take]; rfl)) ?_; (with_reducible refine (damperlaw2_config.calls 1 1 0 0 t316 t317 t318 t319 t320 t321 _ A4.out).mono ?_); rintro e w12 ⟨rfl, hb⟩; refine ⟨_, rfl, ?_⟩; have n0_ := Aside0.mk (below_step (by repeat (first | (with_reducible first | exact HB.out | apply below_alloc | apply pw_below_drewN | apply below_drew1) | exact HB.out)) hb); clear HB; have HB := n0_; clear n0_; (try clear hb); (try clear hb2); (try clear hk); (try clear hi)) | ((with_reducible refine gate_dst (N := 3) rfl ?_); refine box_event ?hg (N := 3) ?hd (cs := #[.string (⟨#[]⟩ : ByteArray), .int .i64 0, .int .i64 0, .int .i64 0, .int .i64 0, .int .i64 0]) (t := 23) ?hr ?_; (case hd => rfl); (case hg => rfl); (case hr => first | (go_simp; done) | (go_simp; rfl)); intro gb322 hg w13 hbox hb; have n0_ := Aside0.mk (below_step (by repeat (first | (with_reducible first | exact HB.out | apply below_alloc | apply pw_below_drewN | apply below_drew1) | exact HB.out)) hb); have n1_ := Aside0.mk (hbox); have n2_ := Aside0.mk ((by rw [hg]; exact (below_size (by repeat (first | (with_reducible first | exact HB.out | apply below_alloc | apply pw_below_drewN | apply below_drew1) | exact HB.out))) : w.heap.size ≤ gb322)); have n3_ := Aside0.mk ((by rw [hg]; exact (below_size (by repeat (first | (with_reducible first | exact HB.out | apply below_alloc | apply pw_below_drewN | apply below_drew1) | exact HB.out))) : w.heap.size ≤ gb322)); clear HB; have HB := n0_; have BK322 := n1_; have GW322 := n2_; have GE322 := n3_; clear n0_ n1_ n2_ n3_; clear hb hbox hg; have hcz14_0 : w13.cell? ⟨gb322, 0, none⟩ = some (.string (⟨#[]⟩ : ByteArray)) := bc BK322 0; have hcz14_1 : w13.cell? ⟨gb322, 1, none⟩ = some (.int .i64 0) := bc BK322 1; have hcz14_2 : w13.cell? ⟨gb322, 2, none⟩ = some (.int .i64 0) := bc BK322 2; have hcz14_3 : w13.cell? ⟨gb322, 3, none⟩ = some (.int .i64 0) := bc BK322 3; have hcz14_4 : w13.cell? ⟨gb322, 4, none⟩ = some (.int .i64 0) := bc BK322 4; have hcz14_5 : w13.cell? ⟨gb322, 5, none⟩ = some (.int .i64 0) := bc BK322 5; have hfz14_0 := blk_frozen BK322.out 0; have hfz14_1 := blk_frozen BK322.out 1; have hfz14_2 := blk_frozen BK322.out 2; have hfz14_3 := blk_frozen BK322.out 3; have hfz14_4 := blk_frozen BK322.out 4; have hfz14_5 := blk_frozen BK322.out 5) | ((with_reducible refine gate_dst (N := 20) rfl ?_); refine Kd.R_lit k23 _ 23 ?hg (N := 20) ?hd (xs := ([(⟨t316, t317, t318, t319, t320, t321⟩ : S23), (⟨(⟨#[65]⟩ : ByteArray), 0, 1, 0, 1, 0⟩ : S23), (⟨(⟨#[97]⟩ : ByteArray), 0, 0, 0, 1, 0⟩ : S23), (⟨(⟨#[97]⟩ : ByteArray), 0, 9, 0, 1, 0⟩ : S23), (⟨(⟨#[97]⟩ : ByteArray), 255, 8, 10, 10, 30⟩ : S23), (⟨(⟨#[97]⟩ : ByteArray), 0, 1, 0, 11, 0⟩ : S23), (⟨(⟨#[97]⟩ : ByteArray), 0, 1, 3, 2, 0⟩ : S23), (⟨(⟨#[97]⟩ : ByteArray), 0, 1, 0, 1, 31⟩ : S23), (⟨(⟨#[97]⟩ : ByteArray), 256, 1, 0, 1, 0⟩ : S23), (⟨(⟨#[]⟩ : ByteArray), 0, 9, 0, 0, 0⟩ : S23)] : List (S23))) (inner := [.string t316, .int .i64 t317, .int .i64 t318, .int .i64 t319, .int .i64 t320, .int .i64 t321, .string (⟨#[65]⟩ : ByteArray), .int .i64 0, .int .i64 1, .int .i64 0, .int .i64 1, .int .i64 0, .string (⟨#[97]⟩ : ByteArray), .int .i64 0, .int .i64 0, .int .i64 0, .int .i64 1, .int .i64 0, .string (⟨#[97]⟩ : ByteArray), .int .i64 0, .int .i64 9, .int .i64 0, .int .i64 1, .int .i64 0, .string (⟨#[97]⟩ : ByteArray), .int .i64 255, .int .i64 8, .int .i64 10, .int .i64 10, .int .i64 30, .string (⟨#[97]⟩ : ByteArray), .int .i64 0, .int .i64 1, .int .i64 0, .int .i64 11, .int .i64 0, .string (⟨#[97]⟩ : ByteArray), .int .i64 0, .int .i64 1, .int .i64 3, .int .i64 2, .int .i64 0, .string (⟨#[97]⟩ : ByteArray), .int .i64 0, .int .i64 1, .int .i64 0, .int .i64 1, .int .i64 31, .string (⟨#[97]⟩ : ByteArray), .int .i64 256, .int .i64 1, .int .i64 0, .int .i64 1, .int .i64 0, .string (⟨#[]⟩ : ByteArray), .int .i64 0, .int .i64 9, .int .i64 0, .int .i64 0, .int .i64 0]) (ok := fun _ => True) (okp := fun _ => True) ?hr ?hp (fun _ hk => hk) trivial (Below.refl _ _) (Nat.le_refl _) (by simp) ?_; (case hd => rfl); (case hg => rfl); (case hr => first | (go_simp; done) | (go_simp; rfl)); (case hp => exact (Reps.c6 (show Kd.M k23 _ _ _ (⟨t316, t317, t318, t319, t320, t321⟩ : S23) [.string t316, .int .i64 t317, .int .i64 t318, .int .i64 t319, .int .i64 t320, .int .i64 t321] from (k23_mkM _ _ _ (⟨t316, t317, t318, t319, t320, t321⟩ : S23) )) (Reps.c6 (show Kd.M k23 _ _ _ (⟨(⟨#[65]⟩ : ByteArray), 0, 1, 0, 1, 0⟩ : S23) [.string (⟨#[65]⟩ : ByteArray), .int .i64 0, .int .i64 1, .int .i64 0, .int .i64 1, .int .i64 0] from (k23_mkM _ _ _ (⟨(⟨#[65]⟩ : ByteArray), 0, 1, 0, 1, 0⟩ : S23) )) (Reps.c6 (show Kd.M k23 _ _ _ (⟨(⟨#[97]⟩ : ByteArray), 0, 0, 0, 1, 0⟩ : S23) [.string (⟨#[97]⟩ : ByteArray), .int .i64 0, .int .i64 0, .int .i64 0, .int .i64 1, .int .i64 0] from (k23_mkM _ _ _ (⟨(⟨#[97]⟩ : ByteArray), 0, 0, 0, 1, 0⟩ : S23) )) (Reps.c6 (show Kd.M k23 _ _ _ (⟨(⟨#[97]⟩ : ByteArray), 0, 9, 0, 1, 0⟩ : S23) [.string (⟨#[97]⟩ : ByteArray), .int .i64 0, .int .i64 9, .int .i64 0, .int .i64 1, .int .i64 0] from (k23_mkM _ _ _ (⟨(⟨#[97]⟩ : ByteArray), 0, 9, 0, 1, 0⟩ : S23) )) (Reps.c6 (show Kd.M k23 _ _ _ (⟨(⟨#[97]⟩ : ByteArray), 255, 8, 10, 10, 30⟩ : S23) [.string (⟨#[97]⟩ : ByteArray), .int .i64 255, .int .i64 8, .int .i64 10, .int .i64 10, .int .i64 30] from (k23_mkM _ _ _ (⟨(⟨#[97]⟩ : ByteArray), 255, 8, 10, 10, 30⟩ : S23) )) (Reps.c6 (show Kd.M k23 _ _ _ (⟨(⟨#[97]⟩ : ByteArray), 0, 1, 0, 11, 0⟩ : S23) [.string (⟨#[97]⟩ : ByteArray), .int .i64 0, .int .i64 1, .int .i64 0, .int .i64 11, .int .i64 0] from (k23_mkM _ _ _ (⟨(⟨#[97]⟩ : ByteArray), 0, 1, 0, 11, 0⟩ : S23) )) (Reps.c6 (show Kd.M k23 _ _ _ (⟨(⟨#[97]⟩ : ByteArray), 0, 1, 3, 2, 0⟩ : S23) [.string (⟨#[97]⟩ : ByteArray), .int .i64 0, .int .i64 1, .int .i64 3, .int .i64 2, .int .i64 0] from (k23_mkM _ _ _ (⟨(⟨#[97]⟩ : ByteArray), 0, 1, 3, 2, 0⟩ : S23) )) (Reps.c6 (show Kd.M k23 _ _ _ (⟨(⟨#[97]⟩ : ByteArray), 0, 1, 0, 1, 31⟩ : S23) [.string (⟨#[97]⟩ : ByteArray), .int .i64 0, .int .i64 1, .int .i64 0, .int .i64 1, .int .i64 31] from (k23_mkM _ _ _ (⟨(⟨#[97]⟩ : ByteArray), 0, 1, 0, 1, 31⟩ : S23) )) (Reps.c6 (show Kd.M k23 _ _ _ (⟨(⟨#[97]⟩ : ByteArray), 256, 1, 0, 1, 0⟩ : S23) [.string (⟨#[97]⟩ : ByteArray), .int .i64 256, .int .i64 1, .int .i64 0, .int .i64 1, .int .i64 0] from (k23_mkM _ _ _ (⟨(⟨#[97]⟩ : ByteArray), 256, 1, 0, 1, 0⟩ : S23) )) (Reps.c6 (show Kd.M k23 _ _ _ (⟨(⟨#[]⟩ : ByteArray), 0, 9, 0, 0, 0⟩ : S23) [.string (⟨#[]⟩ : ByteArray), .int .i64 0, .int .i64 9, .int .i64 0, .int .i64 0, .int .i64 0] from (k23_mkM _ _ _ (⟨(⟨#[]⟩ : ByteArray), 0, 9, 0, 0, 0⟩ : S23) )) (Reps.none _ _)))))))))))); intro v324 w15 ho16 hb hg_ hnew_; clear hg_ hnew_; (first | rw [← Ny323.out] at ho16 | (simp only [Int.reduceToNat] at ho16; rw [← Ny323.out] at ho16)); have n0_ := Aside0.mk (Kd.R_lower (Kd.R_newB ho16 (g := gb322) (o := .cells #[.string t316, .int .i64 t317, .int .i64 t318, .int .i64 t319, .int .i64 t320, .int .i64 t321] 23 (0, 0)) (by (with_reducible repeat (first | refine blk_drewN ?_ _ | refine blk_drew ?_ | refine blk_alloc ?_ _)); refine blk_put (cs := #[.string t316, .int .i64 t317, .int .i64 t318, .int .i64 t319, .int .i64 t320, .int .i64 0]) ?_ 5 _ rfl; (with_reducible repeat (first | refine blk_drewN ?_ _ | refine blk_drew ?_ | refine blk_alloc ?_ _)); refine blk_put (cs := #[.string t316, .int .i64 t317, .int .i64 t318, .int .i64 t319, .int .i64 0, .int .i64 0]) ?_ 4 _ rfl; (with_reducible repeat (first | refine blk_drewN ?_ _ | refine blk_drew ?_ | refine blk_alloc ?_ _)); refine blk_put (cs := #[.string t316, .int .i64 t317, .int .i64 t318, .int .i64 0, .int .i64 0, .int .i64 0]) ?_ 3 _ rfl; (with_reducible repeat (first | refine blk_drewN ?_ _ | refine blk_drew ?_ | refine blk_alloc ?_ _)); refine blk_put (cs := #[.string t316, .int .i64 t317, .int .i64 0, .int .i64 0, .int .i64 0, .int .i64 0]) ?_ 2 _ rfl; (with_reducible repeat (first | refine blk_drewN ?_ _ | refine blk_drew ?_ | refine blk_alloc ?_ _)); refine blk_put (cs := #[.string t316, .int .i64 0, .int .i64 0, .int .i64 0, .int .i64 0, .int .i64 0]) ?_ 1 _ rfl; (with_reducible repeat (first | refine blk_drewN ?_ _ | refine blk_drew ?_ | refine blk_alloc ?_ _)); refine blk_put (cs := #[.string (⟨#[]⟩ : ByteArray), .int .i64 0, .int .i64 0, .int .i64 0, .int .i64 0, .int .i64 0]) ?_ 0 _ rfl; (with_reducible repeat (first | refine blk_drewN ?_ _ | refine blk_drew ?_ | refine blk_alloc ?_ _)); exact BK322.out)) (below_size (by repeat (first | (with_reducible first | exact HB.out | apply below_alloc | apply pw_below_drewN | apply below_drew1 | refine below_set ?_ GE322.out) | exact HB.out)))); have n1_ := Aside0.mk (blk_below (g := gb322) (o := .cells #[.string t316, .int .i64 t317, .int .i64 t318, .int .i64 t319, .int .i64 t320, .int .i64 t321] 23 (0, 0)) (by (with_reducible repeat (first | refine blk_drewN ?_ _ | refine blk_drew ?_ | refine blk_alloc ?_ _)); refine blk_put (cs := #[.string t316, .int .i64 t317, .int .i64 t318, .int .i64 t319, .int .i64 t320, .int .i64 0]) ?_ 5 _ rfl; (with_reducible repeat (first | refine blk_drewN ?_ _ | refine blk_drew ?_ | refine blk_alloc ?_ _)); refine blk_put (cs := #[.string t316, .int .i64 t317, .int .i64 t318, .int .i64 t319, .int .i64 0, .int .i64 0]) ?_ 4 _ rfl; (with_reducible repeat (first | refine blk_drewN ?_ _ | refine blk_drew ?_ | refine blk_alloc ?_ _)); refine blk_put (cs := #[.string t316, .int .i64 t317, .int .i64 t318, .int .i64 0, .int .i64 0, .int .i64 0]) ?_ 3 _ rfl; (with_reducible repeat (first | refine blk_drewN ?_ _ | refine blk_drew ?_ | refine blk_alloc ?_ _)); refine blk_put (cs := #[.string t316, .int .i64 t317, .int .i64 0, .int .i64 0, .int .i64 0, .int .i64 0]) ?_ 2 _ rfl; (with_reducible repeat (first | refine blk_drewN ?_ _ | refine blk_drew ?_ | refine blk_alloc ?_ _)); refine blk_put (cs := #[.string t316, .int .i64 0, .int .i64 0, .int .i64 0, .int .i64 0, .int .i64 0]) ?_ 1 _ rfl; (with_reducible repeat (first | refine blk_drewN ?_ _ | refine blk_drew ?_ | refine blk_alloc ?_ _)); refine blk_put (cs := #[.string (⟨#[]⟩ : ByteArray), .int .i64 0, .int .i64 0, .int .i64 0, .int .i64 0, .int .i64 0]) ?_ 0 _ rfl; (with_reducible repeat (first | refine blk_drewN ?_ _ | refine blk_drew ?_ | refine blk_alloc ?_ _)); exact BK322.out) hb); have n2_ := Aside0.mk (below_step (by repeat (first | (with_reducible first | exact HB.out | apply below_alloc | apply pw_below_drewN | apply below_drew1 | refine below_set ?_ GE322.out) | exact HB.out)) hb); clear BK322; clear HB; have HO325 := n0_; have BK322 := n1_; have HB := n2_; clear n0_ n1_ n2_; clear hb ho16) | ((with_reducible refine gate_dst (N := 21) rfl ?_); refine Kd.R_lit (Kd.int .i64) _ 27 ?hg (N := 21) ?hd (xs := ([0, 1, 2, 2, 0, 2, 2, 2, 2, 1] : List Int)) (inner := [.int .i64 0, .int .i64 1, .int .i64 2, .int .i64 2, .int .i64 0, .int .i64 2, .int .i64 2, .int .i64 2, .int .i64 2, .int .i64 1]) (ok := fun _ => True) (okp := fun _ => True) ?hr ?hp (fun _ hk => hk) trivial (Below.refl _ _) (Nat.le_refl _) (by simp) ?_; (case hd => rfl); (case hg => rfl); (case hr => first | (go_simp; done) | (go_simp; rfl)); (case hp => exact (Reps.one (show Kd.M (Kd.int .i64) _ _ _ 0 [.int .i64 0] from rfl) (Reps.one (show Kd.M (Kd.int .i64) _ _ _ 1 [.int .i64 1] from rfl) (Reps.one (show Kd.M (Kd.int .i64) _ _ _ 2 [.int .i64 2] from rfl) (Reps.one (show Kd.M (Kd.int .i64) _ _ _ 2 [.int .i64 2] from rfl) (Reps.one (show Kd.M (Kd.int .i64) _ _ _ 0 [.int .i64 0] from rfl) (Reps.one (show Kd.M (Kd.int .i64) _ _ _ 2 [.int .i64 2] from rfl) (Reps.one (show Kd.M (Kd.int .i64) _ _ _ 2 [.int .i64 2] from rfl) (Reps.one (show Kd.M (Kd.int .i64) _ _ _ 2 [.int .i64 2] from rfl) (Reps.one (show Kd.M (Kd.int .i64) _ _ _ 2 [.int .i64 2] from rfl) (Reps.one (show Kd.M (Kd.int .i64) _ _ _ 1 [.int .i64 1] from rfl) (Reps.none _ _)))))))))))); intro v327 w17 ho18 hb hg_ hnew_; clear hg_ hnew_; (first | rw [← Ny326.out] at ho18 | (simp only [Int.reduceToNat] at ho18; rw [← Ny326.out] at ho18)); have n0_ := Aside0.mk (Kd.R_below (by (with_reducible repeat (first | apply Kd.R_alloc | apply Kd.R_drewN | apply Kd.R_drew)); exact HO325.out) hb); have n1_ := Aside0.mk (Kd.R_lower ho18 (below_size (by repeat (first | (with_reducible first | exact HB.out | apply below_alloc | apply pw_below_drewN | apply below_drew1 | refine below_set ?_ GE322.out) | exact HB.out)))); have n2_ := Aside0.mk (blk_below (g := gb322) (pk BK322) hb); have n3_ := Aside0.mk (below_step (by repeat (first | (with_reducible first | exact HB.out | apply below_alloc | apply pw_below_drewN | apply below_drew1 | refine below_set ?_ GE322.out) | exact HB.out)) hb); clear HO325; clear BK322; clear HB; have HO325 := n0_; have HO328 := n1_; have BK322 := n2_; have HB := n3_; clear n0_ n1_ n2_ n3_; clear hb ho18; obtain ⟨Ao19, co19, eo19⟩ := Kd.R_slice HO325.out; subst eo19))
    replace HO325 := Aside0.mk (Kd.R_drew HO325.out)
    replace HO328 := Aside0.mk (Kd.R_drew HO328.out)
    replace BK322 := Aside0.mk (blk_drew BK322.out)
    replace HB := Aside0.mk (below_drew1 HB.out)
    have p329 : 0 ≤ ((ji6) : Int) := of_decide_eq_true (by first | (with_reducible assumption) | assumption)
    have q329 : (ji6) < (y323.length : Int) := of_decide_eq_true (by first | (with_reducible assumption) | assumption)
    obtain ⟨ad329, e329, hx329_0, hx329_1, hx329_2, hx329_3, hx329_4, hx329_5⟩ := at_T23 (Kd.R_reads' HO325.out).2.2 (ji6) p329 q329
    cases e329
    replace p329 := eq_true p329
    replace q329 := eq_true q329
    obtain ⟨Ao21, co21, eo21⟩ := Kd.R_slice HO328.out
    (first | subst eo21 | (injection eo21 with f1_ f2_ f3_; have f4_ := f1_.symm; have f5_ := f3_.symm; clear f1_ f2_ f3_; subst f4_; subst f5_))
    have p331 : 0 ≤ ((ji6) : Int) := of_decide_eq_true (by first | (with_reducible assumption) | assumption)
    have q331 : (ji6) < (y326.length : Int) := of_decide_eq_true (by first | (with_reducible assumption) | assumption)
    obtain ⟨ad331, e331, hx331_0⟩ := Kd.at_int (Kd.R_reads' HO328.out).2.2 (ji6) p331 q331
    cases e331
    replace p331 := eq_true p331
    replace q331 := eq_true q331
    refine start_ (n := 11) (S := fun w' => w'.cell? (ad329.add (((ji6)).toNat * 6)) = some (.string ((rd_T23 y323 (ji6)).f0)) ∧ w'.cell? ⟨(ad329.add (((ji6)).toNat * 6)).block, (ad329.add (((ji6)).toNat * 6)).off + 1, none⟩ = some (.int .i64 ((rd_T23 y323 (ji6)).f1)) ∧ w'.cell? ⟨(ad329.add (((ji6)).toNat * 6)).block, (ad329.add (((ji6)).toNat * 6)).off + 2, none⟩ = some (.int .i64 ((rd_T23 y323 (ji6)).f2)) ∧ w'.cell? ⟨(ad329.add (((ji6)).toNat * 6)).block, (ad329.add (((ji6)).toNat * 6)).off + 3, none⟩ = some (.int .i64 ((rd_T23 y323 (ji6)).f3)) ∧ w'.cell? ⟨(ad329.add (((ji6)).toNat * 6)).block, (ad329.add (((ji6)).toNat * 6)).off + 4, none⟩ = some (.int .i64 ((rd_T23 y323 (ji6)).f4)) ∧ w'.cell? ⟨(ad329.add (((ji6)).toNat * 6)).block, (ad329.add (((ji6)).toNat * 6)).off + 5, none⟩ = some (.int .i64 ((rd_T23 y323 (ji6)).f5)) ∧ w'.cell? (ad331.add ((ji6)).toNat) = some (.int .i64 (rd y326 (ji6)))) (ds := []) #[false, false, false, false, false, false, false, false, false, false, false] (by kernel_rfl) rfl rfl ⟨hx329_0, hx329_1, hx329_2, hx329_3, hx329_4, hx329_5, hx331_0⟩ (fun hHeld => ?_); refine with_tabW damperlaw2_SpecKnown.tab7 damperlaw2_SpecKnown.bits7 (fun HT_ HW_ => ?_)
    generalize w17.drew = w20 at HO325 HO328 BK322 HB hx329_0 hx329_1 hx329_2 hx329_3 hx329_4 hx329_5 hx331_0 hHeld ⊢
    refine pure_ (i := 0) (N := some 26) (v := ?_) (a' := ?_) #[true, false, false, false, false, false, false, false, false, false, false] rfl rfl (any_of HT_.out (by kernel_rfl)) (fun _ _ _ h => h) (Or.inl ⟨by rfl, ?_⟩) ?_ ?_
    rotate_left
    · intro w'
      go_simp
      with_reducible rfl
    rotate_left
    · simp only [Act.put, List.setIfInBounds_toArray, List.set_cons_zero, List.set_cons_succ, i64_w, i32_w]
      rfl
    refine pure_ (i := 1) (N := some 27) (v := ?_) (a' := ?_) #[true, true, false, false, false, false, false, false, false, false, false] rfl rfl (any_of HT_.out (by kernel_rfl)) (fun _ _ _ h => h) (Or.inl ⟨by rfl, ?_⟩) ?_ ?_
    rotate_left
    · intro w'
      go_simp
      with_reducible rfl
    rotate_left
    · simp only [Act.put, List.setIfInBounds_toArray, List.set_cons_zero, List.set_cons_succ, i64_w, i32_w]
      rfl
    refine pure_ (i := 2) (N := some 28) (v := ?_) (a' := ?_) #[true, true, true, false, false, false, false, false, false, false, false] rfl rfl (any_of HT_.out (by kernel_rfl)) (fun _ _ _ h => h) (Or.inl ⟨by rfl, ?_⟩) ?_ ?_
    rotate_left
    · intro w'
      go_simp
      with_reducible rfl
    rotate_left
    · simp only [Act.put, List.setIfInBounds_toArray, List.set_cons_zero, List.set_cons_succ, i64_w, i32_w]
      rfl
    refine pure_ (i := 5) (N := some 31) (v := ?_) (a' := ?_) #[true, true, true, false, false, true, false, false, false, false, false] rfl rfl (any_of HT_.out (by kernel_rfl)) (fun _ _ _ h => h) (Or.inl ⟨by rfl, ?_⟩) ?_ ?_
    rotate_left
    · intro w'
      go_simp
      with_reducible rfl
    rotate_left
    · simp only [Act.put, List.setIfInBounds_toArray, List.set_cons_zero, List.set_cons_succ, i64_w, i32_w]
      rfl
    refine pure_ (i := 6) (N := some 32) (v := ?_) (a' := ?_) #[true, true, true, false, false, true, true, false, false, false, false] rfl rfl (any_of HT_.out (by kernel_rfl)) (fun _ _ _ h => h) (Or.inl ⟨by rfl, ?_⟩) ?_ ?_
    rotate_left
    · intro w'
      go_simp
      with_reducible rfl
    rotate_left
    · simp only [Act.put, List.setIfInBounds_toArray, List.set_cons_zero, List.set_cons_succ, i64_w, i32_w]
      rfl
    refine pure_ (i := 7) (N := some 33) (v := ?_) (a' := ?_) #[true, true, true, false, false, true, true, true, false, false, false] rfl rfl (any_of HT_.out (by kernel_rfl)) (fun _ _ _ h => h) (Or.inl ⟨by rfl, ?_⟩) ?_ ?_
    rotate_left
    · intro w'
      go_simp
      with_reducible rfl
    rotate_left
    · simp only [Act.put, List.setIfInBounds_toArray, List.set_cons_zero, List.set_cons_succ, i64_w, i32_w]
      rfl
    refine take_ (i := 3) (N := some 29) (v := ?_) (a' := ?_) #[true, true, true, true, false, true, true, true, false, false, false] rfl rfl (take_ofW HT_.out HW_.out (by kernel_rfl)) (fun _ _ _ h => h) (Or.inl ⟨by rfl, ?_⟩) hHeld ?_ ?_
    rotate_left
    · rintro w' ⟨s0, s1, s2, s3, s4, s5, s6⟩
      go_simp
      with_reducible rfl
    rotate_left
    · simp only [Act.put, List.setIfInBounds_toArray, List.set_cons_zero, List.set_cons_succ, i64_w, i32_w]
      rfl
    refine take_ (i := 8) (N := some 34) (v := ?_) (a' := ?_) #[true, true, true, true, false, true, true, true, true, false, false] rfl rfl (take_ofW HT_.out HW_.out (by kernel_rfl)) (fun _ _ _ h => h) (Or.inl ⟨by rfl, ?_⟩) hHeld ?_ ?_
    rotate_left
    · rintro w' ⟨s0, s1, s2, s3, s4, s5, s6⟩
      go_simp
      with_reducible rfl
    rotate_left
    · simp only [Act.put, List.setIfInBounds_toArray, List.set_cons_zero, List.set_cons_succ, i64_w, i32_w]
      rfl
    refine one_ (i := 4) (N := some 30) #[true, true, true, true, true, true, true, true, true, false, false] rfl rfl (one_of HT_.out (by kernel_rfl)) (by decide) (fun K hK => ?_)
    refine goes_ Tryd.func13 (by kernel_rfl) rfl #[.agg #[.string ((rd_T23 y323 (ji6)).f0), .int .i64 ((rd_T23 y323 (ji6)).f1), .int .i64 ((rd_T23 y323 (ji6)).f2), .int .i64 ((rd_T23 y323 (ji6)).f3), .int .i64 ((rd_T23 y323 (ji6)).f4), .int .i64 ((rd_T23 y323 (ji6)).f5)]] (by rfl) rfl rfl (by (try simp only [List.map_toArray, List.map_cons, List.map_nil]); first | done | (simp only [hji6]; rfl) | rfl | (simp only [List.length_drop, List.length_take]; rfl)) ?_
    with_reducible refine (spec_Config.calls k ((rd_T23 y323 (ji6)).f0) ((rd_T23 y323 (ji6)).f1) ((rd_T23 y323 (ji6)).f2) ((rd_T23 y323 (ji6)).f3) ((rd_T23 y323 (ji6)).f4) ((rd_T23 y323 (ji6)).f5) t330 _ A9.out).mono ?_
    rintro e w22 ⟨rfl, hb⟩
    have HS0_ := (hb.cell (World.block_lt_of_cell? _ _ (hHeld.1))).trans (hHeld.1)
    have HS1_ := (hb.cell (World.block_lt_of_cell? _ _ (hHeld.2.1))).trans (hHeld.2.1)
    have HS2_ := (hb.cell (World.block_lt_of_cell? _ _ (hHeld.2.2.1))).trans (hHeld.2.2.1)
    have HS3_ := (hb.cell (World.block_lt_of_cell? _ _ (hHeld.2.2.2.1))).trans (hHeld.2.2.2.1)
    have HS4_ := (hb.cell (World.block_lt_of_cell? _ _ (hHeld.2.2.2.2.1))).trans (hHeld.2.2.2.2.1)
    have HS5_ := (hb.cell (World.block_lt_of_cell? _ _ (hHeld.2.2.2.2.2.1))).trans (hHeld.2.2.2.2.2.1)
    have HS6_ := (hb.cell (World.block_lt_of_cell? _ _ (hHeld.2.2.2.2.2.2))).trans (hHeld.2.2.2.2.2.2)
    refine ⟨_, rfl, ?_⟩
    replace HO325 := Aside0.mk (Kd.R_below (by (with_reducible repeat (first | apply Kd.R_alloc | apply Kd.R_drewN | apply Kd.R_drew)); exact HO325.out) hb)
    replace HO328 := Aside0.mk (Kd.R_below (by (with_reducible repeat (first | apply Kd.R_alloc | apply Kd.R_drewN | apply Kd.R_drew)); exact HO328.out) hb)
    replace BK322 := Aside0.mk (blk_below (g := gb322) (pk BK322) hb)
    replace HB := Aside0.mk (below_step (by repeat (first | (with_reducible first | exact HB.out | apply below_alloc | apply pw_below_drewN | apply below_drew1 | refine below_set ?_ GE322.out) | exact HB.out)) hb)
    (try clear hb)
    (try clear hb2)
    (try clear hk)
    (try clear hi)
    refine hK.out _ _ ⟨HS0_, HS1_, HS2_, HS3_, HS4_, HS5_, HS6_⟩ (fun hHeld => ?_)
    clear hK K
    refine norm_ (a' := ?_) ?_ ?_
    rotate_left
    · show Act.put _ (some 30) _ = _
      simp only [Act.put, List.setIfInBounds_toArray, List.set_cons_zero, List.set_cons_succ, i64_w, i32_w]
      rfl
    refine pure_ (i := 9) (N := some 35) (v := ?_) (a' := ?_) #[true, true, true, true, true, true, true, true, true, true, false] rfl rfl (any_of HT_.out (by kernel_rfl)) (fun _ _ _ h => h) (Or.inl ⟨by rfl, ?_⟩) ?_ ?_
    rotate_left
    · intro w'
      go_simp
      with_reducible rfl
    rotate_left
    · simp only [Act.put, List.setIfInBounds_toArray, List.set_cons_zero, List.set_cons_succ, i64_w, i32_w]
      rfl
    refine pure_ (i := 10) (N := some 2) (v := ?_) (a' := ?_) #[true, true, true, true, true, true, true, true, true, true, true] rfl rfl (any_of HT_.out (by kernel_rfl)) (fun _ _ _ h => h) (Or.inl ⟨by rfl, ?_⟩) ?_ ?_
    rotate_left
    · intro w'
      go_simp
      with_reducible rfl
    rotate_left
    · simp only [Act.put, List.setIfInBounds_toArray, List.set_cons_zero, List.set_cons_succ, i64_w, i32_w]
      rfl
    refine done_ (done_of HT_.out (by kernel_rfl)) ?_
    try go_wp2_with (first | (go_at_call 15; refine (damperlaw2_within.keep _ _ rfl (by first | decide | assumption | exact wi_ne (by assumption) | exact wi_ne' (by assumption) | omega) _).mono ?_; rintro e w' ⟨rfl, rfl⟩))
    go_ret
    exact ⟨by first | rfl | (simp [errW_none, errW_some] <;> rfl) | (simp only [← hji6]; first | rfl | (simp [errW_none, errW_some] <;> rfl)) | (simp [*, errW_none, errW_some] <;> rfl), by repeat (first | (with_reducible first | exact HB.out | apply below_alloc | apply pw_below_drewN | apply below_drew1 | refine below_set ?_ GE322.out) | exact HB.out)⟩
  · replace c3 := Bool.eq_false_iff.mpr c3
    subst c3
    have H1 : (some false) = some r := by rw [if_neg (show ¬ (false = true) by decide)] at H; exact H
    clear H
    have H := H1
    clear H1
    exact absurd (Option.some.inj H) (by rw [hr0_.out]; decide)

/-- THE ONE PURE STATEMENT of damperlaw2_SpecKnown: yours. -/
def damperlaw2_SpecKnown.Pure : Prop := ∀ (a0 : Int), ((Lit.int .i64 a0).wf = true) → ∃ k, damperlaw2_SpecKnown.f k a0 = some true
theorem damperlaw2_SpecKnown.walk (P : damperlaw2_SpecKnown.Pure) (a0 : Int) (w : World) (hLd_ : LaidW w) (w0 : (Lit.int .i64 a0).wf = true)  :
    Calls Tryd.prog 6 #[.int .i64 a0] w fun e w' => e = .returned (.bool true) ∧ Below w.heap.size w w' := by
  obtain ⟨k, h⟩ := P a0 w0
  refine (damperlaw2_SpecKnown.calls k a0 true w ⟨hLd_⟩ ⟨rfl⟩ h).mono ?_
  rintro e w' ⟨rfl, hd⟩
  exact ⟨rfl, hd⟩

-- NOT PRINTED: function 7 (damperlaw2_SpecTargets)

end Go.Proofs.YthdpnbfjpbiieaaDoor.Ma
