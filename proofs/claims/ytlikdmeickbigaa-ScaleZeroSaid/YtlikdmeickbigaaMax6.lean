-- Written by a program of this session (wip/tools/myprint.py), in the form of the kit's print. Not trusted: Lean checks it.
import Derived.Test.YtlikdmeickbigaaMax0
import Derived.Test.YtlikdmeickbigaaMax2
import Derived.Test.YtlikdmeickbigaaMax3
import Derived.Test.YtlikdmeickbigaaMax4
import Derived.Test.YtlikdmeickbigaaMax5
namespace Go.Proofs.Ytlikdmeickbigaa.Ma
open Go.RowKit Go.Proofs.YtlikdmeickbigaaW.PrintWords Go.Proofs.YtlikdmeickbigaaW.PrintLast Go.Proofs.YtlikdmeickbigaaW.PrintMore
attribute [local go_sem] max2_int min2_int max_two min_two max_three min_three max_four min_four   -- for this text's walks alone
set_option linter.unusedVariables false
set_option linter.unusedSimpArgs false

/-! ### scale_Decide: function 21 -/
mutual
def scale_Decide.j0 : Nat → Int → Int → Int → Int → Int → Int → ByteArray → Int → Int → Int → Int → Int → Int → Int → Option (Int × Int)
  | 0, _, _, _, _, _, _, _, _, _, _, _, _, _, _ => none
  | k + 1, x2, x3, x8, x20, x107000, x107001, x108000, x108001, x108002, x108003, x108004, x108005, x114000, x114001 => if x114000 = 0 then (if x3 > 0 then (scale_Decide.j1 k x2 x20 true x108000 x108001 x108002 x108003 x108004 x108005 x114000 x114001) else (if x107000 > 0 then (scale_Decide.j1 k x2 x20 (decide (x8 < x108005)) x108000 x108001 x108002 x108003 x108004 x108005 x114000 x114001) else (scale_Decide.j1 k x2 x20 false x108000 x108001 x108002 x108003 x108004 x108005 x114000 x114001))) else (scale_Decide.j1 k x2 x20 false x108000 x108001 x108002 x108003 x108004 x108005 x114000 x114001)
def scale_Decide.j1 : Nat → Int → Int → Bool → ByteArray → Int → Int → Int → Int → Int → Int → Int → Option (Int × Int)
  | 0, _, _, _, _, _, _, _, _, _, _, _ => none
  | k + 1, x2, x20, x68, x108000, x108001, x108002, x108003, x108004, x108005, x114000, x114001 => if x68 = true then (scale_Decide.j2 k x2 x20 x108000 x108001 x108002 x108003 x108004 x108005 1 x114001) else (scale_Decide.j2 k x2 x20 x108000 x108001 x108002 x108003 x108004 x108005 x114000 x114001)
def scale_Decide.j2 : Nat → Int → Int → ByteArray → Int → Int → Int → Int → Int → Int → Int → Option (Int × Int)
  | 0, _, _, _, _, _, _, _, _, _, _ => none
  | k + 1, x2, x20, x108000, x108001, x108002, x108003, x108004, x108005, x114000, x114001 => (scale_bounds.f x108000 x108001 x108002 x108003 x108004 x108005 x2 x20).bind fun bt115 => (some (mn (mx (mx (mn x114000 bt115.1) bt115.2.1) bt115.2.2.1) bt115.2.2.2, x114001))
end
def scale_Decide.f (k : Nat) (a0_0 : Int) (a0_1 : Int) (a1_0 : ByteArray) (a1_1 : Int) (a1_2 : Int) (a1_3 : Int) (a1_4 : Int) (a1_5 : Int) (a2 : Int) (a3 : Int) (a4 : Int) (a5 : Int) (a6 : Int) (a7 : Int) (a8 : Int) : Option (Int × Int) := (scale_Need.f a4 a5 a1_2).bind fun t109 => ((scale_Need.f a6 a7 a1_2).bind fun t110 => ((scale_State_hurried.f a0_0 a0_1 t110 (mx 1 a2)).bind fun t112 => (if t112 > 0 then ((scale_State_most.f a0_0 a0_1 t109 t110).bind fun t114 => (scale_Decide.j0 k a2 a3 a8 (mx 1 a2) a0_0 a0_1 a1_0 a1_1 a1_2 a1_3 a1_4 a1_5 t114 t112)) else (scale_Decide.j0 k a2 a3 a8 (mx 1 a2) a0_0 a0_1 a1_0 a1_1 a1_2 a1_3 a1_4 a1_5 t109 t112))))
theorem scale_Decide.mono_l : ∀ k, (∀ y0 y1 y2 y3 y4 y5 y6 y7 y8 y9 y10 y11 y12 y13, LeO (scale_Decide.j0 k y0 y1 y2 y3 y4 y5 y6 y7 y8 y9 y10 y11 y12 y13) (scale_Decide.j0 (k + 1) y0 y1 y2 y3 y4 y5 y6 y7 y8 y9 y10 y11 y12 y13)) ∧ (∀ y0 y1 y2 y3 y4 y5 y6 y7 y8 y9 y10, LeO (scale_Decide.j1 k y0 y1 y2 y3 y4 y5 y6 y7 y8 y9 y10) (scale_Decide.j1 (k + 1) y0 y1 y2 y3 y4 y5 y6 y7 y8 y9 y10)) ∧ (∀ y0 y1 y2 y3 y4 y5 y6 y7 y8 y9, LeO (scale_Decide.j2 k y0 y1 y2 y3 y4 y5 y6 y7 y8 y9) (scale_Decide.j2 (k + 1) y0 y1 y2 y3 y4 y5 y6 y7 y8 y9))
  | 0 => ⟨fun _ _ _ _ _ _ _ _ _ _ _ _ _ _ r h => by simp [scale_Decide.j0] at h, fun _ _ _ _ _ _ _ _ _ _ _ r h => by simp [scale_Decide.j1] at h, fun _ _ _ _ _ _ _ _ _ _ r h => by simp [scale_Decide.j2] at h⟩
  | k + 1 => by
    obtain ⟨ih0, ih1, ih2⟩ := scale_Decide.mono_l k
    refine ⟨?_, ?_, ?_⟩
    · intro y0 y1 y2 y3 y4 y5 y6 y7 y8 y9 y10 y11 y12 y13
      unfold scale_Decide.j0
      repeat' first
      | (with_reducible exact ih0 _ _ _ _ _ _ _ _ _ _ _ _ _ _)
      | (with_reducible exact ih1 _ _ _ _ _ _ _ _ _ _ _)
      | (with_reducible exact ih2 _ _ _ _ _ _ _ _ _ _)
      | (with_reducible exact LeO.refl _)
      | (with_reducible exact LeO.none _)
      | (with_reducible refine LeO.ite ?_ ?_)
      | (with_reducible refine LeO.bind ?_ (fun _ => ?_))
      | exact ih0 _ _ _ _ _ _ _ _ _ _ _ _ _ _
      | exact ih1 _ _ _ _ _ _ _ _ _ _ _
      | exact ih2 _ _ _ _ _ _ _ _ _ _
      | exact LeO.none _
      | refine LeO.ite ?_ ?_
      | refine LeO.bind ?_ (fun _ => ?_)
    · intro y0 y1 y2 y3 y4 y5 y6 y7 y8 y9 y10
      unfold scale_Decide.j1
      repeat' first
      | (with_reducible exact ih0 _ _ _ _ _ _ _ _ _ _ _ _ _ _)
      | (with_reducible exact ih1 _ _ _ _ _ _ _ _ _ _ _)
      | (with_reducible exact ih2 _ _ _ _ _ _ _ _ _ _)
      | (with_reducible exact LeO.refl _)
      | (with_reducible exact LeO.none _)
      | (with_reducible refine LeO.ite ?_ ?_)
      | (with_reducible refine LeO.bind ?_ (fun _ => ?_))
      | exact ih0 _ _ _ _ _ _ _ _ _ _ _ _ _ _
      | exact ih1 _ _ _ _ _ _ _ _ _ _ _
      | exact ih2 _ _ _ _ _ _ _ _ _ _
      | exact LeO.none _
      | refine LeO.ite ?_ ?_
      | refine LeO.bind ?_ (fun _ => ?_)
    · intro y0 y1 y2 y3 y4 y5 y6 y7 y8 y9
      unfold scale_Decide.j2
      repeat' first
      | (with_reducible exact ih0 _ _ _ _ _ _ _ _ _ _ _ _ _ _)
      | (with_reducible exact ih1 _ _ _ _ _ _ _ _ _ _ _)
      | (with_reducible exact ih2 _ _ _ _ _ _ _ _ _ _)
      | (with_reducible exact LeO.refl _)
      | (with_reducible exact LeO.none _)
      | (with_reducible refine LeO.ite ?_ ?_)
      | (with_reducible refine LeO.bind ?_ (fun _ => ?_))
      | exact ih0 _ _ _ _ _ _ _ _ _ _ _ _ _ _
      | exact ih1 _ _ _ _ _ _ _ _ _ _ _
      | exact ih2 _ _ _ _ _ _ _ _ _ _
      | exact LeO.none _
      | refine LeO.ite ?_ ?_
      | refine LeO.bind ?_ (fun _ => ?_)
theorem scale_Decide.mono : ∀ a0 a1 a2 a3 a4 a5 a6 a7 a8 a9 a10 a11 a12 a13 a14 k, LeO (scale_Decide.f k a0 a1 a2 a3 a4 a5 a6 a7 a8 a9 a10 a11 a12 a13 a14) (scale_Decide.f (k + 1) a0 a1 a2 a3 a4 a5 a6 a7 a8 a9 a10 a11 a12 a13 a14) := by
  intro a0 a1 a2 a3 a4 a5 a6 a7 a8 a9 a10 a11 a12 a13 a14 k
  obtain ⟨ih0, ih1, ih2⟩ := scale_Decide.mono_l k
  unfold scale_Decide.f
  repeat' first
      | (with_reducible exact ih0 _ _ _ _ _ _ _ _ _ _ _ _ _ _)
      | (with_reducible exact ih1 _ _ _ _ _ _ _ _ _ _ _)
      | (with_reducible exact ih2 _ _ _ _ _ _ _ _ _ _)
      | (with_reducible exact LeO.refl _)
      | (with_reducible exact LeO.none _)
      | (with_reducible refine LeO.ite ?_ ?_)
      | (with_reducible refine LeO.bind ?_ (fun _ => ?_))
      | exact ih0 _ _ _ _ _ _ _ _ _ _ _ _ _ _
      | exact ih1 _ _ _ _ _ _ _ _ _ _ _
      | exact ih2 _ _ _ _ _ _ _ _ _ _
      | exact LeO.none _
      | refine LeO.ite ?_ ?_
      | refine LeO.bind ?_ (fun _ => ?_)
def scale_Decide.T1 : Bool × List (List Nat × List Nat) := (true, [([], []), ([], []), ([], []), ([2], [2]), ([0, 1, 3], [0, 1, 3]), ([], []), ([], []), ([], []), ([7], [7]), ([5, 6, 8, 4], [5, 6, 8]), ([4, 9], [4, 9]), ([], []), ([11, 10, 9, 0, 1, 2, 3, 4, 5, 6, 7, 8, 9, 10, 11], [10, 11])])
def scale_Decide.B1 : List Nat := [0, 0, 0, 4, 15, 0, 0, 0, 128, 511, 1023, 0, 4095]
theorem scale_Decide.tab1 : rtab .any (opsOf Try.f21 1) = scale_Decide.T1 := by kernel_rfl
theorem scale_Decide.bits1 : waitsOk scale_Decide.T1.2 scale_Decide.B1 = true := by kernel_rfl
def scale_Decide.T3 : Bool × List (List Nat × List Nat) := (true, [([], []), ([0], [0]), ([], []), ([], []), ([3], [3]), ([], []), ([2, 4, 5], [2, 4, 5]), ([1, 6], [1, 6]), ([], []), ([8, 7, 6, 0, 1, 2, 3, 4, 5, 6, 7, 8], [7, 8])])
def scale_Decide.B3 : List Nat := [0, 1, 0, 0, 8, 0, 60, 127, 0, 511]
theorem scale_Decide.tab3 : rtab .any (opsOf Try.f21 3) = scale_Decide.T3 := by kernel_rfl
theorem scale_Decide.bits3 : waitsOk scale_Decide.T3.2 scale_Decide.B3 = true := by kernel_rfl
set_option maxHeartbeats 8000000 in
set_option maxRecDepth 100000 in
theorem scale_Decide.calls (k : Nat) (a0_0 : Int) (a0_1 : Int) (a1_0 : ByteArray) (a1_1 : Int) (a1_2 : Int) (a1_3 : Int) (a1_4 : Int) (a1_5 : Int) (a2 : Int) (a3 : Int) (a4 : Int) (a5 : Int) (a6 : Int) (a7 : Int) (a8 : Int) (r1 : Int) (r2 : Int) (w : World) (h : scale_Decide.f k a0_0 a0_1 a1_0 a1_1 a1_2 a1_3 a1_4 a1_5 a2 a3 a4 a5 a6 a7 a8 = some (r1, r2)) :
    Calls Try.prog 21 #[.agg #[.int .i64 a0_0, .int .i64 a0_1], .agg #[.string a1_0, .int .i64 a1_1, .int .i64 a1_2, .int .i64 a1_3, .int .i64 a1_4, .int .i64 a1_5], .int .i64 a2, .int .i64 a3, .int .i64 a4, .int .i64 a5, .int .i64 a6, .int .i64 a7, .int .i64 a8] w fun e w' => e = .returned (.agg #[.int .i64 r1, .int .i64 r2]) ∧ Below w.heap.size w w' := by
  have hu30 := Try.underlying30
  have hu25 := Try.underlying25
  have hu46 := Try.underlying46
  have hu50 := Try.underlying50
  have HB := Aside0.mk (Below.refl w.heap.size w)
  have H : ((scale_Need.f a4 a5 a1_2).bind fun t109 => ((scale_Need.f a6 a7 a1_2).bind fun t110 => ((scale_State_hurried.f a0_0 a0_1 t110 (mx 1 a2)).bind fun t112 => (if t112 > 0 then ((scale_State_most.f a0_0 a0_1 t109 t110).bind fun t114 => (scale_Decide.j0 k a2 a3 a8 (mx 1 a2) a0_0 a0_1 a1_0 a1_1 a1_2 a1_3 a1_4 a1_5 t114 t112)) else (scale_Decide.j0 k a2 a3 a8 (mx 1 a2) a0_0 a0_1 a1_0 a1_1 a1_2 a1_3 a1_4 a1_5 t109 t112))))) = some (r1, r2) := h
  clear h
  replace H := Option.bind_eq_some_iff.mp H
  obtain ⟨t109, A100, H⟩ := H
  replace H : ((scale_Need.f a6 a7 a1_2).bind fun t110 => ((scale_State_hurried.f a0_0 a0_1 t110 (mx 1 a2)).bind fun t112 => (if t112 > 0 then ((scale_State_most.f a0_0 a0_1 t109 t110).bind fun t114 => (scale_Decide.j0 k a2 a3 a8 (mx 1 a2) a0_0 a0_1 a1_0 a1_1 a1_2 a1_3 a1_4 a1_5 t114 t112)) else (scale_Decide.j0 k a2 a3 a8 (mx 1 a2) a0_0 a0_1 a1_0 a1_1 a1_2 a1_3 a1_4 a1_5 t109 t112)))) = some (r1, r2) := H
  have A10 := Aside0.mk A100
  clear A100
  replace H := Option.bind_eq_some_iff.mp H
  obtain ⟨t110, A110, H⟩ := H
  replace H : ((scale_State_hurried.f a0_0 a0_1 t110 (mx 1 a2)).bind fun t112 => (if t112 > 0 then ((scale_State_most.f a0_0 a0_1 t109 t110).bind fun t114 => (scale_Decide.j0 k a2 a3 a8 (mx 1 a2) a0_0 a0_1 a1_0 a1_1 a1_2 a1_3 a1_4 a1_5 t114 t112)) else (scale_Decide.j0 k a2 a3 a8 (mx 1 a2) a0_0 a0_1 a1_0 a1_1 a1_2 a1_3 a1_4 a1_5 t109 t112))) = some (r1, r2) := H
  have A11 := Aside0.mk A110
  clear A110
  obtain ⟨ji12, hji12⟩ : ∃ j_ : Int, (mx 1 a2) = j_ := ⟨_, rfl⟩
  replace H : ((scale_State_hurried.f a0_0 a0_1 t110 (ji12)).bind fun t112 => (if t112 > 0 then ((scale_State_most.f a0_0 a0_1 t109 t110).bind fun t114 => (scale_Decide.j0 k a2 a3 a8 ji12 a0_0 a0_1 a1_0 a1_1 a1_2 a1_3 a1_4 a1_5 t114 t112)) else (scale_Decide.j0 k a2 a3 a8 ji12 a0_0 a0_1 a1_0 a1_1 a1_2 a1_3 a1_4 a1_5 t109 t112))) = some (r1, r2) := by first | (rw [hji12] at H; exact H) | (simp only [hji12] at H ⊢; exact H)
  (try rw [hji12] at A10)
  (try rw [hji12] at A11)
  (try (have hji12l : 1 ≤ ji12 := by (rw [← hji12]; unfold mx; (repeat' split) <;> omega)))
  (try (have hji12m : 0 ≤ ji12 := by omega))
  have hji12_ : (if 1 < a2 then a2 else 1) = ji12 := hji12
  replace H := Option.bind_eq_some_iff.mp H
  obtain ⟨t112, A130, H⟩ := H
  replace H : (if t112 > 0 then ((scale_State_most.f a0_0 a0_1 t109 t110).bind fun t114 => (scale_Decide.j0 k a2 a3 a8 ji12 a0_0 a0_1 a1_0 a1_1 a1_2 a1_3 a1_4 a1_5 t114 t112)) else (scale_Decide.j0 k a2 a3 a8 ji12 a0_0 a0_1 a1_0 a1_1 a1_2 a1_3 a1_4 a1_5 t109 t112)) = some (r1, r2) := H
  have A13 := Aside0.mk A130
  clear A130
  have HC14 := Aside0.mk H
  clear H
  go_enter Try.func21, Try.ntmps21
  try go_wp2_with (first | ((with_reducible refine gate_dst (N := 9) rfl ?_); refine box_event ?hg (N := 9) ?hd (cs := #[.int .i64 a0_0, .int .i64 a0_1]) (t := 30) ?hr ?_; (case hd => rfl); (case hg => rfl); (case hr => first | (go_simp; done) | (go_simp; rfl)); intro gb106 hg w15 hbox hb; have n0_ := Aside0.mk (below_step (by repeat (first | (with_reducible first | exact HB.out | apply below_alloc | apply pw_below_drewN | apply below_drew1) | exact HB.out)) hb); have n1_ := Aside0.mk (hbox); have n2_ := Aside0.mk ((by rw [hg]; exact (below_size (by repeat (first | (with_reducible first | exact HB.out | apply below_alloc | apply pw_below_drewN | apply below_drew1) | exact HB.out))) : w.heap.size ≤ gb106)); have n3_ := Aside0.mk ((by rw [hg]; exact (below_size (by repeat (first | (with_reducible first | exact HB.out | apply below_alloc | apply pw_below_drewN | apply below_drew1) | exact HB.out))) : w.heap.size ≤ gb106)); clear HB; have HB := n0_; have BK106 := n1_; have GW106 := n2_; have GE106 := n3_; clear n0_ n1_ n2_ n3_; clear hb hbox hg) | ((with_reducible refine gate_dst (N := 10) rfl ?_); refine box_event ?hg (N := 10) ?hd (cs := #[.string a1_0, .int .i64 a1_1, .int .i64 a1_2, .int .i64 a1_3, .int .i64 a1_4, .int .i64 a1_5]) (t := 25) ?hr ?_; (case hd => rfl); (case hg => rfl); (case hr => first | (go_simp; done) | (go_simp; rfl)); intro gb107 hg w16 hbox hb; have n0_ := Aside0.mk (blk_below (g := gb106) (pk BK106) hb); have n1_ := Aside0.mk (below_step (by repeat (first | (with_reducible first | exact HB.out | apply below_alloc | apply pw_below_drewN | apply below_drew1 | refine below_set ?_ GE106.out) | exact HB.out)) hb); have n2_ := Aside0.mk (hbox); have n3_ := Aside0.mk ((by rw [hg]; exact (below_size (by repeat (first | (with_reducible first | exact HB.out | apply below_alloc | apply pw_below_drewN | apply below_drew1 | refine below_set ?_ GE106.out) | exact HB.out))) : w.heap.size ≤ gb107)); have n4_ := Aside0.mk ((by rw [hg]; exact (below_size (by repeat (first | (with_reducible first | exact HB.out | apply below_alloc | apply pw_below_drewN | apply below_drew1 | refine below_set ?_ GE106.out) | exact HB.out))) : w.heap.size ≤ gb107)); have n5_ := Aside0.mk ((ne_lt hg (pk BK106) : gb106 ≠ gb107)); have n6_ := Aside0.mk ((ne_gt hg (pk BK106) : gb107 ≠ gb106)); clear BK106; clear HB; have BK106 := n0_; have HB := n1_; have BK107 := n2_; have GW107 := n3_; have GE107 := n4_; have NB106_107 := n5_; have NB107_106 := n6_; clear n0_ n1_ n2_ n3_ n4_ n5_ n6_; clear hb hbox hg) | ((with_reducible refine gate_dst (N := 18) rfl ?_); refine box_event ?hg (N := 18) ?hd (cs := #[.int .i64 0, .int .i64 0]) (t := 30) ?hr ?_; (case hd => rfl); (case hg => rfl); (case hr => first | (go_simp; done) | (go_simp; rfl)); intro gb108 hg w17 hbox hb; have n0_ := Aside0.mk (blk_below (g := gb106) (pk BK106) hb); have n1_ := Aside0.mk (blk_below (g := gb107) (pk BK107) hb); have n2_ := Aside0.mk (below_step (by repeat (first | (with_reducible first | exact HB.out | apply below_alloc | apply pw_below_drewN | apply below_drew1 | refine below_set ?_ GE106.out | refine below_set ?_ GE107.out) | exact HB.out)) hb); have n3_ := Aside0.mk (hbox); have n4_ := Aside0.mk ((by rw [hg]; exact (below_size (by repeat (first | (with_reducible first | exact HB.out | apply below_alloc | apply pw_below_drewN | apply below_drew1 | refine below_set ?_ GE106.out | refine below_set ?_ GE107.out) | exact HB.out))) : w.heap.size ≤ gb108)); have n5_ := Aside0.mk ((by rw [hg]; exact (below_size (by repeat (first | (with_reducible first | exact HB.out | apply below_alloc | apply pw_below_drewN | apply below_drew1 | refine below_set ?_ GE106.out | refine below_set ?_ GE107.out) | exact HB.out))) : w.heap.size ≤ gb108)); have n6_ := Aside0.mk ((ne_lt hg (pk BK106) : gb106 ≠ gb108)); have n7_ := Aside0.mk ((ne_gt hg (pk BK106) : gb108 ≠ gb106)); have n8_ := Aside0.mk ((ne_lt hg (pk BK107) : gb107 ≠ gb108)); have n9_ := Aside0.mk ((ne_gt hg (pk BK107) : gb108 ≠ gb107)); clear BK106; clear BK107; clear HB; have BK106 := n0_; have BK107 := n1_; have HB := n2_; have BK108 := n3_; have GW108 := n4_; have GE108 := n5_; have NB106_108 := n6_; have NB108_106 := n7_; have NB107_108 := n8_; have NB108_107 := n9_; clear n0_ n1_ n2_ n3_ n4_ n5_ n6_ n7_ n8_ n9_; clear hb hbox hg))
  replace BK106 := Aside0.mk (blk_drew BK106.out)
  replace BK107 := Aside0.mk (blk_drew BK107.out)
  replace BK108 := Aside0.mk (blk_drew BK108.out)
  replace HB := Aside0.mk (below_drew1 HB.out)
  refine start_ (n := 13) (S := fun w' => w'.cell? ⟨gb107, 0, none⟩ = some (.string a1_0) ∧ w'.cell? ⟨gb107, 1, none⟩ = some (.int .i64 a1_1) ∧ w'.cell? ⟨gb107, 2, none⟩ = some (.int .i64 a1_2) ∧ w'.cell? ⟨gb107, 3, none⟩ = some (.int .i64 a1_3) ∧ w'.cell? ⟨gb107, 4, none⟩ = some (.int .i64 a1_4) ∧ w'.cell? ⟨gb107, 5, none⟩ = some (.int .i64 a1_5)) (ds := []) #[false, false, false, false, false, false, false, false, false, false, false, false, false] (by kernel_rfl) rfl rfl ⟨bc BK107 0, bc BK107 1, bc BK107 2, bc BK107 3, bc BK107 4, bc BK107 5⟩ (fun hHeld => ?_); refine with_tabW scale_Decide.tab1 scale_Decide.bits1 (fun HT_ HW_ => ?_)
  generalize w17.drew = w18 at BK106 BK107 BK108 HB hHeld ⊢
  refine pure_ (i := 0) (N := some 23) (v := ?_) (a' := ?_) #[true, false, false, false, false, false, false, false, false, false, false, false, false] rfl rfl (any_of HT_.out (by kernel_rfl)) (fun _ _ _ h => h) (Or.inl ⟨by rfl, ?_⟩) ?_ ?_
  rotate_left
  · intro w'
    go_simp
    with_reducible rfl
  rotate_left
  · simp only [Act.put, List.setIfInBounds_toArray, List.set_cons_zero, List.set_cons_succ, i64_w, i32_w]
    rfl
  refine pure_ (i := 1) (N := some 24) (v := ?_) (a' := ?_) #[true, true, false, false, false, false, false, false, false, false, false, false, false] rfl rfl (any_of HT_.out (by kernel_rfl)) (fun _ _ _ h => h) (Or.inl ⟨by rfl, ?_⟩) ?_ ?_
  rotate_left
  · intro w'
    go_simp
    with_reducible rfl
  rotate_left
  · simp only [Act.put, List.setIfInBounds_toArray, List.set_cons_zero, List.set_cons_succ, i64_w, i32_w]
    rfl
  refine pure_ (i := 2) (N := some 25) (v := ?_) (a' := ?_) #[true, true, true, false, false, false, false, false, false, false, false, false, false] rfl rfl (any_of HT_.out (by kernel_rfl)) (fun _ _ _ h => h) (Or.inl ⟨by rfl, ?_⟩) ?_ ?_
  rotate_left
  · intro w'
    go_simp
    with_reducible rfl
  rotate_left
  · simp only [Act.put, List.setIfInBounds_toArray, List.set_cons_zero, List.set_cons_succ, i64_w, i32_w]
    rfl
  refine pure_ (i := 5) (N := some 28) (v := ?_) (a' := ?_) #[true, true, true, false, false, true, false, false, false, false, false, false, false] rfl rfl (any_of HT_.out (by kernel_rfl)) (fun _ _ _ h => h) (Or.inl ⟨by rfl, ?_⟩) ?_ ?_
  rotate_left
  · intro w'
    go_simp
    with_reducible rfl
  rotate_left
  · simp only [Act.put, List.setIfInBounds_toArray, List.set_cons_zero, List.set_cons_succ, i64_w, i32_w]
    rfl
  refine pure_ (i := 6) (N := some 29) (v := ?_) (a' := ?_) #[true, true, true, false, false, true, true, false, false, false, false, false, false] rfl rfl (any_of HT_.out (by kernel_rfl)) (fun _ _ _ h => h) (Or.inl ⟨by rfl, ?_⟩) ?_ ?_
  rotate_left
  · intro w'
    go_simp
    with_reducible rfl
  rotate_left
  · simp only [Act.put, List.setIfInBounds_toArray, List.set_cons_zero, List.set_cons_succ, i64_w, i32_w]
    rfl
  refine pure_ (i := 7) (N := some 30) (v := ?_) (a' := ?_) #[true, true, true, false, false, true, true, true, false, false, false, false, false] rfl rfl (any_of HT_.out (by kernel_rfl)) (fun _ _ _ h => h) (Or.inl ⟨by rfl, ?_⟩) ?_ ?_
  rotate_left
  · intro w'
    go_simp
    with_reducible rfl
  rotate_left
  · simp only [Act.put, List.setIfInBounds_toArray, List.set_cons_zero, List.set_cons_succ, i64_w, i32_w]
    rfl
  refine take_ (i := 3) (N := some 26) (v := ?_) (a' := ?_) #[true, true, true, true, false, true, true, true, false, false, false, false, false] rfl rfl (take_ofW HT_.out HW_.out (by kernel_rfl)) (fun _ _ _ h => h) (Or.inl ⟨by rfl, ?_⟩) hHeld ?_ ?_
  rotate_left
  · rintro w' ⟨s0, s1, s2, s3, s4, s5⟩
    go_simp
    with_reducible rfl
  rotate_left
  · simp only [Act.put, List.setIfInBounds_toArray, List.set_cons_zero, List.set_cons_succ, i64_w, i32_w]
    rfl
  refine take_ (i := 8) (N := some 31) (v := ?_) (a' := ?_) #[true, true, true, true, false, true, true, true, true, false, false, false, false] rfl rfl (take_ofW HT_.out HW_.out (by kernel_rfl)) (fun _ _ _ h => h) (Or.inl ⟨by rfl, ?_⟩) hHeld ?_ ?_
  rotate_left
  · rintro w' ⟨s0, s1, s2, s3, s4, s5⟩
    go_simp
    with_reducible rfl
  rotate_left
  · simp only [Act.put, List.setIfInBounds_toArray, List.set_cons_zero, List.set_cons_succ, i64_w, i32_w]
    rfl
  refine join_ (σ := Nat) 1 #[true, true, true, true, true, true, true, true, true, true, true, true, false] (fun s_ => [(27, .int .i64 t109), (32, .int .i64 t110), (19, .pointer (some ⟨s_, 0, none⟩)), (33, .agg #[.int .i64 t109, .int .i64 t110])]) (fun s_ w' => (w'.cell? ⟨gb107, 0, none⟩ = some (.string a1_0) ∧ w'.cell? ⟨gb107, 1, none⟩ = some (.int .i64 a1_1) ∧ w'.cell? ⟨gb107, 2, none⟩ = some (.int .i64 a1_2) ∧ w'.cell? ⟨gb107, 3, none⟩ = some (.int .i64 a1_3) ∧ w'.cell? ⟨gb107, 4, none⟩ = some (.int .i64 a1_4) ∧ w'.cell? ⟨gb107, 5, none⟩ = some (.int .i64 a1_5)) ∧ (w'.heap[gb106]? = some (.cells #[.int .i64 a0_0, .int .i64 a0_1] 30 (0, 0))) ∧ (w'.heap[gb107]? = some (.cells #[.string a1_0, .int .i64 a1_1, .int .i64 a1_2, .int .i64 a1_3, .int .i64 a1_4, .int .i64 a1_5] 25 (0, 0))) ∧ (w'.heap[gb108]? = some (.cells #[.int .i64 0, .int .i64 0] 30 (0, 0))) ∧ (w'.heap[s_]? = some (.cells #[.int .i64 0, .int .i64 0] 46 (0, 0))) ∧ (w.heap.size ≤ s_) ∧ (w.heap.size ≤ s_) ∧ (gb106 ≠ s_) ∧ (s_ ≠ gb106) ∧ (gb107 ≠ s_) ∧ (s_ ≠ gb107) ∧ (gb108 ≠ s_) ∧ (s_ ≠ gb108) ∧ (Below w.heap.size w w')) ?_ ?_
  rotate_left
  · intro hCont
    refine two_ (i := 4) (j := 11) (Ni := some 27) (Nj := some 19) #[true, true, true, true, true, true, true, true, true, false, false, false, false] #[true, true, true, true, false, true, true, true, true, false, false, true, false] rfl rfl rfl rfl (two_of HT_.out (by kernel_rfl)) (by decide) (by decide) (fun K hK => ?_) (fun K hK => ?_)
    · skip
      refine goes_ Try.func19 (by kernel_rfl) rfl #[.int .i64 a4, .int .i64 a5, .int .i64 a1_2] (by rfl) rfl rfl (by (try simp only [List.map_toArray, List.map_cons, List.map_nil]); first | done | rfl | (simp only [List.length_drop, List.length_take]; rfl)) ?_
      with_reducible refine (scale_Need.calls a4 a5 a1_2 t109 _ A10.out).mono ?_
      rintro e w' ⟨rfl, ⟨nd, rfl⟩⟩
      refine ⟨_, rfl, ?_⟩
      refine hK.out _ _ ⟨bc BK107 0, bc BK107 1, bc BK107 2, bc BK107 3, bc BK107 4, bc BK107 5⟩ (fun hHeld => ?_)
      clear hK K
      refine norm_ (a' := ?_) ?_ ?_
      rotate_left
      · show Act.put _ (some 27) _ = _
        simp only [Act.put, List.setIfInBounds_toArray, List.set_cons_zero, List.set_cons_succ, i64_w, i32_w]
        rfl
      refine two_ (i := 9) (j := 11) (Ni := some 32) (Nj := some 19) #[true, true, true, true, true, true, true, true, true, true, false, false, false] #[true, true, true, true, true, true, true, true, true, false, false, true, false] rfl rfl rfl rfl (two_of HT_.out (by kernel_rfl)) (by decide) (by decide) (fun K hK => ?_) (fun K hK => ?_)
      · skip
        refine goes_ Try.func19 (by kernel_rfl) rfl #[.int .i64 a6, .int .i64 a7, .int .i64 a1_2] (by rfl) rfl rfl (by (try simp only [List.map_toArray, List.map_cons, List.map_nil]); first | done | rfl | (simp only [List.length_drop, List.length_take]; rfl)) ?_
        with_reducible refine (scale_Need.calls a6 a7 a1_2 t110 _ A11.out).mono ?_
        rintro e w' ⟨rfl, ⟨nd, rfl⟩⟩
        refine ⟨_, rfl, ?_⟩
        refine hK.out _ _ ⟨bc BK107 0, bc BK107 1, bc BK107 2, bc BK107 3, bc BK107 4, bc BK107 5⟩ (fun hHeld => ?_)
        clear hK K
        refine norm_ (a' := ?_) ?_ ?_
        rotate_left
        · show Act.put _ (some 32) _ = _
          simp only [Act.put, List.setIfInBounds_toArray, List.set_cons_zero, List.set_cons_succ, i64_w, i32_w]
          rfl
        refine pure_ (i := 10) (N := some 33) (v := ?_) (a' := ?_) #[true, true, true, true, true, true, true, true, true, true, true, false, false] rfl rfl (any_of HT_.out (by kernel_rfl)) (fun _ _ _ h => h) (Or.inl ⟨by rfl, ?_⟩) ?_ ?_
        rotate_left
        · intro w'
          go_simp
          with_reducible rfl
        rotate_left
        · simp only [Act.put, List.setIfInBounds_toArray, List.set_cons_zero, List.set_cons_succ, i64_w, i32_w]
          rfl
        refine one_ (i := 11) (N := some 19) #[true, true, true, true, true, true, true, true, true, true, true, true, false] rfl rfl (one_of HT_.out (by kernel_rfl)) (by decide) (fun K hK => ?_)
        refine box_step ?hg (N := 19) ?hd (cs := #[.int .i64 0, .int .i64 0]) (t := 46) ?hr ?_; (case hd => rfl); (case hg => rfl); (case hr => first | (go_simp; done) | (go_simp; rfl))
        intro gb111 hg w19 hbox hb
        have BK111 := Aside0.mk (hbox)
        have GW111 := Aside0.mk ((by rw [hg]; exact (below_size (by repeat (first | (with_reducible first | exact HB.out | apply below_alloc | apply pw_below_drewN | apply below_drew1 | refine below_set ?_ GE106.out | refine below_set ?_ GE107.out | refine below_set ?_ GE108.out) | exact HB.out))) : w.heap.size ≤ gb111))
        have GE111 := GW111
        have NB106_111 := Aside0.mk ((ne_lt hg (pk BK106) : gb106 ≠ gb111))
        have NB111_106 := Aside0.mk ((ne_gt hg (pk BK106) : gb111 ≠ gb106))
        have NB107_111 := Aside0.mk ((ne_lt hg (pk BK107) : gb107 ≠ gb111))
        have NB111_107 := Aside0.mk ((ne_gt hg (pk BK107) : gb111 ≠ gb107))
        have NB108_111 := Aside0.mk ((ne_lt hg (pk BK108) : gb108 ≠ gb111))
        have NB111_108 := Aside0.mk ((ne_gt hg (pk BK108) : gb111 ≠ gb108))
        replace BK106 := Aside0.mk (blk_below (g := gb106) (pk BK106) hb)
        replace BK107 := Aside0.mk (blk_below (g := gb107) (pk BK107) hb)
        replace BK108 := Aside0.mk (blk_below (g := gb108) (pk BK108) hb)
        replace HB := Aside0.mk (below_step (by repeat (first | (with_reducible first | exact HB.out | apply below_alloc | apply pw_below_drewN | apply below_drew1 | refine below_set ?_ GE106.out | refine below_set ?_ GE107.out | refine below_set ?_ GE108.out) | exact HB.out)) hb)
        clear hb hbox hg
        refine hK.out _ _ ⟨bc BK107 0, bc BK107 1, bc BK107 2, bc BK107 3, bc BK107 4, bc BK107 5⟩ (fun hHeld => ?_)
        clear hK K
        refine norm_ (a' := ?_) ?_ ?_
        rotate_left
        · show Act.put _ (some 19) _ = _
          simp only [Act.put, List.setIfInBounds_toArray, List.set_cons_zero, List.set_cons_succ, i64_w, i32_w]
          rfl
        exact norm_ (by simp only [putAll, Act.put, List.setIfInBounds_toArray, List.set_cons_zero, List.set_cons_succ]) (hCont (gb111) _ ⟨hHeld, (pk BK106), (pk BK107), (pk BK108), (pk BK111), GW111.out, GE111.out, NB106_111.out, NB111_106.out, NB107_111.out, NB111_107.out, NB108_111.out, NB111_108.out, (by repeat (first | (with_reducible first | exact HB.out | apply below_alloc | apply pw_below_drewN | apply below_drew1 | refine below_set ?_ GE106.out | refine below_set ?_ GE107.out | refine below_set ?_ GE108.out | refine below_set ?_ GE111.out) | exact HB.out))⟩)
      · skip
        refine box_step ?hg (N := 19) ?hd (cs := #[.int .i64 0, .int .i64 0]) (t := 46) ?hr ?_; (case hd => rfl); (case hg => rfl); (case hr => first | (go_simp; done) | (go_simp; rfl))
        intro gb111 hg w19 hbox hb
        have BK111 := Aside0.mk (hbox)
        have GW111 := Aside0.mk ((by rw [hg]; exact (below_size (by repeat (first | (with_reducible first | exact HB.out | apply below_alloc | apply pw_below_drewN | apply below_drew1 | refine below_set ?_ GE106.out | refine below_set ?_ GE107.out | refine below_set ?_ GE108.out) | exact HB.out))) : w.heap.size ≤ gb111))
        have GE111 := GW111
        have NB106_111 := Aside0.mk ((ne_lt hg (pk BK106) : gb106 ≠ gb111))
        have NB111_106 := Aside0.mk ((ne_gt hg (pk BK106) : gb111 ≠ gb106))
        have NB107_111 := Aside0.mk ((ne_lt hg (pk BK107) : gb107 ≠ gb111))
        have NB111_107 := Aside0.mk ((ne_gt hg (pk BK107) : gb111 ≠ gb107))
        have NB108_111 := Aside0.mk ((ne_lt hg (pk BK108) : gb108 ≠ gb111))
        have NB111_108 := Aside0.mk ((ne_gt hg (pk BK108) : gb111 ≠ gb108))
        replace BK106 := Aside0.mk (blk_below (g := gb106) (pk BK106) hb)
        replace BK107 := Aside0.mk (blk_below (g := gb107) (pk BK107) hb)
        replace BK108 := Aside0.mk (blk_below (g := gb108) (pk BK108) hb)
        replace HB := Aside0.mk (below_step (by repeat (first | (with_reducible first | exact HB.out | apply below_alloc | apply pw_below_drewN | apply below_drew1 | refine below_set ?_ GE106.out | refine below_set ?_ GE107.out | refine below_set ?_ GE108.out) | exact HB.out)) hb)
        clear hb hbox hg
        refine hK.out _ _ ⟨bc BK107 0, bc BK107 1, bc BK107 2, bc BK107 3, bc BK107 4, bc BK107 5⟩ (fun hHeld => ?_)
        clear hK K
        refine norm_ (a' := ?_) ?_ ?_
        rotate_left
        · show Act.put _ (some 19) _ = _
          simp only [Act.put, List.setIfInBounds_toArray, List.set_cons_zero, List.set_cons_succ, i64_w, i32_w]
          rfl
        refine one_ (i := 9) (N := some 32) #[true, true, true, true, true, true, true, true, true, true, false, true, false] rfl rfl (one_of HT_.out (by kernel_rfl)) (by decide) (fun K hK => ?_)
        refine goes_ Try.func19 (by kernel_rfl) rfl #[.int .i64 a6, .int .i64 a7, .int .i64 a1_2] (by rfl) rfl rfl (by (try simp only [List.map_toArray, List.map_cons, List.map_nil]); first | done | rfl | (simp only [List.length_drop, List.length_take]; rfl)) ?_
        with_reducible refine (scale_Need.calls a6 a7 a1_2 t110 _ A11.out).mono ?_
        rintro e w' ⟨rfl, ⟨nd, rfl⟩⟩
        refine ⟨_, rfl, ?_⟩
        refine hK.out _ _ ⟨bc BK107 0, bc BK107 1, bc BK107 2, bc BK107 3, bc BK107 4, bc BK107 5⟩ (fun hHeld => ?_)
        clear hK K
        refine norm_ (a' := ?_) ?_ ?_
        rotate_left
        · show Act.put _ (some 32) _ = _
          simp only [Act.put, List.setIfInBounds_toArray, List.set_cons_zero, List.set_cons_succ, i64_w, i32_w]
          rfl
        refine pure_ (i := 10) (N := some 33) (v := ?_) (a' := ?_) #[true, true, true, true, true, true, true, true, true, true, true, true, false] rfl rfl (any_of HT_.out (by kernel_rfl)) (fun _ _ _ h => h) (Or.inl ⟨by rfl, ?_⟩) ?_ ?_
        rotate_left
        · intro w'
          go_simp
          with_reducible rfl
        rotate_left
        · simp only [Act.put, List.setIfInBounds_toArray, List.set_cons_zero, List.set_cons_succ, i64_w, i32_w]
          rfl
        exact norm_ (by simp only [putAll, Act.put, List.setIfInBounds_toArray, List.set_cons_zero, List.set_cons_succ]) (hCont (gb111) _ ⟨hHeld, (pk BK106), (pk BK107), (pk BK108), (pk BK111), GW111.out, GE111.out, NB106_111.out, NB111_106.out, NB107_111.out, NB111_107.out, NB108_111.out, NB111_108.out, (by repeat (first | (with_reducible first | exact HB.out | apply below_alloc | apply pw_below_drewN | apply below_drew1 | refine below_set ?_ GE106.out | refine below_set ?_ GE107.out | refine below_set ?_ GE108.out | refine below_set ?_ GE111.out) | exact HB.out))⟩)
    · skip
      refine box_step ?hg (N := 19) ?hd (cs := #[.int .i64 0, .int .i64 0]) (t := 46) ?hr ?_; (case hd => rfl); (case hg => rfl); (case hr => first | (go_simp; done) | (go_simp; rfl))
      intro gb111 hg w19 hbox hb
      have BK111 := Aside0.mk (hbox)
      have GW111 := Aside0.mk ((by rw [hg]; exact (below_size (by repeat (first | (with_reducible first | exact HB.out | apply below_alloc | apply pw_below_drewN | apply below_drew1 | refine below_set ?_ GE106.out | refine below_set ?_ GE107.out | refine below_set ?_ GE108.out) | exact HB.out))) : w.heap.size ≤ gb111))
      have GE111 := GW111
      have NB106_111 := Aside0.mk ((ne_lt hg (pk BK106) : gb106 ≠ gb111))
      have NB111_106 := Aside0.mk ((ne_gt hg (pk BK106) : gb111 ≠ gb106))
      have NB107_111 := Aside0.mk ((ne_lt hg (pk BK107) : gb107 ≠ gb111))
      have NB111_107 := Aside0.mk ((ne_gt hg (pk BK107) : gb111 ≠ gb107))
      have NB108_111 := Aside0.mk ((ne_lt hg (pk BK108) : gb108 ≠ gb111))
      have NB111_108 := Aside0.mk ((ne_gt hg (pk BK108) : gb111 ≠ gb108))
      replace BK106 := Aside0.mk (blk_below (g := gb106) (pk BK106) hb)
      replace BK107 := Aside0.mk (blk_below (g := gb107) (pk BK107) hb)
      replace BK108 := Aside0.mk (blk_below (g := gb108) (pk BK108) hb)
      replace HB := Aside0.mk (below_step (by repeat (first | (with_reducible first | exact HB.out | apply below_alloc | apply pw_below_drewN | apply below_drew1 | refine below_set ?_ GE106.out | refine below_set ?_ GE107.out | refine below_set ?_ GE108.out) | exact HB.out)) hb)
      clear hb hbox hg
      refine hK.out _ _ ⟨bc BK107 0, bc BK107 1, bc BK107 2, bc BK107 3, bc BK107 4, bc BK107 5⟩ (fun hHeld => ?_)
      clear hK K
      refine norm_ (a' := ?_) ?_ ?_
      rotate_left
      · show Act.put _ (some 19) _ = _
        simp only [Act.put, List.setIfInBounds_toArray, List.set_cons_zero, List.set_cons_succ, i64_w, i32_w]
        rfl
      refine one_ (i := 4) (N := some 27) #[true, true, true, true, true, true, true, true, true, false, false, true, false] rfl rfl (one_of HT_.out (by kernel_rfl)) (by decide) (fun K hK => ?_)
      refine goes_ Try.func19 (by kernel_rfl) rfl #[.int .i64 a4, .int .i64 a5, .int .i64 a1_2] (by rfl) rfl rfl (by (try simp only [List.map_toArray, List.map_cons, List.map_nil]); first | done | rfl | (simp only [List.length_drop, List.length_take]; rfl)) ?_
      with_reducible refine (scale_Need.calls a4 a5 a1_2 t109 _ A10.out).mono ?_
      rintro e w' ⟨rfl, ⟨nd, rfl⟩⟩
      refine ⟨_, rfl, ?_⟩
      refine hK.out _ _ ⟨bc BK107 0, bc BK107 1, bc BK107 2, bc BK107 3, bc BK107 4, bc BK107 5⟩ (fun hHeld => ?_)
      clear hK K
      refine norm_ (a' := ?_) ?_ ?_
      rotate_left
      · show Act.put _ (some 27) _ = _
        simp only [Act.put, List.setIfInBounds_toArray, List.set_cons_zero, List.set_cons_succ, i64_w, i32_w]
        rfl
      refine one_ (i := 9) (N := some 32) #[true, true, true, true, true, true, true, true, true, true, false, true, false] rfl rfl (one_of HT_.out (by kernel_rfl)) (by decide) (fun K hK => ?_)
      refine goes_ Try.func19 (by kernel_rfl) rfl #[.int .i64 a6, .int .i64 a7, .int .i64 a1_2] (by rfl) rfl rfl (by (try simp only [List.map_toArray, List.map_cons, List.map_nil]); first | done | rfl | (simp only [List.length_drop, List.length_take]; rfl)) ?_
      with_reducible refine (scale_Need.calls a6 a7 a1_2 t110 _ A11.out).mono ?_
      rintro e w' ⟨rfl, ⟨nd, rfl⟩⟩
      refine ⟨_, rfl, ?_⟩
      refine hK.out _ _ ⟨bc BK107 0, bc BK107 1, bc BK107 2, bc BK107 3, bc BK107 4, bc BK107 5⟩ (fun hHeld => ?_)
      clear hK K
      refine norm_ (a' := ?_) ?_ ?_
      rotate_left
      · show Act.put _ (some 32) _ = _
        simp only [Act.put, List.setIfInBounds_toArray, List.set_cons_zero, List.set_cons_succ, i64_w, i32_w]
        rfl
      refine pure_ (i := 10) (N := some 33) (v := ?_) (a' := ?_) #[true, true, true, true, true, true, true, true, true, true, true, true, false] rfl rfl (any_of HT_.out (by kernel_rfl)) (fun _ _ _ h => h) (Or.inl ⟨by rfl, ?_⟩) ?_ ?_
      rotate_left
      · intro w'
        go_simp
        with_reducible rfl
      rotate_left
      · simp only [Act.put, List.setIfInBounds_toArray, List.set_cons_zero, List.set_cons_succ, i64_w, i32_w]
        rfl
      exact norm_ (by simp only [putAll, Act.put, List.setIfInBounds_toArray, List.set_cons_zero, List.set_cons_succ]) (hCont (gb111) _ ⟨hHeld, (pk BK106), (pk BK107), (pk BK108), (pk BK111), GW111.out, GE111.out, NB106_111.out, NB111_106.out, NB107_111.out, NB111_107.out, NB108_111.out, NB111_108.out, (by repeat (first | (with_reducible first | exact HB.out | apply below_alloc | apply pw_below_drewN | apply below_drew1 | refine below_set ?_ GE106.out | refine below_set ?_ GE107.out | refine below_set ?_ GE108.out | refine below_set ?_ GE111.out) | exact HB.out))⟩)
  rintro gb111 w20 ⟨hS_, h0_, h1_, h2_, h3_, h4_, h5_, h6_, h7_, h8_, h9_, h10_, h11_, h12_⟩
  have BK111 := Aside0.mk h3_
  have GW111 : Aside0 (w.heap.size ≤ gb111) := ⟨h4_⟩
  have GE111 : Aside0 (w.heap.size ≤ gb111) := ⟨h5_⟩
  have NB106_111 : Aside0 (gb106 ≠ gb111) := ⟨h6_⟩
  have NB111_106 : Aside0 (gb111 ≠ gb106) := ⟨h7_⟩
  have NB107_111 : Aside0 (gb107 ≠ gb111) := ⟨h8_⟩
  have NB111_107 : Aside0 (gb111 ≠ gb107) := ⟨h9_⟩
  have NB108_111 : Aside0 (gb108 ≠ gb111) := ⟨h10_⟩
  have NB111_108 : Aside0 (gb111 ≠ gb108) := ⟨h11_⟩
  replace BK106 := Aside0.mk h0_
  replace BK107 := Aside0.mk h1_
  replace BK108 := Aside0.mk h2_
  replace HB : Aside0 (Below w.heap.size w w20) := ⟨h12_⟩
  clear h0_ h1_ h2_ h3_ h4_ h5_ h6_ h7_ h8_ h9_ h10_ h11_ h12_
  have hHeld := hS_
  refine norm_ (a' := ?_) ?_ ?_
  rotate_left
  · simp only [putAll, Act.put, List.setIfInBounds_toArray, List.set_cons_zero, List.set_cons_succ]
    rfl
  refine one_ (i := 12) (N := none) #[true, true, true, true, true, true, true, true, true, true, true, true, true] rfl rfl (one_of HT_.out (by kernel_rfl)) (by decide) (fun K hK => ?_)
  have hs21 : w20.cell? ⟨gb111, 0, none⟩ = some (.int .i64 0) := bc BK111 0
  have hfs21 := blk_frozen BK111.out 0
  have hns21_0 := NB106_111.out
  have hns21_1 := NB107_111.out
  have hns21_2 := NB108_111.out
  have hms21_0 := NB111_106.out
  have hms21_1 := NB111_107.out
  have hms21_2 := NB111_108.out
  have hs22 : w20.cell? ⟨gb111, 1, none⟩ = some (.int .i64 0) := bc BK111 1
  have hfs22 := blk_frozen BK111.out 1
  with_reducible_and_instances refine skip_ (w1 := ?_) ?hw_ ?hN_ ?_ ?_
  (case hw_ => rfl)
  (case hN_ => rfl)
  rotate_left
  · go_simp
    rfl
  refine hK.out _ _ ⟨(cf NB107_111 ((cf NB107_111 (hHeld.1)))), (cf NB107_111 ((cf NB107_111 (hHeld.2.1)))), (cf NB107_111 ((cf NB107_111 (hHeld.2.2.1)))), (cf NB107_111 ((cf NB107_111 (hHeld.2.2.2.1)))), (cf NB107_111 ((cf NB107_111 (hHeld.2.2.2.2.1)))), (cf NB107_111 ((cf NB107_111 (hHeld.2.2.2.2.2))))⟩ (fun hHeld => ?_)
  clear hK K
  refine done_ (done_of HT_.out (by kernel_rfl)) ?_
  try go_wp2
  have n0_ : Aside0 (((w20.setCell ⟨gb111, 0, none⟩ (.int .i64 t109)).setCell ⟨gb111, 1, none⟩ (.int .i64 t110)).heap[gb106]? = some (.cells #[.int .i64 a0_0, .int .i64 a0_1] 30 (0, 0))) := ⟨by (repeat ((with_reducible repeat (first | refine blk_drewN ?_ _ | refine blk_drew ?_ | refine blk_alloc ?_ _)); refine blk_far ?_ NB106_111.out _)); (with_reducible repeat (first | refine blk_drewN ?_ _ | refine blk_drew ?_ | refine blk_alloc ?_ _)); exact BK106.out⟩
  have n1_ : Aside0 (((w20.setCell ⟨gb111, 0, none⟩ (.int .i64 t109)).setCell ⟨gb111, 1, none⟩ (.int .i64 t110)).heap[gb107]? = some (.cells #[.string a1_0, .int .i64 a1_1, .int .i64 a1_2, .int .i64 a1_3, .int .i64 a1_4, .int .i64 a1_5] 25 (0, 0))) := ⟨by (repeat ((with_reducible repeat (first | refine blk_drewN ?_ _ | refine blk_drew ?_ | refine blk_alloc ?_ _)); refine blk_far ?_ NB107_111.out _)); (with_reducible repeat (first | refine blk_drewN ?_ _ | refine blk_drew ?_ | refine blk_alloc ?_ _)); exact BK107.out⟩
  have n2_ : Aside0 (((w20.setCell ⟨gb111, 0, none⟩ (.int .i64 t109)).setCell ⟨gb111, 1, none⟩ (.int .i64 t110)).heap[gb108]? = some (.cells #[.int .i64 0, .int .i64 0] 30 (0, 0))) := ⟨by (repeat ((with_reducible repeat (first | refine blk_drewN ?_ _ | refine blk_drew ?_ | refine blk_alloc ?_ _)); refine blk_far ?_ NB108_111.out _)); (with_reducible repeat (first | refine blk_drewN ?_ _ | refine blk_drew ?_ | refine blk_alloc ?_ _)); exact BK108.out⟩
  have n3_ : Aside0 (((w20.setCell ⟨gb111, 0, none⟩ (.int .i64 t109)).setCell ⟨gb111, 1, none⟩ (.int .i64 t110)).heap[gb111]? = some (.cells #[.int .i64 t109, .int .i64 t110] 46 (0, 0))) := ⟨by (with_reducible repeat (first | refine blk_drewN ?_ _ | refine blk_drew ?_ | refine blk_alloc ?_ _)); refine blk_put (cs := #[.int .i64 t109, .int .i64 0]) ?_ 1 _ rfl; refine blk_put (cs := #[.int .i64 0, .int .i64 0]) ?_ 0 _ rfl; (with_reducible repeat (first | refine blk_drewN ?_ _ | refine blk_drew ?_ | refine blk_alloc ?_ _)); exact BK111.out⟩
  have n4_ : Aside0 (Below w.heap.size w ((w20.setCell ⟨gb111, 0, none⟩ (.int .i64 t109)).setCell ⟨gb111, 1, none⟩ (.int .i64 t110))) := ⟨by repeat (first | (with_reducible first | exact HB.out | apply below_alloc | apply pw_below_drewN | apply below_drew1 | refine below_set ?_ GE106.out | refine below_set ?_ GE107.out | refine below_set ?_ GE108.out | refine below_set ?_ GE111.out) | exact HB.out)⟩
  (try clear BK106)
  (try clear BK107)
  (try clear BK108)
  (try clear BK111)
  (try clear HB)
  generalize ((w20.setCell ⟨gb111, 0, none⟩ (.int .i64 t109)).setCell ⟨gb111, 1, none⟩ (.int .i64 t110)) = w23 at n0_ n1_ n2_ n3_ n4_ ⊢
  have BK106 := n0_
  have BK107 := n1_
  have BK108 := n2_
  have BK111 := n3_
  have HB := n4_
  clear n0_ n1_ n2_ n3_ n4_
  replace BK106 := Aside0.mk (blk_drew BK106.out)
  replace BK107 := Aside0.mk (blk_drew BK107.out)
  replace BK108 := Aside0.mk (blk_drew BK108.out)
  replace BK111 := Aside0.mk (blk_drew BK111.out)
  replace HB := Aside0.mk (below_drew1 HB.out)
  refine start_ (n := 10) (S := fun w' => w'.cell? ⟨gb111, 0, none⟩ = some (.int .i64 t109) ∧ w'.cell? ⟨gb111, 1, none⟩ = some (.int .i64 t110) ∧ w'.cell? ⟨gb106, 0, none⟩ = some (.int .i64 a0_0) ∧ w'.cell? ⟨gb106, 1, none⟩ = some (.int .i64 a0_1)) (ds := []) #[false, false, false, false, false, false, false, false, false, false] (by kernel_rfl) rfl rfl ⟨bc BK111 0, bc BK111 1, bc BK106 0, bc BK106 1⟩ (fun hHeld => ?_); refine with_tabW scale_Decide.tab3 scale_Decide.bits3 (fun HT_ HW_ => ?_)
  generalize w23.drew = w24 at BK106 BK107 BK108 BK111 HB hHeld ⊢
  refine pure_ (i := 0) (N := some 36) (v := ?_) (a' := ?_) #[true, false, false, false, false, false, false, false, false, false] rfl rfl (any_of HT_.out (by kernel_rfl)) (fun _ _ _ h => h) (Or.inl ⟨by rfl, ?_⟩) ?_ ?_
  rotate_left
  · intro w'
    go_simp
    with_reducible rfl
  rotate_left
  · simp only [Act.put, List.setIfInBounds_toArray, List.set_cons_zero, List.set_cons_succ, i64_w, i32_w]
    rfl
  refine pure_ (i := 3) (N := some 39) (v := ?_) (a' := ?_) #[true, false, false, true, false, false, false, false, false, false] rfl rfl (any_of HT_.out (by kernel_rfl)) (fun _ _ _ h => h) (Or.inl ⟨by rfl, ?_⟩) ?_ ?_
  rotate_left
  · intro w'
    go_simp
    with_reducible rfl
  rotate_left
  · simp only [Act.put, List.setIfInBounds_toArray, List.set_cons_zero, List.set_cons_succ, i64_w, i32_w]
    rfl
  refine pure_ (i := 5) (N := some 41) (v := ?_) (a' := ?_) #[true, false, false, true, false, true, false, false, false, false] rfl rfl (any_of HT_.out (by kernel_rfl)) (fun _ _ _ h => h) (Or.inl ⟨by rfl, ?_⟩) ?_ ?_
  rotate_left
  · intro w'
    go_simp
    with_reducible rfl
  rotate_left
  · simp only [Act.put, List.setIfInBounds_toArray, List.set_cons_zero, List.set_cons_succ, i64_w, i32_w]
    rfl
  refine take_ (i := 1) (N := some 37) (v := ?_) (a' := ?_) #[true, true, false, true, false, true, false, false, false, false] rfl rfl (take_ofW HT_.out HW_.out (by kernel_rfl)) (fun _ _ _ h => h) (Or.inl ⟨by rfl, ?_⟩) hHeld ?_ ?_
  rotate_left
  · rintro w' ⟨s0, s1, s2, s3⟩
    go_simp
    with_reducible rfl
  rotate_left
  · simp only [Act.put, List.setIfInBounds_toArray, List.set_cons_zero, List.set_cons_succ, i64_w, i32_w]
    rfl
  refine take_ (i := 2) (N := some 38) (v := ?_) (a' := ?_) #[true, true, true, true, false, true, false, false, false, false] rfl rfl (take_ofW HT_.out HW_.out (by kernel_rfl)) (fun _ _ _ h => h) (Or.inl ⟨by rfl, ?_⟩) hHeld ?_ ?_
  rotate_left
  · rintro w' ⟨s0, s1, s2, s3⟩
    go_simp
    with_reducible rfl
  rotate_left
  · simp only [Act.put, List.setIfInBounds_toArray, List.set_cons_zero, List.set_cons_succ, i64_w, i32_w]
    rfl
  refine take_ (i := 4) (N := some 40) (v := ?_) (a' := ?_) #[true, true, true, true, true, true, false, false, false, false] rfl rfl (take_ofW HT_.out HW_.out (by kernel_rfl)) (fun _ _ _ h => h) (Or.inl ⟨by rfl, ?_⟩) hHeld ?_ ?_
  rotate_left
  · rintro w' ⟨s0, s1, s2, s3⟩
    go_simp
    with_reducible rfl
  rotate_left
  · simp only [Act.put, List.setIfInBounds_toArray, List.set_cons_zero, List.set_cons_succ, i64_w, i32_w]
    rfl
  refine join_ (σ := Nat) 1 #[true, true, true, true, true, true, true, true, true, false] (fun s_ => [(42, .int .i64 t112), (21, .pointer (some ⟨s_, 0, none⟩)), (43, .agg #[.int .i64 t109, .int .i64 t112])]) (fun s_ w' => (w'.cell? ⟨gb111, 0, none⟩ = some (.int .i64 t109) ∧ w'.cell? ⟨gb111, 1, none⟩ = some (.int .i64 t110) ∧ w'.cell? ⟨gb106, 0, none⟩ = some (.int .i64 a0_0) ∧ w'.cell? ⟨gb106, 1, none⟩ = some (.int .i64 a0_1)) ∧ (w'.heap[gb106]? = some (.cells #[.int .i64 a0_0, .int .i64 a0_1] 30 (0, 0))) ∧ (w'.heap[gb107]? = some (.cells #[.string a1_0, .int .i64 a1_1, .int .i64 a1_2, .int .i64 a1_3, .int .i64 a1_4, .int .i64 a1_5] 25 (0, 0))) ∧ (w'.heap[gb108]? = some (.cells #[.int .i64 0, .int .i64 0] 30 (0, 0))) ∧ (w'.heap[gb111]? = some (.cells #[.int .i64 t109, .int .i64 t110] 46 (0, 0))) ∧ (w'.heap[s_]? = some (.cells #[.int .i64 0, .int .i64 0] 30 (0, 0))) ∧ (w.heap.size ≤ s_) ∧ (w.heap.size ≤ s_) ∧ (gb106 ≠ s_) ∧ (s_ ≠ gb106) ∧ (gb107 ≠ s_) ∧ (s_ ≠ gb107) ∧ (gb108 ≠ s_) ∧ (s_ ≠ gb108) ∧ (gb111 ≠ s_) ∧ (s_ ≠ gb111) ∧ (Below w.heap.size w w')) ?_ ?_
  rotate_left
  · intro hCont
    refine two_ (i := 6) (j := 8) (Ni := some 42) (Nj := some 21) #[true, true, true, true, true, true, true, false, false, false] #[true, true, true, true, true, true, false, false, true, false] rfl rfl rfl rfl (two_of HT_.out (by kernel_rfl)) (by decide) (by decide) (fun K hK => ?_) (fun K hK => ?_)
    · skip
      refine goes_ Try.func23 (by kernel_rfl) rfl #[.agg #[.int .i64 a0_0, .int .i64 a0_1], .int .i64 t110, .int .i64 ji12] (by rfl) rfl rfl (by (try simp only [List.map_toArray, List.map_cons, List.map_nil]); first | done | (simp only [hji12]; rfl) | rfl | (simp only [List.length_drop, List.length_take]; rfl)) ?_
      with_reducible refine (scale_State_hurried.calls a0_0 a0_1 t110 ji12 t112 _ A13.out).mono ?_
      rintro e w25 ⟨rfl, hb⟩
      refine ⟨_, rfl, ?_⟩
      replace BK106 := Aside0.mk (blk_below (g := gb106) (pk BK106) hb)
      replace BK107 := Aside0.mk (blk_below (g := gb107) (pk BK107) hb)
      replace BK108 := Aside0.mk (blk_below (g := gb108) (pk BK108) hb)
      replace BK111 := Aside0.mk (blk_below (g := gb111) (pk BK111) hb)
      replace HB := Aside0.mk (below_step (by repeat (first | (with_reducible first | exact HB.out | apply below_alloc | apply pw_below_drewN | apply below_drew1 | refine below_set ?_ GE106.out | refine below_set ?_ GE107.out | refine below_set ?_ GE108.out | refine below_set ?_ GE111.out) | exact HB.out)) hb)
      (try clear hb)
      (try clear hb2)
      (try clear hk)
      (try clear hi)
      refine hK.out _ _ ⟨bc BK111 0, bc BK111 1, bc BK106 0, bc BK106 1⟩ (fun hHeld => ?_)
      clear hK K
      refine norm_ (a' := ?_) ?_ ?_
      rotate_left
      · show Act.put _ (some 42) _ = _
        simp only [Act.put, List.setIfInBounds_toArray, List.set_cons_zero, List.set_cons_succ, i64_w, i32_w]
        rfl
      refine pure_ (i := 7) (N := some 43) (v := ?_) (a' := ?_) #[true, true, true, true, true, true, true, true, false, false] rfl rfl (any_of HT_.out (by kernel_rfl)) (fun _ _ _ h => h) (Or.inl ⟨by rfl, ?_⟩) ?_ ?_
      rotate_left
      · intro w'
        go_simp
        with_reducible rfl
      rotate_left
      · simp only [Act.put, List.setIfInBounds_toArray, List.set_cons_zero, List.set_cons_succ, i64_w, i32_w]
        rfl
      refine one_ (i := 8) (N := some 21) #[true, true, true, true, true, true, true, true, true, false] rfl rfl (one_of HT_.out (by kernel_rfl)) (by decide) (fun K hK => ?_)
      refine box_step ?hg (N := 21) ?hd (cs := #[.int .i64 0, .int .i64 0]) (t := 30) ?hr ?_; (case hd => rfl); (case hg => rfl); (case hr => first | (go_simp; done) | (go_simp; rfl))
      intro gb113 hg w26 hbox hb
      have BK113 := Aside0.mk (hbox)
      have GW113 := Aside0.mk ((by rw [hg]; exact (below_size (by repeat (first | (with_reducible first | exact HB.out | apply below_alloc | apply pw_below_drewN | apply below_drew1 | refine below_set ?_ GE106.out | refine below_set ?_ GE107.out | refine below_set ?_ GE108.out | refine below_set ?_ GE111.out) | exact HB.out))) : w.heap.size ≤ gb113))
      have GE113 := GW113
      have NB106_113 := Aside0.mk ((ne_lt hg (pk BK106) : gb106 ≠ gb113))
      have NB113_106 := Aside0.mk ((ne_gt hg (pk BK106) : gb113 ≠ gb106))
      have NB107_113 := Aside0.mk ((ne_lt hg (pk BK107) : gb107 ≠ gb113))
      have NB113_107 := Aside0.mk ((ne_gt hg (pk BK107) : gb113 ≠ gb107))
      have NB108_113 := Aside0.mk ((ne_lt hg (pk BK108) : gb108 ≠ gb113))
      have NB113_108 := Aside0.mk ((ne_gt hg (pk BK108) : gb113 ≠ gb108))
      have NB111_113 := Aside0.mk ((ne_lt hg (pk BK111) : gb111 ≠ gb113))
      have NB113_111 := Aside0.mk ((ne_gt hg (pk BK111) : gb113 ≠ gb111))
      replace BK106 := Aside0.mk (blk_below (g := gb106) (pk BK106) hb)
      replace BK107 := Aside0.mk (blk_below (g := gb107) (pk BK107) hb)
      replace BK108 := Aside0.mk (blk_below (g := gb108) (pk BK108) hb)
      replace BK111 := Aside0.mk (blk_below (g := gb111) (pk BK111) hb)
      replace HB := Aside0.mk (below_step (by repeat (first | (with_reducible first | exact HB.out | apply below_alloc | apply pw_below_drewN | apply below_drew1 | refine below_set ?_ GE106.out | refine below_set ?_ GE107.out | refine below_set ?_ GE108.out | refine below_set ?_ GE111.out) | exact HB.out)) hb)
      clear hb hbox hg
      refine hK.out _ _ ⟨bc BK111 0, bc BK111 1, bc BK106 0, bc BK106 1⟩ (fun hHeld => ?_)
      clear hK K
      refine norm_ (a' := ?_) ?_ ?_
      rotate_left
      · show Act.put _ (some 21) _ = _
        simp only [Act.put, List.setIfInBounds_toArray, List.set_cons_zero, List.set_cons_succ, i64_w, i32_w]
        rfl
      exact norm_ (by simp only [putAll, Act.put, List.setIfInBounds_toArray, List.set_cons_zero, List.set_cons_succ]) (hCont (gb113) _ ⟨hHeld, (pk BK106), (pk BK107), (pk BK108), (pk BK111), (pk BK113), GW113.out, GE113.out, NB106_113.out, NB113_106.out, NB107_113.out, NB113_107.out, NB108_113.out, NB113_108.out, NB111_113.out, NB113_111.out, (by repeat (first | (with_reducible first | exact HB.out | apply below_alloc | apply pw_below_drewN | apply below_drew1 | refine below_set ?_ GE106.out | refine below_set ?_ GE107.out | refine below_set ?_ GE108.out | refine below_set ?_ GE111.out | refine below_set ?_ GE113.out) | exact HB.out))⟩)
    · skip
      refine box_step ?hg (N := 21) ?hd (cs := #[.int .i64 0, .int .i64 0]) (t := 30) ?hr ?_; (case hd => rfl); (case hg => rfl); (case hr => first | (go_simp; done) | (go_simp; rfl))
      intro gb113 hg w25 hbox hb
      have BK113 := Aside0.mk (hbox)
      have GW113 := Aside0.mk ((by rw [hg]; exact (below_size (by repeat (first | (with_reducible first | exact HB.out | apply below_alloc | apply pw_below_drewN | apply below_drew1 | refine below_set ?_ GE106.out | refine below_set ?_ GE107.out | refine below_set ?_ GE108.out | refine below_set ?_ GE111.out) | exact HB.out))) : w.heap.size ≤ gb113))
      have GE113 := GW113
      have NB106_113 := Aside0.mk ((ne_lt hg (pk BK106) : gb106 ≠ gb113))
      have NB113_106 := Aside0.mk ((ne_gt hg (pk BK106) : gb113 ≠ gb106))
      have NB107_113 := Aside0.mk ((ne_lt hg (pk BK107) : gb107 ≠ gb113))
      have NB113_107 := Aside0.mk ((ne_gt hg (pk BK107) : gb113 ≠ gb107))
      have NB108_113 := Aside0.mk ((ne_lt hg (pk BK108) : gb108 ≠ gb113))
      have NB113_108 := Aside0.mk ((ne_gt hg (pk BK108) : gb113 ≠ gb108))
      have NB111_113 := Aside0.mk ((ne_lt hg (pk BK111) : gb111 ≠ gb113))
      have NB113_111 := Aside0.mk ((ne_gt hg (pk BK111) : gb113 ≠ gb111))
      replace BK106 := Aside0.mk (blk_below (g := gb106) (pk BK106) hb)
      replace BK107 := Aside0.mk (blk_below (g := gb107) (pk BK107) hb)
      replace BK108 := Aside0.mk (blk_below (g := gb108) (pk BK108) hb)
      replace BK111 := Aside0.mk (blk_below (g := gb111) (pk BK111) hb)
      replace HB := Aside0.mk (below_step (by repeat (first | (with_reducible first | exact HB.out | apply below_alloc | apply pw_below_drewN | apply below_drew1 | refine below_set ?_ GE106.out | refine below_set ?_ GE107.out | refine below_set ?_ GE108.out | refine below_set ?_ GE111.out) | exact HB.out)) hb)
      clear hb hbox hg
      refine hK.out _ _ ⟨bc BK111 0, bc BK111 1, bc BK106 0, bc BK106 1⟩ (fun hHeld => ?_)
      clear hK K
      refine norm_ (a' := ?_) ?_ ?_
      rotate_left
      · show Act.put _ (some 21) _ = _
        simp only [Act.put, List.setIfInBounds_toArray, List.set_cons_zero, List.set_cons_succ, i64_w, i32_w]
        rfl
      refine one_ (i := 6) (N := some 42) #[true, true, true, true, true, true, true, false, true, false] rfl rfl (one_of HT_.out (by kernel_rfl)) (by decide) (fun K hK => ?_)
      refine goes_ Try.func23 (by kernel_rfl) rfl #[.agg #[.int .i64 a0_0, .int .i64 a0_1], .int .i64 t110, .int .i64 ji12] (by rfl) rfl rfl (by (try simp only [List.map_toArray, List.map_cons, List.map_nil]); first | done | (simp only [hji12]; rfl) | rfl | (simp only [List.length_drop, List.length_take]; rfl)) ?_
      with_reducible refine (scale_State_hurried.calls a0_0 a0_1 t110 ji12 t112 _ A13.out).mono ?_
      rintro e w26 ⟨rfl, hb⟩
      refine ⟨_, rfl, ?_⟩
      replace BK106 := Aside0.mk (blk_below (g := gb106) (pk BK106) hb)
      replace BK107 := Aside0.mk (blk_below (g := gb107) (pk BK107) hb)
      replace BK108 := Aside0.mk (blk_below (g := gb108) (pk BK108) hb)
      replace BK111 := Aside0.mk (blk_below (g := gb111) (pk BK111) hb)
      replace BK113 := Aside0.mk (blk_below (g := gb113) (pk BK113) hb)
      replace HB := Aside0.mk (below_step (by repeat (first | (with_reducible first | exact HB.out | apply below_alloc | apply pw_below_drewN | apply below_drew1 | refine below_set ?_ GE106.out | refine below_set ?_ GE107.out | refine below_set ?_ GE108.out | refine below_set ?_ GE111.out | refine below_set ?_ GE113.out) | exact HB.out)) hb)
      (try clear hb)
      (try clear hb2)
      (try clear hk)
      (try clear hi)
      refine hK.out _ _ ⟨bc BK111 0, bc BK111 1, bc BK106 0, bc BK106 1⟩ (fun hHeld => ?_)
      clear hK K
      refine norm_ (a' := ?_) ?_ ?_
      rotate_left
      · show Act.put _ (some 42) _ = _
        simp only [Act.put, List.setIfInBounds_toArray, List.set_cons_zero, List.set_cons_succ, i64_w, i32_w]
        rfl
      refine pure_ (i := 7) (N := some 43) (v := ?_) (a' := ?_) #[true, true, true, true, true, true, true, true, true, false] rfl rfl (any_of HT_.out (by kernel_rfl)) (fun _ _ _ h => h) (Or.inl ⟨by rfl, ?_⟩) ?_ ?_
      rotate_left
      · intro w'
        go_simp
        with_reducible rfl
      rotate_left
      · simp only [Act.put, List.setIfInBounds_toArray, List.set_cons_zero, List.set_cons_succ, i64_w, i32_w]
        rfl
      exact norm_ (by simp only [putAll, Act.put, List.setIfInBounds_toArray, List.set_cons_zero, List.set_cons_succ]) (hCont (gb113) _ ⟨hHeld, (pk BK106), (pk BK107), (pk BK108), (pk BK111), (pk BK113), GW113.out, GE113.out, NB106_113.out, NB113_106.out, NB107_113.out, NB113_107.out, NB108_113.out, NB113_108.out, NB111_113.out, NB113_111.out, (by repeat (first | (with_reducible first | exact HB.out | apply below_alloc | apply pw_below_drewN | apply below_drew1 | refine below_set ?_ GE106.out | refine below_set ?_ GE107.out | refine below_set ?_ GE108.out | refine below_set ?_ GE111.out | refine below_set ?_ GE113.out) | exact HB.out))⟩)
  rintro gb113 w27 ⟨hS_, h0_, h1_, h2_, h3_, h4_, h5_, h6_, h7_, h8_, h9_, h10_, h11_, h12_, h13_, h14_, h15_⟩
  have BK113 := Aside0.mk h4_
  have GW113 : Aside0 (w.heap.size ≤ gb113) := ⟨h5_⟩
  have GE113 : Aside0 (w.heap.size ≤ gb113) := ⟨h6_⟩
  have NB106_113 : Aside0 (gb106 ≠ gb113) := ⟨h7_⟩
  have NB113_106 : Aside0 (gb113 ≠ gb106) := ⟨h8_⟩
  have NB107_113 : Aside0 (gb107 ≠ gb113) := ⟨h9_⟩
  have NB113_107 : Aside0 (gb113 ≠ gb107) := ⟨h10_⟩
  have NB108_113 : Aside0 (gb108 ≠ gb113) := ⟨h11_⟩
  have NB113_108 : Aside0 (gb113 ≠ gb108) := ⟨h12_⟩
  have NB111_113 : Aside0 (gb111 ≠ gb113) := ⟨h13_⟩
  have NB113_111 : Aside0 (gb113 ≠ gb111) := ⟨h14_⟩
  replace BK106 := Aside0.mk h0_
  replace BK107 := Aside0.mk h1_
  replace BK108 := Aside0.mk h2_
  replace BK111 := Aside0.mk h3_
  replace HB : Aside0 (Below w.heap.size w w27) := ⟨h15_⟩
  clear h0_ h1_ h2_ h3_ h4_ h5_ h6_ h7_ h8_ h9_ h10_ h11_ h12_ h13_ h14_ h15_
  have hHeld := hS_
  refine norm_ (a' := ?_) ?_ ?_
  rotate_left
  · simp only [putAll, Act.put, List.setIfInBounds_toArray, List.set_cons_zero, List.set_cons_succ]
    rfl
  refine one_ (i := 9) (N := none) #[true, true, true, true, true, true, true, true, true, true] rfl rfl (one_of HT_.out (by kernel_rfl)) (by decide) (fun K hK => ?_)
  have hs28 : w27.cell? ⟨gb113, 0, none⟩ = some (.int .i64 0) := bc BK113 0
  have hfs28 := blk_frozen BK113.out 0
  have hns28_0 := NB106_113.out
  have hns28_1 := NB107_113.out
  have hns28_2 := NB108_113.out
  have hns28_3 := NB111_113.out
  have hms28_0 := NB113_106.out
  have hms28_1 := NB113_107.out
  have hms28_2 := NB113_108.out
  have hms28_3 := NB113_111.out
  have hs29 : w27.cell? ⟨gb113, 1, none⟩ = some (.int .i64 0) := bc BK113 1
  have hfs29 := blk_frozen BK113.out 1
  with_reducible_and_instances refine skip_ (w1 := ?_) ?hw_ ?hN_ ?_ ?_
  (case hw_ => rfl)
  (case hN_ => rfl)
  rotate_left
  · go_simp
    rfl
  refine hK.out _ _ ⟨(cf NB111_113 ((cf NB111_113 (hHeld.1)))), (cf NB111_113 ((cf NB111_113 (hHeld.2.1)))), (cf NB106_113 ((cf NB106_113 (hHeld.2.2.1)))), (cf NB106_113 ((cf NB106_113 (hHeld.2.2.2))))⟩ (fun hHeld => ?_)
  clear hK K
  refine done_ (done_of HT_.out (by kernel_rfl)) ?_
  have hnb30 := NB113_106.out
  have hnc30 := NB106_113.out
  have hnb31 := NB113_107.out
  have hnc31 := NB107_113.out
  have hnb32 := NB113_108.out
  have hnc32 := NB108_113.out
  have hnb33 := NB113_111.out
  have hnc33 := NB111_113.out
  have hcz34_0 : w27.cell? ⟨gb113, 0, none⟩ = some (.int .i64 0) := bc BK113 0
  have hcz34_1 : w27.cell? ⟨gb113, 1, none⟩ = some (.int .i64 0) := bc BK113 1
  have hfz34_0 := blk_frozen BK113.out 0
  have hfz34_1 := blk_frozen BK113.out 1
  go_upto_if 46 with (fail)
  go_cut [] (fun wc => ∃ (kq : Nat) (x114000_13 : Int), Aside0 (scale_Decide.j0 kq a2 a3 a8 ji12 a0_0 a0_1 a1_0 a1_1 a1_2 a1_3 a1_4 a1_5 x114000_13 t112 = some (r1, r2)) ∧ Aside0 (kq ≤ k) ∧ Aside0 (wc.heap[gb106]? = some (.cells #[.int .i64 a0_0, .int .i64 a0_1] 30 (0, 0))) ∧ Aside0 (wc.heap[gb107]? = some (.cells #[.string a1_0, .int .i64 a1_1, .int .i64 a1_2, .int .i64 a1_3, .int .i64 a1_4, .int .i64 a1_5] 25 (0, 0))) ∧ Aside0 (wc.heap[gb108]? = some (.cells #[.int .i64 0, .int .i64 0] 30 (0, 0))) ∧ Aside0 (wc.heap[gb111]? = some (.cells #[.int .i64 t109, .int .i64 t110] 46 (0, 0))) ∧ Aside0 (wc.heap[gb113]? = some (.cells #[.int .i64 x114000_13, .int .i64 t112] 30 (0, 0))) ∧ Aside0 (Below w.heap.size w wc))
  case first =>
    have H := HC14.out
    clear HC14
    by_cases c35 : t112 > 0
    · rw [if_pos c35] at H
      have c35b0 : decide (0 < t112) = true := decide_eq_true c35
      clear c35
      (first | rw [c35b0] | (simp only [i64_w, i32_w]; rw [c35b0]) | skip)
      replace H := Option.bind_eq_some_iff.mp H
      obtain ⟨t114, A360, H⟩ := H
      replace H : (scale_Decide.j0 k a2 a3 a8 ji12 a0_0 a0_1 a1_0 a1_1 a1_2 a1_3 a1_4 a1_5 t114 t112) = some (r1, r2) := H
      have A36 := Aside0.mk A360
      clear A360
      have H' := Aside0.mk H
      clear H
      have hnb37 := NB106_107.out
      have hnc37 := NB107_106.out
      have hnb38 := NB106_108.out
      have hnc38 := NB108_106.out
      have hnb39 := NB106_111.out
      have hnc39 := NB111_106.out
      have hnb40 := NB106_113.out
      have hnc40 := NB113_106.out
      have hcz41_0 : w27.cell? ⟨gb106, 0, none⟩ = some (.int .i64 a0_0) := bc BK106 0
      have hcz41_1 : w27.cell? ⟨gb106, 1, none⟩ = some (.int .i64 a0_1) := bc BK106 1
      have hfz41_0 := blk_frozen BK106.out 0
      have hfz41_1 := blk_frozen BK106.out 1
      have hnb42 := NB111_107.out
      have hnc42 := NB107_111.out
      have hnb43 := NB111_108.out
      have hnc43 := NB108_111.out
      have hnb44 := NB111_113.out
      have hnc44 := NB113_111.out
      have hcz45_0 : w27.cell? ⟨gb111, 0, none⟩ = some (.int .i64 t109) := bc BK111 0
      have hcz45_1 : w27.cell? ⟨gb111, 1, none⟩ = some (.int .i64 t110) := bc BK111 1
      have hfz45_0 := blk_frozen BK111.out 0
      have hfz45_1 := blk_frozen BK111.out 1
      go_wp2_with (first | ((with_reducible refine gate_callee (f := 24) rfl ?_); refine goesL_ (some 49) rfl rfl Try.func24 (by kernel_rfl) rfl #[.agg #[.int .i64 a0_0, .int .i64 a0_1], .agg #[.int .i64 t109, .int .i64 t110]] rfl (by (try simp only [List.map_toArray, List.map_cons, List.map_nil]); first | done | rfl | (simp only [List.length_drop, List.length_take]; rfl)) ?_; (with_reducible refine (scale_State_most.calls a0_0 a0_1 t109 t110 t114 _ A36.out).mono ?_); rintro e w46 ⟨rfl, hb⟩; refine ⟨_, rfl, ?_⟩; have n0_ := Aside0.mk (blk_below (g := gb106) (o := .cells #[.int .i64 a0_0, .int .i64 a0_1] 30 (0, 0)) (by (repeat ((with_reducible repeat (first | refine blk_drewN ?_ _ | refine blk_drew ?_ | refine blk_alloc ?_ _)); refine blk_far ?_ NB106_113.out _)); (with_reducible repeat (first | refine blk_drewN ?_ _ | refine blk_drew ?_ | refine blk_alloc ?_ _)); exact BK106.out) hb); have n1_ := Aside0.mk (blk_below (g := gb107) (o := .cells #[.string a1_0, .int .i64 a1_1, .int .i64 a1_2, .int .i64 a1_3, .int .i64 a1_4, .int .i64 a1_5] 25 (0, 0)) (by (repeat ((with_reducible repeat (first | refine blk_drewN ?_ _ | refine blk_drew ?_ | refine blk_alloc ?_ _)); refine blk_far ?_ NB107_113.out _)); (with_reducible repeat (first | refine blk_drewN ?_ _ | refine blk_drew ?_ | refine blk_alloc ?_ _)); exact BK107.out) hb); have n2_ := Aside0.mk (blk_below (g := gb108) (o := .cells #[.int .i64 0, .int .i64 0] 30 (0, 0)) (by (repeat ((with_reducible repeat (first | refine blk_drewN ?_ _ | refine blk_drew ?_ | refine blk_alloc ?_ _)); refine blk_far ?_ NB108_113.out _)); (with_reducible repeat (first | refine blk_drewN ?_ _ | refine blk_drew ?_ | refine blk_alloc ?_ _)); exact BK108.out) hb); have n3_ := Aside0.mk (blk_below (g := gb111) (o := .cells #[.int .i64 t109, .int .i64 t110] 46 (0, 0)) (by (repeat ((with_reducible repeat (first | refine blk_drewN ?_ _ | refine blk_drew ?_ | refine blk_alloc ?_ _)); refine blk_far ?_ NB111_113.out _)); (with_reducible repeat (first | refine blk_drewN ?_ _ | refine blk_drew ?_ | refine blk_alloc ?_ _)); exact BK111.out) hb); have n4_ := Aside0.mk (blk_below (g := gb113) (o := .cells #[.int .i64 t109, .int .i64 t112] 30 (0, 0)) (by (with_reducible repeat (first | refine blk_drewN ?_ _ | refine blk_drew ?_ | refine blk_alloc ?_ _)); refine blk_put (cs := #[.int .i64 t109, .int .i64 0]) ?_ 1 _ rfl; refine blk_put (cs := #[.int .i64 0, .int .i64 0]) ?_ 0 _ rfl; (with_reducible repeat (first | refine blk_drewN ?_ _ | refine blk_drew ?_ | refine blk_alloc ?_ _)); exact BK113.out) hb); have n5_ := Aside0.mk (below_step (by repeat (first | (with_reducible first | exact HB.out | apply below_alloc | apply pw_below_drewN | apply below_drew1 | refine below_set ?_ GE106.out | refine below_set ?_ GE107.out | refine below_set ?_ GE108.out | refine below_set ?_ GE111.out | refine below_set ?_ GE113.out) | exact HB.out)) hb); clear BK106; clear BK107; clear BK108; clear BK111; clear BK113; clear HB; have BK106 := n0_; have BK107 := n1_; have BK108 := n2_; have BK111 := n3_; have BK113 := n4_; have HB := n5_; clear n0_ n1_ n2_ n3_ n4_ n5_; (try clear hb); (try clear hb2); (try clear hk); (try clear hi); have hnb47 := NB113_107.out; have hnc47 := NB107_113.out; have hnb48 := NB113_108.out; have hnc48 := NB108_113.out; have hcz49_0 : w46.cell? ⟨gb113, 0, none⟩ = some (.int .i64 t109) := bc BK113 0; have hcz49_1 : w46.cell? ⟨gb113, 1, none⟩ = some (.int .i64 t112) := bc BK113 1; have hfz49_0 := blk_frozen BK113.out 0; have hfz49_1 := blk_frozen BK113.out 1))
      go_meet
      case rel => exact ⟨_, (t114), H', ⟨by first | omega | exact Nat.le_refl _⟩, ⟨by (with_reducible repeat (first | refine blk_drewN ?_ _ | refine blk_drew ?_ | refine blk_alloc ?_ _)); refine blk_far ?_ NB106_113.out _; (with_reducible repeat (first | refine blk_drewN ?_ _ | refine blk_drew ?_ | refine blk_alloc ?_ _)); exact BK106.out⟩, ⟨by (with_reducible repeat (first | refine blk_drewN ?_ _ | refine blk_drew ?_ | refine blk_alloc ?_ _)); refine blk_far ?_ NB107_113.out _; (with_reducible repeat (first | refine blk_drewN ?_ _ | refine blk_drew ?_ | refine blk_alloc ?_ _)); exact BK107.out⟩, ⟨by (with_reducible repeat (first | refine blk_drewN ?_ _ | refine blk_drew ?_ | refine blk_alloc ?_ _)); refine blk_far ?_ NB108_113.out _; (with_reducible repeat (first | refine blk_drewN ?_ _ | refine blk_drew ?_ | refine blk_alloc ?_ _)); exact BK108.out⟩, ⟨by (with_reducible repeat (first | refine blk_drewN ?_ _ | refine blk_drew ?_ | refine blk_alloc ?_ _)); refine blk_far ?_ NB111_113.out _; (with_reducible repeat (first | refine blk_drewN ?_ _ | refine blk_drew ?_ | refine blk_alloc ?_ _)); exact BK111.out⟩, ⟨by (with_reducible repeat (first | refine blk_drewN ?_ _ | refine blk_drew ?_ | refine blk_alloc ?_ _)); refine blk_put (cs := #[.int .i64 t109, .int .i64 t112]) ?_ 0 _ rfl; (with_reducible repeat (first | refine blk_drewN ?_ _ | refine blk_drew ?_ | refine blk_alloc ?_ _)); exact BK113.out⟩, ⟨by repeat (first | (with_reducible first | exact HB.out | apply below_alloc | apply pw_below_drewN | apply below_drew1 | refine below_set ?_ GE106.out | refine below_set ?_ GE107.out | refine below_set ?_ GE108.out | refine below_set ?_ GE111.out | refine below_set ?_ GE113.out) | exact HB.out)⟩⟩
    · rw [if_neg c35] at H
      have c35b0 : decide (0 < t112) = false := decide_eq_false c35
      clear c35
      (first | rw [c35b0] | (simp only [i64_w, i32_w]; rw [c35b0]) | skip)
      have H' := Aside0.mk H
      clear H
      go_wp2
      go_meet
      case rel => exact ⟨_, (t109), H', ⟨by first | omega | exact Nat.le_refl _⟩, ⟨by (repeat ((with_reducible repeat (first | refine blk_drewN ?_ _ | refine blk_drew ?_ | refine blk_alloc ?_ _)); refine blk_far ?_ NB106_113.out _)); (with_reducible repeat (first | refine blk_drewN ?_ _ | refine blk_drew ?_ | refine blk_alloc ?_ _)); exact BK106.out⟩, ⟨by (repeat ((with_reducible repeat (first | refine blk_drewN ?_ _ | refine blk_drew ?_ | refine blk_alloc ?_ _)); refine blk_far ?_ NB107_113.out _)); (with_reducible repeat (first | refine blk_drewN ?_ _ | refine blk_drew ?_ | refine blk_alloc ?_ _)); exact BK107.out⟩, ⟨by (repeat ((with_reducible repeat (first | refine blk_drewN ?_ _ | refine blk_drew ?_ | refine blk_alloc ?_ _)); refine blk_far ?_ NB108_113.out _)); (with_reducible repeat (first | refine blk_drewN ?_ _ | refine blk_drew ?_ | refine blk_alloc ?_ _)); exact BK108.out⟩, ⟨by (repeat ((with_reducible repeat (first | refine blk_drewN ?_ _ | refine blk_drew ?_ | refine blk_alloc ?_ _)); refine blk_far ?_ NB111_113.out _)); (with_reducible repeat (first | refine blk_drewN ?_ _ | refine blk_drew ?_ | refine blk_alloc ?_ _)); exact BK111.out⟩, ⟨by (with_reducible repeat (first | refine blk_drewN ?_ _ | refine blk_drew ?_ | refine blk_alloc ?_ _)); refine blk_put (cs := #[.int .i64 t109, .int .i64 0]) ?_ 1 _ rfl; refine blk_put (cs := #[.int .i64 0, .int .i64 0]) ?_ 0 _ rfl; (with_reducible repeat (first | refine blk_drewN ?_ _ | refine blk_drew ?_ | refine blk_alloc ?_ _)); exact BK113.out⟩, ⟨by repeat (first | (with_reducible first | exact HB.out | apply below_alloc | apply pw_below_drewN | apply below_drew1 | refine below_set ?_ GE106.out | refine below_set ?_ GE107.out | refine below_set ?_ GE108.out | refine below_set ?_ GE111.out | refine below_set ?_ GE113.out) | exact HB.out)⟩⟩
  case rest =>
    clear HC14
    try clear c1
    try clear c2
    try clear p2
    try clear c3
    try clear c4
    try clear c19
    try clear c23
    try clear c24
    try clear c30
    try clear c31
    try clear c32
    try clear c33
    try clear c35
    try clear c35b0
    try clear c37
    try clear c38
    try clear c39
    try clear c40
    try clear c42
    try clear c43
    try clear c44
    try clear c47
    try clear c48
    try clear hcz34_0
    try clear hcz34_1
    try clear hcz41_0
    try clear hcz41_1
    try clear hcz45_0
    try clear hcz45_1
    try clear hcz49_0
    try clear hcz49_1
    try clear hfz34_0
    try clear hfz34_1
    try clear hfz41_0
    try clear hfz41_1
    try clear hfz45_0
    try clear hfz45_1
    try clear hfz49_0
    try clear hfz49_1
    obtain ⟨kq, x114000_13, HA, HJ13, BK106, BK107, BK108, BK111, BK113, HB⟩ := hcut
    cases kq with
    | zero => exact absurd HA.out (by simp [scale_Decide.j0])
    | succ kj13 =>
      have H := HA.out
      clear HA
      simp only [scale_Decide.j0] at H
      have HC50 := Aside0.mk H
      clear H
      go_upto_region 6 with (fail)
      go_cut [68] (fun v68 wc => ∃ (kq : Nat) (x68_49 : Bool), v68 = .bool x68_49 ∧ Aside0 (scale_Decide.j1 kq a2 ji12 x68_49 a1_0 a1_1 a1_2 a1_3 a1_4 a1_5 x114000_13 t112 = some (r1, r2)) ∧ Aside0 (kq ≤ kj13) ∧ Aside0 (wc.heap[gb106]? = some (.cells #[.int .i64 a0_0, .int .i64 a0_1] 30 (0, 0))) ∧ Aside0 (wc.heap[gb107]? = some (.cells #[.string a1_0, .int .i64 a1_1, .int .i64 a1_2, .int .i64 a1_3, .int .i64 a1_4, .int .i64 a1_5] 25 (0, 0))) ∧ Aside0 (wc.heap[gb108]? = some (.cells #[.int .i64 0, .int .i64 0] 30 (0, 0))) ∧ Aside0 (wc.heap[gb111]? = some (.cells #[.int .i64 t109, .int .i64 t110] 46 (0, 0))) ∧ Aside0 (wc.heap[gb113]? = some (.cells #[.int .i64 x114000_13, .int .i64 t112] 30 (0, 0))) ∧ Aside0 (Below w.heap.size w wc))
      case first =>
        have H := HC50.out
        clear HC50
        by_cases c51 : x114000_13 = 0
        · rw [if_pos c51] at H
          have c51b0 : (x114000_13 == 0) = true := beq_iff_eq.mpr c51
          have c51b1 : (x114000_13 != 0) = false := bne_eq_false_iff_eq.mpr c51
          clear c51
          (first | rw [c51b0] | (simp only [i64_w, i32_w]; rw [c51b0]) | skip)
          by_cases c52 : a3 > 0
          · rw [if_pos c52] at H
            have c52b0 : decide (0 < a3) = true := decide_eq_true c52
            clear c52
            have H' := Aside0.mk H
            clear H
            have hnb53 := NB113_106.out
            have hnc53 := NB106_113.out
            have hnb54 := NB113_107.out
            have hnc54 := NB107_113.out
            have hnb55 := NB113_108.out
            have hnc55 := NB108_113.out
            have hnb56 := NB113_111.out
            have hnc56 := NB111_113.out
            have hcz57_0 : wc.cell? ⟨gb113, 0, none⟩ = some (.int .i64 x114000_13) := bc BK113 0
            have hcz57_1 : wc.cell? ⟨gb113, 1, none⟩ = some (.int .i64 t112) := bc BK113 1
            have hfz57_0 := blk_frozen BK113.out 0
            have hfz57_1 := blk_frozen BK113.out 1
            go_wp2
            go_meet
            case rel => exact ⟨_, (true), (by first | rfl | (simp; done) | (simp [*]; done)), H', ⟨by have := HJ13.out; first | omega | exact Nat.le_refl _⟩, ⟨by (with_reducible repeat (first | refine blk_drewN ?_ _ | refine blk_drew ?_ | refine blk_alloc ?_ _)); exact BK106.out⟩, ⟨by (with_reducible repeat (first | refine blk_drewN ?_ _ | refine blk_drew ?_ | refine blk_alloc ?_ _)); exact BK107.out⟩, ⟨by (with_reducible repeat (first | refine blk_drewN ?_ _ | refine blk_drew ?_ | refine blk_alloc ?_ _)); exact BK108.out⟩, ⟨by (with_reducible repeat (first | refine blk_drewN ?_ _ | refine blk_drew ?_ | refine blk_alloc ?_ _)); exact BK111.out⟩, ⟨by (with_reducible repeat (first | refine blk_drewN ?_ _ | refine blk_drew ?_ | refine blk_alloc ?_ _)); exact BK113.out⟩, ⟨by repeat (first | (with_reducible first | exact HB.out | apply below_alloc | apply pw_below_drewN | apply below_drew1 | refine below_set ?_ GE106.out | refine below_set ?_ GE107.out | refine below_set ?_ GE108.out | refine below_set ?_ GE111.out | refine below_set ?_ GE113.out) | exact HB.out)⟩⟩
          · rw [if_neg c52] at H
            have c52b0 : decide (0 < a3) = false := decide_eq_false c52
            clear c52
            by_cases c58 : a0_0 > 0
            · rw [if_pos c58] at H
              have c58b0 : decide (0 < a0_0) = true := decide_eq_true c58
              clear c58
              have H' := Aside0.mk H
              clear H
              have hnb59 := NB113_106.out
              have hnc59 := NB106_113.out
              have hnb60 := NB113_107.out
              have hnc60 := NB107_113.out
              have hnb61 := NB113_108.out
              have hnc61 := NB108_113.out
              have hnb62 := NB113_111.out
              have hnc62 := NB111_113.out
              have hcz63_0 : wc.cell? ⟨gb113, 0, none⟩ = some (.int .i64 x114000_13) := bc BK113 0
              have hcz63_1 : wc.cell? ⟨gb113, 1, none⟩ = some (.int .i64 t112) := bc BK113 1
              have hfz63_0 := blk_frozen BK113.out 0
              have hfz63_1 := blk_frozen BK113.out 1
              have hnb64 := NB106_107.out
              have hnc64 := NB107_106.out
              have hnb65 := NB106_108.out
              have hnc65 := NB108_106.out
              have hnb66 := NB106_111.out
              have hnc66 := NB111_106.out
              have hcz67_0 : wc.cell? ⟨gb106, 0, none⟩ = some (.int .i64 a0_0) := bc BK106 0
              have hcz67_1 : wc.cell? ⟨gb106, 1, none⟩ = some (.int .i64 a0_1) := bc BK106 1
              have hfz67_0 := blk_frozen BK106.out 0
              have hfz67_1 := blk_frozen BK106.out 1
              have hnb68 := NB107_108.out
              have hnc68 := NB108_107.out
              have hnb69 := NB107_111.out
              have hnc69 := NB111_107.out
              have hcz70_0 : wc.cell? ⟨gb107, 0, none⟩ = some (.string a1_0) := bc BK107 0
              have hcz70_1 : wc.cell? ⟨gb107, 1, none⟩ = some (.int .i64 a1_1) := bc BK107 1
              have hcz70_2 : wc.cell? ⟨gb107, 2, none⟩ = some (.int .i64 a1_2) := bc BK107 2
              have hcz70_3 : wc.cell? ⟨gb107, 3, none⟩ = some (.int .i64 a1_3) := bc BK107 3
              have hcz70_4 : wc.cell? ⟨gb107, 4, none⟩ = some (.int .i64 a1_4) := bc BK107 4
              have hcz70_5 : wc.cell? ⟨gb107, 5, none⟩ = some (.int .i64 a1_5) := bc BK107 5
              have hfz70_0 := blk_frozen BK107.out 0
              have hfz70_1 := blk_frozen BK107.out 1
              have hfz70_2 := blk_frozen BK107.out 2
              have hfz70_3 := blk_frozen BK107.out 3
              have hfz70_4 := blk_frozen BK107.out 4
              have hfz70_5 := blk_frozen BK107.out 5
              go_wp2
              go_meet
              case rel => exact ⟨_, (decide (a8 < a1_5)), (by first | rfl | (simp; done) | (simp [*]; done)), H', ⟨by have := HJ13.out; first | omega | exact Nat.le_refl _⟩, ⟨by (with_reducible repeat (first | refine blk_drewN ?_ _ | refine blk_drew ?_ | refine blk_alloc ?_ _)); exact BK106.out⟩, ⟨by (with_reducible repeat (first | refine blk_drewN ?_ _ | refine blk_drew ?_ | refine blk_alloc ?_ _)); exact BK107.out⟩, ⟨by (with_reducible repeat (first | refine blk_drewN ?_ _ | refine blk_drew ?_ | refine blk_alloc ?_ _)); exact BK108.out⟩, ⟨by (with_reducible repeat (first | refine blk_drewN ?_ _ | refine blk_drew ?_ | refine blk_alloc ?_ _)); exact BK111.out⟩, ⟨by (with_reducible repeat (first | refine blk_drewN ?_ _ | refine blk_drew ?_ | refine blk_alloc ?_ _)); exact BK113.out⟩, ⟨by repeat (first | (with_reducible first | exact HB.out | apply below_alloc | apply pw_below_drewN | apply below_drew1 | refine below_set ?_ GE106.out | refine below_set ?_ GE107.out | refine below_set ?_ GE108.out | refine below_set ?_ GE111.out | refine below_set ?_ GE113.out) | exact HB.out)⟩⟩
            · rw [if_neg c58] at H
              have c58b0 : decide (0 < a0_0) = false := decide_eq_false c58
              clear c58
              have H' := Aside0.mk H
              clear H
              have hnb71 := NB113_106.out
              have hnc71 := NB106_113.out
              have hnb72 := NB113_107.out
              have hnc72 := NB107_113.out
              have hnb73 := NB113_108.out
              have hnc73 := NB108_113.out
              have hnb74 := NB113_111.out
              have hnc74 := NB111_113.out
              have hcz75_0 : wc.cell? ⟨gb113, 0, none⟩ = some (.int .i64 x114000_13) := bc BK113 0
              have hcz75_1 : wc.cell? ⟨gb113, 1, none⟩ = some (.int .i64 t112) := bc BK113 1
              have hfz75_0 := blk_frozen BK113.out 0
              have hfz75_1 := blk_frozen BK113.out 1
              have hnb76 := NB106_107.out
              have hnc76 := NB107_106.out
              have hnb77 := NB106_108.out
              have hnc77 := NB108_106.out
              have hnb78 := NB106_111.out
              have hnc78 := NB111_106.out
              have hcz79_0 : wc.cell? ⟨gb106, 0, none⟩ = some (.int .i64 a0_0) := bc BK106 0
              have hcz79_1 : wc.cell? ⟨gb106, 1, none⟩ = some (.int .i64 a0_1) := bc BK106 1
              have hfz79_0 := blk_frozen BK106.out 0
              have hfz79_1 := blk_frozen BK106.out 1
              go_wp2
              go_meet
              case rel => exact ⟨_, (false), (by first | rfl | (simp; done) | (simp [*]; done)), H', ⟨by have := HJ13.out; first | omega | exact Nat.le_refl _⟩, ⟨by (with_reducible repeat (first | refine blk_drewN ?_ _ | refine blk_drew ?_ | refine blk_alloc ?_ _)); exact BK106.out⟩, ⟨by (with_reducible repeat (first | refine blk_drewN ?_ _ | refine blk_drew ?_ | refine blk_alloc ?_ _)); exact BK107.out⟩, ⟨by (with_reducible repeat (first | refine blk_drewN ?_ _ | refine blk_drew ?_ | refine blk_alloc ?_ _)); exact BK108.out⟩, ⟨by (with_reducible repeat (first | refine blk_drewN ?_ _ | refine blk_drew ?_ | refine blk_alloc ?_ _)); exact BK111.out⟩, ⟨by (with_reducible repeat (first | refine blk_drewN ?_ _ | refine blk_drew ?_ | refine blk_alloc ?_ _)); exact BK113.out⟩, ⟨by repeat (first | (with_reducible first | exact HB.out | apply below_alloc | apply pw_below_drewN | apply below_drew1 | refine below_set ?_ GE106.out | refine below_set ?_ GE107.out | refine below_set ?_ GE108.out | refine below_set ?_ GE111.out | refine below_set ?_ GE113.out) | exact HB.out)⟩⟩
        · rw [if_neg c51] at H
          have c51b0 : (x114000_13 == 0) = false := beq_eq_false_iff_ne.mpr c51
          have c51b1 : (x114000_13 != 0) = true := bne_iff_ne.mpr c51
          (first | rw [c51b0] | (simp only [i64_w, i32_w]; rw [c51b0]) | skip)
          have H' := Aside0.mk H
          clear H
          have hnb80 := NB113_106.out
          have hnc80 := NB106_113.out
          have hnb81 := NB113_107.out
          have hnc81 := NB107_113.out
          have hnb82 := NB113_108.out
          have hnc82 := NB108_113.out
          have hnb83 := NB113_111.out
          have hnc83 := NB111_113.out
          have hcz84_0 : wc.cell? ⟨gb113, 0, none⟩ = some (.int .i64 x114000_13) := bc BK113 0
          have hcz84_1 : wc.cell? ⟨gb113, 1, none⟩ = some (.int .i64 t112) := bc BK113 1
          have hfz84_0 := blk_frozen BK113.out 0
          have hfz84_1 := blk_frozen BK113.out 1
          go_wp2
          go_meet
          case rel => exact ⟨_, (false), (by first | rfl | (simp; done) | (simp [*]; done)), H', ⟨by have := HJ13.out; first | omega | exact Nat.le_refl _⟩, ⟨by (with_reducible repeat (first | refine blk_drewN ?_ _ | refine blk_drew ?_ | refine blk_alloc ?_ _)); exact BK106.out⟩, ⟨by (with_reducible repeat (first | refine blk_drewN ?_ _ | refine blk_drew ?_ | refine blk_alloc ?_ _)); exact BK107.out⟩, ⟨by (with_reducible repeat (first | refine blk_drewN ?_ _ | refine blk_drew ?_ | refine blk_alloc ?_ _)); exact BK108.out⟩, ⟨by (with_reducible repeat (first | refine blk_drewN ?_ _ | refine blk_drew ?_ | refine blk_alloc ?_ _)); exact BK111.out⟩, ⟨by (with_reducible repeat (first | refine blk_drewN ?_ _ | refine blk_drew ?_ | refine blk_alloc ?_ _)); exact BK113.out⟩, ⟨by repeat (first | (with_reducible first | exact HB.out | apply below_alloc | apply pw_below_drewN | apply below_drew1 | refine below_set ?_ GE106.out | refine below_set ?_ GE107.out | refine below_set ?_ GE108.out | refine below_set ?_ GE111.out | refine below_set ?_ GE113.out) | exact HB.out)⟩⟩
      case rest =>
        clear HC50
        try clear c1
        try clear c2
        try clear p2
        try clear c3
        try clear c4
        try clear c5
        try clear c6
        try clear c7
        try clear c8
        try clear c19
        try clear c23
        try clear c24
        try clear c30
        try clear c31
        try clear c32
        try clear c33
        try clear c35
        try clear c35b0
        try clear c37
        try clear c38
        try clear c39
        try clear c40
        try clear c42
        try clear c43
        try clear c44
        try clear c47
        try clear c48
        try clear c51
        try clear c51b0
        try clear c51b1
        try clear c52
        try clear c52b0
        try clear c53
        try clear c54
        try clear c55
        try clear c56
        try clear c58
        try clear c58b0
        try clear c59
        try clear c60
        try clear c61
        try clear c62
        try clear c64
        try clear c65
        try clear c66
        try clear c68
        try clear c69
        try clear c71
        try clear c72
        try clear c73
        try clear c74
        try clear c76
        try clear c77
        try clear c78
        try clear c80
        try clear c81
        try clear c82
        try clear c83
        try clear hcz34_0
        try clear hcz34_1
        try clear hcz41_0
        try clear hcz41_1
        try clear hcz45_0
        try clear hcz45_1
        try clear hcz49_0
        try clear hcz49_1
        try clear hcz57_0
        try clear hcz57_1
        try clear hcz63_0
        try clear hcz63_1
        try clear hcz67_0
        try clear hcz67_1
        try clear hcz70_0
        try clear hcz70_1
        try clear hcz70_2
        try clear hcz70_3
        try clear hcz70_4
        try clear hcz70_5
        try clear hcz75_0
        try clear hcz75_1
        try clear hcz79_0
        try clear hcz79_1
        try clear hcz84_0
        try clear hcz84_1
        try clear hfz34_0
        try clear hfz34_1
        try clear hfz41_0
        try clear hfz41_1
        try clear hfz45_0
        try clear hfz45_1
        try clear hfz49_0
        try clear hfz49_1
        try clear hfz57_0
        try clear hfz57_1
        try clear hfz63_0
        try clear hfz63_1
        try clear hfz67_0
        try clear hfz67_1
        try clear hfz70_0
        try clear hfz70_1
        try clear hfz70_2
        try clear hfz70_3
        try clear hfz70_4
        try clear hfz70_5
        try clear hfz75_0
        try clear hfz75_1
        try clear hfz79_0
        try clear hfz79_1
        try clear hfz84_0
        try clear hfz84_1
        try clear p2
        obtain ⟨kq, x68_49, rfl, HA, HJ49, BK106, BK107, BK108, BK111, BK113, HB⟩ := hcut
        cases kq with
        | zero => exact absurd HA.out (by simp [scale_Decide.j1])
        | succ kj49 =>
          have H := HA.out
          clear HA
          simp only [scale_Decide.j1] at H
          have HC85 := Aside0.mk H
          clear H
          go_upto_if 68 with (fail)
          go_cut [] (fun wc => ∃ (kq : Nat) (x114000_84 : Int), Aside0 (scale_Decide.j2 kq a2 ji12 a1_0 a1_1 a1_2 a1_3 a1_4 a1_5 x114000_84 t112 = some (r1, r2)) ∧ Aside0 (kq ≤ kj49) ∧ Aside0 (wc.heap[gb106]? = some (.cells #[.int .i64 a0_0, .int .i64 a0_1] 30 (0, 0))) ∧ Aside0 (wc.heap[gb107]? = some (.cells #[.string a1_0, .int .i64 a1_1, .int .i64 a1_2, .int .i64 a1_3, .int .i64 a1_4, .int .i64 a1_5] 25 (0, 0))) ∧ Aside0 (wc.heap[gb108]? = some (.cells #[.int .i64 0, .int .i64 0] 30 (0, 0))) ∧ Aside0 (wc.heap[gb111]? = some (.cells #[.int .i64 t109, .int .i64 t110] 46 (0, 0))) ∧ Aside0 (wc.heap[gb113]? = some (.cells #[.int .i64 x114000_84, .int .i64 t112] 30 (0, 0))) ∧ Aside0 (Below w.heap.size w wc))
          case first =>
            have H := HC85.out
            clear HC85
            by_cases c86 : x68_49 = true
            · subst c86
              have H1 : (scale_Decide.j2 kj49 a2 ji12 a1_0 a1_1 a1_2 a1_3 a1_4 a1_5 1 t112) = some (r1, r2) := by rw [if_pos rfl] at H; exact H
              clear H
              have H := H1
              clear H1
              have H' := Aside0.mk H
              clear H
              have hnb87 := NB113_106.out
              have hnc87 := NB106_113.out
              have hnb88 := NB113_107.out
              have hnc88 := NB107_113.out
              have hnb89 := NB113_108.out
              have hnc89 := NB108_113.out
              have hnb90 := NB113_111.out
              have hnc90 := NB111_113.out
              have hcz91_0 : wc.cell? ⟨gb113, 0, none⟩ = some (.int .i64 x114000_13) := bc BK113 0
              have hcz91_1 : wc.cell? ⟨gb113, 1, none⟩ = some (.int .i64 t112) := bc BK113 1
              have hfz91_0 := blk_frozen BK113.out 0
              have hfz91_1 := blk_frozen BK113.out 1
              go_wp2
              go_meet
              case rel => exact ⟨_, (1), H', ⟨by have := HJ13.out; have := HJ49.out; first | omega | exact Nat.le_refl _⟩, ⟨by (with_reducible repeat (first | refine blk_drewN ?_ _ | refine blk_drew ?_ | refine blk_alloc ?_ _)); refine blk_far ?_ NB106_113.out _; (with_reducible repeat (first | refine blk_drewN ?_ _ | refine blk_drew ?_ | refine blk_alloc ?_ _)); exact BK106.out⟩, ⟨by (with_reducible repeat (first | refine blk_drewN ?_ _ | refine blk_drew ?_ | refine blk_alloc ?_ _)); refine blk_far ?_ NB107_113.out _; (with_reducible repeat (first | refine blk_drewN ?_ _ | refine blk_drew ?_ | refine blk_alloc ?_ _)); exact BK107.out⟩, ⟨by (with_reducible repeat (first | refine blk_drewN ?_ _ | refine blk_drew ?_ | refine blk_alloc ?_ _)); refine blk_far ?_ NB108_113.out _; (with_reducible repeat (first | refine blk_drewN ?_ _ | refine blk_drew ?_ | refine blk_alloc ?_ _)); exact BK108.out⟩, ⟨by (with_reducible repeat (first | refine blk_drewN ?_ _ | refine blk_drew ?_ | refine blk_alloc ?_ _)); refine blk_far ?_ NB111_113.out _; (with_reducible repeat (first | refine blk_drewN ?_ _ | refine blk_drew ?_ | refine blk_alloc ?_ _)); exact BK111.out⟩, ⟨by (with_reducible repeat (first | refine blk_drewN ?_ _ | refine blk_drew ?_ | refine blk_alloc ?_ _)); refine blk_put (cs := #[.int .i64 x114000_13, .int .i64 t112]) ?_ 0 _ rfl; (with_reducible repeat (first | refine blk_drewN ?_ _ | refine blk_drew ?_ | refine blk_alloc ?_ _)); exact BK113.out⟩, ⟨by repeat (first | (with_reducible first | exact HB.out | apply below_alloc | apply pw_below_drewN | apply below_drew1 | refine below_set ?_ GE106.out | refine below_set ?_ GE107.out | refine below_set ?_ GE108.out | refine below_set ?_ GE111.out | refine below_set ?_ GE113.out) | exact HB.out)⟩⟩
            · replace c86 := Bool.eq_false_iff.mpr c86
              subst c86
              have H1 : (scale_Decide.j2 kj49 a2 ji12 a1_0 a1_1 a1_2 a1_3 a1_4 a1_5 x114000_13 t112) = some (r1, r2) := by rw [if_neg (show ¬ (false = true) by decide)] at H; exact H
              clear H
              have H := H1
              clear H1
              have H' := Aside0.mk H
              clear H
              go_wp2
              go_meet
              case rel => exact ⟨_, (x114000_13), H', ⟨by have := HJ13.out; have := HJ49.out; first | omega | exact Nat.le_refl _⟩, ⟨by (with_reducible repeat (first | refine blk_drewN ?_ _ | refine blk_drew ?_ | refine blk_alloc ?_ _)); exact BK106.out⟩, ⟨by (with_reducible repeat (first | refine blk_drewN ?_ _ | refine blk_drew ?_ | refine blk_alloc ?_ _)); exact BK107.out⟩, ⟨by (with_reducible repeat (first | refine blk_drewN ?_ _ | refine blk_drew ?_ | refine blk_alloc ?_ _)); exact BK108.out⟩, ⟨by (with_reducible repeat (first | refine blk_drewN ?_ _ | refine blk_drew ?_ | refine blk_alloc ?_ _)); exact BK111.out⟩, ⟨by (with_reducible repeat (first | refine blk_drewN ?_ _ | refine blk_drew ?_ | refine blk_alloc ?_ _)); exact BK113.out⟩, ⟨by repeat (first | (with_reducible first | exact HB.out | apply below_alloc | apply pw_below_drewN | apply below_drew1 | refine below_set ?_ GE106.out | refine below_set ?_ GE107.out | refine below_set ?_ GE108.out | refine below_set ?_ GE111.out | refine below_set ?_ GE113.out) | exact HB.out)⟩⟩
          case rest =>
            clear HC85
            try clear c1
            try clear c2
            try clear p2
            try clear c3
            try clear c4
            try clear c5
            try clear c6
            try clear c7
            try clear c8
            try clear c9
            try clear c19
            try clear c23
            try clear c24
            try clear c30
            try clear c31
            try clear c32
            try clear c33
            try clear c35
            try clear c35b0
            try clear c37
            try clear c38
            try clear c39
            try clear c40
            try clear c42
            try clear c43
            try clear c44
            try clear c47
            try clear c48
            try clear c51
            try clear c51b0
            try clear c51b1
            try clear c52
            try clear c52b0
            try clear c53
            try clear c54
            try clear c55
            try clear c56
            try clear c58
            try clear c58b0
            try clear c59
            try clear c60
            try clear c61
            try clear c62
            try clear c64
            try clear c65
            try clear c66
            try clear c68
            try clear c69
            try clear c71
            try clear c72
            try clear c73
            try clear c74
            try clear c76
            try clear c77
            try clear c78
            try clear c80
            try clear c81
            try clear c82
            try clear c83
            try clear c86
            try clear c87
            try clear c88
            try clear c89
            try clear c90
            try clear hcz34_0
            try clear hcz34_1
            try clear hcz41_0
            try clear hcz41_1
            try clear hcz45_0
            try clear hcz45_1
            try clear hcz49_0
            try clear hcz49_1
            try clear hcz57_0
            try clear hcz57_1
            try clear hcz63_0
            try clear hcz63_1
            try clear hcz67_0
            try clear hcz67_1
            try clear hcz70_0
            try clear hcz70_1
            try clear hcz70_2
            try clear hcz70_3
            try clear hcz70_4
            try clear hcz70_5
            try clear hcz75_0
            try clear hcz75_1
            try clear hcz79_0
            try clear hcz79_1
            try clear hcz84_0
            try clear hcz84_1
            try clear hcz91_0
            try clear hcz91_1
            try clear hfz34_0
            try clear hfz34_1
            try clear hfz41_0
            try clear hfz41_1
            try clear hfz45_0
            try clear hfz45_1
            try clear hfz49_0
            try clear hfz49_1
            try clear hfz57_0
            try clear hfz57_1
            try clear hfz63_0
            try clear hfz63_1
            try clear hfz67_0
            try clear hfz67_1
            try clear hfz70_0
            try clear hfz70_1
            try clear hfz70_2
            try clear hfz70_3
            try clear hfz70_4
            try clear hfz70_5
            try clear hfz75_0
            try clear hfz75_1
            try clear hfz79_0
            try clear hfz79_1
            try clear hfz84_0
            try clear hfz84_1
            try clear hfz91_0
            try clear hfz91_1
            try clear p2
            obtain ⟨kq, x114000_84, HA, HJ84, BK106, BK107, BK108, BK111, BK113, HB⟩ := hcut
            cases kq with
            | zero => exact absurd HA.out (by simp [scale_Decide.j2])
            | succ kj84 =>
              have H := HA.out
              clear HA
              simp only [scale_Decide.j2] at H
              replace H := Option.bind_eq_some_iff.mp H
              obtain ⟨⟨t115, t116, t117, t118⟩, A920, H⟩ := H
              replace H : (some (mn (mx (mx (mn x114000_84 t115) t116) t117) t118, t112)) = some (r1, r2) := H
              have A92 := Aside0.mk A920
              clear A920
              obtain ⟨ji93, hji93⟩ : ∃ j_ : Int, (mn x114000_84 t115) = j_ := ⟨_, rfl⟩
              replace H : (some (mn (mx (mx (ji93) t116) t117) t118, t112)) = some (r1, r2) := by first | (rw [hji93] at H; exact H) | (simp only [hji93] at H ⊢; exact H)
              (try rw [hji93] at A92)
              have hji93_ : (if t115 < x114000_84 then t115 else x114000_84) = ji93 := hji93
              obtain ⟨ji94, hji94⟩ : ∃ j_ : Int, (mx (ji93) t116) = j_ := ⟨_, rfl⟩
              replace H : (some (mn (mx (ji94) t117) t118, t112)) = some (r1, r2) := by first | (rw [hji94] at H; exact H) | (simp only [hji94] at H ⊢; exact H)
              (try rw [hji94] at A92)
              have hji94_ : (if (ji93) < t116 then t116 else (ji93)) = ji94 := hji94
              obtain ⟨ji95, hji95⟩ : ∃ j_ : Int, (mx (ji94) t117) = j_ := ⟨_, rfl⟩
              replace H : (some (mn (ji95) t118, t112)) = some (r1, r2) := by first | (rw [hji95] at H; exact H) | (simp only [hji95] at H ⊢; exact H)
              (try rw [hji95] at A92)
              have hji95_ : (if (ji94) < t117 then t117 else (ji94)) = ji95 := hji95
              obtain ⟨ji96, hji96⟩ : ∃ j_ : Int, (mn (ji95) t118) = j_ := ⟨_, rfl⟩
              replace H : (some (ji96, t112)) = some (r1, r2) := by first | (rw [hji96] at H; exact H) | (simp only [hji96] at H ⊢; exact H)
              (try rw [hji96] at A92)
              have hji96_ : (if t118 < (ji95) then t118 else (ji95)) = ji96 := hji96
              simp only [Option.some.injEq, Prod.mk.injEq] at H
              obtain ⟨rfl, rfl⟩ := H
              have hnb97 := NB107_106.out
              have hnc97 := NB106_107.out
              have hnb98 := NB107_108.out
              have hnc98 := NB108_107.out
              have hnb99 := NB107_111.out
              have hnc99 := NB111_107.out
              have hnb100 := NB107_113.out
              have hnc100 := NB113_107.out
              have hcz101_0 : wc.cell? ⟨gb107, 0, none⟩ = some (.string a1_0) := bc BK107 0
              have hcz101_1 : wc.cell? ⟨gb107, 1, none⟩ = some (.int .i64 a1_1) := bc BK107 1
              have hcz101_2 : wc.cell? ⟨gb107, 2, none⟩ = some (.int .i64 a1_2) := bc BK107 2
              have hcz101_3 : wc.cell? ⟨gb107, 3, none⟩ = some (.int .i64 a1_3) := bc BK107 3
              have hcz101_4 : wc.cell? ⟨gb107, 4, none⟩ = some (.int .i64 a1_4) := bc BK107 4
              have hcz101_5 : wc.cell? ⟨gb107, 5, none⟩ = some (.int .i64 a1_5) := bc BK107 5
              have hfz101_0 := blk_frozen BK107.out 0
              have hfz101_1 := blk_frozen BK107.out 1
              have hfz101_2 := blk_frozen BK107.out 2
              have hfz101_3 := blk_frozen BK107.out 3
              have hfz101_4 := blk_frozen BK107.out 4
              have hfz101_5 := blk_frozen BK107.out 5
              go_wp2_with (first | ((with_reducible refine gate_callee (f := 25) rfl ?_); refine goesL_ (some 73) rfl rfl Try.func25 (by kernel_rfl) rfl #[.agg #[.string a1_0, .int .i64 a1_1, .int .i64 a1_2, .int .i64 a1_3, .int .i64 a1_4, .int .i64 a1_5], .int .i64 a2, .int .i64 ji12] rfl (by (try simp only [List.map_toArray, List.map_cons, List.map_nil]); first | done | (simp only [hji12]; rfl) | rfl | (simp only [List.length_drop, List.length_take]; rfl)) ?_; (with_reducible refine (scale_bounds.calls a1_0 a1_1 a1_2 a1_3 a1_4 a1_5 a2 ji12 t115 t116 t117 t118 _ A92.out).mono ?_); rintro e w102 ⟨rfl, hb⟩; refine ⟨_, rfl, ?_⟩; have n0_ := Aside0.mk (blk_below (g := gb106) (pk BK106) hb); have n1_ := Aside0.mk (blk_below (g := gb107) (pk BK107) hb); have n2_ := Aside0.mk (blk_below (g := gb108) (pk BK108) hb); have n3_ := Aside0.mk (blk_below (g := gb111) (pk BK111) hb); have n4_ := Aside0.mk (blk_below (g := gb113) (pk BK113) hb); have n5_ := Aside0.mk (below_step (by repeat (first | (with_reducible first | exact HB.out | apply below_alloc | apply pw_below_drewN | apply below_drew1 | refine below_set ?_ GE106.out | refine below_set ?_ GE107.out | refine below_set ?_ GE108.out | refine below_set ?_ GE111.out | refine below_set ?_ GE113.out) | exact HB.out)) hb); clear BK106; clear BK107; clear BK108; clear BK111; clear BK113; clear HB; have BK106 := n0_; have BK107 := n1_; have BK108 := n2_; have BK111 := n3_; have BK113 := n4_; have HB := n5_; clear n0_ n1_ n2_ n3_ n4_ n5_; (try clear hb); (try clear hb2); (try clear hk); (try clear hi)) | ((with_reducible refine gate_dst (N := 22) rfl ?_); refine box_event ?hg (N := 22) ?hd (cs := #[.int .i64 0, .int .i64 0, .int .i64 0, .int .i64 0]) (t := 50) ?hr ?_; (case hd => rfl); (case hg => rfl); (case hr => first | (go_simp; done) | (go_simp; rfl)); intro gb119 hg w103 hbox hb; have n0_ := Aside0.mk (blk_below (g := gb106) (pk BK106) hb); have n1_ := Aside0.mk (blk_below (g := gb107) (pk BK107) hb); have n2_ := Aside0.mk (blk_below (g := gb108) (pk BK108) hb); have n3_ := Aside0.mk (blk_below (g := gb111) (pk BK111) hb); have n4_ := Aside0.mk (blk_below (g := gb113) (pk BK113) hb); have n5_ := Aside0.mk (below_step (by repeat (first | (with_reducible first | exact HB.out | apply below_alloc | apply pw_below_drewN | apply below_drew1 | refine below_set ?_ GE106.out | refine below_set ?_ GE107.out | refine below_set ?_ GE108.out | refine below_set ?_ GE111.out | refine below_set ?_ GE113.out) | exact HB.out)) hb); have n6_ := Aside0.mk (hbox); have n7_ := Aside0.mk ((by rw [hg]; exact (below_size (by repeat (first | (with_reducible first | exact HB.out | apply below_alloc | apply pw_below_drewN | apply below_drew1 | refine below_set ?_ GE106.out | refine below_set ?_ GE107.out | refine below_set ?_ GE108.out | refine below_set ?_ GE111.out | refine below_set ?_ GE113.out) | exact HB.out))) : w.heap.size ≤ gb119)); have n8_ := Aside0.mk ((by rw [hg]; exact (below_size (by repeat (first | (with_reducible first | exact HB.out | apply below_alloc | apply pw_below_drewN | apply below_drew1 | refine below_set ?_ GE106.out | refine below_set ?_ GE107.out | refine below_set ?_ GE108.out | refine below_set ?_ GE111.out | refine below_set ?_ GE113.out) | exact HB.out))) : w.heap.size ≤ gb119)); have n9_ := Aside0.mk ((ne_lt hg (pk BK106) : gb106 ≠ gb119)); have n10_ := Aside0.mk ((ne_gt hg (pk BK106) : gb119 ≠ gb106)); have n11_ := Aside0.mk ((ne_lt hg (pk BK107) : gb107 ≠ gb119)); have n12_ := Aside0.mk ((ne_gt hg (pk BK107) : gb119 ≠ gb107)); have n13_ := Aside0.mk ((ne_lt hg (pk BK108) : gb108 ≠ gb119)); have n14_ := Aside0.mk ((ne_gt hg (pk BK108) : gb119 ≠ gb108)); have n15_ := Aside0.mk ((ne_lt hg (pk BK111) : gb111 ≠ gb119)); have n16_ := Aside0.mk ((ne_gt hg (pk BK111) : gb119 ≠ gb111)); have n17_ := Aside0.mk ((ne_lt hg (pk BK113) : gb113 ≠ gb119)); have n18_ := Aside0.mk ((ne_gt hg (pk BK113) : gb119 ≠ gb113)); clear BK106; clear BK107; clear BK108; clear BK111; clear BK113; clear HB; have BK106 := n0_; have BK107 := n1_; have BK108 := n2_; have BK111 := n3_; have BK113 := n4_; have HB := n5_; have BK119 := n6_; have GW119 := n7_; have GE119 := n8_; have NB106_119 := n9_; have NB119_106 := n10_; have NB107_119 := n11_; have NB119_107 := n12_; have NB108_119 := n13_; have NB119_108 := n14_; have NB111_119 := n15_; have NB119_111 := n16_; have NB113_119 := n17_; have NB119_113 := n18_; clear n0_ n1_ n2_ n3_ n4_ n5_ n6_ n7_ n8_ n9_ n10_ n11_ n12_ n13_ n14_ n15_ n16_ n17_ n18_; clear hb hbox hg; have hnb104 := NB119_106.out; have hnc104 := NB106_119.out; have hnb105 := NB119_107.out; have hnc105 := NB107_119.out; have hnb106 := NB119_108.out; have hnc106 := NB108_119.out; have hnb107 := NB119_111.out; have hnc107 := NB111_119.out; have hnb108 := NB119_113.out; have hnc108 := NB113_119.out; have hcz109_0 : w103.cell? ⟨gb119, 0, none⟩ = some (.int .i64 0) := bc BK119 0; have hcz109_1 : w103.cell? ⟨gb119, 1, none⟩ = some (.int .i64 0) := bc BK119 1; have hcz109_2 : w103.cell? ⟨gb119, 2, none⟩ = some (.int .i64 0) := bc BK119 2; have hcz109_3 : w103.cell? ⟨gb119, 3, none⟩ = some (.int .i64 0) := bc BK119 3; have hfz109_0 := blk_frozen BK119.out 0; have hfz109_1 := blk_frozen BK119.out 1; have hfz109_2 := blk_frozen BK119.out 2; have hfz109_3 := blk_frozen BK119.out 3; have hnb110 := NB113_106.out; have hnc110 := NB106_113.out; have hnb111 := NB113_108.out; have hnc111 := NB108_113.out; have hnb112 := NB113_111.out; have hnc112 := NB111_113.out; have hcz113_0 : w103.cell? ⟨gb113, 0, none⟩ = some (.int .i64 x114000_84) := bc BK113 0; have hcz113_1 : w103.cell? ⟨gb113, 1, none⟩ = some (.int .i64 t112) := bc BK113 1; have hfz113_0 := blk_frozen BK113.out 0; have hfz113_1 := blk_frozen BK113.out 1; have hnb114 := NB108_106.out; have hnc114 := NB106_108.out; have hnb115 := NB108_111.out; have hnc115 := NB111_108.out; have hcz116_0 : w103.cell? ⟨gb108, 0, none⟩ = some (.int .i64 0) := bc BK108 0; have hcz116_1 : w103.cell? ⟨gb108, 1, none⟩ = some (.int .i64 0) := bc BK108 1; have hfz116_0 := blk_frozen BK108.out 0; have hfz116_1 := blk_frozen BK108.out 1))
              refine bodyPost_ret (results_cell_row rfl _ _ gb108 30 #[.int .i64 ji96, .int .i64 t112] (0, 0) _ rfl (by (with_reducible repeat (first | refine blk_drewN ?_ _ | refine blk_drew ?_ | refine blk_alloc ?_ _)); refine blk_put (cs := #[.int .i64 ji96, .int .i64 0]) ?_ 1 _ rfl; refine blk_put (cs := #[.int .i64 0, .int .i64 0]) ?_ 0 _ rfl; (with_reducible repeat (first | refine blk_drewN ?_ _ | refine blk_drew ?_ | refine blk_alloc ?_ _)); refine blk_far ?_ NB108_113.out _; (repeat ((with_reducible repeat (first | refine blk_drewN ?_ _ | refine blk_drew ?_ | refine blk_alloc ?_ _)); refine blk_far ?_ NB108_119.out _)); (with_reducible repeat (first | refine blk_drewN ?_ _ | refine blk_drew ?_ | refine blk_alloc ?_ _)); exact BK108.out) Try.underlying30 rfl (by kernel_rfl)) rfl ?_
              exact ⟨by first | rfl | (simp [errW_none, errW_some] <;> rfl) | (simp only [← hji12, ← hji93, ← hji94, ← hji95, ← hji96]; first | rfl | (simp [errW_none, errW_some] <;> rfl)) | (simp [*, errW_none, errW_some] <;> rfl), by repeat (first | (with_reducible first | exact HB.out | apply below_alloc | apply pw_below_drewN | apply below_drew1 | refine below_set ?_ GE106.out | refine below_set ?_ GE107.out | refine below_set ?_ GE108.out | refine below_set ?_ GE111.out | refine below_set ?_ GE113.out | refine below_set ?_ GE119.out) | exact HB.out)⟩

end Go.Proofs.Ytlikdmeickbigaa.Ma
