-- Written by a program of this session (wip/tools/myprint.py), in the form of the kit's print. Not trusted: Lean checks it.
import Derived.Test.YtlikdmeickbigaaMax0
import Derived.Test.YtlikdmeickbigaaMax7
import Derived.Test.YtlikdmeickbigaaMax9
import Derived.Test.YtlikdmeickbigaaMax11
import Derived.Test.YtlikdmeickbigaaMax12
namespace Go.Proofs.Ytlikdmeickbigaa.Ma
open Go.RowKit Go.Proofs.YtlikdmeickbigaaW.PrintWords Go.Proofs.YtlikdmeickbigaaW.PrintLast Go.Proofs.YtlikdmeickbigaaW.PrintMore
attribute [local go_sem] max2_int min2_int max_two min_two max_three min_three max_four min_four   -- for this text's walks alone
set_option linter.unusedVariables false
set_option linter.unusedSimpArgs false

/-! ### damperlaw10_ScaleBounds: function 4 -/
def damperlaw10_ScaleBounds.j0 : Nat → Int → Int → Int → Int → Int → Int → Int → Int → Int → Int → ByteArray → Int → Int → Int → Int → Int → Int → Int → Option (Bool)
  | 0, _, _, _, _, _, _, _, _, _, _, _, _, _, _, _, _, _, _ => none
  | k + 1, x8, x213000, x213001, x213002, x213003, x213004, x213005, x213006, x213007, x213008, x214000, x214001, x214002, x214003, x214004, x214005, x217000, x217001 => if x217000 ≥ x214003 then (if x217000 ≤ x214004 then (if x217000 ≤ (wrap64 (4 * x8)) then (if x217000 ≥ (wrap64 (Int.tdiv x213002 2)) then (if x217001 ≥ 0 then (some (decide (x217001 ≤ 6))) else (some false)) else (if x217000 = x214004 then (if x217001 ≥ 0 then (some (decide (x217001 ≤ 6))) else (some false)) else (some false))) else (if x217000 = x214003 then (if x217000 ≥ (wrap64 (Int.tdiv x213002 2)) then (if x217001 ≥ 0 then (some (decide (x217001 ≤ 6))) else (some false)) else (if x217000 = x214004 then (if x217001 ≥ 0 then (some (decide (x217001 ≤ 6))) else (some false)) else (some false))) else (some false))) else (some false)) else (some false)
def damperlaw10_ScaleBounds.f (k : Nat) (a0_0 : Int) (a0_1 : Int) (a0_2 : Int) (a0_3 : Int) (a0_4 : Int) (a0_5 : Int) (a0_6 : Int) (a0_7 : Int) (a0_8 : Int) (a1_0 : ByteArray) (a1_1 : Int) (a1_2 : Int) (a1_3 : Int) (a1_4 : Int) (a1_5 : Int) : Option (Bool) := (damperlaw10_known.f k).bind fun t196 => (if t196 = true then ((damperlaw10_Given_Make.f a0_0 a0_1 a0_2 a0_3 a0_4 a0_5 a0_6 a0_7 a0_8).bind fun bt197 => ((damperlaw2_Config.f a1_0 a1_1 a1_2 a1_3 a1_4 a1_5 0).bind fun bt206 => ((damperlaw10_decide.f k bt197.1 bt197.2.1 bt197.2.2.1 bt197.2.2.2.1 bt197.2.2.2.2.1 bt197.2.2.2.2.2.1 bt197.2.2.2.2.2.2.1 bt197.2.2.2.2.2.2.2.1 bt197.2.2.2.2.2.2.2.2 bt206.1 bt206.2.1 bt206.2.2.1 bt206.2.2.2.1 bt206.2.2.2.2.1 bt206.2.2.2.2.2).bind fun bt214 => (damperlaw10_ScaleBounds.j0 k (mx 1 bt197.2.2.1) bt197.1 bt197.2.1 bt197.2.2.1 bt197.2.2.2.1 bt197.2.2.2.2.1 bt197.2.2.2.2.2.1 bt197.2.2.2.2.2.2.1 bt197.2.2.2.2.2.2.2.1 bt197.2.2.2.2.2.2.2.2 bt206.1 bt206.2.1 bt206.2.2.1 bt206.2.2.2.1 bt206.2.2.2.2.1 bt206.2.2.2.2.2 bt214.1 bt214.2)))) else (some false))
theorem damperlaw10_ScaleBounds.mono_l : ∀ k, (∀ y0 y1 y2 y3 y4 y5 y6 y7 y8 y9 y10 y11 y12 y13 y14 y15 y16 y17, LeO (damperlaw10_ScaleBounds.j0 k y0 y1 y2 y3 y4 y5 y6 y7 y8 y9 y10 y11 y12 y13 y14 y15 y16 y17) (damperlaw10_ScaleBounds.j0 (k + 1) y0 y1 y2 y3 y4 y5 y6 y7 y8 y9 y10 y11 y12 y13 y14 y15 y16 y17))
  | 0 => fun _ _ _ _ _ _ _ _ _ _ _ _ _ _ _ _ _ _ r h => by simp [damperlaw10_ScaleBounds.j0] at h
  | k + 1 => by
    have ih0 := damperlaw10_ScaleBounds.mono_l k
    · intro y0 y1 y2 y3 y4 y5 y6 y7 y8 y9 y10 y11 y12 y13 y14 y15 y16 y17
      unfold damperlaw10_ScaleBounds.j0
      repeat' first
      | (with_reducible exact ih0 _ _ _ _ _ _ _ _ _ _ _ _ _ _ _ _ _ _)
      | (with_reducible exact damperlaw10_decide.mono _ _ _ _ _ _ _ _ _ _ _ _ _ _ _ _)
      | (with_reducible exact damperlaw10_known.mono _)
      | (with_reducible exact LeO.refl _)
      | (with_reducible exact LeO.none _)
      | (with_reducible refine LeO.ite ?_ ?_)
      | (with_reducible refine LeO.bind ?_ (fun _ => ?_))
      | exact ih0 _ _ _ _ _ _ _ _ _ _ _ _ _ _ _ _ _ _
      | exact damperlaw10_decide.mono _ _ _ _ _ _ _ _ _ _ _ _ _ _ _ _
      | exact damperlaw10_known.mono _
      | exact LeO.none _
      | refine LeO.ite ?_ ?_
      | refine LeO.bind ?_ (fun _ => ?_)
theorem damperlaw10_ScaleBounds.mono : ∀ a0 a1 a2 a3 a4 a5 a6 a7 a8 a9 a10 a11 a12 a13 a14 k, LeO (damperlaw10_ScaleBounds.f k a0 a1 a2 a3 a4 a5 a6 a7 a8 a9 a10 a11 a12 a13 a14) (damperlaw10_ScaleBounds.f (k + 1) a0 a1 a2 a3 a4 a5 a6 a7 a8 a9 a10 a11 a12 a13 a14) := by
  intro a0 a1 a2 a3 a4 a5 a6 a7 a8 a9 a10 a11 a12 a13 a14 k
  have ih0 := damperlaw10_ScaleBounds.mono_l k
  unfold damperlaw10_ScaleBounds.f
  repeat' first
      | (with_reducible exact ih0 _ _ _ _ _ _ _ _ _ _ _ _ _ _ _ _ _ _)
      | (with_reducible exact damperlaw10_decide.mono _ _ _ _ _ _ _ _ _ _ _ _ _ _ _ _)
      | (with_reducible exact damperlaw10_known.mono _)
      | (with_reducible exact LeO.refl _)
      | (with_reducible exact LeO.none _)
      | (with_reducible refine LeO.ite ?_ ?_)
      | (with_reducible refine LeO.bind ?_ (fun _ => ?_))
      | exact ih0 _ _ _ _ _ _ _ _ _ _ _ _ _ _ _ _ _ _
      | exact damperlaw10_decide.mono _ _ _ _ _ _ _ _ _ _ _ _ _ _ _ _
      | exact damperlaw10_known.mono _
      | exact LeO.none _
      | refine LeO.ite ?_ ?_
      | refine LeO.bind ?_ (fun _ => ?_)
def damperlaw10_ScaleBounds.T3 : Bool × List (List Nat × List Nat) := (true, [([], []), ([0], [0]), ([], []), ([2, 1], [2]), ([], []), ([], []), ([4, 1, 3, 0, 1, 4, 5], [1, 4]), ([5, 3, 6, 0, 1, 2, 3, 4, 5, 6], [3, 5])])
def damperlaw10_ScaleBounds.B3 : List Nat := [0, 1, 0, 7, 0, 0, 63, 127]
theorem damperlaw10_ScaleBounds.tab3 : rtab .any (opsOf Try.f4 3) = damperlaw10_ScaleBounds.T3 := by kernel_rfl
theorem damperlaw10_ScaleBounds.bits3 : waitsOk damperlaw10_ScaleBounds.T3.2 damperlaw10_ScaleBounds.B3 = true := by kernel_rfl
set_option maxHeartbeats 8000000 in
set_option maxRecDepth 100000 in
theorem damperlaw10_ScaleBounds.calls (k : Nat) (a0_0 : Int) (a0_1 : Int) (a0_2 : Int) (a0_3 : Int) (a0_4 : Int) (a0_5 : Int) (a0_6 : Int) (a0_7 : Int) (a0_8 : Int) (a1_0 : ByteArray) (a1_1 : Int) (a1_2 : Int) (a1_3 : Int) (a1_4 : Int) (a1_5 : Int) (r : Bool) (w : World) (hr0_ : Aside0 (r = true)) (h : damperlaw10_ScaleBounds.f k a0_0 a0_1 a0_2 a0_3 a0_4 a0_5 a0_6 a0_7 a0_8 a1_0 a1_1 a1_2 a1_3 a1_4 a1_5 = some r) :
    Calls Try.prog 4 #[.agg #[.int .i64 a0_0, .int .i64 a0_1, .int .i64 a0_2, .int .i64 a0_3, .int .i64 a0_4, .int .i64 a0_5, .int .i64 a0_6, .int .i64 a0_7, .int .i64 a0_8], .agg #[.string a1_0, .int .i64 a1_1, .int .i64 a1_2, .int .i64 a1_3, .int .i64 a1_4, .int .i64 a1_5]] w fun e w' => e = .returned (.bool r) ∧ Below w.heap.size w w' := by
  have hu23 := Try.underlying23
  have hu25 := Try.underlying25
  have hu30 := Try.underlying30
  have HB := Aside0.mk (Below.refl w.heap.size w)
  have H : ((damperlaw10_known.f k).bind fun t196 => (if t196 = true then ((damperlaw10_Given_Make.f a0_0 a0_1 a0_2 a0_3 a0_4 a0_5 a0_6 a0_7 a0_8).bind fun bt197 => ((damperlaw2_Config.f a1_0 a1_1 a1_2 a1_3 a1_4 a1_5 0).bind fun bt206 => ((damperlaw10_decide.f k bt197.1 bt197.2.1 bt197.2.2.1 bt197.2.2.2.1 bt197.2.2.2.2.1 bt197.2.2.2.2.2.1 bt197.2.2.2.2.2.2.1 bt197.2.2.2.2.2.2.2.1 bt197.2.2.2.2.2.2.2.2 bt206.1 bt206.2.1 bt206.2.2.1 bt206.2.2.2.1 bt206.2.2.2.2.1 bt206.2.2.2.2.2).bind fun bt214 => (damperlaw10_ScaleBounds.j0 k (mx 1 bt197.2.2.1) bt197.1 bt197.2.1 bt197.2.2.1 bt197.2.2.2.1 bt197.2.2.2.2.1 bt197.2.2.2.2.2.1 bt197.2.2.2.2.2.2.1 bt197.2.2.2.2.2.2.2.1 bt197.2.2.2.2.2.2.2.2 bt206.1 bt206.2.1 bt206.2.2.1 bt206.2.2.2.1 bt206.2.2.2.2.1 bt206.2.2.2.2.2 bt214.1 bt214.2)))) else (some false))) = some r := h
  clear h
  replace H := Option.bind_eq_some_iff.mp H
  obtain ⟨t196, A30, H⟩ := H
  replace H : (if t196 = true then ((damperlaw10_Given_Make.f a0_0 a0_1 a0_2 a0_3 a0_4 a0_5 a0_6 a0_7 a0_8).bind fun bt197 => ((damperlaw2_Config.f a1_0 a1_1 a1_2 a1_3 a1_4 a1_5 0).bind fun bt206 => ((damperlaw10_decide.f k bt197.1 bt197.2.1 bt197.2.2.1 bt197.2.2.2.1 bt197.2.2.2.2.1 bt197.2.2.2.2.2.1 bt197.2.2.2.2.2.2.1 bt197.2.2.2.2.2.2.2.1 bt197.2.2.2.2.2.2.2.2 bt206.1 bt206.2.1 bt206.2.2.1 bt206.2.2.2.1 bt206.2.2.2.2.1 bt206.2.2.2.2.2).bind fun bt214 => (damperlaw10_ScaleBounds.j0 k (mx 1 bt197.2.2.1) bt197.1 bt197.2.1 bt197.2.2.1 bt197.2.2.2.1 bt197.2.2.2.2.1 bt197.2.2.2.2.2.1 bt197.2.2.2.2.2.2.1 bt197.2.2.2.2.2.2.2.1 bt197.2.2.2.2.2.2.2.2 bt206.1 bt206.2.1 bt206.2.2.1 bt206.2.2.2.1 bt206.2.2.2.2.1 bt206.2.2.2.2.2 bt214.1 bt214.2)))) else (some false)) = some r := H
  have A3 := Aside0.mk A30
  clear A30
  by_cases c4 : t196 = true
  · subst c4
    have H1 : ((damperlaw10_Given_Make.f a0_0 a0_1 a0_2 a0_3 a0_4 a0_5 a0_6 a0_7 a0_8).bind fun bt197 => ((damperlaw2_Config.f a1_0 a1_1 a1_2 a1_3 a1_4 a1_5 0).bind fun bt206 => ((damperlaw10_decide.f k bt197.1 bt197.2.1 bt197.2.2.1 bt197.2.2.2.1 bt197.2.2.2.2.1 bt197.2.2.2.2.2.1 bt197.2.2.2.2.2.2.1 bt197.2.2.2.2.2.2.2.1 bt197.2.2.2.2.2.2.2.2 bt206.1 bt206.2.1 bt206.2.2.1 bt206.2.2.2.1 bt206.2.2.2.2.1 bt206.2.2.2.2.2).bind fun bt214 => (damperlaw10_ScaleBounds.j0 k (mx 1 bt197.2.2.1) bt197.1 bt197.2.1 bt197.2.2.1 bt197.2.2.2.1 bt197.2.2.2.2.1 bt197.2.2.2.2.2.1 bt197.2.2.2.2.2.2.1 bt197.2.2.2.2.2.2.2.1 bt197.2.2.2.2.2.2.2.2 bt206.1 bt206.2.1 bt206.2.2.1 bt206.2.2.2.1 bt206.2.2.2.2.1 bt206.2.2.2.2.2 bt214.1 bt214.2)))) = some r := by rw [if_pos rfl] at H; exact H
    clear H
    have H := H1
    clear H1
    replace H := Option.bind_eq_some_iff.mp H
    obtain ⟨⟨t197, t198, t199, t200, t201, t202, t203, t204, t205⟩, A50, H⟩ := H
    replace H : ((damperlaw2_Config.f a1_0 a1_1 a1_2 a1_3 a1_4 a1_5 0).bind fun bt206 => ((damperlaw10_decide.f k t197 t198 t199 t200 t201 t202 t203 t204 t205 bt206.1 bt206.2.1 bt206.2.2.1 bt206.2.2.2.1 bt206.2.2.2.2.1 bt206.2.2.2.2.2).bind fun bt214 => (damperlaw10_ScaleBounds.j0 k (mx 1 t199) t197 t198 t199 t200 t201 t202 t203 t204 t205 bt206.1 bt206.2.1 bt206.2.2.1 bt206.2.2.2.1 bt206.2.2.2.2.1 bt206.2.2.2.2.2 bt214.1 bt214.2))) = some r := H
    have A5 := Aside0.mk A50
    clear A50
    replace H := Option.bind_eq_some_iff.mp H
    obtain ⟨⟨t206, t207, t208, t209, t210, t211⟩, A60, H⟩ := H
    replace H : ((damperlaw10_decide.f k t197 t198 t199 t200 t201 t202 t203 t204 t205 t206 t207 t208 t209 t210 t211).bind fun bt214 => (damperlaw10_ScaleBounds.j0 k (mx 1 t199) t197 t198 t199 t200 t201 t202 t203 t204 t205 t206 t207 t208 t209 t210 t211 bt214.1 bt214.2)) = some r := H
    have A6 := Aside0.mk A60
    clear A60
    replace H := Option.bind_eq_some_iff.mp H
    obtain ⟨⟨t214, t215⟩, A70, H⟩ := H
    replace H : (damperlaw10_ScaleBounds.j0 k (mx 1 t199) t197 t198 t199 t200 t201 t202 t203 t204 t205 t206 t207 t208 t209 t210 t211 t214 t215) = some r := H
    have A7 := Aside0.mk A70
    clear A70
    have HC8 := Aside0.mk H
    clear H
    go_enter Try.func4, Try.ntmps4
    try go_wp2_with (first | ((with_reducible refine gate_dst (N := 2) rfl ?_); refine box_event ?hg (N := 2) ?hd (cs := #[.int .i64 a0_0, .int .i64 a0_1, .int .i64 a0_2, .int .i64 a0_3, .int .i64 a0_4, .int .i64 a0_5, .int .i64 a0_6, .int .i64 a0_7, .int .i64 a0_8]) (t := 23) ?hr ?_; (case hd => rfl); (case hg => rfl); (case hr => first | (go_simp; done) | (go_simp; rfl)); intro gb194 hg w9 hbox hb; have n0_ := Aside0.mk (below_step (by repeat (first | (with_reducible first | exact HB.out | apply below_alloc | apply pw_below_drewN | apply below_drew1) | exact HB.out)) hb); have n1_ := Aside0.mk (hbox); have n2_ := Aside0.mk ((by rw [hg]; exact (below_size (by repeat (first | (with_reducible first | exact HB.out | apply below_alloc | apply pw_below_drewN | apply below_drew1) | exact HB.out))) : w.heap.size ≤ gb194)); have n3_ := Aside0.mk ((by rw [hg]; exact (below_size (by repeat (first | (with_reducible first | exact HB.out | apply below_alloc | apply pw_below_drewN | apply below_drew1) | exact HB.out))) : w.heap.size ≤ gb194)); clear HB; have HB := n0_; have BK194 := n1_; have GW194 := n2_; have GE194 := n3_; clear n0_ n1_ n2_ n3_; clear hb hbox hg) | ((with_reducible refine gate_dst (N := 3) rfl ?_); refine box_event ?hg (N := 3) ?hd (cs := #[.string a1_0, .int .i64 a1_1, .int .i64 a1_2, .int .i64 a1_3, .int .i64 a1_4, .int .i64 a1_5]) (t := 25) ?hr ?_; (case hd => rfl); (case hg => rfl); (case hr => first | (go_simp; done) | (go_simp; rfl)); intro gb195 hg w10 hbox hb; have n0_ := Aside0.mk (blk_below (g := gb194) (pk BK194) hb); have n1_ := Aside0.mk (below_step (by repeat (first | (with_reducible first | exact HB.out | apply below_alloc | apply pw_below_drewN | apply below_drew1 | refine below_set ?_ GE194.out) | exact HB.out)) hb); have n2_ := Aside0.mk (hbox); have n3_ := Aside0.mk ((by rw [hg]; exact (below_size (by repeat (first | (with_reducible first | exact HB.out | apply below_alloc | apply pw_below_drewN | apply below_drew1 | refine below_set ?_ GE194.out) | exact HB.out))) : w.heap.size ≤ gb195)); have n4_ := Aside0.mk ((by rw [hg]; exact (below_size (by repeat (first | (with_reducible first | exact HB.out | apply below_alloc | apply pw_below_drewN | apply below_drew1 | refine below_set ?_ GE194.out) | exact HB.out))) : w.heap.size ≤ gb195)); have n5_ := Aside0.mk ((ne_lt hg (pk BK194) : gb194 ≠ gb195)); have n6_ := Aside0.mk ((ne_gt hg (pk BK194) : gb195 ≠ gb194)); clear BK194; clear HB; have BK194 := n0_; have HB := n1_; have BK195 := n2_; have GW195 := n3_; have GE195 := n4_; have NB194_195 := n5_; have NB195_194 := n6_; clear n0_ n1_ n2_ n3_ n4_ n5_ n6_; clear hb hbox hg) | ((with_reducible refine gate_callee (f := 13) rfl ?_); refine goesL_ (some 9) rfl rfl Try.func13 (by kernel_rfl) rfl #[] rfl (by (try simp only [List.map_toArray, List.map_cons, List.map_nil]); first | done | rfl | (simp only [List.length_drop, List.length_take]; rfl)) ?_; (with_reducible refine (damperlaw10_known.calls k  true _ A3.out).mono ?_); rintro e w11 ⟨rfl, hb⟩; refine ⟨_, rfl, ?_⟩; have n0_ := Aside0.mk (blk_below (g := gb194) (pk BK194) hb); have n1_ := Aside0.mk (blk_below (g := gb195) (pk BK195) hb); have n2_ := Aside0.mk (below_step (by repeat (first | (with_reducible first | exact HB.out | apply below_alloc | apply pw_below_drewN | apply below_drew1 | refine below_set ?_ GE194.out | refine below_set ?_ GE195.out) | exact HB.out)) hb); clear BK194; clear BK195; clear HB; have BK194 := n0_; have BK195 := n1_; have HB := n2_; clear n0_ n1_ n2_; (try clear hb); (try clear hb2); (try clear hk); (try clear hi)))
    replace BK194 := Aside0.mk (blk_drew BK194.out)
    replace BK195 := Aside0.mk (blk_drew BK195.out)
    replace HB := Aside0.mk (below_drew1 HB.out)
    refine start_ (n := 8) (S := fun w' => w'.cell? ⟨gb194, 0, none⟩ = some (.int .i64 a0_0) ∧ w'.cell? ⟨gb194, 1, none⟩ = some (.int .i64 a0_1) ∧ w'.cell? ⟨gb194, 2, none⟩ = some (.int .i64 a0_2) ∧ w'.cell? ⟨gb194, 3, none⟩ = some (.int .i64 a0_3) ∧ w'.cell? ⟨gb194, 4, none⟩ = some (.int .i64 a0_4) ∧ w'.cell? ⟨gb194, 5, none⟩ = some (.int .i64 a0_5) ∧ w'.cell? ⟨gb194, 6, none⟩ = some (.int .i64 a0_6) ∧ w'.cell? ⟨gb194, 7, none⟩ = some (.int .i64 a0_7) ∧ w'.cell? ⟨gb194, 8, none⟩ = some (.int .i64 a0_8) ∧ w'.cell? ⟨gb195, 0, none⟩ = some (.string a1_0) ∧ w'.cell? ⟨gb195, 1, none⟩ = some (.int .i64 a1_1) ∧ w'.cell? ⟨gb195, 2, none⟩ = some (.int .i64 a1_2) ∧ w'.cell? ⟨gb195, 3, none⟩ = some (.int .i64 a1_3) ∧ w'.cell? ⟨gb195, 4, none⟩ = some (.int .i64 a1_4) ∧ w'.cell? ⟨gb195, 5, none⟩ = some (.int .i64 a1_5)) (ds := []) #[false, false, false, false, false, false, false, false] (by kernel_rfl) rfl rfl ⟨bc BK194 0, bc BK194 1, bc BK194 2, bc BK194 3, bc BK194 4, bc BK194 5, bc BK194 6, bc BK194 7, bc BK194 8, bc BK195 0, bc BK195 1, bc BK195 2, bc BK195 3, bc BK195 4, bc BK195 5⟩ (fun hHeld => ?_); refine with_tabW damperlaw10_ScaleBounds.tab3 damperlaw10_ScaleBounds.bits3 (fun HT_ HW_ => ?_)
    generalize w11.drew = w12 at BK194 BK195 HB hHeld ⊢
    refine take_ (i := 0) (N := some 11) (v := ?_) (a' := ?_) #[true, false, false, false, false, false, false, false] rfl rfl (take_ofW HT_.out HW_.out (by kernel_rfl)) (fun _ _ _ h => h) (Or.inl ⟨by rfl, ?_⟩) hHeld ?_ ?_
    rotate_left
    · rintro w' ⟨s0, s1, s2, s3, s4, s5, s6, s7, s8, s9, s10, s11, s12, s13, s14⟩
      go_simp
      with_reducible rfl
    rotate_left
    · simp only [Act.put, List.setIfInBounds_toArray, List.set_cons_zero, List.set_cons_succ, i64_w, i32_w]
      rfl
    refine take_ (i := 2) (N := some 13) (v := ?_) (a' := ?_) #[true, false, true, false, false, false, false, false] rfl rfl (take_ofW HT_.out HW_.out (by kernel_rfl)) (fun _ _ _ h => h) (Or.inl ⟨by rfl, ?_⟩) hHeld ?_ ?_
    rotate_left
    · rintro w' ⟨s0, s1, s2, s3, s4, s5, s6, s7, s8, s9, s10, s11, s12, s13, s14⟩
      go_simp
      with_reducible rfl
    rotate_left
    · simp only [Act.put, List.setIfInBounds_toArray, List.set_cons_zero, List.set_cons_succ, i64_w, i32_w]
      rfl
    refine join_ (σ := Nat × Nat) 2 #[true, true, true, true, true, true, false, false] (fun s_ => [(12, .agg #[.int .i64 t197, .int .i64 t198, .int .i64 t199, .int .i64 t200, .int .i64 t201, .int .i64 t202, .int .i64 t203, .int .i64 t204, .int .i64 t205]), (14, .agg #[.string t206, .int .i64 t207, .int .i64 t208, .int .i64 t209, .int .i64 t210, .int .i64 t211]), (5, .pointer (some ⟨s_.1, 0, none⟩)), (6, .pointer (some ⟨s_.2, 0, none⟩))]) (fun s_ w' => (w'.cell? ⟨gb194, 0, none⟩ = some (.int .i64 a0_0) ∧ w'.cell? ⟨gb194, 1, none⟩ = some (.int .i64 a0_1) ∧ w'.cell? ⟨gb194, 2, none⟩ = some (.int .i64 a0_2) ∧ w'.cell? ⟨gb194, 3, none⟩ = some (.int .i64 a0_3) ∧ w'.cell? ⟨gb194, 4, none⟩ = some (.int .i64 a0_4) ∧ w'.cell? ⟨gb194, 5, none⟩ = some (.int .i64 a0_5) ∧ w'.cell? ⟨gb194, 6, none⟩ = some (.int .i64 a0_6) ∧ w'.cell? ⟨gb194, 7, none⟩ = some (.int .i64 a0_7) ∧ w'.cell? ⟨gb194, 8, none⟩ = some (.int .i64 a0_8) ∧ w'.cell? ⟨gb195, 0, none⟩ = some (.string a1_0) ∧ w'.cell? ⟨gb195, 1, none⟩ = some (.int .i64 a1_1) ∧ w'.cell? ⟨gb195, 2, none⟩ = some (.int .i64 a1_2) ∧ w'.cell? ⟨gb195, 3, none⟩ = some (.int .i64 a1_3) ∧ w'.cell? ⟨gb195, 4, none⟩ = some (.int .i64 a1_4) ∧ w'.cell? ⟨gb195, 5, none⟩ = some (.int .i64 a1_5)) ∧ (w'.heap[gb194]? = some (.cells #[.int .i64 a0_0, .int .i64 a0_1, .int .i64 a0_2, .int .i64 a0_3, .int .i64 a0_4, .int .i64 a0_5, .int .i64 a0_6, .int .i64 a0_7, .int .i64 a0_8] 23 (0, 0))) ∧ (w'.heap[gb195]? = some (.cells #[.string a1_0, .int .i64 a1_1, .int .i64 a1_2, .int .i64 a1_3, .int .i64 a1_4, .int .i64 a1_5] 25 (0, 0))) ∧ (w'.heap[s_.1]? = some (.cells #[.int .i64 0, .int .i64 0, .int .i64 0, .int .i64 0, .int .i64 0, .int .i64 0, .int .i64 0, .int .i64 0, .int .i64 0] 23 (0, 0))) ∧ (w'.heap[s_.2]? = some (.cells #[.string (⟨#[]⟩ : ByteArray), .int .i64 0, .int .i64 0, .int .i64 0, .int .i64 0, .int .i64 0] 25 (0, 0))) ∧ (w.heap.size ≤ s_.1) ∧ (w.heap.size ≤ s_.1) ∧ (gb194 ≠ s_.1) ∧ (s_.1 ≠ gb194) ∧ (gb195 ≠ s_.1) ∧ (s_.1 ≠ gb195) ∧ (s_.2 ≠ s_.1) ∧ (s_.1 ≠ s_.2) ∧ (w.heap.size ≤ s_.2) ∧ (w.heap.size ≤ s_.2) ∧ (gb194 ≠ s_.2) ∧ (s_.2 ≠ gb194) ∧ (gb195 ≠ s_.2) ∧ (s_.2 ≠ gb195) ∧ (Below w.heap.size w w')) ?_ ?_
    · rintro ⟨gb212, gb213⟩ w17 ⟨hS_, h0_, h1_, h2_, h3_, h4_, h5_, h6_, h7_, h8_, h9_, h10_, h11_, h12_, h13_, h14_, h15_, h16_, h17_, h18_⟩
      have BK212 : Aside0 (w17.heap[gb212]? = some (.cells #[.int .i64 0, .int .i64 0, .int .i64 0, .int .i64 0, .int .i64 0, .int .i64 0, .int .i64 0, .int .i64 0, .int .i64 0] 23 (0, 0))) := ⟨h2_⟩
      have BK213 : Aside0 (w17.heap[gb213]? = some (.cells #[.string (⟨#[]⟩ : ByteArray), .int .i64 0, .int .i64 0, .int .i64 0, .int .i64 0, .int .i64 0] 25 (0, 0))) := ⟨h3_⟩
      have GW212 : Aside0 (w.heap.size ≤ gb212) := ⟨h4_⟩
      have GE212 : Aside0 (w.heap.size ≤ gb212) := ⟨h5_⟩
      have NB194_212 : Aside0 (gb194 ≠ gb212) := ⟨h6_⟩
      have NB212_194 : Aside0 (gb212 ≠ gb194) := ⟨h7_⟩
      have NB195_212 : Aside0 (gb195 ≠ gb212) := ⟨h8_⟩
      have NB212_195 : Aside0 (gb212 ≠ gb195) := ⟨h9_⟩
      have NB213_212 : Aside0 (gb213 ≠ gb212) := ⟨h10_⟩
      have NB212_213 : Aside0 (gb212 ≠ gb213) := ⟨h11_⟩
      have GW213 : Aside0 (w.heap.size ≤ gb213) := ⟨h12_⟩
      have GE213 : Aside0 (w.heap.size ≤ gb213) := ⟨h13_⟩
      have NB194_213 : Aside0 (gb194 ≠ gb213) := ⟨h14_⟩
      have NB213_194 : Aside0 (gb213 ≠ gb194) := ⟨h15_⟩
      have NB195_213 : Aside0 (gb195 ≠ gb213) := ⟨h16_⟩
      have NB213_195 : Aside0 (gb213 ≠ gb195) := ⟨h17_⟩
      replace BK194 := Aside0.mk h0_
      replace BK195 := Aside0.mk h1_
      replace HB : Aside0 (Below w.heap.size w w17) := ⟨h18_⟩
      clear h0_ h1_ h2_ h3_ h4_ h5_ h6_ h7_ h8_ h9_ h10_ h11_ h12_ h13_ h14_ h15_ h16_ h17_ h18_
      have hHeld := hS_
      refine norm_ (a' := ?_) ?_ ?_
      rotate_left
      · simp only [putAll, Act.put, List.setIfInBounds_toArray, List.set_cons_zero, List.set_cons_succ]
        rfl
      refine one_ (i := 6) (N := none) #[true, true, true, true, true, true, true, false] rfl rfl (one_of HT_.out (by kernel_rfl)) (by decide) (fun K hK => ?_)
      have hs18 : w17.cell? ⟨gb212, 0, none⟩ = some (.int .i64 0) := bc BK212 0
      have hfs18 := blk_frozen BK212.out 0
      have hns18_0 := NB194_212.out
      have hns18_1 := NB195_212.out
      have hns18_3 := NB213_212.out
      have hms18_0 := NB212_194.out
      have hms18_1 := NB212_195.out
      have hms18_3 := NB212_213.out
      have hs19 : w17.cell? ⟨gb212, 1, none⟩ = some (.int .i64 0) := bc BK212 1
      have hfs19 := blk_frozen BK212.out 1
      have hs20 : w17.cell? ⟨gb212, 2, none⟩ = some (.int .i64 0) := bc BK212 2
      have hfs20 := blk_frozen BK212.out 2
      have hs21 : w17.cell? ⟨gb212, 3, none⟩ = some (.int .i64 0) := bc BK212 3
      have hfs21 := blk_frozen BK212.out 3
      have hs22 : w17.cell? ⟨gb212, 4, none⟩ = some (.int .i64 0) := bc BK212 4
      have hfs22 := blk_frozen BK212.out 4
      have hs23 : w17.cell? ⟨gb212, 5, none⟩ = some (.int .i64 0) := bc BK212 5
      have hfs23 := blk_frozen BK212.out 5
      have hs24 : w17.cell? ⟨gb212, 6, none⟩ = some (.int .i64 0) := bc BK212 6
      have hfs24 := blk_frozen BK212.out 6
      have hs25 : w17.cell? ⟨gb212, 7, none⟩ = some (.int .i64 0) := bc BK212 7
      have hfs25 := blk_frozen BK212.out 7
      have hs26 : w17.cell? ⟨gb212, 8, none⟩ = some (.int .i64 0) := bc BK212 8
      have hfs26 := blk_frozen BK212.out 8
      with_reducible_and_instances refine skip_ (w1 := ?_) ?hw_ ?hN_ ?_ ?_
      (case hw_ => rfl)
      (case hN_ => rfl)
      rotate_left
      · go_simp
        rfl
      refine hK.out _ _ ⟨(cf NB194_212 ((cf NB194_212 ((cf NB194_212 ((cf NB194_212 ((cf NB194_212 ((cf NB194_212 ((cf NB194_212 ((cf NB194_212 ((cf NB194_212 (hHeld.1)))))))))))))))))), (cf NB194_212 ((cf NB194_212 ((cf NB194_212 ((cf NB194_212 ((cf NB194_212 ((cf NB194_212 ((cf NB194_212 ((cf NB194_212 ((cf NB194_212 (hHeld.2.1)))))))))))))))))), (cf NB194_212 ((cf NB194_212 ((cf NB194_212 ((cf NB194_212 ((cf NB194_212 ((cf NB194_212 ((cf NB194_212 ((cf NB194_212 ((cf NB194_212 (hHeld.2.2.1)))))))))))))))))), (cf NB194_212 ((cf NB194_212 ((cf NB194_212 ((cf NB194_212 ((cf NB194_212 ((cf NB194_212 ((cf NB194_212 ((cf NB194_212 ((cf NB194_212 (hHeld.2.2.2.1)))))))))))))))))), (cf NB194_212 ((cf NB194_212 ((cf NB194_212 ((cf NB194_212 ((cf NB194_212 ((cf NB194_212 ((cf NB194_212 ((cf NB194_212 ((cf NB194_212 (hHeld.2.2.2.2.1)))))))))))))))))), (cf NB194_212 ((cf NB194_212 ((cf NB194_212 ((cf NB194_212 ((cf NB194_212 ((cf NB194_212 ((cf NB194_212 ((cf NB194_212 ((cf NB194_212 (hHeld.2.2.2.2.2.1)))))))))))))))))), (cf NB194_212 ((cf NB194_212 ((cf NB194_212 ((cf NB194_212 ((cf NB194_212 ((cf NB194_212 ((cf NB194_212 ((cf NB194_212 ((cf NB194_212 (hHeld.2.2.2.2.2.2.1)))))))))))))))))), (cf NB194_212 ((cf NB194_212 ((cf NB194_212 ((cf NB194_212 ((cf NB194_212 ((cf NB194_212 ((cf NB194_212 ((cf NB194_212 ((cf NB194_212 (hHeld.2.2.2.2.2.2.2.1)))))))))))))))))), (cf NB194_212 ((cf NB194_212 ((cf NB194_212 ((cf NB194_212 ((cf NB194_212 ((cf NB194_212 ((cf NB194_212 ((cf NB194_212 ((cf NB194_212 (hHeld.2.2.2.2.2.2.2.2.1)))))))))))))))))), (cf NB195_212 ((cf NB195_212 ((cf NB195_212 ((cf NB195_212 ((cf NB195_212 ((cf NB195_212 ((cf NB195_212 ((cf NB195_212 ((cf NB195_212 (hHeld.2.2.2.2.2.2.2.2.2.1)))))))))))))))))), (cf NB195_212 ((cf NB195_212 ((cf NB195_212 ((cf NB195_212 ((cf NB195_212 ((cf NB195_212 ((cf NB195_212 ((cf NB195_212 ((cf NB195_212 (hHeld.2.2.2.2.2.2.2.2.2.2.1)))))))))))))))))), (cf NB195_212 ((cf NB195_212 ((cf NB195_212 ((cf NB195_212 ((cf NB195_212 ((cf NB195_212 ((cf NB195_212 ((cf NB195_212 ((cf NB195_212 (hHeld.2.2.2.2.2.2.2.2.2.2.2.1)))))))))))))))))), (cf NB195_212 ((cf NB195_212 ((cf NB195_212 ((cf NB195_212 ((cf NB195_212 ((cf NB195_212 ((cf NB195_212 ((cf NB195_212 ((cf NB195_212 (hHeld.2.2.2.2.2.2.2.2.2.2.2.2.1)))))))))))))))))), (cf NB195_212 ((cf NB195_212 ((cf NB195_212 ((cf NB195_212 ((cf NB195_212 ((cf NB195_212 ((cf NB195_212 ((cf NB195_212 ((cf NB195_212 (hHeld.2.2.2.2.2.2.2.2.2.2.2.2.2.1)))))))))))))))))), (cf NB195_212 ((cf NB195_212 ((cf NB195_212 ((cf NB195_212 ((cf NB195_212 ((cf NB195_212 ((cf NB195_212 ((cf NB195_212 ((cf NB195_212 (hHeld.2.2.2.2.2.2.2.2.2.2.2.2.2.2))))))))))))))))))⟩ (fun hHeld => ?_)
      clear hK K
      refine one_ (i := 7) (N := none) #[true, true, true, true, true, true, true, true] rfl rfl (one_of HT_.out (by kernel_rfl)) (by decide) (fun K hK => ?_)
      have hs27 : w17.cell? ⟨gb213, 0, none⟩ = some (.string (⟨#[]⟩ : ByteArray)) := bc BK213 0
      have hfs27 := blk_frozen BK213.out 0
      have hns27_0 := NB194_213.out
      have hns27_1 := NB195_213.out
      have hns27_2 := NB212_213.out
      have hms27_0 := NB213_194.out
      have hms27_1 := NB213_195.out
      have hms27_2 := NB213_212.out
      have hs28 : w17.cell? ⟨gb213, 1, none⟩ = some (.int .i64 0) := bc BK213 1
      have hfs28 := blk_frozen BK213.out 1
      have hs29 : w17.cell? ⟨gb213, 2, none⟩ = some (.int .i64 0) := bc BK213 2
      have hfs29 := blk_frozen BK213.out 2
      have hs30 : w17.cell? ⟨gb213, 3, none⟩ = some (.int .i64 0) := bc BK213 3
      have hfs30 := blk_frozen BK213.out 3
      have hs31 : w17.cell? ⟨gb213, 4, none⟩ = some (.int .i64 0) := bc BK213 4
      have hfs31 := blk_frozen BK213.out 4
      have hs32 : w17.cell? ⟨gb213, 5, none⟩ = some (.int .i64 0) := bc BK213 5
      have hfs32 := blk_frozen BK213.out 5
      with_reducible_and_instances refine skip_ (w1 := ?_) ?hw_ ?hN_ ?_ ?_
      (case hw_ => rfl)
      (case hN_ => rfl)
      rotate_left
      · go_simp
        rfl
      refine hK.out _ _ ⟨(cf NB194_213 ((cf NB194_213 ((cf NB194_213 ((cf NB194_213 ((cf NB194_213 ((cf NB194_213 (hHeld.1)))))))))))), (cf NB194_213 ((cf NB194_213 ((cf NB194_213 ((cf NB194_213 ((cf NB194_213 ((cf NB194_213 (hHeld.2.1)))))))))))), (cf NB194_213 ((cf NB194_213 ((cf NB194_213 ((cf NB194_213 ((cf NB194_213 ((cf NB194_213 (hHeld.2.2.1)))))))))))), (cf NB194_213 ((cf NB194_213 ((cf NB194_213 ((cf NB194_213 ((cf NB194_213 ((cf NB194_213 (hHeld.2.2.2.1)))))))))))), (cf NB194_213 ((cf NB194_213 ((cf NB194_213 ((cf NB194_213 ((cf NB194_213 ((cf NB194_213 (hHeld.2.2.2.2.1)))))))))))), (cf NB194_213 ((cf NB194_213 ((cf NB194_213 ((cf NB194_213 ((cf NB194_213 ((cf NB194_213 (hHeld.2.2.2.2.2.1)))))))))))), (cf NB194_213 ((cf NB194_213 ((cf NB194_213 ((cf NB194_213 ((cf NB194_213 ((cf NB194_213 (hHeld.2.2.2.2.2.2.1)))))))))))), (cf NB194_213 ((cf NB194_213 ((cf NB194_213 ((cf NB194_213 ((cf NB194_213 ((cf NB194_213 (hHeld.2.2.2.2.2.2.2.1)))))))))))), (cf NB194_213 ((cf NB194_213 ((cf NB194_213 ((cf NB194_213 ((cf NB194_213 ((cf NB194_213 (hHeld.2.2.2.2.2.2.2.2.1)))))))))))), (cf NB195_213 ((cf NB195_213 ((cf NB195_213 ((cf NB195_213 ((cf NB195_213 ((cf NB195_213 (hHeld.2.2.2.2.2.2.2.2.2.1)))))))))))), (cf NB195_213 ((cf NB195_213 ((cf NB195_213 ((cf NB195_213 ((cf NB195_213 ((cf NB195_213 (hHeld.2.2.2.2.2.2.2.2.2.2.1)))))))))))), (cf NB195_213 ((cf NB195_213 ((cf NB195_213 ((cf NB195_213 ((cf NB195_213 ((cf NB195_213 (hHeld.2.2.2.2.2.2.2.2.2.2.2.1)))))))))))), (cf NB195_213 ((cf NB195_213 ((cf NB195_213 ((cf NB195_213 ((cf NB195_213 ((cf NB195_213 (hHeld.2.2.2.2.2.2.2.2.2.2.2.2.1)))))))))))), (cf NB195_213 ((cf NB195_213 ((cf NB195_213 ((cf NB195_213 ((cf NB195_213 ((cf NB195_213 (hHeld.2.2.2.2.2.2.2.2.2.2.2.2.2.1)))))))))))), (cf NB195_213 ((cf NB195_213 ((cf NB195_213 ((cf NB195_213 ((cf NB195_213 ((cf NB195_213 (hHeld.2.2.2.2.2.2.2.2.2.2.2.2.2.2))))))))))))⟩ (fun hHeld => ?_)
      clear hK K
      refine done_ (done_of HT_.out (by kernel_rfl)) ?_
      have hnb33 := NB212_194.out
      have hnc33 := NB194_212.out
      have hnb34 := NB212_195.out
      have hnc34 := NB195_212.out
      have hnb35 := NB212_213.out
      have hnc35 := NB213_212.out
      have hcz36_0 : w17.cell? ⟨gb212, 0, none⟩ = some (.int .i64 0) := bc BK212 0
      have hcz36_1 : w17.cell? ⟨gb212, 1, none⟩ = some (.int .i64 0) := bc BK212 1
      have hcz36_2 : w17.cell? ⟨gb212, 2, none⟩ = some (.int .i64 0) := bc BK212 2
      have hcz36_3 : w17.cell? ⟨gb212, 3, none⟩ = some (.int .i64 0) := bc BK212 3
      have hcz36_4 : w17.cell? ⟨gb212, 4, none⟩ = some (.int .i64 0) := bc BK212 4
      have hcz36_5 : w17.cell? ⟨gb212, 5, none⟩ = some (.int .i64 0) := bc BK212 5
      have hcz36_6 : w17.cell? ⟨gb212, 6, none⟩ = some (.int .i64 0) := bc BK212 6
      have hcz36_7 : w17.cell? ⟨gb212, 7, none⟩ = some (.int .i64 0) := bc BK212 7
      have hcz36_8 : w17.cell? ⟨gb212, 8, none⟩ = some (.int .i64 0) := bc BK212 8
      have hfz36_0 := blk_frozen BK212.out 0
      have hfz36_1 := blk_frozen BK212.out 1
      have hfz36_2 := blk_frozen BK212.out 2
      have hfz36_3 := blk_frozen BK212.out 3
      have hfz36_4 := blk_frozen BK212.out 4
      have hfz36_5 := blk_frozen BK212.out 5
      have hfz36_6 := blk_frozen BK212.out 6
      have hfz36_7 := blk_frozen BK212.out 7
      have hfz36_8 := blk_frozen BK212.out 8
      have hnb37 := NB213_194.out
      have hnc37 := NB194_213.out
      have hnb38 := NB213_195.out
      have hnc38 := NB195_213.out
      have hcz39_0 : w17.cell? ⟨gb213, 0, none⟩ = some (.string (⟨#[]⟩ : ByteArray)) := bc BK213 0
      have hcz39_1 : w17.cell? ⟨gb213, 1, none⟩ = some (.int .i64 0) := bc BK213 1
      have hcz39_2 : w17.cell? ⟨gb213, 2, none⟩ = some (.int .i64 0) := bc BK213 2
      have hcz39_3 : w17.cell? ⟨gb213, 3, none⟩ = some (.int .i64 0) := bc BK213 3
      have hcz39_4 : w17.cell? ⟨gb213, 4, none⟩ = some (.int .i64 0) := bc BK213 4
      have hcz39_5 : w17.cell? ⟨gb213, 5, none⟩ = some (.int .i64 0) := bc BK213 5
      have hfz39_0 := blk_frozen BK213.out 0
      have hfz39_1 := blk_frozen BK213.out 1
      have hfz39_2 := blk_frozen BK213.out 2
      have hfz39_3 := blk_frozen BK213.out 3
      have hfz39_4 := blk_frozen BK213.out 4
      have hfz39_5 := blk_frozen BK213.out 5
      go_upto_region 5 with (first | ((with_reducible refine gate_callee (f := 16) rfl ?_); refine goesL_ (some 17) rfl rfl Try.func16 (by kernel_rfl) rfl #[.agg #[.int .i64 t197, .int .i64 t198, .int .i64 t199, .int .i64 t200, .int .i64 t201, .int .i64 t202, .int .i64 t203, .int .i64 t204, .int .i64 t205], .agg #[.string t206, .int .i64 t207, .int .i64 t208, .int .i64 t209, .int .i64 t210, .int .i64 t211]] rfl (by (try simp only [List.map_toArray, List.map_cons, List.map_nil]); first | done | rfl | (simp only [List.length_drop, List.length_take]; rfl)) ?_; (with_reducible refine (damperlaw10_decide.calls k t197 t198 t199 t200 t201 t202 t203 t204 t205 t206 t207 t208 t209 t210 t211 t214 t215 _ A7.out).mono ?_); rintro e w40 ⟨rfl, hb⟩; refine ⟨_, rfl, ?_⟩; have n0_ := Aside0.mk (blk_below (g := gb194) (o := .cells #[.int .i64 a0_0, .int .i64 a0_1, .int .i64 a0_2, .int .i64 a0_3, .int .i64 a0_4, .int .i64 a0_5, .int .i64 a0_6, .int .i64 a0_7, .int .i64 a0_8] 23 (0, 0)) (by (repeat ((with_reducible repeat (first | refine blk_drewN ?_ _ | refine blk_drew ?_ | refine blk_alloc ?_ _)); refine blk_far ?_ NB194_213.out _)); (repeat ((with_reducible repeat (first | refine blk_drewN ?_ _ | refine blk_drew ?_ | refine blk_alloc ?_ _)); refine blk_far ?_ NB194_212.out _)); (with_reducible repeat (first | refine blk_drewN ?_ _ | refine blk_drew ?_ | refine blk_alloc ?_ _)); exact BK194.out) hb); have n1_ := Aside0.mk (blk_below (g := gb195) (o := .cells #[.string a1_0, .int .i64 a1_1, .int .i64 a1_2, .int .i64 a1_3, .int .i64 a1_4, .int .i64 a1_5] 25 (0, 0)) (by (repeat ((with_reducible repeat (first | refine blk_drewN ?_ _ | refine blk_drew ?_ | refine blk_alloc ?_ _)); refine blk_far ?_ NB195_213.out _)); (repeat ((with_reducible repeat (first | refine blk_drewN ?_ _ | refine blk_drew ?_ | refine blk_alloc ?_ _)); refine blk_far ?_ NB195_212.out _)); (with_reducible repeat (first | refine blk_drewN ?_ _ | refine blk_drew ?_ | refine blk_alloc ?_ _)); exact BK195.out) hb); have n2_ := Aside0.mk (blk_below (g := gb212) (o := .cells #[.int .i64 t197, .int .i64 t198, .int .i64 t199, .int .i64 t200, .int .i64 t201, .int .i64 t202, .int .i64 t203, .int .i64 t204, .int .i64 t205] 23 (0, 0)) (by (repeat ((with_reducible repeat (first | refine blk_drewN ?_ _ | refine blk_drew ?_ | refine blk_alloc ?_ _)); refine blk_far ?_ NB212_213.out _)); (with_reducible repeat (first | refine blk_drewN ?_ _ | refine blk_drew ?_ | refine blk_alloc ?_ _)); refine blk_put (cs := #[.int .i64 t197, .int .i64 t198, .int .i64 t199, .int .i64 t200, .int .i64 t201, .int .i64 t202, .int .i64 t203, .int .i64 t204, .int .i64 0]) ?_ 8 _ rfl; refine blk_put (cs := #[.int .i64 t197, .int .i64 t198, .int .i64 t199, .int .i64 t200, .int .i64 t201, .int .i64 t202, .int .i64 t203, .int .i64 0, .int .i64 0]) ?_ 7 _ rfl; refine blk_put (cs := #[.int .i64 t197, .int .i64 t198, .int .i64 t199, .int .i64 t200, .int .i64 t201, .int .i64 t202, .int .i64 0, .int .i64 0, .int .i64 0]) ?_ 6 _ rfl; refine blk_put (cs := #[.int .i64 t197, .int .i64 t198, .int .i64 t199, .int .i64 t200, .int .i64 t201, .int .i64 0, .int .i64 0, .int .i64 0, .int .i64 0]) ?_ 5 _ rfl; refine blk_put (cs := #[.int .i64 t197, .int .i64 t198, .int .i64 t199, .int .i64 t200, .int .i64 0, .int .i64 0, .int .i64 0, .int .i64 0, .int .i64 0]) ?_ 4 _ rfl; refine blk_put (cs := #[.int .i64 t197, .int .i64 t198, .int .i64 t199, .int .i64 0, .int .i64 0, .int .i64 0, .int .i64 0, .int .i64 0, .int .i64 0]) ?_ 3 _ rfl; refine blk_put (cs := #[.int .i64 t197, .int .i64 t198, .int .i64 0, .int .i64 0, .int .i64 0, .int .i64 0, .int .i64 0, .int .i64 0, .int .i64 0]) ?_ 2 _ rfl; refine blk_put (cs := #[.int .i64 t197, .int .i64 0, .int .i64 0, .int .i64 0, .int .i64 0, .int .i64 0, .int .i64 0, .int .i64 0, .int .i64 0]) ?_ 1 _ rfl; refine blk_put (cs := #[.int .i64 0, .int .i64 0, .int .i64 0, .int .i64 0, .int .i64 0, .int .i64 0, .int .i64 0, .int .i64 0, .int .i64 0]) ?_ 0 _ rfl; (with_reducible repeat (first | refine blk_drewN ?_ _ | refine blk_drew ?_ | refine blk_alloc ?_ _)); exact BK212.out) hb); have n3_ := Aside0.mk (blk_below (g := gb213) (o := .cells #[.string t206, .int .i64 t207, .int .i64 t208, .int .i64 t209, .int .i64 t210, .int .i64 t211] 25 (0, 0)) (by (with_reducible repeat (first | refine blk_drewN ?_ _ | refine blk_drew ?_ | refine blk_alloc ?_ _)); refine blk_put (cs := #[.string t206, .int .i64 t207, .int .i64 t208, .int .i64 t209, .int .i64 t210, .int .i64 0]) ?_ 5 _ rfl; refine blk_put (cs := #[.string t206, .int .i64 t207, .int .i64 t208, .int .i64 t209, .int .i64 0, .int .i64 0]) ?_ 4 _ rfl; refine blk_put (cs := #[.string t206, .int .i64 t207, .int .i64 t208, .int .i64 0, .int .i64 0, .int .i64 0]) ?_ 3 _ rfl; refine blk_put (cs := #[.string t206, .int .i64 t207, .int .i64 0, .int .i64 0, .int .i64 0, .int .i64 0]) ?_ 2 _ rfl; refine blk_put (cs := #[.string t206, .int .i64 0, .int .i64 0, .int .i64 0, .int .i64 0, .int .i64 0]) ?_ 1 _ rfl; refine blk_put (cs := #[.string (⟨#[]⟩ : ByteArray), .int .i64 0, .int .i64 0, .int .i64 0, .int .i64 0, .int .i64 0]) ?_ 0 _ rfl; (repeat ((with_reducible repeat (first | refine blk_drewN ?_ _ | refine blk_drew ?_ | refine blk_alloc ?_ _)); refine blk_far ?_ NB213_212.out _)); (with_reducible repeat (first | refine blk_drewN ?_ _ | refine blk_drew ?_ | refine blk_alloc ?_ _)); exact BK213.out) hb); have n4_ := Aside0.mk (below_step (by repeat (first | (with_reducible first | exact HB.out | apply below_alloc | apply pw_below_drewN | apply below_drew1 | refine below_set ?_ GE194.out | refine below_set ?_ GE195.out | refine below_set ?_ GE212.out | refine below_set ?_ GE213.out) | exact HB.out)) hb); clear BK194; clear BK195; clear BK212; clear BK213; clear HB; have BK194 := n0_; have BK195 := n1_; have BK212 := n2_; have BK213 := n3_; have HB := n4_; clear n0_ n1_ n2_ n3_ n4_; (try clear hb); (try clear hb2); (try clear hk); (try clear hi)) | ((with_reducible refine gate_dst (N := 7) rfl ?_); refine box_event ?hg (N := 7) ?hd (cs := #[.int .i64 0, .int .i64 0]) (t := 30) ?hr ?_; (case hd => rfl); (case hg => rfl); (case hr => first | (go_simp; done) | (go_simp; rfl)); intro gb216 hg w41 hbox hb; have n0_ := Aside0.mk (blk_below (g := gb194) (pk BK194) hb); have n1_ := Aside0.mk (blk_below (g := gb195) (pk BK195) hb); have n2_ := Aside0.mk (blk_below (g := gb212) (pk BK212) hb); have n3_ := Aside0.mk (blk_below (g := gb213) (pk BK213) hb); have n4_ := Aside0.mk (below_step (by repeat (first | (with_reducible first | exact HB.out | apply below_alloc | apply pw_below_drewN | apply below_drew1 | refine below_set ?_ GE194.out | refine below_set ?_ GE195.out | refine below_set ?_ GE212.out | refine below_set ?_ GE213.out) | exact HB.out)) hb); have n5_ := Aside0.mk (hbox); have n6_ := Aside0.mk ((by rw [hg]; exact (below_size (by repeat (first | (with_reducible first | exact HB.out | apply below_alloc | apply pw_below_drewN | apply below_drew1 | refine below_set ?_ GE194.out | refine below_set ?_ GE195.out | refine below_set ?_ GE212.out | refine below_set ?_ GE213.out) | exact HB.out))) : w.heap.size ≤ gb216)); have n7_ := Aside0.mk ((by rw [hg]; exact (below_size (by repeat (first | (with_reducible first | exact HB.out | apply below_alloc | apply pw_below_drewN | apply below_drew1 | refine below_set ?_ GE194.out | refine below_set ?_ GE195.out | refine below_set ?_ GE212.out | refine below_set ?_ GE213.out) | exact HB.out))) : w.heap.size ≤ gb216)); have n8_ := Aside0.mk ((ne_lt hg (pk BK194) : gb194 ≠ gb216)); have n9_ := Aside0.mk ((ne_gt hg (pk BK194) : gb216 ≠ gb194)); have n10_ := Aside0.mk ((ne_lt hg (pk BK195) : gb195 ≠ gb216)); have n11_ := Aside0.mk ((ne_gt hg (pk BK195) : gb216 ≠ gb195)); have n12_ := Aside0.mk ((ne_lt hg (pk BK212) : gb212 ≠ gb216)); have n13_ := Aside0.mk ((ne_gt hg (pk BK212) : gb216 ≠ gb212)); have n14_ := Aside0.mk ((ne_lt hg (pk BK213) : gb213 ≠ gb216)); have n15_ := Aside0.mk ((ne_gt hg (pk BK213) : gb216 ≠ gb213)); clear BK194; clear BK195; clear BK212; clear BK213; clear HB; have BK194 := n0_; have BK195 := n1_; have BK212 := n2_; have BK213 := n3_; have HB := n4_; have BK216 := n5_; have GW216 := n6_; have GE216 := n7_; have NB194_216 := n8_; have NB216_194 := n9_; have NB195_216 := n10_; have NB216_195 := n11_; have NB212_216 := n12_; have NB216_212 := n13_; have NB213_216 := n14_; have NB216_213 := n15_; clear n0_ n1_ n2_ n3_ n4_ n5_ n6_ n7_ n8_ n9_ n10_ n11_ n12_ n13_ n14_ n15_; clear hb hbox hg; have hnb42 := NB216_194.out; have hnc42 := NB194_216.out; have hnb43 := NB216_195.out; have hnc43 := NB195_216.out; have hnb44 := NB216_212.out; have hnc44 := NB212_216.out; have hnb45 := NB216_213.out; have hnc45 := NB213_216.out; have hcz46_0 : w41.cell? ⟨gb216, 0, none⟩ = some (.int .i64 0) := bc BK216 0; have hcz46_1 : w41.cell? ⟨gb216, 1, none⟩ = some (.int .i64 0) := bc BK216 1; have hfz46_0 := blk_frozen BK216.out 0; have hfz46_1 := blk_frozen BK216.out 1))
      (try simp only [Act.put, List.setIfInBounds_toArray, List.set_cons_zero, List.set_cons_succ])
      go_cut [8] (fun v8 wc => ∃ (kq : Nat) (x8_7 : Int), v8 = .int .i64 x8_7 ∧ Aside0 (damperlaw10_ScaleBounds.j0 kq x8_7 t197 t198 t199 t200 t201 t202 t203 t204 t205 t206 t207 t208 t209 t210 t211 t214 t215 = some r) ∧ Aside0 (kq ≤ k) ∧ Aside0 (wc.heap[gb194]? = some (.cells #[.int .i64 a0_0, .int .i64 a0_1, .int .i64 a0_2, .int .i64 a0_3, .int .i64 a0_4, .int .i64 a0_5, .int .i64 a0_6, .int .i64 a0_7, .int .i64 a0_8] 23 (0, 0))) ∧ Aside0 (wc.heap[gb195]? = some (.cells #[.string a1_0, .int .i64 a1_1, .int .i64 a1_2, .int .i64 a1_3, .int .i64 a1_4, .int .i64 a1_5] 25 (0, 0))) ∧ Aside0 (wc.heap[gb212]? = some (.cells #[.int .i64 t197, .int .i64 t198, .int .i64 t199, .int .i64 t200, .int .i64 t201, .int .i64 t202, .int .i64 t203, .int .i64 t204, .int .i64 t205] 23 (0, 0))) ∧ Aside0 (wc.heap[gb213]? = some (.cells #[.string t206, .int .i64 t207, .int .i64 t208, .int .i64 t209, .int .i64 t210, .int .i64 t211] 25 (0, 0))) ∧ Aside0 (wc.heap[gb216]? = some (.cells #[.int .i64 t214, .int .i64 t215] 30 (0, 0))) ∧ Aside0 (Below w.heap.size w wc))
      case first =>
        have H := HC8.out
        clear HC8
        obtain ⟨ji47, hji47⟩ : ∃ j_ : Int, (mx 1 t199) = j_ := ⟨_, rfl⟩
        replace H : (damperlaw10_ScaleBounds.j0 k ji47 t197 t198 t199 t200 t201 t202 t203 t204 t205 t206 t207 t208 t209 t210 t211 t214 t215) = some r := by first | (rw [hji47] at H; exact H) | (simp only [hji47] at H ⊢; exact H)
        (try (have hji47l : 1 ≤ ji47 := by (rw [← hji47]; unfold mx; (repeat' split) <;> omega)))
        (try (have hji47m : 0 ≤ ji47 := by omega))
        have hji47_ : (if 1 < t199 then t199 else 1) = ji47 := hji47
        have H' := Aside0.mk H
        clear H
        have hnb48 := NB212_194.out
        have hnc48 := NB194_212.out
        have hnb49 := NB212_195.out
        have hnc49 := NB195_212.out
        have hnb50 := NB212_213.out
        have hnc50 := NB213_212.out
        have hnb51 := NB212_216.out
        have hnc51 := NB216_212.out
        have hcz52_0 : w41.cell? ⟨gb212, 0, none⟩ = some (.int .i64 t197) := bc BK212 0
        have hcz52_1 : w41.cell? ⟨gb212, 1, none⟩ = some (.int .i64 t198) := bc BK212 1
        have hcz52_2 : w41.cell? ⟨gb212, 2, none⟩ = some (.int .i64 t199) := bc BK212 2
        have hcz52_3 : w41.cell? ⟨gb212, 3, none⟩ = some (.int .i64 t200) := bc BK212 3
        have hcz52_4 : w41.cell? ⟨gb212, 4, none⟩ = some (.int .i64 t201) := bc BK212 4
        have hcz52_5 : w41.cell? ⟨gb212, 5, none⟩ = some (.int .i64 t202) := bc BK212 5
        have hcz52_6 : w41.cell? ⟨gb212, 6, none⟩ = some (.int .i64 t203) := bc BK212 6
        have hcz52_7 : w41.cell? ⟨gb212, 7, none⟩ = some (.int .i64 t204) := bc BK212 7
        have hcz52_8 : w41.cell? ⟨gb212, 8, none⟩ = some (.int .i64 t205) := bc BK212 8
        have hfz52_0 := blk_frozen BK212.out 0
        have hfz52_1 := blk_frozen BK212.out 1
        have hfz52_2 := blk_frozen BK212.out 2
        have hfz52_3 := blk_frozen BK212.out 3
        have hfz52_4 := blk_frozen BK212.out 4
        have hfz52_5 := blk_frozen BK212.out 5
        have hfz52_6 := blk_frozen BK212.out 6
        have hfz52_7 := blk_frozen BK212.out 7
        have hfz52_8 := blk_frozen BK212.out 8
        go_wp2
        go_meet
        case rel => exact ⟨_, (ji47), (by first | rfl | (simp; done) | (simp only [← hji47] <;> (first | rfl | simp)) | (simp [*]; done)), H', ⟨by first | omega | exact Nat.le_refl _⟩, ⟨by (repeat ((with_reducible repeat (first | refine blk_drewN ?_ _ | refine blk_drew ?_ | refine blk_alloc ?_ _)); refine blk_far ?_ NB194_216.out _)); (with_reducible repeat (first | refine blk_drewN ?_ _ | refine blk_drew ?_ | refine blk_alloc ?_ _)); exact BK194.out⟩, ⟨by (repeat ((with_reducible repeat (first | refine blk_drewN ?_ _ | refine blk_drew ?_ | refine blk_alloc ?_ _)); refine blk_far ?_ NB195_216.out _)); (with_reducible repeat (first | refine blk_drewN ?_ _ | refine blk_drew ?_ | refine blk_alloc ?_ _)); exact BK195.out⟩, ⟨by (repeat ((with_reducible repeat (first | refine blk_drewN ?_ _ | refine blk_drew ?_ | refine blk_alloc ?_ _)); refine blk_far ?_ NB212_216.out _)); (with_reducible repeat (first | refine blk_drewN ?_ _ | refine blk_drew ?_ | refine blk_alloc ?_ _)); exact BK212.out⟩, ⟨by (repeat ((with_reducible repeat (first | refine blk_drewN ?_ _ | refine blk_drew ?_ | refine blk_alloc ?_ _)); refine blk_far ?_ NB213_216.out _)); (with_reducible repeat (first | refine blk_drewN ?_ _ | refine blk_drew ?_ | refine blk_alloc ?_ _)); exact BK213.out⟩, ⟨by (with_reducible repeat (first | refine blk_drewN ?_ _ | refine blk_drew ?_ | refine blk_alloc ?_ _)); refine blk_put (cs := #[.int .i64 t214, .int .i64 0]) ?_ 1 _ rfl; refine blk_put (cs := #[.int .i64 0, .int .i64 0]) ?_ 0 _ rfl; (with_reducible repeat (first | refine blk_drewN ?_ _ | refine blk_drew ?_ | refine blk_alloc ?_ _)); exact BK216.out⟩, ⟨by repeat (first | (with_reducible first | exact HB.out | apply below_alloc | apply pw_below_drewN | apply below_drew1 | refine below_set ?_ GE194.out | refine below_set ?_ GE195.out | refine below_set ?_ GE212.out | refine below_set ?_ GE213.out | refine below_set ?_ GE216.out) | exact HB.out)⟩⟩
      case rest =>
        clear HC8
        try clear c1
        try clear p2
        try clear c3
        try clear c4
        try clear c5
        try clear c15
        try clear c16
        try clear c33
        try clear c34
        try clear c35
        try clear c37
        try clear c38
        try clear c42
        try clear c43
        try clear c44
        try clear c45
        try clear c48
        try clear c49
        try clear c50
        try clear c51
        try clear hcz36_0
        try clear hcz36_1
        try clear hcz36_2
        try clear hcz36_3
        try clear hcz36_4
        try clear hcz36_5
        try clear hcz36_6
        try clear hcz36_7
        try clear hcz36_8
        try clear hcz39_0
        try clear hcz39_1
        try clear hcz39_2
        try clear hcz39_3
        try clear hcz39_4
        try clear hcz39_5
        try clear hcz46_0
        try clear hcz46_1
        try clear hcz52_0
        try clear hcz52_1
        try clear hcz52_2
        try clear hcz52_3
        try clear hcz52_4
        try clear hcz52_5
        try clear hcz52_6
        try clear hcz52_7
        try clear hcz52_8
        try clear hfz36_0
        try clear hfz36_1
        try clear hfz36_2
        try clear hfz36_3
        try clear hfz36_4
        try clear hfz36_5
        try clear hfz36_6
        try clear hfz36_7
        try clear hfz36_8
        try clear hfz39_0
        try clear hfz39_1
        try clear hfz39_2
        try clear hfz39_3
        try clear hfz39_4
        try clear hfz39_5
        try clear hfz46_0
        try clear hfz46_1
        try clear hfz52_0
        try clear hfz52_1
        try clear hfz52_2
        try clear hfz52_3
        try clear hfz52_4
        try clear hfz52_5
        try clear hfz52_6
        try clear hfz52_7
        try clear hfz52_8
        obtain ⟨kq, x8_7, rfl, HA, HJ7, BK194, BK195, BK212, BK213, BK216, HB⟩ := hcut
        cases kq with
        | zero => exact absurd HA.out (by simp [damperlaw10_ScaleBounds.j0])
        | succ kj7 =>
          have H := HA.out
          clear HA
          simp only [damperlaw10_ScaleBounds.j0] at H
          by_cases c53 : t214 ≥ t209
          rotate_left
          · rw [if_neg c53] at H
            have c53b0 : decide (t209 ≤ t214) = false := decide_eq_false c53
            clear c53
            exact absurd (Option.some.inj H) (by rw [hr0_.out]; decide)
          rw [if_pos c53] at H
          have c53b0 : decide (t209 ≤ t214) = true := decide_eq_true c53
          clear c53
          by_cases c54 : t214 ≤ t210
          rotate_left
          · rw [if_neg c54] at H
            have c54b0 : decide (t214 ≤ t210) = false := decide_eq_false c54
            clear c54
            exact absurd (Option.some.inj H) (by rw [hr0_.out]; decide)
          rw [if_pos c54] at H
          have c54b0 : decide (t214 ≤ t210) = true := decide_eq_true c54
          clear c54
          by_cases c55 : t214 ≤ (wrap64 (4 * x8_7))
          · rw [if_pos c55] at H
            have c55b0 : decide (t214 ≤ (wrap64 (4 * x8_7))) = true := decide_eq_true c55
            clear c55
            by_cases c56 : t214 ≥ (wrap64 (Int.tdiv t199 2))
            · rw [if_pos c56] at H
              have c56b0 : decide ((wrap64 (Int.tdiv t199 2)) ≤ t214) = true := decide_eq_true c56
              clear c56
              by_cases c57 : t215 ≥ 0
              rotate_left
              · rw [if_neg c57] at H
                have c57b0 : decide (0 ≤ t215) = false := decide_eq_false c57
                clear c57
                exact absurd (Option.some.inj H) (by rw [hr0_.out]; decide)
              rw [if_pos c57] at H
              have c57b0 : decide (0 ≤ t215) = true := decide_eq_true c57
              clear c57
              obtain rfl := Option.some.inj H
              have hnb58 := NB216_194.out
              have hnc58 := NB194_216.out
              have hnb59 := NB216_195.out
              have hnc59 := NB195_216.out
              have hnb60 := NB216_212.out
              have hnc60 := NB212_216.out
              have hnb61 := NB216_213.out
              have hnc61 := NB213_216.out
              have hcz62_0 : wc.cell? ⟨gb216, 0, none⟩ = some (.int .i64 t214) := bc BK216 0
              have hcz62_1 : wc.cell? ⟨gb216, 1, none⟩ = some (.int .i64 t215) := bc BK216 1
              have hfz62_0 := blk_frozen BK216.out 0
              have hfz62_1 := blk_frozen BK216.out 1
              have hnb63 := NB213_194.out
              have hnc63 := NB194_213.out
              have hnb64 := NB213_195.out
              have hnc64 := NB195_213.out
              have hnb65 := NB213_212.out
              have hnc65 := NB212_213.out
              have hcz66_0 : wc.cell? ⟨gb213, 0, none⟩ = some (.string t206) := bc BK213 0
              have hcz66_1 : wc.cell? ⟨gb213, 1, none⟩ = some (.int .i64 t207) := bc BK213 1
              have hcz66_2 : wc.cell? ⟨gb213, 2, none⟩ = some (.int .i64 t208) := bc BK213 2
              have hcz66_3 : wc.cell? ⟨gb213, 3, none⟩ = some (.int .i64 t209) := bc BK213 3
              have hcz66_4 : wc.cell? ⟨gb213, 4, none⟩ = some (.int .i64 t210) := bc BK213 4
              have hcz66_5 : wc.cell? ⟨gb213, 5, none⟩ = some (.int .i64 t211) := bc BK213 5
              have hfz66_0 := blk_frozen BK213.out 0
              have hfz66_1 := blk_frozen BK213.out 1
              have hfz66_2 := blk_frozen BK213.out 2
              have hfz66_3 := blk_frozen BK213.out 3
              have hfz66_4 := blk_frozen BK213.out 4
              have hfz66_5 := blk_frozen BK213.out 5
              have hnb67 := NB212_194.out
              have hnc67 := NB194_212.out
              have hnb68 := NB212_195.out
              have hnc68 := NB195_212.out
              have hcz69_0 : wc.cell? ⟨gb212, 0, none⟩ = some (.int .i64 t197) := bc BK212 0
              have hcz69_1 : wc.cell? ⟨gb212, 1, none⟩ = some (.int .i64 t198) := bc BK212 1
              have hcz69_2 : wc.cell? ⟨gb212, 2, none⟩ = some (.int .i64 t199) := bc BK212 2
              have hcz69_3 : wc.cell? ⟨gb212, 3, none⟩ = some (.int .i64 t200) := bc BK212 3
              have hcz69_4 : wc.cell? ⟨gb212, 4, none⟩ = some (.int .i64 t201) := bc BK212 4
              have hcz69_5 : wc.cell? ⟨gb212, 5, none⟩ = some (.int .i64 t202) := bc BK212 5
              have hcz69_6 : wc.cell? ⟨gb212, 6, none⟩ = some (.int .i64 t203) := bc BK212 6
              have hcz69_7 : wc.cell? ⟨gb212, 7, none⟩ = some (.int .i64 t204) := bc BK212 7
              have hcz69_8 : wc.cell? ⟨gb212, 8, none⟩ = some (.int .i64 t205) := bc BK212 8
              have hfz69_0 := blk_frozen BK212.out 0
              have hfz69_1 := blk_frozen BK212.out 1
              have hfz69_2 := blk_frozen BK212.out 2
              have hfz69_3 := blk_frozen BK212.out 3
              have hfz69_4 := blk_frozen BK212.out 4
              have hfz69_5 := blk_frozen BK212.out 5
              have hfz69_6 := blk_frozen BK212.out 6
              have hfz69_7 := blk_frozen BK212.out 7
              have hfz69_8 := blk_frozen BK212.out 8
              go_wp2
              go_ret
              exact ⟨by first | rfl | (simp [errW_none, errW_some] <;> rfl) | (simp [*, errW_none, errW_some] <;> rfl), by repeat (first | (with_reducible first | exact HB.out | apply below_alloc | apply pw_below_drewN | apply below_drew1 | refine below_set ?_ GE194.out | refine below_set ?_ GE195.out | refine below_set ?_ GE212.out | refine below_set ?_ GE213.out | refine below_set ?_ GE216.out) | exact HB.out)⟩
            · rw [if_neg c56] at H
              have c56b0 : decide ((wrap64 (Int.tdiv t199 2)) ≤ t214) = false := decide_eq_false c56
              clear c56
              by_cases c70 : t214 = t210
              rotate_left
              · rw [if_neg c70] at H
                have c70b0 : (t214 == t210) = false := beq_eq_false_iff_ne.mpr c70
                have c70b1 : (t214 != t210) = true := bne_iff_ne.mpr c70
                exact absurd (Option.some.inj H) (by rw [hr0_.out]; decide)
              rw [if_pos c70] at H
              have c70b0 : (t214 == t210) = true := beq_iff_eq.mpr c70
              have c70b1 : (t214 != t210) = false := bne_eq_false_iff_eq.mpr c70
              clear c70
              by_cases c71 : t215 ≥ 0
              rotate_left
              · rw [if_neg c71] at H
                have c71b0 : decide (0 ≤ t215) = false := decide_eq_false c71
                clear c71
                exact absurd (Option.some.inj H) (by rw [hr0_.out]; decide)
              rw [if_pos c71] at H
              have c71b0 : decide (0 ≤ t215) = true := decide_eq_true c71
              clear c71
              obtain rfl := Option.some.inj H
              have hnb72 := NB216_194.out
              have hnc72 := NB194_216.out
              have hnb73 := NB216_195.out
              have hnc73 := NB195_216.out
              have hnb74 := NB216_212.out
              have hnc74 := NB212_216.out
              have hnb75 := NB216_213.out
              have hnc75 := NB213_216.out
              have hcz76_0 : wc.cell? ⟨gb216, 0, none⟩ = some (.int .i64 t214) := bc BK216 0
              have hcz76_1 : wc.cell? ⟨gb216, 1, none⟩ = some (.int .i64 t215) := bc BK216 1
              have hfz76_0 := blk_frozen BK216.out 0
              have hfz76_1 := blk_frozen BK216.out 1
              have hnb77 := NB213_194.out
              have hnc77 := NB194_213.out
              have hnb78 := NB213_195.out
              have hnc78 := NB195_213.out
              have hnb79 := NB213_212.out
              have hnc79 := NB212_213.out
              have hcz80_0 : wc.cell? ⟨gb213, 0, none⟩ = some (.string t206) := bc BK213 0
              have hcz80_1 : wc.cell? ⟨gb213, 1, none⟩ = some (.int .i64 t207) := bc BK213 1
              have hcz80_2 : wc.cell? ⟨gb213, 2, none⟩ = some (.int .i64 t208) := bc BK213 2
              have hcz80_3 : wc.cell? ⟨gb213, 3, none⟩ = some (.int .i64 t209) := bc BK213 3
              have hcz80_4 : wc.cell? ⟨gb213, 4, none⟩ = some (.int .i64 t210) := bc BK213 4
              have hcz80_5 : wc.cell? ⟨gb213, 5, none⟩ = some (.int .i64 t211) := bc BK213 5
              have hfz80_0 := blk_frozen BK213.out 0
              have hfz80_1 := blk_frozen BK213.out 1
              have hfz80_2 := blk_frozen BK213.out 2
              have hfz80_3 := blk_frozen BK213.out 3
              have hfz80_4 := blk_frozen BK213.out 4
              have hfz80_5 := blk_frozen BK213.out 5
              have hnb81 := NB212_194.out
              have hnc81 := NB194_212.out
              have hnb82 := NB212_195.out
              have hnc82 := NB195_212.out
              have hcz83_0 : wc.cell? ⟨gb212, 0, none⟩ = some (.int .i64 t197) := bc BK212 0
              have hcz83_1 : wc.cell? ⟨gb212, 1, none⟩ = some (.int .i64 t198) := bc BK212 1
              have hcz83_2 : wc.cell? ⟨gb212, 2, none⟩ = some (.int .i64 t199) := bc BK212 2
              have hcz83_3 : wc.cell? ⟨gb212, 3, none⟩ = some (.int .i64 t200) := bc BK212 3
              have hcz83_4 : wc.cell? ⟨gb212, 4, none⟩ = some (.int .i64 t201) := bc BK212 4
              have hcz83_5 : wc.cell? ⟨gb212, 5, none⟩ = some (.int .i64 t202) := bc BK212 5
              have hcz83_6 : wc.cell? ⟨gb212, 6, none⟩ = some (.int .i64 t203) := bc BK212 6
              have hcz83_7 : wc.cell? ⟨gb212, 7, none⟩ = some (.int .i64 t204) := bc BK212 7
              have hcz83_8 : wc.cell? ⟨gb212, 8, none⟩ = some (.int .i64 t205) := bc BK212 8
              have hfz83_0 := blk_frozen BK212.out 0
              have hfz83_1 := blk_frozen BK212.out 1
              have hfz83_2 := blk_frozen BK212.out 2
              have hfz83_3 := blk_frozen BK212.out 3
              have hfz83_4 := blk_frozen BK212.out 4
              have hfz83_5 := blk_frozen BK212.out 5
              have hfz83_6 := blk_frozen BK212.out 6
              have hfz83_7 := blk_frozen BK212.out 7
              have hfz83_8 := blk_frozen BK212.out 8
              go_wp2
              go_ret
              exact ⟨by first | rfl | (simp [errW_none, errW_some] <;> rfl) | (simp [*, errW_none, errW_some] <;> rfl), by repeat (first | (with_reducible first | exact HB.out | apply below_alloc | apply pw_below_drewN | apply below_drew1 | refine below_set ?_ GE194.out | refine below_set ?_ GE195.out | refine below_set ?_ GE212.out | refine below_set ?_ GE213.out | refine below_set ?_ GE216.out) | exact HB.out)⟩
          · rw [if_neg c55] at H
            have c55b0 : decide (t214 ≤ (wrap64 (4 * x8_7))) = false := decide_eq_false c55
            clear c55
            by_cases c84 : t214 = t209
            rotate_left
            · rw [if_neg c84] at H
              have c84b0 : (t214 == t209) = false := beq_eq_false_iff_ne.mpr c84
              have c84b1 : (t214 != t209) = true := bne_iff_ne.mpr c84
              exact absurd (Option.some.inj H) (by rw [hr0_.out]; decide)
            rw [if_pos c84] at H
            have c84b0 : (t214 == t209) = true := beq_iff_eq.mpr c84
            have c84b1 : (t214 != t209) = false := bne_eq_false_iff_eq.mpr c84
            clear c84
            by_cases c85 : t214 ≥ (wrap64 (Int.tdiv t199 2))
            · rw [if_pos c85] at H
              have c85b0 : decide ((wrap64 (Int.tdiv t199 2)) ≤ t214) = true := decide_eq_true c85
              clear c85
              by_cases c86 : t215 ≥ 0
              rotate_left
              · rw [if_neg c86] at H
                have c86b0 : decide (0 ≤ t215) = false := decide_eq_false c86
                clear c86
                exact absurd (Option.some.inj H) (by rw [hr0_.out]; decide)
              rw [if_pos c86] at H
              have c86b0 : decide (0 ≤ t215) = true := decide_eq_true c86
              clear c86
              obtain rfl := Option.some.inj H
              have hnb87 := NB216_194.out
              have hnc87 := NB194_216.out
              have hnb88 := NB216_195.out
              have hnc88 := NB195_216.out
              have hnb89 := NB216_212.out
              have hnc89 := NB212_216.out
              have hnb90 := NB216_213.out
              have hnc90 := NB213_216.out
              have hcz91_0 : wc.cell? ⟨gb216, 0, none⟩ = some (.int .i64 t214) := bc BK216 0
              have hcz91_1 : wc.cell? ⟨gb216, 1, none⟩ = some (.int .i64 t215) := bc BK216 1
              have hfz91_0 := blk_frozen BK216.out 0
              have hfz91_1 := blk_frozen BK216.out 1
              have hnb92 := NB213_194.out
              have hnc92 := NB194_213.out
              have hnb93 := NB213_195.out
              have hnc93 := NB195_213.out
              have hnb94 := NB213_212.out
              have hnc94 := NB212_213.out
              have hcz95_0 : wc.cell? ⟨gb213, 0, none⟩ = some (.string t206) := bc BK213 0
              have hcz95_1 : wc.cell? ⟨gb213, 1, none⟩ = some (.int .i64 t207) := bc BK213 1
              have hcz95_2 : wc.cell? ⟨gb213, 2, none⟩ = some (.int .i64 t208) := bc BK213 2
              have hcz95_3 : wc.cell? ⟨gb213, 3, none⟩ = some (.int .i64 t209) := bc BK213 3
              have hcz95_4 : wc.cell? ⟨gb213, 4, none⟩ = some (.int .i64 t210) := bc BK213 4
              have hcz95_5 : wc.cell? ⟨gb213, 5, none⟩ = some (.int .i64 t211) := bc BK213 5
              have hfz95_0 := blk_frozen BK213.out 0
              have hfz95_1 := blk_frozen BK213.out 1
              have hfz95_2 := blk_frozen BK213.out 2
              have hfz95_3 := blk_frozen BK213.out 3
              have hfz95_4 := blk_frozen BK213.out 4
              have hfz95_5 := blk_frozen BK213.out 5
              have hnb96 := NB212_194.out
              have hnc96 := NB194_212.out
              have hnb97 := NB212_195.out
              have hnc97 := NB195_212.out
              have hcz98_0 : wc.cell? ⟨gb212, 0, none⟩ = some (.int .i64 t197) := bc BK212 0
              have hcz98_1 : wc.cell? ⟨gb212, 1, none⟩ = some (.int .i64 t198) := bc BK212 1
              have hcz98_2 : wc.cell? ⟨gb212, 2, none⟩ = some (.int .i64 t199) := bc BK212 2
              have hcz98_3 : wc.cell? ⟨gb212, 3, none⟩ = some (.int .i64 t200) := bc BK212 3
              have hcz98_4 : wc.cell? ⟨gb212, 4, none⟩ = some (.int .i64 t201) := bc BK212 4
              have hcz98_5 : wc.cell? ⟨gb212, 5, none⟩ = some (.int .i64 t202) := bc BK212 5
              have hcz98_6 : wc.cell? ⟨gb212, 6, none⟩ = some (.int .i64 t203) := bc BK212 6
              have hcz98_7 : wc.cell? ⟨gb212, 7, none⟩ = some (.int .i64 t204) := bc BK212 7
              have hcz98_8 : wc.cell? ⟨gb212, 8, none⟩ = some (.int .i64 t205) := bc BK212 8
              have hfz98_0 := blk_frozen BK212.out 0
              have hfz98_1 := blk_frozen BK212.out 1
              have hfz98_2 := blk_frozen BK212.out 2
              have hfz98_3 := blk_frozen BK212.out 3
              have hfz98_4 := blk_frozen BK212.out 4
              have hfz98_5 := blk_frozen BK212.out 5
              have hfz98_6 := blk_frozen BK212.out 6
              have hfz98_7 := blk_frozen BK212.out 7
              have hfz98_8 := blk_frozen BK212.out 8
              go_wp2
              go_ret
              exact ⟨by first | rfl | (simp [errW_none, errW_some] <;> rfl) | (simp [*, errW_none, errW_some] <;> rfl), by repeat (first | (with_reducible first | exact HB.out | apply below_alloc | apply pw_below_drewN | apply below_drew1 | refine below_set ?_ GE194.out | refine below_set ?_ GE195.out | refine below_set ?_ GE212.out | refine below_set ?_ GE213.out | refine below_set ?_ GE216.out) | exact HB.out)⟩
            · rw [if_neg c85] at H
              have c85b0 : decide ((wrap64 (Int.tdiv t199 2)) ≤ t214) = false := decide_eq_false c85
              clear c85
              by_cases c99 : t214 = t210
              rotate_left
              · rw [if_neg c99] at H
                have c99b0 : (t214 == t210) = false := beq_eq_false_iff_ne.mpr c99
                have c99b1 : (t214 != t210) = true := bne_iff_ne.mpr c99
                exact absurd (Option.some.inj H) (by rw [hr0_.out]; decide)
              rw [if_pos c99] at H
              have c99b0 : (t214 == t210) = true := beq_iff_eq.mpr c99
              have c99b1 : (t214 != t210) = false := bne_eq_false_iff_eq.mpr c99
              clear c99
              by_cases c100 : t215 ≥ 0
              rotate_left
              · rw [if_neg c100] at H
                have c100b0 : decide (0 ≤ t215) = false := decide_eq_false c100
                clear c100
                exact absurd (Option.some.inj H) (by rw [hr0_.out]; decide)
              rw [if_pos c100] at H
              have c100b0 : decide (0 ≤ t215) = true := decide_eq_true c100
              clear c100
              obtain rfl := Option.some.inj H
              have hnb101 := NB216_194.out
              have hnc101 := NB194_216.out
              have hnb102 := NB216_195.out
              have hnc102 := NB195_216.out
              have hnb103 := NB216_212.out
              have hnc103 := NB212_216.out
              have hnb104 := NB216_213.out
              have hnc104 := NB213_216.out
              have hcz105_0 : wc.cell? ⟨gb216, 0, none⟩ = some (.int .i64 t214) := bc BK216 0
              have hcz105_1 : wc.cell? ⟨gb216, 1, none⟩ = some (.int .i64 t215) := bc BK216 1
              have hfz105_0 := blk_frozen BK216.out 0
              have hfz105_1 := blk_frozen BK216.out 1
              have hnb106 := NB213_194.out
              have hnc106 := NB194_213.out
              have hnb107 := NB213_195.out
              have hnc107 := NB195_213.out
              have hnb108 := NB213_212.out
              have hnc108 := NB212_213.out
              have hcz109_0 : wc.cell? ⟨gb213, 0, none⟩ = some (.string t206) := bc BK213 0
              have hcz109_1 : wc.cell? ⟨gb213, 1, none⟩ = some (.int .i64 t207) := bc BK213 1
              have hcz109_2 : wc.cell? ⟨gb213, 2, none⟩ = some (.int .i64 t208) := bc BK213 2
              have hcz109_3 : wc.cell? ⟨gb213, 3, none⟩ = some (.int .i64 t209) := bc BK213 3
              have hcz109_4 : wc.cell? ⟨gb213, 4, none⟩ = some (.int .i64 t210) := bc BK213 4
              have hcz109_5 : wc.cell? ⟨gb213, 5, none⟩ = some (.int .i64 t211) := bc BK213 5
              have hfz109_0 := blk_frozen BK213.out 0
              have hfz109_1 := blk_frozen BK213.out 1
              have hfz109_2 := blk_frozen BK213.out 2
              have hfz109_3 := blk_frozen BK213.out 3
              have hfz109_4 := blk_frozen BK213.out 4
              have hfz109_5 := blk_frozen BK213.out 5
              have hnb110 := NB212_194.out
              have hnc110 := NB194_212.out
              have hnb111 := NB212_195.out
              have hnc111 := NB195_212.out
              have hcz112_0 : wc.cell? ⟨gb212, 0, none⟩ = some (.int .i64 t197) := bc BK212 0
              have hcz112_1 : wc.cell? ⟨gb212, 1, none⟩ = some (.int .i64 t198) := bc BK212 1
              have hcz112_2 : wc.cell? ⟨gb212, 2, none⟩ = some (.int .i64 t199) := bc BK212 2
              have hcz112_3 : wc.cell? ⟨gb212, 3, none⟩ = some (.int .i64 t200) := bc BK212 3
              have hcz112_4 : wc.cell? ⟨gb212, 4, none⟩ = some (.int .i64 t201) := bc BK212 4
              have hcz112_5 : wc.cell? ⟨gb212, 5, none⟩ = some (.int .i64 t202) := bc BK212 5
              have hcz112_6 : wc.cell? ⟨gb212, 6, none⟩ = some (.int .i64 t203) := bc BK212 6
              have hcz112_7 : wc.cell? ⟨gb212, 7, none⟩ = some (.int .i64 t204) := bc BK212 7
              have hcz112_8 : wc.cell? ⟨gb212, 8, none⟩ = some (.int .i64 t205) := bc BK212 8
              have hfz112_0 := blk_frozen BK212.out 0
              have hfz112_1 := blk_frozen BK212.out 1
              have hfz112_2 := blk_frozen BK212.out 2
              have hfz112_3 := blk_frozen BK212.out 3
              have hfz112_4 := blk_frozen BK212.out 4
              have hfz112_5 := blk_frozen BK212.out 5
              have hfz112_6 := blk_frozen BK212.out 6
              have hfz112_7 := blk_frozen BK212.out 7
              have hfz112_8 := blk_frozen BK212.out 8
              go_wp2
              go_ret
              exact ⟨by first | rfl | (simp [errW_none, errW_some] <;> rfl) | (simp [*, errW_none, errW_some] <;> rfl), by repeat (first | (with_reducible first | exact HB.out | apply below_alloc | apply pw_below_drewN | apply below_drew1 | refine below_set ?_ GE194.out | refine below_set ?_ GE195.out | refine below_set ?_ GE212.out | refine below_set ?_ GE213.out | refine below_set ?_ GE216.out) | exact HB.out)⟩
    intro hJ1_3_4_5
    refine join_ (σ := Nat) 3 #[true, true, true, true, true, false, false, false] (fun s_ => [(12, .agg #[.int .i64 t197, .int .i64 t198, .int .i64 t199, .int .i64 t200, .int .i64 t201, .int .i64 t202, .int .i64 t203, .int .i64 t204, .int .i64 t205]), (14, .agg #[.string t206, .int .i64 t207, .int .i64 t208, .int .i64 t209, .int .i64 t210, .int .i64 t211]), (5, .pointer (some ⟨s_, 0, none⟩))]) (fun s_ w' => (w'.cell? ⟨gb194, 0, none⟩ = some (.int .i64 a0_0) ∧ w'.cell? ⟨gb194, 1, none⟩ = some (.int .i64 a0_1) ∧ w'.cell? ⟨gb194, 2, none⟩ = some (.int .i64 a0_2) ∧ w'.cell? ⟨gb194, 3, none⟩ = some (.int .i64 a0_3) ∧ w'.cell? ⟨gb194, 4, none⟩ = some (.int .i64 a0_4) ∧ w'.cell? ⟨gb194, 5, none⟩ = some (.int .i64 a0_5) ∧ w'.cell? ⟨gb194, 6, none⟩ = some (.int .i64 a0_6) ∧ w'.cell? ⟨gb194, 7, none⟩ = some (.int .i64 a0_7) ∧ w'.cell? ⟨gb194, 8, none⟩ = some (.int .i64 a0_8) ∧ w'.cell? ⟨gb195, 0, none⟩ = some (.string a1_0) ∧ w'.cell? ⟨gb195, 1, none⟩ = some (.int .i64 a1_1) ∧ w'.cell? ⟨gb195, 2, none⟩ = some (.int .i64 a1_2) ∧ w'.cell? ⟨gb195, 3, none⟩ = some (.int .i64 a1_3) ∧ w'.cell? ⟨gb195, 4, none⟩ = some (.int .i64 a1_4) ∧ w'.cell? ⟨gb195, 5, none⟩ = some (.int .i64 a1_5)) ∧ (w'.heap[gb194]? = some (.cells #[.int .i64 a0_0, .int .i64 a0_1, .int .i64 a0_2, .int .i64 a0_3, .int .i64 a0_4, .int .i64 a0_5, .int .i64 a0_6, .int .i64 a0_7, .int .i64 a0_8] 23 (0, 0))) ∧ (w'.heap[gb195]? = some (.cells #[.string a1_0, .int .i64 a1_1, .int .i64 a1_2, .int .i64 a1_3, .int .i64 a1_4, .int .i64 a1_5] 25 (0, 0))) ∧ (w'.heap[s_]? = some (.cells #[.int .i64 0, .int .i64 0, .int .i64 0, .int .i64 0, .int .i64 0, .int .i64 0, .int .i64 0, .int .i64 0, .int .i64 0] 23 (0, 0))) ∧ (w.heap.size ≤ s_) ∧ (w.heap.size ≤ s_) ∧ (gb194 ≠ s_) ∧ (s_ ≠ gb194) ∧ (gb195 ≠ s_) ∧ (s_ ≠ gb195) ∧ (Below w.heap.size w w')) ?_ ?_
    rotate_left
    · intro hJ1_3_4
      refine join_ (σ := Nat) 3 #[true, true, true, true, false, true, false, false] (fun s_ => [(12, .agg #[.int .i64 t197, .int .i64 t198, .int .i64 t199, .int .i64 t200, .int .i64 t201, .int .i64 t202, .int .i64 t203, .int .i64 t204, .int .i64 t205]), (14, .agg #[.string t206, .int .i64 t207, .int .i64 t208, .int .i64 t209, .int .i64 t210, .int .i64 t211]), (6, .pointer (some ⟨s_, 0, none⟩))]) (fun s_ w' => (w'.cell? ⟨gb194, 0, none⟩ = some (.int .i64 a0_0) ∧ w'.cell? ⟨gb194, 1, none⟩ = some (.int .i64 a0_1) ∧ w'.cell? ⟨gb194, 2, none⟩ = some (.int .i64 a0_2) ∧ w'.cell? ⟨gb194, 3, none⟩ = some (.int .i64 a0_3) ∧ w'.cell? ⟨gb194, 4, none⟩ = some (.int .i64 a0_4) ∧ w'.cell? ⟨gb194, 5, none⟩ = some (.int .i64 a0_5) ∧ w'.cell? ⟨gb194, 6, none⟩ = some (.int .i64 a0_6) ∧ w'.cell? ⟨gb194, 7, none⟩ = some (.int .i64 a0_7) ∧ w'.cell? ⟨gb194, 8, none⟩ = some (.int .i64 a0_8) ∧ w'.cell? ⟨gb195, 0, none⟩ = some (.string a1_0) ∧ w'.cell? ⟨gb195, 1, none⟩ = some (.int .i64 a1_1) ∧ w'.cell? ⟨gb195, 2, none⟩ = some (.int .i64 a1_2) ∧ w'.cell? ⟨gb195, 3, none⟩ = some (.int .i64 a1_3) ∧ w'.cell? ⟨gb195, 4, none⟩ = some (.int .i64 a1_4) ∧ w'.cell? ⟨gb195, 5, none⟩ = some (.int .i64 a1_5)) ∧ (w'.heap[gb194]? = some (.cells #[.int .i64 a0_0, .int .i64 a0_1, .int .i64 a0_2, .int .i64 a0_3, .int .i64 a0_4, .int .i64 a0_5, .int .i64 a0_6, .int .i64 a0_7, .int .i64 a0_8] 23 (0, 0))) ∧ (w'.heap[gb195]? = some (.cells #[.string a1_0, .int .i64 a1_1, .int .i64 a1_2, .int .i64 a1_3, .int .i64 a1_4, .int .i64 a1_5] 25 (0, 0))) ∧ (w'.heap[s_]? = some (.cells #[.string (⟨#[]⟩ : ByteArray), .int .i64 0, .int .i64 0, .int .i64 0, .int .i64 0, .int .i64 0] 25 (0, 0))) ∧ (w.heap.size ≤ s_) ∧ (w.heap.size ≤ s_) ∧ (gb194 ≠ s_) ∧ (s_ ≠ gb194) ∧ (gb195 ≠ s_) ∧ (s_ ≠ gb195) ∧ (Below w.heap.size w w')) ?_ ?_
      rotate_left
      · intro hJ1_3_5
        refine join_ (σ := Nat × Nat) 3 #[true, true, true, false, true, true, false, false] (fun s_ => [(12, .agg #[.int .i64 t197, .int .i64 t198, .int .i64 t199, .int .i64 t200, .int .i64 t201, .int .i64 t202, .int .i64 t203, .int .i64 t204, .int .i64 t205]), (5, .pointer (some ⟨s_.1, 0, none⟩)), (6, .pointer (some ⟨s_.2, 0, none⟩))]) (fun s_ w' => (w'.cell? ⟨gb194, 0, none⟩ = some (.int .i64 a0_0) ∧ w'.cell? ⟨gb194, 1, none⟩ = some (.int .i64 a0_1) ∧ w'.cell? ⟨gb194, 2, none⟩ = some (.int .i64 a0_2) ∧ w'.cell? ⟨gb194, 3, none⟩ = some (.int .i64 a0_3) ∧ w'.cell? ⟨gb194, 4, none⟩ = some (.int .i64 a0_4) ∧ w'.cell? ⟨gb194, 5, none⟩ = some (.int .i64 a0_5) ∧ w'.cell? ⟨gb194, 6, none⟩ = some (.int .i64 a0_6) ∧ w'.cell? ⟨gb194, 7, none⟩ = some (.int .i64 a0_7) ∧ w'.cell? ⟨gb194, 8, none⟩ = some (.int .i64 a0_8) ∧ w'.cell? ⟨gb195, 0, none⟩ = some (.string a1_0) ∧ w'.cell? ⟨gb195, 1, none⟩ = some (.int .i64 a1_1) ∧ w'.cell? ⟨gb195, 2, none⟩ = some (.int .i64 a1_2) ∧ w'.cell? ⟨gb195, 3, none⟩ = some (.int .i64 a1_3) ∧ w'.cell? ⟨gb195, 4, none⟩ = some (.int .i64 a1_4) ∧ w'.cell? ⟨gb195, 5, none⟩ = some (.int .i64 a1_5)) ∧ (w'.heap[gb194]? = some (.cells #[.int .i64 a0_0, .int .i64 a0_1, .int .i64 a0_2, .int .i64 a0_3, .int .i64 a0_4, .int .i64 a0_5, .int .i64 a0_6, .int .i64 a0_7, .int .i64 a0_8] 23 (0, 0))) ∧ (w'.heap[gb195]? = some (.cells #[.string a1_0, .int .i64 a1_1, .int .i64 a1_2, .int .i64 a1_3, .int .i64 a1_4, .int .i64 a1_5] 25 (0, 0))) ∧ (w'.heap[s_.1]? = some (.cells #[.int .i64 0, .int .i64 0, .int .i64 0, .int .i64 0, .int .i64 0, .int .i64 0, .int .i64 0, .int .i64 0, .int .i64 0] 23 (0, 0))) ∧ (w'.heap[s_.2]? = some (.cells #[.string (⟨#[]⟩ : ByteArray), .int .i64 0, .int .i64 0, .int .i64 0, .int .i64 0, .int .i64 0] 25 (0, 0))) ∧ (w.heap.size ≤ s_.1) ∧ (w.heap.size ≤ s_.1) ∧ (gb194 ≠ s_.1) ∧ (s_.1 ≠ gb194) ∧ (gb195 ≠ s_.1) ∧ (s_.1 ≠ gb195) ∧ (s_.2 ≠ s_.1) ∧ (s_.1 ≠ s_.2) ∧ (w.heap.size ≤ s_.2) ∧ (w.heap.size ≤ s_.2) ∧ (gb194 ≠ s_.2) ∧ (s_.2 ≠ gb194) ∧ (gb195 ≠ s_.2) ∧ (s_.2 ≠ gb195) ∧ (Below w.heap.size w w')) ?_ ?_
        rotate_left
        · intro hJ1_4_5
          refine join_ (σ := Unit) 4 #[true, true, true, true, false, false, false, false] (fun s_ => [(12, .agg #[.int .i64 t197, .int .i64 t198, .int .i64 t199, .int .i64 t200, .int .i64 t201, .int .i64 t202, .int .i64 t203, .int .i64 t204, .int .i64 t205]), (14, .agg #[.string t206, .int .i64 t207, .int .i64 t208, .int .i64 t209, .int .i64 t210, .int .i64 t211])]) (fun s_ w' => (w'.cell? ⟨gb194, 0, none⟩ = some (.int .i64 a0_0) ∧ w'.cell? ⟨gb194, 1, none⟩ = some (.int .i64 a0_1) ∧ w'.cell? ⟨gb194, 2, none⟩ = some (.int .i64 a0_2) ∧ w'.cell? ⟨gb194, 3, none⟩ = some (.int .i64 a0_3) ∧ w'.cell? ⟨gb194, 4, none⟩ = some (.int .i64 a0_4) ∧ w'.cell? ⟨gb194, 5, none⟩ = some (.int .i64 a0_5) ∧ w'.cell? ⟨gb194, 6, none⟩ = some (.int .i64 a0_6) ∧ w'.cell? ⟨gb194, 7, none⟩ = some (.int .i64 a0_7) ∧ w'.cell? ⟨gb194, 8, none⟩ = some (.int .i64 a0_8) ∧ w'.cell? ⟨gb195, 0, none⟩ = some (.string a1_0) ∧ w'.cell? ⟨gb195, 1, none⟩ = some (.int .i64 a1_1) ∧ w'.cell? ⟨gb195, 2, none⟩ = some (.int .i64 a1_2) ∧ w'.cell? ⟨gb195, 3, none⟩ = some (.int .i64 a1_3) ∧ w'.cell? ⟨gb195, 4, none⟩ = some (.int .i64 a1_4) ∧ w'.cell? ⟨gb195, 5, none⟩ = some (.int .i64 a1_5)) ∧ (w'.heap[gb194]? = some (.cells #[.int .i64 a0_0, .int .i64 a0_1, .int .i64 a0_2, .int .i64 a0_3, .int .i64 a0_4, .int .i64 a0_5, .int .i64 a0_6, .int .i64 a0_7, .int .i64 a0_8] 23 (0, 0))) ∧ (w'.heap[gb195]? = some (.cells #[.string a1_0, .int .i64 a1_1, .int .i64 a1_2, .int .i64 a1_3, .int .i64 a1_4, .int .i64 a1_5] 25 (0, 0))) ∧ (Below w.heap.size w w')) ?_ ?_
          rotate_left
          · intro hJ1_3
            refine join_ (σ := Nat) 4 #[true, true, true, false, true, false, false, false] (fun s_ => [(12, .agg #[.int .i64 t197, .int .i64 t198, .int .i64 t199, .int .i64 t200, .int .i64 t201, .int .i64 t202, .int .i64 t203, .int .i64 t204, .int .i64 t205]), (5, .pointer (some ⟨s_, 0, none⟩))]) (fun s_ w' => (w'.cell? ⟨gb194, 0, none⟩ = some (.int .i64 a0_0) ∧ w'.cell? ⟨gb194, 1, none⟩ = some (.int .i64 a0_1) ∧ w'.cell? ⟨gb194, 2, none⟩ = some (.int .i64 a0_2) ∧ w'.cell? ⟨gb194, 3, none⟩ = some (.int .i64 a0_3) ∧ w'.cell? ⟨gb194, 4, none⟩ = some (.int .i64 a0_4) ∧ w'.cell? ⟨gb194, 5, none⟩ = some (.int .i64 a0_5) ∧ w'.cell? ⟨gb194, 6, none⟩ = some (.int .i64 a0_6) ∧ w'.cell? ⟨gb194, 7, none⟩ = some (.int .i64 a0_7) ∧ w'.cell? ⟨gb194, 8, none⟩ = some (.int .i64 a0_8) ∧ w'.cell? ⟨gb195, 0, none⟩ = some (.string a1_0) ∧ w'.cell? ⟨gb195, 1, none⟩ = some (.int .i64 a1_1) ∧ w'.cell? ⟨gb195, 2, none⟩ = some (.int .i64 a1_2) ∧ w'.cell? ⟨gb195, 3, none⟩ = some (.int .i64 a1_3) ∧ w'.cell? ⟨gb195, 4, none⟩ = some (.int .i64 a1_4) ∧ w'.cell? ⟨gb195, 5, none⟩ = some (.int .i64 a1_5)) ∧ (w'.heap[gb194]? = some (.cells #[.int .i64 a0_0, .int .i64 a0_1, .int .i64 a0_2, .int .i64 a0_3, .int .i64 a0_4, .int .i64 a0_5, .int .i64 a0_6, .int .i64 a0_7, .int .i64 a0_8] 23 (0, 0))) ∧ (w'.heap[gb195]? = some (.cells #[.string a1_0, .int .i64 a1_1, .int .i64 a1_2, .int .i64 a1_3, .int .i64 a1_4, .int .i64 a1_5] 25 (0, 0))) ∧ (w'.heap[s_]? = some (.cells #[.int .i64 0, .int .i64 0, .int .i64 0, .int .i64 0, .int .i64 0, .int .i64 0, .int .i64 0, .int .i64 0, .int .i64 0] 23 (0, 0))) ∧ (w.heap.size ≤ s_) ∧ (w.heap.size ≤ s_) ∧ (gb194 ≠ s_) ∧ (s_ ≠ gb194) ∧ (gb195 ≠ s_) ∧ (s_ ≠ gb195) ∧ (Below w.heap.size w w')) ?_ ?_
            rotate_left
            · intro hJ1_4
              refine join_ (σ := Nat) 4 #[true, true, true, false, false, true, false, false] (fun s_ => [(12, .agg #[.int .i64 t197, .int .i64 t198, .int .i64 t199, .int .i64 t200, .int .i64 t201, .int .i64 t202, .int .i64 t203, .int .i64 t204, .int .i64 t205]), (6, .pointer (some ⟨s_, 0, none⟩))]) (fun s_ w' => (w'.cell? ⟨gb194, 0, none⟩ = some (.int .i64 a0_0) ∧ w'.cell? ⟨gb194, 1, none⟩ = some (.int .i64 a0_1) ∧ w'.cell? ⟨gb194, 2, none⟩ = some (.int .i64 a0_2) ∧ w'.cell? ⟨gb194, 3, none⟩ = some (.int .i64 a0_3) ∧ w'.cell? ⟨gb194, 4, none⟩ = some (.int .i64 a0_4) ∧ w'.cell? ⟨gb194, 5, none⟩ = some (.int .i64 a0_5) ∧ w'.cell? ⟨gb194, 6, none⟩ = some (.int .i64 a0_6) ∧ w'.cell? ⟨gb194, 7, none⟩ = some (.int .i64 a0_7) ∧ w'.cell? ⟨gb194, 8, none⟩ = some (.int .i64 a0_8) ∧ w'.cell? ⟨gb195, 0, none⟩ = some (.string a1_0) ∧ w'.cell? ⟨gb195, 1, none⟩ = some (.int .i64 a1_1) ∧ w'.cell? ⟨gb195, 2, none⟩ = some (.int .i64 a1_2) ∧ w'.cell? ⟨gb195, 3, none⟩ = some (.int .i64 a1_3) ∧ w'.cell? ⟨gb195, 4, none⟩ = some (.int .i64 a1_4) ∧ w'.cell? ⟨gb195, 5, none⟩ = some (.int .i64 a1_5)) ∧ (w'.heap[gb194]? = some (.cells #[.int .i64 a0_0, .int .i64 a0_1, .int .i64 a0_2, .int .i64 a0_3, .int .i64 a0_4, .int .i64 a0_5, .int .i64 a0_6, .int .i64 a0_7, .int .i64 a0_8] 23 (0, 0))) ∧ (w'.heap[gb195]? = some (.cells #[.string a1_0, .int .i64 a1_1, .int .i64 a1_2, .int .i64 a1_3, .int .i64 a1_4, .int .i64 a1_5] 25 (0, 0))) ∧ (w'.heap[s_]? = some (.cells #[.string (⟨#[]⟩ : ByteArray), .int .i64 0, .int .i64 0, .int .i64 0, .int .i64 0, .int .i64 0] 25 (0, 0))) ∧ (w.heap.size ≤ s_) ∧ (w.heap.size ≤ s_) ∧ (gb194 ≠ s_) ∧ (s_ ≠ gb194) ∧ (gb195 ≠ s_) ∧ (s_ ≠ gb195) ∧ (Below w.heap.size w w')) ?_ ?_
              rotate_left
              · intro hJ1_5
                refine join_ (σ := Nat × Nat) 4 #[true, false, true, false, true, true, false, false] (fun s_ => [(5, .pointer (some ⟨s_.1, 0, none⟩)), (6, .pointer (some ⟨s_.2, 0, none⟩))]) (fun s_ w' => (w'.cell? ⟨gb194, 0, none⟩ = some (.int .i64 a0_0) ∧ w'.cell? ⟨gb194, 1, none⟩ = some (.int .i64 a0_1) ∧ w'.cell? ⟨gb194, 2, none⟩ = some (.int .i64 a0_2) ∧ w'.cell? ⟨gb194, 3, none⟩ = some (.int .i64 a0_3) ∧ w'.cell? ⟨gb194, 4, none⟩ = some (.int .i64 a0_4) ∧ w'.cell? ⟨gb194, 5, none⟩ = some (.int .i64 a0_5) ∧ w'.cell? ⟨gb194, 6, none⟩ = some (.int .i64 a0_6) ∧ w'.cell? ⟨gb194, 7, none⟩ = some (.int .i64 a0_7) ∧ w'.cell? ⟨gb194, 8, none⟩ = some (.int .i64 a0_8) ∧ w'.cell? ⟨gb195, 0, none⟩ = some (.string a1_0) ∧ w'.cell? ⟨gb195, 1, none⟩ = some (.int .i64 a1_1) ∧ w'.cell? ⟨gb195, 2, none⟩ = some (.int .i64 a1_2) ∧ w'.cell? ⟨gb195, 3, none⟩ = some (.int .i64 a1_3) ∧ w'.cell? ⟨gb195, 4, none⟩ = some (.int .i64 a1_4) ∧ w'.cell? ⟨gb195, 5, none⟩ = some (.int .i64 a1_5)) ∧ (w'.heap[gb194]? = some (.cells #[.int .i64 a0_0, .int .i64 a0_1, .int .i64 a0_2, .int .i64 a0_3, .int .i64 a0_4, .int .i64 a0_5, .int .i64 a0_6, .int .i64 a0_7, .int .i64 a0_8] 23 (0, 0))) ∧ (w'.heap[gb195]? = some (.cells #[.string a1_0, .int .i64 a1_1, .int .i64 a1_2, .int .i64 a1_3, .int .i64 a1_4, .int .i64 a1_5] 25 (0, 0))) ∧ (w'.heap[s_.1]? = some (.cells #[.int .i64 0, .int .i64 0, .int .i64 0, .int .i64 0, .int .i64 0, .int .i64 0, .int .i64 0, .int .i64 0, .int .i64 0] 23 (0, 0))) ∧ (w'.heap[s_.2]? = some (.cells #[.string (⟨#[]⟩ : ByteArray), .int .i64 0, .int .i64 0, .int .i64 0, .int .i64 0, .int .i64 0] 25 (0, 0))) ∧ (w.heap.size ≤ s_.1) ∧ (w.heap.size ≤ s_.1) ∧ (gb194 ≠ s_.1) ∧ (s_.1 ≠ gb194) ∧ (gb195 ≠ s_.1) ∧ (s_.1 ≠ gb195) ∧ (s_.2 ≠ s_.1) ∧ (s_.1 ≠ s_.2) ∧ (w.heap.size ≤ s_.2) ∧ (w.heap.size ≤ s_.2) ∧ (gb194 ≠ s_.2) ∧ (s_.2 ≠ gb194) ∧ (gb195 ≠ s_.2) ∧ (s_.2 ≠ gb195) ∧ (Below w.heap.size w w')) ?_ ?_
                rotate_left
                · intro hJ4_5
                  refine join_ (σ := Unit) 5 #[true, true, true, false, false, false, false, false] (fun s_ => [(12, .agg #[.int .i64 t197, .int .i64 t198, .int .i64 t199, .int .i64 t200, .int .i64 t201, .int .i64 t202, .int .i64 t203, .int .i64 t204, .int .i64 t205])]) (fun s_ w' => (w'.cell? ⟨gb194, 0, none⟩ = some (.int .i64 a0_0) ∧ w'.cell? ⟨gb194, 1, none⟩ = some (.int .i64 a0_1) ∧ w'.cell? ⟨gb194, 2, none⟩ = some (.int .i64 a0_2) ∧ w'.cell? ⟨gb194, 3, none⟩ = some (.int .i64 a0_3) ∧ w'.cell? ⟨gb194, 4, none⟩ = some (.int .i64 a0_4) ∧ w'.cell? ⟨gb194, 5, none⟩ = some (.int .i64 a0_5) ∧ w'.cell? ⟨gb194, 6, none⟩ = some (.int .i64 a0_6) ∧ w'.cell? ⟨gb194, 7, none⟩ = some (.int .i64 a0_7) ∧ w'.cell? ⟨gb194, 8, none⟩ = some (.int .i64 a0_8) ∧ w'.cell? ⟨gb195, 0, none⟩ = some (.string a1_0) ∧ w'.cell? ⟨gb195, 1, none⟩ = some (.int .i64 a1_1) ∧ w'.cell? ⟨gb195, 2, none⟩ = some (.int .i64 a1_2) ∧ w'.cell? ⟨gb195, 3, none⟩ = some (.int .i64 a1_3) ∧ w'.cell? ⟨gb195, 4, none⟩ = some (.int .i64 a1_4) ∧ w'.cell? ⟨gb195, 5, none⟩ = some (.int .i64 a1_5)) ∧ (w'.heap[gb194]? = some (.cells #[.int .i64 a0_0, .int .i64 a0_1, .int .i64 a0_2, .int .i64 a0_3, .int .i64 a0_4, .int .i64 a0_5, .int .i64 a0_6, .int .i64 a0_7, .int .i64 a0_8] 23 (0, 0))) ∧ (w'.heap[gb195]? = some (.cells #[.string a1_0, .int .i64 a1_1, .int .i64 a1_2, .int .i64 a1_3, .int .i64 a1_4, .int .i64 a1_5] 25 (0, 0))) ∧ (Below w.heap.size w w')) ?_ ?_
                  rotate_left
                  · intro hJ1
                    refine join_ (σ := Nat) 5 #[true, false, true, false, true, false, false, false] (fun s_ => [(5, .pointer (some ⟨s_, 0, none⟩))]) (fun s_ w' => (w'.cell? ⟨gb194, 0, none⟩ = some (.int .i64 a0_0) ∧ w'.cell? ⟨gb194, 1, none⟩ = some (.int .i64 a0_1) ∧ w'.cell? ⟨gb194, 2, none⟩ = some (.int .i64 a0_2) ∧ w'.cell? ⟨gb194, 3, none⟩ = some (.int .i64 a0_3) ∧ w'.cell? ⟨gb194, 4, none⟩ = some (.int .i64 a0_4) ∧ w'.cell? ⟨gb194, 5, none⟩ = some (.int .i64 a0_5) ∧ w'.cell? ⟨gb194, 6, none⟩ = some (.int .i64 a0_6) ∧ w'.cell? ⟨gb194, 7, none⟩ = some (.int .i64 a0_7) ∧ w'.cell? ⟨gb194, 8, none⟩ = some (.int .i64 a0_8) ∧ w'.cell? ⟨gb195, 0, none⟩ = some (.string a1_0) ∧ w'.cell? ⟨gb195, 1, none⟩ = some (.int .i64 a1_1) ∧ w'.cell? ⟨gb195, 2, none⟩ = some (.int .i64 a1_2) ∧ w'.cell? ⟨gb195, 3, none⟩ = some (.int .i64 a1_3) ∧ w'.cell? ⟨gb195, 4, none⟩ = some (.int .i64 a1_4) ∧ w'.cell? ⟨gb195, 5, none⟩ = some (.int .i64 a1_5)) ∧ (w'.heap[gb194]? = some (.cells #[.int .i64 a0_0, .int .i64 a0_1, .int .i64 a0_2, .int .i64 a0_3, .int .i64 a0_4, .int .i64 a0_5, .int .i64 a0_6, .int .i64 a0_7, .int .i64 a0_8] 23 (0, 0))) ∧ (w'.heap[gb195]? = some (.cells #[.string a1_0, .int .i64 a1_1, .int .i64 a1_2, .int .i64 a1_3, .int .i64 a1_4, .int .i64 a1_5] 25 (0, 0))) ∧ (w'.heap[s_]? = some (.cells #[.int .i64 0, .int .i64 0, .int .i64 0, .int .i64 0, .int .i64 0, .int .i64 0, .int .i64 0, .int .i64 0, .int .i64 0] 23 (0, 0))) ∧ (w.heap.size ≤ s_) ∧ (w.heap.size ≤ s_) ∧ (gb194 ≠ s_) ∧ (s_ ≠ gb194) ∧ (gb195 ≠ s_) ∧ (s_ ≠ gb195) ∧ (Below w.heap.size w w')) ?_ ?_
                    rotate_left
                    · intro hJ4
                      refine join_ (σ := Nat) 5 #[true, false, true, false, false, true, false, false] (fun s_ => [(6, .pointer (some ⟨s_, 0, none⟩))]) (fun s_ w' => (w'.cell? ⟨gb194, 0, none⟩ = some (.int .i64 a0_0) ∧ w'.cell? ⟨gb194, 1, none⟩ = some (.int .i64 a0_1) ∧ w'.cell? ⟨gb194, 2, none⟩ = some (.int .i64 a0_2) ∧ w'.cell? ⟨gb194, 3, none⟩ = some (.int .i64 a0_3) ∧ w'.cell? ⟨gb194, 4, none⟩ = some (.int .i64 a0_4) ∧ w'.cell? ⟨gb194, 5, none⟩ = some (.int .i64 a0_5) ∧ w'.cell? ⟨gb194, 6, none⟩ = some (.int .i64 a0_6) ∧ w'.cell? ⟨gb194, 7, none⟩ = some (.int .i64 a0_7) ∧ w'.cell? ⟨gb194, 8, none⟩ = some (.int .i64 a0_8) ∧ w'.cell? ⟨gb195, 0, none⟩ = some (.string a1_0) ∧ w'.cell? ⟨gb195, 1, none⟩ = some (.int .i64 a1_1) ∧ w'.cell? ⟨gb195, 2, none⟩ = some (.int .i64 a1_2) ∧ w'.cell? ⟨gb195, 3, none⟩ = some (.int .i64 a1_3) ∧ w'.cell? ⟨gb195, 4, none⟩ = some (.int .i64 a1_4) ∧ w'.cell? ⟨gb195, 5, none⟩ = some (.int .i64 a1_5)) ∧ (w'.heap[gb194]? = some (.cells #[.int .i64 a0_0, .int .i64 a0_1, .int .i64 a0_2, .int .i64 a0_3, .int .i64 a0_4, .int .i64 a0_5, .int .i64 a0_6, .int .i64 a0_7, .int .i64 a0_8] 23 (0, 0))) ∧ (w'.heap[gb195]? = some (.cells #[.string a1_0, .int .i64 a1_1, .int .i64 a1_2, .int .i64 a1_3, .int .i64 a1_4, .int .i64 a1_5] 25 (0, 0))) ∧ (w'.heap[s_]? = some (.cells #[.string (⟨#[]⟩ : ByteArray), .int .i64 0, .int .i64 0, .int .i64 0, .int .i64 0, .int .i64 0] 25 (0, 0))) ∧ (w.heap.size ≤ s_) ∧ (w.heap.size ≤ s_) ∧ (gb194 ≠ s_) ∧ (s_ ≠ gb194) ∧ (gb195 ≠ s_) ∧ (s_ ≠ gb195) ∧ (Below w.heap.size w w')) ?_ ?_
                      rotate_left
                      · intro hJ5
                        refine three_ (i := 1) (j := 4) (k := 5) (Ni := some 12) (Nj := some 5) (Nk := some 6) #[true, true, true, false, false, false, false, false] #[true, false, true, false, true, false, false, false] #[true, false, true, false, false, true, false, false] rfl rfl rfl rfl rfl rfl (three_of HT_.out (by kernel_rfl)) (by decide) (by decide) (by decide) (fun K hK => ?_) (fun K hK => ?_) (fun K hK => ?_)
                        · skip
                          refine goes_ Try.func14 (by kernel_rfl) rfl #[.agg #[.int .i64 a0_0, .int .i64 a0_1, .int .i64 a0_2, .int .i64 a0_3, .int .i64 a0_4, .int .i64 a0_5, .int .i64 a0_6, .int .i64 a0_7, .int .i64 a0_8]] (by rfl) rfl rfl (by (try simp only [List.map_toArray, List.map_cons, List.map_nil]); first | done | rfl | (simp only [List.length_drop, List.length_take]; rfl)) ?_
                          with_reducible refine (damperlaw10_Given_Make.calls a0_0 a0_1 a0_2 a0_3 a0_4 a0_5 a0_6 a0_7 a0_8 t197 t198 t199 t200 t201 t202 t203 t204 t205 _ A5.out).mono ?_
                          rintro e w13 ⟨rfl, hb⟩
                          refine ⟨_, rfl, ?_⟩
                          replace BK194 := Aside0.mk (blk_below (g := gb194) (pk BK194) hb)
                          replace BK195 := Aside0.mk (blk_below (g := gb195) (pk BK195) hb)
                          replace HB := Aside0.mk (below_step (by repeat (first | (with_reducible first | exact HB.out | apply below_alloc | apply pw_below_drewN | apply below_drew1 | refine below_set ?_ GE194.out | refine below_set ?_ GE195.out) | exact HB.out)) hb)
                          (try clear hb)
                          (try clear hb2)
                          (try clear hk)
                          (try clear hi)
                          refine hK.out _ _ ⟨bc BK194 0, bc BK194 1, bc BK194 2, bc BK194 3, bc BK194 4, bc BK194 5, bc BK194 6, bc BK194 7, bc BK194 8, bc BK195 0, bc BK195 1, bc BK195 2, bc BK195 3, bc BK195 4, bc BK195 5⟩ (fun hHeld => ?_)
                          clear hK K
                          refine norm_ (a' := ?_) ?_ ?_
                          rotate_left
                          · show Act.put _ (some 12) _ = _
                            simp only [Act.put, List.setIfInBounds_toArray, List.set_cons_zero, List.set_cons_succ, i64_w, i32_w]
                            rfl
                          exact norm0_ (hJ1 () _ ⟨hHeld, (pk BK194), (pk BK195), (by repeat (first | (with_reducible first | exact HB.out | apply below_alloc | apply pw_below_drewN | apply below_drew1 | refine below_set ?_ GE194.out | refine below_set ?_ GE195.out) | exact HB.out))⟩)
                        · skip
                          refine box_step ?hg (N := 5) ?hd (cs := #[.int .i64 0, .int .i64 0, .int .i64 0, .int .i64 0, .int .i64 0, .int .i64 0, .int .i64 0, .int .i64 0, .int .i64 0]) (t := 23) ?hr ?_; (case hd => rfl); (case hg => rfl); (case hr => first | (go_simp; done) | (go_simp; rfl))
                          intro gb212 hg w13 hbox hb
                          have BK212 := Aside0.mk (hbox)
                          have GW212 := Aside0.mk ((by rw [hg]; exact (below_size (by repeat (first | (with_reducible first | exact HB.out | apply below_alloc | apply pw_below_drewN | apply below_drew1 | refine below_set ?_ GE194.out | refine below_set ?_ GE195.out) | exact HB.out))) : w.heap.size ≤ gb212))
                          have GE212 := GW212
                          have NB194_212 := Aside0.mk ((ne_lt hg (pk BK194) : gb194 ≠ gb212))
                          have NB212_194 := Aside0.mk ((ne_gt hg (pk BK194) : gb212 ≠ gb194))
                          have NB195_212 := Aside0.mk ((ne_lt hg (pk BK195) : gb195 ≠ gb212))
                          have NB212_195 := Aside0.mk ((ne_gt hg (pk BK195) : gb212 ≠ gb195))
                          replace BK194 := Aside0.mk (blk_below (g := gb194) (pk BK194) hb)
                          replace BK195 := Aside0.mk (blk_below (g := gb195) (pk BK195) hb)
                          replace HB := Aside0.mk (below_step (by repeat (first | (with_reducible first | exact HB.out | apply below_alloc | apply pw_below_drewN | apply below_drew1 | refine below_set ?_ GE194.out | refine below_set ?_ GE195.out) | exact HB.out)) hb)
                          clear hb hbox hg
                          refine hK.out _ _ ⟨bc BK194 0, bc BK194 1, bc BK194 2, bc BK194 3, bc BK194 4, bc BK194 5, bc BK194 6, bc BK194 7, bc BK194 8, bc BK195 0, bc BK195 1, bc BK195 2, bc BK195 3, bc BK195 4, bc BK195 5⟩ (fun hHeld => ?_)
                          clear hK K
                          refine norm_ (a' := ?_) ?_ ?_
                          rotate_left
                          · show Act.put _ (some 5) _ = _
                            simp only [Act.put, List.setIfInBounds_toArray, List.set_cons_zero, List.set_cons_succ, i64_w, i32_w]
                            rfl
                          exact norm0_ (hJ4 (gb212) _ ⟨hHeld, (pk BK194), (pk BK195), (pk BK212), GW212.out, GE212.out, NB194_212.out, NB212_194.out, NB195_212.out, NB212_195.out, (by repeat (first | (with_reducible first | exact HB.out | apply below_alloc | apply pw_below_drewN | apply below_drew1 | refine below_set ?_ GE194.out | refine below_set ?_ GE195.out | refine below_set ?_ GE212.out) | exact HB.out))⟩)
                        · skip
                          refine box_step ?hg (N := 6) ?hd (cs := #[.string (⟨#[]⟩ : ByteArray), .int .i64 0, .int .i64 0, .int .i64 0, .int .i64 0, .int .i64 0]) (t := 25) ?hr ?_; (case hd => rfl); (case hg => rfl); (case hr => first | (go_simp; done) | (go_simp; rfl))
                          intro gb213 hg w13 hbox hb
                          have BK213 := Aside0.mk (hbox)
                          have GW213 := Aside0.mk ((by rw [hg]; exact (below_size (by repeat (first | (with_reducible first | exact HB.out | apply below_alloc | apply pw_below_drewN | apply below_drew1 | refine below_set ?_ GE194.out | refine below_set ?_ GE195.out) | exact HB.out))) : w.heap.size ≤ gb213))
                          have GE213 := GW213
                          have NB194_213 := Aside0.mk ((ne_lt hg (pk BK194) : gb194 ≠ gb213))
                          have NB213_194 := Aside0.mk ((ne_gt hg (pk BK194) : gb213 ≠ gb194))
                          have NB195_213 := Aside0.mk ((ne_lt hg (pk BK195) : gb195 ≠ gb213))
                          have NB213_195 := Aside0.mk ((ne_gt hg (pk BK195) : gb213 ≠ gb195))
                          replace BK194 := Aside0.mk (blk_below (g := gb194) (pk BK194) hb)
                          replace BK195 := Aside0.mk (blk_below (g := gb195) (pk BK195) hb)
                          replace HB := Aside0.mk (below_step (by repeat (first | (with_reducible first | exact HB.out | apply below_alloc | apply pw_below_drewN | apply below_drew1 | refine below_set ?_ GE194.out | refine below_set ?_ GE195.out) | exact HB.out)) hb)
                          clear hb hbox hg
                          refine hK.out _ _ ⟨bc BK194 0, bc BK194 1, bc BK194 2, bc BK194 3, bc BK194 4, bc BK194 5, bc BK194 6, bc BK194 7, bc BK194 8, bc BK195 0, bc BK195 1, bc BK195 2, bc BK195 3, bc BK195 4, bc BK195 5⟩ (fun hHeld => ?_)
                          clear hK K
                          refine norm_ (a' := ?_) ?_ ?_
                          rotate_left
                          · show Act.put _ (some 6) _ = _
                            simp only [Act.put, List.setIfInBounds_toArray, List.set_cons_zero, List.set_cons_succ, i64_w, i32_w]
                            rfl
                          exact norm0_ (hJ5 (gb213) _ ⟨hHeld, (pk BK194), (pk BK195), (pk BK213), GW213.out, GE213.out, NB194_213.out, NB213_194.out, NB195_213.out, NB213_195.out, (by repeat (first | (with_reducible first | exact HB.out | apply below_alloc | apply pw_below_drewN | apply below_drew1 | refine below_set ?_ GE194.out | refine below_set ?_ GE195.out | refine below_set ?_ GE213.out) | exact HB.out))⟩)
                      · skip
                        rintro gb213 w14 ⟨hS_, h0_, h1_, h2_, h3_, h4_, h5_, h6_, h7_, h8_, h9_⟩
                        have BK213 := Aside0.mk h2_
                        have GW213 : Aside0 (w.heap.size ≤ gb213) := ⟨h3_⟩
                        have GE213 : Aside0 (w.heap.size ≤ gb213) := ⟨h4_⟩
                        have NB194_213 : Aside0 (gb194 ≠ gb213) := ⟨h5_⟩
                        have NB213_194 : Aside0 (gb213 ≠ gb194) := ⟨h6_⟩
                        have NB195_213 : Aside0 (gb195 ≠ gb213) := ⟨h7_⟩
                        have NB213_195 : Aside0 (gb213 ≠ gb195) := ⟨h8_⟩
                        replace BK194 := Aside0.mk h0_
                        replace BK195 := Aside0.mk h1_
                        replace HB : Aside0 (Below w.heap.size w w14) := ⟨h9_⟩
                        clear h0_ h1_ h2_ h3_ h4_ h5_ h6_ h7_ h8_ h9_
                        have hHeld := hS_
                        refine norm_ (a' := ?_) ?_ ?_
                        rotate_left
                        · simp only [putAll, Act.put, List.setIfInBounds_toArray, List.set_cons_zero, List.set_cons_succ]
                          rfl
                        refine two_ (i := 1) (j := 4) (Ni := some 12) (Nj := some 5) #[true, true, true, false, false, true, false, false] #[true, false, true, false, true, true, false, false] rfl rfl rfl rfl (two_of HT_.out (by kernel_rfl)) (by decide) (by decide) (fun K hK => ?_) (fun K hK => ?_)
                        · skip
                          refine goes_ Try.func14 (by kernel_rfl) rfl #[.agg #[.int .i64 a0_0, .int .i64 a0_1, .int .i64 a0_2, .int .i64 a0_3, .int .i64 a0_4, .int .i64 a0_5, .int .i64 a0_6, .int .i64 a0_7, .int .i64 a0_8]] (by rfl) rfl rfl (by (try simp only [List.map_toArray, List.map_cons, List.map_nil]); first | done | rfl | (simp only [List.length_drop, List.length_take]; rfl)) ?_
                          with_reducible refine (damperlaw10_Given_Make.calls a0_0 a0_1 a0_2 a0_3 a0_4 a0_5 a0_6 a0_7 a0_8 t197 t198 t199 t200 t201 t202 t203 t204 t205 _ A5.out).mono ?_
                          rintro e w15 ⟨rfl, hb⟩
                          refine ⟨_, rfl, ?_⟩
                          replace BK194 := Aside0.mk (blk_below (g := gb194) (pk BK194) hb)
                          replace BK195 := Aside0.mk (blk_below (g := gb195) (pk BK195) hb)
                          replace BK213 := Aside0.mk (blk_below (g := gb213) (pk BK213) hb)
                          replace HB := Aside0.mk (below_step (by repeat (first | (with_reducible first | exact HB.out | apply below_alloc | apply pw_below_drewN | apply below_drew1 | refine below_set ?_ GE194.out | refine below_set ?_ GE195.out | refine below_set ?_ GE213.out) | exact HB.out)) hb)
                          (try clear hb)
                          (try clear hb2)
                          (try clear hk)
                          (try clear hi)
                          refine hK.out _ _ ⟨bc BK194 0, bc BK194 1, bc BK194 2, bc BK194 3, bc BK194 4, bc BK194 5, bc BK194 6, bc BK194 7, bc BK194 8, bc BK195 0, bc BK195 1, bc BK195 2, bc BK195 3, bc BK195 4, bc BK195 5⟩ (fun hHeld => ?_)
                          clear hK K
                          refine norm_ (a' := ?_) ?_ ?_
                          rotate_left
                          · show Act.put _ (some 12) _ = _
                            simp only [Act.put, List.setIfInBounds_toArray, List.set_cons_zero, List.set_cons_succ, i64_w, i32_w]
                            rfl
                          exact norm0_ (hJ1_5 (gb213) _ ⟨hHeld, (pk BK194), (pk BK195), (pk BK213), GW213.out, GE213.out, NB194_213.out, NB213_194.out, NB195_213.out, NB213_195.out, (by repeat (first | (with_reducible first | exact HB.out | apply below_alloc | apply pw_below_drewN | apply below_drew1 | refine below_set ?_ GE194.out | refine below_set ?_ GE195.out | refine below_set ?_ GE213.out) | exact HB.out))⟩)
                        · skip
                          refine box_step ?hg (N := 5) ?hd (cs := #[.int .i64 0, .int .i64 0, .int .i64 0, .int .i64 0, .int .i64 0, .int .i64 0, .int .i64 0, .int .i64 0, .int .i64 0]) (t := 23) ?hr ?_; (case hd => rfl); (case hg => rfl); (case hr => first | (go_simp; done) | (go_simp; rfl))
                          intro gb212 hg w15 hbox hb
                          have BK212 := Aside0.mk (hbox)
                          have GW212 := Aside0.mk ((by rw [hg]; exact (below_size (by repeat (first | (with_reducible first | exact HB.out | apply below_alloc | apply pw_below_drewN | apply below_drew1 | refine below_set ?_ GE194.out | refine below_set ?_ GE195.out | refine below_set ?_ GE213.out) | exact HB.out))) : w.heap.size ≤ gb212))
                          have GE212 := GW212
                          have NB194_212 := Aside0.mk ((ne_lt hg (pk BK194) : gb194 ≠ gb212))
                          have NB212_194 := Aside0.mk ((ne_gt hg (pk BK194) : gb212 ≠ gb194))
                          have NB195_212 := Aside0.mk ((ne_lt hg (pk BK195) : gb195 ≠ gb212))
                          have NB212_195 := Aside0.mk ((ne_gt hg (pk BK195) : gb212 ≠ gb195))
                          have NB213_212 := Aside0.mk ((ne_lt hg (pk BK213) : gb213 ≠ gb212))
                          have NB212_213 := Aside0.mk ((ne_gt hg (pk BK213) : gb212 ≠ gb213))
                          replace BK194 := Aside0.mk (blk_below (g := gb194) (pk BK194) hb)
                          replace BK195 := Aside0.mk (blk_below (g := gb195) (pk BK195) hb)
                          replace BK213 := Aside0.mk (blk_below (g := gb213) (pk BK213) hb)
                          replace HB := Aside0.mk (below_step (by repeat (first | (with_reducible first | exact HB.out | apply below_alloc | apply pw_below_drewN | apply below_drew1 | refine below_set ?_ GE194.out | refine below_set ?_ GE195.out | refine below_set ?_ GE213.out) | exact HB.out)) hb)
                          clear hb hbox hg
                          refine hK.out _ _ ⟨bc BK194 0, bc BK194 1, bc BK194 2, bc BK194 3, bc BK194 4, bc BK194 5, bc BK194 6, bc BK194 7, bc BK194 8, bc BK195 0, bc BK195 1, bc BK195 2, bc BK195 3, bc BK195 4, bc BK195 5⟩ (fun hHeld => ?_)
                          clear hK K
                          refine norm_ (a' := ?_) ?_ ?_
                          rotate_left
                          · show Act.put _ (some 5) _ = _
                            simp only [Act.put, List.setIfInBounds_toArray, List.set_cons_zero, List.set_cons_succ, i64_w, i32_w]
                            rfl
                          exact norm0_ (hJ4_5 (gb212, gb213) _ ⟨hHeld, (pk BK194), (pk BK195), (pk BK212), (pk BK213), GW212.out, GE212.out, NB194_212.out, NB212_194.out, NB195_212.out, NB212_195.out, NB213_212.out, NB212_213.out, GW213.out, GE213.out, NB194_213.out, NB213_194.out, NB195_213.out, NB213_195.out, (by repeat (first | (with_reducible first | exact HB.out | apply below_alloc | apply pw_below_drewN | apply below_drew1 | refine below_set ?_ GE194.out | refine below_set ?_ GE195.out | refine below_set ?_ GE213.out | refine below_set ?_ GE212.out) | exact HB.out))⟩)
                    · skip
                      rintro gb212 w14 ⟨hS_, h0_, h1_, h2_, h3_, h4_, h5_, h6_, h7_, h8_, h9_⟩
                      have BK212 := Aside0.mk h2_
                      have GW212 : Aside0 (w.heap.size ≤ gb212) := ⟨h3_⟩
                      have GE212 : Aside0 (w.heap.size ≤ gb212) := ⟨h4_⟩
                      have NB194_212 : Aside0 (gb194 ≠ gb212) := ⟨h5_⟩
                      have NB212_194 : Aside0 (gb212 ≠ gb194) := ⟨h6_⟩
                      have NB195_212 : Aside0 (gb195 ≠ gb212) := ⟨h7_⟩
                      have NB212_195 : Aside0 (gb212 ≠ gb195) := ⟨h8_⟩
                      replace BK194 := Aside0.mk h0_
                      replace BK195 := Aside0.mk h1_
                      replace HB : Aside0 (Below w.heap.size w w14) := ⟨h9_⟩
                      clear h0_ h1_ h2_ h3_ h4_ h5_ h6_ h7_ h8_ h9_
                      have hHeld := hS_
                      refine norm_ (a' := ?_) ?_ ?_
                      rotate_left
                      · simp only [putAll, Act.put, List.setIfInBounds_toArray, List.set_cons_zero, List.set_cons_succ]
                        rfl
                      refine two_ (i := 1) (j := 5) (Ni := some 12) (Nj := some 6) #[true, true, true, false, true, false, false, false] #[true, false, true, false, true, true, false, false] rfl rfl rfl rfl (two_of HT_.out (by kernel_rfl)) (by decide) (by decide) (fun K hK => ?_) (fun K hK => ?_)
                      · skip
                        refine goes_ Try.func14 (by kernel_rfl) rfl #[.agg #[.int .i64 a0_0, .int .i64 a0_1, .int .i64 a0_2, .int .i64 a0_3, .int .i64 a0_4, .int .i64 a0_5, .int .i64 a0_6, .int .i64 a0_7, .int .i64 a0_8]] (by rfl) rfl rfl (by (try simp only [List.map_toArray, List.map_cons, List.map_nil]); first | done | rfl | (simp only [List.length_drop, List.length_take]; rfl)) ?_
                        with_reducible refine (damperlaw10_Given_Make.calls a0_0 a0_1 a0_2 a0_3 a0_4 a0_5 a0_6 a0_7 a0_8 t197 t198 t199 t200 t201 t202 t203 t204 t205 _ A5.out).mono ?_
                        rintro e w15 ⟨rfl, hb⟩
                        refine ⟨_, rfl, ?_⟩
                        replace BK194 := Aside0.mk (blk_below (g := gb194) (pk BK194) hb)
                        replace BK195 := Aside0.mk (blk_below (g := gb195) (pk BK195) hb)
                        replace BK212 := Aside0.mk (blk_below (g := gb212) (pk BK212) hb)
                        replace HB := Aside0.mk (below_step (by repeat (first | (with_reducible first | exact HB.out | apply below_alloc | apply pw_below_drewN | apply below_drew1 | refine below_set ?_ GE194.out | refine below_set ?_ GE195.out | refine below_set ?_ GE212.out) | exact HB.out)) hb)
                        (try clear hb)
                        (try clear hb2)
                        (try clear hk)
                        (try clear hi)
                        refine hK.out _ _ ⟨bc BK194 0, bc BK194 1, bc BK194 2, bc BK194 3, bc BK194 4, bc BK194 5, bc BK194 6, bc BK194 7, bc BK194 8, bc BK195 0, bc BK195 1, bc BK195 2, bc BK195 3, bc BK195 4, bc BK195 5⟩ (fun hHeld => ?_)
                        clear hK K
                        refine norm_ (a' := ?_) ?_ ?_
                        rotate_left
                        · show Act.put _ (some 12) _ = _
                          simp only [Act.put, List.setIfInBounds_toArray, List.set_cons_zero, List.set_cons_succ, i64_w, i32_w]
                          rfl
                        exact norm0_ (hJ1_4 (gb212) _ ⟨hHeld, (pk BK194), (pk BK195), (pk BK212), GW212.out, GE212.out, NB194_212.out, NB212_194.out, NB195_212.out, NB212_195.out, (by repeat (first | (with_reducible first | exact HB.out | apply below_alloc | apply pw_below_drewN | apply below_drew1 | refine below_set ?_ GE194.out | refine below_set ?_ GE195.out | refine below_set ?_ GE212.out) | exact HB.out))⟩)
                      · skip
                        refine box_step ?hg (N := 6) ?hd (cs := #[.string (⟨#[]⟩ : ByteArray), .int .i64 0, .int .i64 0, .int .i64 0, .int .i64 0, .int .i64 0]) (t := 25) ?hr ?_; (case hd => rfl); (case hg => rfl); (case hr => first | (go_simp; done) | (go_simp; rfl))
                        intro gb213 hg w15 hbox hb
                        have BK213 := Aside0.mk (hbox)
                        have GW213 := Aside0.mk ((by rw [hg]; exact (below_size (by repeat (first | (with_reducible first | exact HB.out | apply below_alloc | apply pw_below_drewN | apply below_drew1 | refine below_set ?_ GE194.out | refine below_set ?_ GE195.out | refine below_set ?_ GE212.out) | exact HB.out))) : w.heap.size ≤ gb213))
                        have GE213 := GW213
                        have NB194_213 := Aside0.mk ((ne_lt hg (pk BK194) : gb194 ≠ gb213))
                        have NB213_194 := Aside0.mk ((ne_gt hg (pk BK194) : gb213 ≠ gb194))
                        have NB195_213 := Aside0.mk ((ne_lt hg (pk BK195) : gb195 ≠ gb213))
                        have NB213_195 := Aside0.mk ((ne_gt hg (pk BK195) : gb213 ≠ gb195))
                        have NB212_213 := Aside0.mk ((ne_lt hg (pk BK212) : gb212 ≠ gb213))
                        have NB213_212 := Aside0.mk ((ne_gt hg (pk BK212) : gb213 ≠ gb212))
                        replace BK194 := Aside0.mk (blk_below (g := gb194) (pk BK194) hb)
                        replace BK195 := Aside0.mk (blk_below (g := gb195) (pk BK195) hb)
                        replace BK212 := Aside0.mk (blk_below (g := gb212) (pk BK212) hb)
                        replace HB := Aside0.mk (below_step (by repeat (first | (with_reducible first | exact HB.out | apply below_alloc | apply pw_below_drewN | apply below_drew1 | refine below_set ?_ GE194.out | refine below_set ?_ GE195.out | refine below_set ?_ GE212.out) | exact HB.out)) hb)
                        clear hb hbox hg
                        refine hK.out _ _ ⟨bc BK194 0, bc BK194 1, bc BK194 2, bc BK194 3, bc BK194 4, bc BK194 5, bc BK194 6, bc BK194 7, bc BK194 8, bc BK195 0, bc BK195 1, bc BK195 2, bc BK195 3, bc BK195 4, bc BK195 5⟩ (fun hHeld => ?_)
                        clear hK K
                        refine norm_ (a' := ?_) ?_ ?_
                        rotate_left
                        · show Act.put _ (some 6) _ = _
                          simp only [Act.put, List.setIfInBounds_toArray, List.set_cons_zero, List.set_cons_succ, i64_w, i32_w]
                          rfl
                        exact norm0_ (hJ4_5 (gb212, gb213) _ ⟨hHeld, (pk BK194), (pk BK195), (pk BK212), (pk BK213), GW212.out, GE212.out, NB194_212.out, NB212_194.out, NB195_212.out, NB212_195.out, NB213_212.out, NB212_213.out, GW213.out, GE213.out, NB194_213.out, NB213_194.out, NB195_213.out, NB213_195.out, (by repeat (first | (with_reducible first | exact HB.out | apply below_alloc | apply pw_below_drewN | apply below_drew1 | refine below_set ?_ GE194.out | refine below_set ?_ GE195.out | refine below_set ?_ GE212.out | refine below_set ?_ GE213.out) | exact HB.out))⟩)
                  · skip
                    rintro _ w14 ⟨hS_, h0_, h1_, h2_⟩
                    replace BK194 := Aside0.mk h0_
                    replace BK195 := Aside0.mk h1_
                    replace HB : Aside0 (Below w.heap.size w w14) := ⟨h2_⟩
                    clear h0_ h1_ h2_
                    have hHeld := hS_
                    refine norm_ (a' := ?_) ?_ ?_
                    rotate_left
                    · simp only [putAll, Act.put, List.setIfInBounds_toArray, List.set_cons_zero, List.set_cons_succ]
                      rfl
                    refine three_ (i := 3) (j := 4) (k := 5) (Ni := some 14) (Nj := some 5) (Nk := some 6) #[true, true, true, true, false, false, false, false] #[true, true, true, false, true, false, false, false] #[true, true, true, false, false, true, false, false] rfl rfl rfl rfl rfl rfl (three_of HT_.out (by kernel_rfl)) (by decide) (by decide) (by decide) (fun K hK => ?_) (fun K hK => ?_) (fun K hK => ?_)
                    · skip
                      refine goes_ Try.func15 (by kernel_rfl) rfl #[.agg #[.string a1_0, .int .i64 a1_1, .int .i64 a1_2, .int .i64 a1_3, .int .i64 a1_4, .int .i64 a1_5], .int .i64 0] (by rfl) rfl rfl (by (try simp only [List.map_toArray, List.map_cons, List.map_nil]); first | done | rfl | (simp only [List.length_drop, List.length_take]; rfl)) ?_
                      with_reducible refine (damperlaw2_Config.calls a1_0 a1_1 a1_2 a1_3 a1_4 a1_5 0 t206 t207 t208 t209 t210 t211 _ A6.out).mono ?_
                      rintro e w15 ⟨rfl, hb⟩
                      refine ⟨_, rfl, ?_⟩
                      replace BK194 := Aside0.mk (blk_below (g := gb194) (pk BK194) hb)
                      replace BK195 := Aside0.mk (blk_below (g := gb195) (pk BK195) hb)
                      replace HB := Aside0.mk (below_step (by repeat (first | (with_reducible first | exact HB.out | apply below_alloc | apply pw_below_drewN | apply below_drew1 | refine below_set ?_ GE194.out | refine below_set ?_ GE195.out) | exact HB.out)) hb)
                      (try clear hb)
                      (try clear hb2)
                      (try clear hk)
                      (try clear hi)
                      refine hK.out _ _ ⟨bc BK194 0, bc BK194 1, bc BK194 2, bc BK194 3, bc BK194 4, bc BK194 5, bc BK194 6, bc BK194 7, bc BK194 8, bc BK195 0, bc BK195 1, bc BK195 2, bc BK195 3, bc BK195 4, bc BK195 5⟩ (fun hHeld => ?_)
                      clear hK K
                      refine norm_ (a' := ?_) ?_ ?_
                      rotate_left
                      · show Act.put _ (some 14) _ = _
                        simp only [Act.put, List.setIfInBounds_toArray, List.set_cons_zero, List.set_cons_succ, i64_w, i32_w]
                        rfl
                      exact norm0_ (hJ1_3 () _ ⟨hHeld, (pk BK194), (pk BK195), (by repeat (first | (with_reducible first | exact HB.out | apply below_alloc | apply pw_below_drewN | apply below_drew1 | refine below_set ?_ GE194.out | refine below_set ?_ GE195.out) | exact HB.out))⟩)
                    · skip
                      refine box_step ?hg (N := 5) ?hd (cs := #[.int .i64 0, .int .i64 0, .int .i64 0, .int .i64 0, .int .i64 0, .int .i64 0, .int .i64 0, .int .i64 0, .int .i64 0]) (t := 23) ?hr ?_; (case hd => rfl); (case hg => rfl); (case hr => first | (go_simp; done) | (go_simp; rfl))
                      intro gb212 hg w15 hbox hb
                      have BK212 := Aside0.mk (hbox)
                      have GW212 := Aside0.mk ((by rw [hg]; exact (below_size (by repeat (first | (with_reducible first | exact HB.out | apply below_alloc | apply pw_below_drewN | apply below_drew1 | refine below_set ?_ GE194.out | refine below_set ?_ GE195.out) | exact HB.out))) : w.heap.size ≤ gb212))
                      have GE212 := GW212
                      have NB194_212 := Aside0.mk ((ne_lt hg (pk BK194) : gb194 ≠ gb212))
                      have NB212_194 := Aside0.mk ((ne_gt hg (pk BK194) : gb212 ≠ gb194))
                      have NB195_212 := Aside0.mk ((ne_lt hg (pk BK195) : gb195 ≠ gb212))
                      have NB212_195 := Aside0.mk ((ne_gt hg (pk BK195) : gb212 ≠ gb195))
                      replace BK194 := Aside0.mk (blk_below (g := gb194) (pk BK194) hb)
                      replace BK195 := Aside0.mk (blk_below (g := gb195) (pk BK195) hb)
                      replace HB := Aside0.mk (below_step (by repeat (first | (with_reducible first | exact HB.out | apply below_alloc | apply pw_below_drewN | apply below_drew1 | refine below_set ?_ GE194.out | refine below_set ?_ GE195.out) | exact HB.out)) hb)
                      clear hb hbox hg
                      refine hK.out _ _ ⟨bc BK194 0, bc BK194 1, bc BK194 2, bc BK194 3, bc BK194 4, bc BK194 5, bc BK194 6, bc BK194 7, bc BK194 8, bc BK195 0, bc BK195 1, bc BK195 2, bc BK195 3, bc BK195 4, bc BK195 5⟩ (fun hHeld => ?_)
                      clear hK K
                      refine norm_ (a' := ?_) ?_ ?_
                      rotate_left
                      · show Act.put _ (some 5) _ = _
                        simp only [Act.put, List.setIfInBounds_toArray, List.set_cons_zero, List.set_cons_succ, i64_w, i32_w]
                        rfl
                      exact norm0_ (hJ1_4 (gb212) _ ⟨hHeld, (pk BK194), (pk BK195), (pk BK212), GW212.out, GE212.out, NB194_212.out, NB212_194.out, NB195_212.out, NB212_195.out, (by repeat (first | (with_reducible first | exact HB.out | apply below_alloc | apply pw_below_drewN | apply below_drew1 | refine below_set ?_ GE194.out | refine below_set ?_ GE195.out | refine below_set ?_ GE212.out) | exact HB.out))⟩)
                    · skip
                      refine box_step ?hg (N := 6) ?hd (cs := #[.string (⟨#[]⟩ : ByteArray), .int .i64 0, .int .i64 0, .int .i64 0, .int .i64 0, .int .i64 0]) (t := 25) ?hr ?_; (case hd => rfl); (case hg => rfl); (case hr => first | (go_simp; done) | (go_simp; rfl))
                      intro gb213 hg w15 hbox hb
                      have BK213 := Aside0.mk (hbox)
                      have GW213 := Aside0.mk ((by rw [hg]; exact (below_size (by repeat (first | (with_reducible first | exact HB.out | apply below_alloc | apply pw_below_drewN | apply below_drew1 | refine below_set ?_ GE194.out | refine below_set ?_ GE195.out) | exact HB.out))) : w.heap.size ≤ gb213))
                      have GE213 := GW213
                      have NB194_213 := Aside0.mk ((ne_lt hg (pk BK194) : gb194 ≠ gb213))
                      have NB213_194 := Aside0.mk ((ne_gt hg (pk BK194) : gb213 ≠ gb194))
                      have NB195_213 := Aside0.mk ((ne_lt hg (pk BK195) : gb195 ≠ gb213))
                      have NB213_195 := Aside0.mk ((ne_gt hg (pk BK195) : gb213 ≠ gb195))
                      replace BK194 := Aside0.mk (blk_below (g := gb194) (pk BK194) hb)
                      replace BK195 := Aside0.mk (blk_below (g := gb195) (pk BK195) hb)
                      replace HB := Aside0.mk (below_step (by repeat (first | (with_reducible first | exact HB.out | apply below_alloc | apply pw_below_drewN | apply below_drew1 | refine below_set ?_ GE194.out | refine below_set ?_ GE195.out) | exact HB.out)) hb)
                      clear hb hbox hg
                      refine hK.out _ _ ⟨bc BK194 0, bc BK194 1, bc BK194 2, bc BK194 3, bc BK194 4, bc BK194 5, bc BK194 6, bc BK194 7, bc BK194 8, bc BK195 0, bc BK195 1, bc BK195 2, bc BK195 3, bc BK195 4, bc BK195 5⟩ (fun hHeld => ?_)
                      clear hK K
                      refine norm_ (a' := ?_) ?_ ?_
                      rotate_left
                      · show Act.put _ (some 6) _ = _
                        simp only [Act.put, List.setIfInBounds_toArray, List.set_cons_zero, List.set_cons_succ, i64_w, i32_w]
                        rfl
                      exact norm0_ (hJ1_5 (gb213) _ ⟨hHeld, (pk BK194), (pk BK195), (pk BK213), GW213.out, GE213.out, NB194_213.out, NB213_194.out, NB195_213.out, NB213_195.out, (by repeat (first | (with_reducible first | exact HB.out | apply below_alloc | apply pw_below_drewN | apply below_drew1 | refine below_set ?_ GE194.out | refine below_set ?_ GE195.out | refine below_set ?_ GE213.out) | exact HB.out))⟩)
                · skip
                  rintro ⟨gb212, gb213⟩ w15 ⟨hS_, h0_, h1_, h2_, h3_, h4_, h5_, h6_, h7_, h8_, h9_, h10_, h11_, h12_, h13_, h14_, h15_, h16_, h17_, h18_⟩
                  have BK212 : Aside0 (w15.heap[gb212]? = some (.cells #[.int .i64 0, .int .i64 0, .int .i64 0, .int .i64 0, .int .i64 0, .int .i64 0, .int .i64 0, .int .i64 0, .int .i64 0] 23 (0, 0))) := ⟨h2_⟩
                  have BK213 : Aside0 (w15.heap[gb213]? = some (.cells #[.string (⟨#[]⟩ : ByteArray), .int .i64 0, .int .i64 0, .int .i64 0, .int .i64 0, .int .i64 0] 25 (0, 0))) := ⟨h3_⟩
                  have GW212 : Aside0 (w.heap.size ≤ gb212) := ⟨h4_⟩
                  have GE212 : Aside0 (w.heap.size ≤ gb212) := ⟨h5_⟩
                  have NB194_212 : Aside0 (gb194 ≠ gb212) := ⟨h6_⟩
                  have NB212_194 : Aside0 (gb212 ≠ gb194) := ⟨h7_⟩
                  have NB195_212 : Aside0 (gb195 ≠ gb212) := ⟨h8_⟩
                  have NB212_195 : Aside0 (gb212 ≠ gb195) := ⟨h9_⟩
                  have NB213_212 : Aside0 (gb213 ≠ gb212) := ⟨h10_⟩
                  have NB212_213 : Aside0 (gb212 ≠ gb213) := ⟨h11_⟩
                  have GW213 : Aside0 (w.heap.size ≤ gb213) := ⟨h12_⟩
                  have GE213 : Aside0 (w.heap.size ≤ gb213) := ⟨h13_⟩
                  have NB194_213 : Aside0 (gb194 ≠ gb213) := ⟨h14_⟩
                  have NB213_194 : Aside0 (gb213 ≠ gb194) := ⟨h15_⟩
                  have NB195_213 : Aside0 (gb195 ≠ gb213) := ⟨h16_⟩
                  have NB213_195 : Aside0 (gb213 ≠ gb195) := ⟨h17_⟩
                  replace BK194 := Aside0.mk h0_
                  replace BK195 := Aside0.mk h1_
                  replace HB : Aside0 (Below w.heap.size w w15) := ⟨h18_⟩
                  clear h0_ h1_ h2_ h3_ h4_ h5_ h6_ h7_ h8_ h9_ h10_ h11_ h12_ h13_ h14_ h15_ h16_ h17_ h18_
                  have hHeld := hS_
                  refine norm_ (a' := ?_) ?_ ?_
                  rotate_left
                  · simp only [putAll, Act.put, List.setIfInBounds_toArray, List.set_cons_zero, List.set_cons_succ]
                    rfl
                  refine one_ (i := 1) (N := some 12) #[true, true, true, false, true, true, false, false] rfl rfl (one_of HT_.out (by kernel_rfl)) (by decide) (fun K hK => ?_)
                  refine goes_ Try.func14 (by kernel_rfl) rfl #[.agg #[.int .i64 a0_0, .int .i64 a0_1, .int .i64 a0_2, .int .i64 a0_3, .int .i64 a0_4, .int .i64 a0_5, .int .i64 a0_6, .int .i64 a0_7, .int .i64 a0_8]] (by rfl) rfl rfl (by (try simp only [List.map_toArray, List.map_cons, List.map_nil]); first | done | rfl | (simp only [List.length_drop, List.length_take]; rfl)) ?_
                  with_reducible refine (damperlaw10_Given_Make.calls a0_0 a0_1 a0_2 a0_3 a0_4 a0_5 a0_6 a0_7 a0_8 t197 t198 t199 t200 t201 t202 t203 t204 t205 _ A5.out).mono ?_
                  rintro e w16 ⟨rfl, hb⟩
                  refine ⟨_, rfl, ?_⟩
                  replace BK194 := Aside0.mk (blk_below (g := gb194) (pk BK194) hb)
                  replace BK195 := Aside0.mk (blk_below (g := gb195) (pk BK195) hb)
                  replace BK212 := Aside0.mk (blk_below (g := gb212) (pk BK212) hb)
                  replace BK213 := Aside0.mk (blk_below (g := gb213) (pk BK213) hb)
                  replace HB := Aside0.mk (below_step (by repeat (first | (with_reducible first | exact HB.out | apply below_alloc | apply pw_below_drewN | apply below_drew1 | refine below_set ?_ GE194.out | refine below_set ?_ GE195.out | refine below_set ?_ GE212.out | refine below_set ?_ GE213.out) | exact HB.out)) hb)
                  (try clear hb)
                  (try clear hb2)
                  (try clear hk)
                  (try clear hi)
                  refine hK.out _ _ ⟨bc BK194 0, bc BK194 1, bc BK194 2, bc BK194 3, bc BK194 4, bc BK194 5, bc BK194 6, bc BK194 7, bc BK194 8, bc BK195 0, bc BK195 1, bc BK195 2, bc BK195 3, bc BK195 4, bc BK195 5⟩ (fun hHeld => ?_)
                  clear hK K
                  refine norm_ (a' := ?_) ?_ ?_
                  rotate_left
                  · show Act.put _ (some 12) _ = _
                    simp only [Act.put, List.setIfInBounds_toArray, List.set_cons_zero, List.set_cons_succ, i64_w, i32_w]
                    rfl
                  exact norm0_ (hJ1_4_5 (gb212, gb213) _ ⟨hHeld, (pk BK194), (pk BK195), (pk BK212), (pk BK213), GW212.out, GE212.out, NB194_212.out, NB212_194.out, NB195_212.out, NB212_195.out, NB213_212.out, NB212_213.out, GW213.out, GE213.out, NB194_213.out, NB213_194.out, NB195_213.out, NB213_195.out, (by repeat (first | (with_reducible first | exact HB.out | apply below_alloc | apply pw_below_drewN | apply below_drew1 | refine below_set ?_ GE194.out | refine below_set ?_ GE195.out | refine below_set ?_ GE212.out | refine below_set ?_ GE213.out) | exact HB.out))⟩)
              · skip
                rintro gb213 w15 ⟨hS_, h0_, h1_, h2_, h3_, h4_, h5_, h6_, h7_, h8_, h9_⟩
                have BK213 := Aside0.mk h2_
                have GW213 : Aside0 (w.heap.size ≤ gb213) := ⟨h3_⟩
                have GE213 : Aside0 (w.heap.size ≤ gb213) := ⟨h4_⟩
                have NB194_213 : Aside0 (gb194 ≠ gb213) := ⟨h5_⟩
                have NB213_194 : Aside0 (gb213 ≠ gb194) := ⟨h6_⟩
                have NB195_213 : Aside0 (gb195 ≠ gb213) := ⟨h7_⟩
                have NB213_195 : Aside0 (gb213 ≠ gb195) := ⟨h8_⟩
                replace BK194 := Aside0.mk h0_
                replace BK195 := Aside0.mk h1_
                replace HB : Aside0 (Below w.heap.size w w15) := ⟨h9_⟩
                clear h0_ h1_ h2_ h3_ h4_ h5_ h6_ h7_ h8_ h9_
                have hHeld := hS_
                refine norm_ (a' := ?_) ?_ ?_
                rotate_left
                · simp only [putAll, Act.put, List.setIfInBounds_toArray, List.set_cons_zero, List.set_cons_succ]
                  rfl
                refine two_ (i := 3) (j := 4) (Ni := some 14) (Nj := some 5) #[true, true, true, true, false, true, false, false] #[true, true, true, false, true, true, false, false] rfl rfl rfl rfl (two_of HT_.out (by kernel_rfl)) (by decide) (by decide) (fun K hK => ?_) (fun K hK => ?_)
                · skip
                  refine goes_ Try.func15 (by kernel_rfl) rfl #[.agg #[.string a1_0, .int .i64 a1_1, .int .i64 a1_2, .int .i64 a1_3, .int .i64 a1_4, .int .i64 a1_5], .int .i64 0] (by rfl) rfl rfl (by (try simp only [List.map_toArray, List.map_cons, List.map_nil]); first | done | rfl | (simp only [List.length_drop, List.length_take]; rfl)) ?_
                  with_reducible refine (damperlaw2_Config.calls a1_0 a1_1 a1_2 a1_3 a1_4 a1_5 0 t206 t207 t208 t209 t210 t211 _ A6.out).mono ?_
                  rintro e w16 ⟨rfl, hb⟩
                  refine ⟨_, rfl, ?_⟩
                  replace BK194 := Aside0.mk (blk_below (g := gb194) (pk BK194) hb)
                  replace BK195 := Aside0.mk (blk_below (g := gb195) (pk BK195) hb)
                  replace BK213 := Aside0.mk (blk_below (g := gb213) (pk BK213) hb)
                  replace HB := Aside0.mk (below_step (by repeat (first | (with_reducible first | exact HB.out | apply below_alloc | apply pw_below_drewN | apply below_drew1 | refine below_set ?_ GE194.out | refine below_set ?_ GE195.out | refine below_set ?_ GE213.out) | exact HB.out)) hb)
                  (try clear hb)
                  (try clear hb2)
                  (try clear hk)
                  (try clear hi)
                  refine hK.out _ _ ⟨bc BK194 0, bc BK194 1, bc BK194 2, bc BK194 3, bc BK194 4, bc BK194 5, bc BK194 6, bc BK194 7, bc BK194 8, bc BK195 0, bc BK195 1, bc BK195 2, bc BK195 3, bc BK195 4, bc BK195 5⟩ (fun hHeld => ?_)
                  clear hK K
                  refine norm_ (a' := ?_) ?_ ?_
                  rotate_left
                  · show Act.put _ (some 14) _ = _
                    simp only [Act.put, List.setIfInBounds_toArray, List.set_cons_zero, List.set_cons_succ, i64_w, i32_w]
                    rfl
                  exact norm0_ (hJ1_3_5 (gb213) _ ⟨hHeld, (pk BK194), (pk BK195), (pk BK213), GW213.out, GE213.out, NB194_213.out, NB213_194.out, NB195_213.out, NB213_195.out, (by repeat (first | (with_reducible first | exact HB.out | apply below_alloc | apply pw_below_drewN | apply below_drew1 | refine below_set ?_ GE194.out | refine below_set ?_ GE195.out | refine below_set ?_ GE213.out) | exact HB.out))⟩)
                · skip
                  refine box_step ?hg (N := 5) ?hd (cs := #[.int .i64 0, .int .i64 0, .int .i64 0, .int .i64 0, .int .i64 0, .int .i64 0, .int .i64 0, .int .i64 0, .int .i64 0]) (t := 23) ?hr ?_; (case hd => rfl); (case hg => rfl); (case hr => first | (go_simp; done) | (go_simp; rfl))
                  intro gb212 hg w16 hbox hb
                  have BK212 := Aside0.mk (hbox)
                  have GW212 := Aside0.mk ((by rw [hg]; exact (below_size (by repeat (first | (with_reducible first | exact HB.out | apply below_alloc | apply pw_below_drewN | apply below_drew1 | refine below_set ?_ GE194.out | refine below_set ?_ GE195.out | refine below_set ?_ GE213.out) | exact HB.out))) : w.heap.size ≤ gb212))
                  have GE212 := GW212
                  have NB194_212 := Aside0.mk ((ne_lt hg (pk BK194) : gb194 ≠ gb212))
                  have NB212_194 := Aside0.mk ((ne_gt hg (pk BK194) : gb212 ≠ gb194))
                  have NB195_212 := Aside0.mk ((ne_lt hg (pk BK195) : gb195 ≠ gb212))
                  have NB212_195 := Aside0.mk ((ne_gt hg (pk BK195) : gb212 ≠ gb195))
                  have NB213_212 := Aside0.mk ((ne_lt hg (pk BK213) : gb213 ≠ gb212))
                  have NB212_213 := Aside0.mk ((ne_gt hg (pk BK213) : gb212 ≠ gb213))
                  replace BK194 := Aside0.mk (blk_below (g := gb194) (pk BK194) hb)
                  replace BK195 := Aside0.mk (blk_below (g := gb195) (pk BK195) hb)
                  replace BK213 := Aside0.mk (blk_below (g := gb213) (pk BK213) hb)
                  replace HB := Aside0.mk (below_step (by repeat (first | (with_reducible first | exact HB.out | apply below_alloc | apply pw_below_drewN | apply below_drew1 | refine below_set ?_ GE194.out | refine below_set ?_ GE195.out | refine below_set ?_ GE213.out) | exact HB.out)) hb)
                  clear hb hbox hg
                  refine hK.out _ _ ⟨bc BK194 0, bc BK194 1, bc BK194 2, bc BK194 3, bc BK194 4, bc BK194 5, bc BK194 6, bc BK194 7, bc BK194 8, bc BK195 0, bc BK195 1, bc BK195 2, bc BK195 3, bc BK195 4, bc BK195 5⟩ (fun hHeld => ?_)
                  clear hK K
                  refine norm_ (a' := ?_) ?_ ?_
                  rotate_left
                  · show Act.put _ (some 5) _ = _
                    simp only [Act.put, List.setIfInBounds_toArray, List.set_cons_zero, List.set_cons_succ, i64_w, i32_w]
                    rfl
                  exact norm0_ (hJ1_4_5 (gb212, gb213) _ ⟨hHeld, (pk BK194), (pk BK195), (pk BK212), (pk BK213), GW212.out, GE212.out, NB194_212.out, NB212_194.out, NB195_212.out, NB212_195.out, NB213_212.out, NB212_213.out, GW213.out, GE213.out, NB194_213.out, NB213_194.out, NB195_213.out, NB213_195.out, (by repeat (first | (with_reducible first | exact HB.out | apply below_alloc | apply pw_below_drewN | apply below_drew1 | refine below_set ?_ GE194.out | refine below_set ?_ GE195.out | refine below_set ?_ GE213.out | refine below_set ?_ GE212.out) | exact HB.out))⟩)
            · skip
              rintro gb212 w15 ⟨hS_, h0_, h1_, h2_, h3_, h4_, h5_, h6_, h7_, h8_, h9_⟩
              have BK212 := Aside0.mk h2_
              have GW212 : Aside0 (w.heap.size ≤ gb212) := ⟨h3_⟩
              have GE212 : Aside0 (w.heap.size ≤ gb212) := ⟨h4_⟩
              have NB194_212 : Aside0 (gb194 ≠ gb212) := ⟨h5_⟩
              have NB212_194 : Aside0 (gb212 ≠ gb194) := ⟨h6_⟩
              have NB195_212 : Aside0 (gb195 ≠ gb212) := ⟨h7_⟩
              have NB212_195 : Aside0 (gb212 ≠ gb195) := ⟨h8_⟩
              replace BK194 := Aside0.mk h0_
              replace BK195 := Aside0.mk h1_
              replace HB : Aside0 (Below w.heap.size w w15) := ⟨h9_⟩
              clear h0_ h1_ h2_ h3_ h4_ h5_ h6_ h7_ h8_ h9_
              have hHeld := hS_
              refine norm_ (a' := ?_) ?_ ?_
              rotate_left
              · simp only [putAll, Act.put, List.setIfInBounds_toArray, List.set_cons_zero, List.set_cons_succ]
                rfl
              refine two_ (i := 3) (j := 5) (Ni := some 14) (Nj := some 6) #[true, true, true, true, true, false, false, false] #[true, true, true, false, true, true, false, false] rfl rfl rfl rfl (two_of HT_.out (by kernel_rfl)) (by decide) (by decide) (fun K hK => ?_) (fun K hK => ?_)
              · skip
                refine goes_ Try.func15 (by kernel_rfl) rfl #[.agg #[.string a1_0, .int .i64 a1_1, .int .i64 a1_2, .int .i64 a1_3, .int .i64 a1_4, .int .i64 a1_5], .int .i64 0] (by rfl) rfl rfl (by (try simp only [List.map_toArray, List.map_cons, List.map_nil]); first | done | rfl | (simp only [List.length_drop, List.length_take]; rfl)) ?_
                with_reducible refine (damperlaw2_Config.calls a1_0 a1_1 a1_2 a1_3 a1_4 a1_5 0 t206 t207 t208 t209 t210 t211 _ A6.out).mono ?_
                rintro e w16 ⟨rfl, hb⟩
                refine ⟨_, rfl, ?_⟩
                replace BK194 := Aside0.mk (blk_below (g := gb194) (pk BK194) hb)
                replace BK195 := Aside0.mk (blk_below (g := gb195) (pk BK195) hb)
                replace BK212 := Aside0.mk (blk_below (g := gb212) (pk BK212) hb)
                replace HB := Aside0.mk (below_step (by repeat (first | (with_reducible first | exact HB.out | apply below_alloc | apply pw_below_drewN | apply below_drew1 | refine below_set ?_ GE194.out | refine below_set ?_ GE195.out | refine below_set ?_ GE212.out) | exact HB.out)) hb)
                (try clear hb)
                (try clear hb2)
                (try clear hk)
                (try clear hi)
                refine hK.out _ _ ⟨bc BK194 0, bc BK194 1, bc BK194 2, bc BK194 3, bc BK194 4, bc BK194 5, bc BK194 6, bc BK194 7, bc BK194 8, bc BK195 0, bc BK195 1, bc BK195 2, bc BK195 3, bc BK195 4, bc BK195 5⟩ (fun hHeld => ?_)
                clear hK K
                refine norm_ (a' := ?_) ?_ ?_
                rotate_left
                · show Act.put _ (some 14) _ = _
                  simp only [Act.put, List.setIfInBounds_toArray, List.set_cons_zero, List.set_cons_succ, i64_w, i32_w]
                  rfl
                exact norm0_ (hJ1_3_4 (gb212) _ ⟨hHeld, (pk BK194), (pk BK195), (pk BK212), GW212.out, GE212.out, NB194_212.out, NB212_194.out, NB195_212.out, NB212_195.out, (by repeat (first | (with_reducible first | exact HB.out | apply below_alloc | apply pw_below_drewN | apply below_drew1 | refine below_set ?_ GE194.out | refine below_set ?_ GE195.out | refine below_set ?_ GE212.out) | exact HB.out))⟩)
              · skip
                refine box_step ?hg (N := 6) ?hd (cs := #[.string (⟨#[]⟩ : ByteArray), .int .i64 0, .int .i64 0, .int .i64 0, .int .i64 0, .int .i64 0]) (t := 25) ?hr ?_; (case hd => rfl); (case hg => rfl); (case hr => first | (go_simp; done) | (go_simp; rfl))
                intro gb213 hg w16 hbox hb
                have BK213 := Aside0.mk (hbox)
                have GW213 := Aside0.mk ((by rw [hg]; exact (below_size (by repeat (first | (with_reducible first | exact HB.out | apply below_alloc | apply pw_below_drewN | apply below_drew1 | refine below_set ?_ GE194.out | refine below_set ?_ GE195.out | refine below_set ?_ GE212.out) | exact HB.out))) : w.heap.size ≤ gb213))
                have GE213 := GW213
                have NB194_213 := Aside0.mk ((ne_lt hg (pk BK194) : gb194 ≠ gb213))
                have NB213_194 := Aside0.mk ((ne_gt hg (pk BK194) : gb213 ≠ gb194))
                have NB195_213 := Aside0.mk ((ne_lt hg (pk BK195) : gb195 ≠ gb213))
                have NB213_195 := Aside0.mk ((ne_gt hg (pk BK195) : gb213 ≠ gb195))
                have NB212_213 := Aside0.mk ((ne_lt hg (pk BK212) : gb212 ≠ gb213))
                have NB213_212 := Aside0.mk ((ne_gt hg (pk BK212) : gb213 ≠ gb212))
                replace BK194 := Aside0.mk (blk_below (g := gb194) (pk BK194) hb)
                replace BK195 := Aside0.mk (blk_below (g := gb195) (pk BK195) hb)
                replace BK212 := Aside0.mk (blk_below (g := gb212) (pk BK212) hb)
                replace HB := Aside0.mk (below_step (by repeat (first | (with_reducible first | exact HB.out | apply below_alloc | apply pw_below_drewN | apply below_drew1 | refine below_set ?_ GE194.out | refine below_set ?_ GE195.out | refine below_set ?_ GE212.out) | exact HB.out)) hb)
                clear hb hbox hg
                refine hK.out _ _ ⟨bc BK194 0, bc BK194 1, bc BK194 2, bc BK194 3, bc BK194 4, bc BK194 5, bc BK194 6, bc BK194 7, bc BK194 8, bc BK195 0, bc BK195 1, bc BK195 2, bc BK195 3, bc BK195 4, bc BK195 5⟩ (fun hHeld => ?_)
                clear hK K
                refine norm_ (a' := ?_) ?_ ?_
                rotate_left
                · show Act.put _ (some 6) _ = _
                  simp only [Act.put, List.setIfInBounds_toArray, List.set_cons_zero, List.set_cons_succ, i64_w, i32_w]
                  rfl
                exact norm0_ (hJ1_4_5 (gb212, gb213) _ ⟨hHeld, (pk BK194), (pk BK195), (pk BK212), (pk BK213), GW212.out, GE212.out, NB194_212.out, NB212_194.out, NB195_212.out, NB212_195.out, NB213_212.out, NB212_213.out, GW213.out, GE213.out, NB194_213.out, NB213_194.out, NB195_213.out, NB213_195.out, (by repeat (first | (with_reducible first | exact HB.out | apply below_alloc | apply pw_below_drewN | apply below_drew1 | refine below_set ?_ GE194.out | refine below_set ?_ GE195.out | refine below_set ?_ GE212.out | refine below_set ?_ GE213.out) | exact HB.out))⟩)
          · skip
            rintro _ w15 ⟨hS_, h0_, h1_, h2_⟩
            replace BK194 := Aside0.mk h0_
            replace BK195 := Aside0.mk h1_
            replace HB : Aside0 (Below w.heap.size w w15) := ⟨h2_⟩
            clear h0_ h1_ h2_
            have hHeld := hS_
            refine norm_ (a' := ?_) ?_ ?_
            rotate_left
            · simp only [putAll, Act.put, List.setIfInBounds_toArray, List.set_cons_zero, List.set_cons_succ]
              rfl
            refine two_ (i := 4) (j := 5) (Ni := some 5) (Nj := some 6) #[true, true, true, true, true, false, false, false] #[true, true, true, true, false, true, false, false] rfl rfl rfl rfl (two_of HT_.out (by kernel_rfl)) (by decide) (by decide) (fun K hK => ?_) (fun K hK => ?_)
            · skip
              refine box_step ?hg (N := 5) ?hd (cs := #[.int .i64 0, .int .i64 0, .int .i64 0, .int .i64 0, .int .i64 0, .int .i64 0, .int .i64 0, .int .i64 0, .int .i64 0]) (t := 23) ?hr ?_; (case hd => rfl); (case hg => rfl); (case hr => first | (go_simp; done) | (go_simp; rfl))
              intro gb212 hg w16 hbox hb
              have BK212 := Aside0.mk (hbox)
              have GW212 := Aside0.mk ((by rw [hg]; exact (below_size (by repeat (first | (with_reducible first | exact HB.out | apply below_alloc | apply pw_below_drewN | apply below_drew1 | refine below_set ?_ GE194.out | refine below_set ?_ GE195.out) | exact HB.out))) : w.heap.size ≤ gb212))
              have GE212 := GW212
              have NB194_212 := Aside0.mk ((ne_lt hg (pk BK194) : gb194 ≠ gb212))
              have NB212_194 := Aside0.mk ((ne_gt hg (pk BK194) : gb212 ≠ gb194))
              have NB195_212 := Aside0.mk ((ne_lt hg (pk BK195) : gb195 ≠ gb212))
              have NB212_195 := Aside0.mk ((ne_gt hg (pk BK195) : gb212 ≠ gb195))
              replace BK194 := Aside0.mk (blk_below (g := gb194) (pk BK194) hb)
              replace BK195 := Aside0.mk (blk_below (g := gb195) (pk BK195) hb)
              replace HB := Aside0.mk (below_step (by repeat (first | (with_reducible first | exact HB.out | apply below_alloc | apply pw_below_drewN | apply below_drew1 | refine below_set ?_ GE194.out | refine below_set ?_ GE195.out) | exact HB.out)) hb)
              clear hb hbox hg
              refine hK.out _ _ ⟨bc BK194 0, bc BK194 1, bc BK194 2, bc BK194 3, bc BK194 4, bc BK194 5, bc BK194 6, bc BK194 7, bc BK194 8, bc BK195 0, bc BK195 1, bc BK195 2, bc BK195 3, bc BK195 4, bc BK195 5⟩ (fun hHeld => ?_)
              clear hK K
              refine norm_ (a' := ?_) ?_ ?_
              rotate_left
              · show Act.put _ (some 5) _ = _
                simp only [Act.put, List.setIfInBounds_toArray, List.set_cons_zero, List.set_cons_succ, i64_w, i32_w]
                rfl
              exact norm0_ (hJ1_3_4 (gb212) _ ⟨hHeld, (pk BK194), (pk BK195), (pk BK212), GW212.out, GE212.out, NB194_212.out, NB212_194.out, NB195_212.out, NB212_195.out, (by repeat (first | (with_reducible first | exact HB.out | apply below_alloc | apply pw_below_drewN | apply below_drew1 | refine below_set ?_ GE194.out | refine below_set ?_ GE195.out | refine below_set ?_ GE212.out) | exact HB.out))⟩)
            · skip
              refine box_step ?hg (N := 6) ?hd (cs := #[.string (⟨#[]⟩ : ByteArray), .int .i64 0, .int .i64 0, .int .i64 0, .int .i64 0, .int .i64 0]) (t := 25) ?hr ?_; (case hd => rfl); (case hg => rfl); (case hr => first | (go_simp; done) | (go_simp; rfl))
              intro gb213 hg w16 hbox hb
              have BK213 := Aside0.mk (hbox)
              have GW213 := Aside0.mk ((by rw [hg]; exact (below_size (by repeat (first | (with_reducible first | exact HB.out | apply below_alloc | apply pw_below_drewN | apply below_drew1 | refine below_set ?_ GE194.out | refine below_set ?_ GE195.out) | exact HB.out))) : w.heap.size ≤ gb213))
              have GE213 := GW213
              have NB194_213 := Aside0.mk ((ne_lt hg (pk BK194) : gb194 ≠ gb213))
              have NB213_194 := Aside0.mk ((ne_gt hg (pk BK194) : gb213 ≠ gb194))
              have NB195_213 := Aside0.mk ((ne_lt hg (pk BK195) : gb195 ≠ gb213))
              have NB213_195 := Aside0.mk ((ne_gt hg (pk BK195) : gb213 ≠ gb195))
              replace BK194 := Aside0.mk (blk_below (g := gb194) (pk BK194) hb)
              replace BK195 := Aside0.mk (blk_below (g := gb195) (pk BK195) hb)
              replace HB := Aside0.mk (below_step (by repeat (first | (with_reducible first | exact HB.out | apply below_alloc | apply pw_below_drewN | apply below_drew1 | refine below_set ?_ GE194.out | refine below_set ?_ GE195.out) | exact HB.out)) hb)
              clear hb hbox hg
              refine hK.out _ _ ⟨bc BK194 0, bc BK194 1, bc BK194 2, bc BK194 3, bc BK194 4, bc BK194 5, bc BK194 6, bc BK194 7, bc BK194 8, bc BK195 0, bc BK195 1, bc BK195 2, bc BK195 3, bc BK195 4, bc BK195 5⟩ (fun hHeld => ?_)
              clear hK K
              refine norm_ (a' := ?_) ?_ ?_
              rotate_left
              · show Act.put _ (some 6) _ = _
                simp only [Act.put, List.setIfInBounds_toArray, List.set_cons_zero, List.set_cons_succ, i64_w, i32_w]
                rfl
              exact norm0_ (hJ1_3_5 (gb213) _ ⟨hHeld, (pk BK194), (pk BK195), (pk BK213), GW213.out, GE213.out, NB194_213.out, NB213_194.out, NB195_213.out, NB213_195.out, (by repeat (first | (with_reducible first | exact HB.out | apply below_alloc | apply pw_below_drewN | apply below_drew1 | refine below_set ?_ GE194.out | refine below_set ?_ GE195.out | refine below_set ?_ GE213.out) | exact HB.out))⟩)
        · skip
          rintro ⟨gb212, gb213⟩ w16 ⟨hS_, h0_, h1_, h2_, h3_, h4_, h5_, h6_, h7_, h8_, h9_, h10_, h11_, h12_, h13_, h14_, h15_, h16_, h17_, h18_⟩
          have BK212 : Aside0 (w16.heap[gb212]? = some (.cells #[.int .i64 0, .int .i64 0, .int .i64 0, .int .i64 0, .int .i64 0, .int .i64 0, .int .i64 0, .int .i64 0, .int .i64 0] 23 (0, 0))) := ⟨h2_⟩
          have BK213 : Aside0 (w16.heap[gb213]? = some (.cells #[.string (⟨#[]⟩ : ByteArray), .int .i64 0, .int .i64 0, .int .i64 0, .int .i64 0, .int .i64 0] 25 (0, 0))) := ⟨h3_⟩
          have GW212 : Aside0 (w.heap.size ≤ gb212) := ⟨h4_⟩
          have GE212 : Aside0 (w.heap.size ≤ gb212) := ⟨h5_⟩
          have NB194_212 : Aside0 (gb194 ≠ gb212) := ⟨h6_⟩
          have NB212_194 : Aside0 (gb212 ≠ gb194) := ⟨h7_⟩
          have NB195_212 : Aside0 (gb195 ≠ gb212) := ⟨h8_⟩
          have NB212_195 : Aside0 (gb212 ≠ gb195) := ⟨h9_⟩
          have NB213_212 : Aside0 (gb213 ≠ gb212) := ⟨h10_⟩
          have NB212_213 : Aside0 (gb212 ≠ gb213) := ⟨h11_⟩
          have GW213 : Aside0 (w.heap.size ≤ gb213) := ⟨h12_⟩
          have GE213 : Aside0 (w.heap.size ≤ gb213) := ⟨h13_⟩
          have NB194_213 : Aside0 (gb194 ≠ gb213) := ⟨h14_⟩
          have NB213_194 : Aside0 (gb213 ≠ gb194) := ⟨h15_⟩
          have NB195_213 : Aside0 (gb195 ≠ gb213) := ⟨h16_⟩
          have NB213_195 : Aside0 (gb213 ≠ gb195) := ⟨h17_⟩
          replace BK194 := Aside0.mk h0_
          replace BK195 := Aside0.mk h1_
          replace HB : Aside0 (Below w.heap.size w w16) := ⟨h18_⟩
          clear h0_ h1_ h2_ h3_ h4_ h5_ h6_ h7_ h8_ h9_ h10_ h11_ h12_ h13_ h14_ h15_ h16_ h17_ h18_
          have hHeld := hS_
          refine norm_ (a' := ?_) ?_ ?_
          rotate_left
          · simp only [putAll, Act.put, List.setIfInBounds_toArray, List.set_cons_zero, List.set_cons_succ]
            rfl
          refine one_ (i := 3) (N := some 14) #[true, true, true, true, true, true, false, false] rfl rfl (one_of HT_.out (by kernel_rfl)) (by decide) (fun K hK => ?_)
          refine goes_ Try.func15 (by kernel_rfl) rfl #[.agg #[.string a1_0, .int .i64 a1_1, .int .i64 a1_2, .int .i64 a1_3, .int .i64 a1_4, .int .i64 a1_5], .int .i64 0] (by rfl) rfl rfl (by (try simp only [List.map_toArray, List.map_cons, List.map_nil]); first | done | rfl | (simp only [List.length_drop, List.length_take]; rfl)) ?_
          with_reducible refine (damperlaw2_Config.calls a1_0 a1_1 a1_2 a1_3 a1_4 a1_5 0 t206 t207 t208 t209 t210 t211 _ A6.out).mono ?_
          rintro e w17 ⟨rfl, hb⟩
          refine ⟨_, rfl, ?_⟩
          replace BK194 := Aside0.mk (blk_below (g := gb194) (pk BK194) hb)
          replace BK195 := Aside0.mk (blk_below (g := gb195) (pk BK195) hb)
          replace BK212 := Aside0.mk (blk_below (g := gb212) (pk BK212) hb)
          replace BK213 := Aside0.mk (blk_below (g := gb213) (pk BK213) hb)
          replace HB := Aside0.mk (below_step (by repeat (first | (with_reducible first | exact HB.out | apply below_alloc | apply pw_below_drewN | apply below_drew1 | refine below_set ?_ GE194.out | refine below_set ?_ GE195.out | refine below_set ?_ GE212.out | refine below_set ?_ GE213.out) | exact HB.out)) hb)
          (try clear hb)
          (try clear hb2)
          (try clear hk)
          (try clear hi)
          refine hK.out _ _ ⟨bc BK194 0, bc BK194 1, bc BK194 2, bc BK194 3, bc BK194 4, bc BK194 5, bc BK194 6, bc BK194 7, bc BK194 8, bc BK195 0, bc BK195 1, bc BK195 2, bc BK195 3, bc BK195 4, bc BK195 5⟩ (fun hHeld => ?_)
          clear hK K
          refine norm_ (a' := ?_) ?_ ?_
          rotate_left
          · show Act.put _ (some 14) _ = _
            simp only [Act.put, List.setIfInBounds_toArray, List.set_cons_zero, List.set_cons_succ, i64_w, i32_w]
            rfl
          exact norm0_ (hJ1_3_4_5 (gb212, gb213) _ ⟨hHeld, (pk BK194), (pk BK195), (pk BK212), (pk BK213), GW212.out, GE212.out, NB194_212.out, NB212_194.out, NB195_212.out, NB212_195.out, NB213_212.out, NB212_213.out, GW213.out, GE213.out, NB194_213.out, NB213_194.out, NB195_213.out, NB213_195.out, (by repeat (first | (with_reducible first | exact HB.out | apply below_alloc | apply pw_below_drewN | apply below_drew1 | refine below_set ?_ GE194.out | refine below_set ?_ GE195.out | refine below_set ?_ GE212.out | refine below_set ?_ GE213.out) | exact HB.out))⟩)
      · skip
        rintro gb213 w16 ⟨hS_, h0_, h1_, h2_, h3_, h4_, h5_, h6_, h7_, h8_, h9_⟩
        have BK213 := Aside0.mk h2_
        have GW213 : Aside0 (w.heap.size ≤ gb213) := ⟨h3_⟩
        have GE213 : Aside0 (w.heap.size ≤ gb213) := ⟨h4_⟩
        have NB194_213 : Aside0 (gb194 ≠ gb213) := ⟨h5_⟩
        have NB213_194 : Aside0 (gb213 ≠ gb194) := ⟨h6_⟩
        have NB195_213 : Aside0 (gb195 ≠ gb213) := ⟨h7_⟩
        have NB213_195 : Aside0 (gb213 ≠ gb195) := ⟨h8_⟩
        replace BK194 := Aside0.mk h0_
        replace BK195 := Aside0.mk h1_
        replace HB : Aside0 (Below w.heap.size w w16) := ⟨h9_⟩
        clear h0_ h1_ h2_ h3_ h4_ h5_ h6_ h7_ h8_ h9_
        have hHeld := hS_
        refine norm_ (a' := ?_) ?_ ?_
        rotate_left
        · simp only [putAll, Act.put, List.setIfInBounds_toArray, List.set_cons_zero, List.set_cons_succ]
          rfl
        refine one_ (i := 4) (N := some 5) #[true, true, true, true, true, true, false, false] rfl rfl (one_of HT_.out (by kernel_rfl)) (by decide) (fun K hK => ?_)
        refine box_step ?hg (N := 5) ?hd (cs := #[.int .i64 0, .int .i64 0, .int .i64 0, .int .i64 0, .int .i64 0, .int .i64 0, .int .i64 0, .int .i64 0, .int .i64 0]) (t := 23) ?hr ?_; (case hd => rfl); (case hg => rfl); (case hr => first | (go_simp; done) | (go_simp; rfl))
        intro gb212 hg w17 hbox hb
        have BK212 := Aside0.mk (hbox)
        have GW212 := Aside0.mk ((by rw [hg]; exact (below_size (by repeat (first | (with_reducible first | exact HB.out | apply below_alloc | apply pw_below_drewN | apply below_drew1 | refine below_set ?_ GE194.out | refine below_set ?_ GE195.out | refine below_set ?_ GE213.out) | exact HB.out))) : w.heap.size ≤ gb212))
        have GE212 := GW212
        have NB194_212 := Aside0.mk ((ne_lt hg (pk BK194) : gb194 ≠ gb212))
        have NB212_194 := Aside0.mk ((ne_gt hg (pk BK194) : gb212 ≠ gb194))
        have NB195_212 := Aside0.mk ((ne_lt hg (pk BK195) : gb195 ≠ gb212))
        have NB212_195 := Aside0.mk ((ne_gt hg (pk BK195) : gb212 ≠ gb195))
        have NB213_212 := Aside0.mk ((ne_lt hg (pk BK213) : gb213 ≠ gb212))
        have NB212_213 := Aside0.mk ((ne_gt hg (pk BK213) : gb212 ≠ gb213))
        replace BK194 := Aside0.mk (blk_below (g := gb194) (pk BK194) hb)
        replace BK195 := Aside0.mk (blk_below (g := gb195) (pk BK195) hb)
        replace BK213 := Aside0.mk (blk_below (g := gb213) (pk BK213) hb)
        replace HB := Aside0.mk (below_step (by repeat (first | (with_reducible first | exact HB.out | apply below_alloc | apply pw_below_drewN | apply below_drew1 | refine below_set ?_ GE194.out | refine below_set ?_ GE195.out | refine below_set ?_ GE213.out) | exact HB.out)) hb)
        clear hb hbox hg
        refine hK.out _ _ ⟨bc BK194 0, bc BK194 1, bc BK194 2, bc BK194 3, bc BK194 4, bc BK194 5, bc BK194 6, bc BK194 7, bc BK194 8, bc BK195 0, bc BK195 1, bc BK195 2, bc BK195 3, bc BK195 4, bc BK195 5⟩ (fun hHeld => ?_)
        clear hK K
        refine norm_ (a' := ?_) ?_ ?_
        rotate_left
        · show Act.put _ (some 5) _ = _
          simp only [Act.put, List.setIfInBounds_toArray, List.set_cons_zero, List.set_cons_succ, i64_w, i32_w]
          rfl
        exact norm0_ (hJ1_3_4_5 (gb212, gb213) _ ⟨hHeld, (pk BK194), (pk BK195), (pk BK212), (pk BK213), GW212.out, GE212.out, NB194_212.out, NB212_194.out, NB195_212.out, NB212_195.out, NB213_212.out, NB212_213.out, GW213.out, GE213.out, NB194_213.out, NB213_194.out, NB195_213.out, NB213_195.out, (by repeat (first | (with_reducible first | exact HB.out | apply below_alloc | apply pw_below_drewN | apply below_drew1 | refine below_set ?_ GE194.out | refine below_set ?_ GE195.out | refine below_set ?_ GE213.out | refine below_set ?_ GE212.out) | exact HB.out))⟩)
    · skip
      rintro gb212 w16 ⟨hS_, h0_, h1_, h2_, h3_, h4_, h5_, h6_, h7_, h8_, h9_⟩
      have BK212 := Aside0.mk h2_
      have GW212 : Aside0 (w.heap.size ≤ gb212) := ⟨h3_⟩
      have GE212 : Aside0 (w.heap.size ≤ gb212) := ⟨h4_⟩
      have NB194_212 : Aside0 (gb194 ≠ gb212) := ⟨h5_⟩
      have NB212_194 : Aside0 (gb212 ≠ gb194) := ⟨h6_⟩
      have NB195_212 : Aside0 (gb195 ≠ gb212) := ⟨h7_⟩
      have NB212_195 : Aside0 (gb212 ≠ gb195) := ⟨h8_⟩
      replace BK194 := Aside0.mk h0_
      replace BK195 := Aside0.mk h1_
      replace HB : Aside0 (Below w.heap.size w w16) := ⟨h9_⟩
      clear h0_ h1_ h2_ h3_ h4_ h5_ h6_ h7_ h8_ h9_
      have hHeld := hS_
      refine norm_ (a' := ?_) ?_ ?_
      rotate_left
      · simp only [putAll, Act.put, List.setIfInBounds_toArray, List.set_cons_zero, List.set_cons_succ]
        rfl
      refine one_ (i := 5) (N := some 6) #[true, true, true, true, true, true, false, false] rfl rfl (one_of HT_.out (by kernel_rfl)) (by decide) (fun K hK => ?_)
      refine box_step ?hg (N := 6) ?hd (cs := #[.string (⟨#[]⟩ : ByteArray), .int .i64 0, .int .i64 0, .int .i64 0, .int .i64 0, .int .i64 0]) (t := 25) ?hr ?_; (case hd => rfl); (case hg => rfl); (case hr => first | (go_simp; done) | (go_simp; rfl))
      intro gb213 hg w17 hbox hb
      have BK213 := Aside0.mk (hbox)
      have GW213 := Aside0.mk ((by rw [hg]; exact (below_size (by repeat (first | (with_reducible first | exact HB.out | apply below_alloc | apply pw_below_drewN | apply below_drew1 | refine below_set ?_ GE194.out | refine below_set ?_ GE195.out | refine below_set ?_ GE212.out) | exact HB.out))) : w.heap.size ≤ gb213))
      have GE213 := GW213
      have NB194_213 := Aside0.mk ((ne_lt hg (pk BK194) : gb194 ≠ gb213))
      have NB213_194 := Aside0.mk ((ne_gt hg (pk BK194) : gb213 ≠ gb194))
      have NB195_213 := Aside0.mk ((ne_lt hg (pk BK195) : gb195 ≠ gb213))
      have NB213_195 := Aside0.mk ((ne_gt hg (pk BK195) : gb213 ≠ gb195))
      have NB212_213 := Aside0.mk ((ne_lt hg (pk BK212) : gb212 ≠ gb213))
      have NB213_212 := Aside0.mk ((ne_gt hg (pk BK212) : gb213 ≠ gb212))
      replace BK194 := Aside0.mk (blk_below (g := gb194) (pk BK194) hb)
      replace BK195 := Aside0.mk (blk_below (g := gb195) (pk BK195) hb)
      replace BK212 := Aside0.mk (blk_below (g := gb212) (pk BK212) hb)
      replace HB := Aside0.mk (below_step (by repeat (first | (with_reducible first | exact HB.out | apply below_alloc | apply pw_below_drewN | apply below_drew1 | refine below_set ?_ GE194.out | refine below_set ?_ GE195.out | refine below_set ?_ GE212.out) | exact HB.out)) hb)
      clear hb hbox hg
      refine hK.out _ _ ⟨bc BK194 0, bc BK194 1, bc BK194 2, bc BK194 3, bc BK194 4, bc BK194 5, bc BK194 6, bc BK194 7, bc BK194 8, bc BK195 0, bc BK195 1, bc BK195 2, bc BK195 3, bc BK195 4, bc BK195 5⟩ (fun hHeld => ?_)
      clear hK K
      refine norm_ (a' := ?_) ?_ ?_
      rotate_left
      · show Act.put _ (some 6) _ = _
        simp only [Act.put, List.setIfInBounds_toArray, List.set_cons_zero, List.set_cons_succ, i64_w, i32_w]
        rfl
      exact norm0_ (hJ1_3_4_5 (gb212, gb213) _ ⟨hHeld, (pk BK194), (pk BK195), (pk BK212), (pk BK213), GW212.out, GE212.out, NB194_212.out, NB212_194.out, NB195_212.out, NB212_195.out, NB213_212.out, NB212_213.out, GW213.out, GE213.out, NB194_213.out, NB213_194.out, NB195_213.out, NB213_195.out, (by repeat (first | (with_reducible first | exact HB.out | apply below_alloc | apply pw_below_drewN | apply below_drew1 | refine below_set ?_ GE194.out | refine below_set ?_ GE195.out | refine below_set ?_ GE212.out | refine below_set ?_ GE213.out) | exact HB.out))⟩)
  · replace c4 := Bool.eq_false_iff.mpr c4
    subst c4
    have H1 : (some false) = some r := by rw [if_neg (show ¬ (false = true) by decide)] at H; exact H
    clear H
    have H := H1
    clear H1
    exact absurd (Option.some.inj H) (by rw [hr0_.out]; decide)

/-- THE ONE PURE STATEMENT of damperlaw10_ScaleBounds: yours. -/
def damperlaw10_ScaleBounds.Pure : Prop := ∀ (a0_0 : Int) (a0_1 : Int) (a0_2 : Int) (a0_3 : Int) (a0_4 : Int) (a0_5 : Int) (a0_6 : Int) (a0_7 : Int) (a0_8 : Int) (a1_0 : ByteArray) (a1_1 : Int) (a1_2 : Int) (a1_3 : Int) (a1_4 : Int) (a1_5 : Int), ((Lit.int .i64 a0_0).wf = true) → ((Lit.int .i64 a0_1).wf = true) → ((Lit.int .i64 a0_2).wf = true) → ((Lit.int .i64 a0_3).wf = true) → ((Lit.int .i64 a0_4).wf = true) → ((Lit.int .i64 a0_5).wf = true) → ((Lit.int .i64 a0_6).wf = true) → ((Lit.int .i64 a0_7).wf = true) → ((Lit.int .i64 a0_8).wf = true) → (a1_0.size ≤ maxLen) → ((Lit.int .i64 a1_1).wf = true) → ((Lit.int .i64 a1_2).wf = true) → ((Lit.int .i64 a1_3).wf = true) → ((Lit.int .i64 a1_4).wf = true) → ((Lit.int .i64 a1_5).wf = true) → ∃ k, damperlaw10_ScaleBounds.f k a0_0 a0_1 a0_2 a0_3 a0_4 a0_5 a0_6 a0_7 a0_8 a1_0 a1_1 a1_2 a1_3 a1_4 a1_5 = some true
theorem damperlaw10_ScaleBounds.walk (P : damperlaw10_ScaleBounds.Pure) (a0_0 : Int) (a0_1 : Int) (a0_2 : Int) (a0_3 : Int) (a0_4 : Int) (a0_5 : Int) (a0_6 : Int) (a0_7 : Int) (a0_8 : Int) (a1_0 : ByteArray) (a1_1 : Int) (a1_2 : Int) (a1_3 : Int) (a1_4 : Int) (a1_5 : Int) (w : World) (w0_0 : (Lit.int .i64 a0_0).wf = true) (w0_1 : (Lit.int .i64 a0_1).wf = true) (w0_2 : (Lit.int .i64 a0_2).wf = true) (w0_3 : (Lit.int .i64 a0_3).wf = true) (w0_4 : (Lit.int .i64 a0_4).wf = true) (w0_5 : (Lit.int .i64 a0_5).wf = true) (w0_6 : (Lit.int .i64 a0_6).wf = true) (w0_7 : (Lit.int .i64 a0_7).wf = true) (w0_8 : (Lit.int .i64 a0_8).wf = true) (w1_0 : a1_0.size ≤ maxLen) (w1_1 : (Lit.int .i64 a1_1).wf = true) (w1_2 : (Lit.int .i64 a1_2).wf = true) (w1_3 : (Lit.int .i64 a1_3).wf = true) (w1_4 : (Lit.int .i64 a1_4).wf = true) (w1_5 : (Lit.int .i64 a1_5).wf = true)  :
    Calls Try.prog 4 #[.agg #[.int .i64 a0_0, .int .i64 a0_1, .int .i64 a0_2, .int .i64 a0_3, .int .i64 a0_4, .int .i64 a0_5, .int .i64 a0_6, .int .i64 a0_7, .int .i64 a0_8], .agg #[.string a1_0, .int .i64 a1_1, .int .i64 a1_2, .int .i64 a1_3, .int .i64 a1_4, .int .i64 a1_5]] w fun e w' => e = .returned (.bool true) ∧ Below w.heap.size w w' := by
  obtain ⟨k, h⟩ := P a0_0 a0_1 a0_2 a0_3 a0_4 a0_5 a0_6 a0_7 a0_8 a1_0 a1_1 a1_2 a1_3 a1_4 a1_5 w0_0 w0_1 w0_2 w0_3 w0_4 w0_5 w0_6 w0_7 w0_8 w1_0 w1_1 w1_2 w1_3 w1_4 w1_5
  refine (damperlaw10_ScaleBounds.calls k a0_0 a0_1 a0_2 a0_3 a0_4 a0_5 a0_6 a0_7 a0_8 a1_0 a1_1 a1_2 a1_3 a1_4 a1_5 true w ⟨rfl⟩ h).mono ?_
  rintro e w' ⟨rfl, hd⟩
  exact ⟨rfl, hd⟩

end Go.Proofs.Ytlikdmeickbigaa.Ma
