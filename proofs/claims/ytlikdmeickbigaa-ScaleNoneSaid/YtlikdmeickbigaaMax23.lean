-- Written by a program of this session (wip/tools/myprint.py), in the form of the kit's print. Not trusted: Lean checks it.
import Derived.Test.YtlikdmeickbigaaMax0
import Derived.Test.YtlikdmeickbigaaMax6
import Derived.Test.YtlikdmeickbigaaMax7
import Derived.Test.YtlikdmeickbigaaMax8
import Derived.Test.YtlikdmeickbigaaMax11
namespace Go.Proofs.Ytlikdmeickbigaa.Ma
open Go.RowKit Go.Proofs.YtlikdmeickbigaaW.PrintWords Go.Proofs.YtlikdmeickbigaaW.PrintLast Go.Proofs.YtlikdmeickbigaaW.PrintMore
attribute [local go_sem] max2_int min2_int max_two min_two max_three min_three max_four min_four   -- for this text's walks alone
set_option linter.unusedVariables false
set_option linter.unusedSimpArgs false

/-! ### damperlaw10_ScaleNone: function 11 -/
mutual
def damperlaw10_ScaleNone.j0 : Nat → Int → Int → Int → Int → Int → ByteArray → Int → Int → Int → Int → Int → Int → Int → Option (Bool)
  | 0, _, _, _, _, _, _, _, _, _, _, _, _, _ => none
  | k + 1, x12, x13, x14, x15, x17, x377000, x377001, x377002, x377003, x377004, x377005, x384000, x384001 => if x13 > 0 then (damperlaw10_ScaleNone.j1 k x15 x17 true x377000 x377001 x377002 x377003 x377004 x377005 x384000 x384001) else (if x12 > 0 then (damperlaw10_ScaleNone.j1 k x15 x17 (decide (x14 < x377005)) x377000 x377001 x377002 x377003 x377004 x377005 x384000 x384001) else (damperlaw10_ScaleNone.j1 k x15 x17 false x377000 x377001 x377002 x377003 x377004 x377005 x384000 x384001))
def damperlaw10_ScaleNone.j1 : Nat → Int → Int → Bool → ByteArray → Int → Int → Int → Int → Int → Int → Int → Option (Bool)
  | 0, _, _, _, _, _, _, _, _, _, _, _ => none
  | k + 1, x15, x17, x48, x377000, x377001, x377002, x377003, x377004, x377005, x384000, x384001 => if x48 = true then (if x384001 = 0 then (some (x384000 == (mn x377004 (mx (mx 1 (wrap64 (Int.tdiv x15 2))) x377003)))) else (some false)) else (if x384001 = 0 then (some (x384000 == (mn x377004 (mx (mx x17 (wrap64 (Int.tdiv x15 2))) x377003)))) else (some false))
end
def damperlaw10_ScaleNone.f (k : Nat) (a0_0 : ByteArray) (a0_1 : Int) (a0_2 : Int) (a0_3 : Int) (a0_4 : Int) (a0_5 : Int) (a1 : Int) (a2 : Int) (a3 : Int) (a4 : Int) : Option (Bool) := (damperlaw10_known.f k).bind fun t369 => (if t369 = true then ((damperlaw2_Config.f a0_0 a0_1 a0_2 a0_3 a0_4 a0_5 0).bind fun bt370 => ((damperlaw10_within.f a1 11).bind fun t377 => ((damperlaw10_within.f a2 3).bind fun t378 => ((damperlaw10_within.f a3 40).bind fun t379 => ((damperlaw10_within.f a4 12).bind fun t380 => ((scale_Decide.f k t377 0 bt370.1 bt370.2.1 bt370.2.2.1 bt370.2.2.2.1 bt370.2.2.2.2.1 bt370.2.2.2.2.2 t380 t378 0 0 0 0 t379).bind fun bt381 => (damperlaw10_ScaleNone.j0 k t377 t378 t379 t380 0 bt370.1 bt370.2.1 bt370.2.2.1 bt370.2.2.2.1 bt370.2.2.2.2.1 bt370.2.2.2.2.2 bt381.1 bt381.2))))))) else (some false))
theorem damperlaw10_ScaleNone.mono_l : ∀ k, (∀ y0 y1 y2 y3 y4 y5 y6 y7 y8 y9 y10 y11 y12, LeO (damperlaw10_ScaleNone.j0 k y0 y1 y2 y3 y4 y5 y6 y7 y8 y9 y10 y11 y12) (damperlaw10_ScaleNone.j0 (k + 1) y0 y1 y2 y3 y4 y5 y6 y7 y8 y9 y10 y11 y12)) ∧ (∀ y0 y1 y2 y3 y4 y5 y6 y7 y8 y9 y10, LeO (damperlaw10_ScaleNone.j1 k y0 y1 y2 y3 y4 y5 y6 y7 y8 y9 y10) (damperlaw10_ScaleNone.j1 (k + 1) y0 y1 y2 y3 y4 y5 y6 y7 y8 y9 y10))
  | 0 => ⟨fun _ _ _ _ _ _ _ _ _ _ _ _ _ r h => by simp [damperlaw10_ScaleNone.j0] at h, fun _ _ _ _ _ _ _ _ _ _ _ r h => by simp [damperlaw10_ScaleNone.j1] at h⟩
  | k + 1 => by
    obtain ⟨ih0, ih1⟩ := damperlaw10_ScaleNone.mono_l k
    refine ⟨?_, ?_⟩
    · intro y0 y1 y2 y3 y4 y5 y6 y7 y8 y9 y10 y11 y12
      unfold damperlaw10_ScaleNone.j0
      repeat' first
      | (with_reducible exact ih0 _ _ _ _ _ _ _ _ _ _ _ _ _)
      | (with_reducible exact ih1 _ _ _ _ _ _ _ _ _ _ _)
      | (with_reducible exact damperlaw10_known.mono _)
      | (with_reducible exact scale_Decide.mono _ _ _ _ _ _ _ _ _ _ _ _ _ _ _ _)
      | (with_reducible exact LeO.refl _)
      | (with_reducible exact LeO.none _)
      | (with_reducible refine LeO.ite ?_ ?_)
      | (with_reducible refine LeO.bind ?_ (fun _ => ?_))
      | exact ih0 _ _ _ _ _ _ _ _ _ _ _ _ _
      | exact ih1 _ _ _ _ _ _ _ _ _ _ _
      | exact damperlaw10_known.mono _
      | exact scale_Decide.mono _ _ _ _ _ _ _ _ _ _ _ _ _ _ _ _
      | exact LeO.none _
      | refine LeO.ite ?_ ?_
      | refine LeO.bind ?_ (fun _ => ?_)
    · intro y0 y1 y2 y3 y4 y5 y6 y7 y8 y9 y10
      unfold damperlaw10_ScaleNone.j1
      repeat' first
      | (with_reducible exact ih0 _ _ _ _ _ _ _ _ _ _ _ _ _)
      | (with_reducible exact ih1 _ _ _ _ _ _ _ _ _ _ _)
      | (with_reducible exact damperlaw10_known.mono _)
      | (with_reducible exact scale_Decide.mono _ _ _ _ _ _ _ _ _ _ _ _ _ _ _ _)
      | (with_reducible exact LeO.refl _)
      | (with_reducible exact LeO.none _)
      | (with_reducible refine LeO.ite ?_ ?_)
      | (with_reducible refine LeO.bind ?_ (fun _ => ?_))
      | exact ih0 _ _ _ _ _ _ _ _ _ _ _ _ _
      | exact ih1 _ _ _ _ _ _ _ _ _ _ _
      | exact damperlaw10_known.mono _
      | exact scale_Decide.mono _ _ _ _ _ _ _ _ _ _ _ _ _ _ _ _
      | exact LeO.none _
      | refine LeO.ite ?_ ?_
      | refine LeO.bind ?_ (fun _ => ?_)
theorem damperlaw10_ScaleNone.mono : ∀ a0 a1 a2 a3 a4 a5 a6 a7 a8 a9 k, LeO (damperlaw10_ScaleNone.f k a0 a1 a2 a3 a4 a5 a6 a7 a8 a9) (damperlaw10_ScaleNone.f (k + 1) a0 a1 a2 a3 a4 a5 a6 a7 a8 a9) := by
  intro a0 a1 a2 a3 a4 a5 a6 a7 a8 a9 k
  obtain ⟨ih0, ih1⟩ := damperlaw10_ScaleNone.mono_l k
  unfold damperlaw10_ScaleNone.f
  repeat' first
      | (with_reducible exact ih0 _ _ _ _ _ _ _ _ _ _ _ _ _)
      | (with_reducible exact ih1 _ _ _ _ _ _ _ _ _ _ _)
      | (with_reducible exact damperlaw10_known.mono _)
      | (with_reducible exact scale_Decide.mono _ _ _ _ _ _ _ _ _ _ _ _ _ _ _ _)
      | (with_reducible exact LeO.refl _)
      | (with_reducible exact LeO.none _)
      | (with_reducible refine LeO.ite ?_ ?_)
      | (with_reducible refine LeO.bind ?_ (fun _ => ?_))
      | exact ih0 _ _ _ _ _ _ _ _ _ _ _ _ _
      | exact ih1 _ _ _ _ _ _ _ _ _ _ _
      | exact damperlaw10_known.mono _
      | exact scale_Decide.mono _ _ _ _ _ _ _ _ _ _ _ _ _ _ _ _
      | exact LeO.none _
      | refine LeO.ite ?_ ?_
      | refine LeO.bind ?_ (fun _ => ?_)
set_option maxHeartbeats 8000000 in
set_option maxRecDepth 100000 in
theorem damperlaw10_ScaleNone.calls (k : Nat) (a0_0 : ByteArray) (a0_1 : Int) (a0_2 : Int) (a0_3 : Int) (a0_4 : Int) (a0_5 : Int) (a1 : Int) (a2 : Int) (a3 : Int) (a4 : Int) (r : Bool) (w : World) (hr0_ : Aside0 (r = true)) (h : damperlaw10_ScaleNone.f k a0_0 a0_1 a0_2 a0_3 a0_4 a0_5 a1 a2 a3 a4 = some r) :
    Calls Try.prog 11 #[.agg #[.string a0_0, .int .i64 a0_1, .int .i64 a0_2, .int .i64 a0_3, .int .i64 a0_4, .int .i64 a0_5], .int .i64 a1, .int .i64 a2, .int .i64 a3, .int .i64 a4] w fun e w' => e = .returned (.bool r) ∧ Below w.heap.size w w' := by
  have hu25 := Try.underlying25
  have hu30 := Try.underlying30
  have HB := Aside0.mk (Below.refl w.heap.size w)
  have H : ((damperlaw10_known.f k).bind fun t369 => (if t369 = true then ((damperlaw2_Config.f a0_0 a0_1 a0_2 a0_3 a0_4 a0_5 0).bind fun bt370 => ((damperlaw10_within.f a1 11).bind fun t377 => ((damperlaw10_within.f a2 3).bind fun t378 => ((damperlaw10_within.f a3 40).bind fun t379 => ((damperlaw10_within.f a4 12).bind fun t380 => ((scale_Decide.f k t377 0 bt370.1 bt370.2.1 bt370.2.2.1 bt370.2.2.2.1 bt370.2.2.2.2.1 bt370.2.2.2.2.2 t380 t378 0 0 0 0 t379).bind fun bt381 => (damperlaw10_ScaleNone.j0 k t377 t378 t379 t380 0 bt370.1 bt370.2.1 bt370.2.2.1 bt370.2.2.2.1 bt370.2.2.2.2.1 bt370.2.2.2.2.2 bt381.1 bt381.2))))))) else (some false))) = some r := h
  clear h
  replace H := Option.bind_eq_some_iff.mp H
  obtain ⟨t369, A60, H⟩ := H
  replace H : (if t369 = true then ((damperlaw2_Config.f a0_0 a0_1 a0_2 a0_3 a0_4 a0_5 0).bind fun bt370 => ((damperlaw10_within.f a1 11).bind fun t377 => ((damperlaw10_within.f a2 3).bind fun t378 => ((damperlaw10_within.f a3 40).bind fun t379 => ((damperlaw10_within.f a4 12).bind fun t380 => ((scale_Decide.f k t377 0 bt370.1 bt370.2.1 bt370.2.2.1 bt370.2.2.2.1 bt370.2.2.2.2.1 bt370.2.2.2.2.2 t380 t378 0 0 0 0 t379).bind fun bt381 => (damperlaw10_ScaleNone.j0 k t377 t378 t379 t380 0 bt370.1 bt370.2.1 bt370.2.2.1 bt370.2.2.2.1 bt370.2.2.2.2.1 bt370.2.2.2.2.2 bt381.1 bt381.2))))))) else (some false)) = some r := H
  have A6 := Aside0.mk A60
  clear A60
  by_cases c7 : t369 = true
  · subst c7
    have H1 : ((damperlaw2_Config.f a0_0 a0_1 a0_2 a0_3 a0_4 a0_5 0).bind fun bt370 => ((damperlaw10_within.f a1 11).bind fun t377 => ((damperlaw10_within.f a2 3).bind fun t378 => ((damperlaw10_within.f a3 40).bind fun t379 => ((damperlaw10_within.f a4 12).bind fun t380 => ((scale_Decide.f k t377 0 bt370.1 bt370.2.1 bt370.2.2.1 bt370.2.2.2.1 bt370.2.2.2.2.1 bt370.2.2.2.2.2 t380 t378 0 0 0 0 t379).bind fun bt381 => (damperlaw10_ScaleNone.j0 k t377 t378 t379 t380 0 bt370.1 bt370.2.1 bt370.2.2.1 bt370.2.2.2.1 bt370.2.2.2.2.1 bt370.2.2.2.2.2 bt381.1 bt381.2))))))) = some r := by rw [if_pos rfl] at H; exact H
    clear H
    have H := H1
    clear H1
    replace H := Option.bind_eq_some_iff.mp H
    obtain ⟨⟨t370, t371, t372, t373, t374, t375⟩, A80, H⟩ := H
    replace H : ((damperlaw10_within.f a1 11).bind fun t377 => ((damperlaw10_within.f a2 3).bind fun t378 => ((damperlaw10_within.f a3 40).bind fun t379 => ((damperlaw10_within.f a4 12).bind fun t380 => ((scale_Decide.f k t377 0 t370 t371 t372 t373 t374 t375 t380 t378 0 0 0 0 t379).bind fun bt381 => (damperlaw10_ScaleNone.j0 k t377 t378 t379 t380 0 t370 t371 t372 t373 t374 t375 bt381.1 bt381.2)))))) = some r := H
    have A8 := Aside0.mk A80
    clear A80
    replace H := Option.bind_eq_some_iff.mp H
    obtain ⟨t377, A90, H⟩ := H
    replace H : ((damperlaw10_within.f a2 3).bind fun t378 => ((damperlaw10_within.f a3 40).bind fun t379 => ((damperlaw10_within.f a4 12).bind fun t380 => ((scale_Decide.f k t377 0 t370 t371 t372 t373 t374 t375 t380 t378 0 0 0 0 t379).bind fun bt381 => (damperlaw10_ScaleNone.j0 k t377 t378 t379 t380 0 t370 t371 t372 t373 t374 t375 bt381.1 bt381.2))))) = some r := H
    have A9 := Aside0.mk A90
    clear A90
    replace H := Option.bind_eq_some_iff.mp H
    obtain ⟨t378, A100, H⟩ := H
    replace H : ((damperlaw10_within.f a3 40).bind fun t379 => ((damperlaw10_within.f a4 12).bind fun t380 => ((scale_Decide.f k t377 0 t370 t371 t372 t373 t374 t375 t380 t378 0 0 0 0 t379).bind fun bt381 => (damperlaw10_ScaleNone.j0 k t377 t378 t379 t380 0 t370 t371 t372 t373 t374 t375 bt381.1 bt381.2)))) = some r := H
    have A10 := Aside0.mk A100
    clear A100
    replace H := Option.bind_eq_some_iff.mp H
    obtain ⟨t379, A110, H⟩ := H
    replace H : ((damperlaw10_within.f a4 12).bind fun t380 => ((scale_Decide.f k t377 0 t370 t371 t372 t373 t374 t375 t380 t378 0 0 0 0 t379).bind fun bt381 => (damperlaw10_ScaleNone.j0 k t377 t378 t379 t380 0 t370 t371 t372 t373 t374 t375 bt381.1 bt381.2))) = some r := H
    have A11 := Aside0.mk A110
    clear A110
    replace H := Option.bind_eq_some_iff.mp H
    obtain ⟨t380, A120, H⟩ := H
    replace H : ((scale_Decide.f k t377 0 t370 t371 t372 t373 t374 t375 t380 t378 0 0 0 0 t379).bind fun bt381 => (damperlaw10_ScaleNone.j0 k t377 t378 t379 t380 0 t370 t371 t372 t373 t374 t375 bt381.1 bt381.2)) = some r := H
    have A12 := Aside0.mk A120
    clear A120
    replace H := Option.bind_eq_some_iff.mp H
    obtain ⟨⟨t381, t382⟩, A130, H⟩ := H
    replace H : (damperlaw10_ScaleNone.j0 k t377 t378 t379 t380 0 t370 t371 t372 t373 t374 t375 t381 t382) = some r := H
    have A13 := Aside0.mk A130
    clear A130
    have HC14 := Aside0.mk H
    clear H
    go_enter Try.func11, Try.ntmps11
    go_upto_region 6 with (first | ((with_reducible refine gate_dst (N := 5) rfl ?_); (try (refine gate_guard (by rfl) ?_; dsimp only)); refine box_event ?hg (N := 5) ?hd (cs := #[.string a0_0, .int .i64 a0_1, .int .i64 a0_2, .int .i64 a0_3, .int .i64 a0_4, .int .i64 a0_5]) (t := 25) ?hr ?_; (case hd => rfl); (case hg => rfl); (case hr => first | (go_simp; done) | (go_simp; rfl)); intro gb368 hg w15 hbox hb; have n0_ := Aside0.mk (below_step (by repeat (first | (with_reducible first | exact HB.out | apply below_alloc | apply pw_below_drewN | apply below_drew1) | exact HB.out)) hb); have n1_ := Aside0.mk (hbox); have n2_ := Aside0.mk ((by rw [hg]; exact (below_size (by repeat (first | (with_reducible first | exact HB.out | apply below_alloc | apply pw_below_drewN | apply below_drew1) | exact HB.out))) : w.heap.size ≤ gb368)); have n3_ := Aside0.mk ((by rw [hg]; exact (below_size (by repeat (first | (with_reducible first | exact HB.out | apply below_alloc | apply pw_below_drewN | apply below_drew1) | exact HB.out))) : w.heap.size ≤ gb368)); clear HB; have HB := n0_; have BK368 := n1_; have GW368 := n2_; have GE368 := n3_; clear n0_ n1_ n2_ n3_; clear hb hbox hg) | ((with_reducible refine gate_callee (f := 13) rfl ?_); refine goesL_ (some 18) rfl rfl Try.func13 (by kernel_rfl) rfl #[] rfl (by (try simp only [List.map_toArray, List.map_cons, List.map_nil]); first | done | rfl | (simp only [List.length_drop, List.length_take]; rfl)) ?_; (with_reducible refine (damperlaw10_known.calls k  true _ A6.out).mono ?_); rintro e w16 ⟨rfl, hb⟩; refine ⟨_, rfl, ?_⟩; have n0_ := Aside0.mk (blk_below (g := gb368) (pk BK368) hb); have n1_ := Aside0.mk (below_step (by repeat (first | (with_reducible first | exact HB.out | apply below_alloc | apply pw_below_drewN | apply below_drew1 | refine below_set ?_ GE368.out) | exact HB.out)) hb); clear BK368; clear HB; have BK368 := n0_; have HB := n1_; clear n0_ n1_; (try clear hb); (try clear hb2); (try clear hk); (try clear hi); have hcz17_0 : w16.cell? ⟨gb368, 0, none⟩ = some (.string a0_0) := (blk_cell BK368.out 0).trans rfl; have hcz17_1 : w16.cell? ⟨gb368, 1, none⟩ = some (.int .i64 a0_1) := (blk_cell BK368.out 1).trans rfl; have hcz17_2 : w16.cell? ⟨gb368, 2, none⟩ = some (.int .i64 a0_2) := (blk_cell BK368.out 2).trans rfl; have hcz17_3 : w16.cell? ⟨gb368, 3, none⟩ = some (.int .i64 a0_3) := (blk_cell BK368.out 3).trans rfl; have hcz17_4 : w16.cell? ⟨gb368, 4, none⟩ = some (.int .i64 a0_4) := (blk_cell BK368.out 4).trans rfl; have hcz17_5 : w16.cell? ⟨gb368, 5, none⟩ = some (.int .i64 a0_5) := (blk_cell BK368.out 5).trans rfl; have hfz17_0 := blk_frozen BK368.out 0; have hfz17_1 := blk_frozen BK368.out 1; have hfz17_2 := blk_frozen BK368.out 2; have hfz17_3 := blk_frozen BK368.out 3; have hfz17_4 := blk_frozen BK368.out 4; have hfz17_5 := blk_frozen BK368.out 5) | ((with_reducible refine gate_callee (f := 15) rfl ?_); refine goesL_ (some 21) rfl rfl Try.func15 (by kernel_rfl) rfl #[.agg #[.string a0_0, .int .i64 a0_1, .int .i64 a0_2, .int .i64 a0_3, .int .i64 a0_4, .int .i64 a0_5], .int .i64 0] rfl (by (try simp only [List.map_toArray, List.map_cons, List.map_nil]); first | done | rfl | (simp only [List.length_drop, List.length_take]; rfl)) ?_; (with_reducible refine (damperlaw2_Config.calls a0_0 a0_1 a0_2 a0_3 a0_4 a0_5 0 t370 t371 t372 t373 t374 t375 _ A8.out).mono ?_); rintro e w18 ⟨rfl, hb⟩; refine ⟨_, rfl, ?_⟩; have n0_ := Aside0.mk (blk_below (g := gb368) (pk BK368) hb); have n1_ := Aside0.mk (below_step (by repeat (first | (with_reducible first | exact HB.out | apply below_alloc | apply pw_below_drewN | apply below_drew1 | refine below_set ?_ GE368.out) | exact HB.out)) hb); clear BK368; clear HB; have BK368 := n0_; have HB := n1_; clear n0_ n1_; (try clear hb); (try clear hb2); (try clear hk); (try clear hi)) | ((with_reducible refine gate_dst (N := 11) rfl ?_); (try (refine gate_guard (by rfl) ?_; dsimp only)); refine box_event ?hg (N := 11) ?hd (cs := #[.string (⟨#[]⟩ : ByteArray), .int .i64 0, .int .i64 0, .int .i64 0, .int .i64 0, .int .i64 0]) (t := 25) ?hr ?_; (case hd => rfl); (case hg => rfl); (case hr => first | (go_simp; done) | (go_simp; rfl)); intro gb376 hg w19 hbox hb; have n0_ := Aside0.mk (blk_below (g := gb368) (pk BK368) hb); have n1_ := Aside0.mk (below_step (by repeat (first | (with_reducible first | exact HB.out | apply below_alloc | apply pw_below_drewN | apply below_drew1 | refine below_set ?_ GE368.out) | exact HB.out)) hb); have n2_ := Aside0.mk (hbox); have n3_ := Aside0.mk ((by rw [hg]; exact (below_size (by repeat (first | (with_reducible first | exact HB.out | apply below_alloc | apply pw_below_drewN | apply below_drew1 | refine below_set ?_ GE368.out) | exact HB.out))) : w.heap.size ≤ gb376)); have n4_ := Aside0.mk ((by rw [hg]; exact (below_size (by repeat (first | (with_reducible first | exact HB.out | apply below_alloc | apply pw_below_drewN | apply below_drew1 | refine below_set ?_ GE368.out) | exact HB.out))) : w.heap.size ≤ gb376)); have n5_ := Aside0.mk ((by rw [hg]; exact Nat.ne_of_lt (blk_lt (g := gb368) (pk BK368)) : gb368 ≠ gb376)); have n6_ := Aside0.mk ((by rw [hg]; exact Nat.ne_of_gt (blk_lt (g := gb368) (pk BK368)) : gb376 ≠ gb368)); clear BK368; clear HB; have BK368 := n0_; have HB := n1_; have BK376 := n2_; have GW376 := n3_; have GE376 := n4_; have NB368_376 := n5_; have NB376_368 := n6_; clear n0_ n1_ n2_ n3_ n4_ n5_ n6_; clear hb hbox hg; have hnb20 := NB376_368.out; have hnc20 := NB368_376.out; have hcz21_0 : w19.cell? ⟨gb376, 0, none⟩ = some (.string (⟨#[]⟩ : ByteArray)) := (blk_cell BK376.out 0).trans rfl; have hcz21_1 : w19.cell? ⟨gb376, 1, none⟩ = some (.int .i64 0) := (blk_cell BK376.out 1).trans rfl; have hcz21_2 : w19.cell? ⟨gb376, 2, none⟩ = some (.int .i64 0) := (blk_cell BK376.out 2).trans rfl; have hcz21_3 : w19.cell? ⟨gb376, 3, none⟩ = some (.int .i64 0) := (blk_cell BK376.out 3).trans rfl; have hcz21_4 : w19.cell? ⟨gb376, 4, none⟩ = some (.int .i64 0) := (blk_cell BK376.out 4).trans rfl; have hcz21_5 : w19.cell? ⟨gb376, 5, none⟩ = some (.int .i64 0) := (blk_cell BK376.out 5).trans rfl; have hfz21_0 := blk_frozen BK376.out 0; have hfz21_1 := blk_frozen BK376.out 1; have hfz21_2 := blk_frozen BK376.out 2; have hfz21_3 := blk_frozen BK376.out 3; have hfz21_4 := blk_frozen BK376.out 4; have hfz21_5 := blk_frozen BK376.out 5) | ((with_reducible refine gate_callee (f := 18) rfl ?_); refine goesL_ (some 23) rfl rfl Try.func18 (by kernel_rfl) rfl #[.int .i64 a1, .int .i64 11] rfl (by (try simp only [List.map_toArray, List.map_cons, List.map_nil]); first | done | rfl | (simp only [List.length_drop, List.length_take]; rfl)) ?_; (with_reducible refine (damperlaw10_within.calls a1 11 t377 _ A9.out).mono ?_); rintro e w' ⟨rfl, ⟨nd, rfl⟩⟩; refine ⟨_, rfl, ?_⟩) | ((with_reducible refine gate_callee (f := 18) rfl ?_); refine goesL_ (some 25) rfl rfl Try.func18 (by kernel_rfl) rfl #[.int .i64 a2, .int .i64 3] rfl (by (try simp only [List.map_toArray, List.map_cons, List.map_nil]); first | done | rfl | (simp only [List.length_drop, List.length_take]; rfl)) ?_; (with_reducible refine (damperlaw10_within.calls a2 3 t378 _ A10.out).mono ?_); rintro e w' ⟨rfl, ⟨nd, rfl⟩⟩; refine ⟨_, rfl, ?_⟩) | ((with_reducible refine gate_callee (f := 18) rfl ?_); refine goesL_ (some 27) rfl rfl Try.func18 (by kernel_rfl) rfl #[.int .i64 a3, .int .i64 40] rfl (by (try simp only [List.map_toArray, List.map_cons, List.map_nil]); first | done | rfl | (simp only [List.length_drop, List.length_take]; rfl)) ?_; (with_reducible refine (damperlaw10_within.calls a3 40 t379 _ A11.out).mono ?_); rintro e w' ⟨rfl, ⟨nd, rfl⟩⟩; refine ⟨_, rfl, ?_⟩) | ((with_reducible refine gate_callee (f := 18) rfl ?_); refine goesL_ (some 29) rfl rfl Try.func18 (by kernel_rfl) rfl #[.int .i64 a4, .int .i64 12] rfl (by (try simp only [List.map_toArray, List.map_cons, List.map_nil]); first | done | rfl | (simp only [List.length_drop, List.length_take]; rfl)) ?_; (with_reducible refine (damperlaw10_within.calls a4 12 t380 _ A12.out).mono ?_); rintro e w' ⟨rfl, ⟨nd, rfl⟩⟩; refine ⟨_, rfl, ?_⟩) | ((with_reducible refine gate_callee (f := 21) rfl ?_); refine goesL_ (some 36) rfl rfl Try.func21 (by kernel_rfl) rfl #[.agg #[.int .i64 t377, .int .i64 0], .agg #[.string t370, .int .i64 t371, .int .i64 t372, .int .i64 t373, .int .i64 t374, .int .i64 t375], .int .i64 t380, .int .i64 t378, .int .i64 0, .int .i64 0, .int .i64 0, .int .i64 0, .int .i64 t379] rfl (by (try simp only [List.map_toArray, List.map_cons, List.map_nil]); first | done | rfl | (simp only [List.length_drop, List.length_take]; rfl)) ?_; (with_reducible refine (scale_Decide.calls k t377 0 t370 t371 t372 t373 t374 t375 t380 t378 0 0 0 0 t379 t381 t382 _ A13.out).mono ?_); rintro e w22 ⟨rfl, hb⟩; refine ⟨_, rfl, ?_⟩; have n0_ := Aside0.mk (blk_below (g := gb368) (o := .cells #[.string a0_0, .int .i64 a0_1, .int .i64 a0_2, .int .i64 a0_3, .int .i64 a0_4, .int .i64 a0_5] 25 (0, 0)) (by (with_reducible repeat (first | refine blk_drewN ?_ _ | refine blk_drew ?_ | refine blk_alloc ?_ _)); refine blk_far ?_ NB368_376.out _; (with_reducible repeat (first | refine blk_drewN ?_ _ | refine blk_drew ?_ | refine blk_alloc ?_ _)); refine blk_far ?_ NB368_376.out _; (with_reducible repeat (first | refine blk_drewN ?_ _ | refine blk_drew ?_ | refine blk_alloc ?_ _)); refine blk_far ?_ NB368_376.out _; (with_reducible repeat (first | refine blk_drewN ?_ _ | refine blk_drew ?_ | refine blk_alloc ?_ _)); refine blk_far ?_ NB368_376.out _; (with_reducible repeat (first | refine blk_drewN ?_ _ | refine blk_drew ?_ | refine blk_alloc ?_ _)); refine blk_far ?_ NB368_376.out _; (with_reducible repeat (first | refine blk_drewN ?_ _ | refine blk_drew ?_ | refine blk_alloc ?_ _)); refine blk_far ?_ NB368_376.out _; (with_reducible repeat (first | refine blk_drewN ?_ _ | refine blk_drew ?_ | refine blk_alloc ?_ _)); exact BK368.out) hb); have n1_ := Aside0.mk (blk_below (g := gb376) (o := .cells #[.string t370, .int .i64 t371, .int .i64 t372, .int .i64 t373, .int .i64 t374, .int .i64 t375] 25 (0, 0)) (by (with_reducible repeat (first | refine blk_drewN ?_ _ | refine blk_drew ?_ | refine blk_alloc ?_ _)); refine blk_put (cs := #[.string t370, .int .i64 t371, .int .i64 t372, .int .i64 t373, .int .i64 t374, .int .i64 0]) ?_ 5 _ rfl; (with_reducible repeat (first | refine blk_drewN ?_ _ | refine blk_drew ?_ | refine blk_alloc ?_ _)); refine blk_put (cs := #[.string t370, .int .i64 t371, .int .i64 t372, .int .i64 t373, .int .i64 0, .int .i64 0]) ?_ 4 _ rfl; (with_reducible repeat (first | refine blk_drewN ?_ _ | refine blk_drew ?_ | refine blk_alloc ?_ _)); refine blk_put (cs := #[.string t370, .int .i64 t371, .int .i64 t372, .int .i64 0, .int .i64 0, .int .i64 0]) ?_ 3 _ rfl; (with_reducible repeat (first | refine blk_drewN ?_ _ | refine blk_drew ?_ | refine blk_alloc ?_ _)); refine blk_put (cs := #[.string t370, .int .i64 t371, .int .i64 0, .int .i64 0, .int .i64 0, .int .i64 0]) ?_ 2 _ rfl; (with_reducible repeat (first | refine blk_drewN ?_ _ | refine blk_drew ?_ | refine blk_alloc ?_ _)); refine blk_put (cs := #[.string t370, .int .i64 0, .int .i64 0, .int .i64 0, .int .i64 0, .int .i64 0]) ?_ 1 _ rfl; (with_reducible repeat (first | refine blk_drewN ?_ _ | refine blk_drew ?_ | refine blk_alloc ?_ _)); refine blk_put (cs := #[.string (⟨#[]⟩ : ByteArray), .int .i64 0, .int .i64 0, .int .i64 0, .int .i64 0, .int .i64 0]) ?_ 0 _ rfl; (with_reducible repeat (first | refine blk_drewN ?_ _ | refine blk_drew ?_ | refine blk_alloc ?_ _)); exact BK376.out) hb); have n2_ := Aside0.mk (below_step (by repeat (first | (with_reducible first | exact HB.out | apply below_alloc | apply pw_below_drewN | apply below_drew1 | refine below_set ?_ GE368.out | refine below_set ?_ GE376.out) | exact HB.out)) hb); clear BK368; clear BK376; clear HB; have BK368 := n0_; have BK376 := n1_; have HB := n2_; clear n0_ n1_ n2_; (try clear hb); (try clear hb2); (try clear hk); (try clear hi)) | ((with_reducible refine gate_dst (N := 16) rfl ?_); (try (refine gate_guard (by rfl) ?_; dsimp only)); refine box_event ?hg (N := 16) ?hd (cs := #[.int .i64 0, .int .i64 0]) (t := 30) ?hr ?_; (case hd => rfl); (case hg => rfl); (case hr => first | (go_simp; done) | (go_simp; rfl)); intro gb383 hg w23 hbox hb; have n0_ := Aside0.mk (blk_below (g := gb368) (pk BK368) hb); have n1_ := Aside0.mk (blk_below (g := gb376) (pk BK376) hb); have n2_ := Aside0.mk (below_step (by repeat (first | (with_reducible first | exact HB.out | apply below_alloc | apply pw_below_drewN | apply below_drew1 | refine below_set ?_ GE368.out | refine below_set ?_ GE376.out) | exact HB.out)) hb); have n3_ := Aside0.mk (hbox); have n4_ := Aside0.mk ((by rw [hg]; exact (below_size (by repeat (first | (with_reducible first | exact HB.out | apply below_alloc | apply pw_below_drewN | apply below_drew1 | refine below_set ?_ GE368.out | refine below_set ?_ GE376.out) | exact HB.out))) : w.heap.size ≤ gb383)); have n5_ := Aside0.mk ((by rw [hg]; exact (below_size (by repeat (first | (with_reducible first | exact HB.out | apply below_alloc | apply pw_below_drewN | apply below_drew1 | refine below_set ?_ GE368.out | refine below_set ?_ GE376.out) | exact HB.out))) : w.heap.size ≤ gb383)); have n6_ := Aside0.mk ((by rw [hg]; exact Nat.ne_of_lt (blk_lt (g := gb368) (pk BK368)) : gb368 ≠ gb383)); have n7_ := Aside0.mk ((by rw [hg]; exact Nat.ne_of_gt (blk_lt (g := gb368) (pk BK368)) : gb383 ≠ gb368)); have n8_ := Aside0.mk ((by rw [hg]; exact Nat.ne_of_lt (blk_lt (g := gb376) (pk BK376)) : gb376 ≠ gb383)); have n9_ := Aside0.mk ((by rw [hg]; exact Nat.ne_of_gt (blk_lt (g := gb376) (pk BK376)) : gb383 ≠ gb376)); clear BK368; clear BK376; clear HB; have BK368 := n0_; have BK376 := n1_; have HB := n2_; have BK383 := n3_; have GW383 := n4_; have GE383 := n5_; have NB368_383 := n6_; have NB383_368 := n7_; have NB376_383 := n8_; have NB383_376 := n9_; clear n0_ n1_ n2_ n3_ n4_ n5_ n6_ n7_ n8_ n9_; clear hb hbox hg; have hnb24 := NB383_368.out; have hnc24 := NB368_383.out; have hnb25 := NB383_376.out; have hnc25 := NB376_383.out; have hcz26_0 : w23.cell? ⟨gb383, 0, none⟩ = some (.int .i64 0) := (blk_cell BK383.out 0).trans rfl; have hcz26_1 : w23.cell? ⟨gb383, 1, none⟩ = some (.int .i64 0) := (blk_cell BK383.out 1).trans rfl; have hfz26_0 := blk_frozen BK383.out 0; have hfz26_1 := blk_frozen BK383.out 1))
    (try simp only [Act.put, List.setIfInBounds_toArray, List.set_cons_zero, List.set_cons_succ])
    go_cut [17] (fun v17 wc => ∃ (kq : Nat) (x17_13 : Int), v17 = .int .i64 x17_13 ∧ Aside0 (damperlaw10_ScaleNone.j0 kq t377 t378 t379 t380 x17_13 t370 t371 t372 t373 t374 t375 t381 t382 = some r) ∧ Aside0 (kq ≤ k) ∧ Aside0 (wc.heap[gb368]? = some (.cells #[.string a0_0, .int .i64 a0_1, .int .i64 a0_2, .int .i64 a0_3, .int .i64 a0_4, .int .i64 a0_5] 25 (0, 0))) ∧ Aside0 (wc.heap[gb376]? = some (.cells #[.string t370, .int .i64 t371, .int .i64 t372, .int .i64 t373, .int .i64 t374, .int .i64 t375] 25 (0, 0))) ∧ Aside0 (wc.heap[gb383]? = some (.cells #[.int .i64 t381, .int .i64 t382] 30 (0, 0))) ∧ Aside0 (Below w.heap.size w wc))
    case first =>
      have H := HC14.out
      clear HC14
      have H' := Aside0.mk H
      clear H
      go_wp2
      go_meet
      case rel => exact ⟨_, (0), (by first | rfl | (simp; done) | (simp [*]; done)), H', ⟨by first | omega | exact Nat.le_refl _⟩, ⟨by (with_reducible repeat (first | refine blk_drewN ?_ _ | refine blk_drew ?_ | refine blk_alloc ?_ _)); refine blk_far ?_ NB368_383.out _; (with_reducible repeat (first | refine blk_drewN ?_ _ | refine blk_drew ?_ | refine blk_alloc ?_ _)); refine blk_far ?_ NB368_383.out _; (with_reducible repeat (first | refine blk_drewN ?_ _ | refine blk_drew ?_ | refine blk_alloc ?_ _)); exact BK368.out⟩, ⟨by (with_reducible repeat (first | refine blk_drewN ?_ _ | refine blk_drew ?_ | refine blk_alloc ?_ _)); refine blk_far ?_ NB376_383.out _; (with_reducible repeat (first | refine blk_drewN ?_ _ | refine blk_drew ?_ | refine blk_alloc ?_ _)); refine blk_far ?_ NB376_383.out _; (with_reducible repeat (first | refine blk_drewN ?_ _ | refine blk_drew ?_ | refine blk_alloc ?_ _)); exact BK376.out⟩, ⟨by (with_reducible repeat (first | refine blk_drewN ?_ _ | refine blk_drew ?_ | refine blk_alloc ?_ _)); refine blk_put (cs := #[.int .i64 t381, .int .i64 0]) ?_ 1 _ rfl; (with_reducible repeat (first | refine blk_drewN ?_ _ | refine blk_drew ?_ | refine blk_alloc ?_ _)); refine blk_put (cs := #[.int .i64 0, .int .i64 0]) ?_ 0 _ rfl; (with_reducible repeat (first | refine blk_drewN ?_ _ | refine blk_drew ?_ | refine blk_alloc ?_ _)); exact BK383.out⟩, ⟨by repeat (first | (with_reducible first | exact HB.out | apply below_alloc | apply pw_below_drewN | apply below_drew1 | refine below_set ?_ GE368.out | refine below_set ?_ GE376.out | refine below_set ?_ GE383.out) | exact HB.out)⟩⟩
    case rest =>
      clear HC14
      try clear c1
      try clear c2
      try clear p2
      try clear c7
      try clear c11
      try clear c13
      try clear c15
      try clear c18
      try clear c20
      try clear c21
      try clear c24
      try clear c25
      try clear hcz17_0
      try clear hcz17_1
      try clear hcz17_2
      try clear hcz17_3
      try clear hcz17_4
      try clear hcz17_5
      try clear hcz21_0
      try clear hcz21_1
      try clear hcz21_2
      try clear hcz21_3
      try clear hcz21_4
      try clear hcz21_5
      try clear hcz26_0
      try clear hcz26_1
      try clear hfz17_0
      try clear hfz17_1
      try clear hfz17_2
      try clear hfz17_3
      try clear hfz17_4
      try clear hfz17_5
      try clear hfz21_0
      try clear hfz21_1
      try clear hfz21_2
      try clear hfz21_3
      try clear hfz21_4
      try clear hfz21_5
      try clear hfz26_0
      try clear hfz26_1
      obtain ⟨kq, x17_13, rfl, HA, HJ13, BK368, BK376, BK383, HB⟩ := hcut
      cases kq with
      | zero => exact absurd HA.out (by simp [damperlaw10_ScaleNone.j0])
      | succ kj13 =>
        have H := HA.out
        clear HA
        simp only [damperlaw10_ScaleNone.j0] at H
        have HC27 := Aside0.mk H
        clear H
        go_upto_region 7 with (fail)
        go_cut [48] (fun v48 wc => ∃ (kq : Nat) (x48_26 : Bool), v48 = .bool x48_26 ∧ Aside0 (damperlaw10_ScaleNone.j1 kq t380 x17_13 x48_26 t370 t371 t372 t373 t374 t375 t381 t382 = some r) ∧ Aside0 (kq ≤ kj13) ∧ Aside0 (wc.heap[gb368]? = some (.cells #[.string a0_0, .int .i64 a0_1, .int .i64 a0_2, .int .i64 a0_3, .int .i64 a0_4, .int .i64 a0_5] 25 (0, 0))) ∧ Aside0 (wc.heap[gb376]? = some (.cells #[.string t370, .int .i64 t371, .int .i64 t372, .int .i64 t373, .int .i64 t374, .int .i64 t375] 25 (0, 0))) ∧ Aside0 (wc.heap[gb383]? = some (.cells #[.int .i64 t381, .int .i64 t382] 30 (0, 0))) ∧ Aside0 (Below w.heap.size w wc))
        case first =>
          have H := HC27.out
          clear HC27
          by_cases c28 : t378 > 0
          · rw [if_pos c28] at H
            have c28b0 : decide (0 < t378) = true := decide_eq_true c28
            clear c28
            (first | rw [c28b0] | (simp only [i64_w, i32_w]; rw [c28b0]) | skip)
            have H' := Aside0.mk H
            clear H
            go_wp2
            go_meet
            case rel => exact ⟨_, (true), (by first | rfl | (simp; done) | (simp [*]; done)), H', ⟨by have := HJ13.out; first | omega | exact Nat.le_refl _⟩, ⟨by (with_reducible repeat (first | refine blk_drewN ?_ _ | refine blk_drew ?_ | refine blk_alloc ?_ _)); exact BK368.out⟩, ⟨by (with_reducible repeat (first | refine blk_drewN ?_ _ | refine blk_drew ?_ | refine blk_alloc ?_ _)); exact BK376.out⟩, ⟨by (with_reducible repeat (first | refine blk_drewN ?_ _ | refine blk_drew ?_ | refine blk_alloc ?_ _)); exact BK383.out⟩, ⟨by repeat (first | (with_reducible first | exact HB.out | apply below_alloc | apply pw_below_drewN | apply below_drew1 | refine below_set ?_ GE368.out | refine below_set ?_ GE376.out | refine below_set ?_ GE383.out) | exact HB.out)⟩⟩
          · rw [if_neg c28] at H
            have c28b0 : decide (0 < t378) = false := decide_eq_false c28
            clear c28
            (first | rw [c28b0] | (simp only [i64_w, i32_w]; rw [c28b0]) | skip)
            by_cases c29 : t377 > 0
            · rw [if_pos c29] at H
              have c29b0 : decide (0 < t377) = true := decide_eq_true c29
              clear c29
              have H' := Aside0.mk H
              clear H
              have hnb30 := NB376_368.out
              have hnc30 := NB368_376.out
              have hnb31 := NB376_383.out
              have hnc31 := NB383_376.out
              have hcz32_0 : wc.cell? ⟨gb376, 0, none⟩ = some (.string t370) := (blk_cell BK376.out 0).trans rfl
              have hcz32_1 : wc.cell? ⟨gb376, 1, none⟩ = some (.int .i64 t371) := (blk_cell BK376.out 1).trans rfl
              have hcz32_2 : wc.cell? ⟨gb376, 2, none⟩ = some (.int .i64 t372) := (blk_cell BK376.out 2).trans rfl
              have hcz32_3 : wc.cell? ⟨gb376, 3, none⟩ = some (.int .i64 t373) := (blk_cell BK376.out 3).trans rfl
              have hcz32_4 : wc.cell? ⟨gb376, 4, none⟩ = some (.int .i64 t374) := (blk_cell BK376.out 4).trans rfl
              have hcz32_5 : wc.cell? ⟨gb376, 5, none⟩ = some (.int .i64 t375) := (blk_cell BK376.out 5).trans rfl
              have hfz32_0 := blk_frozen BK376.out 0
              have hfz32_1 := blk_frozen BK376.out 1
              have hfz32_2 := blk_frozen BK376.out 2
              have hfz32_3 := blk_frozen BK376.out 3
              have hfz32_4 := blk_frozen BK376.out 4
              have hfz32_5 := blk_frozen BK376.out 5
              go_wp2
              go_meet
              case rel => exact ⟨_, (decide (t379 < t375)), (by first | rfl | (simp; done) | (simp [*]; done)), H', ⟨by have := HJ13.out; first | omega | exact Nat.le_refl _⟩, ⟨by (with_reducible repeat (first | refine blk_drewN ?_ _ | refine blk_drew ?_ | refine blk_alloc ?_ _)); exact BK368.out⟩, ⟨by (with_reducible repeat (first | refine blk_drewN ?_ _ | refine blk_drew ?_ | refine blk_alloc ?_ _)); exact BK376.out⟩, ⟨by (with_reducible repeat (first | refine blk_drewN ?_ _ | refine blk_drew ?_ | refine blk_alloc ?_ _)); exact BK383.out⟩, ⟨by repeat (first | (with_reducible first | exact HB.out | apply below_alloc | apply pw_below_drewN | apply below_drew1 | refine below_set ?_ GE368.out | refine below_set ?_ GE376.out | refine below_set ?_ GE383.out) | exact HB.out)⟩⟩
            · rw [if_neg c29] at H
              have c29b0 : decide (0 < t377) = false := decide_eq_false c29
              clear c29
              have H' := Aside0.mk H
              clear H
              go_wp2
              go_meet
              case rel => exact ⟨_, (false), (by first | rfl | (simp; done) | (simp [*]; done)), H', ⟨by have := HJ13.out; first | omega | exact Nat.le_refl _⟩, ⟨by (with_reducible repeat (first | refine blk_drewN ?_ _ | refine blk_drew ?_ | refine blk_alloc ?_ _)); exact BK368.out⟩, ⟨by (with_reducible repeat (first | refine blk_drewN ?_ _ | refine blk_drew ?_ | refine blk_alloc ?_ _)); exact BK376.out⟩, ⟨by (with_reducible repeat (first | refine blk_drewN ?_ _ | refine blk_drew ?_ | refine blk_alloc ?_ _)); exact BK383.out⟩, ⟨by repeat (first | (with_reducible first | exact HB.out | apply below_alloc | apply pw_below_drewN | apply below_drew1 | refine below_set ?_ GE368.out | refine below_set ?_ GE376.out | refine below_set ?_ GE383.out) | exact HB.out)⟩⟩
        case rest =>
          clear HC27
          try clear c1
          try clear c2
          try clear p2
          try clear c3
          try clear c7
          try clear c11
          try clear c13
          try clear c15
          try clear c18
          try clear c20
          try clear c21
          try clear c24
          try clear c25
          try clear c28
          try clear c28b0
          try clear c29
          try clear c29b0
          try clear c30
          try clear c31
          try clear hcz17_0
          try clear hcz17_1
          try clear hcz17_2
          try clear hcz17_3
          try clear hcz17_4
          try clear hcz17_5
          try clear hcz21_0
          try clear hcz21_1
          try clear hcz21_2
          try clear hcz21_3
          try clear hcz21_4
          try clear hcz21_5
          try clear hcz26_0
          try clear hcz26_1
          try clear hcz32_0
          try clear hcz32_1
          try clear hcz32_2
          try clear hcz32_3
          try clear hcz32_4
          try clear hcz32_5
          try clear hfz17_0
          try clear hfz17_1
          try clear hfz17_2
          try clear hfz17_3
          try clear hfz17_4
          try clear hfz17_5
          try clear hfz21_0
          try clear hfz21_1
          try clear hfz21_2
          try clear hfz21_3
          try clear hfz21_4
          try clear hfz21_5
          try clear hfz26_0
          try clear hfz26_1
          try clear hfz32_0
          try clear hfz32_1
          try clear hfz32_2
          try clear hfz32_3
          try clear hfz32_4
          try clear hfz32_5
          try clear p2
          obtain ⟨kq, x48_26, rfl, HA, HJ26, BK368, BK376, BK383, HB⟩ := hcut
          cases kq with
          | zero => exact absurd HA.out (by simp [damperlaw10_ScaleNone.j1])
          | succ kj26 =>
            have H := HA.out
            clear HA
            simp only [damperlaw10_ScaleNone.j1] at H
            by_cases c33 : x48_26 = true
            · subst c33
              have H1 : (if t382 = 0 then (some (t381 == (mn t374 (mx (mx 1 (wrap64 (Int.tdiv t380 2))) t373)))) else (some false)) = some r := by rw [if_pos rfl] at H; exact H
              clear H
              have H := H1
              clear H1
              by_cases c34 : t382 = 0
              rotate_left
              · rw [if_neg c34] at H
                have c34b0 : (t382 == 0) = false := beq_eq_false_iff_ne.mpr c34
                have c34b1 : (t382 != 0) = true := bne_iff_ne.mpr c34
                exact absurd (Option.some.inj H) (by rw [hr0_.out]; decide)
              rw [if_pos c34] at H
              have c34b0 : (t382 == 0) = true := beq_iff_eq.mpr c34
              have c34b1 : (t382 != 0) = false := bne_eq_false_iff_eq.mpr c34
              clear c34
              obtain ⟨ji35, hji35⟩ : ∃ j_ : Int, (mx 1 (wrap64 (Int.tdiv t380 2))) = j_ := ⟨_, rfl⟩
              replace H : (some (t381 == (mn t374 (mx (ji35) t373)))) = some r := by first | (rw [hji35] at H; exact H) | (simp only [hji35] at H ⊢; exact H)
              have hji35_ : (if 1 < (wrap64 (Int.tdiv t380 2)) then (wrap64 (Int.tdiv t380 2)) else 1) = ji35 := hji35
              obtain ⟨ji36, hji36⟩ : ∃ j_ : Int, (mx (ji35) t373) = j_ := ⟨_, rfl⟩
              replace H : (some (t381 == (mn t374 (ji36)))) = some r := by first | (rw [hji36] at H; exact H) | (simp only [hji36] at H ⊢; exact H)
              have hji36_ : (if (ji35) < t373 then t373 else (ji35)) = ji36 := hji36
              obtain ⟨ji37, hji37⟩ : ∃ j_ : Int, (mn t374 (ji36)) = j_ := ⟨_, rfl⟩
              replace H : (some (t381 == (ji37))) = some r := by first | (rw [hji37] at H; exact H) | (simp only [hji37] at H ⊢; exact H)
              have hji37_ : (if (ji36) < t374 then (ji36) else t374) = ji37 := hji37
              obtain rfl := Option.some.inj H
              have hnb38 := NB383_368.out
              have hnc38 := NB368_383.out
              have hnb39 := NB383_376.out
              have hnc39 := NB376_383.out
              have hcz40_0 : wc.cell? ⟨gb383, 0, none⟩ = some (.int .i64 t381) := (blk_cell BK383.out 0).trans rfl
              have hcz40_1 : wc.cell? ⟨gb383, 1, none⟩ = some (.int .i64 t382) := (blk_cell BK383.out 1).trans rfl
              have hfz40_0 := blk_frozen BK383.out 0
              have hfz40_1 := blk_frozen BK383.out 1
              have hnb41 := NB376_368.out
              have hnc41 := NB368_376.out
              have hcz42_0 : wc.cell? ⟨gb376, 0, none⟩ = some (.string t370) := (blk_cell BK376.out 0).trans rfl
              have hcz42_1 : wc.cell? ⟨gb376, 1, none⟩ = some (.int .i64 t371) := (blk_cell BK376.out 1).trans rfl
              have hcz42_2 : wc.cell? ⟨gb376, 2, none⟩ = some (.int .i64 t372) := (blk_cell BK376.out 2).trans rfl
              have hcz42_3 : wc.cell? ⟨gb376, 3, none⟩ = some (.int .i64 t373) := (blk_cell BK376.out 3).trans rfl
              have hcz42_4 : wc.cell? ⟨gb376, 4, none⟩ = some (.int .i64 t374) := (blk_cell BK376.out 4).trans rfl
              have hcz42_5 : wc.cell? ⟨gb376, 5, none⟩ = some (.int .i64 t375) := (blk_cell BK376.out 5).trans rfl
              have hfz42_0 := blk_frozen BK376.out 0
              have hfz42_1 := blk_frozen BK376.out 1
              have hfz42_2 := blk_frozen BK376.out 2
              have hfz42_3 := blk_frozen BK376.out 3
              have hfz42_4 := blk_frozen BK376.out 4
              have hfz42_5 := blk_frozen BK376.out 5
              go_wp2
              go_ret
              exact ⟨by first | rfl | (simp [errW_none, errW_some] <;> rfl) | (simp only [← hji35, ← hji36, ← hji37]; first | rfl | (simp [errW_none, errW_some] <;> rfl)) | (simp [*, errW_none, errW_some] <;> rfl), by repeat (first | (with_reducible first | exact HB.out | apply below_alloc | apply pw_below_drewN | apply below_drew1 | refine below_set ?_ GE368.out | refine below_set ?_ GE376.out | refine below_set ?_ GE383.out) | exact HB.out)⟩
            · replace c33 := Bool.eq_false_iff.mpr c33
              subst c33
              have H1 : (if t382 = 0 then (some (t381 == (mn t374 (mx (mx x17_13 (wrap64 (Int.tdiv t380 2))) t373)))) else (some false)) = some r := by rw [if_neg (show ¬ (false = true) by decide)] at H; exact H
              clear H
              have H := H1
              clear H1
              by_cases c43 : t382 = 0
              rotate_left
              · rw [if_neg c43] at H
                have c43b0 : (t382 == 0) = false := beq_eq_false_iff_ne.mpr c43
                have c43b1 : (t382 != 0) = true := bne_iff_ne.mpr c43
                exact absurd (Option.some.inj H) (by rw [hr0_.out]; decide)
              rw [if_pos c43] at H
              have c43b0 : (t382 == 0) = true := beq_iff_eq.mpr c43
              have c43b1 : (t382 != 0) = false := bne_eq_false_iff_eq.mpr c43
              clear c43
              obtain ⟨ji44, hji44⟩ : ∃ j_ : Int, (mx x17_13 (wrap64 (Int.tdiv t380 2))) = j_ := ⟨_, rfl⟩
              replace H : (some (t381 == (mn t374 (mx (ji44) t373)))) = some r := by first | (rw [hji44] at H; exact H) | (simp only [hji44] at H ⊢; exact H)
              have hji44_ : (if x17_13 < (wrap64 (Int.tdiv t380 2)) then (wrap64 (Int.tdiv t380 2)) else x17_13) = ji44 := hji44
              obtain ⟨ji45, hji45⟩ : ∃ j_ : Int, (mx (ji44) t373) = j_ := ⟨_, rfl⟩
              replace H : (some (t381 == (mn t374 (ji45)))) = some r := by first | (rw [hji45] at H; exact H) | (simp only [hji45] at H ⊢; exact H)
              have hji45_ : (if (ji44) < t373 then t373 else (ji44)) = ji45 := hji45
              obtain ⟨ji46, hji46⟩ : ∃ j_ : Int, (mn t374 (ji45)) = j_ := ⟨_, rfl⟩
              replace H : (some (t381 == (ji46))) = some r := by first | (rw [hji46] at H; exact H) | (simp only [hji46] at H ⊢; exact H)
              have hji46_ : (if (ji45) < t374 then (ji45) else t374) = ji46 := hji46
              obtain rfl := Option.some.inj H
              have hnb47 := NB383_368.out
              have hnc47 := NB368_383.out
              have hnb48 := NB383_376.out
              have hnc48 := NB376_383.out
              have hcz49_0 : wc.cell? ⟨gb383, 0, none⟩ = some (.int .i64 t381) := (blk_cell BK383.out 0).trans rfl
              have hcz49_1 : wc.cell? ⟨gb383, 1, none⟩ = some (.int .i64 t382) := (blk_cell BK383.out 1).trans rfl
              have hfz49_0 := blk_frozen BK383.out 0
              have hfz49_1 := blk_frozen BK383.out 1
              have hnb50 := NB376_368.out
              have hnc50 := NB368_376.out
              have hcz51_0 : wc.cell? ⟨gb376, 0, none⟩ = some (.string t370) := (blk_cell BK376.out 0).trans rfl
              have hcz51_1 : wc.cell? ⟨gb376, 1, none⟩ = some (.int .i64 t371) := (blk_cell BK376.out 1).trans rfl
              have hcz51_2 : wc.cell? ⟨gb376, 2, none⟩ = some (.int .i64 t372) := (blk_cell BK376.out 2).trans rfl
              have hcz51_3 : wc.cell? ⟨gb376, 3, none⟩ = some (.int .i64 t373) := (blk_cell BK376.out 3).trans rfl
              have hcz51_4 : wc.cell? ⟨gb376, 4, none⟩ = some (.int .i64 t374) := (blk_cell BK376.out 4).trans rfl
              have hcz51_5 : wc.cell? ⟨gb376, 5, none⟩ = some (.int .i64 t375) := (blk_cell BK376.out 5).trans rfl
              have hfz51_0 := blk_frozen BK376.out 0
              have hfz51_1 := blk_frozen BK376.out 1
              have hfz51_2 := blk_frozen BK376.out 2
              have hfz51_3 := blk_frozen BK376.out 3
              have hfz51_4 := blk_frozen BK376.out 4
              have hfz51_5 := blk_frozen BK376.out 5
              go_wp2
              go_ret
              exact ⟨by first | rfl | (simp [errW_none, errW_some] <;> rfl) | (simp only [← hji44, ← hji45, ← hji46]; first | rfl | (simp [errW_none, errW_some] <;> rfl)) | (simp [*, errW_none, errW_some] <;> rfl), by repeat (first | (with_reducible first | exact HB.out | apply below_alloc | apply pw_below_drewN | apply below_drew1 | refine below_set ?_ GE368.out | refine below_set ?_ GE376.out | refine below_set ?_ GE383.out) | exact HB.out)⟩
  · replace c7 := Bool.eq_false_iff.mpr c7
    subst c7
    have H1 : (some false) = some r := by rw [if_neg (show ¬ (false = true) by decide)] at H; exact H
    clear H
    have H := H1
    clear H1
    exact absurd (Option.some.inj H) (by rw [hr0_.out]; decide)

/-- THE ONE PURE STATEMENT of damperlaw10_ScaleNone: yours. -/
def damperlaw10_ScaleNone.Pure : Prop := ∀ (a0_0 : ByteArray) (a0_1 : Int) (a0_2 : Int) (a0_3 : Int) (a0_4 : Int) (a0_5 : Int) (a1 : Int) (a2 : Int) (a3 : Int) (a4 : Int), (a0_0.size ≤ maxLen) → ((Lit.int .i64 a0_1).wf = true) → ((Lit.int .i64 a0_2).wf = true) → ((Lit.int .i64 a0_3).wf = true) → ((Lit.int .i64 a0_4).wf = true) → ((Lit.int .i64 a0_5).wf = true) → ((Lit.int .i64 a1).wf = true) → ((Lit.int .i64 a2).wf = true) → ((Lit.int .i64 a3).wf = true) → ((Lit.int .i64 a4).wf = true) → ∃ k, damperlaw10_ScaleNone.f k a0_0 a0_1 a0_2 a0_3 a0_4 a0_5 a1 a2 a3 a4 = some true
theorem damperlaw10_ScaleNone.walk (P : damperlaw10_ScaleNone.Pure) (a0_0 : ByteArray) (a0_1 : Int) (a0_2 : Int) (a0_3 : Int) (a0_4 : Int) (a0_5 : Int) (a1 : Int) (a2 : Int) (a3 : Int) (a4 : Int) (w : World) (w0_0 : a0_0.size ≤ maxLen) (w0_1 : (Lit.int .i64 a0_1).wf = true) (w0_2 : (Lit.int .i64 a0_2).wf = true) (w0_3 : (Lit.int .i64 a0_3).wf = true) (w0_4 : (Lit.int .i64 a0_4).wf = true) (w0_5 : (Lit.int .i64 a0_5).wf = true) (w1 : (Lit.int .i64 a1).wf = true) (w2 : (Lit.int .i64 a2).wf = true) (w3 : (Lit.int .i64 a3).wf = true) (w4 : (Lit.int .i64 a4).wf = true)  :
    Calls Try.prog 11 #[.agg #[.string a0_0, .int .i64 a0_1, .int .i64 a0_2, .int .i64 a0_3, .int .i64 a0_4, .int .i64 a0_5], .int .i64 a1, .int .i64 a2, .int .i64 a3, .int .i64 a4] w fun e w' => e = .returned (.bool true) ∧ Below w.heap.size w w' := by
  obtain ⟨k, h⟩ := P a0_0 a0_1 a0_2 a0_3 a0_4 a0_5 a1 a2 a3 a4 w0_0 w0_1 w0_2 w0_3 w0_4 w0_5 w1 w2 w3 w4
  refine (damperlaw10_ScaleNone.calls k a0_0 a0_1 a0_2 a0_3 a0_4 a0_5 a1 a2 a3 a4 true w ⟨rfl⟩ h).mono ?_
  rintro e w' ⟨rfl, hd⟩
  exact ⟨rfl, hd⟩

end Go.Proofs.Ytlikdmeickbigaa.Ma
