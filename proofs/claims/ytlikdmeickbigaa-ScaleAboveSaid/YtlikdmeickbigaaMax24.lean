-- Written by a program of this session (wip/tools/myprint.py), in the form of the kit's print. Not trusted: Lean checks it.
import Derived.Test.YtlikdmeickbigaaMax0
import Derived.Test.YtlikdmeickbigaaMax6
import Derived.Test.YtlikdmeickbigaaMax7
import Derived.Test.YtlikdmeickbigaaMax8
import Derived.Test.YtlikdmeickbigaaMax11
namespace Go.Proofs.Ytlikdmeickbigaa.Ma
open Go.RowKit Go.Proofs.YtlikdmeickbigaaW.PrintWords Go.Proofs.YtlikdmeickbigaaW.PrintLast Go.Proofs.YtlikdmeickbigaaW.PrintMore
attribute [local go_sem] max2_int min2_int max_two min_two max_three min_three max_four min_four   -- for this text's walks alone
set_option linter.unusedVariables false
set_option linter.unusedSimpArgs false

/-! ### damperlaw10_ScaleAbove: function 12 -/
def damperlaw10_ScaleAbove.f (k : Nat) (a0_0 : ByteArray) (a0_1 : Int) (a0_2 : Int) (a0_3 : Int) (a0_4 : Int) (a0_5 : Int) (a1 : Int) (a2 : Int) : Option (Bool) := (damperlaw10_known.f k).bind fun t385 => (if t385 = true then ((damperlaw2_Config.f a0_0 a0_1 a0_2 a0_3 a0_4 a0_5 0).bind fun bt386 => ((damperlaw10_within.f a2 31).bind fun t393 => ((damperlaw10_within.f a1 1000000).bind fun t394 => ((scale_Decide.f k 0 0 bt386.1 bt386.2.1 bt386.2.2.1 bt386.2.2.2.1 bt386.2.2.2.2.1 bt386.2.2.2.2.2 t393 1 (wrap64 (100000 + t394)) 6 (wrap64 (100000 + t394)) 2 0).bind fun bt395 => (if bt395.2 = 6 then (some (bt395.1 == (mn bt386.2.2.2.2.1 (mx (wrap64 (4 * (mx 1 t393))) bt386.2.2.2.1)))) else (some false)))))) else (some false))
theorem damperlaw10_ScaleAbove.mono : ∀ a0 a1 a2 a3 a4 a5 a6 a7 k, LeO (damperlaw10_ScaleAbove.f k a0 a1 a2 a3 a4 a5 a6 a7) (damperlaw10_ScaleAbove.f (k + 1) a0 a1 a2 a3 a4 a5 a6 a7) := by
  intro a0 a1 a2 a3 a4 a5 a6 a7 k
  unfold damperlaw10_ScaleAbove.f
  repeat' first
      | (with_reducible exact damperlaw10_known.mono _)
      | (with_reducible exact scale_Decide.mono _ _ _ _ _ _ _ _ _ _ _ _ _ _ _ _)
      | (with_reducible exact LeO.refl _)
      | (with_reducible exact LeO.none _)
      | (with_reducible refine LeO.ite ?_ ?_)
      | (with_reducible refine LeO.bind ?_ (fun _ => ?_))
      | exact damperlaw10_known.mono _
      | exact scale_Decide.mono _ _ _ _ _ _ _ _ _ _ _ _ _ _ _ _
      | exact LeO.none _
      | refine LeO.ite ?_ ?_
      | refine LeO.bind ?_ (fun _ => ?_)
set_option maxHeartbeats 8000000 in
set_option maxRecDepth 100000 in
theorem damperlaw10_ScaleAbove.calls (k : Nat) (a0_0 : ByteArray) (a0_1 : Int) (a0_2 : Int) (a0_3 : Int) (a0_4 : Int) (a0_5 : Int) (a1 : Int) (a2 : Int) (r : Bool) (w : World) (hr0_ : Aside0 (r = true)) (h : damperlaw10_ScaleAbove.f k a0_0 a0_1 a0_2 a0_3 a0_4 a0_5 a1 a2 = some r) :
    Calls Try.prog 12 #[.agg #[.string a0_0, .int .i64 a0_1, .int .i64 a0_2, .int .i64 a0_3, .int .i64 a0_4, .int .i64 a0_5], .int .i64 a1, .int .i64 a2] w fun e w' => e = .returned (.bool r) ∧ Below w.heap.size w w' := by
  have hu25 := Try.underlying25
  have hu30 := Try.underlying30
  have HB := Aside0.mk (Below.refl w.heap.size w)
  have H : ((damperlaw10_known.f k).bind fun t385 => (if t385 = true then ((damperlaw2_Config.f a0_0 a0_1 a0_2 a0_3 a0_4 a0_5 0).bind fun bt386 => ((damperlaw10_within.f a2 31).bind fun t393 => ((damperlaw10_within.f a1 1000000).bind fun t394 => ((scale_Decide.f k 0 0 bt386.1 bt386.2.1 bt386.2.2.1 bt386.2.2.2.1 bt386.2.2.2.2.1 bt386.2.2.2.2.2 t393 1 (wrap64 (100000 + t394)) 6 (wrap64 (100000 + t394)) 2 0).bind fun bt395 => (if bt395.2 = 6 then (some (bt395.1 == (mn bt386.2.2.2.2.1 (mx (wrap64 (4 * (mx 1 t393))) bt386.2.2.2.1)))) else (some false)))))) else (some false))) = some r := h
  clear h
  replace H := Option.bind_eq_some_iff.mp H
  obtain ⟨t385, A40, H⟩ := H
  replace H : (if t385 = true then ((damperlaw2_Config.f a0_0 a0_1 a0_2 a0_3 a0_4 a0_5 0).bind fun bt386 => ((damperlaw10_within.f a2 31).bind fun t393 => ((damperlaw10_within.f a1 1000000).bind fun t394 => ((scale_Decide.f k 0 0 bt386.1 bt386.2.1 bt386.2.2.1 bt386.2.2.2.1 bt386.2.2.2.2.1 bt386.2.2.2.2.2 t393 1 (wrap64 (100000 + t394)) 6 (wrap64 (100000 + t394)) 2 0).bind fun bt395 => (if bt395.2 = 6 then (some (bt395.1 == (mn bt386.2.2.2.2.1 (mx (wrap64 (4 * (mx 1 t393))) bt386.2.2.2.1)))) else (some false)))))) else (some false)) = some r := H
  have A4 := Aside0.mk A40
  clear A40
  by_cases c5 : t385 = true
  · subst c5
    have H1 : ((damperlaw2_Config.f a0_0 a0_1 a0_2 a0_3 a0_4 a0_5 0).bind fun bt386 => ((damperlaw10_within.f a2 31).bind fun t393 => ((damperlaw10_within.f a1 1000000).bind fun t394 => ((scale_Decide.f k 0 0 bt386.1 bt386.2.1 bt386.2.2.1 bt386.2.2.2.1 bt386.2.2.2.2.1 bt386.2.2.2.2.2 t393 1 (wrap64 (100000 + t394)) 6 (wrap64 (100000 + t394)) 2 0).bind fun bt395 => (if bt395.2 = 6 then (some (bt395.1 == (mn bt386.2.2.2.2.1 (mx (wrap64 (4 * (mx 1 t393))) bt386.2.2.2.1)))) else (some false)))))) = some r := by rw [if_pos rfl] at H; exact H
    clear H
    have H := H1
    clear H1
    replace H := Option.bind_eq_some_iff.mp H
    obtain ⟨⟨t386, t387, t388, t389, t390, t391⟩, A60, H⟩ := H
    replace H : ((damperlaw10_within.f a2 31).bind fun t393 => ((damperlaw10_within.f a1 1000000).bind fun t394 => ((scale_Decide.f k 0 0 t386 t387 t388 t389 t390 t391 t393 1 (wrap64 (100000 + t394)) 6 (wrap64 (100000 + t394)) 2 0).bind fun bt395 => (if bt395.2 = 6 then (some (bt395.1 == (mn t390 (mx (wrap64 (4 * (mx 1 t393))) t389)))) else (some false))))) = some r := H
    have A6 := Aside0.mk A60
    clear A60
    replace H := Option.bind_eq_some_iff.mp H
    obtain ⟨t393, A70, H⟩ := H
    replace H : ((damperlaw10_within.f a1 1000000).bind fun t394 => ((scale_Decide.f k 0 0 t386 t387 t388 t389 t390 t391 t393 1 (wrap64 (100000 + t394)) 6 (wrap64 (100000 + t394)) 2 0).bind fun bt395 => (if bt395.2 = 6 then (some (bt395.1 == (mn t390 (mx (wrap64 (4 * (mx 1 t393))) t389)))) else (some false)))) = some r := H
    have A7 := Aside0.mk A70
    clear A70
    replace H := Option.bind_eq_some_iff.mp H
    obtain ⟨t394, A80, H⟩ := H
    replace H : ((scale_Decide.f k 0 0 t386 t387 t388 t389 t390 t391 t393 1 (wrap64 (100000 + t394)) 6 (wrap64 (100000 + t394)) 2 0).bind fun bt395 => (if bt395.2 = 6 then (some (bt395.1 == (mn t390 (mx (wrap64 (4 * (mx 1 t393))) t389)))) else (some false))) = some r := H
    have A8 := Aside0.mk A80
    clear A80
    replace H := Option.bind_eq_some_iff.mp H
    obtain ⟨⟨t395, t396⟩, A90, H⟩ := H
    replace H : (if t396 = 6 then (some (t395 == (mn t390 (mx (wrap64 (4 * (mx 1 t393))) t389)))) else (some false)) = some r := H
    have A9 := Aside0.mk A90
    clear A90
    by_cases c10 : t396 = 6
    rotate_left
    · rw [if_neg c10] at H
      have c10b0 : (t396 == 6) = false := beq_eq_false_iff_ne.mpr c10
      have c10b1 : (t396 != 6) = true := bne_iff_ne.mpr c10
      exact absurd (Option.some.inj H) (by rw [hr0_.out]; decide)
    rw [if_pos c10] at H
    have c10b0 : (t396 == 6) = true := beq_iff_eq.mpr c10
    have c10b1 : (t396 != 6) = false := bne_eq_false_iff_eq.mpr c10
    clear c10
    obtain ⟨ji11, hji11⟩ : ∃ j_ : Int, (mx 1 t393) = j_ := ⟨_, rfl⟩
    replace H : (some (t395 == (mn t390 (mx (wrap64 (4 * (ji11))) t389)))) = some r := by first | (rw [hji11] at H; exact H) | (simp only [hji11] at H ⊢; exact H)
    (try rw [hji11] at A4)
    (try rw [hji11] at A6)
    (try rw [hji11] at A7)
    (try rw [hji11] at A8)
    (try rw [hji11] at A9)
    (try (have hji11l : 1 ≤ ji11 := by (rw [← hji11]; unfold mx; (repeat' split) <;> omega)))
    (try (have hji11m : 0 ≤ ji11 := by omega))
    have hji11_ : (if 1 < t393 then t393 else 1) = ji11 := hji11
    obtain ⟨ji12, hji12⟩ : ∃ j_ : Int, (mx (wrap64 (4 * (ji11))) t389) = j_ := ⟨_, rfl⟩
    replace H : (some (t395 == (mn t390 (ji12)))) = some r := by first | (rw [hji12] at H; exact H) | (simp only [hji12] at H ⊢; exact H)
    (try rw [hji12] at A4)
    (try rw [hji12] at A6)
    (try rw [hji12] at A7)
    (try rw [hji12] at A8)
    (try rw [hji12] at A9)
    have hji12_ : (if (wrap64 (4 * (ji11))) < t389 then t389 else (wrap64 (4 * (ji11)))) = ji12 := hji12
    obtain ⟨ji13, hji13⟩ : ∃ j_ : Int, (mn t390 (ji12)) = j_ := ⟨_, rfl⟩
    replace H : (some (t395 == (ji13))) = some r := by first | (rw [hji13] at H; exact H) | (simp only [hji13] at H ⊢; exact H)
    (try rw [hji13] at A4)
    (try rw [hji13] at A6)
    (try rw [hji13] at A7)
    (try rw [hji13] at A8)
    (try rw [hji13] at A9)
    have hji13_ : (if (ji12) < t390 then (ji12) else t390) = ji13 := hji13
    obtain rfl := Option.some.inj H
    go_enter Try.func12, Try.ntmps12
    go_wp2_with (first | ((with_reducible refine gate_dst (N := 3) rfl ?_); (try (refine gate_guard (by rfl) ?_; dsimp only)); refine box_event ?hg (N := 3) ?hd (cs := #[.string a0_0, .int .i64 a0_1, .int .i64 a0_2, .int .i64 a0_3, .int .i64 a0_4, .int .i64 a0_5]) (t := 25) ?hr ?_; (case hd => rfl); (case hg => rfl); (case hr => first | (go_simp; done) | (go_simp; rfl)); intro gb384 hg w14 hbox hb; have n0_ := Aside0.mk (below_step (by repeat (first | (with_reducible first | exact HB.out | apply below_alloc | apply pw_below_drewN | apply below_drew1) | exact HB.out)) hb); have n1_ := Aside0.mk (hbox); have n2_ := Aside0.mk ((by rw [hg]; exact (below_size (by repeat (first | (with_reducible first | exact HB.out | apply below_alloc | apply pw_below_drewN | apply below_drew1) | exact HB.out))) : w.heap.size ≤ gb384)); have n3_ := Aside0.mk ((by rw [hg]; exact (below_size (by repeat (first | (with_reducible first | exact HB.out | apply below_alloc | apply pw_below_drewN | apply below_drew1) | exact HB.out))) : w.heap.size ≤ gb384)); clear HB; have HB := n0_; have BK384 := n1_; have GW384 := n2_; have GE384 := n3_; clear n0_ n1_ n2_ n3_; clear hb hbox hg) | ((with_reducible refine gate_callee (f := 13) rfl ?_); refine goesL_ (some 11) rfl rfl Try.func13 (by kernel_rfl) rfl #[] rfl (by (try simp only [List.map_toArray, List.map_cons, List.map_nil]); first | done | rfl | (simp only [List.length_drop, List.length_take]; rfl)) ?_; (with_reducible refine (damperlaw10_known.calls k  true _ A4.out).mono ?_); rintro e w15 ⟨rfl, hb⟩; refine ⟨_, rfl, ?_⟩; have n0_ := Aside0.mk (blk_below (g := gb384) (pk BK384) hb); have n1_ := Aside0.mk (below_step (by repeat (first | (with_reducible first | exact HB.out | apply below_alloc | apply pw_below_drewN | apply below_drew1 | refine below_set ?_ GE384.out) | exact HB.out)) hb); clear BK384; clear HB; have BK384 := n0_; have HB := n1_; clear n0_ n1_; (try clear hb); (try clear hb2); (try clear hk); (try clear hi); have hcz16_0 : w15.cell? ⟨gb384, 0, none⟩ = some (.string a0_0) := (blk_cell BK384.out 0).trans rfl; have hcz16_1 : w15.cell? ⟨gb384, 1, none⟩ = some (.int .i64 a0_1) := (blk_cell BK384.out 1).trans rfl; have hcz16_2 : w15.cell? ⟨gb384, 2, none⟩ = some (.int .i64 a0_2) := (blk_cell BK384.out 2).trans rfl; have hcz16_3 : w15.cell? ⟨gb384, 3, none⟩ = some (.int .i64 a0_3) := (blk_cell BK384.out 3).trans rfl; have hcz16_4 : w15.cell? ⟨gb384, 4, none⟩ = some (.int .i64 a0_4) := (blk_cell BK384.out 4).trans rfl; have hcz16_5 : w15.cell? ⟨gb384, 5, none⟩ = some (.int .i64 a0_5) := (blk_cell BK384.out 5).trans rfl; have hfz16_0 := blk_frozen BK384.out 0; have hfz16_1 := blk_frozen BK384.out 1; have hfz16_2 := blk_frozen BK384.out 2; have hfz16_3 := blk_frozen BK384.out 3; have hfz16_4 := blk_frozen BK384.out 4; have hfz16_5 := blk_frozen BK384.out 5) | ((with_reducible refine gate_callee (f := 15) rfl ?_); refine goesL_ (some 14) rfl rfl Try.func15 (by kernel_rfl) rfl #[.agg #[.string a0_0, .int .i64 a0_1, .int .i64 a0_2, .int .i64 a0_3, .int .i64 a0_4, .int .i64 a0_5], .int .i64 0] rfl (by (try simp only [List.map_toArray, List.map_cons, List.map_nil]); first | done | rfl | (simp only [List.length_drop, List.length_take]; rfl)) ?_; (with_reducible refine (damperlaw2_Config.calls a0_0 a0_1 a0_2 a0_3 a0_4 a0_5 0 t386 t387 t388 t389 t390 t391 _ A6.out).mono ?_); rintro e w17 ⟨rfl, hb⟩; refine ⟨_, rfl, ?_⟩; have n0_ := Aside0.mk (blk_below (g := gb384) (pk BK384) hb); have n1_ := Aside0.mk (below_step (by repeat (first | (with_reducible first | exact HB.out | apply below_alloc | apply pw_below_drewN | apply below_drew1 | refine below_set ?_ GE384.out) | exact HB.out)) hb); clear BK384; clear HB; have BK384 := n0_; have HB := n1_; clear n0_ n1_; (try clear hb); (try clear hb2); (try clear hk); (try clear hi)) | ((with_reducible refine gate_dst (N := 7) rfl ?_); (try (refine gate_guard (by rfl) ?_; dsimp only)); refine box_event ?hg (N := 7) ?hd (cs := #[.string (⟨#[]⟩ : ByteArray), .int .i64 0, .int .i64 0, .int .i64 0, .int .i64 0, .int .i64 0]) (t := 25) ?hr ?_; (case hd => rfl); (case hg => rfl); (case hr => first | (go_simp; done) | (go_simp; rfl)); intro gb392 hg w18 hbox hb; have n0_ := Aside0.mk (blk_below (g := gb384) (pk BK384) hb); have n1_ := Aside0.mk (below_step (by repeat (first | (with_reducible first | exact HB.out | apply below_alloc | apply pw_below_drewN | apply below_drew1 | refine below_set ?_ GE384.out) | exact HB.out)) hb); have n2_ := Aside0.mk (hbox); have n3_ := Aside0.mk ((by rw [hg]; exact (below_size (by repeat (first | (with_reducible first | exact HB.out | apply below_alloc | apply pw_below_drewN | apply below_drew1 | refine below_set ?_ GE384.out) | exact HB.out))) : w.heap.size ≤ gb392)); have n4_ := Aside0.mk ((by rw [hg]; exact (below_size (by repeat (first | (with_reducible first | exact HB.out | apply below_alloc | apply pw_below_drewN | apply below_drew1 | refine below_set ?_ GE384.out) | exact HB.out))) : w.heap.size ≤ gb392)); have n5_ := Aside0.mk ((by rw [hg]; exact Nat.ne_of_lt (blk_lt (g := gb384) (pk BK384)) : gb384 ≠ gb392)); have n6_ := Aside0.mk ((by rw [hg]; exact Nat.ne_of_gt (blk_lt (g := gb384) (pk BK384)) : gb392 ≠ gb384)); clear BK384; clear HB; have BK384 := n0_; have HB := n1_; have BK392 := n2_; have GW392 := n3_; have GE392 := n4_; have NB384_392 := n5_; have NB392_384 := n6_; clear n0_ n1_ n2_ n3_ n4_ n5_ n6_; clear hb hbox hg; have hnb19 := NB392_384.out; have hnc19 := NB384_392.out; have hcz20_0 : w18.cell? ⟨gb392, 0, none⟩ = some (.string (⟨#[]⟩ : ByteArray)) := (blk_cell BK392.out 0).trans rfl; have hcz20_1 : w18.cell? ⟨gb392, 1, none⟩ = some (.int .i64 0) := (blk_cell BK392.out 1).trans rfl; have hcz20_2 : w18.cell? ⟨gb392, 2, none⟩ = some (.int .i64 0) := (blk_cell BK392.out 2).trans rfl; have hcz20_3 : w18.cell? ⟨gb392, 3, none⟩ = some (.int .i64 0) := (blk_cell BK392.out 3).trans rfl; have hcz20_4 : w18.cell? ⟨gb392, 4, none⟩ = some (.int .i64 0) := (blk_cell BK392.out 4).trans rfl; have hcz20_5 : w18.cell? ⟨gb392, 5, none⟩ = some (.int .i64 0) := (blk_cell BK392.out 5).trans rfl; have hfz20_0 := blk_frozen BK392.out 0; have hfz20_1 := blk_frozen BK392.out 1; have hfz20_2 := blk_frozen BK392.out 2; have hfz20_3 := blk_frozen BK392.out 3; have hfz20_4 := blk_frozen BK392.out 4; have hfz20_5 := blk_frozen BK392.out 5) | ((with_reducible refine gate_callee (f := 18) rfl ?_); refine goesL_ (some 16) rfl rfl Try.func18 (by kernel_rfl) rfl #[.int .i64 a2, .int .i64 31] rfl (by (try simp only [List.map_toArray, List.map_cons, List.map_nil]); first | done | rfl | (simp only [List.length_drop, List.length_take]; rfl)) ?_; (with_reducible refine (damperlaw10_within.calls a2 31 t393 _ A7.out).mono ?_); rintro e w' ⟨rfl, ⟨nd, rfl⟩⟩; refine ⟨_, rfl, ?_⟩) | ((with_reducible refine gate_callee (f := 18) rfl ?_); refine goesL_ (some 18) rfl rfl Try.func18 (by kernel_rfl) rfl #[.int .i64 a1, .int .i64 1000000] rfl (by (try simp only [List.map_toArray, List.map_cons, List.map_nil]); first | done | rfl | (simp only [List.length_drop, List.length_take]; rfl)) ?_; (with_reducible refine (damperlaw10_within.calls a1 1000000 t394 _ A8.out).mono ?_); rintro e w' ⟨rfl, ⟨nd, rfl⟩⟩; refine ⟨_, rfl, ?_⟩) | ((with_reducible refine gate_callee (f := 21) rfl ?_); refine goesL_ (some 25) rfl rfl Try.func21 (by kernel_rfl) rfl #[.agg #[.int .i64 0, .int .i64 0], .agg #[.string t386, .int .i64 t387, .int .i64 t388, .int .i64 t389, .int .i64 t390, .int .i64 t391], .int .i64 t393, .int .i64 1, .int .i64 (wrap64 (100000 + t394)), .int .i64 6, .int .i64 (wrap64 (100000 + t394)), .int .i64 2, .int .i64 0] rfl (by (try simp only [List.map_toArray, List.map_cons, List.map_nil]); first | done | rfl | (simp only [List.length_drop, List.length_take]; rfl)) ?_; (with_reducible refine (scale_Decide.calls k 0 0 t386 t387 t388 t389 t390 t391 t393 1 (wrap64 (100000 + t394)) 6 (wrap64 (100000 + t394)) 2 0 t395 t396 _ A9.out).mono ?_); rintro e w21 ⟨rfl, hb⟩; refine ⟨_, rfl, ?_⟩; have n0_ := Aside0.mk (blk_below (g := gb384) (o := .cells #[.string a0_0, .int .i64 a0_1, .int .i64 a0_2, .int .i64 a0_3, .int .i64 a0_4, .int .i64 a0_5] 25 (0, 0)) (by (with_reducible repeat (first | refine blk_drewN ?_ _ | refine blk_drew ?_ | refine blk_alloc ?_ _)); refine blk_far ?_ NB384_392.out _; (with_reducible repeat (first | refine blk_drewN ?_ _ | refine blk_drew ?_ | refine blk_alloc ?_ _)); refine blk_far ?_ NB384_392.out _; (with_reducible repeat (first | refine blk_drewN ?_ _ | refine blk_drew ?_ | refine blk_alloc ?_ _)); refine blk_far ?_ NB384_392.out _; (with_reducible repeat (first | refine blk_drewN ?_ _ | refine blk_drew ?_ | refine blk_alloc ?_ _)); refine blk_far ?_ NB384_392.out _; (with_reducible repeat (first | refine blk_drewN ?_ _ | refine blk_drew ?_ | refine blk_alloc ?_ _)); refine blk_far ?_ NB384_392.out _; (with_reducible repeat (first | refine blk_drewN ?_ _ | refine blk_drew ?_ | refine blk_alloc ?_ _)); refine blk_far ?_ NB384_392.out _; (with_reducible repeat (first | refine blk_drewN ?_ _ | refine blk_drew ?_ | refine blk_alloc ?_ _)); exact BK384.out) hb); have n1_ := Aside0.mk (blk_below (g := gb392) (o := .cells #[.string t386, .int .i64 t387, .int .i64 t388, .int .i64 t389, .int .i64 t390, .int .i64 t391] 25 (0, 0)) (by (with_reducible repeat (first | refine blk_drewN ?_ _ | refine blk_drew ?_ | refine blk_alloc ?_ _)); refine blk_put (cs := #[.string t386, .int .i64 t387, .int .i64 t388, .int .i64 t389, .int .i64 t390, .int .i64 0]) ?_ 5 _ rfl; (with_reducible repeat (first | refine blk_drewN ?_ _ | refine blk_drew ?_ | refine blk_alloc ?_ _)); refine blk_put (cs := #[.string t386, .int .i64 t387, .int .i64 t388, .int .i64 t389, .int .i64 0, .int .i64 0]) ?_ 4 _ rfl; (with_reducible repeat (first | refine blk_drewN ?_ _ | refine blk_drew ?_ | refine blk_alloc ?_ _)); refine blk_put (cs := #[.string t386, .int .i64 t387, .int .i64 t388, .int .i64 0, .int .i64 0, .int .i64 0]) ?_ 3 _ rfl; (with_reducible repeat (first | refine blk_drewN ?_ _ | refine blk_drew ?_ | refine blk_alloc ?_ _)); refine blk_put (cs := #[.string t386, .int .i64 t387, .int .i64 0, .int .i64 0, .int .i64 0, .int .i64 0]) ?_ 2 _ rfl; (with_reducible repeat (first | refine blk_drewN ?_ _ | refine blk_drew ?_ | refine blk_alloc ?_ _)); refine blk_put (cs := #[.string t386, .int .i64 0, .int .i64 0, .int .i64 0, .int .i64 0, .int .i64 0]) ?_ 1 _ rfl; (with_reducible repeat (first | refine blk_drewN ?_ _ | refine blk_drew ?_ | refine blk_alloc ?_ _)); refine blk_put (cs := #[.string (⟨#[]⟩ : ByteArray), .int .i64 0, .int .i64 0, .int .i64 0, .int .i64 0, .int .i64 0]) ?_ 0 _ rfl; (with_reducible repeat (first | refine blk_drewN ?_ _ | refine blk_drew ?_ | refine blk_alloc ?_ _)); exact BK392.out) hb); have n2_ := Aside0.mk (below_step (by repeat (first | (with_reducible first | exact HB.out | apply below_alloc | apply pw_below_drewN | apply below_drew1 | refine below_set ?_ GE384.out | refine below_set ?_ GE392.out) | exact HB.out)) hb); clear BK384; clear BK392; clear HB; have BK384 := n0_; have BK392 := n1_; have HB := n2_; clear n0_ n1_ n2_; (try clear hb); (try clear hb2); (try clear hk); (try clear hi)) | ((with_reducible refine gate_dst (N := 10) rfl ?_); (try (refine gate_guard (by rfl) ?_; dsimp only)); refine box_event ?hg (N := 10) ?hd (cs := #[.int .i64 0, .int .i64 0]) (t := 30) ?hr ?_; (case hd => rfl); (case hg => rfl); (case hr => first | (go_simp; done) | (go_simp; rfl)); intro gb397 hg w22 hbox hb; have n0_ := Aside0.mk (blk_below (g := gb384) (pk BK384) hb); have n1_ := Aside0.mk (blk_below (g := gb392) (pk BK392) hb); have n2_ := Aside0.mk (below_step (by repeat (first | (with_reducible first | exact HB.out | apply below_alloc | apply pw_below_drewN | apply below_drew1 | refine below_set ?_ GE384.out | refine below_set ?_ GE392.out) | exact HB.out)) hb); have n3_ := Aside0.mk (hbox); have n4_ := Aside0.mk ((by rw [hg]; exact (below_size (by repeat (first | (with_reducible first | exact HB.out | apply below_alloc | apply pw_below_drewN | apply below_drew1 | refine below_set ?_ GE384.out | refine below_set ?_ GE392.out) | exact HB.out))) : w.heap.size ≤ gb397)); have n5_ := Aside0.mk ((by rw [hg]; exact (below_size (by repeat (first | (with_reducible first | exact HB.out | apply below_alloc | apply pw_below_drewN | apply below_drew1 | refine below_set ?_ GE384.out | refine below_set ?_ GE392.out) | exact HB.out))) : w.heap.size ≤ gb397)); have n6_ := Aside0.mk ((by rw [hg]; exact Nat.ne_of_lt (blk_lt (g := gb384) (pk BK384)) : gb384 ≠ gb397)); have n7_ := Aside0.mk ((by rw [hg]; exact Nat.ne_of_gt (blk_lt (g := gb384) (pk BK384)) : gb397 ≠ gb384)); have n8_ := Aside0.mk ((by rw [hg]; exact Nat.ne_of_lt (blk_lt (g := gb392) (pk BK392)) : gb392 ≠ gb397)); have n9_ := Aside0.mk ((by rw [hg]; exact Nat.ne_of_gt (blk_lt (g := gb392) (pk BK392)) : gb397 ≠ gb392)); clear BK384; clear BK392; clear HB; have BK384 := n0_; have BK392 := n1_; have HB := n2_; have BK397 := n3_; have GW397 := n4_; have GE397 := n5_; have NB384_397 := n6_; have NB397_384 := n7_; have NB392_397 := n8_; have NB397_392 := n9_; clear n0_ n1_ n2_ n3_ n4_ n5_ n6_ n7_ n8_ n9_; clear hb hbox hg; have hnb23 := NB397_384.out; have hnc23 := NB384_397.out; have hnb24 := NB397_392.out; have hnc24 := NB392_397.out; have hcz25_0 : w22.cell? ⟨gb397, 0, none⟩ = some (.int .i64 0) := (blk_cell BK397.out 0).trans rfl; have hcz25_1 : w22.cell? ⟨gb397, 1, none⟩ = some (.int .i64 0) := (blk_cell BK397.out 1).trans rfl; have hfz25_0 := blk_frozen BK397.out 0; have hfz25_1 := blk_frozen BK397.out 1; have hcz26_0 : w22.cell? ⟨gb392, 0, none⟩ = some (.string t386) := (blk_cell BK392.out 0).trans rfl; have hcz26_1 : w22.cell? ⟨gb392, 1, none⟩ = some (.int .i64 t387) := (blk_cell BK392.out 1).trans rfl; have hcz26_2 : w22.cell? ⟨gb392, 2, none⟩ = some (.int .i64 t388) := (blk_cell BK392.out 2).trans rfl; have hcz26_3 : w22.cell? ⟨gb392, 3, none⟩ = some (.int .i64 t389) := (blk_cell BK392.out 3).trans rfl; have hcz26_4 : w22.cell? ⟨gb392, 4, none⟩ = some (.int .i64 t390) := (blk_cell BK392.out 4).trans rfl; have hcz26_5 : w22.cell? ⟨gb392, 5, none⟩ = some (.int .i64 t391) := (blk_cell BK392.out 5).trans rfl; have hfz26_0 := blk_frozen BK392.out 0; have hfz26_1 := blk_frozen BK392.out 1; have hfz26_2 := blk_frozen BK392.out 2; have hfz26_3 := blk_frozen BK392.out 3; have hfz26_4 := blk_frozen BK392.out 4; have hfz26_5 := blk_frozen BK392.out 5))
    go_ret
    exact ⟨by first | rfl | (simp [errW_none, errW_some] <;> rfl) | (simp only [← hji11, ← hji12, ← hji13]; first | rfl | (simp [errW_none, errW_some] <;> rfl)) | (simp [*, errW_none, errW_some] <;> rfl), by repeat (first | (with_reducible first | exact HB.out | apply below_alloc | apply pw_below_drewN | apply below_drew1 | refine below_set ?_ GE384.out | refine below_set ?_ GE392.out | refine below_set ?_ GE397.out) | exact HB.out)⟩
  · replace c5 := Bool.eq_false_iff.mpr c5
    subst c5
    have H1 : (some false) = some r := by rw [if_neg (show ¬ (false = true) by decide)] at H; exact H
    clear H
    have H := H1
    clear H1
    exact absurd (Option.some.inj H) (by rw [hr0_.out]; decide)

/-- THE ONE PURE STATEMENT of damperlaw10_ScaleAbove: yours. -/
def damperlaw10_ScaleAbove.Pure : Prop := ∀ (a0_0 : ByteArray) (a0_1 : Int) (a0_2 : Int) (a0_3 : Int) (a0_4 : Int) (a0_5 : Int) (a1 : Int) (a2 : Int), (a0_0.size ≤ maxLen) → ((Lit.int .i64 a0_1).wf = true) → ((Lit.int .i64 a0_2).wf = true) → ((Lit.int .i64 a0_3).wf = true) → ((Lit.int .i64 a0_4).wf = true) → ((Lit.int .i64 a0_5).wf = true) → ((Lit.int .i64 a1).wf = true) → ((Lit.int .i64 a2).wf = true) → ∃ k, damperlaw10_ScaleAbove.f k a0_0 a0_1 a0_2 a0_3 a0_4 a0_5 a1 a2 = some true
theorem damperlaw10_ScaleAbove.walk (P : damperlaw10_ScaleAbove.Pure) (a0_0 : ByteArray) (a0_1 : Int) (a0_2 : Int) (a0_3 : Int) (a0_4 : Int) (a0_5 : Int) (a1 : Int) (a2 : Int) (w : World) (w0_0 : a0_0.size ≤ maxLen) (w0_1 : (Lit.int .i64 a0_1).wf = true) (w0_2 : (Lit.int .i64 a0_2).wf = true) (w0_3 : (Lit.int .i64 a0_3).wf = true) (w0_4 : (Lit.int .i64 a0_4).wf = true) (w0_5 : (Lit.int .i64 a0_5).wf = true) (w1 : (Lit.int .i64 a1).wf = true) (w2 : (Lit.int .i64 a2).wf = true)  :
    Calls Try.prog 12 #[.agg #[.string a0_0, .int .i64 a0_1, .int .i64 a0_2, .int .i64 a0_3, .int .i64 a0_4, .int .i64 a0_5], .int .i64 a1, .int .i64 a2] w fun e w' => e = .returned (.bool true) ∧ Below w.heap.size w w' := by
  obtain ⟨k, h⟩ := P a0_0 a0_1 a0_2 a0_3 a0_4 a0_5 a1 a2 w0_0 w0_1 w0_2 w0_3 w0_4 w0_5 w1 w2
  refine (damperlaw10_ScaleAbove.calls k a0_0 a0_1 a0_2 a0_3 a0_4 a0_5 a1 a2 true w ⟨rfl⟩ h).mono ?_
  rintro e w' ⟨rfl, hd⟩
  exact ⟨rfl, hd⟩

end Go.Proofs.Ytlikdmeickbigaa.Ma
