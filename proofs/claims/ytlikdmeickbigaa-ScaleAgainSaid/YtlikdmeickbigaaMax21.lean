-- Written by a program of this session (wip/tools/myprint.py), in the form of the kit's print. Not trusted: Lean checks it.
import Derived.Test.YtlikdmeickbigaaMax0
import Derived.Test.YtlikdmeickbigaaMax6
import Derived.Test.YtlikdmeickbigaaMax7
import Derived.Test.YtlikdmeickbigaaMax8
import Derived.Test.YtlikdmeickbigaaMax11
import Derived.Test.YtlikdmeickbigaaMax13
namespace Go.Proofs.Ytlikdmeickbigaa.Ma
open Go.RowKit Go.Proofs.YtlikdmeickbigaaW.PrintWords Go.Proofs.YtlikdmeickbigaaW.PrintLast Go.Proofs.YtlikdmeickbigaaW.PrintMore
attribute [local go_sem] max2_int min2_int max_two min_two max_three min_three max_four min_four   -- for this text's walks alone
set_option linter.unusedVariables false
set_option linter.unusedSimpArgs false

/-! ### damperlaw10_ScaleAgain: function 9 -/
def damperlaw10_ScaleAgain.l0 : Nat → Int → Int → Int → ByteArray → Int → Int → Int → Int → Int → Int → Int → Option (Bool)
  | 0, _, _, _, _, _, _, _, _, _, _, _ => none
  | k + 1, x8, x10, x11, x344000, x344001, x344002, x344003, x344004, x344005, x347000, x347001 => if x11 < 30 then ((scale_Decide.f k x347000 x347001 x344000 x344001 x344002 x344003 x344004 x344005 x10 x8 (wrap64 (6 * x8)) 6 (wrap64 (2 * x8)) 2 0).bind fun bt348 => (damperlaw10_ScaleAgain.l0 k x8 bt348.1 (wrap64 (x11 + 1)) x344000 x344001 x344002 x344003 x344004 x344005 bt348.1 bt348.2)) else ((damperref10_Need.f (wrap64 (6 * x8)) 6 x344002).bind fun t350 => ((scale_Decide.f k x347000 x347001 x344000 x344001 x344002 x344003 x344004 x344005 x10 x8 (wrap64 (6 * x8)) 6 (wrap64 (2 * x8)) 2 0).bind fun bt351 => (if x347000 ≥ (mx x344003 (mn x344004 t350)) then (if x347000 ≤ x344004 then (if bt351.1 = x347000 then (if x347001 > 0 then (some true) else (some (x347000 == (mx (mx x344003 (mn x344004 t350)) (mn x344004 (wrap64 (Int.tdiv x347000 2))))))) else (some false)) else (some false)) else (some false))))
def damperlaw10_ScaleAgain.f (k : Nat) (a0_0 : ByteArray) (a0_1 : Int) (a0_2 : Int) (a0_3 : Int) (a0_4 : Int) (a0_5 : Int) (a1 : Int) (a2 : Int) : Option (Bool) := (damperlaw10_known.f k).bind fun t336 => (if t336 = true then ((damperlaw2_Config.f a0_0 a0_1 a0_2 a0_3 a0_4 a0_5 0).bind fun bt337 => ((damperlaw10_within.f a1 80).bind fun t344 => ((damperlaw10_within.f a2 11).bind fun t345 => ((damperlaw10_within.f (wrap64 (Int.tdiv a2 11)) 11).bind fun t347 => (damperlaw10_ScaleAgain.l0 k (wrap64 (1 + t344)) t347 0 bt337.1 bt337.2.1 bt337.2.2.1 bt337.2.2.2.1 bt337.2.2.2.2.1 bt337.2.2.2.2.2 t345 0))))) else (some false))
theorem damperlaw10_ScaleAgain.mono_l : ∀ k, (∀ y0 y1 y2 y3 y4 y5 y6 y7 y8 y9 y10, LeO (damperlaw10_ScaleAgain.l0 k y0 y1 y2 y3 y4 y5 y6 y7 y8 y9 y10) (damperlaw10_ScaleAgain.l0 (k + 1) y0 y1 y2 y3 y4 y5 y6 y7 y8 y9 y10))
  | 0 => fun _ _ _ _ _ _ _ _ _ _ _ r h => by simp [damperlaw10_ScaleAgain.l0] at h
  | k + 1 => by
    have ih0 := damperlaw10_ScaleAgain.mono_l k
    · intro y0 y1 y2 y3 y4 y5 y6 y7 y8 y9 y10
      unfold damperlaw10_ScaleAgain.l0
      repeat' first
      | (with_reducible exact ih0 _ _ _ _ _ _ _ _ _ _ _)
      | (with_reducible exact damperlaw10_known.mono _)
      | (with_reducible exact scale_Decide.mono _ _ _ _ _ _ _ _ _ _ _ _ _ _ _ _)
      | (with_reducible exact LeO.refl _)
      | (with_reducible exact LeO.none _)
      | (with_reducible refine LeO.ite ?_ ?_)
      | (with_reducible refine LeO.bind ?_ (fun _ => ?_))
      | exact ih0 _ _ _ _ _ _ _ _ _ _ _
      | exact damperlaw10_known.mono _
      | exact scale_Decide.mono _ _ _ _ _ _ _ _ _ _ _ _ _ _ _ _
      | exact LeO.none _
      | refine LeO.ite ?_ ?_
      | refine LeO.bind ?_ (fun _ => ?_)
theorem damperlaw10_ScaleAgain.mono : ∀ a0 a1 a2 a3 a4 a5 a6 a7 k, LeO (damperlaw10_ScaleAgain.f k a0 a1 a2 a3 a4 a5 a6 a7) (damperlaw10_ScaleAgain.f (k + 1) a0 a1 a2 a3 a4 a5 a6 a7) := by
  intro a0 a1 a2 a3 a4 a5 a6 a7 k
  have ih0 := damperlaw10_ScaleAgain.mono_l k
  unfold damperlaw10_ScaleAgain.f
  repeat' first
      | (with_reducible exact ih0 _ _ _ _ _ _ _ _ _ _ _)
      | (with_reducible exact damperlaw10_known.mono _)
      | (with_reducible exact scale_Decide.mono _ _ _ _ _ _ _ _ _ _ _ _ _ _ _ _)
      | (with_reducible exact LeO.refl _)
      | (with_reducible exact LeO.none _)
      | (with_reducible refine LeO.ite ?_ ?_)
      | (with_reducible refine LeO.bind ?_ (fun _ => ?_))
      | exact ih0 _ _ _ _ _ _ _ _ _ _ _
      | exact damperlaw10_known.mono _
      | exact scale_Decide.mono _ _ _ _ _ _ _ _ _ _ _ _ _ _ _ _
      | exact LeO.none _
      | refine LeO.ite ?_ ?_
      | refine LeO.bind ?_ (fun _ => ?_)
def damperlaw10_ScaleAgain.T12 : Bool × List (List Nat × List Nat) := (true, [([], []), ([0], [0]), ([], []), ([2], [2]), ([], []), ([4], [4]), ([], []), ([6], [6]), ([5, 7], [5, 7]), ([3, 8], [3, 8]), ([1, 9], [1, 9]), ([10, 8, 0, 1, 2, 3, 4, 5, 6, 7, 8, 9, 10], [10])])
def damperlaw10_ScaleAgain.B12 : List Nat := [0, 1, 0, 4, 0, 16, 0, 64, 240, 508, 1023, 2047]
theorem damperlaw10_ScaleAgain.tab12 : rtab .any (opsOf Try.f9 12) = damperlaw10_ScaleAgain.T12 := by kernel_rfl
theorem damperlaw10_ScaleAgain.bits12 : waitsOk damperlaw10_ScaleAgain.T12.2 damperlaw10_ScaleAgain.B12 = true := by kernel_rfl
set_option maxHeartbeats 8000000 in
set_option maxRecDepth 100000 in
theorem damperlaw10_ScaleAgain.calls (k : Nat) (a0_0 : ByteArray) (a0_1 : Int) (a0_2 : Int) (a0_3 : Int) (a0_4 : Int) (a0_5 : Int) (a1 : Int) (a2 : Int) (r : Bool) (w : World) (hr0_ : Aside0 (r = true)) (h : damperlaw10_ScaleAgain.f k a0_0 a0_1 a0_2 a0_3 a0_4 a0_5 a1 a2 = some r) :
    Calls Try.prog 9 #[.agg #[.string a0_0, .int .i64 a0_1, .int .i64 a0_2, .int .i64 a0_3, .int .i64 a0_4, .int .i64 a0_5], .int .i64 a1, .int .i64 a2] w fun e w' => e = .returned (.bool r) ∧ Below w.heap.size w w' := by
  have hu25 := Try.underlying25
  have hu30 := Try.underlying30
  have HB := Aside0.mk (Below.refl w.heap.size w)
  have H : ((damperlaw10_known.f k).bind fun t336 => (if t336 = true then ((damperlaw2_Config.f a0_0 a0_1 a0_2 a0_3 a0_4 a0_5 0).bind fun bt337 => ((damperlaw10_within.f a1 80).bind fun t344 => ((damperlaw10_within.f a2 11).bind fun t345 => ((damperlaw10_within.f (wrap64 (Int.tdiv a2 11)) 11).bind fun t347 => (damperlaw10_ScaleAgain.l0 k (wrap64 (1 + t344)) t347 0 bt337.1 bt337.2.1 bt337.2.2.1 bt337.2.2.2.1 bt337.2.2.2.2.1 bt337.2.2.2.2.2 t345 0))))) else (some false))) = some r := h
  clear h
  replace H := Option.bind_eq_some_iff.mp H
  obtain ⟨t336, A40, H⟩ := H
  replace H : (if t336 = true then ((damperlaw2_Config.f a0_0 a0_1 a0_2 a0_3 a0_4 a0_5 0).bind fun bt337 => ((damperlaw10_within.f a1 80).bind fun t344 => ((damperlaw10_within.f a2 11).bind fun t345 => ((damperlaw10_within.f (wrap64 (Int.tdiv a2 11)) 11).bind fun t347 => (damperlaw10_ScaleAgain.l0 k (wrap64 (1 + t344)) t347 0 bt337.1 bt337.2.1 bt337.2.2.1 bt337.2.2.2.1 bt337.2.2.2.2.1 bt337.2.2.2.2.2 t345 0))))) else (some false)) = some r := H
  have A4 := Aside0.mk A40
  clear A40
  by_cases c5 : t336 = true
  · subst c5
    have H1 : ((damperlaw2_Config.f a0_0 a0_1 a0_2 a0_3 a0_4 a0_5 0).bind fun bt337 => ((damperlaw10_within.f a1 80).bind fun t344 => ((damperlaw10_within.f a2 11).bind fun t345 => ((damperlaw10_within.f (wrap64 (Int.tdiv a2 11)) 11).bind fun t347 => (damperlaw10_ScaleAgain.l0 k (wrap64 (1 + t344)) t347 0 bt337.1 bt337.2.1 bt337.2.2.1 bt337.2.2.2.1 bt337.2.2.2.2.1 bt337.2.2.2.2.2 t345 0))))) = some r := by rw [if_pos rfl] at H; exact H
    clear H
    have H := H1
    clear H1
    replace H := Option.bind_eq_some_iff.mp H
    obtain ⟨⟨t337, t338, t339, t340, t341, t342⟩, A60, H⟩ := H
    replace H : ((damperlaw10_within.f a1 80).bind fun t344 => ((damperlaw10_within.f a2 11).bind fun t345 => ((damperlaw10_within.f (wrap64 (Int.tdiv a2 11)) 11).bind fun t347 => (damperlaw10_ScaleAgain.l0 k (wrap64 (1 + t344)) t347 0 t337 t338 t339 t340 t341 t342 t345 0)))) = some r := H
    have A6 := Aside0.mk A60
    clear A60
    replace H := Option.bind_eq_some_iff.mp H
    obtain ⟨t344, A70, H⟩ := H
    replace H : ((damperlaw10_within.f a2 11).bind fun t345 => ((damperlaw10_within.f (wrap64 (Int.tdiv a2 11)) 11).bind fun t347 => (damperlaw10_ScaleAgain.l0 k (wrap64 (1 + t344)) t347 0 t337 t338 t339 t340 t341 t342 t345 0))) = some r := H
    have A7 := Aside0.mk A70
    clear A70
    replace H := Option.bind_eq_some_iff.mp H
    obtain ⟨t345, A80, H⟩ := H
    replace H : ((damperlaw10_within.f (wrap64 (Int.tdiv a2 11)) 11).bind fun t347 => (damperlaw10_ScaleAgain.l0 k (wrap64 (1 + t344)) t347 0 t337 t338 t339 t340 t341 t342 t345 0)) = some r := H
    have A8 := Aside0.mk A80
    clear A80
    replace H := Option.bind_eq_some_iff.mp H
    obtain ⟨t347, A90, H⟩ := H
    replace H : (damperlaw10_ScaleAgain.l0 k (wrap64 (1 + t344)) t347 0 t337 t338 t339 t340 t341 t342 t345 0) = some r := H
    have A9 := Aside0.mk A90
    clear A90
    have H' := Aside0.mk H
    clear H
    go_enter Try.func9, Try.ntmps9
    go_wp2_with (first | ((with_reducible refine gate_dst (N := 3) rfl ?_); (try (refine gate_guard (by rfl) ?_; dsimp only)); refine box_event ?hg (N := 3) ?hd (cs := #[.string a0_0, .int .i64 a0_1, .int .i64 a0_2, .int .i64 a0_3, .int .i64 a0_4, .int .i64 a0_5]) (t := 25) ?hr ?_; (case hd => rfl); (case hg => rfl); (case hr => first | (go_simp; done) | (go_simp; rfl)); intro gb335 hg w10 hbox hb; have n0_ := Aside0.mk (below_step (by repeat (first | (with_reducible first | exact HB.out | apply below_alloc | apply pw_below_drewN | apply below_drew1) | exact HB.out)) hb); have n1_ := Aside0.mk (hbox); have n2_ := Aside0.mk ((by rw [hg]; exact (below_size (by repeat (first | (with_reducible first | exact HB.out | apply below_alloc | apply pw_below_drewN | apply below_drew1) | exact HB.out))) : w.heap.size ≤ gb335)); have n3_ := Aside0.mk ((by rw [hg]; exact (below_size (by repeat (first | (with_reducible first | exact HB.out | apply below_alloc | apply pw_below_drewN | apply below_drew1) | exact HB.out))) : w.heap.size ≤ gb335)); clear HB; have HB := n0_; have BK335 := n1_; have GW335 := n2_; have GE335 := n3_; clear n0_ n1_ n2_ n3_; clear hb hbox hg) | ((with_reducible refine gate_callee (f := 13) rfl ?_); refine goesL_ (some 14) rfl rfl Try.func13 (by kernel_rfl) rfl #[] rfl (by (try simp only [List.map_toArray, List.map_cons, List.map_nil]); first | done | rfl | (simp only [List.length_drop, List.length_take]; rfl)) ?_; (with_reducible refine (damperlaw10_known.calls k  true _ A4.out).mono ?_); rintro e w11 ⟨rfl, hb⟩; refine ⟨_, rfl, ?_⟩; have n0_ := Aside0.mk (blk_below (g := gb335) (pk BK335) hb); have n1_ := Aside0.mk (below_step (by repeat (first | (with_reducible first | exact HB.out | apply below_alloc | apply pw_below_drewN | apply below_drew1 | refine below_set ?_ GE335.out) | exact HB.out)) hb); clear BK335; clear HB; have BK335 := n0_; have HB := n1_; clear n0_ n1_; (try clear hb); (try clear hb2); (try clear hk); (try clear hi); have hcz12_0 : w11.cell? ⟨gb335, 0, none⟩ = some (.string a0_0) := bc BK335 0; have hcz12_1 : w11.cell? ⟨gb335, 1, none⟩ = some (.int .i64 a0_1) := bc BK335 1; have hcz12_2 : w11.cell? ⟨gb335, 2, none⟩ = some (.int .i64 a0_2) := bc BK335 2; have hcz12_3 : w11.cell? ⟨gb335, 3, none⟩ = some (.int .i64 a0_3) := bc BK335 3; have hcz12_4 : w11.cell? ⟨gb335, 4, none⟩ = some (.int .i64 a0_4) := bc BK335 4; have hcz12_5 : w11.cell? ⟨gb335, 5, none⟩ = some (.int .i64 a0_5) := bc BK335 5; have hfz12_0 := blk_frozen BK335.out 0; have hfz12_1 := blk_frozen BK335.out 1; have hfz12_2 := blk_frozen BK335.out 2; have hfz12_3 := blk_frozen BK335.out 3; have hfz12_4 := blk_frozen BK335.out 4; have hfz12_5 := blk_frozen BK335.out 5) | ((with_reducible refine gate_callee (f := 15) rfl ?_); refine goesL_ (some 17) rfl rfl Try.func15 (by kernel_rfl) rfl #[.agg #[.string a0_0, .int .i64 a0_1, .int .i64 a0_2, .int .i64 a0_3, .int .i64 a0_4, .int .i64 a0_5], .int .i64 0] rfl (by (try simp only [List.map_toArray, List.map_cons, List.map_nil]); first | done | rfl | (simp only [List.length_drop, List.length_take]; rfl)) ?_; (with_reducible refine (damperlaw2_Config.calls a0_0 a0_1 a0_2 a0_3 a0_4 a0_5 0 t337 t338 t339 t340 t341 t342 _ A6.out).mono ?_); rintro e w13 ⟨rfl, hb⟩; refine ⟨_, rfl, ?_⟩; have n0_ := Aside0.mk (blk_below (g := gb335) (pk BK335) hb); have n1_ := Aside0.mk (below_step (by repeat (first | (with_reducible first | exact HB.out | apply below_alloc | apply pw_below_drewN | apply below_drew1 | refine below_set ?_ GE335.out) | exact HB.out)) hb); clear BK335; clear HB; have BK335 := n0_; have HB := n1_; clear n0_ n1_; (try clear hb); (try clear hb2); (try clear hk); (try clear hi)) | ((with_reducible refine gate_dst (N := 7) rfl ?_); (try (refine gate_guard (by rfl) ?_; dsimp only)); refine box_event ?hg (N := 7) ?hd (cs := #[.string (⟨#[]⟩ : ByteArray), .int .i64 0, .int .i64 0, .int .i64 0, .int .i64 0, .int .i64 0]) (t := 25) ?hr ?_; (case hd => rfl); (case hg => rfl); (case hr => first | (go_simp; done) | (go_simp; rfl)); intro gb343 hg w14 hbox hb; have n0_ := Aside0.mk (blk_below (g := gb335) (pk BK335) hb); have n1_ := Aside0.mk (below_step (by repeat (first | (with_reducible first | exact HB.out | apply below_alloc | apply pw_below_drewN | apply below_drew1 | refine below_set ?_ GE335.out) | exact HB.out)) hb); have n2_ := Aside0.mk (hbox); have n3_ := Aside0.mk ((by rw [hg]; exact (below_size (by repeat (first | (with_reducible first | exact HB.out | apply below_alloc | apply pw_below_drewN | apply below_drew1 | refine below_set ?_ GE335.out) | exact HB.out))) : w.heap.size ≤ gb343)); have n4_ := Aside0.mk ((by rw [hg]; exact (below_size (by repeat (first | (with_reducible first | exact HB.out | apply below_alloc | apply pw_below_drewN | apply below_drew1 | refine below_set ?_ GE335.out) | exact HB.out))) : w.heap.size ≤ gb343)); have n5_ := Aside0.mk ((ne_lt hg (pk BK335) : gb335 ≠ gb343)); have n6_ := Aside0.mk ((ne_gt hg (pk BK335) : gb343 ≠ gb335)); clear BK335; clear HB; have BK335 := n0_; have HB := n1_; have BK343 := n2_; have GW343 := n3_; have GE343 := n4_; have NB335_343 := n5_; have NB343_335 := n6_; clear n0_ n1_ n2_ n3_ n4_ n5_ n6_; clear hb hbox hg; have hnb15 := NB343_335.out; have hnc15 := NB335_343.out; have hcz16_0 : w14.cell? ⟨gb343, 0, none⟩ = some (.string (⟨#[]⟩ : ByteArray)) := bc BK343 0; have hcz16_1 : w14.cell? ⟨gb343, 1, none⟩ = some (.int .i64 0) := bc BK343 1; have hcz16_2 : w14.cell? ⟨gb343, 2, none⟩ = some (.int .i64 0) := bc BK343 2; have hcz16_3 : w14.cell? ⟨gb343, 3, none⟩ = some (.int .i64 0) := bc BK343 3; have hcz16_4 : w14.cell? ⟨gb343, 4, none⟩ = some (.int .i64 0) := bc BK343 4; have hcz16_5 : w14.cell? ⟨gb343, 5, none⟩ = some (.int .i64 0) := bc BK343 5; have hfz16_0 := blk_frozen BK343.out 0; have hfz16_1 := blk_frozen BK343.out 1; have hfz16_2 := blk_frozen BK343.out 2; have hfz16_3 := blk_frozen BK343.out 3; have hfz16_4 := blk_frozen BK343.out 4; have hfz16_5 := blk_frozen BK343.out 5) | ((with_reducible refine gate_callee (f := 18) rfl ?_); refine goesL_ (some 19) rfl rfl Try.func18 (by kernel_rfl) rfl #[.int .i64 a1, .int .i64 80] rfl (by (try simp only [List.map_toArray, List.map_cons, List.map_nil]); first | done | rfl | (simp only [List.length_drop, List.length_take]; rfl)) ?_; (with_reducible refine (damperlaw10_within.calls a1 80 t344 _ A7.out).mono ?_); rintro e w' ⟨rfl, ⟨nd, rfl⟩⟩; refine ⟨_, rfl, ?_⟩) | ((with_reducible refine gate_callee (f := 18) rfl ?_); refine goesL_ (some 22) rfl rfl Try.func18 (by kernel_rfl) rfl #[.int .i64 a2, .int .i64 11] rfl (by (try simp only [List.map_toArray, List.map_cons, List.map_nil]); first | done | rfl | (simp only [List.length_drop, List.length_take]; rfl)) ?_; (with_reducible refine (damperlaw10_within.calls a2 11 t345 _ A8.out).mono ?_); rintro e w' ⟨rfl, ⟨nd, rfl⟩⟩; refine ⟨_, rfl, ?_⟩) | ((with_reducible refine gate_dst (N := 9) rfl ?_); (try (refine gate_guard (by rfl) ?_; dsimp only)); refine box_event ?hg (N := 9) ?hd (cs := #[.int .i64 0, .int .i64 0]) (t := 30) ?hr ?_; (case hd => rfl); (case hg => rfl); (case hr => first | (go_simp; done) | (go_simp; rfl)); intro gb346 hg w17 hbox hb; have n0_ := Aside0.mk (blk_below (g := gb335) (o := .cells #[.string a0_0, .int .i64 a0_1, .int .i64 a0_2, .int .i64 a0_3, .int .i64 a0_4, .int .i64 a0_5] 25 (0, 0)) (by (repeat ((with_reducible repeat (first | refine blk_drewN ?_ _ | refine blk_drew ?_ | refine blk_alloc ?_ _)); refine blk_far ?_ NB335_343.out _)); (with_reducible repeat (first | refine blk_drewN ?_ _ | refine blk_drew ?_ | refine blk_alloc ?_ _)); exact BK335.out) hb); have n1_ := Aside0.mk (blk_below (g := gb343) (o := .cells #[.string t337, .int .i64 t338, .int .i64 t339, .int .i64 t340, .int .i64 t341, .int .i64 t342] 25 (0, 0)) (by (with_reducible repeat (first | refine blk_drewN ?_ _ | refine blk_drew ?_ | refine blk_alloc ?_ _)); refine blk_put (cs := #[.string t337, .int .i64 t338, .int .i64 t339, .int .i64 t340, .int .i64 t341, .int .i64 0]) ?_ 5 _ rfl; refine blk_put (cs := #[.string t337, .int .i64 t338, .int .i64 t339, .int .i64 t340, .int .i64 0, .int .i64 0]) ?_ 4 _ rfl; refine blk_put (cs := #[.string t337, .int .i64 t338, .int .i64 t339, .int .i64 0, .int .i64 0, .int .i64 0]) ?_ 3 _ rfl; refine blk_put (cs := #[.string t337, .int .i64 t338, .int .i64 0, .int .i64 0, .int .i64 0, .int .i64 0]) ?_ 2 _ rfl; refine blk_put (cs := #[.string t337, .int .i64 0, .int .i64 0, .int .i64 0, .int .i64 0, .int .i64 0]) ?_ 1 _ rfl; refine blk_put (cs := #[.string (⟨#[]⟩ : ByteArray), .int .i64 0, .int .i64 0, .int .i64 0, .int .i64 0, .int .i64 0]) ?_ 0 _ rfl; (with_reducible repeat (first | refine blk_drewN ?_ _ | refine blk_drew ?_ | refine blk_alloc ?_ _)); exact BK343.out) hb); have n2_ := Aside0.mk (below_step (by repeat (first | (with_reducible first | exact HB.out | apply below_alloc | apply pw_below_drewN | apply below_drew1 | refine below_set ?_ GE335.out | refine below_set ?_ GE343.out) | exact HB.out)) hb); have n3_ := Aside0.mk (hbox); have n4_ := Aside0.mk ((by rw [hg]; exact (below_size (by repeat (first | (with_reducible first | exact HB.out | apply below_alloc | apply pw_below_drewN | apply below_drew1 | refine below_set ?_ GE335.out | refine below_set ?_ GE343.out) | exact HB.out))) : w.heap.size ≤ gb346)); have n5_ := Aside0.mk ((by rw [hg]; exact (below_size (by repeat (first | (with_reducible first | exact HB.out | apply below_alloc | apply pw_below_drewN | apply below_drew1 | refine below_set ?_ GE335.out | refine below_set ?_ GE343.out) | exact HB.out))) : w.heap.size ≤ gb346)); have n6_ := Aside0.mk ((by rw [hg]; exact Nat.ne_of_lt (blk_lt (g := gb335) (o := .cells #[.string a0_0, .int .i64 a0_1, .int .i64 a0_2, .int .i64 a0_3, .int .i64 a0_4, .int .i64 a0_5] 25 (0, 0)) (by (repeat ((with_reducible repeat (first | refine blk_drewN ?_ _ | refine blk_drew ?_ | refine blk_alloc ?_ _)); refine blk_far ?_ NB335_343.out _)); (with_reducible repeat (first | refine blk_drewN ?_ _ | refine blk_drew ?_ | refine blk_alloc ?_ _)); exact BK335.out)) : gb335 ≠ gb346)); have n7_ := Aside0.mk ((by rw [hg]; exact Nat.ne_of_gt (blk_lt (g := gb335) (o := .cells #[.string a0_0, .int .i64 a0_1, .int .i64 a0_2, .int .i64 a0_3, .int .i64 a0_4, .int .i64 a0_5] 25 (0, 0)) (by (repeat ((with_reducible repeat (first | refine blk_drewN ?_ _ | refine blk_drew ?_ | refine blk_alloc ?_ _)); refine blk_far ?_ NB335_343.out _)); (with_reducible repeat (first | refine blk_drewN ?_ _ | refine blk_drew ?_ | refine blk_alloc ?_ _)); exact BK335.out)) : gb346 ≠ gb335)); have n8_ := Aside0.mk ((by rw [hg]; exact Nat.ne_of_lt (blk_lt (g := gb343) (o := .cells #[.string t337, .int .i64 t338, .int .i64 t339, .int .i64 t340, .int .i64 t341, .int .i64 t342] 25 (0, 0)) (by (with_reducible repeat (first | refine blk_drewN ?_ _ | refine blk_drew ?_ | refine blk_alloc ?_ _)); refine blk_put (cs := #[.string t337, .int .i64 t338, .int .i64 t339, .int .i64 t340, .int .i64 t341, .int .i64 0]) ?_ 5 _ rfl; refine blk_put (cs := #[.string t337, .int .i64 t338, .int .i64 t339, .int .i64 t340, .int .i64 0, .int .i64 0]) ?_ 4 _ rfl; refine blk_put (cs := #[.string t337, .int .i64 t338, .int .i64 t339, .int .i64 0, .int .i64 0, .int .i64 0]) ?_ 3 _ rfl; refine blk_put (cs := #[.string t337, .int .i64 t338, .int .i64 0, .int .i64 0, .int .i64 0, .int .i64 0]) ?_ 2 _ rfl; refine blk_put (cs := #[.string t337, .int .i64 0, .int .i64 0, .int .i64 0, .int .i64 0, .int .i64 0]) ?_ 1 _ rfl; refine blk_put (cs := #[.string (⟨#[]⟩ : ByteArray), .int .i64 0, .int .i64 0, .int .i64 0, .int .i64 0, .int .i64 0]) ?_ 0 _ rfl; (with_reducible repeat (first | refine blk_drewN ?_ _ | refine blk_drew ?_ | refine blk_alloc ?_ _)); exact BK343.out)) : gb343 ≠ gb346)); have n9_ := Aside0.mk ((by rw [hg]; exact Nat.ne_of_gt (blk_lt (g := gb343) (o := .cells #[.string t337, .int .i64 t338, .int .i64 t339, .int .i64 t340, .int .i64 t341, .int .i64 t342] 25 (0, 0)) (by (with_reducible repeat (first | refine blk_drewN ?_ _ | refine blk_drew ?_ | refine blk_alloc ?_ _)); refine blk_put (cs := #[.string t337, .int .i64 t338, .int .i64 t339, .int .i64 t340, .int .i64 t341, .int .i64 0]) ?_ 5 _ rfl; refine blk_put (cs := #[.string t337, .int .i64 t338, .int .i64 t339, .int .i64 t340, .int .i64 0, .int .i64 0]) ?_ 4 _ rfl; refine blk_put (cs := #[.string t337, .int .i64 t338, .int .i64 t339, .int .i64 0, .int .i64 0, .int .i64 0]) ?_ 3 _ rfl; refine blk_put (cs := #[.string t337, .int .i64 t338, .int .i64 0, .int .i64 0, .int .i64 0, .int .i64 0]) ?_ 2 _ rfl; refine blk_put (cs := #[.string t337, .int .i64 0, .int .i64 0, .int .i64 0, .int .i64 0, .int .i64 0]) ?_ 1 _ rfl; refine blk_put (cs := #[.string (⟨#[]⟩ : ByteArray), .int .i64 0, .int .i64 0, .int .i64 0, .int .i64 0, .int .i64 0]) ?_ 0 _ rfl; (with_reducible repeat (first | refine blk_drewN ?_ _ | refine blk_drew ?_ | refine blk_alloc ?_ _)); exact BK343.out)) : gb346 ≠ gb343)); clear BK335; clear BK343; clear HB; have BK335 := n0_; have BK343 := n1_; have HB := n2_; have BK346 := n3_; have GW346 := n4_; have GE346 := n5_; have NB335_346 := n6_; have NB346_335 := n7_; have NB343_346 := n8_; have NB346_343 := n9_; clear n0_ n1_ n2_ n3_ n4_ n5_ n6_ n7_ n8_ n9_; clear hb hbox hg; have hnb18 := NB346_335.out; have hnc18 := NB335_346.out; have hnb19 := NB346_343.out; have hnc19 := NB343_346.out; have hcz20_0 : w17.cell? ⟨gb346, 0, none⟩ = some (.int .i64 0) := bc BK346 0; have hcz20_1 : w17.cell? ⟨gb346, 1, none⟩ = some (.int .i64 0) := bc BK346 1; have hfz20_0 := blk_frozen BK346.out 0; have hfz20_1 := blk_frozen BK346.out 1) | ((with_reducible refine gate_callee (f := 18) rfl ?_); refine goesL_ (some 26) rfl rfl Try.func18 (by kernel_rfl) rfl #[.int .i64 (wrap64 (Int.tdiv a2 11)), .int .i64 11] rfl (by (try simp only [List.map_toArray, List.map_cons, List.map_nil]); first | done | rfl | (simp only [List.length_drop, List.length_take]; rfl)) ?_; (with_reducible refine (damperlaw10_within.calls (wrap64 (Int.tdiv a2 11)) 11 t347 _ A9.out).mono ?_); rintro e w' ⟨rfl, ⟨nd, rfl⟩⟩; refine ⟨_, rfl, ?_⟩))
    go_loopg [10, 11] k (fun kq v10 v11 w' => ∃ (x10_1 : Int) (x11_1 : Int) (x347000_1 : Int) (x347001_1 : Int), v10 = .int .i64 x10_1 ∧ v11 = .int .i64 x11_1 ∧ Aside0 (damperlaw10_ScaleAgain.l0 kq (wrap64 (1 + t344)) x10_1 x11_1 t337 t338 t339 t340 t341 t342 x347000_1 x347001_1 = some r) ∧ Aside0 (kq ≤ k) ∧ Aside0 (w'.heap[gb335]? = some (.cells #[.string a0_0, .int .i64 a0_1, .int .i64 a0_2, .int .i64 a0_3, .int .i64 a0_4, .int .i64 a0_5] 25 (0, 0))) ∧ Aside0 (w'.heap[gb343]? = some (.cells #[.string t337, .int .i64 t338, .int .i64 t339, .int .i64 t340, .int .i64 t341, .int .i64 t342] 25 (0, 0))) ∧ Aside0 (w'.heap[gb346]? = some (.cells #[.int .i64 x347000_1, .int .i64 x347001_1] 30 (0, 0))) ∧ Aside0 (Below w.heap.size w w'))
    case atStart => exact ⟨(t347), (0), (t345), (0), (by first | rfl | (simp; done) | (simp [*]; done)), (by first | rfl | (simp; done) | (simp [*]; done)), H', ⟨Nat.le_refl _⟩, ⟨by (repeat ((with_reducible repeat (first | refine blk_drewN ?_ _ | refine blk_drew ?_ | refine blk_alloc ?_ _)); refine blk_far ?_ NB335_346.out _)); (with_reducible repeat (first | refine blk_drewN ?_ _ | refine blk_drew ?_ | refine blk_alloc ?_ _)); exact BK335.out⟩, ⟨by (repeat ((with_reducible repeat (first | refine blk_drewN ?_ _ | refine blk_drew ?_ | refine blk_alloc ?_ _)); refine blk_far ?_ NB343_346.out _)); (with_reducible repeat (first | refine blk_drewN ?_ _ | refine blk_drew ?_ | refine blk_alloc ?_ _)); exact BK343.out⟩, ⟨by (with_reducible repeat (first | refine blk_drewN ?_ _ | refine blk_drew ?_ | refine blk_alloc ?_ _)); refine blk_put (cs := #[.int .i64 t345, .int .i64 0]) ?_ 1 _ rfl; refine blk_put (cs := #[.int .i64 0, .int .i64 0]) ?_ 0 _ rfl; (with_reducible repeat (first | refine blk_drewN ?_ _ | refine blk_drew ?_ | refine blk_alloc ?_ _)); exact BK346.out⟩, ⟨by repeat (first | (with_reducible first | exact HB.out | apply below_alloc | apply pw_below_drewN | apply below_drew1 | refine below_set ?_ GE335.out | refine below_set ?_ GE343.out | refine below_set ?_ GE346.out) | exact HB.out)⟩⟩
    case round =>
      clear H'
      try clear c1
      try clear p2
      try clear c5
      try clear p6
      try clear c9
      try clear c13
      try clear c15
      try clear c18
      try clear c19
      try clear hcz12_0
      try clear hcz12_1
      try clear hcz12_2
      try clear hcz12_3
      try clear hcz12_4
      try clear hcz12_5
      try clear hcz16_0
      try clear hcz16_1
      try clear hcz16_2
      try clear hcz16_3
      try clear hcz16_4
      try clear hcz16_5
      try clear hcz20_0
      try clear hcz20_1
      try clear hfz12_0
      try clear hfz12_1
      try clear hfz12_2
      try clear hfz12_3
      try clear hfz12_4
      try clear hfz12_5
      try clear hfz16_0
      try clear hfz16_1
      try clear hfz16_2
      try clear hfz16_3
      try clear hfz16_4
      try clear hfz16_5
      try clear hfz20_0
      try clear hfz20_1
      obtain ⟨x10_1, x11_1, x347000_1, x347001_1, rfl, rfl, HA, HK1, BK335, BK343, BK346, HB⟩ := hrel
      cases gk with
      | zero => exact absurd HA.out (by simp [damperlaw10_ScaleAgain.l0])
      | succ k1 =>
        have H := HA.out
        clear HA
        simp only [damperlaw10_ScaleAgain.l0] at H
        by_cases c21 : x11_1 < 30
        · rw [if_pos c21] at H
          have c21b0 : decide (x11_1 < 30) = true := decide_eq_true c21
          clear c21
          replace H := Option.bind_eq_some_iff.mp H
          obtain ⟨⟨t348, t349⟩, A220, H⟩ := H
          replace H : (damperlaw10_ScaleAgain.l0 k1 (wrap64 (1 + t344)) t348 (wrap64 (x11_1 + 1)) t337 t338 t339 t340 t341 t342 t348 t349) = some r := H
          have A22 := Aside0.mk A220
          clear A220
          have H' := Aside0.mk H
          clear H
          have hnb23 := NB346_335.out
          have hnc23 := NB335_346.out
          have hnb24 := NB346_343.out
          have hnc24 := NB343_346.out
          have hcz25_0 : wr.cell? ⟨gb346, 0, none⟩ = some (.int .i64 x347000_1) := bc BK346 0
          have hcz25_1 : wr.cell? ⟨gb346, 1, none⟩ = some (.int .i64 x347001_1) := bc BK346 1
          have hfz25_0 := blk_frozen BK346.out 0
          have hfz25_1 := blk_frozen BK346.out 1
          have hnb26 := NB343_335.out
          have hnc26 := NB335_343.out
          have hcz27_0 : wr.cell? ⟨gb343, 0, none⟩ = some (.string t337) := bc BK343 0
          have hcz27_1 : wr.cell? ⟨gb343, 1, none⟩ = some (.int .i64 t338) := bc BK343 1
          have hcz27_2 : wr.cell? ⟨gb343, 2, none⟩ = some (.int .i64 t339) := bc BK343 2
          have hcz27_3 : wr.cell? ⟨gb343, 3, none⟩ = some (.int .i64 t340) := bc BK343 3
          have hcz27_4 : wr.cell? ⟨gb343, 4, none⟩ = some (.int .i64 t341) := bc BK343 4
          have hcz27_5 : wr.cell? ⟨gb343, 5, none⟩ = some (.int .i64 t342) := bc BK343 5
          have hfz27_0 := blk_frozen BK343.out 0
          have hfz27_1 := blk_frozen BK343.out 1
          have hfz27_2 := blk_frozen BK343.out 2
          have hfz27_3 := blk_frozen BK343.out 3
          have hfz27_4 := blk_frozen BK343.out 4
          have hfz27_5 := blk_frozen BK343.out 5
          go_wp2_with (first | ((with_reducible refine gate_callee (f := 21) rfl ?_); refine goesL_ (some 39) rfl rfl Try.func21 (by kernel_rfl) rfl #[.agg #[.int .i64 x347000_1, .int .i64 x347001_1], .agg #[.string t337, .int .i64 t338, .int .i64 t339, .int .i64 t340, .int .i64 t341, .int .i64 t342], .int .i64 x10_1, .int .i64 (wrap64 (1 + t344)), .int .i64 (wrap64 (6 * (wrap64 (1 + t344)))), .int .i64 6, .int .i64 (wrap64 (2 * (wrap64 (1 + t344)))), .int .i64 2, .int .i64 0] rfl (by (try simp only [List.map_toArray, List.map_cons, List.map_nil]); first | done | rfl | (simp only [List.length_drop, List.length_take]; rfl)) ?_; (with_reducible refine (scale_Decide.calls k1 x347000_1 x347001_1 t337 t338 t339 t340 t341 t342 x10_1 (wrap64 (1 + t344)) (wrap64 (6 * (wrap64 (1 + t344)))) 6 (wrap64 (2 * (wrap64 (1 + t344)))) 2 0 t348 t349 _ A22.out).mono ?_); rintro e w28 ⟨rfl, hb⟩; refine ⟨_, rfl, ?_⟩; have n0_ := Aside0.mk (blk_below (g := gb335) (pk BK335) hb); have n1_ := Aside0.mk (blk_below (g := gb343) (pk BK343) hb); have n2_ := Aside0.mk (blk_below (g := gb346) (pk BK346) hb); have n3_ := Aside0.mk (below_step (by repeat (first | (with_reducible first | exact HB.out | apply below_alloc | apply pw_below_drewN | apply below_drew1 | refine below_set ?_ GE335.out | refine below_set ?_ GE343.out | refine below_set ?_ GE346.out) | exact HB.out)) hb); clear BK335; clear BK343; clear BK346; clear HB; have BK335 := n0_; have BK343 := n1_; have BK346 := n2_; have HB := n3_; clear n0_ n1_ n2_ n3_; (try clear hb); (try clear hb2); (try clear hk); (try clear hi); have hcz29_0 : w28.cell? ⟨gb346, 0, none⟩ = some (.int .i64 x347000_1) := bc BK346 0; have hcz29_1 : w28.cell? ⟨gb346, 1, none⟩ = some (.int .i64 x347001_1) := bc BK346 1; have hfz29_0 := blk_frozen BK346.out 0; have hfz29_1 := blk_frozen BK346.out 1))
          go_roundg k1
          case measure => have := HK1.out; omega
          case rel => exact ⟨(t348), (wrap64 (x11_1 + 1)), (t348), (t349), (by first | rfl | (simp; done) | (simp [*]; done)), (by first | rfl | (simp; done) | (simp [*]; done)), H', ⟨by have := HK1.out; omega⟩, ⟨by (repeat ((with_reducible repeat (first | refine blk_drewN ?_ _ | refine blk_drew ?_ | refine blk_alloc ?_ _)); refine blk_far ?_ NB335_346.out _)); (with_reducible repeat (first | refine blk_drewN ?_ _ | refine blk_drew ?_ | refine blk_alloc ?_ _)); exact BK335.out⟩, ⟨by (repeat ((with_reducible repeat (first | refine blk_drewN ?_ _ | refine blk_drew ?_ | refine blk_alloc ?_ _)); refine blk_far ?_ NB343_346.out _)); (with_reducible repeat (first | refine blk_drewN ?_ _ | refine blk_drew ?_ | refine blk_alloc ?_ _)); exact BK343.out⟩, ⟨by (with_reducible repeat (first | refine blk_drewN ?_ _ | refine blk_drew ?_ | refine blk_alloc ?_ _)); refine blk_put (cs := #[.int .i64 t348, .int .i64 x347001_1]) ?_ 1 _ rfl; refine blk_put (cs := #[.int .i64 x347000_1, .int .i64 x347001_1]) ?_ 0 _ rfl; (with_reducible repeat (first | refine blk_drewN ?_ _ | refine blk_drew ?_ | refine blk_alloc ?_ _)); exact BK346.out⟩, ⟨by repeat (first | (with_reducible first | exact HB.out | apply below_alloc | apply pw_below_drewN | apply below_drew1 | refine below_set ?_ GE335.out | refine below_set ?_ GE343.out | refine below_set ?_ GE346.out) | exact HB.out)⟩⟩
        · rw [if_neg c21] at H
          have c21b0 : decide (x11_1 < 30) = false := decide_eq_false c21
          clear c21
          replace H := Option.bind_eq_some_iff.mp H
          obtain ⟨t350, A300, H⟩ := H
          replace H : ((scale_Decide.f k1 x347000_1 x347001_1 t337 t338 t339 t340 t341 t342 x10_1 (wrap64 (1 + t344)) (wrap64 (6 * (wrap64 (1 + t344)))) 6 (wrap64 (2 * (wrap64 (1 + t344)))) 2 0).bind fun bt351 => (if x347000_1 ≥ (mx t340 (mn t341 t350)) then (if x347000_1 ≤ t341 then (if bt351.1 = x347000_1 then (if x347001_1 > 0 then (some true) else (some (x347000_1 == (mx (mx t340 (mn t341 t350)) (mn t341 (wrap64 (Int.tdiv x347000_1 2))))))) else (some false)) else (some false)) else (some false))) = some r := H
          have A30 := Aside0.mk A300
          clear A300
          obtain ⟨ji31, hji31⟩ : ∃ j_ : Int, (mn t341 t350) = j_ := ⟨_, rfl⟩
          replace H : ((scale_Decide.f k1 x347000_1 x347001_1 t337 t338 t339 t340 t341 t342 x10_1 (wrap64 (1 + t344)) (wrap64 (6 * (wrap64 (1 + t344)))) 6 (wrap64 (2 * (wrap64 (1 + t344)))) 2 0).bind fun bt351 => (if x347000_1 ≥ (mx t340 (ji31)) then (if x347000_1 ≤ t341 then (if bt351.1 = x347000_1 then (if x347001_1 > 0 then (some true) else (some (x347000_1 == (mx (mx t340 (ji31)) (mn t341 (wrap64 (Int.tdiv x347000_1 2))))))) else (some false)) else (some false)) else (some false))) = some r := by first | (rw [hji31] at H; exact H) | (simp only [hji31] at H ⊢; exact H)
          (try rw [hji31] at A30)
          have hji31_ : (if t350 < t341 then t350 else t341) = ji31 := hji31
          obtain ⟨ji32, hji32⟩ : ∃ j_ : Int, (mx t340 (ji31)) = j_ := ⟨_, rfl⟩
          replace H : ((scale_Decide.f k1 x347000_1 x347001_1 t337 t338 t339 t340 t341 t342 x10_1 (wrap64 (1 + t344)) (wrap64 (6 * (wrap64 (1 + t344)))) 6 (wrap64 (2 * (wrap64 (1 + t344)))) 2 0).bind fun bt351 => (if x347000_1 ≥ (ji32) then (if x347000_1 ≤ t341 then (if bt351.1 = x347000_1 then (if x347001_1 > 0 then (some true) else (some (x347000_1 == (mx (ji32) (mn t341 (wrap64 (Int.tdiv x347000_1 2))))))) else (some false)) else (some false)) else (some false))) = some r := by first | (rw [hji32] at H; exact H) | (simp only [hji32] at H ⊢; exact H)
          (try rw [hji32] at A30)
          have hji32_ : (if t340 < (ji31) then (ji31) else t340) = ji32 := hji32
          replace H := Option.bind_eq_some_iff.mp H
          obtain ⟨⟨t351, t352⟩, A330, H⟩ := H
          replace H : (if x347000_1 ≥ (ji32) then (if x347000_1 ≤ t341 then (if t351 = x347000_1 then (if x347001_1 > 0 then (some true) else (some (x347000_1 == (mx (ji32) (mn t341 (wrap64 (Int.tdiv x347000_1 2))))))) else (some false)) else (some false)) else (some false)) = some r := H
          have A33 := Aside0.mk A330
          clear A330
          by_cases c34 : x347000_1 ≥ (ji32)
          rotate_left
          · rw [if_neg c34] at H
            have c34b0 : decide ((ji32) ≤ x347000_1) = false := decide_eq_false c34
            clear c34
            exact absurd (Option.some.inj H) (by rw [hr0_.out]; decide)
          rw [if_pos c34] at H
          have c34b0 : decide ((ji32) ≤ x347000_1) = true := decide_eq_true c34
          clear c34
          by_cases c35 : x347000_1 ≤ t341
          rotate_left
          · rw [if_neg c35] at H
            have c35b0 : decide (x347000_1 ≤ t341) = false := decide_eq_false c35
            clear c35
            exact absurd (Option.some.inj H) (by rw [hr0_.out]; decide)
          rw [if_pos c35] at H
          have c35b0 : decide (x347000_1 ≤ t341) = true := decide_eq_true c35
          clear c35
          by_cases c36 : t351 = x347000_1
          rotate_left
          · rw [if_neg c36] at H
            have c36b0 : (t351 == x347000_1) = false := beq_eq_false_iff_ne.mpr c36
            have c36b1 : (t351 != x347000_1) = true := bne_iff_ne.mpr c36
            exact absurd (Option.some.inj H) (by rw [hr0_.out]; decide)
          rw [if_pos c36] at H
          have c36b0 : (t351 == x347000_1) = true := beq_iff_eq.mpr c36
          have c36b1 : (t351 != x347000_1) = false := bne_eq_false_iff_eq.mpr c36
          clear c36
          by_cases c37 : x347001_1 > 0
          · rw [if_pos c37] at H
            have c37b0 : decide (0 < x347001_1) = true := decide_eq_true c37
            clear c37
            obtain rfl := Option.some.inj H
            try go_wp2
            replace BK335 := Aside0.mk (blk_drew BK335.out)
            replace BK343 := Aside0.mk (blk_drew BK343.out)
            replace BK346 := Aside0.mk (blk_drew BK346.out)
            replace HB := Aside0.mk (below_drew1 HB.out)
            refine start_ (n := 12) (S := fun w' => w'.cell? ⟨gb343, 0, none⟩ = some (.string t337) ∧ w'.cell? ⟨gb343, 1, none⟩ = some (.int .i64 t338) ∧ w'.cell? ⟨gb343, 2, none⟩ = some (.int .i64 t339) ∧ w'.cell? ⟨gb343, 3, none⟩ = some (.int .i64 t340) ∧ w'.cell? ⟨gb343, 4, none⟩ = some (.int .i64 t341) ∧ w'.cell? ⟨gb343, 5, none⟩ = some (.int .i64 t342)) (ds := []) #[false, false, false, false, false, false, false, false, false, false, false, false] (by kernel_rfl) rfl rfl ⟨bc BK343 0, bc BK343 1, bc BK343 2, bc BK343 3, bc BK343 4, bc BK343 5⟩ (fun hHeld => ?_); refine with_tabW damperlaw10_ScaleAgain.tab12 damperlaw10_ScaleAgain.bits12 (fun HT_ HW_ => ?_)
            generalize wr.drew = w38 at BK335 BK343 BK346 HB hHeld ⊢
            refine pure_ (i := 0) (N := some 42) (v := ?_) (a' := ?_) #[true, false, false, false, false, false, false, false, false, false, false, false] rfl rfl (any_of HT_.out (by kernel_rfl)) (fun _ _ _ h => h) (Or.inl ⟨by rfl, ?_⟩) ?_ ?_
            rotate_left
            · intro w'
              go_simp
              with_reducible rfl
            rotate_left
            · simp only [Act.put, List.setIfInBounds_toArray, List.set_cons_zero, List.set_cons_succ, i64_w, i32_w]
              rfl
            refine pure_ (i := 2) (N := some 44) (v := ?_) (a' := ?_) #[true, false, true, false, false, false, false, false, false, false, false, false] rfl rfl (any_of HT_.out (by kernel_rfl)) (fun _ _ _ h => h) (Or.inl ⟨by rfl, ?_⟩) ?_ ?_
            rotate_left
            · intro w'
              go_simp
              with_reducible rfl
            rotate_left
            · simp only [Act.put, List.setIfInBounds_toArray, List.set_cons_zero, List.set_cons_succ, i64_w, i32_w]
              rfl
            refine pure_ (i := 4) (N := some 46) (v := ?_) (a' := ?_) #[true, false, true, false, true, false, false, false, false, false, false, false] rfl rfl (any_of HT_.out (by kernel_rfl)) (fun _ _ _ h => h) (Or.inl ⟨by rfl, ?_⟩) ?_ ?_
            rotate_left
            · intro w'
              go_simp
              with_reducible rfl
            rotate_left
            · simp only [Act.put, List.setIfInBounds_toArray, List.set_cons_zero, List.set_cons_succ, i64_w, i32_w]
              rfl
            refine pure_ (i := 5) (N := some 47) (v := ?_) (a' := ?_) #[true, false, true, false, true, true, false, false, false, false, false, false] rfl rfl (any_of HT_.out (by kernel_rfl)) (fun _ _ _ h => h) (Or.inl ⟨by rfl, ?_⟩) ?_ ?_
            rotate_left
            · intro w'
              go_simp
              with_reducible rfl
            rotate_left
            · simp only [Act.put, List.setIfInBounds_toArray, List.set_cons_zero, List.set_cons_succ, i64_w, i32_w]
              rfl
            refine pure_ (i := 6) (N := some 48) (v := ?_) (a' := ?_) #[true, false, true, false, true, true, true, false, false, false, false, false] rfl rfl (any_of HT_.out (by kernel_rfl)) (fun _ _ _ h => h) (Or.inl ⟨by rfl, ?_⟩) ?_ ?_
            rotate_left
            · intro w'
              go_simp
              with_reducible rfl
            rotate_left
            · simp only [Act.put, List.setIfInBounds_toArray, List.set_cons_zero, List.set_cons_succ, i64_w, i32_w]
              rfl
            refine take_ (i := 1) (N := some 43) (v := ?_) (a' := ?_) #[true, true, true, false, true, true, true, false, false, false, false, false] rfl rfl (take_ofW HT_.out HW_.out (by kernel_rfl)) (fun _ _ _ h => h) (Or.inl ⟨by rfl, ?_⟩) hHeld ?_ ?_
            rotate_left
            · rintro w' ⟨s0, s1, s2, s3, s4, s5⟩
              go_simp
              with_reducible rfl
            rotate_left
            · simp only [Act.put, List.setIfInBounds_toArray, List.set_cons_zero, List.set_cons_succ, i64_w, i32_w]
              rfl
            refine take_ (i := 3) (N := some 45) (v := ?_) (a' := ?_) #[true, true, true, true, true, true, true, false, false, false, false, false] rfl rfl (take_ofW HT_.out HW_.out (by kernel_rfl)) (fun _ _ _ h => h) (Or.inl ⟨by rfl, ?_⟩) hHeld ?_ ?_
            rotate_left
            · rintro w' ⟨s0, s1, s2, s3, s4, s5⟩
              go_simp
              with_reducible rfl
            rotate_left
            · simp only [Act.put, List.setIfInBounds_toArray, List.set_cons_zero, List.set_cons_succ, i64_w, i32_w]
              rfl
            refine take_ (i := 7) (N := some 49) (v := ?_) (a' := ?_) #[true, true, true, true, true, true, true, true, false, false, false, false] rfl rfl (take_ofW HT_.out HW_.out (by kernel_rfl)) (fun _ _ _ h => h) (Or.inl ⟨by rfl, ?_⟩) hHeld ?_ ?_
            rotate_left
            · rintro w' ⟨s0, s1, s2, s3, s4, s5⟩
              go_simp
              with_reducible rfl
            rotate_left
            · simp only [Act.put, List.setIfInBounds_toArray, List.set_cons_zero, List.set_cons_succ, i64_w, i32_w]
              rfl
            refine one_ (i := 8) (N := some 50) #[true, true, true, true, true, true, true, true, true, false, false, false] rfl rfl (one_of HT_.out (by kernel_rfl)) (by decide) (fun K hK => ?_)
            refine goes_ Try.func20 (by kernel_rfl) rfl #[.int .i64 (wrap64 (6 * (wrap64 (1 + t344)))), .int .i64 6, .int .i64 t339] (by rfl) rfl rfl (by (try simp only [List.map_toArray, List.map_cons, List.map_nil]); first | done | rfl | (simp only [List.length_drop, List.length_take]; rfl)) ?_
            with_reducible refine (damperref10_Need.calls (wrap64 (6 * (wrap64 (1 + t344)))) 6 t339 t350 _ A30.out).mono ?_
            rintro e w' ⟨rfl, ⟨nd, rfl⟩⟩
            refine ⟨_, rfl, ?_⟩
            refine hK.out _ _ ⟨bc BK343 0, bc BK343 1, bc BK343 2, bc BK343 3, bc BK343 4, bc BK343 5⟩ (fun hHeld => ?_)
            clear hK K
            refine norm_ (a' := ?_) ?_ ?_
            rotate_left
            · show Act.put _ (some 50) _ = _
              simp only [Act.put, List.setIfInBounds_toArray, List.set_cons_zero, List.set_cons_succ, i64_w, i32_w]
              rfl
            refine pure_ (i := 9) (N := some 51) (v := ?_) (a' := ?_) #[true, true, true, true, true, true, true, true, true, true, false, false] rfl rfl (any_of HT_.out (by kernel_rfl)) (fun _ _ _ h => h) (Or.inl ⟨by rfl, ?_⟩) ?_ ?_
            rotate_left
            · intro w'
              go_simp
              with_reducible rfl
            rotate_left
            · simp only [Act.put, List.setIfInBounds_toArray, List.set_cons_zero, List.set_cons_succ, i64_w, i32_w]
              rfl
            refine pure_ (i := 10) (N := some 52) (v := ?_) (a' := ?_) #[true, true, true, true, true, true, true, true, true, true, true, false] rfl rfl (any_of HT_.out (by kernel_rfl)) (fun _ _ _ h => h) (Or.inl ⟨by rfl, ?_⟩) ?_ ?_
            rotate_left
            · intro w'
              go_simp
              with_reducible rfl
            rotate_left
            · simp only [Act.put, List.setIfInBounds_toArray, List.set_cons_zero, List.set_cons_succ, i64_w, i32_w]
              rfl
            refine pure_ (i := 11) (N := some 12) (v := ?_) (a' := ?_) #[true, true, true, true, true, true, true, true, true, true, true, true] rfl rfl (any_of HT_.out (by kernel_rfl)) (fun _ _ _ h => h) (Or.inl ⟨by rfl, ?_⟩) ?_ ?_
            rotate_left
            · intro w'
              go_simp
              with_reducible rfl
            rotate_left
            · simp only [Act.put, List.setIfInBounds_toArray, List.set_cons_zero, List.set_cons_succ, i64_w, i32_w]
              rfl
            refine done_ (done_of HT_.out (by kernel_rfl)) ?_
            have hnb39 := NB346_335.out
            have hnc39 := NB335_346.out
            have hnb40 := NB346_343.out
            have hnc40 := NB343_346.out
            have hcz41_0 : w38.cell? ⟨gb346, 0, none⟩ = some (.int .i64 x347000_1) := bc BK346 0
            have hcz41_1 : w38.cell? ⟨gb346, 1, none⟩ = some (.int .i64 x347001_1) := bc BK346 1
            have hfz41_0 := blk_frozen BK346.out 0
            have hfz41_1 := blk_frozen BK346.out 1
            have hnb42 := NB343_335.out
            have hnc42 := NB335_343.out
            have hcz43_0 : w38.cell? ⟨gb343, 0, none⟩ = some (.string t337) := bc BK343 0
            have hcz43_1 : w38.cell? ⟨gb343, 1, none⟩ = some (.int .i64 t338) := bc BK343 1
            have hcz43_2 : w38.cell? ⟨gb343, 2, none⟩ = some (.int .i64 t339) := bc BK343 2
            have hcz43_3 : w38.cell? ⟨gb343, 3, none⟩ = some (.int .i64 t340) := bc BK343 3
            have hcz43_4 : w38.cell? ⟨gb343, 4, none⟩ = some (.int .i64 t341) := bc BK343 4
            have hcz43_5 : w38.cell? ⟨gb343, 5, none⟩ = some (.int .i64 t342) := bc BK343 5
            have hfz43_0 := blk_frozen BK343.out 0
            have hfz43_1 := blk_frozen BK343.out 1
            have hfz43_2 := blk_frozen BK343.out 2
            have hfz43_3 := blk_frozen BK343.out 3
            have hfz43_4 := blk_frozen BK343.out 4
            have hfz43_5 := blk_frozen BK343.out 5
            try go_wp2_with (first | ((with_reducible refine gate_callee (f := 21) rfl ?_); refine goesL_ (some 61) rfl rfl Try.func21 (by kernel_rfl) rfl #[.agg #[.int .i64 x347000_1, .int .i64 x347001_1], .agg #[.string t337, .int .i64 t338, .int .i64 t339, .int .i64 t340, .int .i64 t341, .int .i64 t342], .int .i64 x10_1, .int .i64 (wrap64 (1 + t344)), .int .i64 (wrap64 (6 * (wrap64 (1 + t344)))), .int .i64 6, .int .i64 (wrap64 (2 * (wrap64 (1 + t344)))), .int .i64 2, .int .i64 0] rfl (by (try simp only [List.map_toArray, List.map_cons, List.map_nil]); first | done | rfl | (simp only [List.length_drop, List.length_take]; rfl)) ?_; (with_reducible refine (scale_Decide.calls k1 x347000_1 x347001_1 t337 t338 t339 t340 t341 t342 x10_1 (wrap64 (1 + t344)) (wrap64 (6 * (wrap64 (1 + t344)))) 6 (wrap64 (2 * (wrap64 (1 + t344)))) 2 0 t351 t352 _ A33.out).mono ?_); rintro e w44 ⟨rfl, hb⟩; refine ⟨_, rfl, ?_⟩; have n0_ := Aside0.mk (blk_below (g := gb335) (pk BK335) hb); have n1_ := Aside0.mk (blk_below (g := gb343) (pk BK343) hb); have n2_ := Aside0.mk (blk_below (g := gb346) (pk BK346) hb); have n3_ := Aside0.mk (below_step (by repeat (first | (with_reducible first | exact HB.out | apply below_alloc | apply pw_below_drewN | apply below_drew1 | refine below_set ?_ GE335.out | refine below_set ?_ GE343.out | refine below_set ?_ GE346.out) | exact HB.out)) hb); clear BK335; clear BK343; clear BK346; clear HB; have BK335 := n0_; have BK343 := n1_; have BK346 := n2_; have HB := n3_; clear n0_ n1_ n2_ n3_; (try clear hb); (try clear hb2); (try clear hk); (try clear hi)) | ((with_reducible refine gate_dst (N := 13) rfl ?_); (try (refine gate_guard (by rfl) ?_; dsimp only)); refine box_event ?hg (N := 13) ?hd (cs := #[.int .i64 0, .int .i64 0]) (t := 30) ?hr ?_; (case hd => rfl); (case hg => rfl); (case hr => first | (go_simp; done) | (go_simp; rfl)); intro gb353 hg w45 hbox hb; have n0_ := Aside0.mk (blk_below (g := gb335) (pk BK335) hb); have n1_ := Aside0.mk (blk_below (g := gb343) (pk BK343) hb); have n2_ := Aside0.mk (blk_below (g := gb346) (pk BK346) hb); have n3_ := Aside0.mk (below_step (by repeat (first | (with_reducible first | exact HB.out | apply below_alloc | apply pw_below_drewN | apply below_drew1 | refine below_set ?_ GE335.out | refine below_set ?_ GE343.out | refine below_set ?_ GE346.out) | exact HB.out)) hb); have n4_ := Aside0.mk (hbox); have n5_ := Aside0.mk ((by rw [hg]; exact (below_size (by repeat (first | (with_reducible first | exact HB.out | apply below_alloc | apply pw_below_drewN | apply below_drew1 | refine below_set ?_ GE335.out | refine below_set ?_ GE343.out | refine below_set ?_ GE346.out) | exact HB.out))) : w.heap.size ≤ gb353)); have n6_ := Aside0.mk ((by rw [hg]; exact (below_size (by repeat (first | (with_reducible first | exact HB.out | apply below_alloc | apply pw_below_drewN | apply below_drew1 | refine below_set ?_ GE335.out | refine below_set ?_ GE343.out | refine below_set ?_ GE346.out) | exact HB.out))) : w.heap.size ≤ gb353)); have n7_ := Aside0.mk ((ne_lt hg (pk BK335) : gb335 ≠ gb353)); have n8_ := Aside0.mk ((ne_gt hg (pk BK335) : gb353 ≠ gb335)); have n9_ := Aside0.mk ((ne_lt hg (pk BK343) : gb343 ≠ gb353)); have n10_ := Aside0.mk ((ne_gt hg (pk BK343) : gb353 ≠ gb343)); have n11_ := Aside0.mk ((ne_lt hg (pk BK346) : gb346 ≠ gb353)); have n12_ := Aside0.mk ((ne_gt hg (pk BK346) : gb353 ≠ gb346)); clear BK335; clear BK343; clear BK346; clear HB; have BK335 := n0_; have BK343 := n1_; have BK346 := n2_; have HB := n3_; have BK353 := n4_; have GW353 := n5_; have GE353 := n6_; have NB335_353 := n7_; have NB353_335 := n8_; have NB343_353 := n9_; have NB353_343 := n10_; have NB346_353 := n11_; have NB353_346 := n12_; clear n0_ n1_ n2_ n3_ n4_ n5_ n6_ n7_ n8_ n9_ n10_ n11_ n12_; clear hb hbox hg; have hnb46 := NB353_335.out; have hnc46 := NB335_353.out; have hnb47 := NB353_343.out; have hnc47 := NB343_353.out; have hnb48 := NB353_346.out; have hnc48 := NB346_353.out; have hcz49_0 : w45.cell? ⟨gb353, 0, none⟩ = some (.int .i64 0) := bc BK353 0; have hcz49_1 : w45.cell? ⟨gb353, 1, none⟩ = some (.int .i64 0) := bc BK353 1; have hfz49_0 := blk_frozen BK353.out 0; have hfz49_1 := blk_frozen BK353.out 1; have hcz50_0 : w45.cell? ⟨gb346, 0, none⟩ = some (.int .i64 x347000_1) := bc BK346 0; have hcz50_1 : w45.cell? ⟨gb346, 1, none⟩ = some (.int .i64 x347001_1) := bc BK346 1; have hfz50_0 := blk_frozen BK346.out 0; have hfz50_1 := blk_frozen BK346.out 1; have hcz51_0 : w45.cell? ⟨gb343, 0, none⟩ = some (.string t337) := bc BK343 0; have hcz51_1 : w45.cell? ⟨gb343, 1, none⟩ = some (.int .i64 t338) := bc BK343 1; have hcz51_2 : w45.cell? ⟨gb343, 2, none⟩ = some (.int .i64 t339) := bc BK343 2; have hcz51_3 : w45.cell? ⟨gb343, 3, none⟩ = some (.int .i64 t340) := bc BK343 3; have hcz51_4 : w45.cell? ⟨gb343, 4, none⟩ = some (.int .i64 t341) := bc BK343 4; have hcz51_5 : w45.cell? ⟨gb343, 5, none⟩ = some (.int .i64 t342) := bc BK343 5; have hfz51_0 := blk_frozen BK343.out 0; have hfz51_1 := blk_frozen BK343.out 1; have hfz51_2 := blk_frozen BK343.out 2; have hfz51_3 := blk_frozen BK343.out 3; have hfz51_4 := blk_frozen BK343.out 4; have hfz51_5 := blk_frozen BK343.out 5))
            go_ret
            exact ⟨by first | rfl | (simp [errW_none, errW_some] <;> rfl) | (simp only [← hji31, ← hji32]; first | rfl | (simp [errW_none, errW_some] <;> rfl)) | (simp [*, errW_none, errW_some] <;> rfl), by repeat (first | (with_reducible first | exact HB.out | apply below_alloc | apply pw_below_drewN | apply below_drew1 | refine below_set ?_ GE335.out | refine below_set ?_ GE343.out | refine below_set ?_ GE346.out | refine below_set ?_ GE353.out) | exact HB.out)⟩
          · rw [if_neg c37] at H
            have c37b0 : decide (0 < x347001_1) = false := decide_eq_false c37
            clear c37
            obtain ⟨ji52, hji52⟩ : ∃ j_ : Int, (mn t341 (wrap64 (Int.tdiv x347000_1 2))) = j_ := ⟨_, rfl⟩
            replace H : (some (x347000_1 == (mx (ji32) (ji52)))) = some r := by first | (rw [hji52] at H; exact H) | (simp only [hji52] at H ⊢; exact H)
            (try rw [hji52] at A30)
            (try rw [hji52] at A33)
            have hji52_ : (if (wrap64 (Int.tdiv x347000_1 2)) < t341 then (wrap64 (Int.tdiv x347000_1 2)) else t341) = ji52 := hji52
            obtain ⟨ji53, hji53⟩ : ∃ j_ : Int, (mx (ji32) (ji52)) = j_ := ⟨_, rfl⟩
            replace H : (some (x347000_1 == (ji53))) = some r := by first | (rw [hji53] at H; exact H) | (simp only [hji53] at H ⊢; exact H)
            (try rw [hji53] at A30)
            (try rw [hji53] at A33)
            have hji53_ : (if (ji32) < (ji52) then (ji52) else (ji32)) = ji53 := hji53
            obtain rfl := Option.some.inj H
            try go_wp2
            replace BK335 := Aside0.mk (blk_drew BK335.out)
            replace BK343 := Aside0.mk (blk_drew BK343.out)
            replace BK346 := Aside0.mk (blk_drew BK346.out)
            replace HB := Aside0.mk (below_drew1 HB.out)
            refine start_ (n := 12) (S := fun w' => w'.cell? ⟨gb343, 0, none⟩ = some (.string t337) ∧ w'.cell? ⟨gb343, 1, none⟩ = some (.int .i64 t338) ∧ w'.cell? ⟨gb343, 2, none⟩ = some (.int .i64 t339) ∧ w'.cell? ⟨gb343, 3, none⟩ = some (.int .i64 t340) ∧ w'.cell? ⟨gb343, 4, none⟩ = some (.int .i64 t341) ∧ w'.cell? ⟨gb343, 5, none⟩ = some (.int .i64 t342)) (ds := []) #[false, false, false, false, false, false, false, false, false, false, false, false] (by kernel_rfl) rfl rfl ⟨bc BK343 0, bc BK343 1, bc BK343 2, bc BK343 3, bc BK343 4, bc BK343 5⟩ (fun hHeld => ?_); refine with_tabW damperlaw10_ScaleAgain.tab12 damperlaw10_ScaleAgain.bits12 (fun HT_ HW_ => ?_)
            generalize wr.drew = w54 at BK335 BK343 BK346 HB hHeld ⊢
            refine pure_ (i := 0) (N := some 42) (v := ?_) (a' := ?_) #[true, false, false, false, false, false, false, false, false, false, false, false] rfl rfl (any_of HT_.out (by kernel_rfl)) (fun _ _ _ h => h) (Or.inl ⟨by rfl, ?_⟩) ?_ ?_
            rotate_left
            · intro w'
              go_simp
              with_reducible rfl
            rotate_left
            · simp only [Act.put, List.setIfInBounds_toArray, List.set_cons_zero, List.set_cons_succ, i64_w, i32_w]
              rfl
            refine pure_ (i := 2) (N := some 44) (v := ?_) (a' := ?_) #[true, false, true, false, false, false, false, false, false, false, false, false] rfl rfl (any_of HT_.out (by kernel_rfl)) (fun _ _ _ h => h) (Or.inl ⟨by rfl, ?_⟩) ?_ ?_
            rotate_left
            · intro w'
              go_simp
              with_reducible rfl
            rotate_left
            · simp only [Act.put, List.setIfInBounds_toArray, List.set_cons_zero, List.set_cons_succ, i64_w, i32_w]
              rfl
            refine pure_ (i := 4) (N := some 46) (v := ?_) (a' := ?_) #[true, false, true, false, true, false, false, false, false, false, false, false] rfl rfl (any_of HT_.out (by kernel_rfl)) (fun _ _ _ h => h) (Or.inl ⟨by rfl, ?_⟩) ?_ ?_
            rotate_left
            · intro w'
              go_simp
              with_reducible rfl
            rotate_left
            · simp only [Act.put, List.setIfInBounds_toArray, List.set_cons_zero, List.set_cons_succ, i64_w, i32_w]
              rfl
            refine pure_ (i := 5) (N := some 47) (v := ?_) (a' := ?_) #[true, false, true, false, true, true, false, false, false, false, false, false] rfl rfl (any_of HT_.out (by kernel_rfl)) (fun _ _ _ h => h) (Or.inl ⟨by rfl, ?_⟩) ?_ ?_
            rotate_left
            · intro w'
              go_simp
              with_reducible rfl
            rotate_left
            · simp only [Act.put, List.setIfInBounds_toArray, List.set_cons_zero, List.set_cons_succ, i64_w, i32_w]
              rfl
            refine pure_ (i := 6) (N := some 48) (v := ?_) (a' := ?_) #[true, false, true, false, true, true, true, false, false, false, false, false] rfl rfl (any_of HT_.out (by kernel_rfl)) (fun _ _ _ h => h) (Or.inl ⟨by rfl, ?_⟩) ?_ ?_
            rotate_left
            · intro w'
              go_simp
              with_reducible rfl
            rotate_left
            · simp only [Act.put, List.setIfInBounds_toArray, List.set_cons_zero, List.set_cons_succ, i64_w, i32_w]
              rfl
            refine take_ (i := 1) (N := some 43) (v := ?_) (a' := ?_) #[true, true, true, false, true, true, true, false, false, false, false, false] rfl rfl (take_ofW HT_.out HW_.out (by kernel_rfl)) (fun _ _ _ h => h) (Or.inl ⟨by rfl, ?_⟩) hHeld ?_ ?_
            rotate_left
            · rintro w' ⟨s0, s1, s2, s3, s4, s5⟩
              go_simp
              with_reducible rfl
            rotate_left
            · simp only [Act.put, List.setIfInBounds_toArray, List.set_cons_zero, List.set_cons_succ, i64_w, i32_w]
              rfl
            refine take_ (i := 3) (N := some 45) (v := ?_) (a' := ?_) #[true, true, true, true, true, true, true, false, false, false, false, false] rfl rfl (take_ofW HT_.out HW_.out (by kernel_rfl)) (fun _ _ _ h => h) (Or.inl ⟨by rfl, ?_⟩) hHeld ?_ ?_
            rotate_left
            · rintro w' ⟨s0, s1, s2, s3, s4, s5⟩
              go_simp
              with_reducible rfl
            rotate_left
            · simp only [Act.put, List.setIfInBounds_toArray, List.set_cons_zero, List.set_cons_succ, i64_w, i32_w]
              rfl
            refine take_ (i := 7) (N := some 49) (v := ?_) (a' := ?_) #[true, true, true, true, true, true, true, true, false, false, false, false] rfl rfl (take_ofW HT_.out HW_.out (by kernel_rfl)) (fun _ _ _ h => h) (Or.inl ⟨by rfl, ?_⟩) hHeld ?_ ?_
            rotate_left
            · rintro w' ⟨s0, s1, s2, s3, s4, s5⟩
              go_simp
              with_reducible rfl
            rotate_left
            · simp only [Act.put, List.setIfInBounds_toArray, List.set_cons_zero, List.set_cons_succ, i64_w, i32_w]
              rfl
            refine one_ (i := 8) (N := some 50) #[true, true, true, true, true, true, true, true, true, false, false, false] rfl rfl (one_of HT_.out (by kernel_rfl)) (by decide) (fun K hK => ?_)
            refine goes_ Try.func20 (by kernel_rfl) rfl #[.int .i64 (wrap64 (6 * (wrap64 (1 + t344)))), .int .i64 6, .int .i64 t339] (by rfl) rfl rfl (by (try simp only [List.map_toArray, List.map_cons, List.map_nil]); first | done | rfl | (simp only [List.length_drop, List.length_take]; rfl)) ?_
            with_reducible refine (damperref10_Need.calls (wrap64 (6 * (wrap64 (1 + t344)))) 6 t339 t350 _ A30.out).mono ?_
            rintro e w' ⟨rfl, ⟨nd, rfl⟩⟩
            refine ⟨_, rfl, ?_⟩
            refine hK.out _ _ ⟨bc BK343 0, bc BK343 1, bc BK343 2, bc BK343 3, bc BK343 4, bc BK343 5⟩ (fun hHeld => ?_)
            clear hK K
            refine norm_ (a' := ?_) ?_ ?_
            rotate_left
            · show Act.put _ (some 50) _ = _
              simp only [Act.put, List.setIfInBounds_toArray, List.set_cons_zero, List.set_cons_succ, i64_w, i32_w]
              rfl
            refine pure_ (i := 9) (N := some 51) (v := ?_) (a' := ?_) #[true, true, true, true, true, true, true, true, true, true, false, false] rfl rfl (any_of HT_.out (by kernel_rfl)) (fun _ _ _ h => h) (Or.inl ⟨by rfl, ?_⟩) ?_ ?_
            rotate_left
            · intro w'
              go_simp
              with_reducible rfl
            rotate_left
            · simp only [Act.put, List.setIfInBounds_toArray, List.set_cons_zero, List.set_cons_succ, i64_w, i32_w]
              rfl
            refine pure_ (i := 10) (N := some 52) (v := ?_) (a' := ?_) #[true, true, true, true, true, true, true, true, true, true, true, false] rfl rfl (any_of HT_.out (by kernel_rfl)) (fun _ _ _ h => h) (Or.inl ⟨by rfl, ?_⟩) ?_ ?_
            rotate_left
            · intro w'
              go_simp
              with_reducible rfl
            rotate_left
            · simp only [Act.put, List.setIfInBounds_toArray, List.set_cons_zero, List.set_cons_succ, i64_w, i32_w]
              rfl
            refine pure_ (i := 11) (N := some 12) (v := ?_) (a' := ?_) #[true, true, true, true, true, true, true, true, true, true, true, true] rfl rfl (any_of HT_.out (by kernel_rfl)) (fun _ _ _ h => h) (Or.inl ⟨by rfl, ?_⟩) ?_ ?_
            rotate_left
            · intro w'
              go_simp
              with_reducible rfl
            rotate_left
            · simp only [Act.put, List.setIfInBounds_toArray, List.set_cons_zero, List.set_cons_succ, i64_w, i32_w]
              rfl
            refine done_ (done_of HT_.out (by kernel_rfl)) ?_
            have hnb55 := NB346_335.out
            have hnc55 := NB335_346.out
            have hnb56 := NB346_343.out
            have hnc56 := NB343_346.out
            have hcz57_0 : w54.cell? ⟨gb346, 0, none⟩ = some (.int .i64 x347000_1) := bc BK346 0
            have hcz57_1 : w54.cell? ⟨gb346, 1, none⟩ = some (.int .i64 x347001_1) := bc BK346 1
            have hfz57_0 := blk_frozen BK346.out 0
            have hfz57_1 := blk_frozen BK346.out 1
            have hnb58 := NB343_335.out
            have hnc58 := NB335_343.out
            have hcz59_0 : w54.cell? ⟨gb343, 0, none⟩ = some (.string t337) := bc BK343 0
            have hcz59_1 : w54.cell? ⟨gb343, 1, none⟩ = some (.int .i64 t338) := bc BK343 1
            have hcz59_2 : w54.cell? ⟨gb343, 2, none⟩ = some (.int .i64 t339) := bc BK343 2
            have hcz59_3 : w54.cell? ⟨gb343, 3, none⟩ = some (.int .i64 t340) := bc BK343 3
            have hcz59_4 : w54.cell? ⟨gb343, 4, none⟩ = some (.int .i64 t341) := bc BK343 4
            have hcz59_5 : w54.cell? ⟨gb343, 5, none⟩ = some (.int .i64 t342) := bc BK343 5
            have hfz59_0 := blk_frozen BK343.out 0
            have hfz59_1 := blk_frozen BK343.out 1
            have hfz59_2 := blk_frozen BK343.out 2
            have hfz59_3 := blk_frozen BK343.out 3
            have hfz59_4 := blk_frozen BK343.out 4
            have hfz59_5 := blk_frozen BK343.out 5
            try go_wp2_with (first | ((with_reducible refine gate_callee (f := 21) rfl ?_); refine goesL_ (some 61) rfl rfl Try.func21 (by kernel_rfl) rfl #[.agg #[.int .i64 x347000_1, .int .i64 x347001_1], .agg #[.string t337, .int .i64 t338, .int .i64 t339, .int .i64 t340, .int .i64 t341, .int .i64 t342], .int .i64 x10_1, .int .i64 (wrap64 (1 + t344)), .int .i64 (wrap64 (6 * (wrap64 (1 + t344)))), .int .i64 6, .int .i64 (wrap64 (2 * (wrap64 (1 + t344)))), .int .i64 2, .int .i64 0] rfl (by (try simp only [List.map_toArray, List.map_cons, List.map_nil]); first | done | rfl | (simp only [List.length_drop, List.length_take]; rfl)) ?_; (with_reducible refine (scale_Decide.calls k1 x347000_1 x347001_1 t337 t338 t339 t340 t341 t342 x10_1 (wrap64 (1 + t344)) (wrap64 (6 * (wrap64 (1 + t344)))) 6 (wrap64 (2 * (wrap64 (1 + t344)))) 2 0 t351 t352 _ A33.out).mono ?_); rintro e w60 ⟨rfl, hb⟩; refine ⟨_, rfl, ?_⟩; have n0_ := Aside0.mk (blk_below (g := gb335) (pk BK335) hb); have n1_ := Aside0.mk (blk_below (g := gb343) (pk BK343) hb); have n2_ := Aside0.mk (blk_below (g := gb346) (pk BK346) hb); have n3_ := Aside0.mk (below_step (by repeat (first | (with_reducible first | exact HB.out | apply below_alloc | apply pw_below_drewN | apply below_drew1 | refine below_set ?_ GE335.out | refine below_set ?_ GE343.out | refine below_set ?_ GE346.out) | exact HB.out)) hb); clear BK335; clear BK343; clear BK346; clear HB; have BK335 := n0_; have BK343 := n1_; have BK346 := n2_; have HB := n3_; clear n0_ n1_ n2_ n3_; (try clear hb); (try clear hb2); (try clear hk); (try clear hi)) | ((with_reducible refine gate_dst (N := 13) rfl ?_); (try (refine gate_guard (by rfl) ?_; dsimp only)); refine box_event ?hg (N := 13) ?hd (cs := #[.int .i64 0, .int .i64 0]) (t := 30) ?hr ?_; (case hd => rfl); (case hg => rfl); (case hr => first | (go_simp; done) | (go_simp; rfl)); intro gb353 hg w61 hbox hb; have n0_ := Aside0.mk (blk_below (g := gb335) (pk BK335) hb); have n1_ := Aside0.mk (blk_below (g := gb343) (pk BK343) hb); have n2_ := Aside0.mk (blk_below (g := gb346) (pk BK346) hb); have n3_ := Aside0.mk (below_step (by repeat (first | (with_reducible first | exact HB.out | apply below_alloc | apply pw_below_drewN | apply below_drew1 | refine below_set ?_ GE335.out | refine below_set ?_ GE343.out | refine below_set ?_ GE346.out) | exact HB.out)) hb); have n4_ := Aside0.mk (hbox); have n5_ := Aside0.mk ((by rw [hg]; exact (below_size (by repeat (first | (with_reducible first | exact HB.out | apply below_alloc | apply pw_below_drewN | apply below_drew1 | refine below_set ?_ GE335.out | refine below_set ?_ GE343.out | refine below_set ?_ GE346.out) | exact HB.out))) : w.heap.size ≤ gb353)); have n6_ := Aside0.mk ((by rw [hg]; exact (below_size (by repeat (first | (with_reducible first | exact HB.out | apply below_alloc | apply pw_below_drewN | apply below_drew1 | refine below_set ?_ GE335.out | refine below_set ?_ GE343.out | refine below_set ?_ GE346.out) | exact HB.out))) : w.heap.size ≤ gb353)); have n7_ := Aside0.mk ((ne_lt hg (pk BK335) : gb335 ≠ gb353)); have n8_ := Aside0.mk ((ne_gt hg (pk BK335) : gb353 ≠ gb335)); have n9_ := Aside0.mk ((ne_lt hg (pk BK343) : gb343 ≠ gb353)); have n10_ := Aside0.mk ((ne_gt hg (pk BK343) : gb353 ≠ gb343)); have n11_ := Aside0.mk ((ne_lt hg (pk BK346) : gb346 ≠ gb353)); have n12_ := Aside0.mk ((ne_gt hg (pk BK346) : gb353 ≠ gb346)); clear BK335; clear BK343; clear BK346; clear HB; have BK335 := n0_; have BK343 := n1_; have BK346 := n2_; have HB := n3_; have BK353 := n4_; have GW353 := n5_; have GE353 := n6_; have NB335_353 := n7_; have NB353_335 := n8_; have NB343_353 := n9_; have NB353_343 := n10_; have NB346_353 := n11_; have NB353_346 := n12_; clear n0_ n1_ n2_ n3_ n4_ n5_ n6_ n7_ n8_ n9_ n10_ n11_ n12_; clear hb hbox hg; have hnb62 := NB353_335.out; have hnc62 := NB335_353.out; have hnb63 := NB353_343.out; have hnc63 := NB343_353.out; have hnb64 := NB353_346.out; have hnc64 := NB346_353.out; have hcz65_0 : w61.cell? ⟨gb353, 0, none⟩ = some (.int .i64 0) := bc BK353 0; have hcz65_1 : w61.cell? ⟨gb353, 1, none⟩ = some (.int .i64 0) := bc BK353 1; have hfz65_0 := blk_frozen BK353.out 0; have hfz65_1 := blk_frozen BK353.out 1; have hcz66_0 : w61.cell? ⟨gb346, 0, none⟩ = some (.int .i64 x347000_1) := bc BK346 0; have hcz66_1 : w61.cell? ⟨gb346, 1, none⟩ = some (.int .i64 x347001_1) := bc BK346 1; have hfz66_0 := blk_frozen BK346.out 0; have hfz66_1 := blk_frozen BK346.out 1; have hcz67_0 : w61.cell? ⟨gb343, 0, none⟩ = some (.string t337) := bc BK343 0; have hcz67_1 : w61.cell? ⟨gb343, 1, none⟩ = some (.int .i64 t338) := bc BK343 1; have hcz67_2 : w61.cell? ⟨gb343, 2, none⟩ = some (.int .i64 t339) := bc BK343 2; have hcz67_3 : w61.cell? ⟨gb343, 3, none⟩ = some (.int .i64 t340) := bc BK343 3; have hcz67_4 : w61.cell? ⟨gb343, 4, none⟩ = some (.int .i64 t341) := bc BK343 4; have hcz67_5 : w61.cell? ⟨gb343, 5, none⟩ = some (.int .i64 t342) := bc BK343 5; have hfz67_0 := blk_frozen BK343.out 0; have hfz67_1 := blk_frozen BK343.out 1; have hfz67_2 := blk_frozen BK343.out 2; have hfz67_3 := blk_frozen BK343.out 3; have hfz67_4 := blk_frozen BK343.out 4; have hfz67_5 := blk_frozen BK343.out 5))
            go_ret
            exact ⟨by first | rfl | (simp [errW_none, errW_some] <;> rfl) | (simp only [← hji31, ← hji32, ← hji52, ← hji53]; first | rfl | (simp [errW_none, errW_some] <;> rfl)) | (simp [*, errW_none, errW_some] <;> rfl), by repeat (first | (with_reducible first | exact HB.out | apply below_alloc | apply pw_below_drewN | apply below_drew1 | refine below_set ?_ GE335.out | refine below_set ?_ GE343.out | refine below_set ?_ GE346.out | refine below_set ?_ GE353.out) | exact HB.out)⟩
  · replace c5 := Bool.eq_false_iff.mpr c5
    subst c5
    have H1 : (some false) = some r := by rw [if_neg (show ¬ (false = true) by decide)] at H; exact H
    clear H
    have H := H1
    clear H1
    exact absurd (Option.some.inj H) (by rw [hr0_.out]; decide)

/-- THE ONE PURE STATEMENT of damperlaw10_ScaleAgain: yours. -/
def damperlaw10_ScaleAgain.Pure : Prop := ∀ (a0_0 : ByteArray) (a0_1 : Int) (a0_2 : Int) (a0_3 : Int) (a0_4 : Int) (a0_5 : Int) (a1 : Int) (a2 : Int), (a0_0.size ≤ maxLen) → ((Lit.int .i64 a0_1).wf = true) → ((Lit.int .i64 a0_2).wf = true) → ((Lit.int .i64 a0_3).wf = true) → ((Lit.int .i64 a0_4).wf = true) → ((Lit.int .i64 a0_5).wf = true) → ((Lit.int .i64 a1).wf = true) → ((Lit.int .i64 a2).wf = true) → ∃ k, damperlaw10_ScaleAgain.f k a0_0 a0_1 a0_2 a0_3 a0_4 a0_5 a1 a2 = some true
theorem damperlaw10_ScaleAgain.walk (P : damperlaw10_ScaleAgain.Pure) (a0_0 : ByteArray) (a0_1 : Int) (a0_2 : Int) (a0_3 : Int) (a0_4 : Int) (a0_5 : Int) (a1 : Int) (a2 : Int) (w : World) (w0_0 : a0_0.size ≤ maxLen) (w0_1 : (Lit.int .i64 a0_1).wf = true) (w0_2 : (Lit.int .i64 a0_2).wf = true) (w0_3 : (Lit.int .i64 a0_3).wf = true) (w0_4 : (Lit.int .i64 a0_4).wf = true) (w0_5 : (Lit.int .i64 a0_5).wf = true) (w1 : (Lit.int .i64 a1).wf = true) (w2 : (Lit.int .i64 a2).wf = true)  :
    Calls Try.prog 9 #[.agg #[.string a0_0, .int .i64 a0_1, .int .i64 a0_2, .int .i64 a0_3, .int .i64 a0_4, .int .i64 a0_5], .int .i64 a1, .int .i64 a2] w fun e w' => e = .returned (.bool true) ∧ Below w.heap.size w w' := by
  obtain ⟨k, h⟩ := P a0_0 a0_1 a0_2 a0_3 a0_4 a0_5 a1 a2 w0_0 w0_1 w0_2 w0_3 w0_4 w0_5 w1 w2
  refine (damperlaw10_ScaleAgain.calls k a0_0 a0_1 a0_2 a0_3 a0_4 a0_5 a1 a2 true w ⟨rfl⟩ h).mono ?_
  rintro e w' ⟨rfl, hd⟩
  exact ⟨rfl, hd⟩

end Go.Proofs.Ytlikdmeickbigaa.Ma
