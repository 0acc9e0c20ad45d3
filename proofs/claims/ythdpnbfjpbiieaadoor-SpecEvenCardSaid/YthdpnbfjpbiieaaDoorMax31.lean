-- Written by a program of this session (wip/tools/myprint.py), in the form of the kit's print. Not trusted: Lean checks it.
import Derived.Test.YthdpnbfjpbiieaaDoorMax0
import Derived.Test.YthdpnbfjpbiieaaDoorMax13
import Derived.Test.YthdpnbfjpbiieaaDoorMax14
import Derived.Test.YthdpnbfjpbiieaaDoorMax28
namespace Go.Proofs.YthdpnbfjpbiieaaDoor.Ma
open Go.RowKit Go.Proofs.YthdpnbfjpbiieaaDoorW.PrintWords Go.Proofs.YthdpnbfjpbiieaaDoorW.PrintLast Go.Proofs.YthdpnbfjpbiieaaDoorW.PrintMore
attribute [local go_sem] max2_int min2_int max_two min_two max_three min_three max_four min_four   -- for this text's walks alone
set_option linter.unusedVariables false
set_option linter.unusedSimpArgs false

/-! ### damperlaw2_SpecEven: function 10 -/
mutual
def damperlaw2_SpecEven.l0 : Nat → Bool → Int → Int → ByteArray → ByteArray → List (S41) → Int → Option (Bool)
  | 0, _, _, _, _, _, _, _ => none
  | k + 1, x1, x5, x7, x440000, x440001, x440002, x440003 => if x7 < x5 then (if x5 = 0 then (none) else (if x7 = (wrap64 (x5 - 1)) then (damperlaw2_SpecEven.j1 k x1 x5 x7 x440000 x440001 x440002 x440003 (⟨#[]⟩ : ByteArray) (⟨#[]⟩ : ByteArray) (wrap64 (100 - (wrap64 ((wrap64 (x5 - 1)) * (wrap64 (Int.tdiv (100 : Int) x5))))))) else (damperlaw2_SpecEven.j1 k x1 x5 x7 x440000 x440001 x440002 x440003 (⟨#[]⟩ : ByteArray) (⟨#[]⟩ : ByteArray) (wrap64 (Int.tdiv (100 : Int) x5))))) else (if x5 > 6 then (damperlaw2_SpecEven.j2 k 3 x440000 x440001 x440002 x440003) else (damperlaw2_SpecEven.j2 k 0 x440000 x440001 x440002 x440003))
def damperlaw2_SpecEven.j1 : Nat → Bool → Int → Int → ByteArray → ByteArray → List (S41) → Int → ByteArray → ByteArray → Int → Option (Bool)
  | 0, _, _, _, _, _, _, _, _, _, _ => none
  | k + 1, x1, x5, x7, x440000, x440001, x440002, x440003, x441000, x441001, x441002 => if x1 = true then ((some (([(wrap64 (97 + x7)) % 256] : List Int) : List Int)).bind fun y441 => (if 1 + (strOfNums y441).size ≤ 9223372036854775807 then (if x440002.length < 3518437208883 then (damperlaw2_SpecEven.l0 k x1 x5 (wrap64 (x7 + 1)) x440000 x440001 (x440002 ++ [(⟨x441000, (⟨#[116]⟩ : ByteArray) ++ (strOfNums y441), x441002⟩ : S41)]) x440003) else (none)) else (none))) else (if x440002.length < 3518437208883 then (damperlaw2_SpecEven.l0 k x1 x5 (wrap64 (x7 + 1)) x440000 x440001 (x440002 ++ [(⟨x441000, x441001, x441002⟩ : S41)]) x440003) else (none))
def damperlaw2_SpecEven.j2 : Nat → Int → ByteArray → ByteArray → List (S41) → Int → Option (Bool)
  | 0, _, _, _, _, _ => none
  | k + 1, x9, x440000, x440001, x440002, x440003 => (spec_Route.f k x440000 x440001 x440002 x440003).bind fun t450 => (if t450 = x9 then ((spec_SameRoute.f x440000 x440001 x440002 x440003 x440000 x440001 x440002 x440003).bind fun t451 => (some t451)) else (some false))
end
def damperlaw2_SpecEven.f (k : Nat) (a0 : Int) (a1 : Bool) : Option (Bool) := (damperlaw2_known.f k).bind fun t438 => (if t438 = true then (damperlaw2_SpecEven.l0 k a1 (wrap64 (1 + (wi a0 8))) 0 (⟨#[114]⟩ : ByteArray) (⟨#[97]⟩ : ByteArray) ([] : List (S41)) 0) else (some false))
theorem damperlaw2_SpecEven.mono_l : ∀ k, (∀ y0 y1 y2 y3 y4 y5 y6, LeO (damperlaw2_SpecEven.l0 k y0 y1 y2 y3 y4 y5 y6) (damperlaw2_SpecEven.l0 (k + 1) y0 y1 y2 y3 y4 y5 y6)) ∧ (∀ y0 y1 y2 y3 y4 y5 y6 y7 y8 y9, LeO (damperlaw2_SpecEven.j1 k y0 y1 y2 y3 y4 y5 y6 y7 y8 y9) (damperlaw2_SpecEven.j1 (k + 1) y0 y1 y2 y3 y4 y5 y6 y7 y8 y9)) ∧ (∀ y0 y1 y2 y3 y4, LeO (damperlaw2_SpecEven.j2 k y0 y1 y2 y3 y4) (damperlaw2_SpecEven.j2 (k + 1) y0 y1 y2 y3 y4))
  | 0 => ⟨fun _ _ _ _ _ _ _ r h => by simp [damperlaw2_SpecEven.l0] at h, fun _ _ _ _ _ _ _ _ _ _ r h => by simp [damperlaw2_SpecEven.j1] at h, fun _ _ _ _ _ r h => by simp [damperlaw2_SpecEven.j2] at h⟩
  | k + 1 => by
    obtain ⟨ih0, ih1, ih2⟩ := damperlaw2_SpecEven.mono_l k
    refine ⟨?_, ?_, ?_⟩
    · intro y0 y1 y2 y3 y4 y5 y6
      unfold damperlaw2_SpecEven.l0
      repeat' first
      | (with_reducible exact ih0 _ _ _ _ _ _ _)
      | (with_reducible exact ih1 _ _ _ _ _ _ _ _ _ _)
      | (with_reducible exact ih2 _ _ _ _ _)
      | (with_reducible exact damperlaw2_known.mono _)
      | (with_reducible exact spec_Route.mono _ _ _ _ _)
      | (with_reducible exact LeO.refl _)
      | (with_reducible exact LeO.none _)
      | (with_reducible refine LeO.ite ?_ ?_)
      | (with_reducible refine LeO.bind ?_ (fun _ => ?_))
      | exact ih0 _ _ _ _ _ _ _
      | exact ih1 _ _ _ _ _ _ _ _ _ _
      | exact ih2 _ _ _ _ _
      | exact damperlaw2_known.mono _
      | exact spec_Route.mono _ _ _ _ _
      | exact LeO.none _
      | refine LeO.ite ?_ ?_
      | refine LeO.bind ?_ (fun _ => ?_)
    · intro y0 y1 y2 y3 y4 y5 y6 y7 y8 y9
      unfold damperlaw2_SpecEven.j1
      repeat' first
      | (with_reducible exact ih0 _ _ _ _ _ _ _)
      | (with_reducible exact ih1 _ _ _ _ _ _ _ _ _ _)
      | (with_reducible exact ih2 _ _ _ _ _)
      | (with_reducible exact damperlaw2_known.mono _)
      | (with_reducible exact spec_Route.mono _ _ _ _ _)
      | (with_reducible exact LeO.refl _)
      | (with_reducible exact LeO.none _)
      | (with_reducible refine LeO.ite ?_ ?_)
      | (with_reducible refine LeO.bind ?_ (fun _ => ?_))
      | exact ih0 _ _ _ _ _ _ _
      | exact ih1 _ _ _ _ _ _ _ _ _ _
      | exact ih2 _ _ _ _ _
      | exact damperlaw2_known.mono _
      | exact spec_Route.mono _ _ _ _ _
      | exact LeO.none _
      | refine LeO.ite ?_ ?_
      | refine LeO.bind ?_ (fun _ => ?_)
    · intro y0 y1 y2 y3 y4
      unfold damperlaw2_SpecEven.j2
      repeat' first
      | (with_reducible exact ih0 _ _ _ _ _ _ _)
      | (with_reducible exact ih1 _ _ _ _ _ _ _ _ _ _)
      | (with_reducible exact ih2 _ _ _ _ _)
      | (with_reducible exact damperlaw2_known.mono _)
      | (with_reducible exact spec_Route.mono _ _ _ _ _)
      | (with_reducible exact LeO.refl _)
      | (with_reducible exact LeO.none _)
      | (with_reducible refine LeO.ite ?_ ?_)
      | (with_reducible refine LeO.bind ?_ (fun _ => ?_))
      | exact ih0 _ _ _ _ _ _ _
      | exact ih1 _ _ _ _ _ _ _ _ _ _
      | exact ih2 _ _ _ _ _
      | exact damperlaw2_known.mono _
      | exact spec_Route.mono _ _ _ _ _
      | exact LeO.none _
      | refine LeO.ite ?_ ?_
      | refine LeO.bind ?_ (fun _ => ?_)
theorem damperlaw2_SpecEven.mono : ∀ a0 a1 k, LeO (damperlaw2_SpecEven.f k a0 a1) (damperlaw2_SpecEven.f (k + 1) a0 a1) := by
  intro a0 a1 k
  obtain ⟨ih0, ih1, ih2⟩ := damperlaw2_SpecEven.mono_l k
  unfold damperlaw2_SpecEven.f
  repeat' first
      | (with_reducible exact ih0 _ _ _ _ _ _ _)
      | (with_reducible exact ih1 _ _ _ _ _ _ _ _ _ _)
      | (with_reducible exact ih2 _ _ _ _ _)
      | (with_reducible exact damperlaw2_known.mono _)
      | (with_reducible exact spec_Route.mono _ _ _ _ _)
      | (with_reducible exact LeO.refl _)
      | (with_reducible exact LeO.none _)
      | (with_reducible refine LeO.ite ?_ ?_)
      | (with_reducible refine LeO.bind ?_ (fun _ => ?_))
      | exact ih0 _ _ _ _ _ _ _
      | exact ih1 _ _ _ _ _ _ _ _ _ _
      | exact ih2 _ _ _ _ _
      | exact damperlaw2_known.mono _
      | exact spec_Route.mono _ _ _ _ _
      | exact LeO.none _
      | refine LeO.ite ?_ ?_
      | refine LeO.bind ?_ (fun _ => ?_)
set_option maxHeartbeats 8000000 in
set_option maxRecDepth 100000 in
theorem damperlaw2_SpecEven.calls (k : Nat) (a0 : Int) (a1 : Bool) (r : Bool) (w : World) (hLd_ : Aside0 (LaidW w)) (hr0_ : Aside0 (r = true)) (h : damperlaw2_SpecEven.f k a0 a1 = some r) :
    Calls Tryd.prog 10 #[.int .i64 a0, .bool a1] w fun e w' => e = .returned (.bool r) ∧ Below w.heap.size w w' := by
  have hu35 := Tryd.underlying35
  have hu41 := Tryd.underlying41
  have HB := Aside0.mk (Below.refl w.heap.size w)
  have H : ((damperlaw2_known.f k).bind fun t438 => (if t438 = true then (damperlaw2_SpecEven.l0 k a1 (wrap64 (1 + (wi a0 8))) 0 (⟨#[114]⟩ : ByteArray) (⟨#[97]⟩ : ByteArray) ([] : List (S41)) 0) else (some false))) = some r := h
  clear h
  replace H := Option.bind_eq_some_iff.mp H
  obtain ⟨t438, A30, H⟩ := H
  replace H : (if t438 = true then (damperlaw2_SpecEven.l0 k a1 (wrap64 (1 + (wi a0 8))) 0 (⟨#[114]⟩ : ByteArray) (⟨#[97]⟩ : ByteArray) ([] : List (S41)) 0) else (some false)) = some r := H
  have A3 := Aside0.mk A30
  clear A30
  by_cases c4 : t438 = true
  · subst c4
    have H1 : (damperlaw2_SpecEven.l0 k a1 (wrap64 (1 + (wi a0 8))) 0 (⟨#[114]⟩ : ByteArray) (⟨#[97]⟩ : ByteArray) ([] : List (S41)) 0) = some r := by rw [if_pos rfl] at H; exact H
    clear H
    have H := H1
    clear H1
    obtain ⟨ji5, hji5⟩ : ∃ j_ : Int, (wi a0 8) = j_ := ⟨_, rfl⟩
    replace H : (damperlaw2_SpecEven.l0 k a1 (wrap64 (1 + (ji5))) 0 (⟨#[114]⟩ : ByteArray) (⟨#[97]⟩ : ByteArray) ([] : List (S41)) 0) = some r := by first | (rw [hji5] at H; exact H) | (simp only [hji5] at H ⊢; exact H)
    (try rw [hji5] at A3)
    have H' := Aside0.mk H
    clear H
    go_enter Tryd.func10, Tryd.ntmps10
    go_wp2_with (first | (go_at_call 15; refine (damperlaw2_within.keep _ _ rfl (by first | decide | assumption | exact wi_ne (by assumption) | exact wi_ne' (by assumption) | omega) _).mono ?_; rintro e w' ⟨rfl, rfl⟩) | ((with_reducible refine gate_callee (f := 11) rfl ?_); refine goesL_ (some 10) rfl rfl Tryd.func11 (by kernel_rfl) rfl #[] rfl (by (try simp only [List.map_toArray, List.map_cons, List.map_nil]); first | done | rfl | (simp only [List.length_drop, List.length_take]; rfl)) ?_; (with_reducible refine (damperlaw2_known.calls k  true _ ?side1 A3.out).mono ?_); (case side1 => first | exact hLd_.out | exact hLd_ | exact ⟨LaidW.below hLd_.out (by repeat (first | (with_reducible first | exact HB.out | apply below_alloc | apply pw_below_drewN | apply below_drew1) | exact HB.out))⟩ | exact ⟨LaidW.below hLd_.out (by repeat (first | exact Below.refl _ _ | apply below_alloc | apply pw_below_drewN | apply below_drew1))⟩); rintro e w6 ⟨rfl, hb⟩; refine ⟨_, rfl, ?_⟩; have n0_ := Aside0.mk (below_step (by repeat (first | (with_reducible first | exact HB.out | apply below_alloc | apply pw_below_drewN | apply below_drew1) | exact HB.out)) hb); clear HB; have HB := n0_; clear n0_; (try clear hb); (try clear hb2); (try clear hk); (try clear hi)) | ((with_reducible refine gate_dst (N := 6) rfl ?_); refine box_event ?hg (N := 6) ?hd (cs := #[.string (⟨#[]⟩ : ByteArray), .string (⟨#[]⟩ : ByteArray), .slice none 0 0, .int .i64 0]) (t := 35) ?hr ?_; (case hd => rfl); (case hg => rfl); (case hr => first | (go_simp; done) | (go_simp; rfl)); intro gb439 hg w7 hbox hb; have n0_ := Aside0.mk (below_step (by repeat (first | (with_reducible first | exact HB.out | apply below_alloc | apply pw_below_drewN | apply below_drew1) | exact HB.out)) hb); have n1_ := Aside0.mk (hbox); have n2_ := Aside0.mk ((by rw [hg]; exact (below_size (by repeat (first | (with_reducible first | exact HB.out | apply below_alloc | apply pw_below_drewN | apply below_drew1) | exact HB.out))) : w.heap.size ≤ gb439)); have n3_ := Aside0.mk ((by rw [hg]; exact (below_size (by repeat (first | (with_reducible first | exact HB.out | apply below_alloc | apply pw_below_drewN | apply below_drew1) | exact HB.out))) : w.heap.size ≤ gb439)); clear HB; have HB := n0_; have BK439 := n1_; have GW439 := n2_; have GE439 := n3_; clear n0_ n1_ n2_ n3_; clear hb hbox hg; have hcz8_0 : w7.cell? ⟨gb439, 0, none⟩ = some (.string (⟨#[]⟩ : ByteArray)) := bc BK439 0; have hcz8_1 : w7.cell? ⟨gb439, 1, none⟩ = some (.string (⟨#[]⟩ : ByteArray)) := bc BK439 1; have hcz8_2 : w7.cell? ⟨gb439, 2, none⟩ = some (.slice none 0 0) := bc BK439 2; have hcz8_3 : w7.cell? ⟨gb439, 3, none⟩ = some (.int .i64 0) := bc BK439 3; have hfz8_0 := blk_frozen BK439.out 0; have hfz8_1 := blk_frozen BK439.out 1; have hfz8_2 := blk_frozen BK439.out 2; have hfz8_3 := blk_frozen BK439.out 3))
    go_loopg [7] k (fun kq v7 w' => ∃ (x7_1 : Int) (x440002_1 : List (S41)) (u440002 : Value), v7 = .int .i64 x7_1 ∧ Aside0 (damperlaw2_SpecEven.l0 kq a1 (wrap64 (1 + (ji5))) x7_1 (⟨#[114]⟩ : ByteArray) (⟨#[97]⟩ : ByteArray) x440002_1 0 = some r) ∧ Aside0 (kq ≤ k) ∧ Aside0 (Kd.R k41 41 w' w.heap.size (fun _ => True) u440002 x440002_1) ∧ Aside0 (w'.heap[gb439]? = some (.cells #[.string (⟨#[114]⟩ : ByteArray), .string (⟨#[97]⟩ : ByteArray), u440002, .int .i64 0] 35 (0, 0))) ∧ Aside0 (Below w.heap.size w w'))
    case atStart => exact ⟨(0), (([] : List (S41))), (.slice none 0 0), (by first | rfl | (simp; done) | (simp [*]; done)), H', ⟨Nat.le_refl _⟩, ⟨by first | exact Kd.R_nil _ _ _ _ _ | exact Kd.N_nil _ _ _ _ _ | exact Kd.V_nil _ _ _ _ _ | exact Kd.Q_nil _ _ _ _ _ | exact Kd.S_nil _ _ _ _ _⟩, ⟨by (with_reducible repeat (first | refine blk_drewN ?_ _ | refine blk_drew ?_ | refine blk_alloc ?_ _)); refine blk_put (cs := #[.string (⟨#[114]⟩ : ByteArray), .string (⟨#[97]⟩ : ByteArray), .slice none 0 0, .int .i64 0]) ?_ 3 _ rfl; (with_reducible repeat (first | refine blk_drewN ?_ _ | refine blk_drew ?_ | refine blk_alloc ?_ _)); refine blk_put (cs := #[.string (⟨#[114]⟩ : ByteArray), .string (⟨#[97]⟩ : ByteArray), .slice none 0 0, .int .i64 0]) ?_ 2 _ rfl; (with_reducible repeat (first | refine blk_drewN ?_ _ | refine blk_drew ?_ | refine blk_alloc ?_ _)); refine blk_put (cs := #[.string (⟨#[114]⟩ : ByteArray), .string (⟨#[]⟩ : ByteArray), .slice none 0 0, .int .i64 0]) ?_ 1 _ rfl; (with_reducible repeat (first | refine blk_drewN ?_ _ | refine blk_drew ?_ | refine blk_alloc ?_ _)); refine blk_put (cs := #[.string (⟨#[]⟩ : ByteArray), .string (⟨#[]⟩ : ByteArray), .slice none 0 0, .int .i64 0]) ?_ 0 _ rfl; (with_reducible repeat (first | refine blk_drewN ?_ _ | refine blk_drew ?_ | refine blk_alloc ?_ _)); exact BK439.out⟩, ⟨by repeat (first | (with_reducible first | exact HB.out | apply below_alloc | apply pw_below_drewN | apply below_drew1 | refine below_set ?_ GE439.out) | exact HB.out)⟩⟩
    case round =>
      clear H'
      try clear c1
      try clear p2
      try clear c4
      try clear p6
      try clear hcz8_0
      try clear hcz8_1
      try clear hcz8_2
      try clear hcz8_3
      try clear hfz8_0
      try clear hfz8_1
      try clear hfz8_2
      try clear hfz8_3
      obtain ⟨x7_1, x440002_1, u440002, rfl, HA, HK1, HO_440002, BK439, HB⟩ := hrel
      cases gk with
      | zero => exact absurd HA.out (by simp [damperlaw2_SpecEven.l0])
      | succ k1 =>
        have H := HA.out
        clear HA
        simp only [damperlaw2_SpecEven.l0] at H
        by_cases c9 : x7_1 < (wrap64 (1 + (ji5)))
        · rw [if_pos c9] at H
          have c9b0 : decide (x7_1 < (wrap64 (1 + (ji5)))) = true := decide_eq_true c9
          clear c9
          by_cases c10 : (wrap64 (1 + (ji5))) = 0
          · rw [if_pos c10] at H
            exact absurd H (by simp)
          rw [if_neg c10] at H
          have c10b0 : ((wrap64 (1 + (ji5))) == 0) = false := beq_eq_false_iff_ne.mpr c10
          have c10b1 : ((wrap64 (1 + (ji5))) != 0) = true := bne_iff_ne.mpr c10
          have HC11 := Aside0.mk H
          clear H
          go_upto_if 27 with (first | (go_at_call 15; refine (damperlaw2_within.keep _ _ rfl (by first | decide | assumption | exact wi_ne (by assumption) | exact wi_ne' (by assumption) | omega) _).mono ?_; rintro e w' ⟨rfl, rfl⟩) | ((with_reducible refine gate_dst (N := 8) rfl ?_); refine box_event ?hg (N := 8) ?hd (cs := #[.string (⟨#[]⟩ : ByteArray), .string (⟨#[]⟩ : ByteArray), .int .i64 0]) (t := 41) ?hr ?_; (case hd => rfl); (case hg => rfl); (case hr => first | (go_simp; done) | (go_simp; rfl)); intro gb440 hg w12 hbox hb; have n0_ := Aside0.mk (Kd.R_below (Kd.R_elderB (by (with_reducible repeat (first | apply Kd.R_alloc | apply Kd.R_drewN | apply Kd.R_drew)); exact HO_440002.out) gb440 (Nat.le_of_eq hg.symm)) hb); have n1_ := Aside0.mk (blk_below (g := gb439) (pk BK439) hb); have n2_ := Aside0.mk (below_step (by repeat (first | (with_reducible first | exact HB.out | apply below_alloc | apply pw_below_drewN | apply below_drew1 | refine below_set ?_ GE439.out) | exact HB.out)) hb); have n3_ := Aside0.mk (hbox); have n4_ := Aside0.mk ((by rw [hg]; exact (below_size (by repeat (first | (with_reducible first | exact HB.out | apply below_alloc | apply pw_below_drewN | apply below_drew1 | refine below_set ?_ GE439.out) | exact HB.out))) : w.heap.size ≤ gb440)); have n5_ := Aside0.mk ((by rw [hg]; exact (below_size (by repeat (first | (with_reducible first | exact HB.out | apply below_alloc | apply pw_below_drewN | apply below_drew1 | refine below_set ?_ GE439.out) | exact HB.out))) : w.heap.size ≤ gb440)); have n6_ := Aside0.mk ((ne_lt hg (pk BK439) : gb439 ≠ gb440)); have n7_ := Aside0.mk ((ne_gt hg (pk BK439) : gb440 ≠ gb439)); clear HO_440002; clear BK439; clear HB; have HO_440002 := n0_; have BK439 := n1_; have HB := n2_; have BK440 := n3_; have GW440 := n4_; have GE440 := n5_; have NB439_440 := n6_; have NB440_439 := n7_; clear n0_ n1_ n2_ n3_ n4_ n5_ n6_ n7_; clear hb hbox hg; have hnb13 := NB440_439.out; have hnc13 := NB439_440.out; have hcz14_0 : w12.cell? ⟨gb440, 0, none⟩ = some (.string (⟨#[]⟩ : ByteArray)) := bc BK440 0; have hcz14_1 : w12.cell? ⟨gb440, 1, none⟩ = some (.string (⟨#[]⟩ : ByteArray)) := bc BK440 1; have hcz14_2 : w12.cell? ⟨gb440, 2, none⟩ = some (.int .i64 0) := bc BK440 2; have hfz14_0 := blk_frozen BK440.out 0; have hfz14_1 := blk_frozen BK440.out 1; have hfz14_2 := blk_frozen BK440.out 2))
          (try simp only [Act.put, List.setIfInBounds_toArray, List.set_cons_zero, List.set_cons_succ])
          go_cut [] (fun wc => ∃ (kq : Nat) (x441002_10 : Int), Aside0 (damperlaw2_SpecEven.j1 kq a1 (wrap64 (1 + (ji5))) x7_1 (⟨#[114]⟩ : ByteArray) (⟨#[97]⟩ : ByteArray) x440002_1 0 (⟨#[]⟩ : ByteArray) (⟨#[]⟩ : ByteArray) x441002_10 = some r) ∧ Aside0 (kq ≤ k1) ∧ Aside0 (Kd.R k41 41 wc w.heap.size (fun k_ => k_ ≠ gb440) u440002 x440002_1) ∧ Aside0 (wc.heap[gb439]? = some (.cells #[.string (⟨#[114]⟩ : ByteArray), .string (⟨#[97]⟩ : ByteArray), u440002, .int .i64 0] 35 (0, 0))) ∧ Aside0 (wc.heap[gb440]? = some (.cells #[.string (⟨#[]⟩ : ByteArray), .string (⟨#[]⟩ : ByteArray), .int .i64 x441002_10] 41 (0, 0))) ∧ Aside0 (Below w.heap.size w wc))
          case first =>
            have H := HC11.out
            clear HC11
            by_cases c15 : x7_1 = (wrap64 ((wrap64 (1 + (ji5))) - 1))
            · rw [if_pos c15] at H
              have c15b0 : (x7_1 == (wrap64 ((wrap64 (1 + (ji5))) - 1))) = true := beq_iff_eq.mpr c15
              have c15b1 : (x7_1 != (wrap64 ((wrap64 (1 + (ji5))) - 1))) = false := bne_eq_false_iff_eq.mpr c15
              clear c15
              (first | rw [c15b0] | (simp only [i64_w, i32_w]; rw [c15b0]) | rw [c15b1] | skip)
              have H' := Aside0.mk H
              clear H
              have hnb16 := NB440_439.out
              have hnc16 := NB439_440.out
              have hcz17_0 : w12.cell? ⟨gb440, 0, none⟩ = some (.string (⟨#[]⟩ : ByteArray)) := bc BK440 0
              have hcz17_1 : w12.cell? ⟨gb440, 1, none⟩ = some (.string (⟨#[]⟩ : ByteArray)) := bc BK440 1
              have hcz17_2 : w12.cell? ⟨gb440, 2, none⟩ = some (.int .i64 0) := bc BK440 2
              have hfz17_0 := blk_frozen BK440.out 0
              have hfz17_1 := blk_frozen BK440.out 1
              have hfz17_2 := blk_frozen BK440.out 2
              go_wp2_with (first | (go_at_call 15; refine (damperlaw2_within.keep _ _ rfl (by first | decide | assumption | exact wi_ne (by assumption) | exact wi_ne' (by assumption) | omega) _).mono ?_; rintro e w' ⟨rfl, rfl⟩))
              go_meet
              case rel => exact ⟨_, (wrap64 (100 - (wrap64 ((wrap64 ((wrap64 (1 + (ji5))) - 1)) * (wrap64 (Int.tdiv (100 : Int) (wrap64 (1 + (ji5))))))))), H', ⟨by have := HK1.out; first | omega | exact Nat.le_refl _⟩, ⟨by (with_reducible repeat (first | apply Kd.R_alloc | apply Kd.R_drewN | apply Kd.R_drew)); exact Kd.R_mono (Kd.R_far (p := ⟨gb440, 2, none⟩) (Kd.R_far (p := ⟨gb440, 2, none⟩) (Kd.R_far (p := ⟨gb440, 1, none⟩) (Kd.R_far (p := ⟨gb440, 0, none⟩) (Kd.R_mono HO_440002.out (fun k_ hk => (⟨hk, hk.2⟩ : _ ∧ k_ ≠ gb440))) (fun _ hk => hk.2) (.string (⟨#[]⟩ : ByteArray))) (fun _ hk => hk.2) (.string (⟨#[]⟩ : ByteArray))) (fun _ hk => hk.2) (.int .i64 (wrap64 (Int.tdiv (100 : Int) (wrap64 (1 + (ji5))))))) (fun _ hk => hk.2) (.int .i64 (wrap64 (100 - (wrap64 ((wrap64 ((wrap64 (1 + (ji5))) - 1)) * (wrap64 (Int.tdiv (100 : Int) (wrap64 (1 + (ji5))))))))))) (fun _ hk => hk.1.2)⟩, ⟨by (repeat ((with_reducible repeat (first | refine blk_drewN ?_ _ | refine blk_drew ?_ | refine blk_alloc ?_ _)); with_reducible refine blk_far ?_ NB439_440.out _)); (with_reducible repeat (first | refine blk_drewN ?_ _ | refine blk_drew ?_ | refine blk_alloc ?_ _)); exact BK439.out⟩, ⟨by (with_reducible repeat (first | refine blk_drewN ?_ _ | refine blk_drew ?_ | refine blk_alloc ?_ _)); refine blk_put (cs := #[.string (⟨#[]⟩ : ByteArray), .string (⟨#[]⟩ : ByteArray), .int .i64 (wrap64 (Int.tdiv (100 : Int) (wrap64 (1 + (ji5)))))]) ?_ 2 _ rfl; (with_reducible repeat (first | refine blk_drewN ?_ _ | refine blk_drew ?_ | refine blk_alloc ?_ _)); refine blk_put (cs := #[.string (⟨#[]⟩ : ByteArray), .string (⟨#[]⟩ : ByteArray), .int .i64 0]) ?_ 2 _ rfl; (with_reducible repeat (first | refine blk_drewN ?_ _ | refine blk_drew ?_ | refine blk_alloc ?_ _)); refine blk_put (cs := #[.string (⟨#[]⟩ : ByteArray), .string (⟨#[]⟩ : ByteArray), .int .i64 0]) ?_ 1 _ rfl; (with_reducible repeat (first | refine blk_drewN ?_ _ | refine blk_drew ?_ | refine blk_alloc ?_ _)); refine blk_put (cs := #[.string (⟨#[]⟩ : ByteArray), .string (⟨#[]⟩ : ByteArray), .int .i64 0]) ?_ 0 _ rfl; (with_reducible repeat (first | refine blk_drewN ?_ _ | refine blk_drew ?_ | refine blk_alloc ?_ _)); exact BK440.out⟩, ⟨by repeat (first | (with_reducible first | exact HB.out | apply below_alloc | apply pw_below_drewN | apply below_drew1 | refine below_set ?_ GE439.out | refine below_set ?_ GE440.out) | exact HB.out)⟩⟩
            · rw [if_neg c15] at H
              have c15b0 : (x7_1 == (wrap64 ((wrap64 (1 + (ji5))) - 1))) = false := beq_eq_false_iff_ne.mpr c15
              have c15b1 : (x7_1 != (wrap64 ((wrap64 (1 + (ji5))) - 1))) = true := bne_iff_ne.mpr c15
              (first | rw [c15b0] | (simp only [i64_w, i32_w]; rw [c15b0]) | rw [c15b1] | skip)
              have H' := Aside0.mk H
              clear H
              go_wp2_with (first | (go_at_call 15; refine (damperlaw2_within.keep _ _ rfl (by first | decide | assumption | exact wi_ne (by assumption) | exact wi_ne' (by assumption) | omega) _).mono ?_; rintro e w' ⟨rfl, rfl⟩))
              go_meet
              case rel => exact ⟨_, (wrap64 (Int.tdiv (100 : Int) (wrap64 (1 + (ji5))))), H', ⟨by have := HK1.out; first | omega | exact Nat.le_refl _⟩, ⟨by (with_reducible repeat (first | apply Kd.R_alloc | apply Kd.R_drewN | apply Kd.R_drew)); exact Kd.R_mono (Kd.R_far (p := ⟨gb440, 2, none⟩) (Kd.R_far (p := ⟨gb440, 1, none⟩) (Kd.R_far (p := ⟨gb440, 0, none⟩) (Kd.R_mono HO_440002.out (fun k_ hk => (⟨hk, hk.2⟩ : _ ∧ k_ ≠ gb440))) (fun _ hk => hk.2) (.string (⟨#[]⟩ : ByteArray))) (fun _ hk => hk.2) (.string (⟨#[]⟩ : ByteArray))) (fun _ hk => hk.2) (.int .i64 (wrap64 (Int.tdiv (100 : Int) (wrap64 (1 + (ji5))))))) (fun _ hk => hk.1.2)⟩, ⟨by (repeat ((with_reducible repeat (first | refine blk_drewN ?_ _ | refine blk_drew ?_ | refine blk_alloc ?_ _)); with_reducible refine blk_far ?_ NB439_440.out _)); (with_reducible repeat (first | refine blk_drewN ?_ _ | refine blk_drew ?_ | refine blk_alloc ?_ _)); exact BK439.out⟩, ⟨by (with_reducible repeat (first | refine blk_drewN ?_ _ | refine blk_drew ?_ | refine blk_alloc ?_ _)); refine blk_put (cs := #[.string (⟨#[]⟩ : ByteArray), .string (⟨#[]⟩ : ByteArray), .int .i64 0]) ?_ 2 _ rfl; (with_reducible repeat (first | refine blk_drewN ?_ _ | refine blk_drew ?_ | refine blk_alloc ?_ _)); refine blk_put (cs := #[.string (⟨#[]⟩ : ByteArray), .string (⟨#[]⟩ : ByteArray), .int .i64 0]) ?_ 1 _ rfl; (with_reducible repeat (first | refine blk_drewN ?_ _ | refine blk_drew ?_ | refine blk_alloc ?_ _)); refine blk_put (cs := #[.string (⟨#[]⟩ : ByteArray), .string (⟨#[]⟩ : ByteArray), .int .i64 0]) ?_ 0 _ rfl; (with_reducible repeat (first | refine blk_drewN ?_ _ | refine blk_drew ?_ | refine blk_alloc ?_ _)); exact BK440.out⟩, ⟨by repeat (first | (with_reducible first | exact HB.out | apply below_alloc | apply pw_below_drewN | apply below_drew1 | refine below_set ?_ GE439.out | refine below_set ?_ GE440.out) | exact HB.out)⟩⟩
          case rest =>
            clear HC11
            try clear c1
            try clear p2
            try clear c4
            try clear p6
            try clear c9
            try clear c9b0
            try clear c10
            try clear c10b0
            try clear c10b1
            try clear c11
            try clear c13
            try clear c15
            try clear c15b0
            try clear c15b1
            try clear c16
            try clear hcz14_0
            try clear hcz14_1
            try clear hcz14_2
            try clear hcz17_0
            try clear hcz17_1
            try clear hcz17_2
            try clear hcz8_0
            try clear hcz8_1
            try clear hcz8_2
            try clear hcz8_3
            try clear hfz14_0
            try clear hfz14_1
            try clear hfz14_2
            try clear hfz17_0
            try clear hfz17_1
            try clear hfz17_2
            try clear hfz8_0
            try clear hfz8_1
            try clear hfz8_2
            try clear hfz8_3
            try clear p2
            try clear p6
            obtain ⟨kq, x441002_10, HA, HJ10, HO_440002, BK439, BK440, HB⟩ := hcut
            cases kq with
            | zero => exact absurd HA.out (by simp [damperlaw2_SpecEven.j1])
            | succ kj10 =>
              have H := HA.out
              clear HA
              simp only [damperlaw2_SpecEven.j1] at H
              by_cases c18 : a1 = true
              · subst c18
                have H1 : ((some (([(wrap64 (97 + x7_1)) % 256] : List Int) : List Int)).bind fun y441 => (if 1 + (strOfNums y441).size ≤ 9223372036854775807 then (if x440002_1.length < 3518437208883 then (damperlaw2_SpecEven.l0 kj10 true (wrap64 (1 + (ji5))) (wrap64 (x7_1 + 1)) (⟨#[114]⟩ : ByteArray) (⟨#[97]⟩ : ByteArray) (x440002_1 ++ [(⟨(⟨#[]⟩ : ByteArray), (⟨#[116]⟩ : ByteArray) ++ (strOfNums y441), x441002_10⟩ : S41)]) 0) else (none)) else (none))) = some r := by rw [if_pos rfl] at H; exact H
                clear H
                have H := H1
                clear H1
                obtain ⟨y441, hy441⟩ : ∃ y_ : List Int, y_ = (([(wrap64 (97 + x7_1)) % 256] : List Int)) := ⟨_, rfl⟩
                replace H : (if 1 + (strOfNums y441).size ≤ 9223372036854775807 then (if x440002_1.length < 3518437208883 then (damperlaw2_SpecEven.l0 kj10 true (wrap64 (1 + (ji5))) (wrap64 (x7_1 + 1)) (⟨#[114]⟩ : ByteArray) (⟨#[97]⟩ : ByteArray) (x440002_1 ++ [(⟨(⟨#[]⟩ : ByteArray), (⟨#[116]⟩ : ByteArray) ++ (strOfNums y441), x441002_10⟩ : S41)]) 0) else (none)) else (none)) = some r := by first | (rw [hy441]; with_reducible exact H) | (have H2_ := (Option.bind_some _ _).symm.trans H; rw [hy441]; with_reducible exact H2_) | (have H2_ := (Option.bind_some _ _).symm.trans H; with_reducible exact H2_) | with_reducible exact H | (rw [hy441]; exact H) | exact H
                have Ny441 := Aside0.mk hy441
                clear hy441
                by_cases c19 : 1 + (strOfNums y441).size ≤ 9223372036854775807
                rotate_left
                · rw [if_neg c19] at H
                  exact absurd H (by simp)
                rw [if_pos c19] at H
                have c19b0 := eq_true c19
                have c19b1 : decide (1 + (strOfNums y441).size ≤ 9223372036854775807) = true := decide_eq_true c19
                try have c19b2 : (9223372036854775807 < 1 + (strOfNums y441).size) = False := eq_false (Nat.not_lt.2 c19)
                try (have c19b4 := c19; simp at c19b4; have c19b5 := eq_false (Nat.not_lt.2 c19b4))
                by_cases c20 : x440002_1.length < 3518437208883
                rotate_left
                · rw [if_neg c20] at H
                  exact absurd H (by simp)
                rw [if_pos c20] at H
                have LMc20 := Aside0.mk c20
                clear c20
                obtain ⟨y444, hy444⟩ : ∃ y_ : List (S41), y_ = (x440002_1 ++ [(⟨(⟨#[]⟩ : ByteArray), (⟨#[116]⟩ : ByteArray) ++ (strOfNums y441), x441002_10⟩ : S41)]) := ⟨_, rfl⟩
                replace H : (damperlaw2_SpecEven.l0 kj10 true (wrap64 (1 + (ji5))) (wrap64 (x7_1 + 1)) (⟨#[114]⟩ : ByteArray) (⟨#[97]⟩ : ByteArray) y444 0) = some r := by first | (rw [hy444]; with_reducible exact H) | (have H2_ := (Option.bind_some _ _).symm.trans H; rw [hy444]; with_reducible exact H2_) | (have H2_ := (Option.bind_some _ _).symm.trans H; with_reducible exact H2_) | with_reducible exact H | (rw [hy444]; exact H) | exact H
                have Ny444 := Aside0.mk hy444
                clear hy444
                have H' := Aside0.mk H
                clear H
                go_wp2_with (first | (go_at_call 15; refine (damperlaw2_within.keep _ _ rfl (by first | decide | assumption | exact wi_ne (by assumption) | exact wi_ne' (by assumption) | omega) _).mono ?_; rintro e w' ⟨rfl, rfl⟩) | ((with_reducible refine gate_dst (N := 39) rfl ?_); refine Kd.R_lit (Kd.int .u8) _ 5 ?hg (N := 39) ?hd (xs := ([(wrap64 (97 + x7_1)) % 256] : List Int)) (inner := [.int .u8 ((wrap64 (97 + x7_1)) % 256)]) (ok := fun _ => True) (okp := fun _ => True) ?hr ?hp (fun _ hk => hk) trivial (Below.refl _ _) (Nat.le_refl _) (by simp) ?_; (case hd => rfl); (case hg => rfl); (case hr => first | (go_simp; done) | (go_simp; rfl)); (case hp => exact (Reps.one (show Kd.M (Kd.int .u8) _ _ _ ((wrap64 (97 + x7_1)) % 256) [.int .u8 ((wrap64 (97 + x7_1)) % 256)] from rfl) (Reps.none _ _))); intro v442 w21 ho22 hb hg_ hnew_; clear hg_ hnew_; (first | rw [← Ny441.out] at ho22 | (simp only [Int.reduceToNat] at ho22; rw [← Ny441.out] at ho22)); have n0_ := Aside0.mk (Kd.R_below (by (with_reducible repeat (first | apply Kd.R_alloc | apply Kd.R_drewN | apply Kd.R_drew)); exact HO_440002.out) hb); have n1_ := Aside0.mk (Kd.R_lower ho22 (below_size (by repeat (first | (with_reducible first | exact HB.out | apply below_alloc | apply pw_below_drewN | apply below_drew1 | refine below_set ?_ GE439.out | refine below_set ?_ GE440.out) | exact HB.out)))); have n2_ := Aside0.mk (blk_below (g := gb439) (pk BK439) hb); have n3_ := Aside0.mk (blk_below (g := gb440) (pk BK440) hb); have n4_ := Aside0.mk (below_step (by repeat (first | (with_reducible first | exact HB.out | apply below_alloc | apply pw_below_drewN | apply below_drew1 | refine below_set ?_ GE439.out | refine below_set ?_ GE440.out) | exact HB.out)) hb); clear HO_440002; clear BK439; clear BK440; clear HB; have HO_440002 := n0_; have HO443 := n1_; have BK439 := n2_; have BK440 := n3_; have HB := n4_; clear n0_ n1_ n2_ n3_ n4_; clear hb ho22; have hcv23 := own_string (P := Tryd.prog) Tryd.underlying52 Tryd.underlying5 Tryd.underlying9 (Kd.own_of_R HO443.out); have hnb24 := NB440_439.out; have hnc24 := NB439_440.out; have hcz25_0 : w21.cell? ⟨gb440, 0, none⟩ = some (.string (⟨#[]⟩ : ByteArray)) := bc BK440 0; have hcz25_1 : w21.cell? ⟨gb440, 1, none⟩ = some (.string (⟨#[]⟩ : ByteArray)) := bc BK440 1; have hcz25_2 : w21.cell? ⟨gb440, 2, none⟩ = some (.int .i64 x441002_10) := bc BK440 2; have hfz25_0 := blk_frozen BK440.out 0; have hfz25_1 := blk_frozen BK440.out 1; have hfz25_2 := blk_frozen BK440.out 2; have hcz26_0 : w21.cell? ⟨gb439, 0, none⟩ = some (.string (⟨#[114]⟩ : ByteArray)) := bc BK439 0; have hcz26_1 : w21.cell? ⟨gb439, 1, none⟩ = some (.string (⟨#[97]⟩ : ByteArray)) := bc BK439 1; have hcz26_2 : w21.cell? ⟨gb439, 2, none⟩ = some (u440002) := bc BK439 2; have hcz26_3 : w21.cell? ⟨gb439, 3, none⟩ = some (.int .i64 0) := bc BK439 3; have hfz26_0 := blk_frozen BK439.out 0; have hfz26_1 := blk_frozen BK439.out 1; have hfz26_2 := blk_frozen BK439.out 2; have hfz26_3 := blk_frozen BK439.out 3) | ((with_reducible refine gate_builtin (b := .append) (xs := #[.tmp 44, .tmp 46]) rfl ?_); at_builtin; refine Kd.R_append k41 (w0 := w) w.heap.size rfl (.tmp 44) (.tmp 46) 33 41 (.agg #[(.string ⟨#[]⟩), (.string ⟨#[]⟩), (.int .i64 0)]) 40 rfl Tryd.underlying33 info41 rfl (by decide) (by omega) u440002 x440002_1 (⟨(⟨#[]⟩ : ByteArray), (⟨#[116]⟩ : ByteArray) ++ (strOfNums y441), x441002_10⟩ : S41) [.string (⟨#[]⟩ : ByteArray), .string ((⟨#[116]⟩ : ByteArray) ++ (strOfNums y441)), .int .i64 x441002_10] (fun k_ => k_ ≠ gb440) (fun _ => False) rfl (by first | (go_simp; done) | (go_simp; rfl)) ?aP (fun _ hk => hk.elim) ?aF ?aO ?aB ?aS ?aL ?_; (case aP => exact k41_mkM _ _ _ (⟨(⟨#[]⟩ : ByteArray), (⟨#[116]⟩ : ByteArray) ++ (strOfNums y441), x441002_10⟩ : S41)); (case aB => exact (by repeat (first | (with_reducible first | exact HB.out | apply below_alloc | apply pw_below_drewN | apply below_drew1 | refine below_set ?_ GE439.out | refine below_set ?_ GE440.out) | exact HB.out))); (case aF => exact (fun k_ hk => Kd.freshB (g := gb440) (o := .cells #[.string (⟨#[]⟩ : ByteArray), .string ((⟨#[116]⟩ : ByteArray) ++ (strOfNums y441)), .int .i64 x441002_10] 41 (0, 0)) (by (with_reducible repeat (first | refine blk_drewN ?_ _ | refine blk_drew ?_ | refine blk_alloc ?_ _)); refine blk_put (cs := #[.string (⟨#[]⟩ : ByteArray), .string (⟨#[]⟩ : ByteArray), .int .i64 x441002_10]) ?_ 1 _ rfl; (with_reducible repeat (first | refine blk_drewN ?_ _ | refine blk_drew ?_ | refine blk_alloc ?_ _)); exact BK440.out) k_ hk)); (case aO => exact (by (with_reducible repeat (first | apply Kd.R_alloc | apply Kd.R_drewN | apply Kd.R_drew)); exact Kd.R_mono (Kd.R_far (p := ⟨gb440, 1, none⟩) (Kd.R_mono HO_440002.out (fun k_ hk => (⟨hk, hk⟩ : _ ∧ k_ ≠ gb440))) (fun _ hk => hk.2) (.string ((⟨#[116]⟩ : ByteArray) ++ (strOfNums y441)))) (fun _ hk => hk.1))); (case aS => exact (below_size (by repeat (first | (with_reducible first | exact HB.out | apply below_alloc | apply pw_below_drewN | apply below_drew1 | refine below_set ?_ GE439.out | refine below_set ?_ GE440.out) | exact HB.out)))); (case aL => have := LMc20.out; omega); intro v445 w27 ho hb hg hat; rw [← Ny444.out] at ho; have n0_ := Aside0.mk (blk_grown (g := gb439) (o := .cells #[.string (⟨#[114]⟩ : ByteArray), .string (⟨#[97]⟩ : ByteArray), u440002, .int .i64 0] 35 (0, 0)) (by (with_reducible repeat (first | refine blk_drewN ?_ _ | refine blk_drew ?_ | refine blk_alloc ?_ _)); refine blk_far ?_ NB439_440.out _; (with_reducible repeat (first | refine blk_drewN ?_ _ | refine blk_drew ?_ | refine blk_alloc ?_ _)); exact BK439.out) hg (Kd.R_ne HO_440002.out BK439.out (by decide))); have n1_ := Aside0.mk (blk_grown (g := gb440) (o := .cells #[.string (⟨#[]⟩ : ByteArray), .string ((⟨#[116]⟩ : ByteArray) ++ (strOfNums y441)), .int .i64 x441002_10] 41 (0, 0)) (by (with_reducible repeat (first | refine blk_drewN ?_ _ | refine blk_drew ?_ | refine blk_alloc ?_ _)); refine blk_put (cs := #[.string (⟨#[]⟩ : ByteArray), .string (⟨#[]⟩ : ByteArray), .int .i64 x441002_10]) ?_ 1 _ rfl; (with_reducible repeat (first | refine blk_drewN ?_ _ | refine blk_drew ?_ | refine blk_alloc ?_ _)); exact BK440.out) hg (Kd.R_away HO_440002.out (fun _ hk => hk))); have n2_ := Aside0.mk (Kd.R_over' (by (with_reducible repeat (first | apply Kd.R_alloc | apply Kd.R_drewN | apply Kd.R_drew)); exact (Kd.R_mono (Kd.R_far (p := ⟨gb440, 1, none⟩) (Kd.R_types HO443.out BK440.out (by decide)) (fun _ hk => hk.2) (.string ((⟨#[116]⟩ : ByteArray) ++ (strOfNums y441)))) (fun _ h_ => h_.1))) (Kd.R_typed (by (with_reducible repeat (first | apply Kd.R_alloc | apply Kd.R_drewN | apply Kd.R_drew)); exact (Kd.R_mono (Kd.R_far (p := ⟨gb440, 1, none⟩) (Kd.R_mono HO_440002.out (fun k_ hk => (⟨hk, hk⟩ : _ ∧ k_ ≠ gb440))) (fun _ hk => hk.2) (.string ((⟨#[116]⟩ : ByteArray) ++ (strOfNums y441)))) (fun _ h_ => h_.1)))) (by decide) hg); have n3_ := Aside0.mk (hb); have n4_ := Aside0.mk (ho); clear BK439; clear BK440; clear HO443; clear HB; clear HO_440002; have BK439 := n0_; have BK440 := n1_; have HO443 := n2_; have HB := n3_; have HO446 := n4_; clear n0_ n1_ n2_ n3_ n4_; clear ho hb hg hat; obtain ⟨Ao28, co28, eo28⟩ := Kd.R_slice HO446.out; subst eo28; have hcz29_0 : w27.cell? ⟨gb439, 0, none⟩ = some (.string (⟨#[114]⟩ : ByteArray)) := bc BK439 0; have hcz29_1 : w27.cell? ⟨gb439, 1, none⟩ = some (.string (⟨#[97]⟩ : ByteArray)) := bc BK439 1; have hcz29_2 : w27.cell? ⟨gb439, 2, none⟩ = some (u440002) := bc BK439 2; have hcz29_3 : w27.cell? ⟨gb439, 3, none⟩ = some (.int .i64 0) := bc BK439 3; have hfz29_0 := blk_frozen BK439.out 0; have hfz29_1 := blk_frozen BK439.out 1; have hfz29_2 := blk_frozen BK439.out 2; have hfz29_3 := blk_frozen BK439.out 3))
                go_roundg kj10
                case measure => have := HK1.out; have := HJ10.out; omega
                case rel => exact ⟨(wrap64 (x7_1 + 1)), (y444), (.slice Ao28 y444.length co28), (by first | rfl | (simp; done) | (simp [*]; done)), H', ⟨by have := HK1.out; have := HJ10.out; omega⟩, ⟨by (with_reducible repeat (first | apply Kd.R_alloc | apply Kd.R_drewN | apply Kd.R_drew)); exact Kd.R_mono (Kd.R_far (p := ⟨gb439, 2, none⟩) (Kd.R_types HO446.out BK439.out (by decide)) (fun _ hk => hk.2) (.slice Ao28 y444.length co28)) (fun _ hk => trivial)⟩, ⟨by (with_reducible repeat (first | refine blk_drewN ?_ _ | refine blk_drew ?_ | refine blk_alloc ?_ _)); refine blk_put (cs := #[.string (⟨#[114]⟩ : ByteArray), .string (⟨#[97]⟩ : ByteArray), u440002, .int .i64 0]) ?_ 2 _ rfl; (with_reducible repeat (first | refine blk_drewN ?_ _ | refine blk_drew ?_ | refine blk_alloc ?_ _)); exact BK439.out⟩, ⟨by repeat (first | (with_reducible first | exact HB.out | apply below_alloc | apply pw_below_drewN | apply below_drew1 | refine below_set ?_ GE439.out | refine below_set ?_ GE440.out) | exact HB.out)⟩⟩
              · replace c18 := Bool.eq_false_iff.mpr c18
                subst c18
                have H1 : (if x440002_1.length < 3518437208883 then (damperlaw2_SpecEven.l0 kj10 false (wrap64 (1 + (ji5))) (wrap64 (x7_1 + 1)) (⟨#[114]⟩ : ByteArray) (⟨#[97]⟩ : ByteArray) (x440002_1 ++ [(⟨(⟨#[]⟩ : ByteArray), (⟨#[]⟩ : ByteArray), x441002_10⟩ : S41)]) 0) else (none)) = some r := by rw [if_neg (show ¬ (false = true) by decide)] at H; exact H
                clear H
                have H := H1
                clear H1
                by_cases c30 : x440002_1.length < 3518437208883
                rotate_left
                · rw [if_neg c30] at H
                  exact absurd H (by simp)
                rw [if_pos c30] at H
                have LMc30 := Aside0.mk c30
                clear c30
                obtain ⟨y447, hy447⟩ : ∃ y_ : List (S41), y_ = (x440002_1 ++ [(⟨(⟨#[]⟩ : ByteArray), (⟨#[]⟩ : ByteArray), x441002_10⟩ : S41)]) := ⟨_, rfl⟩
                replace H : (damperlaw2_SpecEven.l0 kj10 false (wrap64 (1 + (ji5))) (wrap64 (x7_1 + 1)) (⟨#[114]⟩ : ByteArray) (⟨#[97]⟩ : ByteArray) y447 0) = some r := by first | (rw [hy447]; with_reducible exact H) | (have H2_ := (Option.bind_some _ _).symm.trans H; rw [hy447]; with_reducible exact H2_) | (have H2_ := (Option.bind_some _ _).symm.trans H; with_reducible exact H2_) | with_reducible exact H | (rw [hy447]; exact H) | exact H
                have Ny447 := Aside0.mk hy447
                clear hy447
                have H' := Aside0.mk H
                clear H
                have hnb31 := NB439_440.out
                have hnc31 := NB440_439.out
                have hcz32_0 : wc.cell? ⟨gb439, 0, none⟩ = some (.string (⟨#[114]⟩ : ByteArray)) := bc BK439 0
                have hcz32_1 : wc.cell? ⟨gb439, 1, none⟩ = some (.string (⟨#[97]⟩ : ByteArray)) := bc BK439 1
                have hcz32_2 : wc.cell? ⟨gb439, 2, none⟩ = some (u440002) := bc BK439 2
                have hcz32_3 : wc.cell? ⟨gb439, 3, none⟩ = some (.int .i64 0) := bc BK439 3
                have hfz32_0 := blk_frozen BK439.out 0
                have hfz32_1 := blk_frozen BK439.out 1
                have hfz32_2 := blk_frozen BK439.out 2
                have hfz32_3 := blk_frozen BK439.out 3
                have hcz33_0 : wc.cell? ⟨gb440, 0, none⟩ = some (.string (⟨#[]⟩ : ByteArray)) := bc BK440 0
                have hcz33_1 : wc.cell? ⟨gb440, 1, none⟩ = some (.string (⟨#[]⟩ : ByteArray)) := bc BK440 1
                have hcz33_2 : wc.cell? ⟨gb440, 2, none⟩ = some (.int .i64 x441002_10) := bc BK440 2
                have hfz33_0 := blk_frozen BK440.out 0
                have hfz33_1 := blk_frozen BK440.out 1
                have hfz33_2 := blk_frozen BK440.out 2
                go_wp2_with (first | (go_at_call 15; refine (damperlaw2_within.keep _ _ rfl (by first | decide | assumption | exact wi_ne (by assumption) | exact wi_ne' (by assumption) | omega) _).mono ?_; rintro e w' ⟨rfl, rfl⟩) | ((with_reducible refine gate_builtin (b := .append) (xs := #[.tmp 44, .tmp 46]) rfl ?_); at_builtin; refine Kd.R_append k41 (w0 := w) w.heap.size rfl (.tmp 44) (.tmp 46) 33 41 (.agg #[(.string ⟨#[]⟩), (.string ⟨#[]⟩), (.int .i64 0)]) 40 rfl Tryd.underlying33 info41 rfl (by decide) (by omega) u440002 x440002_1 (⟨(⟨#[]⟩ : ByteArray), (⟨#[]⟩ : ByteArray), x441002_10⟩ : S41) [.string (⟨#[]⟩ : ByteArray), .string (⟨#[]⟩ : ByteArray), .int .i64 x441002_10] (fun k_ => k_ ≠ gb440) (fun _ => False) rfl rfl ?aP (fun _ hk => hk.elim) ?aF ?aO ?aB ?aS ?aL ?_; (case aP => exact k41_mkM _ _ _ (⟨(⟨#[]⟩ : ByteArray), (⟨#[]⟩ : ByteArray), x441002_10⟩ : S41)); (case aB => exact (by repeat (first | (with_reducible first | exact HB.out | apply below_alloc | apply pw_below_drewN | apply below_drew1 | refine below_set ?_ GE439.out | refine below_set ?_ GE440.out) | exact HB.out))); (case aF => exact (fun k_ hk => Kd.freshB (g := gb440) (pk BK440) k_ hk)); (case aO => exact (by (with_reducible repeat (first | apply Kd.R_alloc | apply Kd.R_drewN | apply Kd.R_drew)); exact HO_440002.out)); (case aS => exact (below_size (by repeat (first | (with_reducible first | exact HB.out | apply below_alloc | apply pw_below_drewN | apply below_drew1 | refine below_set ?_ GE439.out | refine below_set ?_ GE440.out) | exact HB.out)))); (case aL => have := LMc30.out; omega); intro v448 w34 ho hb hg hat; rw [← Ny447.out] at ho; have n0_ := Aside0.mk (blk_grown (g := gb439) (pk BK439) hg (Kd.R_ne HO_440002.out BK439.out (by decide))); have n1_ := Aside0.mk (blk_grown (g := gb440) (pk BK440) hg (Kd.R_away HO_440002.out (fun _ hk => hk))); have n2_ := Aside0.mk (hb); have n3_ := Aside0.mk (ho); clear BK439; clear BK440; clear HB; clear HO_440002; have BK439 := n0_; have BK440 := n1_; have HB := n2_; have HO449 := n3_; clear n0_ n1_ n2_ n3_; clear ho hb hg hat; obtain ⟨Ao35, co35, eo35⟩ := Kd.R_slice HO449.out; subst eo35; have hcz36_0 : w34.cell? ⟨gb439, 0, none⟩ = some (.string (⟨#[114]⟩ : ByteArray)) := bc BK439 0; have hcz36_1 : w34.cell? ⟨gb439, 1, none⟩ = some (.string (⟨#[97]⟩ : ByteArray)) := bc BK439 1; have hcz36_2 : w34.cell? ⟨gb439, 2, none⟩ = some (u440002) := bc BK439 2; have hcz36_3 : w34.cell? ⟨gb439, 3, none⟩ = some (.int .i64 0) := bc BK439 3; have hfz36_0 := blk_frozen BK439.out 0; have hfz36_1 := blk_frozen BK439.out 1; have hfz36_2 := blk_frozen BK439.out 2; have hfz36_3 := blk_frozen BK439.out 3))
                go_roundg kj10
                case measure => have := HK1.out; have := HJ10.out; omega
                case rel => exact ⟨(wrap64 (x7_1 + 1)), (y447), (.slice Ao35 y447.length co35), (by first | rfl | (simp; done) | (simp [*]; done)), H', ⟨by have := HK1.out; have := HJ10.out; omega⟩, ⟨by (with_reducible repeat (first | apply Kd.R_alloc | apply Kd.R_drewN | apply Kd.R_drew)); exact Kd.R_mono (Kd.R_far (p := ⟨gb439, 2, none⟩) (Kd.R_types HO449.out BK439.out (by decide)) (fun _ hk => hk.2) (.slice Ao35 y447.length co35)) (fun _ hk => trivial)⟩, ⟨by (with_reducible repeat (first | refine blk_drewN ?_ _ | refine blk_drew ?_ | refine blk_alloc ?_ _)); refine blk_put (cs := #[.string (⟨#[114]⟩ : ByteArray), .string (⟨#[97]⟩ : ByteArray), u440002, .int .i64 0]) ?_ 2 _ rfl; (with_reducible repeat (first | refine blk_drewN ?_ _ | refine blk_drew ?_ | refine blk_alloc ?_ _)); exact BK439.out⟩, ⟨by repeat (first | (with_reducible first | exact HB.out | apply below_alloc | apply pw_below_drewN | apply below_drew1 | refine below_set ?_ GE439.out | refine below_set ?_ GE440.out) | exact HB.out)⟩⟩
        · rw [if_neg c9] at H
          have c9b0 : decide (x7_1 < (wrap64 (1 + (ji5)))) = false := decide_eq_false c9
          clear c9
          have HC37 := Aside0.mk H
          clear H
          go_upto_if 50 with (first | (go_at_call 15; refine (damperlaw2_within.keep _ _ rfl (by first | decide | assumption | exact wi_ne (by assumption) | exact wi_ne' (by assumption) | omega) _).mono ?_; rintro e w' ⟨rfl, rfl⟩))
          go_cut [9] (fun v9 wc => ∃ (kq : Nat) (x9_36 : Int), v9 = .int .i64 x9_36 ∧ Aside0 (damperlaw2_SpecEven.j2 kq x9_36 (⟨#[114]⟩ : ByteArray) (⟨#[97]⟩ : ByteArray) x440002_1 0 = some r) ∧ Aside0 (kq ≤ k1) ∧ Aside0 (Kd.R k41 41 wc w.heap.size (fun _ => True) u440002 x440002_1) ∧ Aside0 (wc.heap[gb439]? = some (.cells #[.string (⟨#[114]⟩ : ByteArray), .string (⟨#[97]⟩ : ByteArray), u440002, .int .i64 0] 35 (0, 0))) ∧ Aside0 (Below w.heap.size w wc))
          case first =>
            have H := HC37.out
            clear HC37
            by_cases c38 : (wrap64 (1 + (ji5))) > 6
            · rw [if_pos c38] at H
              have c38b0 : decide (6 < (wrap64 (1 + (ji5)))) = true := decide_eq_true c38
              clear c38
              (first | rw [c38b0] | (simp only [i64_w, i32_w]; rw [c38b0]) | rw [c38b1] | skip)
              have H' := Aside0.mk H
              clear H
              go_wp2_with (first | (go_at_call 15; refine (damperlaw2_within.keep _ _ rfl (by first | decide | assumption | exact wi_ne (by assumption) | exact wi_ne' (by assumption) | omega) _).mono ?_; rintro e w' ⟨rfl, rfl⟩))
              go_meet
              case rel => exact ⟨_, (3), (by first | rfl | (simp; done) | (simp [*]; done)), H', ⟨by have := HK1.out; first | omega | exact Nat.le_refl _⟩, ⟨by (with_reducible repeat (first | apply Kd.R_alloc | apply Kd.R_drewN | apply Kd.R_drew)); exact HO_440002.out⟩, ⟨by (with_reducible repeat (first | refine blk_drewN ?_ _ | refine blk_drew ?_ | refine blk_alloc ?_ _)); exact BK439.out⟩, ⟨by repeat (first | (with_reducible first | exact HB.out | apply below_alloc | apply pw_below_drewN | apply below_drew1 | refine below_set ?_ GE439.out) | exact HB.out)⟩⟩
            · rw [if_neg c38] at H
              have c38b0 : decide (6 < (wrap64 (1 + (ji5)))) = false := decide_eq_false c38
              clear c38
              (first | rw [c38b0] | (simp only [i64_w, i32_w]; rw [c38b0]) | rw [c38b1] | skip)
              have H' := Aside0.mk H
              clear H
              go_wp2_with (first | (go_at_call 15; refine (damperlaw2_within.keep _ _ rfl (by first | decide | assumption | exact wi_ne (by assumption) | exact wi_ne' (by assumption) | omega) _).mono ?_; rintro e w' ⟨rfl, rfl⟩))
              go_meet
              case rel => exact ⟨_, (0), (by first | rfl | (simp; done) | (simp [*]; done)), H', ⟨by have := HK1.out; first | omega | exact Nat.le_refl _⟩, ⟨by (with_reducible repeat (first | apply Kd.R_alloc | apply Kd.R_drewN | apply Kd.R_drew)); exact HO_440002.out⟩, ⟨by (with_reducible repeat (first | refine blk_drewN ?_ _ | refine blk_drew ?_ | refine blk_alloc ?_ _)); exact BK439.out⟩, ⟨by repeat (first | (with_reducible first | exact HB.out | apply below_alloc | apply pw_below_drewN | apply below_drew1 | refine below_set ?_ GE439.out) | exact HB.out)⟩⟩
          case rest =>
            clear HC37
            try clear c1
            try clear c2
            try clear p2
            try clear hcv2
            try clear c3
            try clear c4
            try clear p6
            try clear c9
            try clear c9b0
            try clear c10
            try clear c10b0
            try clear c10b1
            try clear c11
            try clear c13
            try clear c15
            try clear c15b0
            try clear c15b1
            try clear c16
            try clear c18
            try clear c19
            try clear c19b0
            try clear c19b1
            try clear c19b2
            try clear c20
            try clear hcv23
            try clear c24
            try clear c30
            try clear c31
            try clear c38
            try clear c38b0
            try clear c38b1
            try clear hcz14_0
            try clear hcz14_1
            try clear hcz14_2
            try clear hcz17_0
            try clear hcz17_1
            try clear hcz17_2
            try clear hcz25_0
            try clear hcz25_1
            try clear hcz25_2
            try clear hcz26_0
            try clear hcz26_1
            try clear hcz26_2
            try clear hcz26_3
            try clear hcz29_0
            try clear hcz29_1
            try clear hcz29_2
            try clear hcz29_3
            try clear hcz32_0
            try clear hcz32_1
            try clear hcz32_2
            try clear hcz32_3
            try clear hcz33_0
            try clear hcz33_1
            try clear hcz33_2
            try clear hcz36_0
            try clear hcz36_1
            try clear hcz36_2
            try clear hcz36_3
            try clear hcz8_0
            try clear hcz8_1
            try clear hcz8_2
            try clear hcz8_3
            try clear hfz14_0
            try clear hfz14_1
            try clear hfz14_2
            try clear hfz17_0
            try clear hfz17_1
            try clear hfz17_2
            try clear hfz25_0
            try clear hfz25_1
            try clear hfz25_2
            try clear hfz26_0
            try clear hfz26_1
            try clear hfz26_2
            try clear hfz26_3
            try clear hfz29_0
            try clear hfz29_1
            try clear hfz29_2
            try clear hfz29_3
            try clear hfz32_0
            try clear hfz32_1
            try clear hfz32_2
            try clear hfz32_3
            try clear hfz33_0
            try clear hfz33_1
            try clear hfz33_2
            try clear hfz36_0
            try clear hfz36_1
            try clear hfz36_2
            try clear hfz36_3
            try clear hfz8_0
            try clear hfz8_1
            try clear hfz8_2
            try clear hfz8_3
            try clear p2
            try clear p6
            obtain ⟨kq, x9_36, rfl, HA, HJ36, HO_440002, BK439, HB⟩ := hcut
            cases kq with
            | zero => exact absurd HA.out (by simp [damperlaw2_SpecEven.j2])
            | succ kj36 =>
              have H := HA.out
              clear HA
              simp only [damperlaw2_SpecEven.j2] at H
              replace H := Option.bind_eq_some_iff.mp H
              obtain ⟨t450, A390, H⟩ := H
              replace H : (if t450 = x9_36 then ((spec_SameRoute.f (⟨#[114]⟩ : ByteArray) (⟨#[97]⟩ : ByteArray) x440002_1 0 (⟨#[114]⟩ : ByteArray) (⟨#[97]⟩ : ByteArray) x440002_1 0).bind fun t451 => (some t451)) else (some false)) = some r := H
              have A39 := Aside0.mk A390
              clear A390
              by_cases c40 : t450 = x9_36
              rotate_left
              · rw [if_neg c40] at H
                have c40b0 : (t450 == x9_36) = false := beq_eq_false_iff_ne.mpr c40
                have c40b1 : (t450 != x9_36) = true := bne_iff_ne.mpr c40
                exact absurd (Option.some.inj H) (by rw [hr0_.out]; decide)
              rw [if_pos c40] at H
              have c40b0 : (t450 == x9_36) = true := beq_iff_eq.mpr c40
              have c40b1 : (t450 != x9_36) = false := bne_eq_false_iff_eq.mpr c40
              clear c40
              replace H := Option.bind_eq_some_iff.mp H
              obtain ⟨t451, A410, H⟩ := H
              replace H : (some t451) = some r := H
              have A41 := Aside0.mk A410
              clear A410
              obtain rfl := Option.some.inj H
              have hcz42_0 : wc.cell? ⟨gb439, 0, none⟩ = some (.string (⟨#[114]⟩ : ByteArray)) := bc BK439 0
              have hcz42_1 : wc.cell? ⟨gb439, 1, none⟩ = some (.string (⟨#[97]⟩ : ByteArray)) := bc BK439 1
              have hcz42_2 : wc.cell? ⟨gb439, 2, none⟩ = some (u440002) := bc BK439 2
              have hcz42_3 : wc.cell? ⟨gb439, 3, none⟩ = some (.int .i64 0) := bc BK439 3
              have hfz42_0 := blk_frozen BK439.out 0
              have hfz42_1 := blk_frozen BK439.out 1
              have hfz42_2 := blk_frozen BK439.out 2
              have hfz42_3 := blk_frozen BK439.out 3
              obtain ⟨Ao43, co43, eo43⟩ := Kd.R_slice HO_440002.out
              subst eo43
              go_wp2_with (first | (go_at_call 15; refine (damperlaw2_within.keep _ _ rfl (by first | decide | assumption | exact wi_ne (by assumption) | exact wi_ne' (by assumption) | omega) _).mono ?_; rintro e w' ⟨rfl, rfl⟩) | ((with_reducible refine gate_callee (f := 19) rfl ?_); refine goesL_ (some 52) rfl rfl Tryd.func19 (by kernel_rfl) rfl #[.agg #[.string (⟨#[114]⟩ : ByteArray), .string (⟨#[97]⟩ : ByteArray), .slice Ao43 x440002_1.length co43, .int .i64 0]] rfl (by (try simp only [List.map_toArray, List.map_cons, List.map_nil]); first | done | rfl | (simp only [List.length_drop, List.length_take]; rfl)) ?_; (with_reducible refine (spec_Route.calls kj36 (⟨#[114]⟩ : ByteArray) (⟨#[97]⟩ : ByteArray) _ _ x440002_1 0 t450 _ ?side3 ?side1 ?side2 A39.out).mono ?_); (case side1 => repeat (first | exact (Kd.R_reads' HO_440002.out).2.2 | (with_reducible refine Kd.C_alloc ?_ _) | (with_reducible refine Kd.C_drewN ?_ _) | (with_reducible refine Kd.C_drew ?_))); (case side2 => exact (Kd.R_reads' HO_440002.out).2.1); (case side3 => first | exact hLd_.out | exact hLd_ | exact ⟨LaidW.below hLd_.out (by repeat (first | (with_reducible first | exact HB.out | apply below_alloc | apply pw_below_drewN | apply below_drew1 | refine below_set ?_ GE439.out) | exact HB.out))⟩ | exact ⟨LaidW.below hLd_.out (by repeat (first | exact Below.refl _ _ | apply below_alloc | apply pw_below_drewN | apply below_drew1))⟩); rintro e w44 ⟨rfl, hb⟩; refine ⟨_, rfl, ?_⟩; have n0_ := Aside0.mk (Kd.R_below (by (with_reducible repeat (first | apply Kd.R_alloc | apply Kd.R_drewN | apply Kd.R_drew)); exact HO_440002.out) hb); have n1_ := Aside0.mk (blk_below (g := gb439) (pk BK439) hb); have n2_ := Aside0.mk (below_step (by repeat (first | (with_reducible first | exact HB.out | apply below_alloc | apply pw_below_drewN | apply below_drew1 | refine below_set ?_ GE439.out) | exact HB.out)) hb); clear HO_440002; clear BK439; clear HB; have HO_440002 := n0_; have BK439 := n1_; have HB := n2_; clear n0_ n1_ n2_; (try clear hb); (try clear hb2); (try clear hk); (try clear hi); have hcz45_0 : w44.cell? ⟨gb439, 0, none⟩ = some (.string (⟨#[114]⟩ : ByteArray)) := bc BK439 0; have hcz45_1 : w44.cell? ⟨gb439, 1, none⟩ = some (.string (⟨#[97]⟩ : ByteArray)) := bc BK439 1; have hcz45_2 : w44.cell? ⟨gb439, 2, none⟩ = some (.slice Ao43 x440002_1.length co43) := bc BK439 2; have hcz45_3 : w44.cell? ⟨gb439, 3, none⟩ = some (.int .i64 0) := bc BK439 3; have hfz45_0 := blk_frozen BK439.out 0; have hfz45_1 := blk_frozen BK439.out 1; have hfz45_2 := blk_frozen BK439.out 2; have hfz45_3 := blk_frozen BK439.out 3) | (go_at_call 22; (with_reducible refine (spec_SameRoute.calls (⟨#[114]⟩ : ByteArray) (⟨#[97]⟩ : ByteArray) _ _ x440002_1 0 (⟨#[114]⟩ : ByteArray) (⟨#[97]⟩ : ByteArray) _ _ x440002_1 0 t451 _ ?side1 ?side2 ?side3 ?side4 A41.out).mono ?_); (case side1 => repeat (first | exact (Kd.R_reads' HO_440002.out).2.2 | (with_reducible refine Kd.C_alloc ?_ _) | (with_reducible refine Kd.C_drewN ?_ _) | (with_reducible refine Kd.C_drew ?_))); (case side2 => exact (Kd.R_reads' HO_440002.out).2.1); (case side3 => repeat (first | exact (Kd.R_reads' HO_440002.out).2.2 | (with_reducible refine Kd.C_alloc ?_ _) | (with_reducible refine Kd.C_drewN ?_ _) | (with_reducible refine Kd.C_drew ?_))); (case side4 => exact (Kd.R_reads' HO_440002.out).2.1); rintro e w46 ⟨rfl, hb⟩; have n0_ := Aside0.mk (Kd.R_below (by (with_reducible repeat (first | apply Kd.R_alloc | apply Kd.R_drewN | apply Kd.R_drew)); exact HO_440002.out) hb); have n1_ := Aside0.mk (blk_below (g := gb439) (pk BK439) hb); have n2_ := Aside0.mk (below_step (by repeat (first | (with_reducible first | exact HB.out | apply below_alloc | apply pw_below_drewN | apply below_drew1 | refine below_set ?_ GE439.out) | exact HB.out)) hb); clear HO_440002; clear BK439; clear HB; have HO_440002 := n0_; have BK439 := n1_; have HB := n2_; clear n0_ n1_ n2_; (try clear hb); (try clear hb2); (try clear hk); (try clear hi)))
              go_ret
              exact ⟨by first | rfl | (simp [errW_none, errW_some] <;> rfl) | (simp only [← hji5]; first | rfl | (simp [errW_none, errW_some] <;> rfl)) | (simp [*, errW_none, errW_some] <;> rfl), by repeat (first | (with_reducible first | exact HB.out | apply below_alloc | apply pw_below_drewN | apply below_drew1 | refine below_set ?_ GE439.out) | exact HB.out)⟩
  · replace c4 := Bool.eq_false_iff.mpr c4
    subst c4
    have H1 : (some false) = some r := by rw [if_neg (show ¬ (false = true) by decide)] at H; exact H
    clear H
    have H := H1
    clear H1
    exact absurd (Option.some.inj H) (by rw [hr0_.out]; decide)

/-- THE ONE PURE STATEMENT of damperlaw2_SpecEven: yours. -/
def damperlaw2_SpecEven.Pure : Prop := ∀ (a0 : Int) (a1 : Bool), ((Lit.int .i64 a0).wf = true) → ∃ k, damperlaw2_SpecEven.f k a0 a1 = some true
theorem damperlaw2_SpecEven.walk (P : damperlaw2_SpecEven.Pure) (a0 : Int) (a1 : Bool) (w : World) (hLd_ : LaidW w) (w0 : (Lit.int .i64 a0).wf = true)  :
    Calls Tryd.prog 10 #[.int .i64 a0, .bool a1] w fun e w' => e = .returned (.bool true) ∧ Below w.heap.size w w' := by
  obtain ⟨k, h⟩ := P a0 a1 w0
  refine (damperlaw2_SpecEven.calls k a0 a1 true w ⟨hLd_⟩ ⟨rfl⟩ h).mono ?_
  rintro e w' ⟨rfl, hd⟩
  exact ⟨rfl, hd⟩

end Go.Proofs.YthdpnbfjpbiieaaDoor.Ma
