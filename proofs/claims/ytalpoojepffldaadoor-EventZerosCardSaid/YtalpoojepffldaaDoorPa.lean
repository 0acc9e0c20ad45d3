-- Written by a program of this session (wip/tools/pack.py) out of its printed parts. Not trusted: Lean checks it.
import Derived.Test.YtalpoojepffldaaDoorMax0
namespace Go.Proofs.YtalpoojepffldaaDoor.Ma
open Go.RowKit Go.Proofs.YtalpoojepffldaaDoorW.PrintWords Go.Proofs.YtalpoojepffldaaDoorW.PrintLast Go.Proofs.YtalpoojepffldaaDoorW.PrintMore
attribute [local go_sem] max2_int min2_int max_two min_two max_three min_three max_four min_four   -- for this text's walks alone
set_option linter.unusedVariables false
set_option linter.unusedSimpArgs false

section
/-! ### event_shape: function 30 -/
mutual
def event_shape.j0 : Nat → Int → Bool → Option (Bool × Bool × Bool × Bool × Bool × Bool × Bool)
  | 0, _, _ => none
  | k + 1, x4, x17 => if x17 = true then (some (true, false, false, false, false, false, true)) else (if x4 = 9 then (some (false, false, false, false, false, false, true)) else (if x4 = 10 then (event_shape.j1 k (x4 == 10)) else (if x4 = 11 then (event_shape.j1 k (x4 == 11)) else (if x4 = 12 then (event_shape.j1 k (x4 == 12)) else (event_shape.j1 k (x4 == 13))))))
def event_shape.j1 : Nat → Bool → Option (Bool × Bool × Bool × Bool × Bool × Bool × Bool)
  | 0, _ => none
  | k + 1, x26 => if x26 = true then (some (false, true, false, false, false, false, true)) else (some (false, false, false, false, false, false, false))
end
def event_shape.f (k : Nat) (a0 : Int) : Option (Bool × Bool × Bool × Bool × Bool × Bool × Bool) := if a0 = 1 then (some (true, false, false, false, true, false, true)) else (if a0 = 2 then (some (true, false, false, false, false, true, true)) else (if a0 = 3 then (some (true, true, false, true, false, false, true)) else (if a0 = 4 then (some (true, true, true, true, false, false, true)) else (if a0 = 5 then (event_shape.j0 k a0 (a0 == 5)) else (if a0 = 6 then (event_shape.j0 k a0 (a0 == 6)) else (if a0 = 7 then (event_shape.j0 k a0 (a0 == 7)) else (event_shape.j0 k a0 (a0 == 8))))))))
theorem event_shape.mono_l : ∀ k, (∀ y0 y1, LeO (event_shape.j0 k y0 y1) (event_shape.j0 (k + 1) y0 y1)) ∧ (∀ y0, LeO (event_shape.j1 k y0) (event_shape.j1 (k + 1) y0))
  | 0 => ⟨fun _ _ r h => by simp [event_shape.j0] at h, fun _ r h => by simp [event_shape.j1] at h⟩
  | k + 1 => by
    obtain ⟨ih0, ih1⟩ := event_shape.mono_l k
    refine ⟨?_, ?_⟩
    · intro y0 y1
      unfold event_shape.j0
      repeat' first
      | (with_reducible exact ih0 _ _)
      | (with_reducible exact ih1 _)
      | (with_reducible exact LeO.refl _)
      | (with_reducible exact LeO.none _)
      | (with_reducible refine LeO.ite ?_ ?_)
      | (with_reducible refine LeO.bind ?_ (fun _ => ?_))
      | exact ih0 _ _
      | exact ih1 _
      | exact LeO.none _
      | refine LeO.ite ?_ ?_
      | refine LeO.bind ?_ (fun _ => ?_)
    · intro y0
      unfold event_shape.j1
      repeat' first
      | (with_reducible exact ih0 _ _)
      | (with_reducible exact ih1 _)
      | (with_reducible exact LeO.refl _)
      | (with_reducible exact LeO.none _)
      | (with_reducible refine LeO.ite ?_ ?_)
      | (with_reducible refine LeO.bind ?_ (fun _ => ?_))
      | exact ih0 _ _
      | exact ih1 _
      | exact LeO.none _
      | refine LeO.ite ?_ ?_
      | refine LeO.bind ?_ (fun _ => ?_)
theorem event_shape.mono : ∀ a0 k, LeO (event_shape.f k a0) (event_shape.f (k + 1) a0) := by
  intro a0 k
  obtain ⟨ih0, ih1⟩ := event_shape.mono_l k
  unfold event_shape.f
  repeat' first
      | (with_reducible exact ih0 _ _)
      | (with_reducible exact ih1 _)
      | (with_reducible exact LeO.refl _)
      | (with_reducible exact LeO.none _)
      | (with_reducible refine LeO.ite ?_ ?_)
      | (with_reducible refine LeO.bind ?_ (fun _ => ?_))
      | exact ih0 _ _
      | exact ih1 _
      | exact LeO.none _
      | refine LeO.ite ?_ ?_
      | refine LeO.bind ?_ (fun _ => ?_)
set_option maxHeartbeats 8000000 in
set_option maxRecDepth 100000 in
theorem event_shape.calls (k : Nat) (a0 : Int) (r1 : Bool) (r2 : Bool) (r3 : Bool) (r4 : Bool) (r5 : Bool) (r6 : Bool) (r7 : Bool) (w : World) (h : event_shape.f k a0 = some (r1, r2, r3, r4, r5, r6, r7)) :
    Calls Tryd.prog 30 #[.int .i64 a0] w fun e w' => e = .returned (.tuple #[.agg #[.bool r1, .bool r2, .bool r3, .bool r4, .bool r5, .bool r6], .bool r7]) ∧ Below w.heap.size w w' := by
  have hu66 := Tryd.underlying66
  have HB := Aside0.mk (Below.refl w.heap.size w)
  have H : (if a0 = 1 then (some (true, false, false, false, true, false, true)) else (if a0 = 2 then (some (true, false, false, false, false, true, true)) else (if a0 = 3 then (some (true, true, false, true, false, false, true)) else (if a0 = 4 then (some (true, true, true, true, false, false, true)) else (if a0 = 5 then (event_shape.j0 k a0 (a0 == 5)) else (if a0 = 6 then (event_shape.j0 k a0 (a0 == 6)) else (if a0 = 7 then (event_shape.j0 k a0 (a0 == 7)) else (event_shape.j0 k a0 (a0 == 8))))))))) = some (r1, r2, r3, r4, r5, r6, r7) := h
  clear h
  by_cases c2 : a0 = 1
  · rw [if_pos c2] at H
    have c2b0 : (a0 == 1) = true := beq_iff_eq.mpr c2
    have c2b1 : (a0 != 1) = false := bne_eq_false_iff_eq.mpr c2
    clear c2
    simp only [Option.some.injEq, Prod.mk.injEq] at H
    obtain ⟨rfl, rfl, rfl, rfl, rfl, rfl, rfl⟩ := H
    go_enter Tryd.func30, Tryd.ntmps30
    go_wp2_with (first | ((with_reducible refine gate_dst (N := 2) rfl ?_); refine box_event ?hg (N := 2) ?hd (cs := #[.bool false, .bool false, .bool false, .bool false, .bool false, .bool false]) (t := 66) ?hr ?_; (case hd => rfl); (case hg => rfl); (case hr => first | (go_simp; done) | (go_simp; rfl)); intro gb101 hg w3 hbox hb; have n0_ := Aside0.mk (below_step (by repeat (first | (with_reducible first | exact HB.out | apply below_alloc | apply pw_below_drewN | apply below_drew1) | exact HB.out)) hb); have n1_ := Aside0.mk (hbox); have n2_ := Aside0.mk ((by rw [hg]; exact (below_size (by repeat (first | (with_reducible first | exact HB.out | apply below_alloc | apply pw_below_drewN | apply below_drew1) | exact HB.out))) : w.heap.size ≤ gb101)); have n3_ := Aside0.mk ((by rw [hg]; exact (below_size (by repeat (first | (with_reducible first | exact HB.out | apply below_alloc | apply pw_below_drewN | apply below_drew1) | exact HB.out))) : w.heap.size ≤ gb101)); clear HB; have HB := n0_; have BK101 := n1_; have GW101 := n2_; have GE101 := n3_; clear n0_ n1_ n2_ n3_; clear hb hbox hg; have hcz4_0 : w3.cell? ⟨gb101, 0, none⟩ = some (.bool false) := bc BK101 0; have hcz4_1 : w3.cell? ⟨gb101, 1, none⟩ = some (.bool false) := bc BK101 1; have hcz4_2 : w3.cell? ⟨gb101, 2, none⟩ = some (.bool false) := bc BK101 2; have hcz4_3 : w3.cell? ⟨gb101, 3, none⟩ = some (.bool false) := bc BK101 3; have hcz4_4 : w3.cell? ⟨gb101, 4, none⟩ = some (.bool false) := bc BK101 4; have hcz4_5 : w3.cell? ⟨gb101, 5, none⟩ = some (.bool false) := bc BK101 5; have hfz4_0 := blk_frozen BK101.out 0; have hfz4_1 := blk_frozen BK101.out 1; have hfz4_2 := blk_frozen BK101.out 2; have hfz4_3 := blk_frozen BK101.out 3; have hfz4_4 := blk_frozen BK101.out 4; have hfz4_5 := blk_frozen BK101.out 5))
    refine bodyPost_ret (results_ct rfl _ _ gb101 66 #[.bool true, .bool false, .bool false, .bool false, .bool true, .bool false] (0, 0) _ rfl (by (with_reducible repeat (first | refine blk_drewN ?_ _ | refine blk_drew ?_ | refine blk_alloc ?_ _)); refine blk_put (cs := #[.bool true, .bool false, .bool false, .bool false, .bool true, .bool false]) ?_ 5 _ rfl; (with_reducible repeat (first | refine blk_drewN ?_ _ | refine blk_drew ?_ | refine blk_alloc ?_ _)); refine blk_put (cs := #[.bool true, .bool false, .bool false, .bool false, .bool false, .bool false]) ?_ 4 _ rfl; (with_reducible repeat (first | refine blk_drewN ?_ _ | refine blk_drew ?_ | refine blk_alloc ?_ _)); refine blk_put (cs := #[.bool true, .bool false, .bool false, .bool false, .bool false, .bool false]) ?_ 3 _ rfl; (with_reducible repeat (first | refine blk_drewN ?_ _ | refine blk_drew ?_ | refine blk_alloc ?_ _)); refine blk_put (cs := #[.bool true, .bool false, .bool false, .bool false, .bool false, .bool false]) ?_ 2 _ rfl; (with_reducible repeat (first | refine blk_drewN ?_ _ | refine blk_drew ?_ | refine blk_alloc ?_ _)); refine blk_put (cs := #[.bool true, .bool false, .bool false, .bool false, .bool false, .bool false]) ?_ 1 _ rfl; (with_reducible repeat (first | refine blk_drewN ?_ _ | refine blk_drew ?_ | refine blk_alloc ?_ _)); refine blk_put (cs := #[.bool false, .bool false, .bool false, .bool false, .bool false, .bool false]) ?_ 0 _ rfl; (with_reducible repeat (first | refine blk_drewN ?_ _ | refine blk_drew ?_ | refine blk_alloc ?_ _)); exact BK101.out) Tryd.underlying66 rfl (by kernel_rfl)) rfl ?_
    exact ⟨by first | rfl | (simp [errW_none, errW_some] <;> rfl) | (simp [*, errW_none, errW_some] <;> rfl), by repeat (first | (with_reducible first | exact HB.out | apply below_alloc | apply pw_below_drewN | apply below_drew1 | refine below_set ?_ GE101.out) | exact HB.out)⟩
  · rw [if_neg c2] at H
    have c2b0 : (a0 == 1) = false := beq_eq_false_iff_ne.mpr c2
    have c2b1 : (a0 != 1) = true := bne_iff_ne.mpr c2
    by_cases c5 : a0 = 2
    · rw [if_pos c5] at H
      have c5b0 : (a0 == 2) = true := beq_iff_eq.mpr c5
      have c5b1 : (a0 != 2) = false := bne_eq_false_iff_eq.mpr c5
      clear c5
      simp only [Option.some.injEq, Prod.mk.injEq] at H
      obtain ⟨rfl, rfl, rfl, rfl, rfl, rfl, rfl⟩ := H
      go_enter Tryd.func30, Tryd.ntmps30
      go_wp2_with (first | ((with_reducible refine gate_dst (N := 2) rfl ?_); refine box_event ?hg (N := 2) ?hd (cs := #[.bool false, .bool false, .bool false, .bool false, .bool false, .bool false]) (t := 66) ?hr ?_; (case hd => rfl); (case hg => rfl); (case hr => first | (go_simp; done) | (go_simp; rfl)); intro gb101 hg w6 hbox hb; have n0_ := Aside0.mk (below_step (by repeat (first | (with_reducible first | exact HB.out | apply below_alloc | apply pw_below_drewN | apply below_drew1) | exact HB.out)) hb); have n1_ := Aside0.mk (hbox); have n2_ := Aside0.mk ((by rw [hg]; exact (below_size (by repeat (first | (with_reducible first | exact HB.out | apply below_alloc | apply pw_below_drewN | apply below_drew1) | exact HB.out))) : w.heap.size ≤ gb101)); have n3_ := Aside0.mk ((by rw [hg]; exact (below_size (by repeat (first | (with_reducible first | exact HB.out | apply below_alloc | apply pw_below_drewN | apply below_drew1) | exact HB.out))) : w.heap.size ≤ gb101)); clear HB; have HB := n0_; have BK101 := n1_; have GW101 := n2_; have GE101 := n3_; clear n0_ n1_ n2_ n3_; clear hb hbox hg; have hcz7_0 : w6.cell? ⟨gb101, 0, none⟩ = some (.bool false) := bc BK101 0; have hcz7_1 : w6.cell? ⟨gb101, 1, none⟩ = some (.bool false) := bc BK101 1; have hcz7_2 : w6.cell? ⟨gb101, 2, none⟩ = some (.bool false) := bc BK101 2; have hcz7_3 : w6.cell? ⟨gb101, 3, none⟩ = some (.bool false) := bc BK101 3; have hcz7_4 : w6.cell? ⟨gb101, 4, none⟩ = some (.bool false) := bc BK101 4; have hcz7_5 : w6.cell? ⟨gb101, 5, none⟩ = some (.bool false) := bc BK101 5; have hfz7_0 := blk_frozen BK101.out 0; have hfz7_1 := blk_frozen BK101.out 1; have hfz7_2 := blk_frozen BK101.out 2; have hfz7_3 := blk_frozen BK101.out 3; have hfz7_4 := blk_frozen BK101.out 4; have hfz7_5 := blk_frozen BK101.out 5))
      refine bodyPost_ret (results_ct rfl _ _ gb101 66 #[.bool true, .bool false, .bool false, .bool false, .bool false, .bool true] (0, 0) _ rfl (by (with_reducible repeat (first | refine blk_drewN ?_ _ | refine blk_drew ?_ | refine blk_alloc ?_ _)); refine blk_put (cs := #[.bool true, .bool false, .bool false, .bool false, .bool false, .bool false]) ?_ 5 _ rfl; (with_reducible repeat (first | refine blk_drewN ?_ _ | refine blk_drew ?_ | refine blk_alloc ?_ _)); refine blk_put (cs := #[.bool true, .bool false, .bool false, .bool false, .bool false, .bool false]) ?_ 4 _ rfl; (with_reducible repeat (first | refine blk_drewN ?_ _ | refine blk_drew ?_ | refine blk_alloc ?_ _)); refine blk_put (cs := #[.bool true, .bool false, .bool false, .bool false, .bool false, .bool false]) ?_ 3 _ rfl; (with_reducible repeat (first | refine blk_drewN ?_ _ | refine blk_drew ?_ | refine blk_alloc ?_ _)); refine blk_put (cs := #[.bool true, .bool false, .bool false, .bool false, .bool false, .bool false]) ?_ 2 _ rfl; (with_reducible repeat (first | refine blk_drewN ?_ _ | refine blk_drew ?_ | refine blk_alloc ?_ _)); refine blk_put (cs := #[.bool true, .bool false, .bool false, .bool false, .bool false, .bool false]) ?_ 1 _ rfl; (with_reducible repeat (first | refine blk_drewN ?_ _ | refine blk_drew ?_ | refine blk_alloc ?_ _)); refine blk_put (cs := #[.bool false, .bool false, .bool false, .bool false, .bool false, .bool false]) ?_ 0 _ rfl; (with_reducible repeat (first | refine blk_drewN ?_ _ | refine blk_drew ?_ | refine blk_alloc ?_ _)); exact BK101.out) Tryd.underlying66 rfl (by kernel_rfl)) rfl ?_
      exact ⟨by first | rfl | (simp [errW_none, errW_some] <;> rfl) | (simp [*, errW_none, errW_some] <;> rfl), by repeat (first | (with_reducible first | exact HB.out | apply below_alloc | apply pw_below_drewN | apply below_drew1 | refine below_set ?_ GE101.out) | exact HB.out)⟩
    · rw [if_neg c5] at H
      have c5b0 : (a0 == 2) = false := beq_eq_false_iff_ne.mpr c5
      have c5b1 : (a0 != 2) = true := bne_iff_ne.mpr c5
      by_cases c8 : a0 = 3
      · rw [if_pos c8] at H
        have c8b0 : (a0 == 3) = true := beq_iff_eq.mpr c8
        have c8b1 : (a0 != 3) = false := bne_eq_false_iff_eq.mpr c8
        clear c8
        simp only [Option.some.injEq, Prod.mk.injEq] at H
        obtain ⟨rfl, rfl, rfl, rfl, rfl, rfl, rfl⟩ := H
        go_enter Tryd.func30, Tryd.ntmps30
        go_wp2_with (first | ((with_reducible refine gate_dst (N := 2) rfl ?_); refine box_event ?hg (N := 2) ?hd (cs := #[.bool false, .bool false, .bool false, .bool false, .bool false, .bool false]) (t := 66) ?hr ?_; (case hd => rfl); (case hg => rfl); (case hr => first | (go_simp; done) | (go_simp; rfl)); intro gb101 hg w9 hbox hb; have n0_ := Aside0.mk (below_step (by repeat (first | (with_reducible first | exact HB.out | apply below_alloc | apply pw_below_drewN | apply below_drew1) | exact HB.out)) hb); have n1_ := Aside0.mk (hbox); have n2_ := Aside0.mk ((by rw [hg]; exact (below_size (by repeat (first | (with_reducible first | exact HB.out | apply below_alloc | apply pw_below_drewN | apply below_drew1) | exact HB.out))) : w.heap.size ≤ gb101)); have n3_ := Aside0.mk ((by rw [hg]; exact (below_size (by repeat (first | (with_reducible first | exact HB.out | apply below_alloc | apply pw_below_drewN | apply below_drew1) | exact HB.out))) : w.heap.size ≤ gb101)); clear HB; have HB := n0_; have BK101 := n1_; have GW101 := n2_; have GE101 := n3_; clear n0_ n1_ n2_ n3_; clear hb hbox hg; have hcz10_0 : w9.cell? ⟨gb101, 0, none⟩ = some (.bool false) := bc BK101 0; have hcz10_1 : w9.cell? ⟨gb101, 1, none⟩ = some (.bool false) := bc BK101 1; have hcz10_2 : w9.cell? ⟨gb101, 2, none⟩ = some (.bool false) := bc BK101 2; have hcz10_3 : w9.cell? ⟨gb101, 3, none⟩ = some (.bool false) := bc BK101 3; have hcz10_4 : w9.cell? ⟨gb101, 4, none⟩ = some (.bool false) := bc BK101 4; have hcz10_5 : w9.cell? ⟨gb101, 5, none⟩ = some (.bool false) := bc BK101 5; have hfz10_0 := blk_frozen BK101.out 0; have hfz10_1 := blk_frozen BK101.out 1; have hfz10_2 := blk_frozen BK101.out 2; have hfz10_3 := blk_frozen BK101.out 3; have hfz10_4 := blk_frozen BK101.out 4; have hfz10_5 := blk_frozen BK101.out 5))
        refine bodyPost_ret (results_ct rfl _ _ gb101 66 #[.bool true, .bool true, .bool false, .bool true, .bool false, .bool false] (0, 0) _ rfl (by (with_reducible repeat (first | refine blk_drewN ?_ _ | refine blk_drew ?_ | refine blk_alloc ?_ _)); refine blk_put (cs := #[.bool true, .bool true, .bool false, .bool true, .bool false, .bool false]) ?_ 5 _ rfl; (with_reducible repeat (first | refine blk_drewN ?_ _ | refine blk_drew ?_ | refine blk_alloc ?_ _)); refine blk_put (cs := #[.bool true, .bool true, .bool false, .bool true, .bool false, .bool false]) ?_ 4 _ rfl; (with_reducible repeat (first | refine blk_drewN ?_ _ | refine blk_drew ?_ | refine blk_alloc ?_ _)); refine blk_put (cs := #[.bool true, .bool true, .bool false, .bool false, .bool false, .bool false]) ?_ 3 _ rfl; (with_reducible repeat (first | refine blk_drewN ?_ _ | refine blk_drew ?_ | refine blk_alloc ?_ _)); refine blk_put (cs := #[.bool true, .bool true, .bool false, .bool false, .bool false, .bool false]) ?_ 2 _ rfl; (with_reducible repeat (first | refine blk_drewN ?_ _ | refine blk_drew ?_ | refine blk_alloc ?_ _)); refine blk_put (cs := #[.bool true, .bool false, .bool false, .bool false, .bool false, .bool false]) ?_ 1 _ rfl; (with_reducible repeat (first | refine blk_drewN ?_ _ | refine blk_drew ?_ | refine blk_alloc ?_ _)); refine blk_put (cs := #[.bool false, .bool false, .bool false, .bool false, .bool false, .bool false]) ?_ 0 _ rfl; (with_reducible repeat (first | refine blk_drewN ?_ _ | refine blk_drew ?_ | refine blk_alloc ?_ _)); exact BK101.out) Tryd.underlying66 rfl (by kernel_rfl)) rfl ?_
        exact ⟨by first | rfl | (simp [errW_none, errW_some] <;> rfl) | (simp [*, errW_none, errW_some] <;> rfl), by repeat (first | (with_reducible first | exact HB.out | apply below_alloc | apply pw_below_drewN | apply below_drew1 | refine below_set ?_ GE101.out) | exact HB.out)⟩
      · rw [if_neg c8] at H
        have c8b0 : (a0 == 3) = false := beq_eq_false_iff_ne.mpr c8
        have c8b1 : (a0 != 3) = true := bne_iff_ne.mpr c8
        by_cases c11 : a0 = 4
        · rw [if_pos c11] at H
          have c11b0 : (a0 == 4) = true := beq_iff_eq.mpr c11
          have c11b1 : (a0 != 4) = false := bne_eq_false_iff_eq.mpr c11
          clear c11
          simp only [Option.some.injEq, Prod.mk.injEq] at H
          obtain ⟨rfl, rfl, rfl, rfl, rfl, rfl, rfl⟩ := H
          go_enter Tryd.func30, Tryd.ntmps30
          go_wp2_with (first | ((with_reducible refine gate_dst (N := 2) rfl ?_); refine box_event ?hg (N := 2) ?hd (cs := #[.bool false, .bool false, .bool false, .bool false, .bool false, .bool false]) (t := 66) ?hr ?_; (case hd => rfl); (case hg => rfl); (case hr => first | (go_simp; done) | (go_simp; rfl)); intro gb101 hg w12 hbox hb; have n0_ := Aside0.mk (below_step (by repeat (first | (with_reducible first | exact HB.out | apply below_alloc | apply pw_below_drewN | apply below_drew1) | exact HB.out)) hb); have n1_ := Aside0.mk (hbox); have n2_ := Aside0.mk ((by rw [hg]; exact (below_size (by repeat (first | (with_reducible first | exact HB.out | apply below_alloc | apply pw_below_drewN | apply below_drew1) | exact HB.out))) : w.heap.size ≤ gb101)); have n3_ := Aside0.mk ((by rw [hg]; exact (below_size (by repeat (first | (with_reducible first | exact HB.out | apply below_alloc | apply pw_below_drewN | apply below_drew1) | exact HB.out))) : w.heap.size ≤ gb101)); clear HB; have HB := n0_; have BK101 := n1_; have GW101 := n2_; have GE101 := n3_; clear n0_ n1_ n2_ n3_; clear hb hbox hg; have hcz13_0 : w12.cell? ⟨gb101, 0, none⟩ = some (.bool false) := bc BK101 0; have hcz13_1 : w12.cell? ⟨gb101, 1, none⟩ = some (.bool false) := bc BK101 1; have hcz13_2 : w12.cell? ⟨gb101, 2, none⟩ = some (.bool false) := bc BK101 2; have hcz13_3 : w12.cell? ⟨gb101, 3, none⟩ = some (.bool false) := bc BK101 3; have hcz13_4 : w12.cell? ⟨gb101, 4, none⟩ = some (.bool false) := bc BK101 4; have hcz13_5 : w12.cell? ⟨gb101, 5, none⟩ = some (.bool false) := bc BK101 5; have hfz13_0 := blk_frozen BK101.out 0; have hfz13_1 := blk_frozen BK101.out 1; have hfz13_2 := blk_frozen BK101.out 2; have hfz13_3 := blk_frozen BK101.out 3; have hfz13_4 := blk_frozen BK101.out 4; have hfz13_5 := blk_frozen BK101.out 5))
          refine bodyPost_ret (results_ct rfl _ _ gb101 66 #[.bool true, .bool true, .bool true, .bool true, .bool false, .bool false] (0, 0) _ rfl (by (with_reducible repeat (first | refine blk_drewN ?_ _ | refine blk_drew ?_ | refine blk_alloc ?_ _)); refine blk_put (cs := #[.bool true, .bool true, .bool true, .bool true, .bool false, .bool false]) ?_ 5 _ rfl; (with_reducible repeat (first | refine blk_drewN ?_ _ | refine blk_drew ?_ | refine blk_alloc ?_ _)); refine blk_put (cs := #[.bool true, .bool true, .bool true, .bool true, .bool false, .bool false]) ?_ 4 _ rfl; (with_reducible repeat (first | refine blk_drewN ?_ _ | refine blk_drew ?_ | refine blk_alloc ?_ _)); refine blk_put (cs := #[.bool true, .bool true, .bool true, .bool false, .bool false, .bool false]) ?_ 3 _ rfl; (with_reducible repeat (first | refine blk_drewN ?_ _ | refine blk_drew ?_ | refine blk_alloc ?_ _)); refine blk_put (cs := #[.bool true, .bool true, .bool false, .bool false, .bool false, .bool false]) ?_ 2 _ rfl; (with_reducible repeat (first | refine blk_drewN ?_ _ | refine blk_drew ?_ | refine blk_alloc ?_ _)); refine blk_put (cs := #[.bool true, .bool false, .bool false, .bool false, .bool false, .bool false]) ?_ 1 _ rfl; (with_reducible repeat (first | refine blk_drewN ?_ _ | refine blk_drew ?_ | refine blk_alloc ?_ _)); refine blk_put (cs := #[.bool false, .bool false, .bool false, .bool false, .bool false, .bool false]) ?_ 0 _ rfl; (with_reducible repeat (first | refine blk_drewN ?_ _ | refine blk_drew ?_ | refine blk_alloc ?_ _)); exact BK101.out) Tryd.underlying66 rfl (by kernel_rfl)) rfl ?_
          exact ⟨by first | rfl | (simp [errW_none, errW_some] <;> rfl) | (simp [*, errW_none, errW_some] <;> rfl), by repeat (first | (with_reducible first | exact HB.out | apply below_alloc | apply pw_below_drewN | apply below_drew1 | refine below_set ?_ GE101.out) | exact HB.out)⟩
        · rw [if_neg c11] at H
          have c11b0 : (a0 == 4) = false := beq_eq_false_iff_ne.mpr c11
          have c11b1 : (a0 != 4) = true := bne_iff_ne.mpr c11
          have HC14 := Aside0.mk H
          clear H
          go_enter Tryd.func30, Tryd.ntmps30
          go_upto_if 17 with (first | ((with_reducible refine gate_dst (N := 2) rfl ?_); refine box_event ?hg (N := 2) ?hd (cs := #[.bool false, .bool false, .bool false, .bool false, .bool false, .bool false]) (t := 66) ?hr ?_; (case hd => rfl); (case hg => rfl); (case hr => first | (go_simp; done) | (go_simp; rfl)); intro gb101 hg w15 hbox hb; have n0_ := Aside0.mk (below_step (by repeat (first | (with_reducible first | exact HB.out | apply below_alloc | apply pw_below_drewN | apply below_drew1) | exact HB.out)) hb); have n1_ := Aside0.mk (hbox); have n2_ := Aside0.mk ((by rw [hg]; exact (below_size (by repeat (first | (with_reducible first | exact HB.out | apply below_alloc | apply pw_below_drewN | apply below_drew1) | exact HB.out))) : w.heap.size ≤ gb101)); have n3_ := Aside0.mk ((by rw [hg]; exact (below_size (by repeat (first | (with_reducible first | exact HB.out | apply below_alloc | apply pw_below_drewN | apply below_drew1) | exact HB.out))) : w.heap.size ≤ gb101)); clear HB; have HB := n0_; have BK101 := n1_; have GW101 := n2_; have GE101 := n3_; clear n0_ n1_ n2_ n3_; clear hb hbox hg))
          (try simp only [Act.put, List.setIfInBounds_toArray, List.set_cons_zero, List.set_cons_succ])
          go_cut [17] (fun v17 wc => ∃ (kq : Nat) (x17_13 : Bool), v17 = .bool x17_13 ∧ Aside0 (event_shape.j0 kq a0 x17_13 = some (r1, r2, r3, r4, r5, r6, r7)) ∧ Aside0 (kq ≤ k) ∧ Aside0 (wc.heap[gb101]? = some (.cells #[.bool false, .bool false, .bool false, .bool false, .bool false, .bool false] 66 (0, 0))) ∧ Aside0 (Below w.heap.size w wc))
          case first =>
            have H := HC14.out
            clear HC14
            by_cases c16 : a0 = 5
            · rw [if_pos c16] at H
              have c16b0 : (a0 == 5) = true := beq_iff_eq.mpr c16
              have c16b1 : (a0 != 5) = false := bne_eq_false_iff_eq.mpr c16
              clear c16
              (first | rw [c16b0] | (simp only [i64_w, i32_w]; rw [c16b0]) | rw [c16b1] | skip)
              have H' := Aside0.mk H
              clear H
              go_wp2
              go_meet
              case rel => exact ⟨_, ((a0 == 5)), (by first | rfl | (simp; done) | (simp [*]; done)), H', ⟨by first | omega | exact Nat.le_refl _⟩, ⟨by (with_reducible repeat (first | refine blk_drewN ?_ _ | refine blk_drew ?_ | refine blk_alloc ?_ _)); exact BK101.out⟩, ⟨by repeat (first | (with_reducible first | exact HB.out | apply below_alloc | apply pw_below_drewN | apply below_drew1 | refine below_set ?_ GE101.out) | exact HB.out)⟩⟩
            · rw [if_neg c16] at H
              have c16b0 : (a0 == 5) = false := beq_eq_false_iff_ne.mpr c16
              have c16b1 : (a0 != 5) = true := bne_iff_ne.mpr c16
              (first | rw [c16b0] | (simp only [i64_w, i32_w]; rw [c16b0]) | rw [c16b1] | skip)
              by_cases c17 : a0 = 6
              · rw [if_pos c17] at H
                have c17b0 : (a0 == 6) = true := beq_iff_eq.mpr c17
                have c17b1 : (a0 != 6) = false := bne_eq_false_iff_eq.mpr c17
                clear c17
                have H' := Aside0.mk H
                clear H
                go_wp2
                go_meet
                case rel => exact ⟨_, ((a0 == 6)), (by first | rfl | (simp; done) | (simp [*]; done)), H', ⟨by first | omega | exact Nat.le_refl _⟩, ⟨by (with_reducible repeat (first | refine blk_drewN ?_ _ | refine blk_drew ?_ | refine blk_alloc ?_ _)); exact BK101.out⟩, ⟨by repeat (first | (with_reducible first | exact HB.out | apply below_alloc | apply pw_below_drewN | apply below_drew1 | refine below_set ?_ GE101.out) | exact HB.out)⟩⟩
              · rw [if_neg c17] at H
                have c17b0 : (a0 == 6) = false := beq_eq_false_iff_ne.mpr c17
                have c17b1 : (a0 != 6) = true := bne_iff_ne.mpr c17
                by_cases c18 : a0 = 7
                · rw [if_pos c18] at H
                  have c18b0 : (a0 == 7) = true := beq_iff_eq.mpr c18
                  have c18b1 : (a0 != 7) = false := bne_eq_false_iff_eq.mpr c18
                  clear c18
                  have H' := Aside0.mk H
                  clear H
                  go_wp2
                  go_meet
                  case rel => exact ⟨_, ((a0 == 7)), (by first | rfl | (simp; done) | (simp [*]; done)), H', ⟨by first | omega | exact Nat.le_refl _⟩, ⟨by (with_reducible repeat (first | refine blk_drewN ?_ _ | refine blk_drew ?_ | refine blk_alloc ?_ _)); exact BK101.out⟩, ⟨by repeat (first | (with_reducible first | exact HB.out | apply below_alloc | apply pw_below_drewN | apply below_drew1 | refine below_set ?_ GE101.out) | exact HB.out)⟩⟩
                · rw [if_neg c18] at H
                  have c18b0 : (a0 == 7) = false := beq_eq_false_iff_ne.mpr c18
                  have c18b1 : (a0 != 7) = true := bne_iff_ne.mpr c18
                  have H' := Aside0.mk H
                  clear H
                  go_wp2
                  go_meet
                  case rel => exact ⟨_, ((a0 == 8)), (by first | rfl | (simp; done) | (simp [*]; done)), H', ⟨by first | omega | exact Nat.le_refl _⟩, ⟨by (with_reducible repeat (first | refine blk_drewN ?_ _ | refine blk_drew ?_ | refine blk_alloc ?_ _)); exact BK101.out⟩, ⟨by repeat (first | (with_reducible first | exact HB.out | apply below_alloc | apply pw_below_drewN | apply below_drew1 | refine below_set ?_ GE101.out) | exact HB.out)⟩⟩
          case rest =>
            clear HC14
            try clear c1
            try clear c2
            try clear c2b0
            try clear c2b1
            try clear p2
            try clear c3
            try clear c5
            try clear c5b0
            try clear c5b1
            try clear c8
            try clear c8b0
            try clear c8b1
            try clear c11
            try clear c11b0
            try clear c11b1
            try clear c16
            try clear c16b0
            try clear c16b1
            try clear c17
            try clear c17b0
            try clear c17b1
            try clear c18
            try clear c18b0
            try clear c18b1
            try clear hcz10_0
            try clear hcz10_1
            try clear hcz10_2
            try clear hcz10_3
            try clear hcz10_4
            try clear hcz10_5
            try clear hcz13_0
            try clear hcz13_1
            try clear hcz13_2
            try clear hcz13_3
            try clear hcz13_4
            try clear hcz13_5
            try clear hcz4_0
            try clear hcz4_1
            try clear hcz4_2
            try clear hcz4_3
            try clear hcz4_4
            try clear hcz4_5
            try clear hcz7_0
            try clear hcz7_1
            try clear hcz7_2
            try clear hcz7_3
            try clear hcz7_4
            try clear hcz7_5
            try clear hfz10_0
            try clear hfz10_1
            try clear hfz10_2
            try clear hfz10_3
            try clear hfz10_4
            try clear hfz10_5
            try clear hfz13_0
            try clear hfz13_1
            try clear hfz13_2
            try clear hfz13_3
            try clear hfz13_4
            try clear hfz13_5
            try clear hfz4_0
            try clear hfz4_1
            try clear hfz4_2
            try clear hfz4_3
            try clear hfz4_4
            try clear hfz4_5
            try clear hfz7_0
            try clear hfz7_1
            try clear hfz7_2
            try clear hfz7_3
            try clear hfz7_4
            try clear hfz7_5
            obtain ⟨kq, x17_13, rfl, HA, HJ13, BK101, HB⟩ := hcut
            cases kq with
            | zero => exact absurd HA.out (by simp [event_shape.j0])
            | succ kj13 =>
              have H := HA.out
              clear HA
              simp only [event_shape.j0] at H
              by_cases c19 : x17_13 = true
              · subst c19
                have H1 : (some (true, false, false, false, false, false, true)) = some (r1, r2, r3, r4, r5, r6, r7) := by rw [if_pos rfl] at H; exact H
                clear H
                have H := H1
                clear H1
                simp only [Option.some.injEq, Prod.mk.injEq] at H
                obtain ⟨rfl, rfl, rfl, rfl, rfl, rfl, rfl⟩ := H
                have hcz20_0 : wc.cell? ⟨gb101, 0, none⟩ = some (.bool false) := bc BK101 0
                have hcz20_1 : wc.cell? ⟨gb101, 1, none⟩ = some (.bool false) := bc BK101 1
                have hcz20_2 : wc.cell? ⟨gb101, 2, none⟩ = some (.bool false) := bc BK101 2
                have hcz20_3 : wc.cell? ⟨gb101, 3, none⟩ = some (.bool false) := bc BK101 3
                have hcz20_4 : wc.cell? ⟨gb101, 4, none⟩ = some (.bool false) := bc BK101 4
                have hcz20_5 : wc.cell? ⟨gb101, 5, none⟩ = some (.bool false) := bc BK101 5
                have hfz20_0 := blk_frozen BK101.out 0
                have hfz20_1 := blk_frozen BK101.out 1
                have hfz20_2 := blk_frozen BK101.out 2
                have hfz20_3 := blk_frozen BK101.out 3
                have hfz20_4 := blk_frozen BK101.out 4
                have hfz20_5 := blk_frozen BK101.out 5
                go_wp2
                refine bodyPost_ret (results_ct rfl _ _ gb101 66 #[.bool true, .bool false, .bool false, .bool false, .bool false, .bool false] (0, 0) _ rfl (by (with_reducible repeat (first | refine blk_drewN ?_ _ | refine blk_drew ?_ | refine blk_alloc ?_ _)); refine blk_put (cs := #[.bool true, .bool false, .bool false, .bool false, .bool false, .bool false]) ?_ 5 _ rfl; (with_reducible repeat (first | refine blk_drewN ?_ _ | refine blk_drew ?_ | refine blk_alloc ?_ _)); refine blk_put (cs := #[.bool true, .bool false, .bool false, .bool false, .bool false, .bool false]) ?_ 4 _ rfl; (with_reducible repeat (first | refine blk_drewN ?_ _ | refine blk_drew ?_ | refine blk_alloc ?_ _)); refine blk_put (cs := #[.bool true, .bool false, .bool false, .bool false, .bool false, .bool false]) ?_ 3 _ rfl; (with_reducible repeat (first | refine blk_drewN ?_ _ | refine blk_drew ?_ | refine blk_alloc ?_ _)); refine blk_put (cs := #[.bool true, .bool false, .bool false, .bool false, .bool false, .bool false]) ?_ 2 _ rfl; (with_reducible repeat (first | refine blk_drewN ?_ _ | refine blk_drew ?_ | refine blk_alloc ?_ _)); refine blk_put (cs := #[.bool true, .bool false, .bool false, .bool false, .bool false, .bool false]) ?_ 1 _ rfl; (with_reducible repeat (first | refine blk_drewN ?_ _ | refine blk_drew ?_ | refine blk_alloc ?_ _)); refine blk_put (cs := #[.bool false, .bool false, .bool false, .bool false, .bool false, .bool false]) ?_ 0 _ rfl; (with_reducible repeat (first | refine blk_drewN ?_ _ | refine blk_drew ?_ | refine blk_alloc ?_ _)); exact BK101.out) Tryd.underlying66 rfl (by kernel_rfl)) rfl ?_
                exact ⟨by first | rfl | (simp [errW_none, errW_some] <;> rfl) | (simp [*, errW_none, errW_some] <;> rfl), by repeat (first | (with_reducible first | exact HB.out | apply below_alloc | apply pw_below_drewN | apply below_drew1 | refine below_set ?_ GE101.out) | exact HB.out)⟩
              · replace c19 := Bool.eq_false_iff.mpr c19
                subst c19
                have H1 : (if a0 = 9 then (some (false, false, false, false, false, false, true)) else (if a0 = 10 then (event_shape.j1 kj13 (a0 == 10)) else (if a0 = 11 then (event_shape.j1 kj13 (a0 == 11)) else (if a0 = 12 then (event_shape.j1 kj13 (a0 == 12)) else (event_shape.j1 kj13 (a0 == 13)))))) = some (r1, r2, r3, r4, r5, r6, r7) := by rw [if_neg (show ¬ (false = true) by decide)] at H; exact H
                clear H
                have H := H1
                clear H1
                by_cases c21 : a0 = 9
                · rw [if_pos c21] at H
                  have c21b0 : (a0 == 9) = true := beq_iff_eq.mpr c21
                  have c21b1 : (a0 != 9) = false := bne_eq_false_iff_eq.mpr c21
                  clear c21
                  simp only [Option.some.injEq, Prod.mk.injEq] at H
                  obtain ⟨rfl, rfl, rfl, rfl, rfl, rfl, rfl⟩ := H
                  have hcz22_0 : wc.cell? ⟨gb101, 0, none⟩ = some (.bool false) := bc BK101 0
                  have hcz22_1 : wc.cell? ⟨gb101, 1, none⟩ = some (.bool false) := bc BK101 1
                  have hcz22_2 : wc.cell? ⟨gb101, 2, none⟩ = some (.bool false) := bc BK101 2
                  have hcz22_3 : wc.cell? ⟨gb101, 3, none⟩ = some (.bool false) := bc BK101 3
                  have hcz22_4 : wc.cell? ⟨gb101, 4, none⟩ = some (.bool false) := bc BK101 4
                  have hcz22_5 : wc.cell? ⟨gb101, 5, none⟩ = some (.bool false) := bc BK101 5
                  have hfz22_0 := blk_frozen BK101.out 0
                  have hfz22_1 := blk_frozen BK101.out 1
                  have hfz22_2 := blk_frozen BK101.out 2
                  have hfz22_3 := blk_frozen BK101.out 3
                  have hfz22_4 := blk_frozen BK101.out 4
                  have hfz22_5 := blk_frozen BK101.out 5
                  go_wp2
                  refine bodyPost_ret (results_ct rfl _ _ gb101 66 #[.bool false, .bool false, .bool false, .bool false, .bool false, .bool false] (0, 0) _ rfl (by (with_reducible repeat (first | refine blk_drewN ?_ _ | refine blk_drew ?_ | refine blk_alloc ?_ _)); refine blk_put (cs := #[.bool false, .bool false, .bool false, .bool false, .bool false, .bool false]) ?_ 5 _ rfl; (with_reducible repeat (first | refine blk_drewN ?_ _ | refine blk_drew ?_ | refine blk_alloc ?_ _)); refine blk_put (cs := #[.bool false, .bool false, .bool false, .bool false, .bool false, .bool false]) ?_ 4 _ rfl; (with_reducible repeat (first | refine blk_drewN ?_ _ | refine blk_drew ?_ | refine blk_alloc ?_ _)); refine blk_put (cs := #[.bool false, .bool false, .bool false, .bool false, .bool false, .bool false]) ?_ 3 _ rfl; (with_reducible repeat (first | refine blk_drewN ?_ _ | refine blk_drew ?_ | refine blk_alloc ?_ _)); refine blk_put (cs := #[.bool false, .bool false, .bool false, .bool false, .bool false, .bool false]) ?_ 2 _ rfl; (with_reducible repeat (first | refine blk_drewN ?_ _ | refine blk_drew ?_ | refine blk_alloc ?_ _)); refine blk_put (cs := #[.bool false, .bool false, .bool false, .bool false, .bool false, .bool false]) ?_ 1 _ rfl; (with_reducible repeat (first | refine blk_drewN ?_ _ | refine blk_drew ?_ | refine blk_alloc ?_ _)); refine blk_put (cs := #[.bool false, .bool false, .bool false, .bool false, .bool false, .bool false]) ?_ 0 _ rfl; (with_reducible repeat (first | refine blk_drewN ?_ _ | refine blk_drew ?_ | refine blk_alloc ?_ _)); exact BK101.out) Tryd.underlying66 rfl (by kernel_rfl)) rfl ?_
                  exact ⟨by first | rfl | (simp [errW_none, errW_some] <;> rfl) | (simp [*, errW_none, errW_some] <;> rfl), by repeat (first | (with_reducible first | exact HB.out | apply below_alloc | apply pw_below_drewN | apply below_drew1 | refine below_set ?_ GE101.out) | exact HB.out)⟩
                · rw [if_neg c21] at H
                  have c21b0 : (a0 == 9) = false := beq_eq_false_iff_ne.mpr c21
                  have c21b1 : (a0 != 9) = true := bne_iff_ne.mpr c21
                  have HC23 := Aside0.mk H
                  clear H
                  go_upto_if 26 with (fail)
                  go_cut [26] (fun v26 wc => ∃ (kq : Nat) (x26_22 : Bool), v26 = .bool x26_22 ∧ Aside0 (event_shape.j1 kq x26_22 = some (r1, r2, r3, r4, r5, r6, r7)) ∧ Aside0 (kq ≤ kj13) ∧ Aside0 (wc.heap[gb101]? = some (.cells #[.bool false, .bool false, .bool false, .bool false, .bool false, .bool false] 66 (0, 0))) ∧ Aside0 (Below w.heap.size w wc))
                  case first =>
                    have H := HC23.out
                    clear HC23
                    by_cases c24 : a0 = 10
                    · rw [if_pos c24] at H
                      have c24b0 : (a0 == 10) = true := beq_iff_eq.mpr c24
                      have c24b1 : (a0 != 10) = false := bne_eq_false_iff_eq.mpr c24
                      clear c24
                      (first | rw [c24b0] | (simp only [i64_w, i32_w]; rw [c24b0]) | rw [c24b1] | skip)
                      have H' := Aside0.mk H
                      clear H
                      go_wp2
                      go_meet
                      case rel => exact ⟨_, ((a0 == 10)), (by first | rfl | (simp; done) | (simp [*]; done)), H', ⟨by have := HJ13.out; first | omega | exact Nat.le_refl _⟩, ⟨by (with_reducible repeat (first | refine blk_drewN ?_ _ | refine blk_drew ?_ | refine blk_alloc ?_ _)); exact BK101.out⟩, ⟨by repeat (first | (with_reducible first | exact HB.out | apply below_alloc | apply pw_below_drewN | apply below_drew1 | refine below_set ?_ GE101.out) | exact HB.out)⟩⟩
                    · rw [if_neg c24] at H
                      have c24b0 : (a0 == 10) = false := beq_eq_false_iff_ne.mpr c24
                      have c24b1 : (a0 != 10) = true := bne_iff_ne.mpr c24
                      (first | rw [c24b0] | (simp only [i64_w, i32_w]; rw [c24b0]) | rw [c24b1] | skip)
                      by_cases c25 : a0 = 11
                      · rw [if_pos c25] at H
                        have c25b0 : (a0 == 11) = true := beq_iff_eq.mpr c25
                        have c25b1 : (a0 != 11) = false := bne_eq_false_iff_eq.mpr c25
                        clear c25
                        have H' := Aside0.mk H
                        clear H
                        go_wp2
                        go_meet
                        case rel => exact ⟨_, ((a0 == 11)), (by first | rfl | (simp; done) | (simp [*]; done)), H', ⟨by have := HJ13.out; first | omega | exact Nat.le_refl _⟩, ⟨by (with_reducible repeat (first | refine blk_drewN ?_ _ | refine blk_drew ?_ | refine blk_alloc ?_ _)); exact BK101.out⟩, ⟨by repeat (first | (with_reducible first | exact HB.out | apply below_alloc | apply pw_below_drewN | apply below_drew1 | refine below_set ?_ GE101.out) | exact HB.out)⟩⟩
                      · rw [if_neg c25] at H
                        have c25b0 : (a0 == 11) = false := beq_eq_false_iff_ne.mpr c25
                        have c25b1 : (a0 != 11) = true := bne_iff_ne.mpr c25
                        by_cases c26 : a0 = 12
                        · rw [if_pos c26] at H
                          have c26b0 : (a0 == 12) = true := beq_iff_eq.mpr c26
                          have c26b1 : (a0 != 12) = false := bne_eq_false_iff_eq.mpr c26
                          clear c26
                          have H' := Aside0.mk H
                          clear H
                          go_wp2
                          go_meet
                          case rel => exact ⟨_, ((a0 == 12)), (by first | rfl | (simp; done) | (simp [*]; done)), H', ⟨by have := HJ13.out; first | omega | exact Nat.le_refl _⟩, ⟨by (with_reducible repeat (first | refine blk_drewN ?_ _ | refine blk_drew ?_ | refine blk_alloc ?_ _)); exact BK101.out⟩, ⟨by repeat (first | (with_reducible first | exact HB.out | apply below_alloc | apply pw_below_drewN | apply below_drew1 | refine below_set ?_ GE101.out) | exact HB.out)⟩⟩
                        · rw [if_neg c26] at H
                          have c26b0 : (a0 == 12) = false := beq_eq_false_iff_ne.mpr c26
                          have c26b1 : (a0 != 12) = true := bne_iff_ne.mpr c26
                          have H' := Aside0.mk H
                          clear H
                          go_wp2
                          go_meet
                          case rel => exact ⟨_, ((a0 == 13)), (by first | rfl | (simp; done) | (simp [*]; done)), H', ⟨by have := HJ13.out; first | omega | exact Nat.le_refl _⟩, ⟨by (with_reducible repeat (first | refine blk_drewN ?_ _ | refine blk_drew ?_ | refine blk_alloc ?_ _)); exact BK101.out⟩, ⟨by repeat (first | (with_reducible first | exact HB.out | apply below_alloc | apply pw_below_drewN | apply below_drew1 | refine below_set ?_ GE101.out) | exact HB.out)⟩⟩
                  case rest =>
                    clear HC23
                    try clear c1
                    try clear c2
                    try clear c2b0
                    try clear c2b1
                    try clear p2
                    try clear c3
                    try clear c5
                    try clear c5b0
                    try clear c5b1
                    try clear c8
                    try clear c8b0
                    try clear c8b1
                    try clear c11
                    try clear c11b0
                    try clear c11b1
                    try clear c16
                    try clear c16b0
                    try clear c16b1
                    try clear c17
                    try clear c17b0
                    try clear c17b1
                    try clear c18
                    try clear c18b0
                    try clear c18b1
                    try clear c19
                    try clear c21
                    try clear c21b0
                    try clear c21b1
                    try clear c24
                    try clear c24b0
                    try clear c24b1
                    try clear c25
                    try clear c25b0
                    try clear c25b1
                    try clear c26
                    try clear c26b0
                    try clear c26b1
                    try clear hcz10_0
                    try clear hcz10_1
                    try clear hcz10_2
                    try clear hcz10_3
                    try clear hcz10_4
                    try clear hcz10_5
                    try clear hcz13_0
                    try clear hcz13_1
                    try clear hcz13_2
                    try clear hcz13_3
                    try clear hcz13_4
                    try clear hcz13_5
                    try clear hcz20_0
                    try clear hcz20_1
                    try clear hcz20_2
                    try clear hcz20_3
                    try clear hcz20_4
                    try clear hcz20_5
                    try clear hcz22_0
                    try clear hcz22_1
                    try clear hcz22_2
                    try clear hcz22_3
                    try clear hcz22_4
                    try clear hcz22_5
                    try clear hcz4_0
                    try clear hcz4_1
                    try clear hcz4_2
                    try clear hcz4_3
                    try clear hcz4_4
                    try clear hcz4_5
                    try clear hcz7_0
                    try clear hcz7_1
                    try clear hcz7_2
                    try clear hcz7_3
                    try clear hcz7_4
                    try clear hcz7_5
                    try clear hfz10_0
                    try clear hfz10_1
                    try clear hfz10_2
                    try clear hfz10_3
                    try clear hfz10_4
                    try clear hfz10_5
                    try clear hfz13_0
                    try clear hfz13_1
                    try clear hfz13_2
                    try clear hfz13_3
                    try clear hfz13_4
                    try clear hfz13_5
                    try clear hfz20_0
                    try clear hfz20_1
                    try clear hfz20_2
                    try clear hfz20_3
                    try clear hfz20_4
                    try clear hfz20_5
                    try clear hfz22_0
                    try clear hfz22_1
                    try clear hfz22_2
                    try clear hfz22_3
                    try clear hfz22_4
                    try clear hfz22_5
                    try clear hfz4_0
                    try clear hfz4_1
                    try clear hfz4_2
                    try clear hfz4_3
                    try clear hfz4_4
                    try clear hfz4_5
                    try clear hfz7_0
                    try clear hfz7_1
                    try clear hfz7_2
                    try clear hfz7_3
                    try clear hfz7_4
                    try clear hfz7_5
                    try clear p2
                    obtain ⟨kq, x26_22, rfl, HA, HJ22, BK101, HB⟩ := hcut
                    cases kq with
                    | zero => exact absurd HA.out (by simp [event_shape.j1])
                    | succ kj22 =>
                      have H := HA.out
                      clear HA
                      simp only [event_shape.j1] at H
                      by_cases c27 : x26_22 = true
                      · subst c27
                        have H1 : (some (false, true, false, false, false, false, true)) = some (r1, r2, r3, r4, r5, r6, r7) := by rw [if_pos rfl] at H; exact H
                        clear H
                        have H := H1
                        clear H1
                        simp only [Option.some.injEq, Prod.mk.injEq] at H
                        obtain ⟨rfl, rfl, rfl, rfl, rfl, rfl, rfl⟩ := H
                        have hcz28_0 : wc.cell? ⟨gb101, 0, none⟩ = some (.bool false) := bc BK101 0
                        have hcz28_1 : wc.cell? ⟨gb101, 1, none⟩ = some (.bool false) := bc BK101 1
                        have hcz28_2 : wc.cell? ⟨gb101, 2, none⟩ = some (.bool false) := bc BK101 2
                        have hcz28_3 : wc.cell? ⟨gb101, 3, none⟩ = some (.bool false) := bc BK101 3
                        have hcz28_4 : wc.cell? ⟨gb101, 4, none⟩ = some (.bool false) := bc BK101 4
                        have hcz28_5 : wc.cell? ⟨gb101, 5, none⟩ = some (.bool false) := bc BK101 5
                        have hfz28_0 := blk_frozen BK101.out 0
                        have hfz28_1 := blk_frozen BK101.out 1
                        have hfz28_2 := blk_frozen BK101.out 2
                        have hfz28_3 := blk_frozen BK101.out 3
                        have hfz28_4 := blk_frozen BK101.out 4
                        have hfz28_5 := blk_frozen BK101.out 5
                        go_wp2
                        refine bodyPost_ret (results_ct rfl _ _ gb101 66 #[.bool false, .bool true, .bool false, .bool false, .bool false, .bool false] (0, 0) _ rfl (by (with_reducible repeat (first | refine blk_drewN ?_ _ | refine blk_drew ?_ | refine blk_alloc ?_ _)); refine blk_put (cs := #[.bool false, .bool true, .bool false, .bool false, .bool false, .bool false]) ?_ 5 _ rfl; (with_reducible repeat (first | refine blk_drewN ?_ _ | refine blk_drew ?_ | refine blk_alloc ?_ _)); refine blk_put (cs := #[.bool false, .bool true, .bool false, .bool false, .bool false, .bool false]) ?_ 4 _ rfl; (with_reducible repeat (first | refine blk_drewN ?_ _ | refine blk_drew ?_ | refine blk_alloc ?_ _)); refine blk_put (cs := #[.bool false, .bool true, .bool false, .bool false, .bool false, .bool false]) ?_ 3 _ rfl; (with_reducible repeat (first | refine blk_drewN ?_ _ | refine blk_drew ?_ | refine blk_alloc ?_ _)); refine blk_put (cs := #[.bool false, .bool true, .bool false, .bool false, .bool false, .bool false]) ?_ 2 _ rfl; (with_reducible repeat (first | refine blk_drewN ?_ _ | refine blk_drew ?_ | refine blk_alloc ?_ _)); refine blk_put (cs := #[.bool false, .bool false, .bool false, .bool false, .bool false, .bool false]) ?_ 1 _ rfl; (with_reducible repeat (first | refine blk_drewN ?_ _ | refine blk_drew ?_ | refine blk_alloc ?_ _)); refine blk_put (cs := #[.bool false, .bool false, .bool false, .bool false, .bool false, .bool false]) ?_ 0 _ rfl; (with_reducible repeat (first | refine blk_drewN ?_ _ | refine blk_drew ?_ | refine blk_alloc ?_ _)); exact BK101.out) Tryd.underlying66 rfl (by kernel_rfl)) rfl ?_
                        exact ⟨by first | rfl | (simp [errW_none, errW_some] <;> rfl) | (simp [*, errW_none, errW_some] <;> rfl), by repeat (first | (with_reducible first | exact HB.out | apply below_alloc | apply pw_below_drewN | apply below_drew1 | refine below_set ?_ GE101.out) | exact HB.out)⟩
                      · replace c27 := Bool.eq_false_iff.mpr c27
                        subst c27
                        have H1 : (some (false, false, false, false, false, false, false)) = some (r1, r2, r3, r4, r5, r6, r7) := by rw [if_neg (show ¬ (false = true) by decide)] at H; exact H
                        clear H
                        have H := H1
                        clear H1
                        simp only [Option.some.injEq, Prod.mk.injEq] at H
                        obtain ⟨rfl, rfl, rfl, rfl, rfl, rfl, rfl⟩ := H
                        have hcz29_0 : wc.cell? ⟨gb101, 0, none⟩ = some (.bool false) := bc BK101 0
                        have hcz29_1 : wc.cell? ⟨gb101, 1, none⟩ = some (.bool false) := bc BK101 1
                        have hcz29_2 : wc.cell? ⟨gb101, 2, none⟩ = some (.bool false) := bc BK101 2
                        have hcz29_3 : wc.cell? ⟨gb101, 3, none⟩ = some (.bool false) := bc BK101 3
                        have hcz29_4 : wc.cell? ⟨gb101, 4, none⟩ = some (.bool false) := bc BK101 4
                        have hcz29_5 : wc.cell? ⟨gb101, 5, none⟩ = some (.bool false) := bc BK101 5
                        have hfz29_0 := blk_frozen BK101.out 0
                        have hfz29_1 := blk_frozen BK101.out 1
                        have hfz29_2 := blk_frozen BK101.out 2
                        have hfz29_3 := blk_frozen BK101.out 3
                        have hfz29_4 := blk_frozen BK101.out 4
                        have hfz29_5 := blk_frozen BK101.out 5
                        go_wp2
                        refine bodyPost_ret (results_ct rfl _ _ gb101 66 #[.bool false, .bool false, .bool false, .bool false, .bool false, .bool false] (0, 0) _ rfl (by (with_reducible repeat (first | refine blk_drewN ?_ _ | refine blk_drew ?_ | refine blk_alloc ?_ _)); refine blk_put (cs := #[.bool false, .bool false, .bool false, .bool false, .bool false, .bool false]) ?_ 5 _ rfl; (with_reducible repeat (first | refine blk_drewN ?_ _ | refine blk_drew ?_ | refine blk_alloc ?_ _)); refine blk_put (cs := #[.bool false, .bool false, .bool false, .bool false, .bool false, .bool false]) ?_ 4 _ rfl; (with_reducible repeat (first | refine blk_drewN ?_ _ | refine blk_drew ?_ | refine blk_alloc ?_ _)); refine blk_put (cs := #[.bool false, .bool false, .bool false, .bool false, .bool false, .bool false]) ?_ 3 _ rfl; (with_reducible repeat (first | refine blk_drewN ?_ _ | refine blk_drew ?_ | refine blk_alloc ?_ _)); refine blk_put (cs := #[.bool false, .bool false, .bool false, .bool false, .bool false, .bool false]) ?_ 2 _ rfl; (with_reducible repeat (first | refine blk_drewN ?_ _ | refine blk_drew ?_ | refine blk_alloc ?_ _)); refine blk_put (cs := #[.bool false, .bool false, .bool false, .bool false, .bool false, .bool false]) ?_ 1 _ rfl; (with_reducible repeat (first | refine blk_drewN ?_ _ | refine blk_drew ?_ | refine blk_alloc ?_ _)); refine blk_put (cs := #[.bool false, .bool false, .bool false, .bool false, .bool false, .bool false]) ?_ 0 _ rfl; (with_reducible repeat (first | refine blk_drewN ?_ _ | refine blk_drew ?_ | refine blk_alloc ?_ _)); exact BK101.out) Tryd.underlying66 rfl (by kernel_rfl)) rfl ?_
                        exact ⟨by first | rfl | (simp [errW_none, errW_some] <;> rfl) | (simp [*, errW_none, errW_some] <;> rfl), by repeat (first | (with_reducible first | exact HB.out | apply below_alloc | apply pw_below_drewN | apply below_drew1 | refine below_set ?_ GE101.out) | exact HB.out)⟩
end

section
theorem eqA23 (d : Nat) (w : World) (x0 y0 : ByteArray) (x1 y1 : Int) (x2 y2 : Int) (x3 y3 : Int) (x4 y4 : Int) (x5 y5 : Int) :
    (Op.equalIn (d + 2) 23 (.agg #[.string x0, .int .i64 x1, .int .i64 x2, .int .i64 x3, .int .i64 x4, .int .i64 x5]) (.agg #[.string y0, .int .i64 y1, .int .i64 y2, .int .i64 y3, .int .i64 y4, .int .i64 y5])).run Tryd.prog w = .ok (x0.toList == y0.toList && (x1 == y1 && (x2 == y2 && (x3 == y3 && (x4 == y4 && (x5 == y5)))))) w := by
  refine eqA_of Tryd.underlying23 (by kernel_rfl) ?_
  refine eqf_cons (by rfl) (by go_simp; rfl) (by go_simp; rfl) (by go_simp) ?_
  refine eqf_cons (by rfl) (by go_simp; rfl) (by go_simp; rfl) (by go_simp) ?_
  refine eqf_cons (by rfl) (by go_simp; rfl) (by go_simp; rfl) (by go_simp) ?_
  refine eqf_cons (by rfl) (by go_simp; rfl) (by go_simp; rfl) (by go_simp) ?_
  refine eqf_cons (by rfl) (by go_simp; rfl) (by go_simp; rfl) (by go_simp) ?_
  exact eqf_last (by rfl) (by go_simp; rfl) (by go_simp; rfl) (by go_simp)
end
attribute [local go_sem high] eqA23

section
/-! ### event_none_int: function 31 -/
def event_none_int.f (a0 : Bool) (a1 : Int) : Option (Bool) := if a0 = true then (some true) else (some (a1 == 0))
set_option maxHeartbeats 8000000 in
set_option maxRecDepth 100000 in
theorem event_none_int.calls (a0 : Bool) (a1 : Int) (r : Bool) (w : World) (h : event_none_int.f a0 a1 = some r) :
    Calls Tryd.prog 31 #[.bool a0, .int .i64 a1] w fun e w' => e = .returned (.bool r) ∧ Drawn0 w w' := by
  have H : (if a0 = true then (some true) else (some (a1 == 0))) = some r := h
  clear h
  by_cases c3 : a0 = true
  · subst c3
    have H1 : (some true) = some r := by rw [if_pos rfl] at H; exact H
    clear H
    have H := H1
    clear H1
    obtain rfl := Option.some.inj H
    go_enter Tryd.func31, Tryd.ntmps31
    go_wp2
    go_ret
    exact ⟨by first | rfl | (simp; done) | (simp [*]; done), by repeat (first | exact Drawn0.refl _ | apply Drawn0.step)⟩
  · replace c3 := Bool.eq_false_iff.mpr c3
    subst c3
    have H1 : (some (a1 == 0)) = some r := by rw [if_neg (show ¬ (false = true) by decide)] at H; exact H
    clear H
    have H := H1
    clear H1
    obtain rfl := Option.some.inj H
    go_enter Tryd.func31, Tryd.ntmps31
    go_wp2
    go_ret
    exact ⟨by first | rfl | (simp; done) | (simp [*]; done), by repeat (first | exact Drawn0.refl _ | apply Drawn0.step)⟩
end

section
/-! ### event_none_string: function 32 -/
def event_none_string.f (a0 : Bool) (a1 : ByteArray) : Option (Bool) := if a0 = true then (some true) else (some (a1.toList == ([] : List UInt8)))
set_option maxHeartbeats 8000000 in
set_option maxRecDepth 100000 in
theorem event_none_string.calls (a0 : Bool) (a1 : ByteArray) (r : Bool) (w : World) (h : event_none_string.f a0 a1 = some r) :
    Calls Tryd.prog 32 #[.bool a0, .string a1] w fun e w' => e = .returned (.bool r) ∧ Drawn0 w w' := by
  have H : (if a0 = true then (some true) else (some (a1.toList == ([] : List UInt8)))) = some r := h
  clear h
  by_cases c3 : a0 = true
  · subst c3
    have H1 : (some true) = some r := by rw [if_pos rfl] at H; exact H
    clear H
    have H := H1
    clear H1
    obtain rfl := Option.some.inj H
    go_enter Tryd.func32, Tryd.ntmps32
    go_wp2
    go_ret
    exact ⟨by first | rfl | (simp; done) | (simp [*]; done), by repeat (first | exact Drawn0.refl _ | apply Drawn0.step)⟩
  · replace c3 := Bool.eq_false_iff.mpr c3
    subst c3
    have H1 : (some (a1.toList == ([] : List UInt8))) = some r := by rw [if_neg (show ¬ (false = true) by decide)] at H; exact H
    clear H
    have H := H1
    clear H1
    obtain rfl := Option.some.inj H
    go_enter Tryd.func32, Tryd.ntmps32
    go_wp2
    go_ret
    exact ⟨by first | rfl | (simp; done) | (simp [*]; done), by repeat (first | exact Drawn0.refl _ | apply Drawn0.step)⟩
end

section
/-! ### api_Config: function 33 -/
def api_Config.f (a0 : Bool) (a1_0 : ByteArray) (a1_1 : Int) (a1_2 : Int) (a1_3 : Int) (a1_4 : Int) (a1_5 : Int) : Option (Bool) := if a0 = true then (some true) else (some (a1_0.toList == ([] : List UInt8) && (a1_1 == 0 && (a1_2 == 0 && (a1_3 == 0 && (a1_4 == 0 && (a1_5 == 0)))))))
set_option maxHeartbeats 8000000 in
set_option maxRecDepth 100000 in
theorem api_Config.calls (a0 : Bool) (a1_0 : ByteArray) (a1_1 : Int) (a1_2 : Int) (a1_3 : Int) (a1_4 : Int) (a1_5 : Int) (r : Bool) (w : World) (h : api_Config.f a0 a1_0 a1_1 a1_2 a1_3 a1_4 a1_5 = some r) :
    Calls Tryd.prog 33 #[.bool a0, .agg #[.string a1_0, .int .i64 a1_1, .int .i64 a1_2, .int .i64 a1_3, .int .i64 a1_4, .int .i64 a1_5]] w fun e w' => e = .returned (.bool r) ∧ Below w.heap.size w w' := by
  have hu23 := Tryd.underlying23
  have HB := Aside0.mk (Below.refl w.heap.size w)
  have H : (if a0 = true then (some true) else (some (a1_0.toList == ([] : List UInt8) && (a1_1 == 0 && (a1_2 == 0 && (a1_3 == 0 && (a1_4 == 0 && (a1_5 == 0)))))))) = some r := h
  clear h
  by_cases c3 : a0 = true
  · subst c3
    have H1 : (some true) = some r := by rw [if_pos rfl] at H; exact H
    clear H
    have H := H1
    clear H1
    obtain rfl := Option.some.inj H
    go_enter Tryd.func33, Tryd.ntmps33
    go_wp2_with (first | ((with_reducible refine gate_dst (N := 3) rfl ?_); refine box_event ?hg (N := 3) ?hd (cs := #[.string a1_0, .int .i64 a1_1, .int .i64 a1_2, .int .i64 a1_3, .int .i64 a1_4, .int .i64 a1_5]) (t := 23) ?hr ?_; (case hd => rfl); (case hg => rfl); (case hr => first | (go_simp; done) | (go_simp; rfl)); intro gb102 hg w4 hbox hb; have n0_ := Aside0.mk (below_step (by repeat (first | (with_reducible first | exact HB.out | apply below_alloc | apply pw_below_drewN | apply below_drew1) | exact HB.out)) hb); have n1_ := Aside0.mk (hbox); have n2_ := Aside0.mk ((by rw [hg]; exact (below_size (by repeat (first | (with_reducible first | exact HB.out | apply below_alloc | apply pw_below_drewN | apply below_drew1) | exact HB.out))) : w.heap.size ≤ gb102)); have n3_ := Aside0.mk ((by rw [hg]; exact (below_size (by repeat (first | (with_reducible first | exact HB.out | apply below_alloc | apply pw_below_drewN | apply below_drew1) | exact HB.out))) : w.heap.size ≤ gb102)); clear HB; have HB := n0_; have BK102 := n1_; have GW102 := n2_; have GE102 := n3_; clear n0_ n1_ n2_ n3_; clear hb hbox hg) | ((with_reducible refine gate_dst (N := 5) rfl ?_); refine box_event ?hg (N := 5) ?hd (cs := #[.string (⟨#[]⟩ : ByteArray), .int .i64 0, .int .i64 0, .int .i64 0, .int .i64 0, .int .i64 0]) (t := 23) ?hr ?_; (case hd => rfl); (case hg => rfl); (case hr => first | (go_simp; done) | (go_simp; rfl)); intro gb103 hg w5 hbox hb; have n0_ := Aside0.mk (blk_below (g := gb102) (pk BK102) hb); have n1_ := Aside0.mk (below_step (by repeat (first | (with_reducible first | exact HB.out | apply below_alloc | apply pw_below_drewN | apply below_drew1 | refine below_set ?_ GE102.out) | exact HB.out)) hb); have n2_ := Aside0.mk (hbox); have n3_ := Aside0.mk ((by rw [hg]; exact (below_size (by repeat (first | (with_reducible first | exact HB.out | apply below_alloc | apply pw_below_drewN | apply below_drew1 | refine below_set ?_ GE102.out) | exact HB.out))) : w.heap.size ≤ gb103)); have n4_ := Aside0.mk ((by rw [hg]; exact (below_size (by repeat (first | (with_reducible first | exact HB.out | apply below_alloc | apply pw_below_drewN | apply below_drew1 | refine below_set ?_ GE102.out) | exact HB.out))) : w.heap.size ≤ gb103)); have n5_ := Aside0.mk ((ne_lt hg (pk BK102) : gb102 ≠ gb103)); have n6_ := Aside0.mk ((ne_gt hg (pk BK102) : gb103 ≠ gb102)); clear BK102; clear HB; have BK102 := n0_; have HB := n1_; have BK103 := n2_; have GW103 := n3_; have GE103 := n4_; have NB102_103 := n5_; have NB103_102 := n6_; clear n0_ n1_ n2_ n3_ n4_ n5_ n6_; clear hb hbox hg))
    go_ret
    exact ⟨by first | rfl | (simp [errW_none, errW_some] <;> rfl) | (simp [*, errW_none, errW_some] <;> rfl), by repeat (first | (with_reducible first | exact HB.out | apply below_alloc | apply pw_below_drewN | apply below_drew1 | refine below_set ?_ GE102.out | refine below_set ?_ GE103.out) | exact HB.out)⟩
  · replace c3 := Bool.eq_false_iff.mpr c3
    subst c3
    have H1 : (some (a1_0.toList == ([] : List UInt8) && (a1_1 == 0 && (a1_2 == 0 && (a1_3 == 0 && (a1_4 == 0 && (a1_5 == 0))))))) = some r := by rw [if_neg (show ¬ (false = true) by decide)] at H; exact H
    clear H
    have H := H1
    clear H1
    obtain rfl := Option.some.inj H
    go_enter Tryd.func33, Tryd.ntmps33
    go_wp2_with (first | ((with_reducible refine gate_dst (N := 3) rfl ?_); refine box_event ?hg (N := 3) ?hd (cs := #[.string a1_0, .int .i64 a1_1, .int .i64 a1_2, .int .i64 a1_3, .int .i64 a1_4, .int .i64 a1_5]) (t := 23) ?hr ?_; (case hd => rfl); (case hg => rfl); (case hr => first | (go_simp; done) | (go_simp; rfl)); intro gb102 hg w6 hbox hb; have n0_ := Aside0.mk (below_step (by repeat (first | (with_reducible first | exact HB.out | apply below_alloc | apply pw_below_drewN | apply below_drew1) | exact HB.out)) hb); have n1_ := Aside0.mk (hbox); have n2_ := Aside0.mk ((by rw [hg]; exact (below_size (by repeat (first | (with_reducible first | exact HB.out | apply below_alloc | apply pw_below_drewN | apply below_drew1) | exact HB.out))) : w.heap.size ≤ gb102)); have n3_ := Aside0.mk ((by rw [hg]; exact (below_size (by repeat (first | (with_reducible first | exact HB.out | apply below_alloc | apply pw_below_drewN | apply below_drew1) | exact HB.out))) : w.heap.size ≤ gb102)); clear HB; have HB := n0_; have BK102 := n1_; have GW102 := n2_; have GE102 := n3_; clear n0_ n1_ n2_ n3_; clear hb hbox hg) | ((with_reducible refine gate_dst (N := 5) rfl ?_); refine box_event ?hg (N := 5) ?hd (cs := #[.string (⟨#[]⟩ : ByteArray), .int .i64 0, .int .i64 0, .int .i64 0, .int .i64 0, .int .i64 0]) (t := 23) ?hr ?_; (case hd => rfl); (case hg => rfl); (case hr => first | (go_simp; done) | (go_simp; rfl)); intro gb103 hg w7 hbox hb; have n0_ := Aside0.mk (blk_below (g := gb102) (pk BK102) hb); have n1_ := Aside0.mk (below_step (by repeat (first | (with_reducible first | exact HB.out | apply below_alloc | apply pw_below_drewN | apply below_drew1 | refine below_set ?_ GE102.out) | exact HB.out)) hb); have n2_ := Aside0.mk (hbox); have n3_ := Aside0.mk ((by rw [hg]; exact (below_size (by repeat (first | (with_reducible first | exact HB.out | apply below_alloc | apply pw_below_drewN | apply below_drew1 | refine below_set ?_ GE102.out) | exact HB.out))) : w.heap.size ≤ gb103)); have n4_ := Aside0.mk ((by rw [hg]; exact (below_size (by repeat (first | (with_reducible first | exact HB.out | apply below_alloc | apply pw_below_drewN | apply below_drew1 | refine below_set ?_ GE102.out) | exact HB.out))) : w.heap.size ≤ gb103)); have n5_ := Aside0.mk ((ne_lt hg (pk BK102) : gb102 ≠ gb103)); have n6_ := Aside0.mk ((ne_gt hg (pk BK102) : gb103 ≠ gb102)); clear BK102; clear HB; have BK102 := n0_; have HB := n1_; have BK103 := n2_; have GW103 := n3_; have GE103 := n4_; have NB102_103 := n5_; have NB103_102 := n6_; clear n0_ n1_ n2_ n3_ n4_ n5_ n6_; clear hb hbox hg; have hnb8 := NB102_103.out; have hnc8 := NB103_102.out; have hcz9_0 : w7.cell? ⟨gb102, 0, none⟩ = some (.string a1_0) := bc BK102 0; have hcz9_1 : w7.cell? ⟨gb102, 1, none⟩ = some (.int .i64 a1_1) := bc BK102 1; have hcz9_2 : w7.cell? ⟨gb102, 2, none⟩ = some (.int .i64 a1_2) := bc BK102 2; have hcz9_3 : w7.cell? ⟨gb102, 3, none⟩ = some (.int .i64 a1_3) := bc BK102 3; have hcz9_4 : w7.cell? ⟨gb102, 4, none⟩ = some (.int .i64 a1_4) := bc BK102 4; have hcz9_5 : w7.cell? ⟨gb102, 5, none⟩ = some (.int .i64 a1_5) := bc BK102 5; have hfz9_0 := blk_frozen BK102.out 0; have hfz9_1 := blk_frozen BK102.out 1; have hfz9_2 := blk_frozen BK102.out 2; have hfz9_3 := blk_frozen BK102.out 3; have hfz9_4 := blk_frozen BK102.out 4; have hfz9_5 := blk_frozen BK102.out 5; have hcz10_0 : w7.cell? ⟨gb103, 0, none⟩ = some (.string (⟨#[]⟩ : ByteArray)) := bc BK103 0; have hcz10_1 : w7.cell? ⟨gb103, 1, none⟩ = some (.int .i64 0) := bc BK103 1; have hcz10_2 : w7.cell? ⟨gb103, 2, none⟩ = some (.int .i64 0) := bc BK103 2; have hcz10_3 : w7.cell? ⟨gb103, 3, none⟩ = some (.int .i64 0) := bc BK103 3; have hcz10_4 : w7.cell? ⟨gb103, 4, none⟩ = some (.int .i64 0) := bc BK103 4; have hcz10_5 : w7.cell? ⟨gb103, 5, none⟩ = some (.int .i64 0) := bc BK103 5; have hfz10_0 := blk_frozen BK103.out 0; have hfz10_1 := blk_frozen BK103.out 1; have hfz10_2 := blk_frozen BK103.out 2; have hfz10_3 := blk_frozen BK103.out 3; have hfz10_4 := blk_frozen BK103.out 4; have hfz10_5 := blk_frozen BK103.out 5))
    go_ret
    exact ⟨by first | rfl | (simp [errW_none, errW_some] <;> rfl) | (simp [*, errW_none, errW_some] <;> rfl), by repeat (first | (with_reducible first | exact HB.out | apply below_alloc | apply pw_below_drewN | apply below_drew1 | refine below_set ?_ GE102.out | refine below_set ?_ GE103.out) | exact HB.out)⟩
end

section
/-! ### event_bare: function 34 -/
def event_bare.f (a0_0 : ByteArray) (a0_1 : ByteArray) (l0_2 : List (S39)) (a0_3 : Int) : Option (Bool) := if a0_0.toList = ([] : List UInt8) then (if a0_1.toList = ([] : List UInt8) then (if a0_3 = 0 then (some ((l0_2.length : Int) == 0)) else (some false)) else (some false)) else (some false)
set_option maxHeartbeats 8000000 in
set_option maxRecDepth 100000 in
theorem event_bare.calls (a0_0 : ByteArray) (a0_1 : ByteArray) (A0_2 : Option Addr) (c0_2 : Nat) (l0_2 : List (S39)) (a0_3 : Int) (r : Bool) (w : World) (hr0_2 : Kd.C k39 w A0_2 l0_2.length l0_2) (hc0_2 : l0_2.length ≤ c0_2) (h : event_bare.f a0_0 a0_1 l0_2 a0_3 = some r) :
    Calls Tryd.prog 34 #[.agg #[.string a0_0, .string a0_1, .slice A0_2 l0_2.length c0_2, .int .i64 a0_3]] w fun e w' => e = .returned (.bool r) ∧ Below w.heap.size w w' := by
  have hu26 := Tryd.underlying26
  have HR0_2 := Aside0.mk hr0_2
  have HC0_2 := Aside0.mk hc0_2
  clear hr0_2 hc0_2
  have HB := Aside0.mk (Below.refl w.heap.size w)
  have H : (if a0_0.toList = ([] : List UInt8) then (if a0_1.toList = ([] : List UInt8) then (if a0_3 = 0 then (some ((l0_2.length : Int) == 0)) else (some false)) else (some false)) else (some false)) = some r := h
  clear h
  by_cases c2 : a0_0.toList = ([] : List UInt8)
  · rw [if_pos c2] at H
    have c2b0 : (a0_0.toList == ([] : List UInt8)) = true := beq_iff_eq.mpr c2
    have c2b1 : (a0_0.toList != ([] : List UInt8)) = false := bne_eq_false_iff_eq.mpr c2
    clear c2
    by_cases c3 : a0_1.toList = ([] : List UInt8)
    · rw [if_pos c3] at H
      have c3b0 : (a0_1.toList == ([] : List UInt8)) = true := beq_iff_eq.mpr c3
      have c3b1 : (a0_1.toList != ([] : List UInt8)) = false := bne_eq_false_iff_eq.mpr c3
      clear c3
      by_cases c4 : a0_3 = 0
      · rw [if_pos c4] at H
        have c4b0 : (a0_3 == 0) = true := beq_iff_eq.mpr c4
        have c4b1 : (a0_3 != 0) = false := bne_eq_false_iff_eq.mpr c4
        clear c4
        obtain rfl := Option.some.inj H
        go_enter Tryd.func34, Tryd.ntmps34
        go_wp2_with (first | ((with_reducible refine gate_dst (N := 1) rfl ?_); (try (refine gate_guard (by rfl) ?_; dsimp only)); refine box_event ?hg (N := 1) ?hd (cs := #[.string a0_0, .string a0_1, .slice A0_2 l0_2.length c0_2, .int .i64 a0_3]) (t := 26) ?hr ?_; (case hd => rfl); (case hg => rfl); (case hr => first | (go_simp; done) | (go_simp; rfl)); intro gb104 hg w5 hbox hb; have n0_ := Aside0.mk (below_step (by repeat (first | (with_reducible first | exact HB.out | apply below_alloc | apply pw_below_drewN | apply below_drew1) | exact HB.out)) hb); have n1_ := Aside0.mk (hbox); have n2_ := Aside0.mk ((by rw [hg]; exact (below_size (by repeat (first | (with_reducible first | exact HB.out | apply below_alloc | apply pw_below_drewN | apply below_drew1) | exact HB.out))) : w.heap.size ≤ gb104)); have n3_ := Aside0.mk ((by rw [hg]; exact (below_size (by repeat (first | (with_reducible first | exact HB.out | apply below_alloc | apply pw_below_drewN | apply below_drew1) | exact HB.out))) : w.heap.size ≤ gb104)); clear HB; have HB := n0_; have BK104 := n1_; have GW104 := n2_; have GE104 := n3_; clear n0_ n1_ n2_ n3_; clear hb hbox hg; have hcz6_0 : w5.cell? ⟨gb104, 0, none⟩ = some (.string a0_0) := bc BK104 0; have hcz6_1 : w5.cell? ⟨gb104, 1, none⟩ = some (.string a0_1) := bc BK104 1; have hcz6_2 : w5.cell? ⟨gb104, 2, none⟩ = some (.slice A0_2 l0_2.length c0_2) := bc BK104 2; have hcz6_3 : w5.cell? ⟨gb104, 3, none⟩ = some (.int .i64 a0_3) := bc BK104 3; have hfz6_0 := blk_frozen BK104.out 0; have hfz6_1 := blk_frozen BK104.out 1; have hfz6_2 := blk_frozen BK104.out 2; have hfz6_3 := blk_frozen BK104.out 3))
        go_ret
        exact ⟨by first | rfl | (simp [errW_none, errW_some] <;> rfl) | (simp [*, errW_none, errW_some] <;> rfl), by repeat (first | (with_reducible first | exact HB.out | apply below_alloc | apply pw_below_drewN | apply below_drew1 | refine below_set ?_ GE104.out) | exact HB.out)⟩
      · rw [if_neg c4] at H
        have c4b0 : (a0_3 == 0) = false := beq_eq_false_iff_ne.mpr c4
        have c4b1 : (a0_3 != 0) = true := bne_iff_ne.mpr c4
        obtain rfl := Option.some.inj H
        go_enter Tryd.func34, Tryd.ntmps34
        go_wp2_with (first | ((with_reducible refine gate_dst (N := 1) rfl ?_); (try (refine gate_guard (by rfl) ?_; dsimp only)); refine box_event ?hg (N := 1) ?hd (cs := #[.string a0_0, .string a0_1, .slice A0_2 l0_2.length c0_2, .int .i64 a0_3]) (t := 26) ?hr ?_; (case hd => rfl); (case hg => rfl); (case hr => first | (go_simp; done) | (go_simp; rfl)); intro gb104 hg w7 hbox hb; have n0_ := Aside0.mk (below_step (by repeat (first | (with_reducible first | exact HB.out | apply below_alloc | apply pw_below_drewN | apply below_drew1) | exact HB.out)) hb); have n1_ := Aside0.mk (hbox); have n2_ := Aside0.mk ((by rw [hg]; exact (below_size (by repeat (first | (with_reducible first | exact HB.out | apply below_alloc | apply pw_below_drewN | apply below_drew1) | exact HB.out))) : w.heap.size ≤ gb104)); have n3_ := Aside0.mk ((by rw [hg]; exact (below_size (by repeat (first | (with_reducible first | exact HB.out | apply below_alloc | apply pw_below_drewN | apply below_drew1) | exact HB.out))) : w.heap.size ≤ gb104)); clear HB; have HB := n0_; have BK104 := n1_; have GW104 := n2_; have GE104 := n3_; clear n0_ n1_ n2_ n3_; clear hb hbox hg; have hcz8_0 : w7.cell? ⟨gb104, 0, none⟩ = some (.string a0_0) := bc BK104 0; have hcz8_1 : w7.cell? ⟨gb104, 1, none⟩ = some (.string a0_1) := bc BK104 1; have hcz8_2 : w7.cell? ⟨gb104, 2, none⟩ = some (.slice A0_2 l0_2.length c0_2) := bc BK104 2; have hcz8_3 : w7.cell? ⟨gb104, 3, none⟩ = some (.int .i64 a0_3) := bc BK104 3; have hfz8_0 := blk_frozen BK104.out 0; have hfz8_1 := blk_frozen BK104.out 1; have hfz8_2 := blk_frozen BK104.out 2; have hfz8_3 := blk_frozen BK104.out 3))
        go_ret
        exact ⟨by first | rfl | (simp [errW_none, errW_some] <;> rfl) | (simp [*, errW_none, errW_some] <;> rfl), by repeat (first | (with_reducible first | exact HB.out | apply below_alloc | apply pw_below_drewN | apply below_drew1 | refine below_set ?_ GE104.out) | exact HB.out)⟩
    · rw [if_neg c3] at H
      have c3b0 : (a0_1.toList == ([] : List UInt8)) = false := beq_eq_false_iff_ne.mpr c3
      have c3b1 : (a0_1.toList != ([] : List UInt8)) = true := bne_iff_ne.mpr c3
      obtain rfl := Option.some.inj H
      go_enter Tryd.func34, Tryd.ntmps34
      go_wp2_with (first | ((with_reducible refine gate_dst (N := 1) rfl ?_); (try (refine gate_guard (by rfl) ?_; dsimp only)); refine box_event ?hg (N := 1) ?hd (cs := #[.string a0_0, .string a0_1, .slice A0_2 l0_2.length c0_2, .int .i64 a0_3]) (t := 26) ?hr ?_; (case hd => rfl); (case hg => rfl); (case hr => first | (go_simp; done) | (go_simp; rfl)); intro gb104 hg w9 hbox hb; have n0_ := Aside0.mk (below_step (by repeat (first | (with_reducible first | exact HB.out | apply below_alloc | apply pw_below_drewN | apply below_drew1) | exact HB.out)) hb); have n1_ := Aside0.mk (hbox); have n2_ := Aside0.mk ((by rw [hg]; exact (below_size (by repeat (first | (with_reducible first | exact HB.out | apply below_alloc | apply pw_below_drewN | apply below_drew1) | exact HB.out))) : w.heap.size ≤ gb104)); have n3_ := Aside0.mk ((by rw [hg]; exact (below_size (by repeat (first | (with_reducible first | exact HB.out | apply below_alloc | apply pw_below_drewN | apply below_drew1) | exact HB.out))) : w.heap.size ≤ gb104)); clear HB; have HB := n0_; have BK104 := n1_; have GW104 := n2_; have GE104 := n3_; clear n0_ n1_ n2_ n3_; clear hb hbox hg; have hcz10_0 : w9.cell? ⟨gb104, 0, none⟩ = some (.string a0_0) := bc BK104 0; have hcz10_1 : w9.cell? ⟨gb104, 1, none⟩ = some (.string a0_1) := bc BK104 1; have hcz10_2 : w9.cell? ⟨gb104, 2, none⟩ = some (.slice A0_2 l0_2.length c0_2) := bc BK104 2; have hcz10_3 : w9.cell? ⟨gb104, 3, none⟩ = some (.int .i64 a0_3) := bc BK104 3; have hfz10_0 := blk_frozen BK104.out 0; have hfz10_1 := blk_frozen BK104.out 1; have hfz10_2 := blk_frozen BK104.out 2; have hfz10_3 := blk_frozen BK104.out 3))
      go_ret
      exact ⟨by first | rfl | (simp [errW_none, errW_some] <;> rfl) | (simp [*, errW_none, errW_some] <;> rfl), by repeat (first | (with_reducible first | exact HB.out | apply below_alloc | apply pw_below_drewN | apply below_drew1 | refine below_set ?_ GE104.out) | exact HB.out)⟩
  · rw [if_neg c2] at H
    have c2b0 : (a0_0.toList == ([] : List UInt8)) = false := beq_eq_false_iff_ne.mpr c2
    have c2b1 : (a0_0.toList != ([] : List UInt8)) = true := bne_iff_ne.mpr c2
    obtain rfl := Option.some.inj H
    go_enter Tryd.func34, Tryd.ntmps34
    go_wp2_with (first | ((with_reducible refine gate_dst (N := 1) rfl ?_); (try (refine gate_guard (by rfl) ?_; dsimp only)); refine box_event ?hg (N := 1) ?hd (cs := #[.string a0_0, .string a0_1, .slice A0_2 l0_2.length c0_2, .int .i64 a0_3]) (t := 26) ?hr ?_; (case hd => rfl); (case hg => rfl); (case hr => first | (go_simp; done) | (go_simp; rfl)); intro gb104 hg w11 hbox hb; have n0_ := Aside0.mk (below_step (by repeat (first | (with_reducible first | exact HB.out | apply below_alloc | apply pw_below_drewN | apply below_drew1) | exact HB.out)) hb); have n1_ := Aside0.mk (hbox); have n2_ := Aside0.mk ((by rw [hg]; exact (below_size (by repeat (first | (with_reducible first | exact HB.out | apply below_alloc | apply pw_below_drewN | apply below_drew1) | exact HB.out))) : w.heap.size ≤ gb104)); have n3_ := Aside0.mk ((by rw [hg]; exact (below_size (by repeat (first | (with_reducible first | exact HB.out | apply below_alloc | apply pw_below_drewN | apply below_drew1) | exact HB.out))) : w.heap.size ≤ gb104)); clear HB; have HB := n0_; have BK104 := n1_; have GW104 := n2_; have GE104 := n3_; clear n0_ n1_ n2_ n3_; clear hb hbox hg; have hcz12_0 : w11.cell? ⟨gb104, 0, none⟩ = some (.string a0_0) := bc BK104 0; have hcz12_1 : w11.cell? ⟨gb104, 1, none⟩ = some (.string a0_1) := bc BK104 1; have hcz12_2 : w11.cell? ⟨gb104, 2, none⟩ = some (.slice A0_2 l0_2.length c0_2) := bc BK104 2; have hcz12_3 : w11.cell? ⟨gb104, 3, none⟩ = some (.int .i64 a0_3) := bc BK104 3; have hfz12_0 := blk_frozen BK104.out 0; have hfz12_1 := blk_frozen BK104.out 1; have hfz12_2 := blk_frozen BK104.out 2; have hfz12_3 := blk_frozen BK104.out 3))
    go_ret
    exact ⟨by first | rfl | (simp [errW_none, errW_some] <;> rfl) | (simp [*, errW_none, errW_some] <;> rfl), by repeat (first | (with_reducible first | exact HB.out | apply below_alloc | apply pw_below_drewN | apply below_drew1 | refine below_set ?_ GE104.out) | exact HB.out)⟩
end

section
/-! ### event_within: function 38 -/
def event_within.f (a0 : Int) (a1 : Int) (a2 : Int) : Option (Bool) := if a0 ≥ a1 then (some (decide (a0 ≤ a2))) else (some false)
set_option maxHeartbeats 8000000 in
set_option maxRecDepth 100000 in
theorem event_within.calls (a0 : Int) (a1 : Int) (a2 : Int) (r : Bool) (w : World) (h : event_within.f a0 a1 a2 = some r) :
    Calls Tryd.prog 38 #[.int .i64 a0, .int .i64 a1, .int .i64 a2] w fun e w' => e = .returned (.bool r) ∧ Drawn0 w w' := by
  have H : (if a0 ≥ a1 then (some (decide (a0 ≤ a2))) else (some false)) = some r := h
  clear h
  by_cases c4 : a0 ≥ a1
  · rw [if_pos c4] at H
    have c4b0 : decide (a1 ≤ a0) = true := decide_eq_true c4
    clear c4
    obtain rfl := Option.some.inj H
    go_enter Tryd.func38, Tryd.ntmps38
    go_wp2
    go_ret
    exact ⟨by first | rfl | (simp; done) | (simp [*]; done), by repeat (first | exact Drawn0.refl _ | apply Drawn0.step)⟩
  · rw [if_neg c4] at H
    have c4b0 : decide (a1 ≤ a0) = false := decide_eq_false c4
    clear c4
    obtain rfl := Option.some.inj H
    go_enter Tryd.func38, Tryd.ntmps38
    go_wp2
    go_ret
    exact ⟨by first | rfl | (simp; done) | (simp [*]; done), by repeat (first | exact Drawn0.refl _ | apply Drawn0.step)⟩
end

section
/-! ### event_number: function 35 -/
def event_number.j0 : Nat → Int → Bool → Int → ByteArray → ByteArray → Int → Int → ByteArray → Int → Int → Int → Int → Int → ByteArray → ByteArray → List (S39) → Int → Option (Bool)
  | 0, _, _, _, _, _, _, _, _, _, _, _, _, _, _, _, _, _ => none
  | k + 1, x4, x5, x106000, x106001, x106002, x106003, x106004, x106005, x106006, x106007, x106008, x106009, x106010, x106011, x106012, x106013, x106014 => if x5 = true then ((event_within.f x106003 0 2147483647).bind fun t106 => (some t106)) else (if x4 = 3 then ((event_within.f x106003 1 2).bind fun t107 => (some t107)) else ((event_within.f x106003 1 2147483647).bind fun t108 => (some t108)))
def event_number.f (k : Nat) (a0_0 : Int) (a0_1 : ByteArray) (a0_2 : ByteArray) (a0_3 : Int) (a0_4 : Int) (a0_5 : ByteArray) (a0_6 : Int) (a0_7 : Int) (a0_8 : Int) (a0_9 : Int) (a0_10 : Int) (a0_11 : ByteArray) (a0_12 : ByteArray) (l0_13 : List (S39)) (a0_14 : Int) : Option (Bool) := if a0_0 = 1 then (event_number.j0 k a0_0 (a0_0 == 1) a0_0 a0_1 a0_2 a0_3 a0_4 a0_5 a0_6 a0_7 a0_8 a0_9 a0_10 a0_11 a0_12 l0_13 a0_14) else (event_number.j0 k a0_0 (a0_0 == 2) a0_0 a0_1 a0_2 a0_3 a0_4 a0_5 a0_6 a0_7 a0_8 a0_9 a0_10 a0_11 a0_12 l0_13 a0_14)
theorem event_number.mono_l : ∀ k, (∀ y0 y1 y2 y3 y4 y5 y6 y7 y8 y9 y10 y11 y12 y13 y14 y15 y16, LeO (event_number.j0 k y0 y1 y2 y3 y4 y5 y6 y7 y8 y9 y10 y11 y12 y13 y14 y15 y16) (event_number.j0 (k + 1) y0 y1 y2 y3 y4 y5 y6 y7 y8 y9 y10 y11 y12 y13 y14 y15 y16))
  | 0 => fun _ _ _ _ _ _ _ _ _ _ _ _ _ _ _ _ _ r h => by simp [event_number.j0] at h
  | k + 1 => by
    have ih0 := event_number.mono_l k
    · intro y0 y1 y2 y3 y4 y5 y6 y7 y8 y9 y10 y11 y12 y13 y14 y15 y16
      unfold event_number.j0
      repeat' first
      | (with_reducible exact ih0 _ _ _ _ _ _ _ _ _ _ _ _ _ _ _ _ _)
      | (with_reducible exact LeO.refl _)
      | (with_reducible exact LeO.none _)
      | (with_reducible refine LeO.ite ?_ ?_)
      | (with_reducible refine LeO.bind ?_ (fun _ => ?_))
      | exact ih0 _ _ _ _ _ _ _ _ _ _ _ _ _ _ _ _ _
      | exact LeO.none _
      | refine LeO.ite ?_ ?_
      | refine LeO.bind ?_ (fun _ => ?_)
theorem event_number.mono : ∀ a0 a1 a2 a3 a4 a5 a6 a7 a8 a9 a10 a11 a12 a13 a14 k, LeO (event_number.f k a0 a1 a2 a3 a4 a5 a6 a7 a8 a9 a10 a11 a12 a13 a14) (event_number.f (k + 1) a0 a1 a2 a3 a4 a5 a6 a7 a8 a9 a10 a11 a12 a13 a14) := by
  intro a0 a1 a2 a3 a4 a5 a6 a7 a8 a9 a10 a11 a12 a13 a14 k
  have ih0 := event_number.mono_l k
  unfold event_number.f
  repeat' first
      | (with_reducible exact ih0 _ _ _ _ _ _ _ _ _ _ _ _ _ _ _ _ _)
      | (with_reducible exact LeO.refl _)
      | (with_reducible exact LeO.none _)
      | (with_reducible refine LeO.ite ?_ ?_)
      | (with_reducible refine LeO.bind ?_ (fun _ => ?_))
      | exact ih0 _ _ _ _ _ _ _ _ _ _ _ _ _ _ _ _ _
      | exact LeO.none _
      | refine LeO.ite ?_ ?_
      | refine LeO.bind ?_ (fun _ => ?_)
set_option maxHeartbeats 8000000 in
set_option maxRecDepth 100000 in
theorem event_number.calls (k : Nat) (a0_0 : Int) (a0_1 : ByteArray) (a0_2 : ByteArray) (a0_3 : Int) (a0_4 : Int) (a0_5 : ByteArray) (a0_6 : Int) (a0_7 : Int) (a0_8 : Int) (a0_9 : Int) (a0_10 : Int) (a0_11 : ByteArray) (a0_12 : ByteArray) (A0_13 : Option Addr) (c0_13 : Nat) (l0_13 : List (S39)) (a0_14 : Int) (r : Bool) (w : World) (hr0_13 : Kd.C k39 w A0_13 l0_13.length l0_13) (hc0_13 : l0_13.length ≤ c0_13) (h : event_number.f k a0_0 a0_1 a0_2 a0_3 a0_4 a0_5 a0_6 a0_7 a0_8 a0_9 a0_10 a0_11 a0_12 l0_13 a0_14 = some r) :
    Calls Tryd.prog 35 #[.agg #[.int .i64 a0_0, .string a0_1, .string a0_2, .int .i64 a0_3, .int .i64 a0_4, .string a0_5, .int .i64 a0_6, .int .i64 a0_7, .int .i64 a0_8, .int .i64 a0_9, .int .i64 a0_10, .string a0_11, .string a0_12, .slice A0_13 l0_13.length c0_13, .int .i64 a0_14]] w fun e w' => e = .returned (.bool r) ∧ Below w.heap.size w w' := by
  have hu28 := Tryd.underlying28
  have HR0_13 := Aside0.mk hr0_13
  have HC0_13 := Aside0.mk hc0_13
  clear hr0_13 hc0_13
  have HB := Aside0.mk (Below.refl w.heap.size w)
  have H : (if a0_0 = 1 then (event_number.j0 k a0_0 (a0_0 == 1) a0_0 a0_1 a0_2 a0_3 a0_4 a0_5 a0_6 a0_7 a0_8 a0_9 a0_10 a0_11 a0_12 l0_13 a0_14) else (event_number.j0 k a0_0 (a0_0 == 2) a0_0 a0_1 a0_2 a0_3 a0_4 a0_5 a0_6 a0_7 a0_8 a0_9 a0_10 a0_11 a0_12 l0_13 a0_14)) = some r := h
  clear h
  have HC2 := Aside0.mk H
  clear H
  go_enter Tryd.func35, Tryd.ntmps35
  go_upto_if 5 with (first | ((with_reducible refine gate_dst (N := 1) rfl ?_); refine box_event ?hg (N := 1) ?hd (cs := #[.int .i64 a0_0, .string a0_1, .string a0_2, .int .i64 a0_3, .int .i64 a0_4, .string a0_5, .int .i64 a0_6, .int .i64 a0_7, .int .i64 a0_8, .int .i64 a0_9, .int .i64 a0_10, .string a0_11, .string a0_12, .slice A0_13 l0_13.length c0_13, .int .i64 a0_14]) (t := 28) ?hr ?_; (case hd => rfl); (case hg => rfl); (case hr => first | (go_simp; done) | (go_simp; rfl)); intro gb105 hg w3 hbox hb; have n0_ := Aside0.mk (below_step (by repeat (first | (with_reducible first | exact HB.out | apply below_alloc | apply pw_below_drewN | apply below_drew1) | exact HB.out)) hb); have n1_ := Aside0.mk (hbox); have n2_ := Aside0.mk ((by rw [hg]; exact (below_size (by repeat (first | (with_reducible first | exact HB.out | apply below_alloc | apply pw_below_drewN | apply below_drew1) | exact HB.out))) : w.heap.size ≤ gb105)); have n3_ := Aside0.mk ((by rw [hg]; exact (below_size (by repeat (first | (with_reducible first | exact HB.out | apply below_alloc | apply pw_below_drewN | apply below_drew1) | exact HB.out))) : w.heap.size ≤ gb105)); clear HB; have HB := n0_; have BK105 := n1_; have GW105 := n2_; have GE105 := n3_; clear n0_ n1_ n2_ n3_; clear hb hbox hg; have hcz4_0 : w3.cell? ⟨gb105, 0, none⟩ = some (.int .i64 a0_0) := bc BK105 0; have hcz4_1 : w3.cell? ⟨gb105, 1, none⟩ = some (.string a0_1) := bc BK105 1; have hcz4_2 : w3.cell? ⟨gb105, 2, none⟩ = some (.string a0_2) := bc BK105 2; have hcz4_3 : w3.cell? ⟨gb105, 3, none⟩ = some (.int .i64 a0_3) := bc BK105 3; have hcz4_4 : w3.cell? ⟨gb105, 4, none⟩ = some (.int .i64 a0_4) := bc BK105 4; have hcz4_5 : w3.cell? ⟨gb105, 5, none⟩ = some (.string a0_5) := bc BK105 5; have hcz4_6 : w3.cell? ⟨gb105, 6, none⟩ = some (.int .i64 a0_6) := bc BK105 6; have hcz4_7 : w3.cell? ⟨gb105, 7, none⟩ = some (.int .i64 a0_7) := bc BK105 7; have hcz4_8 : w3.cell? ⟨gb105, 8, none⟩ = some (.int .i64 a0_8) := bc BK105 8; have hcz4_9 : w3.cell? ⟨gb105, 9, none⟩ = some (.int .i64 a0_9) := bc BK105 9; have hcz4_10 : w3.cell? ⟨gb105, 10, none⟩ = some (.int .i64 a0_10) := bc BK105 10; have hcz4_11 : w3.cell? ⟨gb105, 11, none⟩ = some (.string a0_11) := bc BK105 11; have hcz4_12 : w3.cell? ⟨gb105, 12, none⟩ = some (.string a0_12) := bc BK105 12; have hcz4_13 : w3.cell? ⟨gb105, 13, none⟩ = some (.slice A0_13 l0_13.length c0_13) := bc BK105 13; have hcz4_14 : w3.cell? ⟨gb105, 14, none⟩ = some (.int .i64 a0_14) := bc BK105 14; have hfz4_0 := blk_frozen BK105.out 0; have hfz4_1 := blk_frozen BK105.out 1; have hfz4_2 := blk_frozen BK105.out 2; have hfz4_3 := blk_frozen BK105.out 3; have hfz4_4 := blk_frozen BK105.out 4; have hfz4_5 := blk_frozen BK105.out 5; have hfz4_6 := blk_frozen BK105.out 6; have hfz4_7 := blk_frozen BK105.out 7; have hfz4_8 := blk_frozen BK105.out 8; have hfz4_9 := blk_frozen BK105.out 9; have hfz4_10 := blk_frozen BK105.out 10; have hfz4_11 := blk_frozen BK105.out 11; have hfz4_12 := blk_frozen BK105.out 12; have hfz4_13 := blk_frozen BK105.out 13; have hfz4_14 := blk_frozen BK105.out 14))
  (try simp only [Act.put, List.setIfInBounds_toArray, List.set_cons_zero, List.set_cons_succ])
  go_cut [5] (fun v5 wc => ∃ (kq : Nat) (x5_1 : Bool), v5 = .bool x5_1 ∧ Aside0 (event_number.j0 kq a0_0 x5_1 a0_0 a0_1 a0_2 a0_3 a0_4 a0_5 a0_6 a0_7 a0_8 a0_9 a0_10 a0_11 a0_12 l0_13 a0_14 = some r) ∧ Aside0 (kq ≤ k) ∧ Aside0 (wc.heap[gb105]? = some (.cells #[.int .i64 a0_0, .string a0_1, .string a0_2, .int .i64 a0_3, .int .i64 a0_4, .string a0_5, .int .i64 a0_6, .int .i64 a0_7, .int .i64 a0_8, .int .i64 a0_9, .int .i64 a0_10, .string a0_11, .string a0_12, (.slice A0_13 l0_13.length c0_13), .int .i64 a0_14] 28 (0, 0))) ∧ Aside0 (Below w.heap.size w wc))
  case first =>
    have H := HC2.out
    clear HC2
    by_cases c5 : a0_0 = 1
    · rw [if_pos c5] at H
      have c5b0 : (a0_0 == 1) = true := beq_iff_eq.mpr c5
      have c5b1 : (a0_0 != 1) = false := bne_eq_false_iff_eq.mpr c5
      clear c5
      (first | rw [c5b0] | (simp only [i64_w, i32_w]; rw [c5b0]) | rw [c5b1] | skip)
      have H' := Aside0.mk H
      clear H
      go_wp2
      go_meet
      case rel => exact ⟨_, ((a0_0 == 1)), (by first | rfl | (simp; done) | (simp [*]; done)), H', ⟨by first | omega | exact Nat.le_refl _⟩, ⟨by (with_reducible repeat (first | refine blk_drewN ?_ _ | refine blk_drew ?_ | refine blk_alloc ?_ _)); exact BK105.out⟩, ⟨by repeat (first | (with_reducible first | exact HB.out | apply below_alloc | apply pw_below_drewN | apply below_drew1 | refine below_set ?_ GE105.out) | exact HB.out)⟩⟩
    · rw [if_neg c5] at H
      have c5b0 : (a0_0 == 1) = false := beq_eq_false_iff_ne.mpr c5
      have c5b1 : (a0_0 != 1) = true := bne_iff_ne.mpr c5
      (first | rw [c5b0] | (simp only [i64_w, i32_w]; rw [c5b0]) | rw [c5b1] | skip)
      have H' := Aside0.mk H
      clear H
      go_wp2
      go_meet
      case rel => exact ⟨_, ((a0_0 == 2)), (by first | rfl | (simp; done) | (simp [*]; done)), H', ⟨by first | omega | exact Nat.le_refl _⟩, ⟨by (with_reducible repeat (first | refine blk_drewN ?_ _ | refine blk_drew ?_ | refine blk_alloc ?_ _)); exact BK105.out⟩, ⟨by repeat (first | (with_reducible first | exact HB.out | apply below_alloc | apply pw_below_drewN | apply below_drew1 | refine below_set ?_ GE105.out) | exact HB.out)⟩⟩
  case rest =>
    clear HC2
    try clear p2
    try clear c3
    try clear c5
    try clear c5b0
    try clear c5b1
    try clear hcz4_0
    try clear hcz4_1
    try clear hcz4_10
    try clear hcz4_11
    try clear hcz4_12
    try clear hcz4_13
    try clear hcz4_14
    try clear hcz4_2
    try clear hcz4_3
    try clear hcz4_4
    try clear hcz4_5
    try clear hcz4_6
    try clear hcz4_7
    try clear hcz4_8
    try clear hcz4_9
    try clear hfz4_0
    try clear hfz4_1
    try clear hfz4_10
    try clear hfz4_11
    try clear hfz4_12
    try clear hfz4_13
    try clear hfz4_14
    try clear hfz4_2
    try clear hfz4_3
    try clear hfz4_4
    try clear hfz4_5
    try clear hfz4_6
    try clear hfz4_7
    try clear hfz4_8
    try clear hfz4_9
    obtain ⟨kq, x5_1, rfl, HA, HJ1, BK105, HB⟩ := hcut
    cases kq with
    | zero => exact absurd HA.out (by simp [event_number.j0])
    | succ kj1 =>
      have H := HA.out
      clear HA
      simp only [event_number.j0] at H
      by_cases c6 : x5_1 = true
      · subst c6
        have H1 : ((event_within.f a0_3 0 2147483647).bind fun t106 => (some t106)) = some r := by rw [if_pos rfl] at H; exact H
        clear H
        have H := H1
        clear H1
        replace H := Option.bind_eq_some_iff.mp H
        obtain ⟨t106, A70, H⟩ := H
        replace H : (some t106) = some r := H
        have A7 := Aside0.mk A70
        clear A70
        obtain rfl := Option.some.inj H
        have hcz8_0 : wc.cell? ⟨gb105, 0, none⟩ = some (.int .i64 a0_0) := bc BK105 0
        have hcz8_1 : wc.cell? ⟨gb105, 1, none⟩ = some (.string a0_1) := bc BK105 1
        have hcz8_2 : wc.cell? ⟨gb105, 2, none⟩ = some (.string a0_2) := bc BK105 2
        have hcz8_3 : wc.cell? ⟨gb105, 3, none⟩ = some (.int .i64 a0_3) := bc BK105 3
        have hcz8_4 : wc.cell? ⟨gb105, 4, none⟩ = some (.int .i64 a0_4) := bc BK105 4
        have hcz8_5 : wc.cell? ⟨gb105, 5, none⟩ = some (.string a0_5) := bc BK105 5
        have hcz8_6 : wc.cell? ⟨gb105, 6, none⟩ = some (.int .i64 a0_6) := bc BK105 6
        have hcz8_7 : wc.cell? ⟨gb105, 7, none⟩ = some (.int .i64 a0_7) := bc BK105 7
        have hcz8_8 : wc.cell? ⟨gb105, 8, none⟩ = some (.int .i64 a0_8) := bc BK105 8
        have hcz8_9 : wc.cell? ⟨gb105, 9, none⟩ = some (.int .i64 a0_9) := bc BK105 9
        have hcz8_10 : wc.cell? ⟨gb105, 10, none⟩ = some (.int .i64 a0_10) := bc BK105 10
        have hcz8_11 : wc.cell? ⟨gb105, 11, none⟩ = some (.string a0_11) := bc BK105 11
        have hcz8_12 : wc.cell? ⟨gb105, 12, none⟩ = some (.string a0_12) := bc BK105 12
        have hcz8_13 : wc.cell? ⟨gb105, 13, none⟩ = some (.slice A0_13 l0_13.length c0_13) := bc BK105 13
        have hcz8_14 : wc.cell? ⟨gb105, 14, none⟩ = some (.int .i64 a0_14) := bc BK105 14
        have hfz8_0 := blk_frozen BK105.out 0
        have hfz8_1 := blk_frozen BK105.out 1
        have hfz8_2 := blk_frozen BK105.out 2
        have hfz8_3 := blk_frozen BK105.out 3
        have hfz8_4 := blk_frozen BK105.out 4
        have hfz8_5 := blk_frozen BK105.out 5
        have hfz8_6 := blk_frozen BK105.out 6
        have hfz8_7 := blk_frozen BK105.out 7
        have hfz8_8 := blk_frozen BK105.out 8
        have hfz8_9 := blk_frozen BK105.out 9
        have hfz8_10 := blk_frozen BK105.out 10
        have hfz8_11 := blk_frozen BK105.out 11
        have hfz8_12 := blk_frozen BK105.out 12
        have hfz8_13 := blk_frozen BK105.out 13
        have hfz8_14 := blk_frozen BK105.out 14
        go_wp2_with (first | ((with_reducible refine gate_callee (f := 38) rfl ?_); refine goesL_ (some 10) rfl rfl Tryd.func38 (by kernel_rfl) rfl #[.int .i64 a0_3, .int .i64 0, .int .i64 2147483647] rfl (by (try simp only [List.map_toArray, List.map_cons, List.map_nil]); first | done | rfl | (simp only [List.length_drop, List.length_take]; rfl)) ?_; (with_reducible refine (event_within.calls a0_3 0 2147483647 t106 _ A7.out).mono ?_); rintro e w' ⟨rfl, ⟨nd, rfl⟩⟩; refine ⟨_, rfl, ?_⟩))
        go_ret
        exact ⟨by first | rfl | (simp [errW_none, errW_some] <;> rfl) | (simp [*, errW_none, errW_some] <;> rfl), by repeat (first | (with_reducible first | exact HB.out | apply below_alloc | apply pw_below_drewN | apply below_drew1 | refine below_set ?_ GE105.out) | exact HB.out)⟩
      · replace c6 := Bool.eq_false_iff.mpr c6
        subst c6
        have H1 : (if a0_0 = 3 then ((event_within.f a0_3 1 2).bind fun t107 => (some t107)) else ((event_within.f a0_3 1 2147483647).bind fun t108 => (some t108))) = some r := by rw [if_neg (show ¬ (false = true) by decide)] at H; exact H
        clear H
        have H := H1
        clear H1
        by_cases c9 : a0_0 = 3
        · rw [if_pos c9] at H
          have c9b0 : (a0_0 == 3) = true := beq_iff_eq.mpr c9
          have c9b1 : (a0_0 != 3) = false := bne_eq_false_iff_eq.mpr c9
          clear c9
          replace H := Option.bind_eq_some_iff.mp H
          obtain ⟨t107, A100, H⟩ := H
          replace H : (some t107) = some r := H
          have A10 := Aside0.mk A100
          clear A100
          obtain rfl := Option.some.inj H
          have hcz11_0 : wc.cell? ⟨gb105, 0, none⟩ = some (.int .i64 a0_0) := bc BK105 0
          have hcz11_1 : wc.cell? ⟨gb105, 1, none⟩ = some (.string a0_1) := bc BK105 1
          have hcz11_2 : wc.cell? ⟨gb105, 2, none⟩ = some (.string a0_2) := bc BK105 2
          have hcz11_3 : wc.cell? ⟨gb105, 3, none⟩ = some (.int .i64 a0_3) := bc BK105 3
          have hcz11_4 : wc.cell? ⟨gb105, 4, none⟩ = some (.int .i64 a0_4) := bc BK105 4
          have hcz11_5 : wc.cell? ⟨gb105, 5, none⟩ = some (.string a0_5) := bc BK105 5
          have hcz11_6 : wc.cell? ⟨gb105, 6, none⟩ = some (.int .i64 a0_6) := bc BK105 6
          have hcz11_7 : wc.cell? ⟨gb105, 7, none⟩ = some (.int .i64 a0_7) := bc BK105 7
          have hcz11_8 : wc.cell? ⟨gb105, 8, none⟩ = some (.int .i64 a0_8) := bc BK105 8
          have hcz11_9 : wc.cell? ⟨gb105, 9, none⟩ = some (.int .i64 a0_9) := bc BK105 9
          have hcz11_10 : wc.cell? ⟨gb105, 10, none⟩ = some (.int .i64 a0_10) := bc BK105 10
          have hcz11_11 : wc.cell? ⟨gb105, 11, none⟩ = some (.string a0_11) := bc BK105 11
          have hcz11_12 : wc.cell? ⟨gb105, 12, none⟩ = some (.string a0_12) := bc BK105 12
          have hcz11_13 : wc.cell? ⟨gb105, 13, none⟩ = some (.slice A0_13 l0_13.length c0_13) := bc BK105 13
          have hcz11_14 : wc.cell? ⟨gb105, 14, none⟩ = some (.int .i64 a0_14) := bc BK105 14
          have hfz11_0 := blk_frozen BK105.out 0
          have hfz11_1 := blk_frozen BK105.out 1
          have hfz11_2 := blk_frozen BK105.out 2
          have hfz11_3 := blk_frozen BK105.out 3
          have hfz11_4 := blk_frozen BK105.out 4
          have hfz11_5 := blk_frozen BK105.out 5
          have hfz11_6 := blk_frozen BK105.out 6
          have hfz11_7 := blk_frozen BK105.out 7
          have hfz11_8 := blk_frozen BK105.out 8
          have hfz11_9 := blk_frozen BK105.out 9
          have hfz11_10 := blk_frozen BK105.out 10
          have hfz11_11 := blk_frozen BK105.out 11
          have hfz11_12 := blk_frozen BK105.out 12
          have hfz11_13 := blk_frozen BK105.out 13
          have hfz11_14 := blk_frozen BK105.out 14
          go_wp2_with (first | ((with_reducible refine gate_callee (f := 38) rfl ?_); refine goesL_ (some 15) rfl rfl Tryd.func38 (by kernel_rfl) rfl #[.int .i64 a0_3, .int .i64 1, .int .i64 2] rfl (by (try simp only [List.map_toArray, List.map_cons, List.map_nil]); first | done | rfl | (simp only [List.length_drop, List.length_take]; rfl)) ?_; (with_reducible refine (event_within.calls a0_3 1 2 t107 _ A10.out).mono ?_); rintro e w' ⟨rfl, ⟨nd, rfl⟩⟩; refine ⟨_, rfl, ?_⟩))
          go_ret
          exact ⟨by first | rfl | (simp [errW_none, errW_some] <;> rfl) | (simp [*, errW_none, errW_some] <;> rfl), by repeat (first | (with_reducible first | exact HB.out | apply below_alloc | apply pw_below_drewN | apply below_drew1 | refine below_set ?_ GE105.out) | exact HB.out)⟩
        · rw [if_neg c9] at H
          have c9b0 : (a0_0 == 3) = false := beq_eq_false_iff_ne.mpr c9
          have c9b1 : (a0_0 != 3) = true := bne_iff_ne.mpr c9
          replace H := Option.bind_eq_some_iff.mp H
          obtain ⟨t108, A120, H⟩ := H
          replace H : (some t108) = some r := H
          have A12 := Aside0.mk A120
          clear A120
          obtain rfl := Option.some.inj H
          have hcz13_0 : wc.cell? ⟨gb105, 0, none⟩ = some (.int .i64 a0_0) := bc BK105 0
          have hcz13_1 : wc.cell? ⟨gb105, 1, none⟩ = some (.string a0_1) := bc BK105 1
          have hcz13_2 : wc.cell? ⟨gb105, 2, none⟩ = some (.string a0_2) := bc BK105 2
          have hcz13_3 : wc.cell? ⟨gb105, 3, none⟩ = some (.int .i64 a0_3) := bc BK105 3
          have hcz13_4 : wc.cell? ⟨gb105, 4, none⟩ = some (.int .i64 a0_4) := bc BK105 4
          have hcz13_5 : wc.cell? ⟨gb105, 5, none⟩ = some (.string a0_5) := bc BK105 5
          have hcz13_6 : wc.cell? ⟨gb105, 6, none⟩ = some (.int .i64 a0_6) := bc BK105 6
          have hcz13_7 : wc.cell? ⟨gb105, 7, none⟩ = some (.int .i64 a0_7) := bc BK105 7
          have hcz13_8 : wc.cell? ⟨gb105, 8, none⟩ = some (.int .i64 a0_8) := bc BK105 8
          have hcz13_9 : wc.cell? ⟨gb105, 9, none⟩ = some (.int .i64 a0_9) := bc BK105 9
          have hcz13_10 : wc.cell? ⟨gb105, 10, none⟩ = some (.int .i64 a0_10) := bc BK105 10
          have hcz13_11 : wc.cell? ⟨gb105, 11, none⟩ = some (.string a0_11) := bc BK105 11
          have hcz13_12 : wc.cell? ⟨gb105, 12, none⟩ = some (.string a0_12) := bc BK105 12
          have hcz13_13 : wc.cell? ⟨gb105, 13, none⟩ = some (.slice A0_13 l0_13.length c0_13) := bc BK105 13
          have hcz13_14 : wc.cell? ⟨gb105, 14, none⟩ = some (.int .i64 a0_14) := bc BK105 14
          have hfz13_0 := blk_frozen BK105.out 0
          have hfz13_1 := blk_frozen BK105.out 1
          have hfz13_2 := blk_frozen BK105.out 2
          have hfz13_3 := blk_frozen BK105.out 3
          have hfz13_4 := blk_frozen BK105.out 4
          have hfz13_5 := blk_frozen BK105.out 5
          have hfz13_6 := blk_frozen BK105.out 6
          have hfz13_7 := blk_frozen BK105.out 7
          have hfz13_8 := blk_frozen BK105.out 8
          have hfz13_9 := blk_frozen BK105.out 9
          have hfz13_10 := blk_frozen BK105.out 10
          have hfz13_11 := blk_frozen BK105.out 11
          have hfz13_12 := blk_frozen BK105.out 12
          have hfz13_13 := blk_frozen BK105.out 13
          have hfz13_14 := blk_frozen BK105.out 14
          go_wp2_with (first | ((with_reducible refine gate_callee (f := 38) rfl ?_); refine goesL_ (some 18) rfl rfl Tryd.func38 (by kernel_rfl) rfl #[.int .i64 a0_3, .int .i64 1, .int .i64 2147483647] rfl (by (try simp only [List.map_toArray, List.map_cons, List.map_nil]); first | done | rfl | (simp only [List.length_drop, List.length_take]; rfl)) ?_; (with_reducible refine (event_within.calls a0_3 1 2147483647 t108 _ A12.out).mono ?_); rintro e w' ⟨rfl, ⟨nd, rfl⟩⟩; refine ⟨_, rfl, ?_⟩))
          go_ret
          exact ⟨by first | rfl | (simp [errW_none, errW_some] <;> rfl) | (simp [*, errW_none, errW_some] <;> rfl), by repeat (first | (with_reducible first | exact HB.out | apply below_alloc | apply pw_below_drewN | apply below_drew1 | refine below_set ?_ GE105.out) | exact HB.out)⟩
end

section
/-! ### label_short: function 71 -/
/-- A byte that may stand in a name; one that may open it. -/
def isSign (b : UInt8) : Bool := decide (97 ≤ b.toNat) && decide (b.toNat ≤ 122) || decide (48 ≤ b.toNat) && decide (b.toNat ≤ 57) || decide (b.toNat = 45)
def isLetter (b : UInt8) : Bool := decide (97 ≤ b.toNat) && decide (b.toNat ≤ 122)
def shortL (l : List UInt8) (most : Int) : Bool := l.all isSign && l.head?.any isLetter && !(l.getLast? == some 45) && decide ((l.length : Int) ≤ most)
def label_short.f (a0 : ByteArray) (a1 : Int) : Option Bool := some (shortL a0.data.toList a1)

def letB (c : Int) : Bool := decide (97 ≤ c) && decide (c ≤ 122)
def sigB (c : Int) : Bool := letB c || (decide (48 ≤ c) && decide (c ≤ 57) || decide (c = 45))
set_option maxHeartbeats 8000000 in
set_option maxRecDepth 100000 in
theorem letter_walk (a0 : Int) (w : World) : Calls Tryd.prog 84 #[.int .i32 a0] w fun e w' => e = .returned (.bool (letB a0)) ∧ w' = w := by
  by_cases c2 : a0 ≥ 97
  · have c2b0 : decide (97 ≤ a0) = true := decide_eq_true c2
    clear c2
    go_enter Tryd.func84, Tryd.ntmps84
    go_wp2
    go_ret
    exact ⟨by unfold letB; rw [c2b0]; rfl, rfl⟩
  · have c2b0 : decide (97 ≤ a0) = false := decide_eq_false c2
    clear c2
    go_enter Tryd.func84, Tryd.ntmps84
    go_wp2
    go_ret
    exact ⟨by unfold letB; rw [c2b0]; rfl, rfl⟩
set_option maxHeartbeats 8000000 in
set_option maxRecDepth 100000 in
theorem sign_walk (a0 : Int) (w : World) : Calls Tryd.prog 83 #[.int .i32 a0] w fun e w' => e = .returned (.bool (sigB a0)) ∧ w' = w := by
  have b1 : a0 ≥ 48 ∨ ¬ a0 ≥ 48 := Classical.em _
  generalize hL : letB a0 = lb
  have hw := letter_walk a0
  rw [hL] at hw
  cases lb with
  | true =>
    go_enter Tryd.func83, Tryd.ntmps83
    go_wp2_with (go_at_call 84; refine (hw _).mono ?_; rintro e w' ⟨rfl, rfl⟩)
    go_wp2
    go_ret
    exact ⟨by unfold sigB; rw [hL]; rfl, rfl⟩
  | false =>
    by_cases c2 : a0 ≥ 48
    · have c2b0 : decide (48 ≤ a0) = true := decide_eq_true c2
      clear c2
      by_cases c3 : a0 ≤ 57
      · have c3b0 : decide (a0 ≤ 57) = true := decide_eq_true c3
        clear c3
        go_enter Tryd.func83, Tryd.ntmps83
        go_wp2_with (go_at_call 84; refine (hw _).mono ?_; rintro e w' ⟨rfl, rfl⟩)
        go_wp2
        go_ret
        exact ⟨by unfold sigB; rw [hL, c2b0, c3b0]; rfl, rfl⟩
      · have c3b0 : decide (a0 ≤ 57) = false := decide_eq_false c3
        clear c3
        go_enter Tryd.func83, Tryd.ntmps83
        go_wp2_with (go_at_call 84; refine (hw _).mono ?_; rintro e w' ⟨rfl, rfl⟩)
        go_wp2
        go_ret
        exact ⟨by unfold sigB; rw [hL, c2b0, c3b0]; rfl, rfl⟩
    · have c2b0 : decide (48 ≤ a0) = false := decide_eq_false c2
      clear c2
      go_enter Tryd.func83, Tryd.ntmps83
      go_wp2_with (go_at_call 84; refine (hw _).mono ?_; rintro e w' ⟨rfl, rfl⟩)
      go_wp2
      go_ret
      exact ⟨by unfold sigB; rw [hL, c2b0]; rfl, rfl⟩
theorem isLetter_int (b : UInt8) : letB ((b.toNat : Nat) : Int) = isLetter b := by
  unfold letB isLetter
  have e1 : (decide ((97 : Int) ≤ (b.toNat : Int))) = decide (97 ≤ b.toNat) := decide_eq_decide.2 (by omega)
  have e2 : (decide ((b.toNat : Int) ≤ 122)) = decide (b.toNat ≤ 122) := decide_eq_decide.2 (by omega)
  rw [e1, e2]
theorem isSign_int (b : UInt8) : sigB ((b.toNat : Nat) : Int) = isSign b := by
  unfold sigB isSign
  rw [isLetter_int]; unfold isLetter
  have e3 : (decide ((48 : Int) ≤ (b.toNat : Int))) = decide (48 ≤ b.toNat) := decide_eq_decide.2 (by omega)
  have e4 : (decide ((b.toNat : Int) ≤ 57)) = decide (b.toNat ≤ 57) := decide_eq_decide.2 (by omega)
  have e5 : (decide ((b.toNat : Int) = 45)) = decide (b.toNat = 45) := decide_eq_decide.2 (by omega)
  rw [e3, e4, e5, Bool.or_assoc]
theorem sign_high (c : Nat) (h : 128 ≤ c) : sigB ((c : Nat) : Int) = false := by
  simp [sigB, letB]; omega
theorem not_sign_high (b : UInt8) (h : 128 ≤ b.toNat) : isSign b = false := by
  simp [isSign]; omega
theorem isSign_low (b : UInt8) (h : isSign b = true) : b.toNat < 128 := by
  simp [isSign] at h; omega

/-- What is so far: the bytes before 'pos' are signs, the first a letter. -/
def Soft (l : List UInt8) (pos : Nat) (last : Int) : Prop :=
  pos ≤ l.length ∧ (∀ (i : Nat) (h : i < l.length), i < pos → isSign l[i] = true) ∧ (∀ (h : 0 < l.length), 0 < pos → isLetter l[0] = true) ∧
    (pos = 0 → last = 45) ∧ (∀ (h : pos - 1 < l.length), 0 < pos → last = ((l[pos - 1]).toNat : Int))
theorem soft_zero (l : List UInt8) : Soft l 0 45 := ⟨by omega, fun _ _ h => absurd h (by omega), fun _ h => absurd h (by omega), fun _ => rfl, fun _ h => absurd h (by omega)⟩
theorem soft_step {l : List UInt8} {pos : Nat} {last : Int} (h : Soft l pos last) (hp : pos < l.length) (hs : isSign l[pos] = true) (hl : pos = 0 → isLetter l[pos] = true) : Soft l (pos + 1) ((l[pos]).toNat : Int) := by
  obtain ⟨h1, h2, h3, h4, h5⟩ := h
  refine ⟨by omega, fun i hi hlt => ?_, fun h0 _ => ?_, fun h => absurd h (by omega), fun _ _ => by simp⟩
  · by_cases e : i = pos
    · subst e; exact hs
    · exact h2 i hi (by omega)
  · by_cases e : pos = 0
    · subst e; exact hl rfl
    · exact h3 h0 (by omega)
theorem soft_bad {l : List UInt8} {pos : Nat} (most : Int) (hp : pos < l.length) (hs : isSign l[pos] = false ∨ (pos = 0 ∧ isLetter l[pos] = false)) : shortL l most = false := by
  unfold shortL
  rcases hs with hs | ⟨rfl, hs⟩
  · have : l.all isSign = false := by
      rw [List.all_eq_false]
      exact ⟨l[pos], List.getElem_mem hp, by rw [hs]; decide⟩
    rw [this]; rfl
  · cases l with
    | nil => simp at hp
    | cons a l => have : isLetter a = false := hs
                  simp [this]
theorem soft_end {l : List UInt8} {pos : Nat} {last : Int} (most : Int) (h : Soft l pos last) (hp : ¬ pos < l.length) : shortL l most = (!(last == 45) && decide ((l.length : Int) ≤ most)) := by
  obtain ⟨h1, h2, h3, h4, h5⟩ := h
  obtain rfl : pos = l.length := by omega
  unfold shortL
  cases l with
  | nil => rw [h4 rfl]; rfl
  | cons a l =>
    have e1 : (a :: l).all isSign = true := by
      rw [List.all_eq_true]
      intro x hx
      obtain ⟨i, hi, rfl⟩ := List.getElem_of_mem hx
      exact h2 i hi hi
    have e2 : (a :: l).head?.any isLetter = true := by
      have := h3 (by simp) (by simp)
      simpa using this
    rw [e1, e2, h5 (by simp) (by simp), List.getLast?_eq_getElem?, List.getElem?_eq_getElem (by simp)]
    have e3 : ((some ((a :: l)[(a :: l).length - 1]) == some 45) : Bool) = ((((a :: l)[(a :: l).length - 1]).toNat : Int) == 45) := by
      generalize (a :: l)[(a :: l).length - 1] = b
      have : (b = 45) ↔ ((b.toNat : Int) = 45) := ⟨fun e => by subst e; rfl, fun e => UInt8.toNat_inj.1 (by show b.toNat = 45; omega)⟩
      by_cases hb : b = 45
      · subst hb; rfl
      · have h2 := mt this.2 hb
        rw [show ((some b == some (45 : UInt8)) : Bool) = false from beq_eq_false_iff_ne.2 (fun e => hb (Option.some.inj e))]
        exact (beq_eq_false_iff_ne.2 h2).symm
    rw [e3]
    simp
theorem pick_tt (a b : Bool) : (if a then Value.bool true else Value.bool b) = Value.bool (a || b) := by cases a <;> rfl
set_option maxHeartbeats 8000000 in
set_option maxRecDepth 100000 in
theorem label_short.calls (a0 : ByteArray) (a1 : Int) (r : Bool) (w : World) (h : label_short.f a0 a1 = some r) :
    Calls Tryd.prog 71 #[.string a0, .int .i64 a1] w fun e w' => e = .returned (.bool r) ∧ Below w.heap.size w w' := by
  have hr : shortL a0.data.toList a1 = r := Option.some.inj h
  clear h
  go_enter Tryd.func71, Tryd.ntmps71
  go_wp2
  go_loopw [5] (fun n w' => ∃ (pos : Nat) (last : Int), w' = w.iter a0 pos ∧ n = .int .i32 last ∧ Hid (Soft a0.data.toList pos last)) (fun _ w' => a0.size - w'.iterPos w.heap.size)
  case atStart => exact ⟨0, 45, rfl, rfl, soft_zero _⟩
  case round =>
    obtain ⟨pos, last, rfl, rfl, hc⟩ := hrel
    have hbel : ∀ p, Below w.heap.size w (w.iter a0 p) := fun p => (Below.refl _ w).alloc (Nat.le_refl _) _
    by_cases hp : pos < a0.size
    · have hnx : ∀ ty, (Instr.next (.pointer (some ⟨w.heap.size, 0, none⟩)) true ty).run Tryd.prog (w.iter a0 pos) = _ := fun ty => run_next_any w a0 pos ty hp
      have hpl : pos < a0.data.toList.length := hp
      have hb : a0[pos]'hp = a0.data.toList[pos]'hpl := rfl
      by_cases ha : (a0[pos]'hp).toNat < 128
      · rw [decode_ascii a0 pos hp ha] at hnx
        cases hs : isSign (a0[pos]'hp) with
        | false =>
          have hs' := isSign_int (a0[pos]'hp)
          rw [hs] at hs'
          have hf := soft_bad a1 hpl (.inl (hb ▸ hs))
          have hw := sign_walk ((a0[pos]'hp).toNat : Int)
          rw [hs'] at hw
          go_wp2_with (go_at_call 83; refine (hw _).mono ?_; rintro e w' ⟨rfl, rfl⟩)
          go_wp2
          go_ret
          exact ⟨by rw [← hr, hf]; rfl, hbel _⟩
        | true => 
          have hs' := isSign_int (a0[pos]'hp)
          rw [hs] at hs'
          have hw := sign_walk ((a0[pos]'hp).toNat : Int)
          rw [hs'] at hw
          by_cases h0 : pos = 0
          · subst h0
            have e0 : (w.iter a0 (0 + 1)) = w.iter a0 1 := rfl
            cases hl : isLetter (a0[0]'hp) with
            | false =>
              have hl' := isLetter_int (a0[0]'hp)
              rw [hl] at hl'
              have hf := soft_bad a1 hpl (.inr ⟨rfl, hb ▸ hl⟩)
              have hw2 := letter_walk ((a0[0]'hp).toNat : Int)
              rw [hl'] at hw2
              go_wp2_with (first | (go_at_call 83; refine (hw _).mono ?_; rintro e w' ⟨rfl, rfl⟩) | (go_at_call 84; refine (hw2 _).mono ?_; rintro e w' ⟨rfl, rfl⟩))
              go_wp2
              go_ret
              exact ⟨by rw [← hr, hf]; rfl, hbel _⟩
            | true =>
              have hl' := isLetter_int (a0[0]'hp)
              rw [hl] at hl'
              have hw2 := letter_walk ((a0[0]'hp).toNat : Int)
              rw [hl'] at hw2
              go_wp2_with (first | (go_at_call 83; refine (hw _).mono ?_; rintro e w' ⟨rfl, rfl⟩) | (go_at_call 84; refine (hw2 _).mono ?_; rintro e w' ⟨rfl, rfl⟩))
              go_wp2
              go_roundw
              case rel => exact ⟨0 + 1, _, rfl, rfl, soft_step hc.out hpl (hb ▸ hs) (fun _ => hb ▸ hl)⟩
              case measure => simp; omega
          · have h0' : ((pos : Int) == 0) = false := beq_eq_false_iff_ne.2 (by omega)
            go_wp2_with (first | (go_at_call 83; refine (hw _).mono ?_; rintro e w' ⟨rfl, rfl⟩))
            go_wp2
            go_roundw
            case rel => exact ⟨pos + 1, _, rfl, rfl, soft_step hc.out hpl (hb ▸ hs) (fun h => absurd h h0)⟩
            case measure => simp; omega
      · have hd := (decode_high a0 pos hp (by omega)).1
        have hw := sign_walk ((Utf8.decode a0 pos).1 : Int)
        rw [sign_high _ hd] at hw
        have hf := soft_bad a1 hpl (.inl (hb ▸ not_sign_high (a0[pos]'hp) (by omega)))
        go_wp2_with (go_at_call 83; refine (hw _).mono ?_; rintro e w' ⟨rfl, rfl⟩)
        go_wp2
        go_ret
        exact ⟨by rw [← hr, hf]; rfl, hbel _⟩
    · have hnx : ∀ ty, (Instr.next (.pointer (some ⟨w.heap.size, 0, none⟩)) true ty).run Tryd.prog (w.iter a0 pos) = _ := fun ty => run_next_end w a0 pos ty hp
      rw [soft_end a1 hc.out hp] at hr
      by_cases h45 : last = 45
      · subst h45
        go_wp2
        go_ret
        exact ⟨by rw [← hr]; rfl, hbel _⟩
      · rw [show (last == 45) = false from beq_eq_false_iff_ne.2 h45] at hr
        have hb1 : (last != 45) = true := by rw [bne, beq_eq_false_iff_ne.2 h45]; rfl
        have hb2 : (last == 45) = false := beq_eq_false_iff_ne.2 h45
        have hb3 : (last = 45) = False := eq_false h45
        have hb4 : decide (last = 45) = false := decide_eq_false h45
        go_wp2
        go_ret
        exact ⟨by rw [← hr]; rfl, hbel _⟩
end

section
/-! ### label_Name: function 70 -/
def label_Name.f (a0 : ByteArray) : Option (Bool) := (label_short.f a0 16).bind fun t147 => (some t147)
set_option maxHeartbeats 8000000 in
set_option maxRecDepth 100000 in
theorem label_Name.calls (a0 : ByteArray) (r : Bool) (w : World) (h : label_Name.f a0 = some r) :
    Calls Tryd.prog 70 #[.string a0] w fun e w' => e = .returned (.bool r) ∧ Below w.heap.size w w' := by
  have HB := Aside0.mk (Below.refl w.heap.size w)
  have H : ((label_short.f a0 16).bind fun t147 => (some t147)) = some r := h
  clear h
  replace H := Option.bind_eq_some_iff.mp H
  obtain ⟨t147, A20, H⟩ := H
  replace H : (some t147) = some r := H
  have A2 := Aside0.mk A20
  clear A20
  obtain rfl := Option.some.inj H
  go_enter Tryd.func70, Tryd.ntmps70
  go_wp2_with (first | ((with_reducible refine gate_callee (f := 71) rfl ?_); refine goesL_ (some 4) rfl rfl Tryd.func71 (by kernel_rfl) rfl #[.string a0, .int .i64 16] rfl (by (try simp only [List.map_toArray, List.map_cons, List.map_nil]); first | done | rfl | (simp only [List.length_drop, List.length_take]; rfl)) ?_; (with_reducible refine (label_short.calls a0 16 t147 _ A2.out).mono ?_); rintro e w3 ⟨rfl, hb⟩; refine ⟨_, rfl, ?_⟩; have n0_ := Aside0.mk (below_step (by repeat (first | (with_reducible first | exact HB.out | apply below_alloc | apply pw_below_drewN | apply below_drew1) | exact HB.out)) hb); clear HB; have HB := n0_; clear n0_; (try clear hb); (try clear hb2); (try clear hk); (try clear hi)))
  go_ret
  exact ⟨by first | rfl | (simp [errW_none, errW_some] <;> rfl) | (simp [*, errW_none, errW_some] <;> rfl), by repeat (first | (with_reducible first | exact HB.out | apply below_alloc | apply pw_below_drewN | apply below_drew1) | exact HB.out)⟩
end

section
/-! ### strconv_Itoa_91: function 91 -/
def strconv_Itoa_91.f (a0 : Int) : Option ByteArray := if -9223372036854775808 ≤ a0 ∧ a0 ≤ 9223372036854775807 then some ⟨(Lib.itoa a0).toArray⟩ else none
theorem strconv_Itoa_91.calls (a0 : Int) (r : ByteArray) (w : World) (hLd_ : Aside0 (LaidW w)) (h : strconv_Itoa_91.f a0 = some r) :
    Calls Tryd.prog 91 #[.int .i64 a0] w fun e w' => e = .returned (.string r) ∧ Below w.heap.size w w' := by
  unfold strconv_Itoa_91.f at h
  split at h
  · rename_i hb
    obtain rfl := Option.some.inj h
    refine (Tryd.strconv_Itoa a0 hb.1 hb.2 w hLd_.out.1).mono ?_
    rintro e w' ⟨rfl, k, os, rfl⟩
    exact ⟨rfl, Lib.below_grow _ w (Nat.le_refl _) k os⟩
  · cases h

-- NOT PRINTED: function 102 (errors_New)

-- NOT PRINTED: function 97 (strconv_baseError)

-- NOT PRINTED: function 98 (strconv_bitSizeError)

-- NOT PRINTED: function 90 (strconv_toError)

-- NOT PRINTED: function 81 (strconv_Atoi_81)
end

section
/-! ### label_Rev: function 82 -/
def label_Rev.j0 : Nat → ByteArray → Int → Bool → Option (ByteArray)
  | 0, _, _, _ => none
  | k + 1, x0, x1, x15 => if x15 = true then (some (⟨#[]⟩ : ByteArray)) else (if x0.size + 1 ≤ 9223372036854775807 then ((strconv_Itoa_91.f x1).bind fun t149 => (if (x0 ++ (⟨#[45]⟩ : ByteArray)).size + t149.size ≤ 9223372036854775807 then (some ((x0 ++ (⟨#[45]⟩ : ByteArray)) ++ t149)) else (none))) else (none))
def label_Rev.f (k : Nat) (a0 : ByteArray) (a1 : Int) : Option (ByteArray) := (label_Name.f a0).bind fun t148 => (if t148 = true then (if a1 < 1 then (label_Rev.j0 k a0 a1 true) else (label_Rev.j0 k a0 a1 (decide (a1 > 999999)))) else (label_Rev.j0 k a0 a1 true))
theorem label_Rev.mono_l : ∀ k, (∀ y0 y1 y2, LeO (label_Rev.j0 k y0 y1 y2) (label_Rev.j0 (k + 1) y0 y1 y2))
  | 0 => fun _ _ _ r h => by simp [label_Rev.j0] at h
  | k + 1 => by
    have ih0 := label_Rev.mono_l k
    · intro y0 y1 y2
      unfold label_Rev.j0
      repeat' first
      | (with_reducible exact ih0 _ _ _)
      | (with_reducible exact LeO.refl _)
      | (with_reducible exact LeO.none _)
      | (with_reducible refine LeO.ite ?_ ?_)
      | (with_reducible refine LeO.bind ?_ (fun _ => ?_))
      | exact ih0 _ _ _
      | exact LeO.none _
      | refine LeO.ite ?_ ?_
      | refine LeO.bind ?_ (fun _ => ?_)
theorem label_Rev.mono : ∀ a0 a1 k, LeO (label_Rev.f k a0 a1) (label_Rev.f (k + 1) a0 a1) := by
  intro a0 a1 k
  have ih0 := label_Rev.mono_l k
  unfold label_Rev.f
  repeat' first
      | (with_reducible exact ih0 _ _ _)
      | (with_reducible exact LeO.refl _)
      | (with_reducible exact LeO.none _)
      | (with_reducible refine LeO.ite ?_ ?_)
      | (with_reducible refine LeO.bind ?_ (fun _ => ?_))
      | exact ih0 _ _ _
      | exact LeO.none _
      | refine LeO.ite ?_ ?_
      | refine LeO.bind ?_ (fun _ => ?_)
set_option maxHeartbeats 8000000 in
set_option maxRecDepth 100000 in
theorem label_Rev.calls (k : Nat) (a0 : ByteArray) (a1 : Int) (r : ByteArray) (w : World) (hLd_ : Aside0 (LaidW w)) (h : label_Rev.f k a0 a1 = some r) :
    Calls Tryd.prog 82 #[.string a0, .int .i64 a1] w fun e w' => e = .returned (.string r) ∧ Below w.heap.size w w' := by
  have HB := Aside0.mk (Below.refl w.heap.size w)
  have H : ((label_Name.f a0).bind fun t148 => (if t148 = true then (if a1 < 1 then (label_Rev.j0 k a0 a1 true) else (label_Rev.j0 k a0 a1 (decide (a1 > 999999)))) else (label_Rev.j0 k a0 a1 true))) = some r := h
  clear h
  have HC3 := Aside0.mk H
  clear H
  go_enter Tryd.func82, Tryd.ntmps82
  go_upto_region 1 with (fail)
  go_cut [15] (fun v15 wc => ∃ (kq : Nat) (x15_2 : Bool), v15 = .bool x15_2 ∧ Aside0 (label_Rev.j0 kq a0 a1 x15_2 = some r) ∧ Aside0 (kq ≤ k) ∧ Aside0 (Below w.heap.size w wc))
  case first =>
    have H := HC3.out
    clear HC3
    replace H := Option.bind_eq_some_iff.mp H
    obtain ⟨t148, A40, H⟩ := H
    replace H : (if t148 = true then (if a1 < 1 then (label_Rev.j0 k a0 a1 true) else (label_Rev.j0 k a0 a1 (decide (a1 > 999999)))) else (label_Rev.j0 k a0 a1 true)) = some r := H
    have A4 := Aside0.mk A40
    clear A40
    by_cases c5 : t148 = true
    · subst c5
      have H1 : (if a1 < 1 then (label_Rev.j0 k a0 a1 true) else (label_Rev.j0 k a0 a1 (decide (a1 > 999999)))) = some r := by rw [if_pos rfl] at H; exact H
      clear H
      have H := H1
      clear H1
      by_cases c6 : a1 < 1
      · rw [if_pos c6] at H
        have c6b0 : decide (a1 < 1) = true := decide_eq_true c6
        clear c6
        (first | rw [c6b0] | (simp only [i64_w, i32_w]; rw [c6b0]) | rw [c6b1] | skip)
        have H' := Aside0.mk H
        clear H
        go_wp2_with (first | ((with_reducible refine gate_callee (f := 70) rfl ?_); refine goesL_ (some 6) rfl rfl Tryd.func70 (by kernel_rfl) rfl #[.string a0] rfl (by (try simp only [List.map_toArray, List.map_cons, List.map_nil]); first | done | rfl | (simp only [List.length_drop, List.length_take]; rfl)) ?_; (with_reducible refine (label_Name.calls a0 true _ A4.out).mono ?_); rintro e w7 ⟨rfl, hb⟩; refine ⟨_, rfl, ?_⟩; have n0_ := Aside0.mk (below_step (by repeat (first | (with_reducible first | exact HB.out | apply below_alloc | apply pw_below_drewN | apply below_drew1) | exact HB.out)) hb); clear HB; have HB := n0_; clear n0_; (try clear hb); (try clear hb2); (try clear hk); (try clear hi)))
        go_meet
        case rel => exact ⟨_, (true), (by first | rfl | (simp; done) | (simp [*]; done)), H', ⟨by first | omega | exact Nat.le_refl _⟩, ⟨by repeat (first | (with_reducible first | exact HB.out | apply below_alloc | apply pw_below_drewN | apply below_drew1) | exact HB.out)⟩⟩
      · rw [if_neg c6] at H
        have c6b0 : decide (a1 < 1) = false := decide_eq_false c6
        clear c6
        (first | rw [c6b0] | (simp only [i64_w, i32_w]; rw [c6b0]) | rw [c6b1] | skip)
        have H' := Aside0.mk H
        clear H
        go_wp2_with (first | ((with_reducible refine gate_callee (f := 70) rfl ?_); refine goesL_ (some 6) rfl rfl Tryd.func70 (by kernel_rfl) rfl #[.string a0] rfl (by (try simp only [List.map_toArray, List.map_cons, List.map_nil]); first | done | rfl | (simp only [List.length_drop, List.length_take]; rfl)) ?_; (with_reducible refine (label_Name.calls a0 true _ A4.out).mono ?_); rintro e w8 ⟨rfl, hb⟩; refine ⟨_, rfl, ?_⟩; have n0_ := Aside0.mk (below_step (by repeat (first | (with_reducible first | exact HB.out | apply below_alloc | apply pw_below_drewN | apply below_drew1) | exact HB.out)) hb); clear HB; have HB := n0_; clear n0_; (try clear hb); (try clear hb2); (try clear hk); (try clear hi)))
        go_meet
        case rel => exact ⟨_, (decide (a1 > 999999)), (by first | rfl | (simp; done) | (simp [*]; done)), H', ⟨by first | omega | exact Nat.le_refl _⟩, ⟨by repeat (first | (with_reducible first | exact HB.out | apply below_alloc | apply pw_below_drewN | apply below_drew1) | exact HB.out)⟩⟩
    · replace c5 := Bool.eq_false_iff.mpr c5
      subst c5
      have H1 : (label_Rev.j0 k a0 a1 true) = some r := by rw [if_neg (show ¬ (false = true) by decide)] at H; exact H
      clear H
      have H := H1
      clear H1
      have H' := Aside0.mk H
      clear H
      go_wp2_with (first | ((with_reducible refine gate_callee (f := 70) rfl ?_); refine goesL_ (some 6) rfl rfl Tryd.func70 (by kernel_rfl) rfl #[.string a0] rfl (by (try simp only [List.map_toArray, List.map_cons, List.map_nil]); first | done | rfl | (simp only [List.length_drop, List.length_take]; rfl)) ?_; (with_reducible refine (label_Name.calls a0 false _ A4.out).mono ?_); rintro e w9 ⟨rfl, hb⟩; refine ⟨_, rfl, ?_⟩; have n0_ := Aside0.mk (below_step (by repeat (first | (with_reducible first | exact HB.out | apply below_alloc | apply pw_below_drewN | apply below_drew1) | exact HB.out)) hb); clear HB; have HB := n0_; clear n0_; (try clear hb); (try clear hb2); (try clear hk); (try clear hi)))
      go_meet
      case rel => exact ⟨_, (true), (by first | rfl | (simp; done) | (simp [*]; done)), H', ⟨by first | omega | exact Nat.le_refl _⟩, ⟨by repeat (first | (with_reducible first | exact HB.out | apply below_alloc | apply pw_below_drewN | apply below_drew1) | exact HB.out)⟩⟩
  case rest =>
    clear HC3
    try clear p2
    try clear c5
    try clear c6
    try clear c6b0
    try clear c6b1
    try clear c7
    try clear c8
    obtain ⟨kq, x15_2, rfl, HA, HJ2, HB⟩ := hcut
    cases kq with
    | zero => exact absurd HA.out (by simp [label_Rev.j0])
    | succ kj2 =>
      have H := HA.out
      clear HA
      simp only [label_Rev.j0] at H
      by_cases c10 : x15_2 = true
      · subst c10
        have H1 : (some (⟨#[]⟩ : ByteArray)) = some r := by rw [if_pos rfl] at H; exact H
        clear H
        have H := H1
        clear H1
        obtain rfl := Option.some.inj H
        go_wp2
        go_ret
        exact ⟨by first | rfl | (simp [errW_none, errW_some] <;> rfl) | (simp [*, errW_none, errW_some] <;> rfl), by repeat (first | (with_reducible first | exact HB.out | apply below_alloc | apply pw_below_drewN | apply below_drew1) | exact HB.out)⟩
      · replace c10 := Bool.eq_false_iff.mpr c10
        subst c10
        have H1 : (if a0.size + 1 ≤ 9223372036854775807 then ((strconv_Itoa_91.f a1).bind fun t149 => (if (a0 ++ (⟨#[45]⟩ : ByteArray)).size + t149.size ≤ 9223372036854775807 then (some ((a0 ++ (⟨#[45]⟩ : ByteArray)) ++ t149)) else (none))) else (none)) = some r := by rw [if_neg (show ¬ (false = true) by decide)] at H; exact H
        clear H
        have H := H1
        clear H1
        by_cases c11 : a0.size + 1 ≤ 9223372036854775807
        rotate_left
        · rw [if_neg c11] at H
          exact absurd H (by simp)
        rw [if_pos c11] at H
        have c11b0 := eq_true c11
        have c11b1 : decide (a0.size + 1 ≤ 9223372036854775807) = true := decide_eq_true c11
        try have c11b2 : (9223372036854775807 < a0.size + 1) = False := eq_false (Nat.not_lt.2 c11)
        try (have c11b4 := c11; simp at c11b4; have c11b5 := eq_false (Nat.not_lt.2 c11b4))
        replace H := Option.bind_eq_some_iff.mp H
        obtain ⟨t149, A120, H⟩ := H
        replace H : (if (a0 ++ (⟨#[45]⟩ : ByteArray)).size + t149.size ≤ 9223372036854775807 then (some ((a0 ++ (⟨#[45]⟩ : ByteArray)) ++ t149)) else (none)) = some r := H
        have A12 := Aside0.mk A120
        clear A120
        by_cases c13 : (a0 ++ (⟨#[45]⟩ : ByteArray)).size + t149.size ≤ 9223372036854775807
        rotate_left
        · rw [if_neg c13] at H
          exact absurd H (by simp)
        rw [if_pos c13] at H
        have c13b0 := eq_true c13
        have c13b1 : decide ((a0 ++ (⟨#[45]⟩ : ByteArray)).size + t149.size ≤ 9223372036854775807) = true := decide_eq_true c13
        try have c13b3 : (9223372036854775807 < a0.size + 1 + t149.size) = False := eq_false (by have h_ := c13; simp only [ByteArray.size_append] at h_; exact Nat.not_lt.2 h_)
        try have c13b2 : (9223372036854775807 < (a0 ++ (⟨#[45]⟩ : ByteArray)).size + t149.size) = False := eq_false (Nat.not_lt.2 c13)
        try (have c13b4 := c13; simp at c13b4; have c13b5 := eq_false (Nat.not_lt.2 c13b4))
        obtain rfl := Option.some.inj H
        go_wp2_with (first | ((with_reducible refine gate_callee (f := 91) rfl ?_); refine goesL_ (some 19) rfl rfl Tryd.func91 (by kernel_rfl) rfl #[.int .i64 a1] rfl (by (try simp only [List.map_toArray, List.map_cons, List.map_nil]); first | done | rfl | (simp only [List.length_drop, List.length_take]; rfl)) ?_; (with_reducible refine (strconv_Itoa_91.calls a1 t149 _ ?side1 A12.out).mono ?_); (case side1 => first | exact hLd_.out | exact hLd_ | exact ⟨LaidW.below hLd_.out (by repeat (first | (with_reducible first | exact HB.out | apply below_alloc | apply pw_below_drewN | apply below_drew1) | exact HB.out))⟩ | exact ⟨LaidW.below hLd_.out (by repeat (first | exact Below.refl _ _ | apply below_alloc | apply pw_below_drewN | apply below_drew1))⟩); rintro e w14 ⟨rfl, hb⟩; refine ⟨_, rfl, ?_⟩; have n0_ := Aside0.mk (below_step (by repeat (first | (with_reducible first | exact HB.out | apply below_alloc | apply pw_below_drewN | apply below_drew1) | exact HB.out)) hb); clear HB; have HB := n0_; clear n0_; (try clear hb); (try clear hb2); (try clear hk); (try clear hi)))
        go_ret
        exact ⟨by first | rfl | (simp [errW_none, errW_some] <;> rfl) | (simp [*, errW_none, errW_some] <;> rfl), by repeat (first | (with_reducible first | exact HB.out | apply below_alloc | apply pw_below_drewN | apply below_drew1) | exact HB.out)⟩
end

section
/-! ### label_Split: function 69 -/
/-- How label.Split parts a text: at the last '-'; behind it a number, of which Rev makes the same text. -/
def splitAt (s : ByteArray) (i : Nat) : Option (ByteArray × Int × Bool) :=
  match Lib.atoiAll (s.extract (i + 1) s.size).data.toList with
  | .ok v => (label_Rev.f 1 (s.extract 0 i) v).bind fun r => if r.toList = s.toList then some (s.extract 0 i, v, true) else some (⟨#[]⟩, 0, false)
  | _ => some (⟨#[]⟩, 0, false)
def label_Split.f (a0 : ByteArray) : Option (ByteArray × Int × Bool) :=
  if a0.size ≤ 140737488351232 then
    if Lib.lastIndexByte a0 45 < 0 then some (⟨#[]⟩, 0, false) else splitAt a0 (Lib.lastIndexByte a0 45).toNat
  else none
theorem last_bounds (s : ByteArray) (h : ¬ Lib.lastIndexByte s 45 < 0) : ∃ i : Nat, i < s.size ∧ Lib.lastIndexByte s 45 = (i : Int) := by
  rcases Lib.lastIdx_spec s 45 s.size with ⟨e, _⟩ | ⟨i, hi, e, _⟩
  · exact absurd (show Lib.lastIndexByte s 45 < 0 by unfold Lib.lastIndexByte; omega) h
  · exact ⟨i, hi, e⟩
theorem atoi_world {w w' : World} (h : w' = w ∨ ∃ t, w' = Lib.bytesWorld w 5 t) : Below w.heap.size w w' := by
  rcases h with rfl | ⟨t, rfl⟩
  · exact Below.refl _ _
  · exact Lib.bytesWorld_below _ _ _
set_option maxHeartbeats 8000000 in
set_option maxRecDepth 100000 in
theorem label_Split.calls (a0 : ByteArray) (r1 : ByteArray) (r2 : Int) (r3 : Bool) (w : World) (hLd_ : Aside0 (LaidW w)) (h : label_Split.f a0 = some (r1, r2, r3)) :
    Calls Tryd.prog 69 #[.string a0] w fun e w' => e = .returned (.tuple #[.string r1, .int .i64 r2, .bool r3]) ∧ Below w.heap.size w w' := by
  unfold label_Split.f at h
  by_cases hsz : a0.size ≤ 140737488351232
  case neg => rw [if_neg hsz] at h; cases h
  rw [if_pos hsz] at h
  have hLI := Tryd.strings_LastIndex_one a0 ⟨#[45]⟩ rfl (by omega) w
  have hLI : Calls Tryd.prog 80 #[.string a0, .string ⟨#[45]⟩] w fun e w' => e = .returned (.int .i64 (Lib.lastIndexByte a0 45)) ∧ w' = w := hLI
  by_cases hneg : Lib.lastIndexByte a0 45 < 0
  · rw [if_pos hneg] at h
    obtain ⟨rfl, rfl, rfl⟩ : (⟨#[]⟩ : ByteArray) = r1 ∧ (0 : Int) = r2 ∧ false = r3 := by injection h with h; injection h with h1 h2; injection h2 with h2 h3; exact ⟨h1, h2, h3⟩
    generalize Lib.lastIndexByte a0 45 = li at hLI hneg
    have hn1 : decide (li < 0) = true := decide_eq_true hneg
    go_enter Tryd.func69, Tryd.ntmps69
    go_wp2_with (go_at_call 80; refine hLI.mono ?_; rintro e w' ⟨rfl, rfl⟩)
    go_wp2
    go_ret3
    exact ⟨rfl, Below.refl _ _⟩
  · rw [if_neg hneg] at h
    obtain ⟨i, hi, e⟩ := last_bounds a0 hneg
    rw [e] at hLI h hneg
    clear hneg e
    rw [show ((i : Nat) : Int).toNat = i from rfl] at h
    unfold splitAt at h
    generalize hT : a0.extract (i + 1) a0.size = t at h
    have htsz : t.size ≤ 140737488351232 := by rw [← hT]; simp; omega
    have hA : (Tryd.prog.funcs.size = Tryd.prog.funcs.size) := rfl
    have hi1 : (IntKind.i64.wrap ((i : Int) + 1)) = ((i + 1 : Nat) : Int) := by
      rw [i64_w]; unfold wrap64; omega
    have hng : decide ((i : Int) < 0) = false := decide_eq_false (by omega)
    have g1 : decide ((i : Int) + 1 ≤ (a0.size : Int)) = true := decide_eq_true (by omega)
    have g2 : decide ((0 : Int) ≤ (i : Int) + 1) = true := decide_eq_true (by omega)
    rcases hE : Lib.atoiAll t.data.toList with v | _ | _
    · rw [hE] at h
      obtain ⟨rr, hR, h⟩ := Option.bind_eq_some_iff.mp h
      have hAt := Tryd.strconv_Atoi_ok t (by omega) v hE
      by_cases hq : rr.toList = a0.toList
      · rw [if_pos hq] at h
        obtain ⟨rfl, rfl, rfl⟩ : a0.extract 0 i = r1 ∧ v = r2 ∧ true = r3 := by injection h with h; injection h with h1 h2; injection h2 with h2 h3; exact ⟨h1, h2, h3⟩
        have hq1 : (rr.toList != a0.toList) = false := by rw [hq]; simp
        have hq2 : (rr.toList = a0.toList) = True := eq_true hq
        have hq3 : (rr.toList == a0.toList) = true := by rw [hq]; simp
        go_enter Tryd.func69, Tryd.ntmps69
        go_wp2_with (first | (go_at_call 80; refine hLI.mono ?_; rintro e w' ⟨rfl, rfl⟩) | (go_at_call 81; refine (hAt _).mono ?_; rintro e w1 ⟨rfl, hW⟩; have hb1 := atoi_world hW; clear hW) | (go_at_call 82; refine (label_Rev.calls 1 (a0.extract 0 i) v rr _ ⟨hLd_.out.below hb1⟩ hR).mono ?_; rintro e w2 ⟨rfl, hb2⟩))
        go_wp2
        go_ret3
        exact ⟨rfl, hb1.trans (hb2.mono hb1.size)⟩
      · rw [if_neg hq] at h
        obtain ⟨rfl, rfl, rfl⟩ : (⟨#[]⟩ : ByteArray) = r1 ∧ (0 : Int) = r2 ∧ false = r3 := by injection h with h; injection h with h1 h2; injection h2 with h2 h3; exact ⟨h1, h2, h3⟩
        have hq1 : (rr.toList != a0.toList) = true := by simpa using hq
        have hq2 : (rr.toList = a0.toList) = False := eq_false hq
        have hq3 : (rr.toList == a0.toList) = false := by simpa using hq
        go_enter Tryd.func69, Tryd.ntmps69
        go_wp2_with (first | (go_at_call 80; refine hLI.mono ?_; rintro e w' ⟨rfl, rfl⟩) | (go_at_call 81; refine (hAt _).mono ?_; rintro e w1 ⟨rfl, hW⟩; have hb1 := atoi_world hW; clear hW) | (go_at_call 82; refine (label_Rev.calls 1 (a0.extract 0 i) v rr _ ⟨hLd_.out.below hb1⟩ hR).mono ?_; rintro e w2 ⟨rfl, hb2⟩))
        go_wp2
        go_ret3
        exact ⟨rfl, hb1.trans (hb2.mono hb1.size)⟩
    · rw [hE] at h
      obtain ⟨rfl, rfl, rfl⟩ : (⟨#[]⟩ : ByteArray) = r1 ∧ (0 : Int) = r2 ∧ false = r3 := by injection h with h; injection h with h1 h2; injection h2 with h2 h3; exact ⟨h1, h2, h3⟩
      obtain ⟨_, ⟨tp, p, hvar⟩, _⟩ := hLd_.out
      have hAt := Any.strconv_Atoi_syntax_var Tryd.laysC172 t (by omega) hE tp p w hvar
      clear hvar
      go_enter Tryd.func69, Tryd.ntmps69
      go_wp2_with (first | (go_at_call 80; refine hLI.mono ?_; rintro e w' ⟨rfl, rfl⟩) | (go_at_call 81; refine hAt.mono ?_; rintro e w1 ⟨N, rfl, _, _, hb1⟩))
      go_wp2
      go_ret3
      exact ⟨rfl, hb1⟩
    · rw [hE] at h
      obtain ⟨rfl, rfl, rfl⟩ : (⟨#[]⟩ : ByteArray) = r1 ∧ (0 : Int) = r2 ∧ false = r3 := by injection h with h; injection h with h1 h2; injection h2 with h2 h3; exact ⟨h1, h2, h3⟩
      obtain ⟨_, _, ⟨tp, p, hvar⟩⟩ := hLd_.out
      have hAt := Any.strconv_Atoi_range_var Tryd.laysC172 t (by omega) hE tp p w hvar
      clear hvar
      go_enter Tryd.func69, Tryd.ntmps69
      go_wp2_with (first | (go_at_call 80; refine hLI.mono ?_; rintro e w' ⟨rfl, rfl⟩) | (go_at_call 81; refine hAt.mono ?_; rintro e w1 ⟨N, rfl, _, _, hb1⟩))
      go_wp2
      go_ret3
      exact ⟨rfl, hb1⟩
end

section
/-! ### event_named: function 36 -/
def event_named.j0 : Nat → Bool → Int → ByteArray → ByteArray → Int → Int → ByteArray → Int → Int → Int → Int → Int → ByteArray → ByteArray → List (S39) → Int → Option (Bool)
  | 0, _, _, _, _, _, _, _, _, _, _, _, _, _, _, _, _ => none
  | k + 1, x13, x151000, x151001, x151002, x151003, x151004, x151005, x151006, x151007, x151008, x151009, x151010, x151011, x151012, x151013, x151014 => if x13 = true then ((label_Split.f x151001).bind fun bt151 => (some bt151.2.2)) else ((label_Name.f x151001).bind fun t154 => (some t154))
def event_named.f (k : Nat) (a0_0 : Int) (a0_1 : ByteArray) (a0_2 : ByteArray) (a0_3 : Int) (a0_4 : Int) (a0_5 : ByteArray) (a0_6 : Int) (a0_7 : Int) (a0_8 : Int) (a0_9 : Int) (a0_10 : Int) (a0_11 : ByteArray) (a0_12 : ByteArray) (l0_13 : List (S39)) (a0_14 : Int) : Option (Bool) := if a0_0 = 12 then (event_named.j0 k true a0_0 a0_1 a0_2 a0_3 a0_4 a0_5 a0_6 a0_7 a0_8 a0_9 a0_10 a0_11 a0_12 l0_13 a0_14) else (event_named.j0 k (a0_0 == 13) a0_0 a0_1 a0_2 a0_3 a0_4 a0_5 a0_6 a0_7 a0_8 a0_9 a0_10 a0_11 a0_12 l0_13 a0_14)
theorem event_named.mono_l : ∀ k, (∀ y0 y1 y2 y3 y4 y5 y6 y7 y8 y9 y10 y11 y12 y13 y14 y15, LeO (event_named.j0 k y0 y1 y2 y3 y4 y5 y6 y7 y8 y9 y10 y11 y12 y13 y14 y15) (event_named.j0 (k + 1) y0 y1 y2 y3 y4 y5 y6 y7 y8 y9 y10 y11 y12 y13 y14 y15))
  | 0 => fun _ _ _ _ _ _ _ _ _ _ _ _ _ _ _ _ r h => by simp [event_named.j0] at h
  | k + 1 => by
    have ih0 := event_named.mono_l k
    · intro y0 y1 y2 y3 y4 y5 y6 y7 y8 y9 y10 y11 y12 y13 y14 y15
      unfold event_named.j0
      repeat' first
      | (with_reducible exact ih0 _ _ _ _ _ _ _ _ _ _ _ _ _ _ _ _)
      | (with_reducible exact LeO.refl _)
      | (with_reducible exact LeO.none _)
      | (with_reducible refine LeO.ite ?_ ?_)
      | (with_reducible refine LeO.bind ?_ (fun _ => ?_))
      | exact ih0 _ _ _ _ _ _ _ _ _ _ _ _ _ _ _ _
      | exact LeO.none _
      | refine LeO.ite ?_ ?_
      | refine LeO.bind ?_ (fun _ => ?_)
theorem event_named.mono : ∀ a0 a1 a2 a3 a4 a5 a6 a7 a8 a9 a10 a11 a12 a13 a14 k, LeO (event_named.f k a0 a1 a2 a3 a4 a5 a6 a7 a8 a9 a10 a11 a12 a13 a14) (event_named.f (k + 1) a0 a1 a2 a3 a4 a5 a6 a7 a8 a9 a10 a11 a12 a13 a14) := by
  intro a0 a1 a2 a3 a4 a5 a6 a7 a8 a9 a10 a11 a12 a13 a14 k
  have ih0 := event_named.mono_l k
  unfold event_named.f
  repeat' first
      | (with_reducible exact ih0 _ _ _ _ _ _ _ _ _ _ _ _ _ _ _ _)
      | (with_reducible exact LeO.refl _)
      | (with_reducible exact LeO.none _)
      | (with_reducible refine LeO.ite ?_ ?_)
      | (with_reducible refine LeO.bind ?_ (fun _ => ?_))
      | exact ih0 _ _ _ _ _ _ _ _ _ _ _ _ _ _ _ _
      | exact LeO.none _
      | refine LeO.ite ?_ ?_
      | refine LeO.bind ?_ (fun _ => ?_)
set_option maxHeartbeats 8000000 in
set_option maxRecDepth 100000 in
theorem event_named.calls (k : Nat) (a0_0 : Int) (a0_1 : ByteArray) (a0_2 : ByteArray) (a0_3 : Int) (a0_4 : Int) (a0_5 : ByteArray) (a0_6 : Int) (a0_7 : Int) (a0_8 : Int) (a0_9 : Int) (a0_10 : Int) (a0_11 : ByteArray) (a0_12 : ByteArray) (A0_13 : Option Addr) (c0_13 : Nat) (l0_13 : List (S39)) (a0_14 : Int) (r : Bool) (w : World) (hLd_ : Aside0 (LaidW w)) (hr0_13 : Kd.C k39 w A0_13 l0_13.length l0_13) (hc0_13 : l0_13.length ≤ c0_13) (h : event_named.f k a0_0 a0_1 a0_2 a0_3 a0_4 a0_5 a0_6 a0_7 a0_8 a0_9 a0_10 a0_11 a0_12 l0_13 a0_14 = some r) :
    Calls Tryd.prog 36 #[.agg #[.int .i64 a0_0, .string a0_1, .string a0_2, .int .i64 a0_3, .int .i64 a0_4, .string a0_5, .int .i64 a0_6, .int .i64 a0_7, .int .i64 a0_8, .int .i64 a0_9, .int .i64 a0_10, .string a0_11, .string a0_12, .slice A0_13 l0_13.length c0_13, .int .i64 a0_14]] w fun e w' => e = .returned (.bool r) ∧ Below w.heap.size w w' := by
  have hu28 := Tryd.underlying28
  have HR0_13 := Aside0.mk hr0_13
  have HC0_13 := Aside0.mk hc0_13
  clear hr0_13 hc0_13
  have HB := Aside0.mk (Below.refl w.heap.size w)
  have H : (if a0_0 = 12 then (event_named.j0 k true a0_0 a0_1 a0_2 a0_3 a0_4 a0_5 a0_6 a0_7 a0_8 a0_9 a0_10 a0_11 a0_12 l0_13 a0_14) else (event_named.j0 k (a0_0 == 13) a0_0 a0_1 a0_2 a0_3 a0_4 a0_5 a0_6 a0_7 a0_8 a0_9 a0_10 a0_11 a0_12 l0_13 a0_14)) = some r := h
  clear h
  have HC2 := Aside0.mk H
  clear H
  go_enter Tryd.func36, Tryd.ntmps36
  go_upto_region 1 with (first | ((with_reducible refine gate_dst (N := 1) rfl ?_); refine box_event ?hg (N := 1) ?hd (cs := #[.int .i64 a0_0, .string a0_1, .string a0_2, .int .i64 a0_3, .int .i64 a0_4, .string a0_5, .int .i64 a0_6, .int .i64 a0_7, .int .i64 a0_8, .int .i64 a0_9, .int .i64 a0_10, .string a0_11, .string a0_12, .slice A0_13 l0_13.length c0_13, .int .i64 a0_14]) (t := 28) ?hr ?_; (case hd => rfl); (case hg => rfl); (case hr => first | (go_simp; done) | (go_simp; rfl)); intro gb150 hg w3 hbox hb; have n0_ := Aside0.mk (below_step (by repeat (first | (with_reducible first | exact HB.out | apply below_alloc | apply pw_below_drewN | apply below_drew1) | exact HB.out)) hb); have n1_ := Aside0.mk (hbox); have n2_ := Aside0.mk ((by rw [hg]; exact (below_size (by repeat (first | (with_reducible first | exact HB.out | apply below_alloc | apply pw_below_drewN | apply below_drew1) | exact HB.out))) : w.heap.size ≤ gb150)); have n3_ := Aside0.mk ((by rw [hg]; exact (below_size (by repeat (first | (with_reducible first | exact HB.out | apply below_alloc | apply pw_below_drewN | apply below_drew1) | exact HB.out))) : w.heap.size ≤ gb150)); clear HB; have HB := n0_; have BK150 := n1_; have GW150 := n2_; have GE150 := n3_; clear n0_ n1_ n2_ n3_; clear hb hbox hg))
  (try simp only [Act.put, List.setIfInBounds_toArray, List.set_cons_zero, List.set_cons_succ])
  go_cut [13] (fun v13 wc => ∃ (kq : Nat) (x13_1 : Bool), v13 = .bool x13_1 ∧ Aside0 (event_named.j0 kq x13_1 a0_0 a0_1 a0_2 a0_3 a0_4 a0_5 a0_6 a0_7 a0_8 a0_9 a0_10 a0_11 a0_12 l0_13 a0_14 = some r) ∧ Aside0 (kq ≤ k) ∧ Aside0 (wc.heap[gb150]? = some (.cells #[.int .i64 a0_0, .string a0_1, .string a0_2, .int .i64 a0_3, .int .i64 a0_4, .string a0_5, .int .i64 a0_6, .int .i64 a0_7, .int .i64 a0_8, .int .i64 a0_9, .int .i64 a0_10, .string a0_11, .string a0_12, (.slice A0_13 l0_13.length c0_13), .int .i64 a0_14] 28 (0, 0))) ∧ Aside0 (Below w.heap.size w wc))
  case first =>
    have H := HC2.out
    clear HC2
    by_cases c4 : a0_0 = 12
    · rw [if_pos c4] at H
      have c4b0 : (a0_0 == 12) = true := beq_iff_eq.mpr c4
      have c4b1 : (a0_0 != 12) = false := bne_eq_false_iff_eq.mpr c4
      clear c4
      (first | rw [c4b0] | (simp only [i64_w, i32_w]; rw [c4b0]) | rw [c4b1] | skip)
      have H' := Aside0.mk H
      clear H
      have hcz5_0 : w3.cell? ⟨gb150, 0, none⟩ = some (.int .i64 a0_0) := bc BK150 0
      have hcz5_1 : w3.cell? ⟨gb150, 1, none⟩ = some (.string a0_1) := bc BK150 1
      have hcz5_2 : w3.cell? ⟨gb150, 2, none⟩ = some (.string a0_2) := bc BK150 2
      have hcz5_3 : w3.cell? ⟨gb150, 3, none⟩ = some (.int .i64 a0_3) := bc BK150 3
      have hcz5_4 : w3.cell? ⟨gb150, 4, none⟩ = some (.int .i64 a0_4) := bc BK150 4
      have hcz5_5 : w3.cell? ⟨gb150, 5, none⟩ = some (.string a0_5) := bc BK150 5
      have hcz5_6 : w3.cell? ⟨gb150, 6, none⟩ = some (.int .i64 a0_6) := bc BK150 6
      have hcz5_7 : w3.cell? ⟨gb150, 7, none⟩ = some (.int .i64 a0_7) := bc BK150 7
      have hcz5_8 : w3.cell? ⟨gb150, 8, none⟩ = some (.int .i64 a0_8) := bc BK150 8
      have hcz5_9 : w3.cell? ⟨gb150, 9, none⟩ = some (.int .i64 a0_9) := bc BK150 9
      have hcz5_10 : w3.cell? ⟨gb150, 10, none⟩ = some (.int .i64 a0_10) := bc BK150 10
      have hcz5_11 : w3.cell? ⟨gb150, 11, none⟩ = some (.string a0_11) := bc BK150 11
      have hcz5_12 : w3.cell? ⟨gb150, 12, none⟩ = some (.string a0_12) := bc BK150 12
      have hcz5_13 : w3.cell? ⟨gb150, 13, none⟩ = some (.slice A0_13 l0_13.length c0_13) := bc BK150 13
      have hcz5_14 : w3.cell? ⟨gb150, 14, none⟩ = some (.int .i64 a0_14) := bc BK150 14
      have hfz5_0 := blk_frozen BK150.out 0
      have hfz5_1 := blk_frozen BK150.out 1
      have hfz5_2 := blk_frozen BK150.out 2
      have hfz5_3 := blk_frozen BK150.out 3
      have hfz5_4 := blk_frozen BK150.out 4
      have hfz5_5 := blk_frozen BK150.out 5
      have hfz5_6 := blk_frozen BK150.out 6
      have hfz5_7 := blk_frozen BK150.out 7
      have hfz5_8 := blk_frozen BK150.out 8
      have hfz5_9 := blk_frozen BK150.out 9
      have hfz5_10 := blk_frozen BK150.out 10
      have hfz5_11 := blk_frozen BK150.out 11
      have hfz5_12 := blk_frozen BK150.out 12
      have hfz5_13 := blk_frozen BK150.out 13
      have hfz5_14 := blk_frozen BK150.out 14
      go_wp2
      go_meet
      case rel => exact ⟨_, (true), (by first | rfl | (simp; done) | (simp [*]; done)), H', ⟨by first | omega | exact Nat.le_refl _⟩, ⟨by (with_reducible repeat (first | refine blk_drewN ?_ _ | refine blk_drew ?_ | refine blk_alloc ?_ _)); exact BK150.out⟩, ⟨by repeat (first | (with_reducible first | exact HB.out | apply below_alloc | apply pw_below_drewN | apply below_drew1 | refine below_set ?_ GE150.out) | exact HB.out)⟩⟩
    · rw [if_neg c4] at H
      have c4b0 : (a0_0 == 12) = false := beq_eq_false_iff_ne.mpr c4
      have c4b1 : (a0_0 != 12) = true := bne_iff_ne.mpr c4
      (first | rw [c4b0] | (simp only [i64_w, i32_w]; rw [c4b0]) | rw [c4b1] | skip)
      have H' := Aside0.mk H
      clear H
      have hcz6_0 : w3.cell? ⟨gb150, 0, none⟩ = some (.int .i64 a0_0) := bc BK150 0
      have hcz6_1 : w3.cell? ⟨gb150, 1, none⟩ = some (.string a0_1) := bc BK150 1
      have hcz6_2 : w3.cell? ⟨gb150, 2, none⟩ = some (.string a0_2) := bc BK150 2
      have hcz6_3 : w3.cell? ⟨gb150, 3, none⟩ = some (.int .i64 a0_3) := bc BK150 3
      have hcz6_4 : w3.cell? ⟨gb150, 4, none⟩ = some (.int .i64 a0_4) := bc BK150 4
      have hcz6_5 : w3.cell? ⟨gb150, 5, none⟩ = some (.string a0_5) := bc BK150 5
      have hcz6_6 : w3.cell? ⟨gb150, 6, none⟩ = some (.int .i64 a0_6) := bc BK150 6
      have hcz6_7 : w3.cell? ⟨gb150, 7, none⟩ = some (.int .i64 a0_7) := bc BK150 7
      have hcz6_8 : w3.cell? ⟨gb150, 8, none⟩ = some (.int .i64 a0_8) := bc BK150 8
      have hcz6_9 : w3.cell? ⟨gb150, 9, none⟩ = some (.int .i64 a0_9) := bc BK150 9
      have hcz6_10 : w3.cell? ⟨gb150, 10, none⟩ = some (.int .i64 a0_10) := bc BK150 10
      have hcz6_11 : w3.cell? ⟨gb150, 11, none⟩ = some (.string a0_11) := bc BK150 11
      have hcz6_12 : w3.cell? ⟨gb150, 12, none⟩ = some (.string a0_12) := bc BK150 12
      have hcz6_13 : w3.cell? ⟨gb150, 13, none⟩ = some (.slice A0_13 l0_13.length c0_13) := bc BK150 13
      have hcz6_14 : w3.cell? ⟨gb150, 14, none⟩ = some (.int .i64 a0_14) := bc BK150 14
      have hfz6_0 := blk_frozen BK150.out 0
      have hfz6_1 := blk_frozen BK150.out 1
      have hfz6_2 := blk_frozen BK150.out 2
      have hfz6_3 := blk_frozen BK150.out 3
      have hfz6_4 := blk_frozen BK150.out 4
      have hfz6_5 := blk_frozen BK150.out 5
      have hfz6_6 := blk_frozen BK150.out 6
      have hfz6_7 := blk_frozen BK150.out 7
      have hfz6_8 := blk_frozen BK150.out 8
      have hfz6_9 := blk_frozen BK150.out 9
      have hfz6_10 := blk_frozen BK150.out 10
      have hfz6_11 := blk_frozen BK150.out 11
      have hfz6_12 := blk_frozen BK150.out 12
      have hfz6_13 := blk_frozen BK150.out 13
      have hfz6_14 := blk_frozen BK150.out 14
      go_wp2
      go_meet
      case rel => exact ⟨_, ((a0_0 == 13)), (by first | rfl | (simp; done) | (simp [*]; done)), H', ⟨by first | omega | exact Nat.le_refl _⟩, ⟨by (with_reducible repeat (first | refine blk_drewN ?_ _ | refine blk_drew ?_ | refine blk_alloc ?_ _)); exact BK150.out⟩, ⟨by repeat (first | (with_reducible first | exact HB.out | apply below_alloc | apply pw_below_drewN | apply below_drew1 | refine below_set ?_ GE150.out) | exact HB.out)⟩⟩
  case rest =>
    clear HC2
    try clear p2
    try clear c3
    try clear c4
    try clear c4b0
    try clear c4b1
    try clear hcz5_0
    try clear hcz5_1
    try clear hcz5_10
    try clear hcz5_11
    try clear hcz5_12
    try clear hcz5_13
    try clear hcz5_14
    try clear hcz5_2
    try clear hcz5_3
    try clear hcz5_4
    try clear hcz5_5
    try clear hcz5_6
    try clear hcz5_7
    try clear hcz5_8
    try clear hcz5_9
    try clear hcz6_0
    try clear hcz6_1
    try clear hcz6_10
    try clear hcz6_11
    try clear hcz6_12
    try clear hcz6_13
    try clear hcz6_14
    try clear hcz6_2
    try clear hcz6_3
    try clear hcz6_4
    try clear hcz6_5
    try clear hcz6_6
    try clear hcz6_7
    try clear hcz6_8
    try clear hcz6_9
    try clear hfz5_0
    try clear hfz5_1
    try clear hfz5_10
    try clear hfz5_11
    try clear hfz5_12
    try clear hfz5_13
    try clear hfz5_14
    try clear hfz5_2
    try clear hfz5_3
    try clear hfz5_4
    try clear hfz5_5
    try clear hfz5_6
    try clear hfz5_7
    try clear hfz5_8
    try clear hfz5_9
    try clear hfz6_0
    try clear hfz6_1
    try clear hfz6_10
    try clear hfz6_11
    try clear hfz6_12
    try clear hfz6_13
    try clear hfz6_14
    try clear hfz6_2
    try clear hfz6_3
    try clear hfz6_4
    try clear hfz6_5
    try clear hfz6_6
    try clear hfz6_7
    try clear hfz6_8
    try clear hfz6_9
    obtain ⟨kq, x13_1, rfl, HA, HJ1, BK150, HB⟩ := hcut
    cases kq with
    | zero => exact absurd HA.out (by simp [event_named.j0])
    | succ kj1 =>
      have H := HA.out
      clear HA
      simp only [event_named.j0] at H
      by_cases c7 : x13_1 = true
      · subst c7
        have H1 : ((label_Split.f a0_1).bind fun bt151 => (some bt151.2.2)) = some r := by rw [if_pos rfl] at H; exact H
        clear H
        have H := H1
        clear H1
        replace H := Option.bind_eq_some_iff.mp H
        obtain ⟨⟨t151, t152, t153⟩, A80, H⟩ := H
        replace H : (some t153) = some r := H
        have A8 := Aside0.mk A80
        clear A80
        obtain rfl := Option.some.inj H
        have hcz9_0 : wc.cell? ⟨gb150, 0, none⟩ = some (.int .i64 a0_0) := bc BK150 0
        have hcz9_1 : wc.cell? ⟨gb150, 1, none⟩ = some (.string a0_1) := bc BK150 1
        have hcz9_2 : wc.cell? ⟨gb150, 2, none⟩ = some (.string a0_2) := bc BK150 2
        have hcz9_3 : wc.cell? ⟨gb150, 3, none⟩ = some (.int .i64 a0_3) := bc BK150 3
        have hcz9_4 : wc.cell? ⟨gb150, 4, none⟩ = some (.int .i64 a0_4) := bc BK150 4
        have hcz9_5 : wc.cell? ⟨gb150, 5, none⟩ = some (.string a0_5) := bc BK150 5
        have hcz9_6 : wc.cell? ⟨gb150, 6, none⟩ = some (.int .i64 a0_6) := bc BK150 6
        have hcz9_7 : wc.cell? ⟨gb150, 7, none⟩ = some (.int .i64 a0_7) := bc BK150 7
        have hcz9_8 : wc.cell? ⟨gb150, 8, none⟩ = some (.int .i64 a0_8) := bc BK150 8
        have hcz9_9 : wc.cell? ⟨gb150, 9, none⟩ = some (.int .i64 a0_9) := bc BK150 9
        have hcz9_10 : wc.cell? ⟨gb150, 10, none⟩ = some (.int .i64 a0_10) := bc BK150 10
        have hcz9_11 : wc.cell? ⟨gb150, 11, none⟩ = some (.string a0_11) := bc BK150 11
        have hcz9_12 : wc.cell? ⟨gb150, 12, none⟩ = some (.string a0_12) := bc BK150 12
        have hcz9_13 : wc.cell? ⟨gb150, 13, none⟩ = some (.slice A0_13 l0_13.length c0_13) := bc BK150 13
        have hcz9_14 : wc.cell? ⟨gb150, 14, none⟩ = some (.int .i64 a0_14) := bc BK150 14
        have hfz9_0 := blk_frozen BK150.out 0
        have hfz9_1 := blk_frozen BK150.out 1
        have hfz9_2 := blk_frozen BK150.out 2
        have hfz9_3 := blk_frozen BK150.out 3
        have hfz9_4 := blk_frozen BK150.out 4
        have hfz9_5 := blk_frozen BK150.out 5
        have hfz9_6 := blk_frozen BK150.out 6
        have hfz9_7 := blk_frozen BK150.out 7
        have hfz9_8 := blk_frozen BK150.out 8
        have hfz9_9 := blk_frozen BK150.out 9
        have hfz9_10 := blk_frozen BK150.out 10
        have hfz9_11 := blk_frozen BK150.out 11
        have hfz9_12 := blk_frozen BK150.out 12
        have hfz9_13 := blk_frozen BK150.out 13
        have hfz9_14 := blk_frozen BK150.out 14
        go_wp2_with (first | ((with_reducible refine gate_callee (f := 69) rfl ?_); refine goesL_ (some 17) rfl rfl Tryd.func69 (by kernel_rfl) rfl #[.string a0_1] rfl (by (try simp only [List.map_toArray, List.map_cons, List.map_nil]); first | done | rfl | (simp only [List.length_drop, List.length_take]; rfl)) ?_; (with_reducible refine (label_Split.calls a0_1 t151 t152 t153 _ ?side1 A8.out).mono ?_); (case side1 => first | exact hLd_.out | exact hLd_ | exact ⟨LaidW.below hLd_.out (by repeat (first | (with_reducible first | exact HB.out | apply below_alloc | apply pw_below_drewN | apply below_drew1 | refine below_set ?_ GE150.out) | exact HB.out))⟩ | exact ⟨LaidW.below hLd_.out (by repeat (first | exact Below.refl _ _ | apply below_alloc | apply pw_below_drewN | apply below_drew1))⟩); rintro e w10 ⟨rfl, hb⟩; refine ⟨_, rfl, ?_⟩; have n0_ := Aside0.mk (blk_below (g := gb150) (pk BK150) hb); have n1_ := Aside0.mk (below_step (by repeat (first | (with_reducible first | exact HB.out | apply below_alloc | apply pw_below_drewN | apply below_drew1 | refine below_set ?_ GE150.out) | exact HB.out)) hb); clear BK150; clear HB; have BK150 := n0_; have HB := n1_; clear n0_ n1_; (try clear hb); (try clear hb2); (try clear hk); (try clear hi)))
        go_ret
        exact ⟨by first | rfl | (simp [errW_none, errW_some] <;> rfl) | (simp [*, errW_none, errW_some] <;> rfl), by repeat (first | (with_reducible first | exact HB.out | apply below_alloc | apply pw_below_drewN | apply below_drew1 | refine below_set ?_ GE150.out) | exact HB.out)⟩
      · replace c7 := Bool.eq_false_iff.mpr c7
        subst c7
        have H1 : ((label_Name.f a0_1).bind fun t154 => (some t154)) = some r := by rw [if_neg (show ¬ (false = true) by decide)] at H; exact H
        clear H
        have H := H1
        clear H1
        replace H := Option.bind_eq_some_iff.mp H
        obtain ⟨t154, A110, H⟩ := H
        replace H : (some t154) = some r := H
        have A11 := Aside0.mk A110
        clear A110
        obtain rfl := Option.some.inj H
        have hcz12_0 : wc.cell? ⟨gb150, 0, none⟩ = some (.int .i64 a0_0) := bc BK150 0
        have hcz12_1 : wc.cell? ⟨gb150, 1, none⟩ = some (.string a0_1) := bc BK150 1
        have hcz12_2 : wc.cell? ⟨gb150, 2, none⟩ = some (.string a0_2) := bc BK150 2
        have hcz12_3 : wc.cell? ⟨gb150, 3, none⟩ = some (.int .i64 a0_3) := bc BK150 3
        have hcz12_4 : wc.cell? ⟨gb150, 4, none⟩ = some (.int .i64 a0_4) := bc BK150 4
        have hcz12_5 : wc.cell? ⟨gb150, 5, none⟩ = some (.string a0_5) := bc BK150 5
        have hcz12_6 : wc.cell? ⟨gb150, 6, none⟩ = some (.int .i64 a0_6) := bc BK150 6
        have hcz12_7 : wc.cell? ⟨gb150, 7, none⟩ = some (.int .i64 a0_7) := bc BK150 7
        have hcz12_8 : wc.cell? ⟨gb150, 8, none⟩ = some (.int .i64 a0_8) := bc BK150 8
        have hcz12_9 : wc.cell? ⟨gb150, 9, none⟩ = some (.int .i64 a0_9) := bc BK150 9
        have hcz12_10 : wc.cell? ⟨gb150, 10, none⟩ = some (.int .i64 a0_10) := bc BK150 10
        have hcz12_11 : wc.cell? ⟨gb150, 11, none⟩ = some (.string a0_11) := bc BK150 11
        have hcz12_12 : wc.cell? ⟨gb150, 12, none⟩ = some (.string a0_12) := bc BK150 12
        have hcz12_13 : wc.cell? ⟨gb150, 13, none⟩ = some (.slice A0_13 l0_13.length c0_13) := bc BK150 13
        have hcz12_14 : wc.cell? ⟨gb150, 14, none⟩ = some (.int .i64 a0_14) := bc BK150 14
        have hfz12_0 := blk_frozen BK150.out 0
        have hfz12_1 := blk_frozen BK150.out 1
        have hfz12_2 := blk_frozen BK150.out 2
        have hfz12_3 := blk_frozen BK150.out 3
        have hfz12_4 := blk_frozen BK150.out 4
        have hfz12_5 := blk_frozen BK150.out 5
        have hfz12_6 := blk_frozen BK150.out 6
        have hfz12_7 := blk_frozen BK150.out 7
        have hfz12_8 := blk_frozen BK150.out 8
        have hfz12_9 := blk_frozen BK150.out 9
        have hfz12_10 := blk_frozen BK150.out 10
        have hfz12_11 := blk_frozen BK150.out 11
        have hfz12_12 := blk_frozen BK150.out 12
        have hfz12_13 := blk_frozen BK150.out 13
        have hfz12_14 := blk_frozen BK150.out 14
        go_wp2_with (first | ((with_reducible refine gate_callee (f := 70) rfl ?_); refine goesL_ (some 24) rfl rfl Tryd.func70 (by kernel_rfl) rfl #[.string a0_1] rfl (by (try simp only [List.map_toArray, List.map_cons, List.map_nil]); first | done | rfl | (simp only [List.length_drop, List.length_take]; rfl)) ?_; (with_reducible refine (label_Name.calls a0_1 t154 _ A11.out).mono ?_); rintro e w13 ⟨rfl, hb⟩; refine ⟨_, rfl, ?_⟩; have n0_ := Aside0.mk (blk_below (g := gb150) (pk BK150) hb); have n1_ := Aside0.mk (below_step (by repeat (first | (with_reducible first | exact HB.out | apply below_alloc | apply pw_below_drewN | apply below_drew1 | refine below_set ?_ GE150.out) | exact HB.out)) hb); clear BK150; clear HB; have BK150 := n0_; have HB := n1_; clear n0_ n1_; (try clear hb); (try clear hb2); (try clear hk); (try clear hi)))
        go_ret
        exact ⟨by first | rfl | (simp [errW_none, errW_some] <;> rfl) | (simp [*, errW_none, errW_some] <;> rfl), by repeat (first | (with_reducible first | exact HB.out | apply below_alloc | apply pw_below_drewN | apply below_drew1 | refine below_set ?_ GE150.out) | exact HB.out)⟩
end

section
/-! ### label_Tag: function 37 -/
def label_Tag.f (a0 : ByteArray) : Option (Bool) := (label_short.f a0 8).bind fun t155 => (some t155)
set_option maxHeartbeats 8000000 in
set_option maxRecDepth 100000 in
theorem label_Tag.calls (a0 : ByteArray) (r : Bool) (w : World) (h : label_Tag.f a0 = some r) :
    Calls Tryd.prog 37 #[.string a0] w fun e w' => e = .returned (.bool r) ∧ Below w.heap.size w w' := by
  have HB := Aside0.mk (Below.refl w.heap.size w)
  have H : ((label_short.f a0 8).bind fun t155 => (some t155)) = some r := h
  clear h
  replace H := Option.bind_eq_some_iff.mp H
  obtain ⟨t155, A20, H⟩ := H
  replace H : (some t155) = some r := H
  have A2 := Aside0.mk A20
  clear A20
  obtain rfl := Option.some.inj H
  go_enter Tryd.func37, Tryd.ntmps37
  go_wp2_with (first | ((with_reducible refine gate_callee (f := 71) rfl ?_); refine goesL_ (some 4) rfl rfl Tryd.func71 (by kernel_rfl) rfl #[.string a0, .int .i64 8] rfl (by (try simp only [List.map_toArray, List.map_cons, List.map_nil]); first | done | rfl | (simp only [List.length_drop, List.length_take]; rfl)) ?_; (with_reducible refine (label_short.calls a0 8 t155 _ A2.out).mono ?_); rintro e w3 ⟨rfl, hb⟩; refine ⟨_, rfl, ?_⟩; have n0_ := Aside0.mk (below_step (by repeat (first | (with_reducible first | exact HB.out | apply below_alloc | apply pw_below_drewN | apply below_drew1) | exact HB.out)) hb); clear HB; have HB := n0_; clear n0_; (try clear hb); (try clear hb2); (try clear hk); (try clear hi)))
  go_ret
  exact ⟨by first | rfl | (simp [errW_none, errW_some] <;> rfl) | (simp [*, errW_none, errW_some] <;> rfl), by repeat (first | (with_reducible first | exact HB.out | apply below_alloc | apply pw_below_drewN | apply below_drew1) | exact HB.out)⟩
end

section
/-! ### spec_span_has: function 72 -/
def spec_span_has.f (a0_0 : Int) (a0_1 : Int) (a1 : Int) : Option (Bool) := if a1 ≥ a0_0 then (some (decide (a1 ≤ a0_1))) else (some false)
set_option maxHeartbeats 8000000 in
set_option maxRecDepth 100000 in
theorem spec_span_has.calls (a0_0 : Int) (a0_1 : Int) (a1 : Int) (r : Bool) (w : World) (h : spec_span_has.f a0_0 a0_1 a1 = some r) :
    Calls Tryd.prog 72 #[.agg #[.int .i64 a0_0, .int .i64 a0_1], .int .i64 a1] w fun e w' => e = .returned (.bool r) ∧ Below w.heap.size w w' := by
  have hu107 := Tryd.underlying107
  have HB := Aside0.mk (Below.refl w.heap.size w)
  have H : (if a1 ≥ a0_0 then (some (decide (a1 ≤ a0_1))) else (some false)) = some r := h
  clear h
  by_cases c3 : a1 ≥ a0_0
  · rw [if_pos c3] at H
    have c3b0 : decide (a0_0 ≤ a1) = true := decide_eq_true c3
    clear c3
    obtain rfl := Option.some.inj H
    go_enter Tryd.func72, Tryd.ntmps72
    go_wp2_with (first | ((with_reducible refine gate_dst (N := 2) rfl ?_); refine box_event ?hg (N := 2) ?hd (cs := #[.int .i64 a0_0, .int .i64 a0_1]) (t := 107) ?hr ?_; (case hd => rfl); (case hg => rfl); (case hr => first | (go_simp; done) | (go_simp; rfl)); intro gb156 hg w4 hbox hb; have n0_ := Aside0.mk (below_step (by repeat (first | (with_reducible first | exact HB.out | apply below_alloc | apply pw_below_drewN | apply below_drew1) | exact HB.out)) hb); have n1_ := Aside0.mk (hbox); have n2_ := Aside0.mk ((by rw [hg]; exact (below_size (by repeat (first | (with_reducible first | exact HB.out | apply below_alloc | apply pw_below_drewN | apply below_drew1) | exact HB.out))) : w.heap.size ≤ gb156)); have n3_ := Aside0.mk ((by rw [hg]; exact (below_size (by repeat (first | (with_reducible first | exact HB.out | apply below_alloc | apply pw_below_drewN | apply below_drew1) | exact HB.out))) : w.heap.size ≤ gb156)); clear HB; have HB := n0_; have BK156 := n1_; have GW156 := n2_; have GE156 := n3_; clear n0_ n1_ n2_ n3_; clear hb hbox hg; have hcz5_0 : w4.cell? ⟨gb156, 0, none⟩ = some (.int .i64 a0_0) := bc BK156 0; have hcz5_1 : w4.cell? ⟨gb156, 1, none⟩ = some (.int .i64 a0_1) := bc BK156 1; have hfz5_0 := blk_frozen BK156.out 0; have hfz5_1 := blk_frozen BK156.out 1))
    go_ret
    exact ⟨by first | rfl | (simp [errW_none, errW_some] <;> rfl) | (simp [*, errW_none, errW_some] <;> rfl), by repeat (first | (with_reducible first | exact HB.out | apply below_alloc | apply pw_below_drewN | apply below_drew1 | refine below_set ?_ GE156.out) | exact HB.out)⟩
  · rw [if_neg c3] at H
    have c3b0 : decide (a0_0 ≤ a1) = false := decide_eq_false c3
    clear c3
    obtain rfl := Option.some.inj H
    go_enter Tryd.func72, Tryd.ntmps72
    go_wp2_with (first | ((with_reducible refine gate_dst (N := 2) rfl ?_); refine box_event ?hg (N := 2) ?hd (cs := #[.int .i64 a0_0, .int .i64 a0_1]) (t := 107) ?hr ?_; (case hd => rfl); (case hg => rfl); (case hr => first | (go_simp; done) | (go_simp; rfl)); intro gb156 hg w6 hbox hb; have n0_ := Aside0.mk (below_step (by repeat (first | (with_reducible first | exact HB.out | apply below_alloc | apply pw_below_drewN | apply below_drew1) | exact HB.out)) hb); have n1_ := Aside0.mk (hbox); have n2_ := Aside0.mk ((by rw [hg]; exact (below_size (by repeat (first | (with_reducible first | exact HB.out | apply below_alloc | apply pw_below_drewN | apply below_drew1) | exact HB.out))) : w.heap.size ≤ gb156)); have n3_ := Aside0.mk ((by rw [hg]; exact (below_size (by repeat (first | (with_reducible first | exact HB.out | apply below_alloc | apply pw_below_drewN | apply below_drew1) | exact HB.out))) : w.heap.size ≤ gb156)); clear HB; have HB := n0_; have BK156 := n1_; have GW156 := n2_; have GE156 := n3_; clear n0_ n1_ n2_ n3_; clear hb hbox hg; have hcz7_0 : w6.cell? ⟨gb156, 0, none⟩ = some (.int .i64 a0_0) := bc BK156 0; have hcz7_1 : w6.cell? ⟨gb156, 1, none⟩ = some (.int .i64 a0_1) := bc BK156 1; have hfz7_0 := blk_frozen BK156.out 0; have hfz7_1 := blk_frozen BK156.out 1))
    go_ret
    exact ⟨by first | rfl | (simp [errW_none, errW_some] <;> rfl) | (simp [*, errW_none, errW_some] <;> rfl), by repeat (first | (with_reducible first | exact HB.out | apply below_alloc | apply pw_below_drewN | apply below_drew1 | refine below_set ?_ GE156.out) | exact HB.out)⟩
end

section
/-! ### spec_Config: function 39 -/
def spec_Config.j0 : Nat → Bool → Option (Int)
  | 0, _ => none
  | k + 1, x8 => if x8 = true then (some 2) else (some 0)
def spec_Config.f (k : Nat) (a0_0 : ByteArray) (a0_1 : Int) (a0_2 : Int) (a0_3 : Int) (a0_4 : Int) (a0_5 : Int) : Option (Int) := (label_Name.f a0_0).bind fun t158 => (if t158 = true then ((spec_span_has.f 0 255 a0_1).bind fun t159 => (if t159 = true then ((spec_span_has.f 1 8 a0_2).bind fun t160 => (if t160 = true then ((spec_span_has.f 1 10 a0_4).bind fun t161 => (if t161 = true then ((spec_span_has.f 0 a0_4 a0_3).bind fun t162 => (if t162 = true then ((spec_span_has.f 0 30 a0_5).bind fun t163 => (spec_Config.j0 k (!t163))) else (spec_Config.j0 k (!t162)))) else (spec_Config.j0 k (!t161)))) else (spec_Config.j0 k (!t160)))) else (spec_Config.j0 k (!t159)))) else (some 1))
theorem spec_Config.mono_l : ∀ k, (∀ y0, LeO (spec_Config.j0 k y0) (spec_Config.j0 (k + 1) y0))
  | 0 => fun _ r h => by simp [spec_Config.j0] at h
  | k + 1 => by
    have ih0 := spec_Config.mono_l k
    · intro y0
      unfold spec_Config.j0
      repeat' first
      | (with_reducible exact ih0 _)
      | (with_reducible exact LeO.refl _)
      | (with_reducible exact LeO.none _)
      | (with_reducible refine LeO.ite ?_ ?_)
      | (with_reducible refine LeO.bind ?_ (fun _ => ?_))
      | exact ih0 _
      | exact LeO.none _
      | refine LeO.ite ?_ ?_
      | refine LeO.bind ?_ (fun _ => ?_)
theorem spec_Config.mono : ∀ a0 a1 a2 a3 a4 a5 k, LeO (spec_Config.f k a0 a1 a2 a3 a4 a5) (spec_Config.f (k + 1) a0 a1 a2 a3 a4 a5) := by
  intro a0 a1 a2 a3 a4 a5 k
  have ih0 := spec_Config.mono_l k
  unfold spec_Config.f
  repeat' first
      | (with_reducible exact ih0 _)
      | (with_reducible exact LeO.refl _)
      | (with_reducible exact LeO.none _)
      | (with_reducible refine LeO.ite ?_ ?_)
      | (with_reducible refine LeO.bind ?_ (fun _ => ?_))
      | exact ih0 _
      | exact LeO.none _
      | refine LeO.ite ?_ ?_
      | refine LeO.bind ?_ (fun _ => ?_)
set_option maxHeartbeats 8000000 in
set_option maxRecDepth 100000 in
theorem spec_Config.calls (k : Nat) (a0_0 : ByteArray) (a0_1 : Int) (a0_2 : Int) (a0_3 : Int) (a0_4 : Int) (a0_5 : Int) (r : Int) (w : World) (h : spec_Config.f k a0_0 a0_1 a0_2 a0_3 a0_4 a0_5 = some r) :
    Calls Tryd.prog 39 #[.agg #[.string a0_0, .int .i64 a0_1, .int .i64 a0_2, .int .i64 a0_3, .int .i64 a0_4, .int .i64 a0_5]] w fun e w' => e = .returned (.int .i64 r) ∧ Below w.heap.size w w' := by
  have hu23 := Tryd.underlying23
  have hu107 := Tryd.underlying107
  have HB := Aside0.mk (Below.refl w.heap.size w)
  have H : ((label_Name.f a0_0).bind fun t158 => (if t158 = true then ((spec_span_has.f 0 255 a0_1).bind fun t159 => (if t159 = true then ((spec_span_has.f 1 8 a0_2).bind fun t160 => (if t160 = true then ((spec_span_has.f 1 10 a0_4).bind fun t161 => (if t161 = true then ((spec_span_has.f 0 a0_4 a0_3).bind fun t162 => (if t162 = true then ((spec_span_has.f 0 30 a0_5).bind fun t163 => (spec_Config.j0 k (!t163))) else (spec_Config.j0 k (!t162)))) else (spec_Config.j0 k (!t161)))) else (spec_Config.j0 k (!t160)))) else (spec_Config.j0 k (!t159)))) else (some 1))) = some r := h
  clear h
  replace H := Option.bind_eq_some_iff.mp H
  obtain ⟨t158, A20, H⟩ := H
  replace H : (if t158 = true then ((spec_span_has.f 0 255 a0_1).bind fun t159 => (if t159 = true then ((spec_span_has.f 1 8 a0_2).bind fun t160 => (if t160 = true then ((spec_span_has.f 1 10 a0_4).bind fun t161 => (if t161 = true then ((spec_span_has.f 0 a0_4 a0_3).bind fun t162 => (if t162 = true then ((spec_span_has.f 0 30 a0_5).bind fun t163 => (spec_Config.j0 k (!t163))) else (spec_Config.j0 k (!t162)))) else (spec_Config.j0 k (!t161)))) else (spec_Config.j0 k (!t160)))) else (spec_Config.j0 k (!t159)))) else (some 1)) = some r := H
  have A2 := Aside0.mk A20
  clear A20
  by_cases c3 : t158 = true
  · subst c3
    have H1 : ((spec_span_has.f 0 255 a0_1).bind fun t159 => (if t159 = true then ((spec_span_has.f 1 8 a0_2).bind fun t160 => (if t160 = true then ((spec_span_has.f 1 10 a0_4).bind fun t161 => (if t161 = true then ((spec_span_has.f 0 a0_4 a0_3).bind fun t162 => (if t162 = true then ((spec_span_has.f 0 30 a0_5).bind fun t163 => (spec_Config.j0 k (!t163))) else (spec_Config.j0 k (!t162)))) else (spec_Config.j0 k (!t161)))) else (spec_Config.j0 k (!t160)))) else (spec_Config.j0 k (!t159)))) = some r := by rw [if_pos rfl] at H; exact H
    clear H
    have H := H1
    clear H1
    replace H := Option.bind_eq_some_iff.mp H
    obtain ⟨t159, A40, H⟩ := H
    replace H : (if t159 = true then ((spec_span_has.f 1 8 a0_2).bind fun t160 => (if t160 = true then ((spec_span_has.f 1 10 a0_4).bind fun t161 => (if t161 = true then ((spec_span_has.f 0 a0_4 a0_3).bind fun t162 => (if t162 = true then ((spec_span_has.f 0 30 a0_5).bind fun t163 => (spec_Config.j0 k (!t163))) else (spec_Config.j0 k (!t162)))) else (spec_Config.j0 k (!t161)))) else (spec_Config.j0 k (!t160)))) else (spec_Config.j0 k (!t159))) = some r := H
    have A4 := Aside0.mk A40
    clear A40
    have HC5 := Aside0.mk H
    clear H
    go_enter Tryd.func39, Tryd.ntmps39
    go_upto_if 8 with (first | ((with_reducible refine gate_dst (N := 1) rfl ?_); refine box_event ?hg (N := 1) ?hd (cs := #[.string a0_0, .int .i64 a0_1, .int .i64 a0_2, .int .i64 a0_3, .int .i64 a0_4, .int .i64 a0_5]) (t := 23) ?hr ?_; (case hd => rfl); (case hg => rfl); (case hr => first | (go_simp; done) | (go_simp; rfl)); intro gb157 hg w6 hbox hb; have n0_ := Aside0.mk (below_step (by repeat (first | (with_reducible first | exact HB.out | apply below_alloc | apply pw_below_drewN | apply below_drew1) | exact HB.out)) hb); have n1_ := Aside0.mk (hbox); have n2_ := Aside0.mk ((by rw [hg]; exact (below_size (by repeat (first | (with_reducible first | exact HB.out | apply below_alloc | apply pw_below_drewN | apply below_drew1) | exact HB.out))) : w.heap.size ≤ gb157)); have n3_ := Aside0.mk ((by rw [hg]; exact (below_size (by repeat (first | (with_reducible first | exact HB.out | apply below_alloc | apply pw_below_drewN | apply below_drew1) | exact HB.out))) : w.heap.size ≤ gb157)); clear HB; have HB := n0_; have BK157 := n1_; have GW157 := n2_; have GE157 := n3_; clear n0_ n1_ n2_ n3_; clear hb hbox hg; have hcz7_0 : w6.cell? ⟨gb157, 0, none⟩ = some (.string a0_0) := bc BK157 0; have hcz7_1 : w6.cell? ⟨gb157, 1, none⟩ = some (.int .i64 a0_1) := bc BK157 1; have hcz7_2 : w6.cell? ⟨gb157, 2, none⟩ = some (.int .i64 a0_2) := bc BK157 2; have hcz7_3 : w6.cell? ⟨gb157, 3, none⟩ = some (.int .i64 a0_3) := bc BK157 3; have hcz7_4 : w6.cell? ⟨gb157, 4, none⟩ = some (.int .i64 a0_4) := bc BK157 4; have hcz7_5 : w6.cell? ⟨gb157, 5, none⟩ = some (.int .i64 a0_5) := bc BK157 5; have hfz7_0 := blk_frozen BK157.out 0; have hfz7_1 := blk_frozen BK157.out 1; have hfz7_2 := blk_frozen BK157.out 2; have hfz7_3 := blk_frozen BK157.out 3; have hfz7_4 := blk_frozen BK157.out 4; have hfz7_5 := blk_frozen BK157.out 5) | ((with_reducible refine gate_callee (f := 70) rfl ?_); refine goesL_ (some 6) rfl rfl Tryd.func70 (by kernel_rfl) rfl #[.string a0_0] rfl (by (try simp only [List.map_toArray, List.map_cons, List.map_nil]); first | done | rfl | (simp only [List.length_drop, List.length_take]; rfl)) ?_; (with_reducible refine (label_Name.calls a0_0 true _ A2.out).mono ?_); rintro e w8 ⟨rfl, hb⟩; refine ⟨_, rfl, ?_⟩; have n0_ := Aside0.mk (blk_below (g := gb157) (pk BK157) hb); have n1_ := Aside0.mk (below_step (by repeat (first | (with_reducible first | exact HB.out | apply below_alloc | apply pw_below_drewN | apply below_drew1 | refine below_set ?_ GE157.out) | exact HB.out)) hb); clear BK157; clear HB; have BK157 := n0_; have HB := n1_; clear n0_ n1_; (try clear hb); (try clear hb2); (try clear hk); (try clear hi); have hcz9_0 : w8.cell? ⟨gb157, 0, none⟩ = some (.string a0_0) := bc BK157 0; have hcz9_1 : w8.cell? ⟨gb157, 1, none⟩ = some (.int .i64 a0_1) := bc BK157 1; have hcz9_2 : w8.cell? ⟨gb157, 2, none⟩ = some (.int .i64 a0_2) := bc BK157 2; have hcz9_3 : w8.cell? ⟨gb157, 3, none⟩ = some (.int .i64 a0_3) := bc BK157 3; have hcz9_4 : w8.cell? ⟨gb157, 4, none⟩ = some (.int .i64 a0_4) := bc BK157 4; have hcz9_5 : w8.cell? ⟨gb157, 5, none⟩ = some (.int .i64 a0_5) := bc BK157 5; have hfz9_0 := blk_frozen BK157.out 0; have hfz9_1 := blk_frozen BK157.out 1; have hfz9_2 := blk_frozen BK157.out 2; have hfz9_3 := blk_frozen BK157.out 3; have hfz9_4 := blk_frozen BK157.out 4; have hfz9_5 := blk_frozen BK157.out 5) | ((with_reducible refine gate_callee (f := 72) rfl ?_); refine goesL_ (some 12) rfl rfl Tryd.func72 (by kernel_rfl) rfl #[.agg #[.int .i64 0, .int .i64 255], .int .i64 a0_1] rfl (by (try simp only [List.map_toArray, List.map_cons, List.map_nil]); first | done | rfl | (simp only [List.length_drop, List.length_take]; rfl)) ?_; (with_reducible refine (spec_span_has.calls 0 255 a0_1 t159 _ A4.out).mono ?_); rintro e w10 ⟨rfl, hb⟩; refine ⟨_, rfl, ?_⟩; have n0_ := Aside0.mk (blk_below (g := gb157) (pk BK157) hb); have n1_ := Aside0.mk (below_step (by repeat (first | (with_reducible first | exact HB.out | apply below_alloc | apply pw_below_drewN | apply below_drew1 | refine below_set ?_ GE157.out) | exact HB.out)) hb); clear BK157; clear HB; have BK157 := n0_; have HB := n1_; clear n0_ n1_; (try clear hb); (try clear hb2); (try clear hk); (try clear hi)))
    (try simp only [Act.put, List.setIfInBounds_toArray, List.set_cons_zero, List.set_cons_succ])
    go_cut [8] (fun v8 wc => ∃ (kq : Nat) (x8_4 : Bool), v8 = .bool x8_4 ∧ Aside0 (spec_Config.j0 kq x8_4 = some r) ∧ Aside0 (kq ≤ k) ∧ Aside0 (wc.heap[gb157]? = some (.cells #[.string a0_0, .int .i64 a0_1, .int .i64 a0_2, .int .i64 a0_3, .int .i64 a0_4, .int .i64 a0_5] 23 (0, 0))) ∧ Aside0 (Below w.heap.size w wc))
    case first =>
      have H := HC5.out
      clear HC5
      by_cases c11 : t159 = true
      · subst c11
        have H1 : ((spec_span_has.f 1 8 a0_2).bind fun t160 => (if t160 = true then ((spec_span_has.f 1 10 a0_4).bind fun t161 => (if t161 = true then ((spec_span_has.f 0 a0_4 a0_3).bind fun t162 => (if t162 = true then ((spec_span_has.f 0 30 a0_5).bind fun t163 => (spec_Config.j0 k (!t163))) else (spec_Config.j0 k (!t162)))) else (spec_Config.j0 k (!t161)))) else (spec_Config.j0 k (!t160)))) = some r := by rw [if_pos rfl] at H; exact H
        clear H
        have H := H1
        clear H1
        replace H := Option.bind_eq_some_iff.mp H
        obtain ⟨t160, A120, H⟩ := H
        replace H : (if t160 = true then ((spec_span_has.f 1 10 a0_4).bind fun t161 => (if t161 = true then ((spec_span_has.f 0 a0_4 a0_3).bind fun t162 => (if t162 = true then ((spec_span_has.f 0 30 a0_5).bind fun t163 => (spec_Config.j0 k (!t163))) else (spec_Config.j0 k (!t162)))) else (spec_Config.j0 k (!t161)))) else (spec_Config.j0 k (!t160))) = some r := H
        have A12 := Aside0.mk A120
        clear A120
        by_cases c13 : t160 = true
        · subst c13
          have H1 : ((spec_span_has.f 1 10 a0_4).bind fun t161 => (if t161 = true then ((spec_span_has.f 0 a0_4 a0_3).bind fun t162 => (if t162 = true then ((spec_span_has.f 0 30 a0_5).bind fun t163 => (spec_Config.j0 k (!t163))) else (spec_Config.j0 k (!t162)))) else (spec_Config.j0 k (!t161)))) = some r := by rw [if_pos rfl] at H; exact H
          clear H
          have H := H1
          clear H1
          replace H := Option.bind_eq_some_iff.mp H
          obtain ⟨t161, A140, H⟩ := H
          replace H : (if t161 = true then ((spec_span_has.f 0 a0_4 a0_3).bind fun t162 => (if t162 = true then ((spec_span_has.f 0 30 a0_5).bind fun t163 => (spec_Config.j0 k (!t163))) else (spec_Config.j0 k (!t162)))) else (spec_Config.j0 k (!t161))) = some r := H
          have A14 := Aside0.mk A140
          clear A140
          by_cases c15 : t161 = true
          · subst c15
            have H1 : ((spec_span_has.f 0 a0_4 a0_3).bind fun t162 => (if t162 = true then ((spec_span_has.f 0 30 a0_5).bind fun t163 => (spec_Config.j0 k (!t163))) else (spec_Config.j0 k (!t162)))) = some r := by rw [if_pos rfl] at H; exact H
            clear H
            have H := H1
            clear H1
            replace H := Option.bind_eq_some_iff.mp H
            obtain ⟨t162, A160, H⟩ := H
            replace H : (if t162 = true then ((spec_span_has.f 0 30 a0_5).bind fun t163 => (spec_Config.j0 k (!t163))) else (spec_Config.j0 k (!t162))) = some r := H
            have A16 := Aside0.mk A160
            clear A160
            by_cases c17 : t162 = true
            · subst c17
              have H1 : ((spec_span_has.f 0 30 a0_5).bind fun t163 => (spec_Config.j0 k (!t163))) = some r := by rw [if_pos rfl] at H; exact H
              clear H
              have H := H1
              clear H1
              replace H := Option.bind_eq_some_iff.mp H
              obtain ⟨t163, A180, H⟩ := H
              replace H : (spec_Config.j0 k (!t163)) = some r := H
              have A18 := Aside0.mk A180
              clear A180
              have H' := Aside0.mk H
              clear H
              have hcz19_0 : w10.cell? ⟨gb157, 0, none⟩ = some (.string a0_0) := bc BK157 0
              have hcz19_1 : w10.cell? ⟨gb157, 1, none⟩ = some (.int .i64 a0_1) := bc BK157 1
              have hcz19_2 : w10.cell? ⟨gb157, 2, none⟩ = some (.int .i64 a0_2) := bc BK157 2
              have hcz19_3 : w10.cell? ⟨gb157, 3, none⟩ = some (.int .i64 a0_3) := bc BK157 3
              have hcz19_4 : w10.cell? ⟨gb157, 4, none⟩ = some (.int .i64 a0_4) := bc BK157 4
              have hcz19_5 : w10.cell? ⟨gb157, 5, none⟩ = some (.int .i64 a0_5) := bc BK157 5
              have hfz19_0 := blk_frozen BK157.out 0
              have hfz19_1 := blk_frozen BK157.out 1
              have hfz19_2 := blk_frozen BK157.out 2
              have hfz19_3 := blk_frozen BK157.out 3
              have hfz19_4 := blk_frozen BK157.out 4
              have hfz19_5 := blk_frozen BK157.out 5
              go_wp2_with (first | ((with_reducible refine gate_callee (f := 72) rfl ?_); refine goesL_ (some 17) rfl rfl Tryd.func72 (by kernel_rfl) rfl #[.agg #[.int .i64 1, .int .i64 8], .int .i64 a0_2] rfl (by (try simp only [List.map_toArray, List.map_cons, List.map_nil]); first | done | rfl | (simp only [List.length_drop, List.length_take]; rfl)) ?_; (with_reducible refine (spec_span_has.calls 1 8 a0_2 true _ A12.out).mono ?_); rintro e w20 ⟨rfl, hb⟩; refine ⟨_, rfl, ?_⟩; have n0_ := Aside0.mk (blk_below (g := gb157) (pk BK157) hb); have n1_ := Aside0.mk (below_step (by repeat (first | (with_reducible first | exact HB.out | apply below_alloc | apply pw_below_drewN | apply below_drew1 | refine below_set ?_ GE157.out) | exact HB.out)) hb); clear BK157; clear HB; have BK157 := n0_; have HB := n1_; clear n0_ n1_; (try clear hb); (try clear hb2); (try clear hk); (try clear hi); have hcz21_0 : w20.cell? ⟨gb157, 0, none⟩ = some (.string a0_0) := bc BK157 0; have hcz21_1 : w20.cell? ⟨gb157, 1, none⟩ = some (.int .i64 a0_1) := bc BK157 1; have hcz21_2 : w20.cell? ⟨gb157, 2, none⟩ = some (.int .i64 a0_2) := bc BK157 2; have hcz21_3 : w20.cell? ⟨gb157, 3, none⟩ = some (.int .i64 a0_3) := bc BK157 3; have hcz21_4 : w20.cell? ⟨gb157, 4, none⟩ = some (.int .i64 a0_4) := bc BK157 4; have hcz21_5 : w20.cell? ⟨gb157, 5, none⟩ = some (.int .i64 a0_5) := bc BK157 5; have hfz21_0 := blk_frozen BK157.out 0; have hfz21_1 := blk_frozen BK157.out 1; have hfz21_2 := blk_frozen BK157.out 2; have hfz21_3 := blk_frozen BK157.out 3; have hfz21_4 := blk_frozen BK157.out 4; have hfz21_5 := blk_frozen BK157.out 5) | ((with_reducible refine gate_callee (f := 72) rfl ?_); refine goesL_ (some 22) rfl rfl Tryd.func72 (by kernel_rfl) rfl #[.agg #[.int .i64 1, .int .i64 10], .int .i64 a0_4] rfl (by (try simp only [List.map_toArray, List.map_cons, List.map_nil]); first | done | rfl | (simp only [List.length_drop, List.length_take]; rfl)) ?_; (with_reducible refine (spec_span_has.calls 1 10 a0_4 true _ A14.out).mono ?_); rintro e w22 ⟨rfl, hb⟩; refine ⟨_, rfl, ?_⟩; have n0_ := Aside0.mk (blk_below (g := gb157) (pk BK157) hb); have n1_ := Aside0.mk (below_step (by repeat (first | (with_reducible first | exact HB.out | apply below_alloc | apply pw_below_drewN | apply below_drew1 | refine below_set ?_ GE157.out) | exact HB.out)) hb); clear BK157; clear HB; have BK157 := n0_; have HB := n1_; clear n0_ n1_; (try clear hb); (try clear hb2); (try clear hk); (try clear hi); have hcz23_0 : w22.cell? ⟨gb157, 0, none⟩ = some (.string a0_0) := bc BK157 0; have hcz23_1 : w22.cell? ⟨gb157, 1, none⟩ = some (.int .i64 a0_1) := bc BK157 1; have hcz23_2 : w22.cell? ⟨gb157, 2, none⟩ = some (.int .i64 a0_2) := bc BK157 2; have hcz23_3 : w22.cell? ⟨gb157, 3, none⟩ = some (.int .i64 a0_3) := bc BK157 3; have hcz23_4 : w22.cell? ⟨gb157, 4, none⟩ = some (.int .i64 a0_4) := bc BK157 4; have hcz23_5 : w22.cell? ⟨gb157, 5, none⟩ = some (.int .i64 a0_5) := bc BK157 5; have hfz23_0 := blk_frozen BK157.out 0; have hfz23_1 := blk_frozen BK157.out 1; have hfz23_2 := blk_frozen BK157.out 2; have hfz23_3 := blk_frozen BK157.out 3; have hfz23_4 := blk_frozen BK157.out 4; have hfz23_5 := blk_frozen BK157.out 5) | ((with_reducible refine gate_callee (f := 72) rfl ?_); refine goesL_ (some 29) rfl rfl Tryd.func72 (by kernel_rfl) rfl #[.agg #[.int .i64 0, .int .i64 a0_4], .int .i64 a0_3] rfl (by (try simp only [List.map_toArray, List.map_cons, List.map_nil]); first | done | rfl | (simp only [List.length_drop, List.length_take]; rfl)) ?_; (with_reducible refine (spec_span_has.calls 0 a0_4 a0_3 true _ A16.out).mono ?_); rintro e w24 ⟨rfl, hb⟩; refine ⟨_, rfl, ?_⟩; have n0_ := Aside0.mk (blk_below (g := gb157) (pk BK157) hb); have n1_ := Aside0.mk (below_step (by repeat (first | (with_reducible first | exact HB.out | apply below_alloc | apply pw_below_drewN | apply below_drew1 | refine below_set ?_ GE157.out) | exact HB.out)) hb); clear BK157; clear HB; have BK157 := n0_; have HB := n1_; clear n0_ n1_; (try clear hb); (try clear hb2); (try clear hk); (try clear hi); have hcz25_0 : w24.cell? ⟨gb157, 0, none⟩ = some (.string a0_0) := bc BK157 0; have hcz25_1 : w24.cell? ⟨gb157, 1, none⟩ = some (.int .i64 a0_1) := bc BK157 1; have hcz25_2 : w24.cell? ⟨gb157, 2, none⟩ = some (.int .i64 a0_2) := bc BK157 2; have hcz25_3 : w24.cell? ⟨gb157, 3, none⟩ = some (.int .i64 a0_3) := bc BK157 3; have hcz25_4 : w24.cell? ⟨gb157, 4, none⟩ = some (.int .i64 a0_4) := bc BK157 4; have hcz25_5 : w24.cell? ⟨gb157, 5, none⟩ = some (.int .i64 a0_5) := bc BK157 5; have hfz25_0 := blk_frozen BK157.out 0; have hfz25_1 := blk_frozen BK157.out 1; have hfz25_2 := blk_frozen BK157.out 2; have hfz25_3 := blk_frozen BK157.out 3; have hfz25_4 := blk_frozen BK157.out 4; have hfz25_5 := blk_frozen BK157.out 5) | ((with_reducible refine gate_callee (f := 72) rfl ?_); refine goesL_ (some 34) rfl rfl Tryd.func72 (by kernel_rfl) rfl #[.agg #[.int .i64 0, .int .i64 30], .int .i64 a0_5] rfl (by (try simp only [List.map_toArray, List.map_cons, List.map_nil]); first | done | rfl | (simp only [List.length_drop, List.length_take]; rfl)) ?_; (with_reducible refine (spec_span_has.calls 0 30 a0_5 t163 _ A18.out).mono ?_); rintro e w26 ⟨rfl, hb⟩; refine ⟨_, rfl, ?_⟩; have n0_ := Aside0.mk (blk_below (g := gb157) (pk BK157) hb); have n1_ := Aside0.mk (below_step (by repeat (first | (with_reducible first | exact HB.out | apply below_alloc | apply pw_below_drewN | apply below_drew1 | refine below_set ?_ GE157.out) | exact HB.out)) hb); clear BK157; clear HB; have BK157 := n0_; have HB := n1_; clear n0_ n1_; (try clear hb); (try clear hb2); (try clear hk); (try clear hi)))
              go_meet
              case rel => exact ⟨_, (!t163), (by first | rfl | (simp; done) | (simp [*]; done)), H', ⟨by first | omega | exact Nat.le_refl _⟩, ⟨by (with_reducible repeat (first | refine blk_drewN ?_ _ | refine blk_drew ?_ | refine blk_alloc ?_ _)); exact BK157.out⟩, ⟨by repeat (first | (with_reducible first | exact HB.out | apply below_alloc | apply pw_below_drewN | apply below_drew1 | refine below_set ?_ GE157.out) | exact HB.out)⟩⟩
            · replace c17 := Bool.eq_false_iff.mpr c17
              subst c17
              have H1 : (spec_Config.j0 k (!false)) = some r := by rw [if_neg (show ¬ (false = true) by decide)] at H; exact H
              clear H
              have H := H1
              clear H1
              have H' := Aside0.mk H
              clear H
              have hcz27_0 : w10.cell? ⟨gb157, 0, none⟩ = some (.string a0_0) := bc BK157 0
              have hcz27_1 : w10.cell? ⟨gb157, 1, none⟩ = some (.int .i64 a0_1) := bc BK157 1
              have hcz27_2 : w10.cell? ⟨gb157, 2, none⟩ = some (.int .i64 a0_2) := bc BK157 2
              have hcz27_3 : w10.cell? ⟨gb157, 3, none⟩ = some (.int .i64 a0_3) := bc BK157 3
              have hcz27_4 : w10.cell? ⟨gb157, 4, none⟩ = some (.int .i64 a0_4) := bc BK157 4
              have hcz27_5 : w10.cell? ⟨gb157, 5, none⟩ = some (.int .i64 a0_5) := bc BK157 5
              have hfz27_0 := blk_frozen BK157.out 0
              have hfz27_1 := blk_frozen BK157.out 1
              have hfz27_2 := blk_frozen BK157.out 2
              have hfz27_3 := blk_frozen BK157.out 3
              have hfz27_4 := blk_frozen BK157.out 4
              have hfz27_5 := blk_frozen BK157.out 5
              go_wp2_with (first | ((with_reducible refine gate_callee (f := 72) rfl ?_); refine goesL_ (some 17) rfl rfl Tryd.func72 (by kernel_rfl) rfl #[.agg #[.int .i64 1, .int .i64 8], .int .i64 a0_2] rfl (by (try simp only [List.map_toArray, List.map_cons, List.map_nil]); first | done | rfl | (simp only [List.length_drop, List.length_take]; rfl)) ?_; (with_reducible refine (spec_span_has.calls 1 8 a0_2 true _ A12.out).mono ?_); rintro e w28 ⟨rfl, hb⟩; refine ⟨_, rfl, ?_⟩; have n0_ := Aside0.mk (blk_below (g := gb157) (pk BK157) hb); have n1_ := Aside0.mk (below_step (by repeat (first | (with_reducible first | exact HB.out | apply below_alloc | apply pw_below_drewN | apply below_drew1 | refine below_set ?_ GE157.out) | exact HB.out)) hb); clear BK157; clear HB; have BK157 := n0_; have HB := n1_; clear n0_ n1_; (try clear hb); (try clear hb2); (try clear hk); (try clear hi); have hcz29_0 : w28.cell? ⟨gb157, 0, none⟩ = some (.string a0_0) := bc BK157 0; have hcz29_1 : w28.cell? ⟨gb157, 1, none⟩ = some (.int .i64 a0_1) := bc BK157 1; have hcz29_2 : w28.cell? ⟨gb157, 2, none⟩ = some (.int .i64 a0_2) := bc BK157 2; have hcz29_3 : w28.cell? ⟨gb157, 3, none⟩ = some (.int .i64 a0_3) := bc BK157 3; have hcz29_4 : w28.cell? ⟨gb157, 4, none⟩ = some (.int .i64 a0_4) := bc BK157 4; have hcz29_5 : w28.cell? ⟨gb157, 5, none⟩ = some (.int .i64 a0_5) := bc BK157 5; have hfz29_0 := blk_frozen BK157.out 0; have hfz29_1 := blk_frozen BK157.out 1; have hfz29_2 := blk_frozen BK157.out 2; have hfz29_3 := blk_frozen BK157.out 3; have hfz29_4 := blk_frozen BK157.out 4; have hfz29_5 := blk_frozen BK157.out 5) | ((with_reducible refine gate_callee (f := 72) rfl ?_); refine goesL_ (some 22) rfl rfl Tryd.func72 (by kernel_rfl) rfl #[.agg #[.int .i64 1, .int .i64 10], .int .i64 a0_4] rfl (by (try simp only [List.map_toArray, List.map_cons, List.map_nil]); first | done | rfl | (simp only [List.length_drop, List.length_take]; rfl)) ?_; (with_reducible refine (spec_span_has.calls 1 10 a0_4 true _ A14.out).mono ?_); rintro e w30 ⟨rfl, hb⟩; refine ⟨_, rfl, ?_⟩; have n0_ := Aside0.mk (blk_below (g := gb157) (pk BK157) hb); have n1_ := Aside0.mk (below_step (by repeat (first | (with_reducible first | exact HB.out | apply below_alloc | apply pw_below_drewN | apply below_drew1 | refine below_set ?_ GE157.out) | exact HB.out)) hb); clear BK157; clear HB; have BK157 := n0_; have HB := n1_; clear n0_ n1_; (try clear hb); (try clear hb2); (try clear hk); (try clear hi); have hcz31_0 : w30.cell? ⟨gb157, 0, none⟩ = some (.string a0_0) := bc BK157 0; have hcz31_1 : w30.cell? ⟨gb157, 1, none⟩ = some (.int .i64 a0_1) := bc BK157 1; have hcz31_2 : w30.cell? ⟨gb157, 2, none⟩ = some (.int .i64 a0_2) := bc BK157 2; have hcz31_3 : w30.cell? ⟨gb157, 3, none⟩ = some (.int .i64 a0_3) := bc BK157 3; have hcz31_4 : w30.cell? ⟨gb157, 4, none⟩ = some (.int .i64 a0_4) := bc BK157 4; have hcz31_5 : w30.cell? ⟨gb157, 5, none⟩ = some (.int .i64 a0_5) := bc BK157 5; have hfz31_0 := blk_frozen BK157.out 0; have hfz31_1 := blk_frozen BK157.out 1; have hfz31_2 := blk_frozen BK157.out 2; have hfz31_3 := blk_frozen BK157.out 3; have hfz31_4 := blk_frozen BK157.out 4; have hfz31_5 := blk_frozen BK157.out 5) | ((with_reducible refine gate_callee (f := 72) rfl ?_); refine goesL_ (some 29) rfl rfl Tryd.func72 (by kernel_rfl) rfl #[.agg #[.int .i64 0, .int .i64 a0_4], .int .i64 a0_3] rfl (by (try simp only [List.map_toArray, List.map_cons, List.map_nil]); first | done | rfl | (simp only [List.length_drop, List.length_take]; rfl)) ?_; (with_reducible refine (spec_span_has.calls 0 a0_4 a0_3 false _ A16.out).mono ?_); rintro e w32 ⟨rfl, hb⟩; refine ⟨_, rfl, ?_⟩; have n0_ := Aside0.mk (blk_below (g := gb157) (pk BK157) hb); have n1_ := Aside0.mk (below_step (by repeat (first | (with_reducible first | exact HB.out | apply below_alloc | apply pw_below_drewN | apply below_drew1 | refine below_set ?_ GE157.out) | exact HB.out)) hb); clear BK157; clear HB; have BK157 := n0_; have HB := n1_; clear n0_ n1_; (try clear hb); (try clear hb2); (try clear hk); (try clear hi)))
              go_meet
              case rel => exact ⟨_, (!false), (by first | rfl | (simp; done) | (simp [*]; done)), H', ⟨by first | omega | exact Nat.le_refl _⟩, ⟨by (with_reducible repeat (first | refine blk_drewN ?_ _ | refine blk_drew ?_ | refine blk_alloc ?_ _)); exact BK157.out⟩, ⟨by repeat (first | (with_reducible first | exact HB.out | apply below_alloc | apply pw_below_drewN | apply below_drew1 | refine below_set ?_ GE157.out) | exact HB.out)⟩⟩
          · replace c15 := Bool.eq_false_iff.mpr c15
            subst c15
            have H1 : (spec_Config.j0 k (!false)) = some r := by rw [if_neg (show ¬ (false = true) by decide)] at H; exact H
            clear H
            have H := H1
            clear H1
            have H' := Aside0.mk H
            clear H
            have hcz33_0 : w10.cell? ⟨gb157, 0, none⟩ = some (.string a0_0) := bc BK157 0
            have hcz33_1 : w10.cell? ⟨gb157, 1, none⟩ = some (.int .i64 a0_1) := bc BK157 1
            have hcz33_2 : w10.cell? ⟨gb157, 2, none⟩ = some (.int .i64 a0_2) := bc BK157 2
            have hcz33_3 : w10.cell? ⟨gb157, 3, none⟩ = some (.int .i64 a0_3) := bc BK157 3
            have hcz33_4 : w10.cell? ⟨gb157, 4, none⟩ = some (.int .i64 a0_4) := bc BK157 4
            have hcz33_5 : w10.cell? ⟨gb157, 5, none⟩ = some (.int .i64 a0_5) := bc BK157 5
            have hfz33_0 := blk_frozen BK157.out 0
            have hfz33_1 := blk_frozen BK157.out 1
            have hfz33_2 := blk_frozen BK157.out 2
            have hfz33_3 := blk_frozen BK157.out 3
            have hfz33_4 := blk_frozen BK157.out 4
            have hfz33_5 := blk_frozen BK157.out 5
            go_wp2_with (first | ((with_reducible refine gate_callee (f := 72) rfl ?_); refine goesL_ (some 17) rfl rfl Tryd.func72 (by kernel_rfl) rfl #[.agg #[.int .i64 1, .int .i64 8], .int .i64 a0_2] rfl (by (try simp only [List.map_toArray, List.map_cons, List.map_nil]); first | done | rfl | (simp only [List.length_drop, List.length_take]; rfl)) ?_; (with_reducible refine (spec_span_has.calls 1 8 a0_2 true _ A12.out).mono ?_); rintro e w34 ⟨rfl, hb⟩; refine ⟨_, rfl, ?_⟩; have n0_ := Aside0.mk (blk_below (g := gb157) (pk BK157) hb); have n1_ := Aside0.mk (below_step (by repeat (first | (with_reducible first | exact HB.out | apply below_alloc | apply pw_below_drewN | apply below_drew1 | refine below_set ?_ GE157.out) | exact HB.out)) hb); clear BK157; clear HB; have BK157 := n0_; have HB := n1_; clear n0_ n1_; (try clear hb); (try clear hb2); (try clear hk); (try clear hi); have hcz35_0 : w34.cell? ⟨gb157, 0, none⟩ = some (.string a0_0) := bc BK157 0; have hcz35_1 : w34.cell? ⟨gb157, 1, none⟩ = some (.int .i64 a0_1) := bc BK157 1; have hcz35_2 : w34.cell? ⟨gb157, 2, none⟩ = some (.int .i64 a0_2) := bc BK157 2; have hcz35_3 : w34.cell? ⟨gb157, 3, none⟩ = some (.int .i64 a0_3) := bc BK157 3; have hcz35_4 : w34.cell? ⟨gb157, 4, none⟩ = some (.int .i64 a0_4) := bc BK157 4; have hcz35_5 : w34.cell? ⟨gb157, 5, none⟩ = some (.int .i64 a0_5) := bc BK157 5; have hfz35_0 := blk_frozen BK157.out 0; have hfz35_1 := blk_frozen BK157.out 1; have hfz35_2 := blk_frozen BK157.out 2; have hfz35_3 := blk_frozen BK157.out 3; have hfz35_4 := blk_frozen BK157.out 4; have hfz35_5 := blk_frozen BK157.out 5) | ((with_reducible refine gate_callee (f := 72) rfl ?_); refine goesL_ (some 22) rfl rfl Tryd.func72 (by kernel_rfl) rfl #[.agg #[.int .i64 1, .int .i64 10], .int .i64 a0_4] rfl (by (try simp only [List.map_toArray, List.map_cons, List.map_nil]); first | done | rfl | (simp only [List.length_drop, List.length_take]; rfl)) ?_; (with_reducible refine (spec_span_has.calls 1 10 a0_4 false _ A14.out).mono ?_); rintro e w36 ⟨rfl, hb⟩; refine ⟨_, rfl, ?_⟩; have n0_ := Aside0.mk (blk_below (g := gb157) (pk BK157) hb); have n1_ := Aside0.mk (below_step (by repeat (first | (with_reducible first | exact HB.out | apply below_alloc | apply pw_below_drewN | apply below_drew1 | refine below_set ?_ GE157.out) | exact HB.out)) hb); clear BK157; clear HB; have BK157 := n0_; have HB := n1_; clear n0_ n1_; (try clear hb); (try clear hb2); (try clear hk); (try clear hi)))
            go_meet
            case rel => exact ⟨_, (!false), (by first | rfl | (simp; done) | (simp [*]; done)), H', ⟨by first | omega | exact Nat.le_refl _⟩, ⟨by (with_reducible repeat (first | refine blk_drewN ?_ _ | refine blk_drew ?_ | refine blk_alloc ?_ _)); exact BK157.out⟩, ⟨by repeat (first | (with_reducible first | exact HB.out | apply below_alloc | apply pw_below_drewN | apply below_drew1 | refine below_set ?_ GE157.out) | exact HB.out)⟩⟩
        · replace c13 := Bool.eq_false_iff.mpr c13
          subst c13
          have H1 : (spec_Config.j0 k (!false)) = some r := by rw [if_neg (show ¬ (false = true) by decide)] at H; exact H
          clear H
          have H := H1
          clear H1
          have H' := Aside0.mk H
          clear H
          have hcz37_0 : w10.cell? ⟨gb157, 0, none⟩ = some (.string a0_0) := bc BK157 0
          have hcz37_1 : w10.cell? ⟨gb157, 1, none⟩ = some (.int .i64 a0_1) := bc BK157 1
          have hcz37_2 : w10.cell? ⟨gb157, 2, none⟩ = some (.int .i64 a0_2) := bc BK157 2
          have hcz37_3 : w10.cell? ⟨gb157, 3, none⟩ = some (.int .i64 a0_3) := bc BK157 3
          have hcz37_4 : w10.cell? ⟨gb157, 4, none⟩ = some (.int .i64 a0_4) := bc BK157 4
          have hcz37_5 : w10.cell? ⟨gb157, 5, none⟩ = some (.int .i64 a0_5) := bc BK157 5
          have hfz37_0 := blk_frozen BK157.out 0
          have hfz37_1 := blk_frozen BK157.out 1
          have hfz37_2 := blk_frozen BK157.out 2
          have hfz37_3 := blk_frozen BK157.out 3
          have hfz37_4 := blk_frozen BK157.out 4
          have hfz37_5 := blk_frozen BK157.out 5
          go_wp2_with (first | ((with_reducible refine gate_callee (f := 72) rfl ?_); refine goesL_ (some 17) rfl rfl Tryd.func72 (by kernel_rfl) rfl #[.agg #[.int .i64 1, .int .i64 8], .int .i64 a0_2] rfl (by (try simp only [List.map_toArray, List.map_cons, List.map_nil]); first | done | rfl | (simp only [List.length_drop, List.length_take]; rfl)) ?_; (with_reducible refine (spec_span_has.calls 1 8 a0_2 false _ A12.out).mono ?_); rintro e w38 ⟨rfl, hb⟩; refine ⟨_, rfl, ?_⟩; have n0_ := Aside0.mk (blk_below (g := gb157) (pk BK157) hb); have n1_ := Aside0.mk (below_step (by repeat (first | (with_reducible first | exact HB.out | apply below_alloc | apply pw_below_drewN | apply below_drew1 | refine below_set ?_ GE157.out) | exact HB.out)) hb); clear BK157; clear HB; have BK157 := n0_; have HB := n1_; clear n0_ n1_; (try clear hb); (try clear hb2); (try clear hk); (try clear hi)))
          go_meet
          case rel => exact ⟨_, (!false), (by first | rfl | (simp; done) | (simp [*]; done)), H', ⟨by first | omega | exact Nat.le_refl _⟩, ⟨by (with_reducible repeat (first | refine blk_drewN ?_ _ | refine blk_drew ?_ | refine blk_alloc ?_ _)); exact BK157.out⟩, ⟨by repeat (first | (with_reducible first | exact HB.out | apply below_alloc | apply pw_below_drewN | apply below_drew1 | refine below_set ?_ GE157.out) | exact HB.out)⟩⟩
      · replace c11 := Bool.eq_false_iff.mpr c11
        subst c11
        have H1 : (spec_Config.j0 k (!false)) = some r := by rw [if_neg (show ¬ (false = true) by decide)] at H; exact H
        clear H
        have H := H1
        clear H1
        have H' := Aside0.mk H
        clear H
        go_wp2
        go_meet
        case rel => exact ⟨_, (!false), (by first | rfl | (simp; done) | (simp [*]; done)), H', ⟨by first | omega | exact Nat.le_refl _⟩, ⟨by (with_reducible repeat (first | refine blk_drewN ?_ _ | refine blk_drew ?_ | refine blk_alloc ?_ _)); exact BK157.out⟩, ⟨by repeat (first | (with_reducible first | exact HB.out | apply below_alloc | apply pw_below_drewN | apply below_drew1 | refine below_set ?_ GE157.out) | exact HB.out)⟩⟩
    case rest =>
      clear HC5
      try clear c1
      try clear p2
      try clear c3
      try clear c7
      try clear c11
      try clear c13
      try clear c15
      try clear c17
      try clear hcz19_0
      try clear hcz19_1
      try clear hcz19_2
      try clear hcz19_3
      try clear hcz19_4
      try clear hcz19_5
      try clear hcz21_0
      try clear hcz21_1
      try clear hcz21_2
      try clear hcz21_3
      try clear hcz21_4
      try clear hcz21_5
      try clear hcz23_0
      try clear hcz23_1
      try clear hcz23_2
      try clear hcz23_3
      try clear hcz23_4
      try clear hcz23_5
      try clear hcz25_0
      try clear hcz25_1
      try clear hcz25_2
      try clear hcz25_3
      try clear hcz25_4
      try clear hcz25_5
      try clear hcz27_0
      try clear hcz27_1
      try clear hcz27_2
      try clear hcz27_3
      try clear hcz27_4
      try clear hcz27_5
      try clear hcz29_0
      try clear hcz29_1
      try clear hcz29_2
      try clear hcz29_3
      try clear hcz29_4
      try clear hcz29_5
      try clear hcz31_0
      try clear hcz31_1
      try clear hcz31_2
      try clear hcz31_3
      try clear hcz31_4
      try clear hcz31_5
      try clear hcz33_0
      try clear hcz33_1
      try clear hcz33_2
      try clear hcz33_3
      try clear hcz33_4
      try clear hcz33_5
      try clear hcz35_0
      try clear hcz35_1
      try clear hcz35_2
      try clear hcz35_3
      try clear hcz35_4
      try clear hcz35_5
      try clear hcz37_0
      try clear hcz37_1
      try clear hcz37_2
      try clear hcz37_3
      try clear hcz37_4
      try clear hcz37_5
      try clear hcz7_0
      try clear hcz7_1
      try clear hcz7_2
      try clear hcz7_3
      try clear hcz7_4
      try clear hcz7_5
      try clear hcz9_0
      try clear hcz9_1
      try clear hcz9_2
      try clear hcz9_3
      try clear hcz9_4
      try clear hcz9_5
      try clear hfz19_0
      try clear hfz19_1
      try clear hfz19_2
      try clear hfz19_3
      try clear hfz19_4
      try clear hfz19_5
      try clear hfz21_0
      try clear hfz21_1
      try clear hfz21_2
      try clear hfz21_3
      try clear hfz21_4
      try clear hfz21_5
      try clear hfz23_0
      try clear hfz23_1
      try clear hfz23_2
      try clear hfz23_3
      try clear hfz23_4
      try clear hfz23_5
      try clear hfz25_0
      try clear hfz25_1
      try clear hfz25_2
      try clear hfz25_3
      try clear hfz25_4
      try clear hfz25_5
      try clear hfz27_0
      try clear hfz27_1
      try clear hfz27_2
      try clear hfz27_3
      try clear hfz27_4
      try clear hfz27_5
      try clear hfz29_0
      try clear hfz29_1
      try clear hfz29_2
      try clear hfz29_3
      try clear hfz29_4
      try clear hfz29_5
      try clear hfz31_0
      try clear hfz31_1
      try clear hfz31_2
      try clear hfz31_3
      try clear hfz31_4
      try clear hfz31_5
      try clear hfz33_0
      try clear hfz33_1
      try clear hfz33_2
      try clear hfz33_3
      try clear hfz33_4
      try clear hfz33_5
      try clear hfz35_0
      try clear hfz35_1
      try clear hfz35_2
      try clear hfz35_3
      try clear hfz35_4
      try clear hfz35_5
      try clear hfz37_0
      try clear hfz37_1
      try clear hfz37_2
      try clear hfz37_3
      try clear hfz37_4
      try clear hfz37_5
      try clear hfz7_0
      try clear hfz7_1
      try clear hfz7_2
      try clear hfz7_3
      try clear hfz7_4
      try clear hfz7_5
      try clear hfz9_0
      try clear hfz9_1
      try clear hfz9_2
      try clear hfz9_3
      try clear hfz9_4
      try clear hfz9_5
      obtain ⟨kq, x8_4, rfl, HA, HJ4, BK157, HB⟩ := hcut
      cases kq with
      | zero => exact absurd HA.out (by simp [spec_Config.j0])
      | succ kj4 =>
        have H := HA.out
        clear HA
        simp only [spec_Config.j0] at H
        by_cases c39 : x8_4 = true
        · subst c39
          have H1 : (some 2) = some r := by rw [if_pos rfl] at H; exact H
          clear H
          have H := H1
          clear H1
          obtain rfl := Option.some.inj H
          go_wp2
          go_ret
          exact ⟨by first | rfl | (simp [errW_none, errW_some] <;> rfl) | (simp [*, errW_none, errW_some] <;> rfl), by repeat (first | (with_reducible first | exact HB.out | apply below_alloc | apply pw_below_drewN | apply below_drew1 | refine below_set ?_ GE157.out) | exact HB.out)⟩
        · replace c39 := Bool.eq_false_iff.mpr c39
          subst c39
          have H1 : (some 0) = some r := by rw [if_neg (show ¬ (false = true) by decide)] at H; exact H
          clear H
          have H := H1
          clear H1
          obtain rfl := Option.some.inj H
          go_wp2
          go_ret
          exact ⟨by first | rfl | (simp [errW_none, errW_some] <;> rfl) | (simp [*, errW_none, errW_some] <;> rfl), by repeat (first | (with_reducible first | exact HB.out | apply below_alloc | apply pw_below_drewN | apply below_drew1 | refine below_set ?_ GE157.out) | exact HB.out)⟩
  · replace c3 := Bool.eq_false_iff.mpr c3
    subst c3
    have H1 : (some 1) = some r := by rw [if_neg (show ¬ (false = true) by decide)] at H; exact H
    clear H
    have H := H1
    clear H1
    obtain rfl := Option.some.inj H
    go_enter Tryd.func39, Tryd.ntmps39
    go_wp2_with (first | ((with_reducible refine gate_dst (N := 1) rfl ?_); refine box_event ?hg (N := 1) ?hd (cs := #[.string a0_0, .int .i64 a0_1, .int .i64 a0_2, .int .i64 a0_3, .int .i64 a0_4, .int .i64 a0_5]) (t := 23) ?hr ?_; (case hd => rfl); (case hg => rfl); (case hr => first | (go_simp; done) | (go_simp; rfl)); intro gb157 hg w40 hbox hb; have n0_ := Aside0.mk (below_step (by repeat (first | (with_reducible first | exact HB.out | apply below_alloc | apply pw_below_drewN | apply below_drew1) | exact HB.out)) hb); have n1_ := Aside0.mk (hbox); have n2_ := Aside0.mk ((by rw [hg]; exact (below_size (by repeat (first | (with_reducible first | exact HB.out | apply below_alloc | apply pw_below_drewN | apply below_drew1) | exact HB.out))) : w.heap.size ≤ gb157)); have n3_ := Aside0.mk ((by rw [hg]; exact (below_size (by repeat (first | (with_reducible first | exact HB.out | apply below_alloc | apply pw_below_drewN | apply below_drew1) | exact HB.out))) : w.heap.size ≤ gb157)); clear HB; have HB := n0_; have BK157 := n1_; have GW157 := n2_; have GE157 := n3_; clear n0_ n1_ n2_ n3_; clear hb hbox hg; have hcz41_0 : w40.cell? ⟨gb157, 0, none⟩ = some (.string a0_0) := bc BK157 0; have hcz41_1 : w40.cell? ⟨gb157, 1, none⟩ = some (.int .i64 a0_1) := bc BK157 1; have hcz41_2 : w40.cell? ⟨gb157, 2, none⟩ = some (.int .i64 a0_2) := bc BK157 2; have hcz41_3 : w40.cell? ⟨gb157, 3, none⟩ = some (.int .i64 a0_3) := bc BK157 3; have hcz41_4 : w40.cell? ⟨gb157, 4, none⟩ = some (.int .i64 a0_4) := bc BK157 4; have hcz41_5 : w40.cell? ⟨gb157, 5, none⟩ = some (.int .i64 a0_5) := bc BK157 5; have hfz41_0 := blk_frozen BK157.out 0; have hfz41_1 := blk_frozen BK157.out 1; have hfz41_2 := blk_frozen BK157.out 2; have hfz41_3 := blk_frozen BK157.out 3; have hfz41_4 := blk_frozen BK157.out 4; have hfz41_5 := blk_frozen BK157.out 5) | ((with_reducible refine gate_callee (f := 70) rfl ?_); refine goesL_ (some 6) rfl rfl Tryd.func70 (by kernel_rfl) rfl #[.string a0_0] rfl (by (try simp only [List.map_toArray, List.map_cons, List.map_nil]); first | done | rfl | (simp only [List.length_drop, List.length_take]; rfl)) ?_; (with_reducible refine (label_Name.calls a0_0 false _ A2.out).mono ?_); rintro e w42 ⟨rfl, hb⟩; refine ⟨_, rfl, ?_⟩; have n0_ := Aside0.mk (blk_below (g := gb157) (pk BK157) hb); have n1_ := Aside0.mk (below_step (by repeat (first | (with_reducible first | exact HB.out | apply below_alloc | apply pw_below_drewN | apply below_drew1 | refine below_set ?_ GE157.out) | exact HB.out)) hb); clear BK157; clear HB; have BK157 := n0_; have HB := n1_; clear n0_ n1_; (try clear hb); (try clear hb2); (try clear hk); (try clear hi)))
    go_ret
    exact ⟨by first | rfl | (simp [errW_none, errW_some] <;> rfl) | (simp [*, errW_none, errW_some] <;> rfl), by repeat (first | (with_reducible first | exact HB.out | apply below_alloc | apply pw_below_drewN | apply below_drew1 | refine below_set ?_ GE157.out) | exact HB.out)⟩
end

section
/-! ### spec_target: function 73 -/
/-- What is wrong with a target, where it is known whether its name parts and its tag is one. -/
def tgt (s t : ByteArray) (p : Int) (is g : Bool) : Int := if s.toList ≠ [] ∧ is = false then 1 else if t.toList ≠ [] ∧ g = false then 1 else if 0 ≤ p ∧ p ≤ 100 then 0 else 2
def spec_target.f (a0_0 : ByteArray) (a0_1 : ByteArray) (a0_2 : Int) : Option Int :=
  (label_Split.f a0_0).bind fun t => (label_Tag.f a0_1).bind fun g => some (tgt a0_0 a0_1 a0_2 t.2.2 g)
theorem str_em (s : ByteArray) : ((s.toList != ([] : List UInt8)) = false ∧ s.toList.isEmpty = true ∧ (s.toList == ([] : List UInt8)) = true ∧ Aside0 (s.toList = [])) ∨ ((s.toList != ([] : List UInt8)) = true ∧ s.toList.isEmpty = false ∧ (s.toList == ([] : List UInt8)) = false ∧ Aside0 (¬ s.toList = [])) := by
  cases hs : s.toList with
  | nil => exact .inl ⟨rfl, rfl, rfl, ⟨rfl⟩⟩
  | cons a l => exact .inr ⟨rfl, rfl, rfl, ⟨by simp⟩⟩
theorem blk_keep {W w1 : World} (hb : Below W.heap.size W w1) {g : Nat} {t : TypeId} {cs : Array Value} (h : W.heap[g]? = some (.cells cs t (0, 0))) : w1.heap[g]? = some (.cells cs t (0, 0)) := blk_below h hb
set_option maxHeartbeats 8000000 in
set_option maxRecDepth 100000 in
theorem spec_target.calls (a0_0 : ByteArray) (a0_1 : ByteArray) (a0_2 : Int) (r : Int) (w : World) (hLd_ : Aside0 (LaidW w)) (h : spec_target.f a0_0 a0_1 a0_2 = some r) :
    Calls Tryd.prog 73 #[.agg #[.string a0_0, .string a0_1, .int .i64 a0_2]] w fun e w' => e = .returned (.int .i64 r) ∧ Below w.heap.size w w' := by
  unfold spec_target.f at h
  obtain ⟨⟨r1, r2, is⟩, hS, h⟩ := Option.bind_eq_some_iff.mp h
  obtain ⟨g, hG, h⟩ := Option.bind_eq_some_iff.mp h
  have hr := Option.some.inj h; clear h
  have hsp := fun (W : World) (hl : Aside0 (LaidW W)) => label_Split.calls a0_0 r1 r2 is W hl hS
  have htg := fun (W : World) => label_Tag.calls a0_1 g W hG
  have HSp := Lib.hid hsp; clear hsp
  have HTg := Lib.hid htg; clear htg
  clear hS hG
  have HR := Lib.hid hr; clear hr
  have HL0 : Aside0 (LaidW (w.alloc (.cells #[.string a0_0, .string a0_1, .int .i64 a0_2] 39))) := ⟨hLd_.out.below ((Below.refl _ _).alloc (Nat.le_refl _) _)⟩
  have hK0 : (w.alloc (.cells #[.string a0_0, .string a0_1, .int .i64 a0_2] 39)).heap[w.heap.size]? = some (.cells #[.string a0_0, .string a0_1, .int .i64 a0_2] 39 (0, 0)) := blk_new _ _
  have HK0 := Lib.hid hK0; clear hK0
  have hB0 : Below w.heap.size w (w.alloc (.cells #[.string a0_0, .string a0_1, .int .i64 a0_2] 39)) := (Below.refl _ _).alloc (Nat.le_refl _) _
  go_enter Tryd.func73, Tryd.ntmps73
  go_wp2_with fail
  refine (HSp.out _ HL0).mono ?_
  rintro e w1 ⟨rfl, hb1⟩
  have hK1 := blk_keep hb1 HK0.out
  have hB1 := below_step hB0 hb1
  clear hb1 HK0 hB0 HL0
  have c0 : w1.cell? ⟨w.heap.size, 0, none⟩ = some (.string a0_0) := (blk_cell hK1 0).trans rfl
  have c1 : w1.cell? ⟨w.heap.size, 1, none⟩ = some (.string a0_1) := (blk_cell hK1 1).trans rfl
  have c2 : w1.cell? ⟨w.heap.size, 2, none⟩ = some (.int .i64 a0_2) := (blk_cell hK1 2).trans rfl
  have HK1 := Lib.hid hK1; clear hK1
  have HB1 := Aside0.mk hB1; clear hB1
  obtain ⟨pb, hpb, hpb2⟩ : ∃ pb : Bool, spec_span_has.f 0 100 a0_2 = some pb ∧ (pb = true ↔ 0 ≤ a0_2 ∧ a0_2 ≤ 100) := by
    unfold spec_span_has.f
    by_cases h0 : a0_2 ≥ 0
    · rw [if_pos h0]; exact ⟨_, rfl, by simp; omega⟩
    · rw [if_neg h0]; exact ⟨_, rfl, by simp; omega⟩
  have hhas := fun (W : World) => spec_span_has.calls 0 100 a0_2 pb W hpb
  have HHas := Lib.hid hhas; clear hhas hpb
  have HPb := Lib.hid hpb2; clear hpb2
  rcases str_em a0_0 with ⟨s1, s2, s3, HS⟩ | ⟨s1, s2, s3, HS⟩
  all_goals cases is
  all_goals rcases str_em a0_1 with ⟨t1, t2, t3, HT⟩ | ⟨t1, t2, t3, HT⟩
  all_goals cases g
  all_goals cases pb
  all_goals
    go_wp2_with (first | (go_at_call 37; refine (HTg.out _).mono ?_; rintro e w2 ⟨rfl, hb2⟩; have hB2 := Aside0.mk (below_step HB1.out hb2); have d2 : w2.cell? ⟨w.heap.size, 2, none⟩ = some (.int .i64 a0_2) := (blk_cell (blk_keep hb2 HK1.out) 2).trans rfl; clear hb2) | (go_at_call 72; refine (HHas.out _).mono ?_; rintro e w3 ⟨rfl, hb3⟩))
    (first | go_ret | (go_outline; go_ways; fail))
    have h1 := HR.out
    have h2 := HPb.out
    have h3 := HS.out
    have h4 := HT.out
    refine ⟨?_, ?_⟩
    · rw [← h1]; unfold tgt; simp [h3, h4] at h2 ⊢ <;> omega
    · first | exact below_step hB2.out hb3 | exact hB2.out | exact below_step HB1.out hb3 | exact HB1.out

-- NOT PRINTED: function 92 (api_Target_92)

-- NOT PRINTED: function 85 (api_Target_85)
end

section
/-! ### spec_all: function 74 -/
/-- The first of the list from number k on whose tag is t; -1: none. -/
def idxT : List S39 → ByteArray → Int → Int
  | [], _, _ => -1
  | x :: xs, t, k => if (x.f1.toList == t.toList) = true then k else idxT xs t (k + 1)
theorem idxT_step (l : List S39) (t : ByteArray) (x : Int) (h0 : 0 ≤ x) (h1 : x < (l.length : Int)) : idxT (l.drop x.toNat) t x = if ((rd_T39 l x).f1.toList == t.toList) = true then x else idxT (l.drop (x + 1).toNat) t (x + 1) := by
  have hn : x.toNat < l.length := by omega
  rw [show (x + 1).toNat = x.toNat + 1 by omega, List.drop_eq_getElem_cons hn, idxT]
  unfold rd_T39
  rw [List.getD_eq_getElem?_getD, List.getElem?_eq_getElem hn, Option.getD_some]
theorem idxT_end (l : List S39) (t : ByteArray) (x : Int) (h1 : ¬ x < (l.length : Int)) (h0 : 0 ≤ x) : idxT (l.drop x.toNat) t x = -1 := by
  rw [List.drop_eq_nil_of_le (by omega), idxT]
theorem idxT_ge : ∀ (l : List S39) (t : ByteArray) (x : Int), 0 ≤ x → (0 ≤ idxT l t x ↔ l.any (fun y => y.f1.toList == t.toList) = true)
  | [], t, x, h => by simp [idxT]
  | y :: ys, t, x, h => by
    by_cases e : (y.f1.toList == t.toList) = true
    · rw [idxT, if_pos e, List.any_cons, e]; simp [h]
    · rw [idxT, if_neg e, List.any_cons, idxT_ge ys t (x + 1) (by omega)]
      simp only [Bool.not_eq_true] at e
      rw [e, Bool.false_or]
set_option maxHeartbeats 8000000 in
set_option maxRecDepth 100000 in
theorem tagged_walk (x0 x1 : ByteArray) (x2 : Int) (b : Nat) (t0 t1 : ByteArray) (t2 : Int) (w : World) (hK : w.heap[b]? = some (.cells #[.string t0, .string t1, .int .i64 t2] 39 (0, 0))) :
    Calls Tryd.prog 86 #[.agg #[.string x0, .string x1, .int .i64 x2], .pointer (some ⟨b, 0, none⟩)] w fun e w' => e = .returned (.bool (x1.toList == t1.toList)) ∧ Below w.heap.size w w' := by
  have c1 : (w.alloc (.cells #[.string x0, .string x1, .int .i64 x2] 39)).cell? ⟨b, 1, none⟩ = some (.string t1) := (blk_cell (blk_alloc hK _) 1).trans rfl
  clear hK
  go_enter Tryd.func86, Tryd.ntmps86
  go_wp2
  go_ret
  exact ⟨rfl, (Below.refl _ _).alloc (Nat.le_refl _) _⟩
set_option maxHeartbeats 8000000 in
set_option maxRecDepth 100000 in
theorem idx_walk (A : Option Addr) (c : Nat) (l : List S39) (b : Nat) (t0 t1 : ByteArray) (t2 : Int) (w : World) (hr : Kd.C k39 w A l.length l) (hK : w.heap[b]? = some (.cells #[.string t0, .string t1, .int .i64 t2] 39 (0, 0))) :
    Calls Tryd.prog 92 #[.slice A l.length c, .func (.func 86) #[] #[.pointer (some ⟨b, 0, none⟩)]] w fun e w' => e = .returned (.int .i64 (idxT l t1 0)) ∧ Below w.heap.size w w' := by
  have hm : (l.length : Int) ≤ 9223372036854775807 := by have := Kd.C_max hr; omega
  have HR := Aside0.mk hr
  have HK := Aside0.mk hK
  clear hr hK
  obtain ⟨res, hres⟩ : ∃ r : Int, idxT l t1 0 = r := ⟨_, rfl⟩
  have HE : Aside0 (idxT (l.drop (0 : Int).toNat) t1 0 = res) := ⟨by simpa using hres⟩
  rw [hres]
  clear hres
  go_enter Tryd.func92, Tryd.ntmps92
  go_wp2_with fail
  go_loopw [8] (fun v8 w' => ∃ x : Int, 0 ≤ x ∧ x ≤ (l.length : Int) ∧ v8 = .int .i64 x ∧ Aside0 (idxT (l.drop x.toNat) t1 x = res) ∧ Aside0 (Below w.heap.size w w')) (fun v8 w' => l.length - (intOf v8).toNat)
  case atStart => exact ⟨0, by omega, by omega, rfl, HE, ⟨Below.refl _ _⟩⟩
  case round =>
    obtain ⟨x, hx0, hx1, rfl, HI, HB⟩ := hrel
    by_cases hlt : x < (l.length : Int)
    · have hst := idxT_step l t1 x hx0 hlt
      rw [HI.out] at hst
      have hr' := Kd.C_below HR.out HB.out
      obtain ⟨ad, e, c0, c1, c2⟩ := at_T39 hr' x hx0 hlt
      subst e
      have hK' := Aside0.mk (blk_below HK.out HB.out)
      clear hr'
      have hx2 : wrap64 (x + 1) = x + 1 := by unfold wrap64; omega
      have hx3 := eq_true hx0
      have hx4 := eq_true hlt
      have hdec : decide (x < (l.length : Int)) = true := decide_eq_true hlt
      generalize hq : rd_T39 l x = y at c0 c1 c2 hst
      clear hq
      obtain ⟨y0, y1, y2⟩ := y
      obtain ⟨q, hq⟩ : ∃ q : Bool, (y1.toList == t1.toList) = q := ⟨_, rfl⟩
      have hcall := fun (W : World) hW => tagged_walk y0 y1 y2 b t0 t1 t2 W hW
      rw [hq] at hcall
      have HC := Lib.hid hcall
      simp only [hq] at hst
      clear hcall hq
      cases q with
      | true =>
        rw [if_pos rfl] at hst
        have HST := Aside0.mk hst
        clear hst
        go_wp2_with (go_at_call 86; refine (HC.out _ hK'.out).mono ?_; rintro e w2 ⟨rfl, hb2⟩; have HB2 := Aside0.mk (below_step HB.out hb2); clear hb2)
        go_ret
        exact ⟨by rw [HST.out]; rfl, HB2.out⟩
      | false =>
        rw [if_neg (by decide)] at hst
        have HST := Aside0.mk hst
        clear hst
        go_wp2_with (go_at_call 86; refine (HC.out _ hK'.out).mono ?_; rintro e w2 ⟨rfl, hb2⟩; have HB2 := Aside0.mk (below_step HB.out hb2); clear hb2)
        go_roundw
        case rel => exact ⟨x + 1, by omega, by omega, by first | rfl | rw [hx2], ⟨HST.out.symm⟩, HB2⟩
        case measure => simp [intOf]; omega
    · have hen := idxT_end l t1 x hlt hx0
      rw [HI.out] at hen
      subst hen
      have hdec : decide (x < (l.length : Int)) = false := decide_eq_false hlt
      have hdec2 := eq_false hlt
      go_wp2_with fail
      go_ret
      exact ⟨rfl, HB.out⟩
set_option maxHeartbeats 8000000 in
set_option maxRecDepth 100000 in
theorem within_walk (A : Option Addr) (c : Nat) (l : List S39) (b : Nat) (t0 t1 : ByteArray) (t2 : Int) (w : World) (hr : Kd.C k39 w A l.length l) (hK : w.heap[b]? = some (.cells #[.string t0, .string t1, .int .i64 t2] 39 (0, 0))) :
    Calls Tryd.prog 85 #[.slice A l.length c, .func (.func 86) #[] #[.pointer (some ⟨b, 0, none⟩)]] w fun e w' => e = .returned (.bool (l.any fun y => y.f1.toList == t1.toList)) ∧ Below w.heap.size w w' := by
  have hcall := idx_walk A c l b t0 t1 t2 w hr hK
  have hge := idxT_ge l t1 0 (by omega)
  clear hr hK
  generalize idxT l t1 0 = res at hcall hge
  have HC := Lib.hid hcall
  clear hcall
  have hg2 : decide (0 ≤ res) = (l.any fun y => y.f1.toList == t1.toList) := by
    rw [Bool.eq_iff_iff, decide_eq_true_iff]; exact hge
  rw [← hg2]
  clear hg2 hge
  go_enter Tryd.func85, Tryd.ntmps85
  go_wp2_with (go_at_call 92; refine HC.out.mono ?_; rintro e w2 ⟨rfl, hb2⟩)
  go_ret
  exact ⟨rfl, hb2⟩
/-- The sum so far, and the targets that are left: what is wrong with them together. -/
def all_go : List S39 → List S39 → Int → Int
  | _, [], sum => if sum = 100 then 0 else 4
  | pre, t :: ts, sum => if t.f1.toList ≠ [] ∧ pre.any (fun y => y.f1.toList == t.f1.toList) = true then 5 else all_go (pre ++ [t]) ts (wrap64 (sum + t.f2))
def spec_all.f (l : List S39) : Option Int := some (all_go [] l 0)
theorem all_step (l : List S39) (s x : Int) (h0 : 0 ≤ x) (h1 : x < (l.length : Int)) : all_go (l.take x.toNat) (l.drop x.toNat) s = if (rd_T39 l x).f1.toList ≠ [] ∧ (l.take x.toNat).any (fun y => y.f1.toList == (rd_T39 l x).f1.toList) = true then 5 else all_go (l.take (x + 1).toNat) (l.drop (x + 1).toNat) (wrap64 (s + (rd_T39 l x).f2)) := by
  have hn : x.toNat < l.length := by omega
  have e : rd_T39 l x = l[x.toNat] := by
    unfold rd_T39
    rw [List.getD_eq_getElem?_getD, List.getElem?_eq_getElem hn, Option.getD_some]
  rw [e, show (x + 1).toNat = x.toNat + 1 by omega, List.drop_eq_getElem_cons hn, List.take_succ_eq_append_getElem hn]
  conv => lhs; unfold all_go
theorem all_end (l : List S39) (s x : Int) (h1 : ¬ x < (l.length : Int)) (h0 : 0 ≤ x) : all_go (l.take x.toNat) (l.drop x.toNat) s = if s = 100 then 0 else 4 := by
  rw [List.drop_eq_nil_of_le (by omega), all_go]
theorem within_walk' (A : Option Addr) (c n : Nat) (l : List S39) (b : Nat) (t0 t1 : ByteArray) (t2 : Int) (w : World) (hn : l.length = n) (hr : Kd.C k39 w A l.length l) (hK : w.heap[b]? = some (.cells #[.string t0, .string t1, .int .i64 t2] 39 (0, 0))) :
    Calls Tryd.prog 85 #[.slice A n c, .func (.func 86) #[] #[.pointer (some ⟨b, 0, none⟩)]] w fun e w' => e = .returned (.bool (l.any fun y => y.f1.toList == t1.toList)) ∧ Below w.heap.size w w' := by
  subst hn; exact within_walk A c l b t0 t1 t2 w hr hK
set_option maxHeartbeats 8000000 in
set_option maxRecDepth 100000 in
theorem spec_all.calls (A0 : Option Addr) (c0 : Nat) (l0 : List (S39)) (r : Int) (w : World) (hr0 : Kd.C k39 w A0 l0.length l0) (hc0 : l0.length ≤ c0) (h : spec_all.f l0 = some r) :
    Calls Tryd.prog 74 #[.slice A0 l0.length c0] w fun e w' => e = .returned (.int .i64 r) ∧ Below w.heap.size w w' := by
  have hm : (l0.length : Int) ≤ 9223372036854775807 := by have := Kd.C_max hr0; omega
  have HR := Aside0.mk hr0
  clear hr0
  have hr := Option.some.inj h
  clear h
  have HE : Aside0 (all_go (l0.take (0 : Int).toNat) (l0.drop (0 : Int).toNat) 0 = r) := ⟨by simpa using hr⟩
  clear hr
  go_enter Tryd.func74, Tryd.ntmps74
  go_wp2_with fail
  go_loopw [3, 8] (fun v3 v8 w' => ∃ s x : Int, 0 ≤ x ∧ x ≤ (l0.length : Int) ∧ v3 = .int .i64 s ∧ v8 = .int .i64 x ∧ Aside0 (all_go (l0.take x.toNat) (l0.drop x.toNat) s = r) ∧ Aside0 (Below w.heap.size w w')) (fun v3 v8 w' => l0.length - (intOf v8).toNat)
  case atStart => exact ⟨0, 0, by omega, by omega, rfl, rfl, HE, ⟨Below.refl _ _⟩⟩
  case round =>
    obtain ⟨s, x, hx0, hx1, rfl, rfl, HI, HB⟩ := hrel
    by_cases hlt : x < (l0.length : Int)
    · have hst := all_step l0 s x hx0 hlt
      rw [HI.out] at hst
      have hr' := Kd.C_below HR.out HB.out
      obtain ⟨ad, e, q0, q1, q2⟩ := at_T39 hr' x hx0 hlt
      subst e
      clear hr'
      have hx2 : wrap64 (x + 1) = x + 1 := by unfold wrap64; omega
      have hx3 := eq_true hx0
      have hx4 := eq_true hlt
      have hx5 : (x ≤ (c0 : Int)) = True := eq_true (by omega)
      have hdec : decide (x < (l0.length : Int)) = true := decide_eq_true hlt
      generalize hq : rd_T39 l0 x = y at q0 q1 q2 hst
      clear hq
      obtain ⟨y0, y1, y2⟩ := y
      simp only at q0 q1 q2 hst
      obtain ⟨q, hq⟩ : ∃ q : Bool, (l0.take x.toNat).any (fun y => y.f1.toList == y1.toList) = q := ⟨_, rfl⟩
      have hcall := fun (W : World) (n b : Nat) hn hW hK => within_walk' (some ad) c0 n (l0.take x.toNat) b y0 y1 y2 W hn hW hK
      rw [hq] at hcall hst
      have HC := Lib.hid hcall
      clear hcall hq
      rcases str_em y1 with ⟨t1, t2, t3, HT⟩ | ⟨t1, t2, t3, HT⟩
      · rw [if_neg (fun hh => hh.1 HT.out)] at hst
        have HST := Aside0.mk hst
        clear hst
        go_wp2_with fail
        go_roundw
        case rel => exact ⟨_, x + 1, by omega, by omega, rfl, by first | rfl | rw [hx2], ⟨HST.out.symm⟩, ⟨below_alloc HB.out _⟩⟩
        case measure => simp [intOf]; omega
      · cases q with
        | true =>
          rw [if_pos ⟨HT.out, rfl⟩] at hst
          have HST := Aside0.mk hst
          clear hst
          go_wp2_with fail
          refine (HC.out _ x.toNat _ (by rw [List.length_take]; omega) (Kd.C_alloc (Kd.C_take (Kd.C_below HR.out HB.out) (by omega)) _) (blk_new _ _)).mono ?_
          rintro e w2 ⟨rfl, hb2⟩
          have HB2 := Aside0.mk (below_step (below_alloc HB.out _) hb2)
          clear hb2
          go_wp2_with fail
          go_ret
          exact ⟨by rw [HST.out]; rfl, HB2.out⟩
        | false =>
          rw [if_neg (by simp)] at hst
          have HST := Aside0.mk hst
          clear hst
          go_wp2_with fail
          refine (HC.out _ x.toNat _ (by rw [List.length_take]; omega) (Kd.C_alloc (Kd.C_take (Kd.C_below HR.out HB.out) (by omega)) _) (blk_new _ _)).mono ?_
          rintro e w2 ⟨rfl, hb2⟩
          have HB2 := Aside0.mk (below_step (below_alloc HB.out _) hb2)
          clear hb2
          go_wp2_with fail
          go_roundw
          case rel => exact ⟨_, x + 1, by omega, by omega, rfl, by first | rfl | rw [hx2], ⟨HST.out.symm⟩, HB2⟩
          case measure => simp [intOf]; omega
    · have hen := all_end l0 s x hlt hx0
      rw [HI.out] at hen
      have hdec : decide (x < (l0.length : Int)) = false := decide_eq_false hlt
      have hdec2 := eq_false hlt
      by_cases h100 : s = 100
      · subst h100
        rw [if_pos rfl] at hen
        have HST := Aside0.mk hen
        clear hen
        go_wp2_with fail
        go_ret
        exact ⟨by rw [HST.out]; rfl, HB.out⟩
      · rw [if_neg h100] at hen
        have HST := Aside0.mk hen
        clear hen
        have h1 : (s == 100) = false := beq_eq_false_iff_ne.mpr h100
        have h2 : (s != 100) = true := bne_iff_ne.mpr h100
        clear h100
        go_wp2_with fail
        go_ret
        exact ⟨by rw [HST.out]; rfl, HB.out⟩
end

section
/-! ### spec_Route: function 40 -/
mutual
def spec_Route.j0 : Nat → Bool → ByteArray → ByteArray → List (S39) → Int → Option (Int)
  | 0, _, _, _, _, _ => none
  | k + 1, x6, x165000, x165001, x165002, x165003 => if x6 = true then (some 1) else ((spec_span_has.f 0 60 x165003).bind fun t167 => (if t167 = true then ((spec_span_has.f 1 6 (x165002.length : Int)).bind fun t168 => (if t168 = true then (spec_Route.l0 k x165002 (x165002.length : Int) 0 x165000 x165001 x165002 x165003) else (some 3))) else (some 2)))
def spec_Route.l0 : Nat → List (S39) → Int → Int → ByteArray → ByteArray → List (S39) → Int → Option (Int)
  | 0, _, _, _, _, _, _, _ => none
  | k + 1, x29, x30, x31, x165000, x165001, x165002, x165003 => if x31 < x30 then (if 0 ≤ x31 then (if x31 < (x29.length : Int) then ((spec_target.f ((rd_T39 x29 x31).f0) ((rd_T39 x29 x31).f1) ((rd_T39 x29 x31).f2)).bind fun t171 => (if t171 = 0 then (spec_Route.l0 k x29 x30 (wrap64 (x31 + 1)) x165000 x165001 x165002 x165003) else (some t171))) else (none)) else (none)) else ((spec_all.f x165002).bind fun t172 => (some t172))
end
def spec_Route.f (k : Nat) (a0_0 : ByteArray) (a0_1 : ByteArray) (l0_2 : List (S39)) (a0_3 : Int) : Option (Int) := (label_Name.f a0_0).bind fun t165 => (if t165 = true then ((label_Name.f a0_1).bind fun t166 => (spec_Route.j0 k (!t166) a0_0 a0_1 l0_2 a0_3)) else (spec_Route.j0 k (!t165) a0_0 a0_1 l0_2 a0_3))
theorem spec_Route.mono_l : ∀ k, (∀ y0 y1 y2 y3 y4, LeO (spec_Route.j0 k y0 y1 y2 y3 y4) (spec_Route.j0 (k + 1) y0 y1 y2 y3 y4)) ∧ (∀ y0 y1 y2 y3 y4 y5 y6, LeO (spec_Route.l0 k y0 y1 y2 y3 y4 y5 y6) (spec_Route.l0 (k + 1) y0 y1 y2 y3 y4 y5 y6))
  | 0 => ⟨fun _ _ _ _ _ r h => by simp [spec_Route.j0] at h, fun _ _ _ _ _ _ _ r h => by simp [spec_Route.l0] at h⟩
  | k + 1 => by
    obtain ⟨ih0, ih1⟩ := spec_Route.mono_l k
    refine ⟨?_, ?_⟩
    · intro y0 y1 y2 y3 y4
      unfold spec_Route.j0
      repeat' first
      | (with_reducible exact ih0 _ _ _ _ _)
      | (with_reducible exact ih1 _ _ _ _ _ _ _)
      | (with_reducible exact LeO.refl _)
      | (with_reducible exact LeO.none _)
      | (with_reducible refine LeO.ite ?_ ?_)
      | (with_reducible refine LeO.bind ?_ (fun _ => ?_))
      | exact ih0 _ _ _ _ _
      | exact ih1 _ _ _ _ _ _ _
      | exact LeO.none _
      | refine LeO.ite ?_ ?_
      | refine LeO.bind ?_ (fun _ => ?_)
    · intro y0 y1 y2 y3 y4 y5 y6
      unfold spec_Route.l0
      repeat' first
      | (with_reducible exact ih0 _ _ _ _ _)
      | (with_reducible exact ih1 _ _ _ _ _ _ _)
      | (with_reducible exact LeO.refl _)
      | (with_reducible exact LeO.none _)
      | (with_reducible refine LeO.ite ?_ ?_)
      | (with_reducible refine LeO.bind ?_ (fun _ => ?_))
      | exact ih0 _ _ _ _ _
      | exact ih1 _ _ _ _ _ _ _
      | exact LeO.none _
      | refine LeO.ite ?_ ?_
      | refine LeO.bind ?_ (fun _ => ?_)
theorem spec_Route.mono : ∀ a0 a1 a2 a3 k, LeO (spec_Route.f k a0 a1 a2 a3) (spec_Route.f (k + 1) a0 a1 a2 a3) := by
  intro a0 a1 a2 a3 k
  obtain ⟨ih0, ih1⟩ := spec_Route.mono_l k
  unfold spec_Route.f
  repeat' first
      | (with_reducible exact ih0 _ _ _ _ _)
      | (with_reducible exact ih1 _ _ _ _ _ _ _)
      | (with_reducible exact LeO.refl _)
      | (with_reducible exact LeO.none _)
      | (with_reducible refine LeO.ite ?_ ?_)
      | (with_reducible refine LeO.bind ?_ (fun _ => ?_))
      | exact ih0 _ _ _ _ _
      | exact ih1 _ _ _ _ _ _ _
      | exact LeO.none _
      | refine LeO.ite ?_ ?_
      | refine LeO.bind ?_ (fun _ => ?_)
set_option maxHeartbeats 8000000 in
set_option maxRecDepth 100000 in
theorem spec_Route.calls (k : Nat) (a0_0 : ByteArray) (a0_1 : ByteArray) (A0_2 : Option Addr) (c0_2 : Nat) (l0_2 : List (S39)) (a0_3 : Int) (r : Int) (w : World) (hLd_ : Aside0 (LaidW w)) (hr0_2 : Kd.C k39 w A0_2 l0_2.length l0_2) (hc0_2 : l0_2.length ≤ c0_2) (h : spec_Route.f k a0_0 a0_1 l0_2 a0_3 = some r) :
    Calls Tryd.prog 40 #[.agg #[.string a0_0, .string a0_1, .slice A0_2 l0_2.length c0_2, .int .i64 a0_3]] w fun e w' => e = .returned (.int .i64 r) ∧ Below w.heap.size w w' := by
  have hu26 := Tryd.underlying26
  have hu107 := Tryd.underlying107
  have hu39 := Tryd.underlying39
  have HR0_2 := Aside0.mk hr0_2
  have HC0_2 := Aside0.mk hc0_2
  clear hr0_2 hc0_2
  have HB := Aside0.mk (Below.refl w.heap.size w)
  have H : ((label_Name.f a0_0).bind fun t165 => (if t165 = true then ((label_Name.f a0_1).bind fun t166 => (spec_Route.j0 k (!t166) a0_0 a0_1 l0_2 a0_3)) else (spec_Route.j0 k (!t165) a0_0 a0_1 l0_2 a0_3))) = some r := h
  clear h
  replace H := Option.bind_eq_some_iff.mp H
  obtain ⟨t165, A20, H⟩ := H
  replace H : (if t165 = true then ((label_Name.f a0_1).bind fun t166 => (spec_Route.j0 k (!t166) a0_0 a0_1 l0_2 a0_3)) else (spec_Route.j0 k (!t165) a0_0 a0_1 l0_2 a0_3)) = some r := H
  have A2 := Aside0.mk A20
  clear A20
  have HC3 := Aside0.mk H
  clear H
  go_enter Tryd.func40, Tryd.ntmps40
  go_upto_if 6 with (first | ((with_reducible refine gate_dst (N := 1) rfl ?_); refine box_event ?hg (N := 1) ?hd (cs := #[.string a0_0, .string a0_1, .slice A0_2 l0_2.length c0_2, .int .i64 a0_3]) (t := 26) ?hr ?_; (case hd => rfl); (case hg => rfl); (case hr => first | (go_simp; done) | (go_simp; rfl)); intro gb164 hg w4 hbox hb; have n0_ := Aside0.mk (below_step (by repeat (first | (with_reducible first | exact HB.out | apply below_alloc | apply pw_below_drewN | apply below_drew1) | exact HB.out)) hb); have n1_ := Aside0.mk (hbox); have n2_ := Aside0.mk ((by rw [hg]; exact (below_size (by repeat (first | (with_reducible first | exact HB.out | apply below_alloc | apply pw_below_drewN | apply below_drew1) | exact HB.out))) : w.heap.size ≤ gb164)); have n3_ := Aside0.mk ((by rw [hg]; exact (below_size (by repeat (first | (with_reducible first | exact HB.out | apply below_alloc | apply pw_below_drewN | apply below_drew1) | exact HB.out))) : w.heap.size ≤ gb164)); clear HB; have HB := n0_; have BK164 := n1_; have GW164 := n2_; have GE164 := n3_; clear n0_ n1_ n2_ n3_; clear hb hbox hg; have hcz5_0 : w4.cell? ⟨gb164, 0, none⟩ = some (.string a0_0) := bc BK164 0; have hcz5_1 : w4.cell? ⟨gb164, 1, none⟩ = some (.string a0_1) := bc BK164 1; have hcz5_2 : w4.cell? ⟨gb164, 2, none⟩ = some (.slice A0_2 l0_2.length c0_2) := bc BK164 2; have hcz5_3 : w4.cell? ⟨gb164, 3, none⟩ = some (.int .i64 a0_3) := bc BK164 3; have hfz5_0 := blk_frozen BK164.out 0; have hfz5_1 := blk_frozen BK164.out 1; have hfz5_2 := blk_frozen BK164.out 2; have hfz5_3 := blk_frozen BK164.out 3) | ((with_reducible refine gate_callee (f := 70) rfl ?_); refine goesL_ (some 9) rfl rfl Tryd.func70 (by kernel_rfl) rfl #[.string a0_0] rfl (by (try simp only [List.map_toArray, List.map_cons, List.map_nil]); first | done | rfl | (simp only [List.length_drop, List.length_take]; rfl)) ?_; (with_reducible refine (label_Name.calls a0_0 t165 _ A2.out).mono ?_); rintro e w6 ⟨rfl, hb⟩; refine ⟨_, rfl, ?_⟩; have n0_ := Aside0.mk (blk_below (g := gb164) (pk BK164) hb); have n1_ := Aside0.mk (below_step (by repeat (first | (with_reducible first | exact HB.out | apply below_alloc | apply pw_below_drewN | apply below_drew1 | refine below_set ?_ GE164.out) | exact HB.out)) hb); clear BK164; clear HB; have BK164 := n0_; have HB := n1_; clear n0_ n1_; (try clear hb); (try clear hb2); (try clear hk); (try clear hi)))
  (try simp only [Act.put, List.setIfInBounds_toArray, List.set_cons_zero, List.set_cons_succ])
  go_cut [6] (fun v6 wc => ∃ (kq : Nat) (x6_2 : Bool), v6 = .bool x6_2 ∧ Aside0 (spec_Route.j0 kq x6_2 a0_0 a0_1 l0_2 a0_3 = some r) ∧ Aside0 (kq ≤ k) ∧ Aside0 (wc.heap[gb164]? = some (.cells #[.string a0_0, .string a0_1, (.slice A0_2 l0_2.length c0_2), .int .i64 a0_3] 26 (0, 0))) ∧ Aside0 (Below w.heap.size w wc))
  case first =>
    have H := HC3.out
    clear HC3
    by_cases c7 : t165 = true
    · subst c7
      have H1 : ((label_Name.f a0_1).bind fun t166 => (spec_Route.j0 k (!t166) a0_0 a0_1 l0_2 a0_3)) = some r := by rw [if_pos rfl] at H; exact H
      clear H
      have H := H1
      clear H1
      replace H := Option.bind_eq_some_iff.mp H
      obtain ⟨t166, A80, H⟩ := H
      replace H : (spec_Route.j0 k (!t166) a0_0 a0_1 l0_2 a0_3) = some r := H
      have A8 := Aside0.mk A80
      clear A80
      have H' := Aside0.mk H
      clear H
      have hcz9_0 : w6.cell? ⟨gb164, 0, none⟩ = some (.string a0_0) := bc BK164 0
      have hcz9_1 : w6.cell? ⟨gb164, 1, none⟩ = some (.string a0_1) := bc BK164 1
      have hcz9_2 : w6.cell? ⟨gb164, 2, none⟩ = some (.slice A0_2 l0_2.length c0_2) := bc BK164 2
      have hcz9_3 : w6.cell? ⟨gb164, 3, none⟩ = some (.int .i64 a0_3) := bc BK164 3
      have hfz9_0 := blk_frozen BK164.out 0
      have hfz9_1 := blk_frozen BK164.out 1
      have hfz9_2 := blk_frozen BK164.out 2
      have hfz9_3 := blk_frozen BK164.out 3
      go_wp2_with (first | ((with_reducible refine gate_callee (f := 70) rfl ?_); refine goesL_ (some 13) rfl rfl Tryd.func70 (by kernel_rfl) rfl #[.string a0_1] rfl (by (try simp only [List.map_toArray, List.map_cons, List.map_nil]); first | done | rfl | (simp only [List.length_drop, List.length_take]; rfl)) ?_; (with_reducible refine (label_Name.calls a0_1 t166 _ A8.out).mono ?_); rintro e w10 ⟨rfl, hb⟩; refine ⟨_, rfl, ?_⟩; have n0_ := Aside0.mk (blk_below (g := gb164) (pk BK164) hb); have n1_ := Aside0.mk (below_step (by repeat (first | (with_reducible first | exact HB.out | apply below_alloc | apply pw_below_drewN | apply below_drew1 | refine below_set ?_ GE164.out) | exact HB.out)) hb); clear BK164; clear HB; have BK164 := n0_; have HB := n1_; clear n0_ n1_; (try clear hb); (try clear hb2); (try clear hk); (try clear hi)))
      go_meet
      case rel => exact ⟨_, (!t166), (by first | rfl | (simp; done) | (simp [*]; done)), H', ⟨by first | omega | exact Nat.le_refl _⟩, ⟨by (with_reducible repeat (first | refine blk_drewN ?_ _ | refine blk_drew ?_ | refine blk_alloc ?_ _)); exact BK164.out⟩, ⟨by repeat (first | (with_reducible first | exact HB.out | apply below_alloc | apply pw_below_drewN | apply below_drew1 | refine below_set ?_ GE164.out) | exact HB.out)⟩⟩
    · replace c7 := Bool.eq_false_iff.mpr c7
      subst c7
      have H1 : (spec_Route.j0 k (!false) a0_0 a0_1 l0_2 a0_3) = some r := by rw [if_neg (show ¬ (false = true) by decide)] at H; exact H
      clear H
      have H := H1
      clear H1
      have H' := Aside0.mk H
      clear H
      go_wp2
      go_meet
      case rel => exact ⟨_, (!false), (by first | rfl | (simp; done) | (simp [*]; done)), H', ⟨by first | omega | exact Nat.le_refl _⟩, ⟨by (with_reducible repeat (first | refine blk_drewN ?_ _ | refine blk_drew ?_ | refine blk_alloc ?_ _)); exact BK164.out⟩, ⟨by repeat (first | (with_reducible first | exact HB.out | apply below_alloc | apply pw_below_drewN | apply below_drew1 | refine below_set ?_ GE164.out) | exact HB.out)⟩⟩
  case rest =>
    clear HC3
    try clear p2
    try clear c4
    try clear c7
    try clear hcz5_0
    try clear hcz5_1
    try clear hcz5_2
    try clear hcz5_3
    try clear hcz9_0
    try clear hcz9_1
    try clear hcz9_2
    try clear hcz9_3
    try clear hfz5_0
    try clear hfz5_1
    try clear hfz5_2
    try clear hfz5_3
    try clear hfz9_0
    try clear hfz9_1
    try clear hfz9_2
    try clear hfz9_3
    obtain ⟨kq, x6_2, rfl, HA, HJ2, BK164, HB⟩ := hcut
    cases kq with
    | zero => exact absurd HA.out (by simp [spec_Route.j0])
    | succ kj2 =>
      have H := HA.out
      clear HA
      simp only [spec_Route.j0] at H
      by_cases c11 : x6_2 = true
      · subst c11
        have H1 : (some 1) = some r := by rw [if_pos rfl] at H; exact H
        clear H
        have H := H1
        clear H1
        obtain rfl := Option.some.inj H
        go_wp2
        go_ret
        exact ⟨by first | rfl | (simp [errW_none, errW_some] <;> rfl) | (simp [*, errW_none, errW_some] <;> rfl), by repeat (first | (with_reducible first | exact HB.out | apply below_alloc | apply pw_below_drewN | apply below_drew1 | refine below_set ?_ GE164.out) | exact HB.out)⟩
      · replace c11 := Bool.eq_false_iff.mpr c11
        subst c11
        have H1 : ((spec_span_has.f 0 60 a0_3).bind fun t167 => (if t167 = true then ((spec_span_has.f 1 6 (l0_2.length : Int)).bind fun t168 => (if t168 = true then (spec_Route.l0 kj2 l0_2 (l0_2.length : Int) 0 a0_0 a0_1 l0_2 a0_3) else (some 3))) else (some 2))) = some r := by rw [if_neg (show ¬ (false = true) by decide)] at H; exact H
        clear H
        have H := H1
        clear H1
        replace H := Option.bind_eq_some_iff.mp H
        obtain ⟨t167, A120, H⟩ := H
        replace H : (if t167 = true then ((spec_span_has.f 1 6 (l0_2.length : Int)).bind fun t168 => (if t168 = true then (spec_Route.l0 kj2 l0_2 (l0_2.length : Int) 0 a0_0 a0_1 l0_2 a0_3) else (some 3))) else (some 2)) = some r := H
        have A12 := Aside0.mk A120
        clear A120
        by_cases c13 : t167 = true
        · subst c13
          have H1 : ((spec_span_has.f 1 6 (l0_2.length : Int)).bind fun t168 => (if t168 = true then (spec_Route.l0 kj2 l0_2 (l0_2.length : Int) 0 a0_0 a0_1 l0_2 a0_3) else (some 3))) = some r := by rw [if_pos rfl] at H; exact H
          clear H
          have H := H1
          clear H1
          replace H := Option.bind_eq_some_iff.mp H
          obtain ⟨t168, A140, H⟩ := H
          replace H : (if t168 = true then (spec_Route.l0 kj2 l0_2 (l0_2.length : Int) 0 a0_0 a0_1 l0_2 a0_3) else (some 3)) = some r := H
          have A14 := Aside0.mk A140
          clear A140
          by_cases c15 : t168 = true
          · subst c15
            have H1 : (spec_Route.l0 kj2 l0_2 (l0_2.length : Int) 0 a0_0 a0_1 l0_2 a0_3) = some r := by rw [if_pos rfl] at H; exact H
            clear H
            have H := H1
            clear H1
            have H' := Aside0.mk H
            clear H
            have hcz16_0 : wc.cell? ⟨gb164, 0, none⟩ = some (.string a0_0) := bc BK164 0
            have hcz16_1 : wc.cell? ⟨gb164, 1, none⟩ = some (.string a0_1) := bc BK164 1
            have hcz16_2 : wc.cell? ⟨gb164, 2, none⟩ = some (.slice A0_2 l0_2.length c0_2) := bc BK164 2
            have hcz16_3 : wc.cell? ⟨gb164, 3, none⟩ = some (.int .i64 a0_3) := bc BK164 3
            have hfz16_0 := blk_frozen BK164.out 0
            have hfz16_1 := blk_frozen BK164.out 1
            have hfz16_2 := blk_frozen BK164.out 2
            have hfz16_3 := blk_frozen BK164.out 3
            go_wp2_with (first | ((with_reducible refine gate_callee (f := 72) rfl ?_); refine goesL_ (some 19) rfl rfl Tryd.func72 (by kernel_rfl) rfl #[.agg #[.int .i64 0, .int .i64 60], .int .i64 a0_3] rfl (by (try simp only [List.map_toArray, List.map_cons, List.map_nil]); first | done | rfl | (simp only [List.length_drop, List.length_take]; rfl)) ?_; (with_reducible refine (spec_span_has.calls 0 60 a0_3 true _ A12.out).mono ?_); rintro e w17 ⟨rfl, hb⟩; refine ⟨_, rfl, ?_⟩; have n0_ := Aside0.mk (blk_below (g := gb164) (pk BK164) hb); have n1_ := Aside0.mk (below_step (by repeat (first | (with_reducible first | exact HB.out | apply below_alloc | apply pw_below_drewN | apply below_drew1 | refine below_set ?_ GE164.out) | exact HB.out)) hb); clear BK164; clear HB; have BK164 := n0_; have HB := n1_; clear n0_ n1_; (try clear hb); (try clear hb2); (try clear hk); (try clear hi); have hcz18_0 : w17.cell? ⟨gb164, 0, none⟩ = some (.string a0_0) := bc BK164 0; have hcz18_1 : w17.cell? ⟨gb164, 1, none⟩ = some (.string a0_1) := bc BK164 1; have hcz18_2 : w17.cell? ⟨gb164, 2, none⟩ = some (.slice A0_2 l0_2.length c0_2) := bc BK164 2; have hcz18_3 : w17.cell? ⟨gb164, 3, none⟩ = some (.int .i64 a0_3) := bc BK164 3; have hfz18_0 := blk_frozen BK164.out 0; have hfz18_1 := blk_frozen BK164.out 1; have hfz18_2 := blk_frozen BK164.out 2; have hfz18_3 := blk_frozen BK164.out 3) | ((with_reducible refine gate_callee (f := 72) rfl ?_); refine goesL_ (some 26) rfl rfl Tryd.func72 (by kernel_rfl) rfl #[.agg #[.int .i64 1, .int .i64 6], .int .i64 (l0_2.length : Int)] rfl (by (try simp only [List.map_toArray, List.map_cons, List.map_nil]); first | done | rfl | (simp only [List.length_drop, List.length_take]; rfl)) ?_; (with_reducible refine (spec_span_has.calls 1 6 (l0_2.length : Int) true _ A14.out).mono ?_); rintro e w19 ⟨rfl, hb⟩; refine ⟨_, rfl, ?_⟩; have n0_ := Aside0.mk (blk_below (g := gb164) (pk BK164) hb); have n1_ := Aside0.mk (below_step (by repeat (first | (with_reducible first | exact HB.out | apply below_alloc | apply pw_below_drewN | apply below_drew1 | refine below_set ?_ GE164.out) | exact HB.out)) hb); clear BK164; clear HB; have BK164 := n0_; have HB := n1_; clear n0_ n1_; (try clear hb); (try clear hb2); (try clear hk); (try clear hi); have hcz20_0 : w19.cell? ⟨gb164, 0, none⟩ = some (.string a0_0) := bc BK164 0; have hcz20_1 : w19.cell? ⟨gb164, 1, none⟩ = some (.string a0_1) := bc BK164 1; have hcz20_2 : w19.cell? ⟨gb164, 2, none⟩ = some (.slice A0_2 l0_2.length c0_2) := bc BK164 2; have hcz20_3 : w19.cell? ⟨gb164, 3, none⟩ = some (.int .i64 a0_3) := bc BK164 3; have hfz20_0 := blk_frozen BK164.out 0; have hfz20_1 := blk_frozen BK164.out 1; have hfz20_2 := blk_frozen BK164.out 2; have hfz20_3 := blk_frozen BK164.out 3))
            go_loopg [31] kj2 (fun kq v31 w' => ∃ (x31_2 : Int), v31 = .int .i64 x31_2 ∧ Aside0 (spec_Route.l0 kq l0_2 (l0_2.length : Int) x31_2 a0_0 a0_1 l0_2 a0_3 = some r) ∧ Aside0 (kq ≤ kj2) ∧ Aside0 (w'.heap[gb164]? = some (.cells #[.string a0_0, .string a0_1, (.slice A0_2 l0_2.length c0_2), .int .i64 a0_3] 26 (0, 0))) ∧ Aside0 (Below w.heap.size w w'))
            case atStart => exact ⟨(0), (by first | rfl | (simp; done) | (simp [*]; done)), H', ⟨Nat.le_refl _⟩, ⟨by (with_reducible repeat (first | refine blk_drewN ?_ _ | refine blk_drew ?_ | refine blk_alloc ?_ _)); exact BK164.out⟩, ⟨by repeat (first | (with_reducible first | exact HB.out | apply below_alloc | apply pw_below_drewN | apply below_drew1 | refine below_set ?_ GE164.out) | exact HB.out)⟩⟩
            case round =>
              clear H'
              try clear c1
              try clear p2
              try clear c4
              try clear c7
              try clear c11
              try clear c13
              try clear c15
              try clear hcz16_0
              try clear hcz16_1
              try clear hcz16_2
              try clear hcz16_3
              try clear hcz18_0
              try clear hcz18_1
              try clear hcz18_2
              try clear hcz18_3
              try clear hcz20_0
              try clear hcz20_1
              try clear hcz20_2
              try clear hcz20_3
              try clear hcz5_0
              try clear hcz5_1
              try clear hcz5_2
              try clear hcz5_3
              try clear hcz9_0
              try clear hcz9_1
              try clear hcz9_2
              try clear hcz9_3
              try clear hfz16_0
              try clear hfz16_1
              try clear hfz16_2
              try clear hfz16_3
              try clear hfz18_0
              try clear hfz18_1
              try clear hfz18_2
              try clear hfz18_3
              try clear hfz20_0
              try clear hfz20_1
              try clear hfz20_2
              try clear hfz20_3
              try clear hfz5_0
              try clear hfz5_1
              try clear hfz5_2
              try clear hfz5_3
              try clear hfz9_0
              try clear hfz9_1
              try clear hfz9_2
              try clear hfz9_3
              try clear p2
              obtain ⟨x31_2, rfl, HA, HK2, BK164, HB⟩ := hrel
              cases gk with
              | zero => exact absurd HA.out (by simp [spec_Route.l0])
              | succ k2 =>
                have H := HA.out
                clear HA
                simp only [spec_Route.l0] at H
                by_cases c21 : x31_2 < (l0_2.length : Int)
                · rw [if_pos c21] at H
                  have c21b0 : decide (x31_2 < (l0_2.length : Int)) = true := decide_eq_true c21
                  clear c21
                  by_cases c22 : 0 ≤ x31_2
                  rotate_left
                  · rw [if_neg c22] at H
                    exact absurd H (by simp)
                  rw [if_pos c22] at H
                  have c22b0 : decide (0 ≤ x31_2) = true := decide_eq_true c22
                  clear c22
                  by_cases c23 : x31_2 < (l0_2.length : Int)
                  rotate_left
                  · rw [if_neg c23] at H
                    exact absurd H (by simp)
                  rw [if_pos c23] at H
                  have c23b0 : decide (x31_2 < (l0_2.length : Int)) = true := decide_eq_true c23
                  clear c23
                  replace H := Option.bind_eq_some_iff.mp H
                  obtain ⟨t171, A240, H⟩ := H
                  replace H : (if t171 = 0 then (spec_Route.l0 k2 l0_2 (l0_2.length : Int) (wrap64 (x31_2 + 1)) a0_0 a0_1 l0_2 a0_3) else (some t171)) = some r := H
                  have A24 := Aside0.mk A240
                  clear A240
                  by_cases c25 : t171 = 0
                  · rw [if_pos c25] at H
                    have c25b0 : (t171 == 0) = true := beq_iff_eq.mpr c25
                    have c25b1 : (t171 != 0) = false := bne_eq_false_iff_eq.mpr c25
                    clear c25
                    have H' := Aside0.mk H
                    clear H
                    have p169 : 0 ≤ (x31_2 : Int) := of_decide_eq_true (by first | (with_reducible assumption) | assumption)
                    have q169 : x31_2 < (l0_2.length : Int) := of_decide_eq_true (by first | (with_reducible assumption) | assumption)
                    obtain ⟨ad169, e169, hx169_0, hx169_1, hx169_2⟩ := at_T39 HR0_2.out x31_2 p169 q169
                    cases e169
                    replace hx169_0 := (HB.out.cell (World.block_lt_of_cell? w _ hx169_0)).trans hx169_0
                    replace hx169_1 := (HB.out.cell (World.block_lt_of_cell? w _ hx169_1)).trans hx169_1
                    replace hx169_2 := (HB.out.cell (World.block_lt_of_cell? w _ hx169_2)).trans hx169_2
                    replace p169 := eq_true p169
                    replace q169 := eq_true q169
                    go_wp2_with (first | ((with_reducible refine gate_dst (N := 4) rfl ?_); refine box_event ?hg (N := 4) ?hd (cs := #[.string (⟨#[]⟩ : ByteArray), .string (⟨#[]⟩ : ByteArray), .int .i64 0]) (t := 39) ?hr ?_; (case hd => rfl); (case hg => rfl); (case hr => first | (go_simp; done) | (go_simp; rfl)); intro gb170 hg w26 hbox hb; have n0_ := Aside0.mk (blk_below (g := gb164) (pk BK164) hb); have n1_ := Aside0.mk (below_step (by repeat (first | (with_reducible first | exact HB.out | apply below_alloc | apply pw_below_drewN | apply below_drew1 | refine below_set ?_ GE164.out) | exact HB.out)) hb); have n2_ := Aside0.mk (hbox); have n3_ := Aside0.mk ((by rw [hg]; exact (below_size (by repeat (first | (with_reducible first | exact HB.out | apply below_alloc | apply pw_below_drewN | apply below_drew1 | refine below_set ?_ GE164.out) | exact HB.out))) : w.heap.size ≤ gb170)); have n4_ := Aside0.mk ((by rw [hg]; exact (below_size (by repeat (first | (with_reducible first | exact HB.out | apply below_alloc | apply pw_below_drewN | apply below_drew1 | refine below_set ?_ GE164.out) | exact HB.out))) : w.heap.size ≤ gb170)); have n5_ := Aside0.mk ((ne_lt hg (pk BK164) : gb164 ≠ gb170)); have n6_ := Aside0.mk ((ne_gt hg (pk BK164) : gb170 ≠ gb164)); clear BK164; clear HB; have BK164 := n0_; have HB := n1_; have BK170 := n2_; have GW170 := n3_; have GE170 := n4_; have NB164_170 := n5_; have NB170_164 := n6_; clear n0_ n1_ n2_ n3_ n4_ n5_ n6_; clear hb hbox hg; have hnb27 := NB170_164.out; have hnc27 := NB164_170.out; have hcz28_0 : w26.cell? ⟨gb170, 0, none⟩ = some (.string (⟨#[]⟩ : ByteArray)) := bc BK170 0; have hcz28_1 : w26.cell? ⟨gb170, 1, none⟩ = some (.string (⟨#[]⟩ : ByteArray)) := bc BK170 1; have hcz28_2 : w26.cell? ⟨gb170, 2, none⟩ = some (.int .i64 0) := bc BK170 2; have hfz28_0 := blk_frozen BK170.out 0; have hfz28_1 := blk_frozen BK170.out 1; have hfz28_2 := blk_frozen BK170.out 2) | ((with_reducible refine gate_callee (f := 73) rfl ?_); refine goesL_ (some 36) rfl rfl Tryd.func73 (by kernel_rfl) rfl #[.agg #[.string ((rd_T39 l0_2 x31_2).f0), .string ((rd_T39 l0_2 x31_2).f1), .int .i64 ((rd_T39 l0_2 x31_2).f2)]] rfl (by (try simp only [List.map_toArray, List.map_cons, List.map_nil]); first | done | rfl | (simp only [List.length_drop, List.length_take]; rfl)) ?_; (with_reducible refine (spec_target.calls ((rd_T39 l0_2 x31_2).f0) ((rd_T39 l0_2 x31_2).f1) ((rd_T39 l0_2 x31_2).f2) t171 _ ?side1 A24.out).mono ?_); (case side1 => first | exact hLd_.out | exact hLd_ | exact ⟨LaidW.below hLd_.out (by repeat (first | (with_reducible first | exact HB.out | apply below_alloc | apply pw_below_drewN | apply below_drew1 | refine below_set ?_ GE164.out | refine below_set ?_ GE170.out) | exact HB.out))⟩ | exact ⟨LaidW.below hLd_.out (by repeat (first | exact Below.refl _ _ | apply below_alloc | apply pw_below_drewN | apply below_drew1))⟩); rintro e w29 ⟨rfl, hb⟩; refine ⟨_, rfl, ?_⟩; have n0_ := Aside0.mk (blk_below (g := gb164) (o := .cells #[.string a0_0, .string a0_1, .slice (some ad169) l0_2.length c0_2, .int .i64 a0_3] 26 (0, 0)) (by (repeat ((with_reducible repeat (first | refine blk_drewN ?_ _ | refine blk_drew ?_ | refine blk_alloc ?_ _)); with_reducible refine blk_far ?_ NB164_170.out _)); (with_reducible repeat (first | refine blk_drewN ?_ _ | refine blk_drew ?_ | refine blk_alloc ?_ _)); exact BK164.out) hb); have n1_ := Aside0.mk (blk_below (g := gb170) (o := .cells #[.string ((rd_T39 l0_2 x31_2).f0), .string ((rd_T39 l0_2 x31_2).f1), .int .i64 ((rd_T39 l0_2 x31_2).f2)] 39 (0, 0)) (by (with_reducible repeat (first | refine blk_drewN ?_ _ | refine blk_drew ?_ | refine blk_alloc ?_ _)); refine blk_put (cs := #[.string ((rd_T39 l0_2 x31_2).f0), .string ((rd_T39 l0_2 x31_2).f1), .int .i64 0]) ?_ 2 _ rfl; (with_reducible repeat (first | refine blk_drewN ?_ _ | refine blk_drew ?_ | refine blk_alloc ?_ _)); refine blk_put (cs := #[.string ((rd_T39 l0_2 x31_2).f0), .string (⟨#[]⟩ : ByteArray), .int .i64 0]) ?_ 1 _ rfl; (with_reducible repeat (first | refine blk_drewN ?_ _ | refine blk_drew ?_ | refine blk_alloc ?_ _)); refine blk_put (cs := #[.string (⟨#[]⟩ : ByteArray), .string (⟨#[]⟩ : ByteArray), .int .i64 0]) ?_ 0 _ rfl; (with_reducible repeat (first | refine blk_drewN ?_ _ | refine blk_drew ?_ | refine blk_alloc ?_ _)); exact BK170.out) hb); have n2_ := Aside0.mk (below_step (by repeat (first | (with_reducible first | exact HB.out | apply below_alloc | apply pw_below_drewN | apply below_drew1 | refine below_set ?_ GE164.out | refine below_set ?_ GE170.out) | exact HB.out)) hb); clear BK164; clear BK170; clear HB; have BK164 := n0_; have BK170 := n1_; have HB := n2_; clear n0_ n1_ n2_; (try clear hb); (try clear hb2); (try clear hk); (try clear hi)))
                    go_roundg k2
                    case measure => have := HJ2.out; have := HK2.out; omega
                    case rel => exact ⟨(wrap64 (x31_2 + 1)), (by first | rfl | (simp; done) | (simp [*]; done)), H', ⟨by have := HJ2.out; have := HK2.out; omega⟩, ⟨by (with_reducible repeat (first | refine blk_drewN ?_ _ | refine blk_drew ?_ | refine blk_alloc ?_ _)); exact BK164.out⟩, ⟨by repeat (first | (with_reducible first | exact HB.out | apply below_alloc | apply pw_below_drewN | apply below_drew1 | refine below_set ?_ GE164.out | refine below_set ?_ GE170.out) | exact HB.out)⟩⟩
                  · rw [if_neg c25] at H
                    have c25b0 : (t171 == 0) = false := beq_eq_false_iff_ne.mpr c25
                    have c25b1 : (t171 != 0) = true := bne_iff_ne.mpr c25
                    obtain rfl := Option.some.inj H
                    have p169 : 0 ≤ (x31_2 : Int) := of_decide_eq_true (by first | (with_reducible assumption) | assumption)
                    have q169 : x31_2 < (l0_2.length : Int) := of_decide_eq_true (by first | (with_reducible assumption) | assumption)
                    obtain ⟨ad169, e169, hx169_0, hx169_1, hx169_2⟩ := at_T39 HR0_2.out x31_2 p169 q169
                    cases e169
                    replace hx169_0 := (HB.out.cell (World.block_lt_of_cell? w _ hx169_0)).trans hx169_0
                    replace hx169_1 := (HB.out.cell (World.block_lt_of_cell? w _ hx169_1)).trans hx169_1
                    replace hx169_2 := (HB.out.cell (World.block_lt_of_cell? w _ hx169_2)).trans hx169_2
                    replace p169 := eq_true p169
                    replace q169 := eq_true q169
                    go_wp2_with (first | ((with_reducible refine gate_dst (N := 4) rfl ?_); refine box_event ?hg (N := 4) ?hd (cs := #[.string (⟨#[]⟩ : ByteArray), .string (⟨#[]⟩ : ByteArray), .int .i64 0]) (t := 39) ?hr ?_; (case hd => rfl); (case hg => rfl); (case hr => first | (go_simp; done) | (go_simp; rfl)); intro gb170 hg w30 hbox hb; have n0_ := Aside0.mk (blk_below (g := gb164) (pk BK164) hb); have n1_ := Aside0.mk (below_step (by repeat (first | (with_reducible first | exact HB.out | apply below_alloc | apply pw_below_drewN | apply below_drew1 | refine below_set ?_ GE164.out) | exact HB.out)) hb); have n2_ := Aside0.mk (hbox); have n3_ := Aside0.mk ((by rw [hg]; exact (below_size (by repeat (first | (with_reducible first | exact HB.out | apply below_alloc | apply pw_below_drewN | apply below_drew1 | refine below_set ?_ GE164.out) | exact HB.out))) : w.heap.size ≤ gb170)); have n4_ := Aside0.mk ((by rw [hg]; exact (below_size (by repeat (first | (with_reducible first | exact HB.out | apply below_alloc | apply pw_below_drewN | apply below_drew1 | refine below_set ?_ GE164.out) | exact HB.out))) : w.heap.size ≤ gb170)); have n5_ := Aside0.mk ((ne_lt hg (pk BK164) : gb164 ≠ gb170)); have n6_ := Aside0.mk ((ne_gt hg (pk BK164) : gb170 ≠ gb164)); clear BK164; clear HB; have BK164 := n0_; have HB := n1_; have BK170 := n2_; have GW170 := n3_; have GE170 := n4_; have NB164_170 := n5_; have NB170_164 := n6_; clear n0_ n1_ n2_ n3_ n4_ n5_ n6_; clear hb hbox hg; have hnb31 := NB170_164.out; have hnc31 := NB164_170.out; have hcz32_0 : w30.cell? ⟨gb170, 0, none⟩ = some (.string (⟨#[]⟩ : ByteArray)) := bc BK170 0; have hcz32_1 : w30.cell? ⟨gb170, 1, none⟩ = some (.string (⟨#[]⟩ : ByteArray)) := bc BK170 1; have hcz32_2 : w30.cell? ⟨gb170, 2, none⟩ = some (.int .i64 0) := bc BK170 2; have hfz32_0 := blk_frozen BK170.out 0; have hfz32_1 := blk_frozen BK170.out 1; have hfz32_2 := blk_frozen BK170.out 2) | ((with_reducible refine gate_callee (f := 73) rfl ?_); refine goesL_ (some 36) rfl rfl Tryd.func73 (by kernel_rfl) rfl #[.agg #[.string ((rd_T39 l0_2 x31_2).f0), .string ((rd_T39 l0_2 x31_2).f1), .int .i64 ((rd_T39 l0_2 x31_2).f2)]] rfl (by (try simp only [List.map_toArray, List.map_cons, List.map_nil]); first | done | rfl | (simp only [List.length_drop, List.length_take]; rfl)) ?_; (with_reducible refine (spec_target.calls ((rd_T39 l0_2 x31_2).f0) ((rd_T39 l0_2 x31_2).f1) ((rd_T39 l0_2 x31_2).f2) t171 _ ?side1 A24.out).mono ?_); (case side1 => first | exact hLd_.out | exact hLd_ | exact ⟨LaidW.below hLd_.out (by repeat (first | (with_reducible first | exact HB.out | apply below_alloc | apply pw_below_drewN | apply below_drew1 | refine below_set ?_ GE164.out | refine below_set ?_ GE170.out) | exact HB.out))⟩ | exact ⟨LaidW.below hLd_.out (by repeat (first | exact Below.refl _ _ | apply below_alloc | apply pw_below_drewN | apply below_drew1))⟩); rintro e w33 ⟨rfl, hb⟩; refine ⟨_, rfl, ?_⟩; have n0_ := Aside0.mk (blk_below (g := gb164) (o := .cells #[.string a0_0, .string a0_1, .slice (some ad169) l0_2.length c0_2, .int .i64 a0_3] 26 (0, 0)) (by (repeat ((with_reducible repeat (first | refine blk_drewN ?_ _ | refine blk_drew ?_ | refine blk_alloc ?_ _)); with_reducible refine blk_far ?_ NB164_170.out _)); (with_reducible repeat (first | refine blk_drewN ?_ _ | refine blk_drew ?_ | refine blk_alloc ?_ _)); exact BK164.out) hb); have n1_ := Aside0.mk (blk_below (g := gb170) (o := .cells #[.string ((rd_T39 l0_2 x31_2).f0), .string ((rd_T39 l0_2 x31_2).f1), .int .i64 ((rd_T39 l0_2 x31_2).f2)] 39 (0, 0)) (by (with_reducible repeat (first | refine blk_drewN ?_ _ | refine blk_drew ?_ | refine blk_alloc ?_ _)); refine blk_put (cs := #[.string ((rd_T39 l0_2 x31_2).f0), .string ((rd_T39 l0_2 x31_2).f1), .int .i64 0]) ?_ 2 _ rfl; (with_reducible repeat (first | refine blk_drewN ?_ _ | refine blk_drew ?_ | refine blk_alloc ?_ _)); refine blk_put (cs := #[.string ((rd_T39 l0_2 x31_2).f0), .string (⟨#[]⟩ : ByteArray), .int .i64 0]) ?_ 1 _ rfl; (with_reducible repeat (first | refine blk_drewN ?_ _ | refine blk_drew ?_ | refine blk_alloc ?_ _)); refine blk_put (cs := #[.string (⟨#[]⟩ : ByteArray), .string (⟨#[]⟩ : ByteArray), .int .i64 0]) ?_ 0 _ rfl; (with_reducible repeat (first | refine blk_drewN ?_ _ | refine blk_drew ?_ | refine blk_alloc ?_ _)); exact BK170.out) hb); have n2_ := Aside0.mk (below_step (by repeat (first | (with_reducible first | exact HB.out | apply below_alloc | apply pw_below_drewN | apply below_drew1 | refine below_set ?_ GE164.out | refine below_set ?_ GE170.out) | exact HB.out)) hb); clear BK164; clear BK170; clear HB; have BK164 := n0_; have BK170 := n1_; have HB := n2_; clear n0_ n1_ n2_; (try clear hb); (try clear hb2); (try clear hk); (try clear hi)))
                    go_ret
                    exact ⟨by first | rfl | (simp [errW_none, errW_some] <;> rfl) | (simp [*, errW_none, errW_some] <;> rfl), by repeat (first | (with_reducible first | exact HB.out | apply below_alloc | apply pw_below_drewN | apply below_drew1 | refine below_set ?_ GE164.out | refine below_set ?_ GE170.out) | exact HB.out)⟩
                · rw [if_neg c21] at H
                  have c21b0 : decide (x31_2 < (l0_2.length : Int)) = false := decide_eq_false c21
                  clear c21
                  replace H := Option.bind_eq_some_iff.mp H
                  obtain ⟨t172, A340, H⟩ := H
                  replace H : (some t172) = some r := H
                  have A34 := Aside0.mk A340
                  clear A340
                  obtain rfl := Option.some.inj H
                  have hcz35_0 : wr.cell? ⟨gb164, 0, none⟩ = some (.string a0_0) := bc BK164 0
                  have hcz35_1 : wr.cell? ⟨gb164, 1, none⟩ = some (.string a0_1) := bc BK164 1
                  have hcz35_2 : wr.cell? ⟨gb164, 2, none⟩ = some (.slice A0_2 l0_2.length c0_2) := bc BK164 2
                  have hcz35_3 : wr.cell? ⟨gb164, 3, none⟩ = some (.int .i64 a0_3) := bc BK164 3
                  have hfz35_0 := blk_frozen BK164.out 0
                  have hfz35_1 := blk_frozen BK164.out 1
                  have hfz35_2 := blk_frozen BK164.out 2
                  have hfz35_3 := blk_frozen BK164.out 3
                  go_wp2_with (first | ((with_reducible refine gate_callee (f := 74) rfl ?_); refine goesL_ (some 43) rfl rfl Tryd.func74 (by kernel_rfl) rfl #[.slice A0_2 l0_2.length c0_2] rfl (by (try simp only [List.map_toArray, List.map_cons, List.map_nil]); first | done | rfl | (simp only [List.length_drop, List.length_take]; rfl)) ?_; (with_reducible refine (spec_all.calls _ _ l0_2 t172 _ ?side1 ?side2 A34.out).mono ?_); (case side1 => repeat (first | exact (Kd.C_below HR0_2.out HB.out) | (with_reducible refine Kd.C_alloc ?_ _) | (with_reducible refine Kd.C_drewN ?_ _) | (with_reducible refine Kd.C_drew ?_))); (case side2 => exact HC0_2.out); rintro e w36 ⟨rfl, hb⟩; refine ⟨_, rfl, ?_⟩; have n0_ := Aside0.mk (blk_below (g := gb164) (pk BK164) hb); have n1_ := Aside0.mk (below_step (by repeat (first | (with_reducible first | exact HB.out | apply below_alloc | apply pw_below_drewN | apply below_drew1 | refine below_set ?_ GE164.out) | exact HB.out)) hb); clear BK164; clear HB; have BK164 := n0_; have HB := n1_; clear n0_ n1_; (try clear hb); (try clear hb2); (try clear hk); (try clear hi)))
                  go_ret
                  exact ⟨by first | rfl | (simp [errW_none, errW_some] <;> rfl) | (simp [*, errW_none, errW_some] <;> rfl), by repeat (first | (with_reducible first | exact HB.out | apply below_alloc | apply pw_below_drewN | apply below_drew1 | refine below_set ?_ GE164.out) | exact HB.out)⟩
          · replace c15 := Bool.eq_false_iff.mpr c15
            subst c15
            have H1 : (some 3) = some r := by rw [if_neg (show ¬ (false = true) by decide)] at H; exact H
            clear H
            have H := H1
            clear H1
            obtain rfl := Option.some.inj H
            have hcz37_0 : wc.cell? ⟨gb164, 0, none⟩ = some (.string a0_0) := bc BK164 0
            have hcz37_1 : wc.cell? ⟨gb164, 1, none⟩ = some (.string a0_1) := bc BK164 1
            have hcz37_2 : wc.cell? ⟨gb164, 2, none⟩ = some (.slice A0_2 l0_2.length c0_2) := bc BK164 2
            have hcz37_3 : wc.cell? ⟨gb164, 3, none⟩ = some (.int .i64 a0_3) := bc BK164 3
            have hfz37_0 := blk_frozen BK164.out 0
            have hfz37_1 := blk_frozen BK164.out 1
            have hfz37_2 := blk_frozen BK164.out 2
            have hfz37_3 := blk_frozen BK164.out 3
            go_wp2_with (first | ((with_reducible refine gate_callee (f := 72) rfl ?_); refine goesL_ (some 19) rfl rfl Tryd.func72 (by kernel_rfl) rfl #[.agg #[.int .i64 0, .int .i64 60], .int .i64 a0_3] rfl (by (try simp only [List.map_toArray, List.map_cons, List.map_nil]); first | done | rfl | (simp only [List.length_drop, List.length_take]; rfl)) ?_; (with_reducible refine (spec_span_has.calls 0 60 a0_3 true _ A12.out).mono ?_); rintro e w38 ⟨rfl, hb⟩; refine ⟨_, rfl, ?_⟩; have n0_ := Aside0.mk (blk_below (g := gb164) (pk BK164) hb); have n1_ := Aside0.mk (below_step (by repeat (first | (with_reducible first | exact HB.out | apply below_alloc | apply pw_below_drewN | apply below_drew1 | refine below_set ?_ GE164.out) | exact HB.out)) hb); clear BK164; clear HB; have BK164 := n0_; have HB := n1_; clear n0_ n1_; (try clear hb); (try clear hb2); (try clear hk); (try clear hi); have hcz39_0 : w38.cell? ⟨gb164, 0, none⟩ = some (.string a0_0) := bc BK164 0; have hcz39_1 : w38.cell? ⟨gb164, 1, none⟩ = some (.string a0_1) := bc BK164 1; have hcz39_2 : w38.cell? ⟨gb164, 2, none⟩ = some (.slice A0_2 l0_2.length c0_2) := bc BK164 2; have hcz39_3 : w38.cell? ⟨gb164, 3, none⟩ = some (.int .i64 a0_3) := bc BK164 3; have hfz39_0 := blk_frozen BK164.out 0; have hfz39_1 := blk_frozen BK164.out 1; have hfz39_2 := blk_frozen BK164.out 2; have hfz39_3 := blk_frozen BK164.out 3) | ((with_reducible refine gate_callee (f := 72) rfl ?_); refine goesL_ (some 26) rfl rfl Tryd.func72 (by kernel_rfl) rfl #[.agg #[.int .i64 1, .int .i64 6], .int .i64 (l0_2.length : Int)] rfl (by (try simp only [List.map_toArray, List.map_cons, List.map_nil]); first | done | rfl | (simp only [List.length_drop, List.length_take]; rfl)) ?_; (with_reducible refine (spec_span_has.calls 1 6 (l0_2.length : Int) false _ A14.out).mono ?_); rintro e w40 ⟨rfl, hb⟩; refine ⟨_, rfl, ?_⟩; have n0_ := Aside0.mk (blk_below (g := gb164) (pk BK164) hb); have n1_ := Aside0.mk (below_step (by repeat (first | (with_reducible first | exact HB.out | apply below_alloc | apply pw_below_drewN | apply below_drew1 | refine below_set ?_ GE164.out) | exact HB.out)) hb); clear BK164; clear HB; have BK164 := n0_; have HB := n1_; clear n0_ n1_; (try clear hb); (try clear hb2); (try clear hk); (try clear hi)))
            go_ret
            exact ⟨by first | rfl | (simp [errW_none, errW_some] <;> rfl) | (simp [*, errW_none, errW_some] <;> rfl), by repeat (first | (with_reducible first | exact HB.out | apply below_alloc | apply pw_below_drewN | apply below_drew1 | refine below_set ?_ GE164.out) | exact HB.out)⟩
        · replace c13 := Bool.eq_false_iff.mpr c13
          subst c13
          have H1 : (some 2) = some r := by rw [if_neg (show ¬ (false = true) by decide)] at H; exact H
          clear H
          have H := H1
          clear H1
          obtain rfl := Option.some.inj H
          have hcz41_0 : wc.cell? ⟨gb164, 0, none⟩ = some (.string a0_0) := bc BK164 0
          have hcz41_1 : wc.cell? ⟨gb164, 1, none⟩ = some (.string a0_1) := bc BK164 1
          have hcz41_2 : wc.cell? ⟨gb164, 2, none⟩ = some (.slice A0_2 l0_2.length c0_2) := bc BK164 2
          have hcz41_3 : wc.cell? ⟨gb164, 3, none⟩ = some (.int .i64 a0_3) := bc BK164 3
          have hfz41_0 := blk_frozen BK164.out 0
          have hfz41_1 := blk_frozen BK164.out 1
          have hfz41_2 := blk_frozen BK164.out 2
          have hfz41_3 := blk_frozen BK164.out 3
          go_wp2_with (first | ((with_reducible refine gate_callee (f := 72) rfl ?_); refine goesL_ (some 19) rfl rfl Tryd.func72 (by kernel_rfl) rfl #[.agg #[.int .i64 0, .int .i64 60], .int .i64 a0_3] rfl (by (try simp only [List.map_toArray, List.map_cons, List.map_nil]); first | done | rfl | (simp only [List.length_drop, List.length_take]; rfl)) ?_; (with_reducible refine (spec_span_has.calls 0 60 a0_3 false _ A12.out).mono ?_); rintro e w42 ⟨rfl, hb⟩; refine ⟨_, rfl, ?_⟩; have n0_ := Aside0.mk (blk_below (g := gb164) (pk BK164) hb); have n1_ := Aside0.mk (below_step (by repeat (first | (with_reducible first | exact HB.out | apply below_alloc | apply pw_below_drewN | apply below_drew1 | refine below_set ?_ GE164.out) | exact HB.out)) hb); clear BK164; clear HB; have BK164 := n0_; have HB := n1_; clear n0_ n1_; (try clear hb); (try clear hb2); (try clear hk); (try clear hi)))
          go_ret
          exact ⟨by first | rfl | (simp [errW_none, errW_some] <;> rfl) | (simp [*, errW_none, errW_some] <;> rfl), by repeat (first | (with_reducible first | exact HB.out | apply below_alloc | apply pw_below_drewN | apply below_drew1 | refine below_set ?_ GE164.out) | exact HB.out)⟩
end

end Go.Proofs.YtalpoojepffldaaDoor.Ma
