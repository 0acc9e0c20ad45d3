-- Written by a program of this session (wip/tools/pack.py) out of its printed parts. Not trusted: Lean checks it.
import Derived.Test.YtalpoojepffldaaDoorMax0
namespace Go.Proofs.YtalpoojepffldaaDoor.Ma
open Go.RowKit Go.Proofs.YtalpoojepffldaaDoorW.PrintWords Go.Proofs.YtalpoojepffldaaDoorW.PrintLast Go.Proofs.YtalpoojepffldaaDoorW.PrintMore
attribute [local go_sem] max2_int min2_int max_two min_two max_three min_three max_four min_four   -- for this text's walks alone
set_option linter.unusedVariables false
set_option linter.unusedSimpArgs false

section
/-! ### event_shape: function 30 -/
mutual
def event_shape.j0 : Nat → Int → Bool → Option (Bool × Bool × Bool × Bool × Bool × Bool × Bool)
  | 0, _, _ => none
  | k + 1, x4, a0 => if a0 = true then (some (true, false, false, false, false, false, true)) else (if x4 = 9 then (some (false, false, false, false, false, false, true)) else (if x4 = 10 then (event_shape.j1 k (x4 == 10)) else (if x4 = 11 then (event_shape.j1 k (x4 == 11)) else (if x4 = 12 then (event_shape.j1 k (x4 == 12)) else (event_shape.j1 k (x4 == 13))))))
def event_shape.j1 : Nat → Bool → Option (Bool × Bool × Bool × Bool × Bool × Bool × Bool)
  | 0, _ => none
  | k + 1, a1 => if a1 = true then (some (false, true, false, false, false, false, true)) else (some (false, false, false, false, false, false, false))
end
def event_shape.f (k : Nat) (a0 : Int) : Option (Bool × Bool × Bool × Bool × Bool × Bool × Bool) := if a0 = 1 then (some (true, false, false, false, true, false, true)) else (if a0 = 2 then (some (true, false, false, false, false, true, true)) else (if a0 = 3 then (some (true, true, false, true, false, false, true)) else (if a0 = 4 then (some (true, true, true, true, false, false, true)) else (if a0 = 5 then (event_shape.j0 k a0 (a0 == 5)) else (if a0 = 6 then (event_shape.j0 k a0 (a0 == 6)) else (if a0 = 7 then (event_shape.j0 k a0 (a0 == 7)) else (event_shape.j0 k a0 (a0 == 8))))))))
set_option maxHeartbeats 8000000 in
set_option maxRecDepth 100000 in
theorem event_shape.calls (k : Nat) (a0 : Int) (r1 : Bool) (r2 : Bool) (r3 : Bool) (r4 : Bool) (r5 : Bool) (r6 : Bool) (r7 : Bool) (w : World) (h : event_shape.f k a0 = some (r1, r2, r3, r4, r5, r6, r7)) :
    Calls Tryd.prog 30 #[.int .i64 a0] w fun e w' => e = .returned (.tuple #[.agg #[.bool r1, .bool r2, .bool r3, .bool r4, .bool r5, .bool r6], .bool r7]) ∧ Below w.heap.size w w' := by
  have hu66 := Tryd.underlying66; have HB := Aside0.mk (Below.refl w.heap.size w); have H : (if a0 = 1 then (some (true, false, false, false, true, false, true)) else (if a0 = 2 then (some (true, false, false, false, false, true, true)) else (if a0 = 3 then (some (true, true, false, true, false, false, true)) else (if a0 = 4 then (some (true, true, true, true, false, false, true)) else (if a0 = 5 then (event_shape.j0 k a0 (a0 == 5)) else (if a0 = 6 then (event_shape.j0 k a0 (a0 == 6)) else (if a0 = 7 then (event_shape.j0 k a0 (a0 == 7)) else (event_shape.j0 k a0 (a0 == 8))))))))) = some (r1, r2, r3, r4, r5, r6, r7) := h; clear h; by_cases c2 : a0 = 1
  · rw [if_pos c2] at H; have c2b0 : (a0 == 1) = true := beq_iff_eq.mpr c2; have c2b1 : (a0 != 1) = false := bne_eq_false_iff_eq.mpr c2; clear c2; simp only [Option.some.injEq, Prod.mk.injEq] at H; obtain ⟨rfl, rfl, rfl, rfl, rfl, rfl, rfl⟩ := H; go_enter Tryd.func30, Tryd.ntmps30; go_wp2_with (first | ((with_reducible refine gate_dst (N := 2) rfl ?_); refine box_event ?hg (N := 2) ?hd (cs := #[.bool false, .bool false, .bool false, .bool false, .bool false, .bool false]) (t := 66) ?hr ?_; (case hd => rfl); (case hg => rfl); (case hr => first | (go_simp; done) | (go_simp; rfl)); intro a2 hg w3 hbox hb; have a4 := Aside0.mk (below_step (bw0 HB) hb); have a5 := Aside0.mk (hbox); have a6 := Aside0.mk ((by rw [hg]; exact (below_size (bw0 HB)) : w.heap.size ≤ a2)); have a7 := Aside0.mk ((by rw [hg]; exact (below_size (bw0 HB)) : w.heap.size ≤ a2)); clear HB; have HB := a4; have a1 := a5; have b8 := a6; have a3 := a7; clear a4 a5 a6 a7; clear hb hbox hg; obtain ⟨d0, d1, d2, d3, d4, d5⟩ := cz6 a1; obtain ⟨d6, d7, d8, d9, e5, e6⟩ := fz6 a1)); refine bodyPost_ret (results_ct rfl _ _ a2 66 #[.bool true, .bool false, .bool false, .bool false, .bool true, .bool false] (0, 0) _ rfl (by (with_reducible repeat (first | refine blk_drewN ?_ _ | refine blk_drew ?_ | refine blk_alloc ?_ _)); exact put6 a1) Tryd.underlying66 rfl (by kernel_rfl)) rfl ?_; exact ⟨au3, bw1 HB a3⟩
  · rw [if_neg c2] at H; have c2b0 : (a0 == 1) = false := beq_eq_false_iff_ne.mpr c2; have c2b1 : (a0 != 1) = true := bne_iff_ne.mpr c2; by_cases c5 : a0 = 2
    · rw [if_pos c5] at H; have c5b0 : (a0 == 2) = true := beq_iff_eq.mpr c5; have c5b1 : (a0 != 2) = false := bne_eq_false_iff_eq.mpr c5; clear c5; simp only [Option.some.injEq, Prod.mk.injEq] at H; obtain ⟨rfl, rfl, rfl, rfl, rfl, rfl, rfl⟩ := H; go_enter Tryd.func30, Tryd.ntmps30; go_wp2_with (first | ((with_reducible refine gate_dst (N := 2) rfl ?_); refine box_event ?hg (N := 2) ?hd (cs := #[.bool false, .bool false, .bool false, .bool false, .bool false, .bool false]) (t := 66) ?hr ?_; (case hd => rfl); (case hg => rfl); (case hr => first | (go_simp; done) | (go_simp; rfl)); intro a2 hg w6 hbox hb; have a4 := Aside0.mk (below_step (bw0 HB) hb); have a5 := Aside0.mk (hbox); have a6 := Aside0.mk ((by rw [hg]; exact (below_size (bw0 HB)) : w.heap.size ≤ a2)); have a7 := Aside0.mk ((by rw [hg]; exact (below_size (bw0 HB)) : w.heap.size ≤ a2)); clear HB; have HB := a4; have a1 := a5; have b8 := a6; have a3 := a7; clear a4 a5 a6 a7; clear hb hbox hg; obtain ⟨e7, e8, e9, f0, f1, f2⟩ := cz6 a1; obtain ⟨f3, f4, f5, f6, f7, f8⟩ := fz6 a1)); refine bodyPost_ret (results_ct rfl _ _ a2 66 #[.bool true, .bool false, .bool false, .bool false, .bool false, .bool true] (0, 0) _ rfl (by (with_reducible repeat (first | refine blk_drewN ?_ _ | refine blk_drew ?_ | refine blk_alloc ?_ _)); exact put6 a1) Tryd.underlying66 rfl (by kernel_rfl)) rfl ?_; exact ⟨au3, bw1 HB a3⟩
    · rw [if_neg c5] at H; have c5b0 : (a0 == 2) = false := beq_eq_false_iff_ne.mpr c5; have c5b1 : (a0 != 2) = true := bne_iff_ne.mpr c5; by_cases c8 : a0 = 3
      · rw [if_pos c8] at H; have c8b0 : (a0 == 3) = true := beq_iff_eq.mpr c8; have c8b1 : (a0 != 3) = false := bne_eq_false_iff_eq.mpr c8; clear c8; simp only [Option.some.injEq, Prod.mk.injEq] at H; obtain ⟨rfl, rfl, rfl, rfl, rfl, rfl, rfl⟩ := H; go_enter Tryd.func30, Tryd.ntmps30; go_wp2_with (first | ((with_reducible refine gate_dst (N := 2) rfl ?_); refine box_event ?hg (N := 2) ?hd (cs := #[.bool false, .bool false, .bool false, .bool false, .bool false, .bool false]) (t := 66) ?hr ?_; (case hd => rfl); (case hg => rfl); (case hr => first | (go_simp; done) | (go_simp; rfl)); intro a2 hg w9 hbox hb; have a4 := Aside0.mk (below_step (bw0 HB) hb); have a5 := Aside0.mk (hbox); have a6 := Aside0.mk ((by rw [hg]; exact (below_size (bw0 HB)) : w.heap.size ≤ a2)); have a7 := Aside0.mk ((by rw [hg]; exact (below_size (bw0 HB)) : w.heap.size ≤ a2)); clear HB; have HB := a4; have a1 := a5; have b8 := a6; have a3 := a7; clear a4 a5 a6 a7; clear hb hbox hg; obtain ⟨f9, g0, g1, g2, g3, g4⟩ := cz6 a1; obtain ⟨g5, g6, g7, g8, g9, h0⟩ := fz6 a1)); refine bodyPost_ret (results_ct rfl _ _ a2 66 #[.bool true, .bool true, .bool false, .bool true, .bool false, .bool false] (0, 0) _ rfl (by (with_reducible repeat (first | refine blk_drewN ?_ _ | refine blk_drew ?_ | refine blk_alloc ?_ _)); exact put6 a1) Tryd.underlying66 rfl (by kernel_rfl)) rfl ?_; exact ⟨au3, bw1 HB a3⟩
      · rw [if_neg c8] at H; have c8b0 : (a0 == 3) = false := beq_eq_false_iff_ne.mpr c8; have c8b1 : (a0 != 3) = true := bne_iff_ne.mpr c8; by_cases a8 : a0 = 4
        · rw [if_pos a8] at H; have c11b0 : (a0 == 4) = true := beq_iff_eq.mpr a8; have c11b1 : (a0 != 4) = false := bne_eq_false_iff_eq.mpr a8; clear a8; simp only [Option.some.injEq, Prod.mk.injEq] at H; obtain ⟨rfl, rfl, rfl, rfl, rfl, rfl, rfl⟩ := H; go_enter Tryd.func30, Tryd.ntmps30; go_wp2_with (first | ((with_reducible refine gate_dst (N := 2) rfl ?_); refine box_event ?hg (N := 2) ?hd (cs := #[.bool false, .bool false, .bool false, .bool false, .bool false, .bool false]) (t := 66) ?hr ?_; (case hd => rfl); (case hg => rfl); (case hr => first | (go_simp; done) | (go_simp; rfl)); intro a2 hg w12 hbox hb; have a4 := Aside0.mk (below_step (bw0 HB) hb); have a5 := Aside0.mk (hbox); have a6 := Aside0.mk ((by rw [hg]; exact (below_size (bw0 HB)) : w.heap.size ≤ a2)); have a7 := Aside0.mk ((by rw [hg]; exact (below_size (bw0 HB)) : w.heap.size ≤ a2)); clear HB; have HB := a4; have a1 := a5; have b8 := a6; have a3 := a7; clear a4 a5 a6 a7; clear hb hbox hg; obtain ⟨h1, h2, h3, h4, h5, h6⟩ := cz6 a1; obtain ⟨h7, h8, h9, i0, i1, i2⟩ := fz6 a1)); refine bodyPost_ret (results_ct rfl _ _ a2 66 #[.bool true, .bool true, .bool true, .bool true, .bool false, .bool false] (0, 0) _ rfl (by (with_reducible repeat (first | refine blk_drewN ?_ _ | refine blk_drew ?_ | refine blk_alloc ?_ _)); exact put6 a1) Tryd.underlying66 rfl (by kernel_rfl)) rfl ?_; exact ⟨au3, bw1 HB a3⟩
        · rw [if_neg a8] at H; have c11b0 : (a0 == 4) = false := beq_eq_false_iff_ne.mpr a8; have c11b1 : (a0 != 4) = true := bne_iff_ne.mpr a8; have c4 := Aside0.mk H; clear H; go_enter Tryd.func30, Tryd.ntmps30; go_upto_if 17 with (first | ((with_reducible refine gate_dst (N := 2) rfl ?_); refine box_event ?hg (N := 2) ?hd (cs := #[.bool false, .bool false, .bool false, .bool false, .bool false, .bool false]) (t := 66) ?hr ?_; (case hd => rfl); (case hg => rfl); (case hr => first | (go_simp; done) | (go_simp; rfl)); intro a2 hg w15 hbox hb; have a4 := Aside0.mk (below_step (bw0 HB) hb); have a5 := Aside0.mk (hbox); have a6 := Aside0.mk ((by rw [hg]; exact (below_size (bw0 HB)) : w.heap.size ≤ a2)); have a7 := Aside0.mk ((by rw [hg]; exact (below_size (bw0 HB)) : w.heap.size ≤ a2)); clear HB; have HB := a4; have a1 := a5; have b8 := a6; have a3 := a7; clear a4 a5 a6 a7; clear hb hbox hg))
          (try simp only [Act.put, List.setIfInBounds_toArray, List.set_cons_zero, List.set_cons_succ])
          go_cut [17] (fun c7 wc => ∃ (kq : Nat) (b9 : Bool), c7 = .bool b9 ∧ Aside0 (event_shape.j0 kq a0 b9 = some (r1, r2, r3, r4, r5, r6, r7)) ∧ Aside0 (kq ≤ k) ∧ Aside0 (wc.heap[a2]? = some (.cells #[.bool false, .bool false, .bool false, .bool false, .bool false, .bool false] 66 (0, 0))) ∧ Aside0 (Below w.heap.size w wc))
          case first =>
            have H := c4.out; clear c4; by_cases a9 : a0 = 5
            · rw [if_pos a9] at H; have c16b0 : (a0 == 5) = true := beq_iff_eq.mpr a9; have c16b1 : (a0 != 5) = false := bne_eq_false_iff_eq.mpr a9; clear a9
              (first | rw [c16b0] | (simp only [i64_w, i32_w]; rw [c16b0]) | rw [c16b1] | skip)
              have H' := Aside0.mk H; clear H; go_wp2; go_meet
              case rel => exact ⟨_, ((a0 == 5)), au4, H', ⟨au5⟩, ⟨pq a1⟩, ⟨bw1 HB a3⟩⟩
            · rw [if_neg a9] at H; have c16b0 : (a0 == 5) = false := beq_eq_false_iff_ne.mpr a9; have c16b1 : (a0 != 5) = true := bne_iff_ne.mpr a9
              (first | rw [c16b0] | (simp only [i64_w, i32_w]; rw [c16b0]) | rw [c16b1] | skip)
              by_cases b0 : a0 = 6
              · rw [if_pos b0] at H; have c17b0 : (a0 == 6) = true := beq_iff_eq.mpr b0; have c17b1 : (a0 != 6) = false := bne_eq_false_iff_eq.mpr b0; clear b0; have H' := Aside0.mk H; clear H; go_wp2; go_meet
                case rel => exact ⟨_, ((a0 == 6)), au4, H', ⟨au5⟩, ⟨pq a1⟩, ⟨bw1 HB a3⟩⟩
              · rw [if_neg b0] at H; have c17b0 : (a0 == 6) = false := beq_eq_false_iff_ne.mpr b0; have c17b1 : (a0 != 6) = true := bne_iff_ne.mpr b0; by_cases b1 : a0 = 7
                · rw [if_pos b1] at H; have c18b0 : (a0 == 7) = true := beq_iff_eq.mpr b1; have c18b1 : (a0 != 7) = false := bne_eq_false_iff_eq.mpr b1; clear b1; have H' := Aside0.mk H; clear H; go_wp2; go_meet
                  case rel => exact ⟨_, ((a0 == 7)), au4, H', ⟨au5⟩, ⟨pq a1⟩, ⟨bw1 HB a3⟩⟩
                · rw [if_neg b1] at H; have c18b0 : (a0 == 7) = false := beq_eq_false_iff_ne.mpr b1; have c18b1 : (a0 != 7) = true := bne_iff_ne.mpr b1; have H' := Aside0.mk H; clear H; go_wp2; go_meet
                  case rel => exact ⟨_, ((a0 == 8)), au4, H', ⟨au5⟩, ⟨pq a1⟩, ⟨bw1 HB a3⟩⟩
          case rest =>
            clear c4; (try clear c2b0 c2b1 c5b0 c5b1 c8b0 c8b1 c11b0 c11b1); obtain ⟨kq, b9, rfl, HA, c0, a1, HB⟩ := hcut
            cases kq with
            | zero => exact absurd HA.out (by simp [event_shape.j0])
            | succ b6 =>
              have H := HA.out; clear HA; simp only [event_shape.j0] at H; by_cases b7 : b9 = true
              · subst b7; (have H1 : (some (true, false, false, false, false, false, true)) = some (r1, r2, r3, r4, r5, r6, r7) := by rw [if_pos rfl] at H; exact H); clear H; have H := H1; clear H1; simp only [Option.some.injEq, Prod.mk.injEq] at H; obtain ⟨rfl, rfl, rfl, rfl, rfl, rfl, rfl⟩ := H; obtain ⟨i3, i4, i5, i6, i7, i8⟩ := cz6 a1; obtain ⟨i9, j2, j3, j4, j5, j6⟩ := fz6 a1; go_wp2; refine bodyPost_ret (results_ct rfl _ _ a2 66 #[.bool true, .bool false, .bool false, .bool false, .bool false, .bool false] (0, 0) _ rfl (by (with_reducible repeat (first | refine blk_drewN ?_ _ | refine blk_drew ?_ | refine blk_alloc ?_ _)); exact put6 a1) Tryd.underlying66 rfl (by kernel_rfl)) rfl ?_; exact ⟨au3, bw1 HB a3⟩
              · replace b7 := Bool.eq_false_iff.mpr b7; subst b7; (have H1 : (if a0 = 9 then (some (false, false, false, false, false, false, true)) else (if a0 = 10 then (event_shape.j1 b6 (a0 == 10)) else (if a0 = 11 then (event_shape.j1 b6 (a0 == 11)) else (if a0 = 12 then (event_shape.j1 b6 (a0 == 12)) else (event_shape.j1 b6 (a0 == 13)))))) = some (r1, r2, r3, r4, r5, r6, r7) := by rw [if_neg (show ¬ (false = true) by decide)] at H; exact H); clear H; have H := H1; clear H1; by_cases b2 : a0 = 9
                · rw [if_pos b2] at H; have c21b0 : (a0 == 9) = true := beq_iff_eq.mpr b2; have c21b1 : (a0 != 9) = false := bne_eq_false_iff_eq.mpr b2; clear b2; simp only [Option.some.injEq, Prod.mk.injEq] at H; obtain ⟨rfl, rfl, rfl, rfl, rfl, rfl, rfl⟩ := H; obtain ⟨j7, j8, j9, k0, k1, k2⟩ := cz6 a1; obtain ⟨k3, k4, k5, k6, k7, k8⟩ := fz6 a1; go_wp2; refine bodyPost_ret (results_ct rfl _ _ a2 66 #[.bool false, .bool false, .bool false, .bool false, .bool false, .bool false] (0, 0) _ rfl (by (with_reducible repeat (first | refine blk_drewN ?_ _ | refine blk_drew ?_ | refine blk_alloc ?_ _)); exact put6 a1) Tryd.underlying66 rfl (by kernel_rfl)) rfl ?_; exact ⟨au3, bw1 HB a3⟩
                · rw [if_neg b2] at H; have c21b0 : (a0 == 9) = false := beq_eq_false_iff_ne.mpr b2; have c21b1 : (a0 != 9) = true := bne_iff_ne.mpr b2; have c6 := Aside0.mk H; clear H; go_upto_if 26 with (fail); go_cut [26] (fun c9 wc => ∃ (kq : Nat) (c1 : Bool), c9 = .bool c1 ∧ Aside0 (event_shape.j1 kq c1 = some (r1, r2, r3, r4, r5, r6, r7)) ∧ Aside0 (kq ≤ b6) ∧ Aside0 (wc.heap[a2]? = some (.cells #[.bool false, .bool false, .bool false, .bool false, .bool false, .bool false] 66 (0, 0))) ∧ Aside0 (Below w.heap.size w wc))
                  case first =>
                    have H := c6.out; clear c6; by_cases b3 : a0 = 10
                    · rw [if_pos b3] at H; have c24b0 : (a0 == 10) = true := beq_iff_eq.mpr b3; have c24b1 : (a0 != 10) = false := bne_eq_false_iff_eq.mpr b3; clear b3
                      (first | rw [c24b0] | (simp only [i64_w, i32_w]; rw [c24b0]) | rw [c24b1] | skip)
                      have H' := Aside0.mk H; clear H; go_wp2; go_meet
                      case rel => exact ⟨_, ((a0 == 10)), au4, H', ⟨by have := c0.out; first | omega | exact Nat.le_refl _⟩, ⟨pq a1⟩, ⟨bw1 HB a3⟩⟩
                    · rw [if_neg b3] at H; have c24b0 : (a0 == 10) = false := beq_eq_false_iff_ne.mpr b3; have c24b1 : (a0 != 10) = true := bne_iff_ne.mpr b3
                      (first | rw [c24b0] | (simp only [i64_w, i32_w]; rw [c24b0]) | rw [c24b1] | skip)
                      by_cases b4 : a0 = 11
                      · rw [if_pos b4] at H; have c25b0 : (a0 == 11) = true := beq_iff_eq.mpr b4; have c25b1 : (a0 != 11) = false := bne_eq_false_iff_eq.mpr b4; clear b4; have H' := Aside0.mk H; clear H; go_wp2; go_meet
                        case rel => exact ⟨_, ((a0 == 11)), au4, H', ⟨by have := c0.out; first | omega | exact Nat.le_refl _⟩, ⟨pq a1⟩, ⟨bw1 HB a3⟩⟩
                      · rw [if_neg b4] at H; have c25b0 : (a0 == 11) = false := beq_eq_false_iff_ne.mpr b4; have c25b1 : (a0 != 11) = true := bne_iff_ne.mpr b4; by_cases b5 : a0 = 12
                        · rw [if_pos b5] at H; have c26b0 : (a0 == 12) = true := beq_iff_eq.mpr b5; have c26b1 : (a0 != 12) = false := bne_eq_false_iff_eq.mpr b5; clear b5; have H' := Aside0.mk H; clear H; go_wp2; go_meet
                          case rel => exact ⟨_, ((a0 == 12)), au4, H', ⟨by have := c0.out; first | omega | exact Nat.le_refl _⟩, ⟨pq a1⟩, ⟨bw1 HB a3⟩⟩
                        · rw [if_neg b5] at H; have c26b0 : (a0 == 12) = false := beq_eq_false_iff_ne.mpr b5; have c26b1 : (a0 != 12) = true := bne_iff_ne.mpr b5; have H' := Aside0.mk H; clear H; go_wp2; go_meet
                          case rel => exact ⟨_, ((a0 == 13)), au4, H', ⟨by have := c0.out; first | omega | exact Nat.le_refl _⟩, ⟨pq a1⟩, ⟨bw1 HB a3⟩⟩
                  case rest =>
                    clear c6; (try clear b7 c21b0 c21b1); obtain ⟨kq, c1, rfl, HA, HJ22, a1, HB⟩ := hcut
                    cases kq with
                    | zero => exact absurd HA.out (by simp [event_shape.j1])
                    | succ kj22 =>
                      have H := HA.out; clear HA; simp only [event_shape.j1] at H; by_cases c3 : c1 = true
                      · subst c3; (have H1 : (some (false, true, false, false, false, false, true)) = some (r1, r2, r3, r4, r5, r6, r7) := by rw [if_pos rfl] at H; exact H); clear H; have H := H1; clear H1; simp only [Option.some.injEq, Prod.mk.injEq] at H; obtain ⟨rfl, rfl, rfl, rfl, rfl, rfl, rfl⟩ := H; obtain ⟨k9, l0, l1, l2, l3, l4⟩ := cz6 a1; obtain ⟨l5, l6, l7, l8, l9, m0⟩ := fz6 a1; go_wp2; refine bodyPost_ret (results_ct rfl _ _ a2 66 #[.bool false, .bool true, .bool false, .bool false, .bool false, .bool false] (0, 0) _ rfl (by (with_reducible repeat (first | refine blk_drewN ?_ _ | refine blk_drew ?_ | refine blk_alloc ?_ _)); exact put6 a1) Tryd.underlying66 rfl (by kernel_rfl)) rfl ?_; exact ⟨au3, bw1 HB a3⟩
                      · replace c3 := Bool.eq_false_iff.mpr c3; subst c3; (have H1 : (some (false, false, false, false, false, false, false)) = some (r1, r2, r3, r4, r5, r6, r7) := by rw [if_neg (show ¬ (false = true) by decide)] at H; exact H); clear H; have H := H1; clear H1; simp only [Option.some.injEq, Prod.mk.injEq] at H; obtain ⟨rfl, rfl, rfl, rfl, rfl, rfl, rfl⟩ := H; obtain ⟨m1, m2, m3, m4, m5, m6⟩ := cz6 a1; obtain ⟨m7, m8, m9, n0, n1, n2⟩ := fz6 a1; go_wp2; refine bodyPost_ret (results_ct rfl _ _ a2 66 #[.bool false, .bool false, .bool false, .bool false, .bool false, .bool false] (0, 0) _ rfl (by (with_reducible repeat (first | refine blk_drewN ?_ _ | refine blk_drew ?_ | refine blk_alloc ?_ _)); exact put6 a1) Tryd.underlying66 rfl (by kernel_rfl)) rfl ?_; exact ⟨au3, bw1 HB a3⟩
end

section
theorem eqA23 (d : Nat) (w : World) (x0 y0 : ByteArray) (x1 y1 : Int) (x2 y2 : Int) (x3 y3 : Int) (x4 y4 : Int) (x5 y5 : Int) :
    (Op.equalIn (d + 2) 23 (.agg #[.string x0, .int .i64 x1, .int .i64 x2, .int .i64 x3, .int .i64 x4, .int .i64 x5]) (.agg #[.string y0, .int .i64 y1, .int .i64 y2, .int .i64 y3, .int .i64 y4, .int .i64 y5])).run Tryd.prog w = .ok (x0.toList == y0.toList && (x1 == y1 && (x2 == y2 && (x3 == y3 && (x4 == y4 && (x5 == y5)))))) w := by
  refine eqA_of Tryd.underlying23 (by kernel_rfl) ?_; refine eqf_cons (by rfl) (by go_simp; rfl) (by go_simp; rfl) (by go_simp) ?_; refine eqf_cons (by rfl) (by go_simp; rfl) (by go_simp; rfl) (by go_simp) ?_; refine eqf_cons (by rfl) (by go_simp; rfl) (by go_simp; rfl) (by go_simp) ?_; refine eqf_cons (by rfl) (by go_simp; rfl) (by go_simp; rfl) (by go_simp) ?_; refine eqf_cons (by rfl) (by go_simp; rfl) (by go_simp; rfl) (by go_simp) ?_; exact eqf_last (by rfl) (by go_simp; rfl) (by go_simp; rfl) (by go_simp)
end
attribute [local go_sem high] eqA23

section
/-! ### event_none_int: function 31 -/
def event_none_int.f (a0 : Bool) (a1 : Int) : Option (Bool) := if a0 = true then (some true) else (some (a1 == 0))
set_option maxHeartbeats 8000000 in
set_option maxRecDepth 100000 in
theorem event_none_int.calls (a0 : Bool) (a1 : Int) (r : Bool) (w : World) (h : event_none_int.f a0 a1 = some r) :
    Calls Tryd.prog 31 #[.bool a0, .int .i64 a1] w fun e w' => e = .returned (.bool r) ∧ Drawn0 w w' := by
  have H : (if a0 = true then (some true) else (some (a1 == 0))) = some r := h; clear h; by_cases c3 : a0 = true
  · subst c3; rw [if_pos rfl] at H; obtain rfl := Option.some.inj H; go_enter Tryd.func31, Tryd.ntmps31; go_wp2; go_ret; exact ⟨au4, by repeat (first | exact Drawn0.refl _ | apply Drawn0.step)⟩
  · replace c3 := Bool.eq_false_iff.mpr c3; subst c3; rw [if_neg (show ¬ (false = true) by decide)] at H; obtain rfl := Option.some.inj H; go_enter Tryd.func31, Tryd.ntmps31; go_wp2; go_ret; exact ⟨au4, by repeat (first | exact Drawn0.refl _ | apply Drawn0.step)⟩
end

section
/-! ### event_none_string: function 32 -/
def event_none_string.f (a0 : Bool) (a1 : ByteArray) : Option (Bool) := if a0 = true then (some true) else (some (a1.toList == ([] : List UInt8)))
set_option maxHeartbeats 8000000 in
set_option maxRecDepth 100000 in
theorem event_none_string.calls (a0 : Bool) (a1 : ByteArray) (r : Bool) (w : World) (h : event_none_string.f a0 a1 = some r) :
    Calls Tryd.prog 32 #[.bool a0, .string a1] w fun e w' => e = .returned (.bool r) ∧ Drawn0 w w' := by
  have H : (if a0 = true then (some true) else (some (a1.toList == ([] : List UInt8)))) = some r := h; clear h; by_cases c3 : a0 = true
  · subst c3; rw [if_pos rfl] at H; obtain rfl := Option.some.inj H; go_enter Tryd.func32, Tryd.ntmps32; go_wp2; go_ret; exact ⟨au4, by repeat (first | exact Drawn0.refl _ | apply Drawn0.step)⟩
  · replace c3 := Bool.eq_false_iff.mpr c3; subst c3; rw [if_neg (show ¬ (false = true) by decide)] at H; obtain rfl := Option.some.inj H; go_enter Tryd.func32, Tryd.ntmps32; go_wp2; go_ret; exact ⟨au4, by repeat (first | exact Drawn0.refl _ | apply Drawn0.step)⟩
end

section
/-! ### api_Config: function 33 -/
def api_Config.f (a0 : Bool) (a1 : ByteArray) (a2 : Int) (a3 : Int) (a4 : Int) (a5 : Int) (a6 : Int) : Option (Bool) := if a0 = true then (some true) else (some (a1.toList == ([] : List UInt8) && (a2 == 0 && (a3 == 0 && (a4 == 0 && (a5 == 0 && (a6 == 0)))))))
set_option maxHeartbeats 8000000 in
set_option maxRecDepth 100000 in
theorem api_Config.calls (a0 : Bool) (a9 : ByteArray) (b0 : Int) (b1 : Int) (b2 : Int) (b3 : Int) (b4 : Int) (r : Bool) (w : World) (h : api_Config.f a0 a9 b0 b1 b2 b3 b4 = some r) :
    Calls Tryd.prog 33 #[.bool a0, .agg #[.string a9, .int .i64 b0, .int .i64 b1, .int .i64 b2, .int .i64 b3, .int .i64 b4]] w fun e w' => e = .returned (.bool r) ∧ Below w.heap.size w w' := by
  have hu23 := Tryd.underlying23; have HB := Aside0.mk (Below.refl w.heap.size w); have H : (if a0 = true then (some true) else (some (a9.toList == ([] : List UInt8) && (b0 == 0 && (b1 == 0 && (b2 == 0 && (b3 == 0 && (b4 == 0)))))))) = some r := h; clear h; by_cases c3 : a0 = true
  · subst c3; rw [if_pos rfl] at H; obtain rfl := Option.some.inj H; go_enter Tryd.func33, Tryd.ntmps33; go_wp2_with (first | ((with_reducible refine gate_dst (N := 3) rfl ?_); refine box_event ?hg (N := 3) ?hd (cs := #[.string a9, .int .i64 b0, .int .i64 b1, .int .i64 b2, .int .i64 b3, .int .i64 b4]) (t := 23) ?hr ?_; (case hd => rfl); (case hg => rfl); (case hr => first | (go_simp; done) | (go_simp; rfl)); intro a2 hg w4 hbox hb; have a3 := Aside0.mk (below_step (bw0 HB) hb); have a4 := Aside0.mk (hbox); have a5 := Aside0.mk ((by rw [hg]; exact (below_size (bw0 HB)) : w.heap.size ≤ a2)); have a6 := Aside0.mk ((by rw [hg]; exact (below_size (bw0 HB)) : w.heap.size ≤ a2)); clear HB; have HB := a3; have a1 := a4; have c2 := a5; have a7 := a6; clear a3 a4 a5 a6; clear hb hbox hg) | ((with_reducible refine gate_dst (N := 5) rfl ?_); refine box_event ?hg (N := 5) ?hd (cs := #[.string (⟨#[]⟩ : ByteArray), .int .i64 0, .int .i64 0, .int .i64 0, .int .i64 0, .int .i64 0]) (t := 23) ?hr ?_; (case hd => rfl); (case hg => rfl); (case hr => first | (go_simp; done) | (go_simp; rfl)); intro a8 hg w5 hbox hb; have a3 := Aside0.mk (blk_below (g := a2) (pk a1) hb); have a4 := Aside0.mk (below_step (bw1 HB a7) hb); have a5 := Aside0.mk (hbox); have a6 := Aside0.mk ((by rw [hg]; exact (below_size (bw1 HB a7)) : w.heap.size ≤ a8)); have b5 := Aside0.mk ((by rw [hg]; exact (below_size (bw1 HB a7)) : w.heap.size ≤ a8)); have b6 := Aside0.mk ((ne_lt hg (pk a1) : a2 ≠ a8)); have b7 := Aside0.mk ((ne_gt hg (pk a1) : a8 ≠ a2)); clear a1; clear HB; have a1 := a3; have HB := a4; have b8 := a5; have c4 := a6; have b9 := b5; have c0 := b6; have c1 := b7; clear a3 a4 a5 a6 b5 b6 b7; clear hb hbox hg)); go_ret; exact ⟨au3, bw2 HB a7 b9⟩
  · replace c3 := Bool.eq_false_iff.mpr c3; subst c3; rw [if_neg (show ¬ (false = true) by decide)] at H; obtain rfl := Option.some.inj H; go_enter Tryd.func33, Tryd.ntmps33; go_wp2_with (first | ((with_reducible refine gate_dst (N := 3) rfl ?_); refine box_event ?hg (N := 3) ?hd (cs := #[.string a9, .int .i64 b0, .int .i64 b1, .int .i64 b2, .int .i64 b3, .int .i64 b4]) (t := 23) ?hr ?_; (case hd => rfl); (case hg => rfl); (case hr => first | (go_simp; done) | (go_simp; rfl)); intro a2 hg w6 hbox hb; have a3 := Aside0.mk (below_step (bw0 HB) hb); have a4 := Aside0.mk (hbox); have a5 := Aside0.mk ((by rw [hg]; exact (below_size (bw0 HB)) : w.heap.size ≤ a2)); have a6 := Aside0.mk ((by rw [hg]; exact (below_size (bw0 HB)) : w.heap.size ≤ a2)); clear HB; have HB := a3; have a1 := a4; have c2 := a5; have a7 := a6; clear a3 a4 a5 a6; clear hb hbox hg) | ((with_reducible refine gate_dst (N := 5) rfl ?_); refine box_event ?hg (N := 5) ?hd (cs := #[.string (⟨#[]⟩ : ByteArray), .int .i64 0, .int .i64 0, .int .i64 0, .int .i64 0, .int .i64 0]) (t := 23) ?hr ?_; (case hd => rfl); (case hg => rfl); (case hr => first | (go_simp; done) | (go_simp; rfl)); intro a8 hg w7 hbox hb; have a3 := Aside0.mk (blk_below (g := a2) (pk a1) hb); have a4 := Aside0.mk (below_step (bw1 HB a7) hb); have a5 := Aside0.mk (hbox); have a6 := Aside0.mk ((by rw [hg]; exact (below_size (bw1 HB a7)) : w.heap.size ≤ a8)); have b5 := Aside0.mk ((by rw [hg]; exact (below_size (bw1 HB a7)) : w.heap.size ≤ a8)); have b6 := Aside0.mk ((ne_lt hg (pk a1) : a2 ≠ a8)); have b7 := Aside0.mk ((ne_gt hg (pk a1) : a8 ≠ a2)); clear a1; clear HB; have a1 := a3; have HB := a4; have b8 := a5; have c4 := a6; have b9 := b5; have c0 := b6; have c1 := b7; clear a3 a4 a5 a6 b5 b6 b7; clear hb hbox hg; have hnb8 := c0.out; have hnc8 := c1.out; obtain ⟨c5, c6, c7, c8, c9, d0⟩ := cz6 a1; obtain ⟨d1, d2, d3, d4, d5, d6⟩ := fz6 a1; obtain ⟨d7, d8, d9, e5, e6, e7⟩ := cz6 b8; obtain ⟨e8, e9, f0, f1, f2, f3⟩ := fz6 b8)); go_ret; exact ⟨au3, bw2 HB a7 b9⟩
end

section
/-! ### event_bare: function 34 -/
def event_bare.f (a0 : ByteArray) (a1 : ByteArray) (a2 : List (S39)) (a3 : Int) : Option (Bool) := if a0.toList = ([] : List UInt8) then (if a1.toList = ([] : List UInt8) then (if a3 = 0 then (some ((a2.length : Int) == 0)) else (some false)) else (some false)) else (some false)
set_option maxHeartbeats 8000000 in
set_option maxRecDepth 100000 in
theorem event_bare.calls (a0 : ByteArray) (a1 : ByteArray) (b1 : Option Addr) (b2 : Nat) (a9 : List (S39)) (a2 : Int) (r : Bool) (w : World) (b4 : Kd.C k39 w b1 a9.length a9) (b5 : a9.length ≤ b2) (h : event_bare.f a0 a1 a9 a2 = some r) :
    Calls Tryd.prog 34 #[.agg #[.string a0, .string a1, .slice b1 a9.length b2, .int .i64 a2]] w fun e w' => e = .returned (.bool r) ∧ Below w.heap.size w w' := by
  have hu26 := Tryd.underlying26; have b6 := Aside0.mk b4; have b7 := Aside0.mk b5; clear b4 b5; have HB := Aside0.mk (Below.refl w.heap.size w); have H : (if a0.toList = ([] : List UInt8) then (if a1.toList = ([] : List UInt8) then (if a2 = 0 then (some ((a9.length : Int) == 0)) else (some false)) else (some false)) else (some false)) = some r := h; clear h; by_cases c2 : a0.toList = ([] : List UInt8)
  · rw [if_pos c2] at H; have c2b0 : (a0.toList == ([] : List UInt8)) = true := beq_iff_eq.mpr c2; have c2b1 : (a0.toList != ([] : List UInt8)) = false := bne_eq_false_iff_eq.mpr c2; clear c2; by_cases c3 : a1.toList = ([] : List UInt8)
    · rw [if_pos c3] at H; have c3b0 : (a1.toList == ([] : List UInt8)) = true := beq_iff_eq.mpr c3; have c3b1 : (a1.toList != ([] : List UInt8)) = false := bne_eq_false_iff_eq.mpr c3; clear c3; by_cases c4 : a2 = 0
      · rw [if_pos c4] at H; have c4b0 : (a2 == 0) = true := beq_iff_eq.mpr c4; have c4b1 : (a2 != 0) = false := bne_eq_false_iff_eq.mpr c4; clear c4; obtain rfl := Option.some.inj H; go_enter Tryd.func34, Tryd.ntmps34; go_wp2_with (first | ((with_reducible refine gate_dst (N := 1) rfl ?_); (try (refine gate_guard (by rfl) ?_; dsimp only)); refine box_event ?hg (N := 1) ?hd (cs := #[.string a0, .string a1, .slice b1 a9.length b2, .int .i64 a2]) (t := 26) ?hr ?_; (case hd => rfl); (case hg => rfl); (case hr => first | (go_simp; done) | (go_simp; rfl)); intro a3 hg w5 hbox hb; have a4 := Aside0.mk (below_step (bw0 HB) hb); have a5 := Aside0.mk (hbox); have a6 := Aside0.mk ((by rw [hg]; exact (below_size (bw0 HB)) : w.heap.size ≤ a3)); have a7 := Aside0.mk ((by rw [hg]; exact (below_size (bw0 HB)) : w.heap.size ≤ a3)); clear HB; have HB := a4; have a8 := a5; have b3 := a6; have b0 := a7; clear a4 a5 a6 a7; clear hb hbox hg; obtain ⟨b8, b9, c0, c1⟩ := cz4 a8; obtain ⟨c5, c6, c7, c8⟩ := fz4 a8)); go_ret; exact ⟨au3, bw1 HB b0⟩
      · rw [if_neg c4] at H; have c4b0 : (a2 == 0) = false := beq_eq_false_iff_ne.mpr c4; have c4b1 : (a2 != 0) = true := bne_iff_ne.mpr c4; obtain rfl := Option.some.inj H; go_enter Tryd.func34, Tryd.ntmps34; go_wp2_with (first | ((with_reducible refine gate_dst (N := 1) rfl ?_); (try (refine gate_guard (by rfl) ?_; dsimp only)); refine box_event ?hg (N := 1) ?hd (cs := #[.string a0, .string a1, .slice b1 a9.length b2, .int .i64 a2]) (t := 26) ?hr ?_; (case hd => rfl); (case hg => rfl); (case hr => first | (go_simp; done) | (go_simp; rfl)); intro a3 hg w7 hbox hb; have a4 := Aside0.mk (below_step (bw0 HB) hb); have a5 := Aside0.mk (hbox); have a6 := Aside0.mk ((by rw [hg]; exact (below_size (bw0 HB)) : w.heap.size ≤ a3)); have a7 := Aside0.mk ((by rw [hg]; exact (below_size (bw0 HB)) : w.heap.size ≤ a3)); clear HB; have HB := a4; have a8 := a5; have b3 := a6; have b0 := a7; clear a4 a5 a6 a7; clear hb hbox hg; obtain ⟨c9, d0, d1, d2⟩ := cz4 a8; obtain ⟨d3, d4, d5, d6⟩ := fz4 a8)); go_ret; exact ⟨au3, bw1 HB b0⟩
    · rw [if_neg c3] at H; have c3b0 : (a1.toList == ([] : List UInt8)) = false := beq_eq_false_iff_ne.mpr c3; have c3b1 : (a1.toList != ([] : List UInt8)) = true := bne_iff_ne.mpr c3; obtain rfl := Option.some.inj H; go_enter Tryd.func34, Tryd.ntmps34; go_wp2_with (first | ((with_reducible refine gate_dst (N := 1) rfl ?_); (try (refine gate_guard (by rfl) ?_; dsimp only)); refine box_event ?hg (N := 1) ?hd (cs := #[.string a0, .string a1, .slice b1 a9.length b2, .int .i64 a2]) (t := 26) ?hr ?_; (case hd => rfl); (case hg => rfl); (case hr => first | (go_simp; done) | (go_simp; rfl)); intro a3 hg w9 hbox hb; have a4 := Aside0.mk (below_step (bw0 HB) hb); have a5 := Aside0.mk (hbox); have a6 := Aside0.mk ((by rw [hg]; exact (below_size (bw0 HB)) : w.heap.size ≤ a3)); have a7 := Aside0.mk ((by rw [hg]; exact (below_size (bw0 HB)) : w.heap.size ≤ a3)); clear HB; have HB := a4; have a8 := a5; have b3 := a6; have b0 := a7; clear a4 a5 a6 a7; clear hb hbox hg; obtain ⟨d7, d8, d9, e5⟩ := cz4 a8; obtain ⟨e6, e7, e8, e9⟩ := fz4 a8)); go_ret; exact ⟨au3, bw1 HB b0⟩
  · rw [if_neg c2] at H; have c2b0 : (a0.toList == ([] : List UInt8)) = false := beq_eq_false_iff_ne.mpr c2; have c2b1 : (a0.toList != ([] : List UInt8)) = true := bne_iff_ne.mpr c2; obtain rfl := Option.some.inj H; go_enter Tryd.func34, Tryd.ntmps34; go_wp2_with (first | ((with_reducible refine gate_dst (N := 1) rfl ?_); (try (refine gate_guard (by rfl) ?_; dsimp only)); refine box_event ?hg (N := 1) ?hd (cs := #[.string a0, .string a1, .slice b1 a9.length b2, .int .i64 a2]) (t := 26) ?hr ?_; (case hd => rfl); (case hg => rfl); (case hr => first | (go_simp; done) | (go_simp; rfl)); intro a3 hg w11 hbox hb; have a4 := Aside0.mk (below_step (bw0 HB) hb); have a5 := Aside0.mk (hbox); have a6 := Aside0.mk ((by rw [hg]; exact (below_size (bw0 HB)) : w.heap.size ≤ a3)); have a7 := Aside0.mk ((by rw [hg]; exact (below_size (bw0 HB)) : w.heap.size ≤ a3)); clear HB; have HB := a4; have a8 := a5; have b3 := a6; have b0 := a7; clear a4 a5 a6 a7; clear hb hbox hg; obtain ⟨f0, f1, f2, f3⟩ := cz4 a8; obtain ⟨f4, f5, f6, f7⟩ := fz4 a8)); go_ret; exact ⟨au3, bw1 HB b0⟩
end

section
/-! ### event_within: function 38 -/
def event_within.f (a0 : Int) (a1 : Int) (a2 : Int) : Option (Bool) := if a0 ≥ a1 then (some (decide (a0 ≤ a2))) else (some false)
set_option maxHeartbeats 8000000 in
set_option maxRecDepth 100000 in
theorem event_within.calls (a0 : Int) (a1 : Int) (a2 : Int) (r : Bool) (w : World) (h : event_within.f a0 a1 a2 = some r) :
    Calls Tryd.prog 38 #[.int .i64 a0, .int .i64 a1, .int .i64 a2] w fun e w' => e = .returned (.bool r) ∧ Drawn0 w w' := by
  have H : (if a0 ≥ a1 then (some (decide (a0 ≤ a2))) else (some false)) = some r := h; clear h; by_cases c4 : a0 ≥ a1
  · rw [if_pos c4] at H; have c4b0 : decide (a1 ≤ a0) = true := decide_eq_true c4; clear c4; obtain rfl := Option.some.inj H; go_enter Tryd.func38, Tryd.ntmps38; go_wp2; go_ret; exact ⟨au4, by repeat (first | exact Drawn0.refl _ | apply Drawn0.step)⟩
  · rw [if_neg c4] at H; have c4b0 : decide (a1 ≤ a0) = false := decide_eq_false c4; clear c4; obtain rfl := Option.some.inj H; go_enter Tryd.func38, Tryd.ntmps38; go_wp2; go_ret; exact ⟨au4, by repeat (first | exact Drawn0.refl _ | apply Drawn0.step)⟩
end

section
/-! ### event_number: function 35 -/
def event_number.j0 : Nat → Int → Bool → Int → ByteArray → ByteArray → Int → Int → ByteArray → Int → Int → Int → Int → Int → ByteArray → ByteArray → List (S39) → Int → Option (Bool)
  | 0, _, _, _, _, _, _, _, _, _, _, _, _, _, _, _, _, _ => none
  | k + 1, x4, x5, a4, a5, a6, a0, a7, a8, a9, b0, b1, b2, b3, b4, b5, b6, b7 => if x5 = true then ((event_within.f a0 0 2147483647).bind fun a1 => (some a1)) else (if x4 = 3 then ((event_within.f a0 1 2).bind fun a2 => (some a2)) else ((event_within.f a0 1 2147483647).bind fun a3 => (some a3)))
def event_number.f (k : Nat) (a0 : Int) (a1 : ByteArray) (a2 : ByteArray) (a3 : Int) (a4 : Int) (a5 : ByteArray) (a6 : Int) (a7 : Int) (a8 : Int) (a9 : Int) (b0 : Int) (b1 : ByteArray) (b2 : ByteArray) (b3 : List (S39)) (b4 : Int) : Option (Bool) := if a0 = 1 then (event_number.j0 k a0 (a0 == 1) a0 a1 a2 a3 a4 a5 a6 a7 a8 a9 b0 b1 b2 b3 b4) else (event_number.j0 k a0 (a0 == 2) a0 a1 a2 a3 a4 a5 a6 a7 a8 a9 b0 b1 b2 b3 b4)
set_option maxHeartbeats 8000000 in
set_option maxRecDepth 100000 in
theorem event_number.calls (k : Nat) (a0 : Int) (a4 : ByteArray) (a5 : ByteArray) (a1 : Int) (a6 : Int) (a7 : ByteArray) (a8 : Int) (a9 : Int) (b0 : Int) (b1 : Int) (b2 : Int) (b3 : ByteArray) (b4 : ByteArray) (b7 : Option Addr) (b8 : Nat) (a3 : List (S39)) (b5 : Int) (r : Bool) (w : World) (c2 : Kd.C k39 w b7 a3.length a3) (c3 : a3.length ≤ b8) (h : event_number.f k a0 a4 a5 a1 a6 a7 a8 a9 b0 b1 b2 b3 b4 a3 b5 = some r) :
    Calls Tryd.prog 35 #[.agg (eV a0 a4 a5 a1 a6 a7 a8 a9 b0 b1 b2 b3 b4 (.slice b7 a3.length b8) b5)] w fun e w' => e = .returned (.bool r) ∧ Below w.heap.size w w' := by
  have hu28 := Tryd.underlying28; have h4 := Aside0.mk c2; have h5 := Aside0.mk c3; clear c2 c3; have HB := Aside0.mk (Below.refl w.heap.size w); have H : (if a0 = 1 then (event_number.j0 k a0 (a0 == 1) a0 a4 a5 a1 a6 a7 a8 a9 b0 b1 b2 b3 b4 a3 b5) else (event_number.j0 k a0 (a0 == 2) a0 a4 a5 a1 a6 a7 a8 a9 b0 b1 b2 b3 b4 a3 b5)) = some r := h; clear h; have c0 := Aside0.mk H; clear H; go_enter Tryd.func35, Tryd.ntmps35; go_upto_if 5 with (first | ((with_reducible refine gate_dst (N := 1) rfl ?_); refine box_event ?hg (N := 1) ?hd (cs := (eV a0 a4 a5 a1 a6 a7 a8 a9 b0 b1 b2 b3 b4 (.slice b7 a3.length b8) b5)) (t := 28) ?hr ?_; (case hd => rfl); (case hg => rfl); (case hr => first | (go_simp; done) | (go_simp; rfl)); intro c1 hg w3 hbox hb; have c4 := Aside0.mk (below_step (bw0 HB) hb); have c7 := Aside0.mk (hbox); have c8 := Aside0.mk ((by rw [hg]; exact (below_size (bw0 HB)) : w.heap.size ≤ c1)); have d0 := Aside0.mk ((by rw [hg]; exact (below_size (bw0 HB)) : w.heap.size ≤ c1)); clear HB; have HB := c4; have a2 := c7; have h6 := c8; have b6 := d0; clear c4 c7 c8 d0; clear hb hbox hg; obtain ⟨d4, d5, d6, d7, d8, d9, e5, e6, e7, e8, e9, f0, f1, f2, f3⟩ := cz15 a2; obtain ⟨f4, f5, f6, f7, f8, f9, g0, g1, g2, g3, g4, g5, g6, g7, g8⟩ := fz15 a2))
  (try simp only [Act.put, List.setIfInBounds_toArray, List.set_cons_zero, List.set_cons_succ])
  go_cut [5] (fun v5 wc => ∃ (kq : Nat) (b9 : Bool), v5 = .bool b9 ∧ Aside0 (event_number.j0 kq a0 b9 a0 a4 a5 a1 a6 a7 a8 a9 b0 b1 b2 b3 b4 a3 b5 = some r) ∧ Aside0 (kq ≤ k) ∧ Aside0 (wc.heap[c1]? = some (.cells (eV a0 a4 a5 a1 a6 a7 a8 a9 b0 b1 b2 b3 b4 (.slice b7 a3.length b8) b5) 28 (0, 0))) ∧ Aside0 (Below w.heap.size w wc))
  case first =>
    have H := c0.out; clear c0; by_cases c5 : a0 = 1
    · rw [if_pos c5] at H; have c5b0 : (a0 == 1) = true := beq_iff_eq.mpr c5; have c5b1 : (a0 != 1) = false := bne_eq_false_iff_eq.mpr c5; clear c5
      (first | rw [c5b0] | (simp only [i64_w, i32_w]; rw [c5b0]) | rw [c5b1] | skip)
      have H' := Aside0.mk H; clear H; go_wp2; go_meet
      case rel => exact ⟨_, ((a0 == 1)), au4, H', ⟨au5⟩, ⟨pq a2⟩, ⟨bw1 HB b6⟩⟩
    · rw [if_neg c5] at H; have c5b0 : (a0 == 1) = false := beq_eq_false_iff_ne.mpr c5; have c5b1 : (a0 != 1) = true := bne_iff_ne.mpr c5
      (first | rw [c5b0] | (simp only [i64_w, i32_w]; rw [c5b0]) | rw [c5b1] | skip)
      have H' := Aside0.mk H; clear H; go_wp2; go_meet
      case rel => exact ⟨_, ((a0 == 2)), au4, H', ⟨au5⟩, ⟨pq a2⟩, ⟨bw1 HB b6⟩⟩
  case rest =>
    clear c0; (try clear d4 d5 e9 f0 f1 f2 f3 d6 d7 d8 d9 e5 e6 e7 e8 f4 f5 g4 g5 g6 g7 g8 f6 f7 f8 f9 g0 g1 g2 g3); obtain ⟨kq, b9, rfl, HA, HJ1, a2, HB⟩ := hcut
    cases kq with
    | zero => exact absurd HA.out (by simp [event_number.j0])
    | succ kj1 =>
      have H := HA.out; clear HA; simp only [event_number.j0] at H; by_cases c6 : b9 = true
      · subst c6; rw [if_pos rfl] at H; replace H := Option.bind_eq_some_iff.mp H; obtain ⟨g9, d1, H⟩ := H
        (try dsimp only at H)
        have A7 := Aside0.mk d1; clear d1; obtain rfl := Option.some.inj H; obtain ⟨h7, h8, h9, i0, i1, i2, i3, i4, i5, i6, i7, i8, i9, j1, j2⟩ := cz15 a2; obtain ⟨j3, j4, j5, j6, j7, j8, j9, k0, k1, k2, k3, k4, k5, k6, k7⟩ := fz15 a2; go_wp2_with (first | ((with_reducible refine gate_callee (f := 38) rfl ?_); refine goesL_ (some 10) rfl rfl Tryd.func38 (by kernel_rfl) rfl #[.int .i64 a1, .int .i64 0, .int .i64 2147483647] rfl au1 ?_; (with_reducible refine (event_within.calls a1 0 2147483647 g9 _ A7.out).mono ?_); rintro e w' ⟨rfl, ⟨nd, rfl⟩⟩; refine ⟨_, rfl, ?_⟩)); go_ret; exact ⟨au3, bw1 HB b6⟩
      · replace c6 := Bool.eq_false_iff.mpr c6; subst c6; rw [if_neg (show ¬ (false = true) by decide)] at H; by_cases c9 : a0 = 3
        · rw [if_pos c9] at H; have c9b0 : (a0 == 3) = true := beq_iff_eq.mpr c9; have c9b1 : (a0 != 3) = false := bne_eq_false_iff_eq.mpr c9; clear c9; replace H := Option.bind_eq_some_iff.mp H; obtain ⟨h0, d2, H⟩ := H
          (try dsimp only at H)
          have h1 := Aside0.mk d2; clear d2; obtain rfl := Option.some.inj H; obtain ⟨k8, k9, l0, l1, l2, l3, l4, l5, l6, l7, l8, l9, m0, m1, m2⟩ := cz15 a2; obtain ⟨m3, m4, m5, m6, m7, m8, m9, n0, n1, n2, n3, n4, n5, n6, n7⟩ := fz15 a2; go_wp2_with (first | ((with_reducible refine gate_callee (f := 38) rfl ?_); refine goesL_ (some 15) rfl rfl Tryd.func38 (by kernel_rfl) rfl #[.int .i64 a1, .int .i64 1, .int .i64 2] rfl au1 ?_; (with_reducible refine (event_within.calls a1 1 2 h0 _ h1.out).mono ?_); rintro e w' ⟨rfl, ⟨nd, rfl⟩⟩; refine ⟨_, rfl, ?_⟩)); go_ret; exact ⟨au3, bw1 HB b6⟩
        · rw [if_neg c9] at H; have c9b0 : (a0 == 3) = false := beq_eq_false_iff_ne.mpr c9; have c9b1 : (a0 != 3) = true := bne_iff_ne.mpr c9; replace H := Option.bind_eq_some_iff.mp H; obtain ⟨h2, d3, H⟩ := H
          (try dsimp only at H)
          have h3 := Aside0.mk d3; clear d3; obtain rfl := Option.some.inj H; obtain ⟨n8, n9, o0, o1, o2, o3, o4, o5, o6, o7, o8, o9, p0, p1, p2⟩ := cz15 a2; obtain ⟨p3, p4, p5, p6, p7, p8, p9, q0, q1, q2, q3, q4, q5, q6, q7⟩ := fz15 a2; go_wp2_with (first | ((with_reducible refine gate_callee (f := 38) rfl ?_); refine goesL_ (some 18) rfl rfl Tryd.func38 (by kernel_rfl) rfl #[.int .i64 a1, .int .i64 1, .int .i64 2147483647] rfl au1 ?_; (with_reducible refine (event_within.calls a1 1 2147483647 h2 _ h3.out).mono ?_); rintro e w' ⟨rfl, ⟨nd, rfl⟩⟩; refine ⟨_, rfl, ?_⟩)); go_ret; exact ⟨au3, bw1 HB b6⟩
end

section
/-! ### label_short: function 71 -/
/-- A byte that may stand in a name; one that may open it. -/
def isSign (b : UInt8) : Bool := decide (97 ≤ b.toNat) && decide (b.toNat ≤ 122) || decide (48 ≤ b.toNat) && decide (b.toNat ≤ 57) || decide (b.toNat = 45)
def isLetter (b : UInt8) : Bool := decide (97 ≤ b.toNat) && decide (b.toNat ≤ 122)
def shortL (l : List UInt8) (most : Int) : Bool := l.all isSign && l.head?.any isLetter && !(l.getLast? == some 45) && decide ((l.length : Int) ≤ most)
def label_short.f (a0 : ByteArray) (a1 : Int) : Option Bool := some (shortL a0.data.toList a1)

def letB (c : Int) : Bool := decide (97 ≤ c) && decide (c ≤ 122)
def sigB (c : Int) : Bool := letB c || (decide (48 ≤ c) && decide (c ≤ 57) || decide (c = 45))
set_option maxHeartbeats 8000000 in
set_option maxRecDepth 100000 in
theorem letter_walk (a0 : Int) (w : World) : Calls Tryd.prog 84 #[.int .i32 a0] w fun e w' => e = .returned (.bool (letB a0)) ∧ w' = w := by
  by_cases c2 : a0 ≥ 97
  · have c2b0 : decide (97 ≤ a0) = true := decide_eq_true c2; clear c2; go_enter Tryd.func84, Tryd.ntmps84; go_wp2; go_ret; exact ⟨by unfold letB; rw [c2b0]; rfl, rfl⟩
  · have c2b0 : decide (97 ≤ a0) = false := decide_eq_false c2; clear c2; go_enter Tryd.func84, Tryd.ntmps84; go_wp2; go_ret; exact ⟨by unfold letB; rw [c2b0]; rfl, rfl⟩
set_option maxHeartbeats 8000000 in
set_option maxRecDepth 100000 in
theorem sign_walk (a0 : Int) (w : World) : Calls Tryd.prog 83 #[.int .i32 a0] w fun e w' => e = .returned (.bool (sigB a0)) ∧ w' = w := by
  have b1 : a0 ≥ 48 ∨ ¬ a0 ≥ 48 := Classical.em _; generalize hL : letB a0 = lb; have hw := letter_walk a0; rw [hL] at hw
  cases lb with
  | true =>
    go_enter Tryd.func83, Tryd.ntmps83; go_wp2_with (go_at_call 84; refine (hw _).mono ?_; rintro e w' ⟨rfl, rfl⟩); go_wp2; go_ret; exact ⟨by unfold sigB; rw [hL]; rfl, rfl⟩
  | false =>
    by_cases c2 : a0 ≥ 48
    · have c2b0 : decide (48 ≤ a0) = true := decide_eq_true c2; clear c2; by_cases c3 : a0 ≤ 57
      · have c3b0 : decide (a0 ≤ 57) = true := decide_eq_true c3; clear c3; go_enter Tryd.func83, Tryd.ntmps83; go_wp2_with (go_at_call 84; refine (hw _).mono ?_; rintro e w' ⟨rfl, rfl⟩); go_wp2; go_ret; exact ⟨by unfold sigB; rw [hL, c2b0, c3b0]; rfl, rfl⟩
      · have c3b0 : decide (a0 ≤ 57) = false := decide_eq_false c3; clear c3; go_enter Tryd.func83, Tryd.ntmps83; go_wp2_with (go_at_call 84; refine (hw _).mono ?_; rintro e w' ⟨rfl, rfl⟩); go_wp2; go_ret; exact ⟨by unfold sigB; rw [hL, c2b0, c3b0]; rfl, rfl⟩
    · have c2b0 : decide (48 ≤ a0) = false := decide_eq_false c2; clear c2; go_enter Tryd.func83, Tryd.ntmps83; go_wp2_with (go_at_call 84; refine (hw _).mono ?_; rintro e w' ⟨rfl, rfl⟩); go_wp2; go_ret; exact ⟨by unfold sigB; rw [hL, c2b0]; rfl, rfl⟩
theorem isLetter_int (b : UInt8) : letB ((b.toNat : Nat) : Int) = isLetter b := by
  unfold letB isLetter; have e1 : (decide ((97 : Int) ≤ (b.toNat : Int))) = decide (97 ≤ b.toNat) := decide_eq_decide.2 (by omega); have e2 : (decide ((b.toNat : Int) ≤ 122)) = decide (b.toNat ≤ 122) := decide_eq_decide.2 (by omega); rw [e1, e2]
theorem isSign_int (b : UInt8) : sigB ((b.toNat : Nat) : Int) = isSign b := by
  unfold sigB isSign; rw [isLetter_int]; unfold isLetter; have e3 : (decide ((48 : Int) ≤ (b.toNat : Int))) = decide (48 ≤ b.toNat) := decide_eq_decide.2 (by omega); have e4 : (decide ((b.toNat : Int) ≤ 57)) = decide (b.toNat ≤ 57) := decide_eq_decide.2 (by omega); have e5 : (decide ((b.toNat : Int) = 45)) = decide (b.toNat = 45) := decide_eq_decide.2 (by omega); rw [e3, e4, e5, Bool.or_assoc]
theorem sign_high (c : Nat) (h : 128 ≤ c) : sigB ((c : Nat) : Int) = false := by
  simp [sigB, letB]; omega
theorem not_sign_high (b : UInt8) (h : 128 ≤ b.toNat) : isSign b = false := by
  simp [isSign]; omega
/-- What is so far: the bytes before 'pos' are signs, the first a letter. -/
def Soft (l : List UInt8) (pos : Nat) (last : Int) : Prop :=
  pos ≤ l.length ∧ (∀ (i : Nat) (h : i < l.length), i < pos → isSign l[i] = true) ∧ (∀ (h : 0 < l.length), 0 < pos → isLetter l[0] = true) ∧
    (pos = 0 → last = 45) ∧ (∀ (h : pos - 1 < l.length), 0 < pos → last = ((l[pos - 1]).toNat : Int))
theorem soft_zero (l : List UInt8) : Soft l 0 45 := ⟨by omega, fun _ _ h => absurd h (by omega), fun _ h => absurd h (by omega), fun _ => rfl, fun _ h => absurd h (by omega)⟩
theorem soft_step {l : List UInt8} {pos : Nat} {last : Int} (h : Soft l pos last) (hp : pos < l.length) (hs : isSign l[pos] = true) (hl : pos = 0 → isLetter l[pos] = true) : Soft l (pos + 1) ((l[pos]).toNat : Int) := by
  obtain ⟨h1, h2, h3, h4, h5⟩ := h; refine ⟨by omega, fun i hi hlt => ?_, fun h0 _ => ?_, fun h => absurd h (by omega), fun _ _ => by simp⟩
  · by_cases e : i = pos
    · subst e; exact hs
    · exact h2 i hi (by omega)
  · by_cases e : pos = 0
    · subst e; exact hl rfl
    · exact h3 h0 (by omega)
theorem soft_bad {l : List UInt8} {pos : Nat} (most : Int) (hp : pos < l.length) (hs : isSign l[pos] = false ∨ (pos = 0 ∧ isLetter l[pos] = false)) : shortL l most = false := by
  unfold shortL; rcases hs with hs | ⟨rfl, hs⟩
  · have : l.all isSign = false := by
      rw [List.all_eq_false]; exact ⟨l[pos], List.getElem_mem hp, by rw [hs]; decide⟩
    rw [this]; rfl
  · cases l with
    | nil => simp at hp
    | cons a l => have : isLetter a = false := hs
                  simp [this]
theorem soft_end {l : List UInt8} {pos : Nat} {last : Int} (most : Int) (h : Soft l pos last) (hp : ¬ pos < l.length) : shortL l most = (!(last == 45) && decide ((l.length : Int) ≤ most)) := by
  obtain ⟨h1, h2, h3, h4, h5⟩ := h; (obtain rfl : pos = l.length := by omega); unfold shortL
  cases l with
  | nil => rw [h4 rfl]; rfl
  | cons a l =>
    have e1 : (a :: l).all isSign = true := by
      rw [List.all_eq_true]; intro x hx; obtain ⟨i, hi, rfl⟩ := List.getElem_of_mem hx; exact h2 i hi hi
    have e2 : (a :: l).head?.any isLetter = true := by
      have := h3 (by simp) (by simp)
      simpa using this
    rw [e1, e2, h5 (by simp) (by simp), List.getLast?_eq_getElem?, List.getElem?_eq_getElem (by simp)]
    have e3 : ((some ((a :: l)[(a :: l).length - 1]) == some 45) : Bool) = ((((a :: l)[(a :: l).length - 1]).toNat : Int) == 45) := by
      generalize (a :: l)[(a :: l).length - 1] = b; have : (b = 45) ↔ ((b.toNat : Int) = 45) := ⟨fun e => by subst e; rfl, fun e => UInt8.toNat_inj.1 (by show b.toNat = 45; omega)⟩; by_cases hb : b = 45
      · subst hb; rfl
      · have h2 := mt this.2 hb; rw [show ((some b == some (45 : UInt8)) : Bool) = false from beq_eq_false_iff_ne.2 (fun e => hb (Option.some.inj e))]; exact (beq_eq_false_iff_ne.2 h2).symm
    rw [e3]; simp
set_option maxHeartbeats 8000000 in
set_option maxRecDepth 100000 in
theorem label_short.calls (a0 : ByteArray) (a1 : Int) (r : Bool) (w : World) (h : label_short.f a0 a1 = some r) :
    Calls Tryd.prog 71 #[.string a0, .int .i64 a1] w fun e w' => e = .returned (.bool r) ∧ Below w.heap.size w w' := by
  have hr : shortL a0.data.toList a1 = r := Option.some.inj h; clear h; go_enter Tryd.func71, Tryd.ntmps71; go_wp2; go_loopw [5] (fun n w' => ∃ (pos : Nat) (last : Int), w' = w.iter a0 pos ∧ n = .int .i32 last ∧ Hid (Soft a0.data.toList pos last)) (fun _ w' => a0.size - w'.iterPos w.heap.size)
  case atStart => exact ⟨0, 45, rfl, rfl, soft_zero _⟩
  case round =>
    obtain ⟨pos, last, rfl, rfl, hc⟩ := hrel; have hbel : ∀ p, Below w.heap.size w (w.iter a0 p) := fun p => (Below.refl _ w).alloc (Nat.le_refl _) _; by_cases hp : pos < a0.size
    · have hnx : ∀ ty, (Instr.next (.pointer (some ⟨w.heap.size, 0, none⟩)) true ty).run Tryd.prog (w.iter a0 pos) = _ := fun ty => run_next_any w a0 pos ty hp; have hpl : pos < a0.data.toList.length := hp; have hb : a0[pos]'hp = a0.data.toList[pos]'hpl := rfl; by_cases ha : (a0[pos]'hp).toNat < 128
      · rw [decode_ascii a0 pos hp ha] at hnx
        cases hs : isSign (a0[pos]'hp) with
        | false =>
          have hs' := isSign_int (a0[pos]'hp); rw [hs] at hs'; have hf := soft_bad a1 hpl (.inl (hb ▸ hs)); have hw := sign_walk ((a0[pos]'hp).toNat : Int); rw [hs'] at hw; go_wp2_with (go_at_call 83; refine (hw _).mono ?_; rintro e w' ⟨rfl, rfl⟩); go_wp2; go_ret; exact ⟨by rw [← hr, hf]; rfl, hbel _⟩
        | true => 
          have hs' := isSign_int (a0[pos]'hp); rw [hs] at hs'; have hw := sign_walk ((a0[pos]'hp).toNat : Int); rw [hs'] at hw; by_cases h0 : pos = 0
          · subst h0; have e0 : (w.iter a0 (0 + 1)) = w.iter a0 1 := rfl
            cases hl : isLetter (a0[0]'hp) with
            | false =>
              have hl' := isLetter_int (a0[0]'hp); rw [hl] at hl'; have hf := soft_bad a1 hpl (.inr ⟨rfl, hb ▸ hl⟩); have a3 := letter_walk ((a0[0]'hp).toNat : Int); rw [hl'] at a3; go_wp2_with (first | (go_at_call 83; refine (hw _).mono ?_; rintro e w' ⟨rfl, rfl⟩) | (go_at_call 84; refine (a3 _).mono ?_; rintro e w' ⟨rfl, rfl⟩)); go_wp2; go_ret; exact ⟨by rw [← hr, hf]; rfl, hbel _⟩
            | true =>
              have hl' := isLetter_int (a0[0]'hp); rw [hl] at hl'; have a3 := letter_walk ((a0[0]'hp).toNat : Int); rw [hl'] at a3; go_wp2_with (first | (go_at_call 83; refine (hw _).mono ?_; rintro e w' ⟨rfl, rfl⟩) | (go_at_call 84; refine (a3 _).mono ?_; rintro e w' ⟨rfl, rfl⟩)); go_wp2; go_roundw
              case rel => exact ⟨0 + 1, _, rfl, rfl, soft_step hc.out hpl (hb ▸ hs) (fun _ => hb ▸ hl)⟩
              case measure => simp; omega
          · have h0' : ((pos : Int) == 0) = false := beq_eq_false_iff_ne.2 (by omega); go_wp2_with (first | (go_at_call 83; refine (hw _).mono ?_; rintro e w' ⟨rfl, rfl⟩)); go_wp2; go_roundw
            case rel => exact ⟨pos + 1, _, rfl, rfl, soft_step hc.out hpl (hb ▸ hs) (fun h => absurd h h0)⟩
            case measure => simp; omega
      · have hd := (decode_high a0 pos hp (by omega)).1; have hw := sign_walk ((Utf8.decode a0 pos).1 : Int); rw [sign_high _ hd] at hw; have hf := soft_bad a1 hpl (.inl (hb ▸ not_sign_high (a0[pos]'hp) (by omega))); go_wp2_with (go_at_call 83; refine (hw _).mono ?_; rintro e w' ⟨rfl, rfl⟩); go_wp2; go_ret; exact ⟨by rw [← hr, hf]; rfl, hbel _⟩
    · have hnx : ∀ ty, (Instr.next (.pointer (some ⟨w.heap.size, 0, none⟩)) true ty).run Tryd.prog (w.iter a0 pos) = _ := fun ty => run_next_end w a0 pos ty hp; rw [soft_end a1 hc.out hp] at hr; by_cases a2 : last = 45
      · subst a2; go_wp2; go_ret; exact ⟨by rw [← hr]; rfl, hbel _⟩
      · rw [show (last == 45) = false from beq_eq_false_iff_ne.2 a2] at hr; (have hb1 : (last != 45) = true := by rw [bne, beq_eq_false_iff_ne.2 a2]; rfl); have hb2 : (last == 45) = false := beq_eq_false_iff_ne.2 a2; have hb3 : (last = 45) = False := eq_false a2; have hb4 : decide (last = 45) = false := decide_eq_false a2; go_wp2; go_ret; exact ⟨by rw [← hr]; rfl, hbel _⟩
end

section
/-! ### label_Name: function 70 -/
def label_Name.f (a0 : ByteArray) : Option (Bool) := (label_short.f a0 16).bind fun a1 => (some a1)
set_option maxHeartbeats 8000000 in
set_option maxRecDepth 100000 in
theorem label_Name.calls (a0 : ByteArray) (r : Bool) (w : World) (h : label_Name.f a0 = some r) :
    Calls Tryd.prog 70 #[.string a0] w fun e w' => e = .returned (.bool r) ∧ Below w.heap.size w w' := by
  have HB := Aside0.mk (Below.refl w.heap.size w); have H : ((label_short.f a0 16).bind fun a1 => (some a1)) = some r := h; clear h; replace H := Option.bind_eq_some_iff.mp H; obtain ⟨a1, a2, H⟩ := H
  (try dsimp only at H)
  have A2 := Aside0.mk a2; clear a2; obtain rfl := Option.some.inj H; go_enter Tryd.func70, Tryd.ntmps70; go_wp2_with (first | ((with_reducible refine gate_callee (f := 71) rfl ?_); refine goesL_ (some 4) rfl rfl Tryd.func71 (by kernel_rfl) rfl #[.string a0, .int .i64 16] rfl au1 ?_; (with_reducible refine (label_short.calls a0 16 a1 _ A2.out).mono ?_); rintro e w3 ⟨rfl, hb⟩; refine ⟨_, rfl, ?_⟩; have a3 := Aside0.mk (below_step (bw0 HB) hb); clear HB; have HB := a3; clear a3; (try clear hb); (try clear hb2); (try clear hk); (try clear hi))); go_ret; exact ⟨au3, bw0 HB⟩
end

section
/-! ### strconv_Itoa_91: function 91 -/
def strconv_Itoa_91.f (a0 : Int) : Option ByteArray := if -9223372036854775808 ≤ a0 ∧ a0 ≤ 9223372036854775807 then some ⟨(Lib.itoa a0).toArray⟩ else none
theorem strconv_Itoa_91.calls (a0 : Int) (r : ByteArray) (w : World) (hLd_ : Aside0 (LaidW w)) (h : strconv_Itoa_91.f a0 = some r) :
    Calls Tryd.prog 91 #[.int .i64 a0] w fun e w' => e = .returned (.string r) ∧ Below w.heap.size w w' := by
  unfold strconv_Itoa_91.f at h
  split at h
  · rename_i hb
    obtain rfl := Option.some.inj h; refine (Tryd.strconv_Itoa a0 hb.1 hb.2 w hLd_.out.1).mono ?_; rintro e w' ⟨rfl, k, os, rfl⟩; exact ⟨rfl, Lib.below_grow _ w (Nat.le_refl _) k os⟩
  · cases h

-- NOT PRINTED: function 102 (errors_New)

-- NOT PRINTED: function 97 (strconv_baseError)

-- NOT PRINTED: function 98 (strconv_bitSizeError)

-- NOT PRINTED: function 90 (strconv_toError)

-- NOT PRINTED: function 81 (strconv_Atoi_81)
end

section
/-! ### label_Rev: function 82 -/
def label_Rev.j0 : Nat → ByteArray → Int → Bool → Option (ByteArray)
  | 0, _, _, _ => none
  | k + 1, x0, x1, a1 => if a1 = true then (some (⟨#[]⟩ : ByteArray)) else (if x0.size + 1 ≤ 9223372036854775807 then ((strconv_Itoa_91.f x1).bind fun a0 => (if (x0 ++ (⟨#[45]⟩ : ByteArray)).size + a0.size ≤ 9223372036854775807 then (some ((x0 ++ (⟨#[45]⟩ : ByteArray)) ++ a0)) else (none))) else (none))
def label_Rev.f (k : Nat) (a0 : ByteArray) (a1 : Int) : Option (ByteArray) := (label_Name.f a0).bind fun a2 => (if a2 = true then (if a1 < 1 then (label_Rev.j0 k a0 a1 true) else (label_Rev.j0 k a0 a1 (decide (a1 > 999999)))) else (label_Rev.j0 k a0 a1 true))
set_option maxHeartbeats 8000000 in
set_option maxRecDepth 100000 in
theorem label_Rev.calls (k : Nat) (a0 : ByteArray) (a1 : Int) (r : ByteArray) (w : World) (hLd_ : Aside0 (LaidW w)) (h : label_Rev.f k a0 a1 = some r) :
    Calls Tryd.prog 82 #[.string a0, .int .i64 a1] w fun e w' => e = .returned (.string r) ∧ Below w.heap.size w w' := by
  have HB := Aside0.mk (Below.refl w.heap.size w); have H : ((label_Name.f a0).bind fun a8 => (if a8 = true then (if a1 < 1 then (label_Rev.j0 k a0 a1 true) else (label_Rev.j0 k a0 a1 (decide (a1 > 999999)))) else (label_Rev.j0 k a0 a1 true))) = some r := h; clear h; have a9 := Aside0.mk H; clear H; go_enter Tryd.func82, Tryd.ntmps82; go_upto_region 1 with (fail); go_cut [15] (fun b2 wc => ∃ (kq : Nat) (a6 : Bool), b2 = .bool a6 ∧ Aside0 (label_Rev.j0 kq a0 a1 a6 = some r) ∧ Aside0 (kq ≤ k) ∧ Aside0 (Below w.heap.size w wc))
  case first =>
    have H := a9.out; clear a9; replace H := Option.bind_eq_some_iff.mp H; obtain ⟨a8, b0, H⟩ := H
    (try dsimp only at H)
    have A4 := Aside0.mk b0; clear b0; by_cases c5 : a8 = true
    · subst c5; rw [if_pos rfl] at H; by_cases c6 : a1 < 1
      · rw [if_pos c6] at H; have c6b0 : decide (a1 < 1) = true := decide_eq_true c6; clear c6
        (first | rw [c6b0] | (simp only [i64_w, i32_w]; rw [c6b0]) | rw [c6b1] | skip)
        have H' := Aside0.mk H; clear H; go_wp2_with (first | ((with_reducible refine gate_callee (f := 70) rfl ?_); refine goesL_ (some 6) rfl rfl Tryd.func70 (by kernel_rfl) rfl #[.string a0] rfl au1 ?_; (with_reducible refine (label_Name.calls a0 true _ A4.out).mono ?_); rintro e w7 ⟨rfl, hb⟩; refine ⟨_, rfl, ?_⟩; have a2 := Aside0.mk (below_step (bw0 HB) hb); clear HB; have HB := a2; clear a2; (try clear hb); (try clear hb2); (try clear hk); (try clear hi))); go_meet
        case rel => exact ⟨_, (true), au4, H', ⟨au5⟩, ⟨bw0 HB⟩⟩
      · rw [if_neg c6] at H; have c6b0 : decide (a1 < 1) = false := decide_eq_false c6; clear c6
        (first | rw [c6b0] | (simp only [i64_w, i32_w]; rw [c6b0]) | rw [c6b1] | skip)
        have H' := Aside0.mk H; clear H; go_wp2_with (first | ((with_reducible refine gate_callee (f := 70) rfl ?_); refine goesL_ (some 6) rfl rfl Tryd.func70 (by kernel_rfl) rfl #[.string a0] rfl au1 ?_; (with_reducible refine (label_Name.calls a0 true _ A4.out).mono ?_); rintro e w8 ⟨rfl, hb⟩; refine ⟨_, rfl, ?_⟩; have a2 := Aside0.mk (below_step (bw0 HB) hb); clear HB; have HB := a2; clear a2; (try clear hb); (try clear hb2); (try clear hk); (try clear hi))); go_meet
        case rel => exact ⟨_, (decide (a1 > 999999)), au4, H', ⟨au5⟩, ⟨bw0 HB⟩⟩
    · replace c5 := Bool.eq_false_iff.mpr c5; subst c5; rw [if_neg (show ¬ (false = true) by decide)] at H; have H' := Aside0.mk H; clear H; go_wp2_with (first | ((with_reducible refine gate_callee (f := 70) rfl ?_); refine goesL_ (some 6) rfl rfl Tryd.func70 (by kernel_rfl) rfl #[.string a0] rfl au1 ?_; (with_reducible refine (label_Name.calls a0 false _ A4.out).mono ?_); rintro e w9 ⟨rfl, hb⟩; refine ⟨_, rfl, ?_⟩; have a2 := Aside0.mk (below_step (bw0 HB) hb); clear HB; have HB := a2; clear a2; (try clear hb); (try clear hb2); (try clear hk); (try clear hi))); go_meet
      case rel => exact ⟨_, (true), au4, H', ⟨au5⟩, ⟨bw0 HB⟩⟩
  case rest =>
    clear a9; obtain ⟨kq, a6, rfl, HA, HJ2, HB⟩ := hcut
    cases kq with
    | zero => exact absurd HA.out (by simp [label_Rev.j0])
    | succ kj2 =>
      have H := HA.out; clear HA; simp only [label_Rev.j0] at H; by_cases a7 : a6 = true
      · subst a7; rw [if_pos rfl] at H; obtain rfl := Option.some.inj H; go_wp2; go_ret; exact ⟨au3, bw0 HB⟩
      · replace a7 := Bool.eq_false_iff.mpr a7; subst a7; rw [if_neg (show ¬ (false = true) by decide)] at H; by_cases a4 : a0.size + 1 ≤ 9223372036854775807; rotate_left
        · rw [if_neg a4] at H; exact absurd H (by simp)
        rw [if_pos a4] at H; have c11b0 := eq_true a4; have c11b1 : decide (a0.size + 1 ≤ 9223372036854775807) = true := decide_eq_true a4; (try have c11b2 : (9223372036854775807 < a0.size + 1) = False := eq_false (Nat.not_lt.2 a4)); (try (have c11b4 := a4; simp at c11b4; have c11b5 := eq_false (Nat.not_lt.2 c11b4))); replace H := Option.bind_eq_some_iff.mp H; obtain ⟨a5, b1, H⟩ := H
        (try dsimp only at H)
        have b3 := Aside0.mk b1; clear b1; by_cases a3 : (a0 ++ (⟨#[45]⟩ : ByteArray)).size + a5.size ≤ 9223372036854775807; rotate_left
        · rw [if_neg a3] at H; exact absurd H (by simp)
        rw [if_pos a3] at H; have c13b0 := eq_true a3; have c13b1 : decide ((a0 ++ (⟨#[45]⟩ : ByteArray)).size + a5.size ≤ 9223372036854775807) = true := decide_eq_true a3; (try have c13b3 : (9223372036854775807 < a0.size + 1 + a5.size) = False := eq_false (by have h_ := a3; simp only [ByteArray.size_append] at h_; exact Nat.not_lt.2 h_)); (try have c13b2 : (9223372036854775807 < (a0 ++ (⟨#[45]⟩ : ByteArray)).size + a5.size) = False := eq_false (Nat.not_lt.2 a3)); (try (have c13b4 := a3; simp at c13b4; have c13b5 := eq_false (Nat.not_lt.2 c13b4))); obtain rfl := Option.some.inj H; go_wp2_with (first | ((with_reducible refine gate_callee (f := 91) rfl ?_); refine goesL_ (some 19) rfl rfl Tryd.func91 (by kernel_rfl) rfl #[.int .i64 a1] rfl au1 ?_; (with_reducible refine (strconv_Itoa_91.calls a1 a5 _ ?side1 b3.out).mono ?_); (case side1 => first | exact hLd_.out | exact hLd_ | exact ⟨LaidW.below hLd_.out (bw0 HB)⟩ | exact ⟨LaidW.below hLd_.out (by repeat (first | exact Below.refl _ _ | apply below_alloc | apply pw_below_drewN | apply below_drew1))⟩); rintro e w14 ⟨rfl, hb⟩; refine ⟨_, rfl, ?_⟩; have a2 := Aside0.mk (below_step (bw0 HB) hb); clear HB; have HB := a2; clear a2; (try clear hb); (try clear hb2); (try clear hk); (try clear hi))); go_ret; exact ⟨au3, bw0 HB⟩
end

section
/-! ### label_Split: function 69 -/
/-- How label.Split parts a text: at the last '-'; behind it a number, of which Rev makes the same text. -/
def splitAt (s : ByteArray) (i : Nat) : Option (ByteArray × Int × Bool) :=
  match Lib.atoiAll (s.extract (i + 1) s.size).data.toList with
  | .ok v => (label_Rev.f 1 (s.extract 0 i) v).bind fun r => if r.toList = s.toList then some (s.extract 0 i, v, true) else some (⟨#[]⟩, 0, false)
  | _ => some (⟨#[]⟩, 0, false)
def label_Split.f (a0 : ByteArray) : Option (ByteArray × Int × Bool) :=
  if a0.size ≤ 140737488351232 then
    if Lib.lastIndexByte a0 45 < 0 then some (⟨#[]⟩, 0, false) else splitAt a0 (Lib.lastIndexByte a0 45).toNat
  else none
theorem last_bounds (s : ByteArray) (h : ¬ Lib.lastIndexByte s 45 < 0) : ∃ i : Nat, i < s.size ∧ Lib.lastIndexByte s 45 = (i : Int) := by
  rcases Lib.lastIdx_spec s 45 s.size with ⟨e, _⟩ | ⟨i, hi, e, _⟩
  · exact absurd (show Lib.lastIndexByte s 45 < 0 by unfold Lib.lastIndexByte; omega) h
  · exact ⟨i, hi, e⟩
theorem atoi_world {w w' : World} (h : w' = w ∨ ∃ t, w' = Lib.bytesWorld w 5 t) : Below w.heap.size w w' := by
  rcases h with rfl | ⟨t, rfl⟩
  · exact Below.refl _ _
  · exact Lib.bytesWorld_below _ _ _
set_option maxHeartbeats 8000000 in
set_option maxRecDepth 100000 in
theorem label_Split.calls (a0 : ByteArray) (r1 : ByteArray) (r2 : Int) (r3 : Bool) (w : World) (hLd_ : Aside0 (LaidW w)) (h : label_Split.f a0 = some (r1, r2, r3)) :
    Calls Tryd.prog 69 #[.string a0] w fun e w' => e = .returned (.tuple #[.string r1, .int .i64 r2, .bool r3]) ∧ Below w.heap.size w w' := by
  unfold label_Split.f at h; by_cases hsz : a0.size ≤ 140737488351232
  case neg => rw [if_neg hsz] at h; cases h
  rw [if_pos hsz] at h; have hLI := Tryd.strings_LastIndex_one a0 ⟨#[45]⟩ rfl (by omega) w; have hLI : Calls Tryd.prog 80 #[.string a0, .string ⟨#[45]⟩] w fun e w' => e = .returned (.int .i64 (Lib.lastIndexByte a0 45)) ∧ w' = w := hLI; by_cases hneg : Lib.lastIndexByte a0 45 < 0
  · rw [if_pos hneg] at h; (obtain ⟨rfl, rfl, rfl⟩ : (⟨#[]⟩ : ByteArray) = r1 ∧ (0 : Int) = r2 ∧ false = r3 := by injection h with h; injection h with h1 h2; injection h2 with h2 h3; exact ⟨h1, h2, h3⟩); generalize Lib.lastIndexByte a0 45 = li at hLI hneg; have hn1 : decide (li < 0) = true := decide_eq_true hneg; go_enter Tryd.func69, Tryd.ntmps69; go_wp2_with (go_at_call 80; refine hLI.mono ?_; rintro e w' ⟨rfl, rfl⟩); go_wp2; go_ret3; exact ⟨rfl, Below.refl _ _⟩
  · rw [if_neg hneg] at h; obtain ⟨i, hi, e⟩ := last_bounds a0 hneg; rw [e] at hLI h hneg; clear hneg e; rw [show ((i : Nat) : Int).toNat = i from rfl] at h; unfold splitAt at h; generalize hT : a0.extract (i + 1) a0.size = t at h; (have htsz : t.size ≤ 140737488351232 := by rw [← hT]; simp; omega); have hA : (Tryd.prog.funcs.size = Tryd.prog.funcs.size) := rfl
    have hi1 : (IntKind.i64.wrap ((i : Int) + 1)) = ((i + 1 : Nat) : Int) := by
      rw [i64_w]; unfold wrap64; omega
    have hng : decide ((i : Int) < 0) = false := decide_eq_false (by omega); have g1 : decide ((i : Int) + 1 ≤ (a0.size : Int)) = true := decide_eq_true (by omega); have g2 : decide ((0 : Int) ≤ (i : Int) + 1) = true := decide_eq_true (by omega); rcases hE : Lib.atoiAll t.data.toList with v | _ | _
    · rw [hE] at h; obtain ⟨rr, hR, h⟩ := Option.bind_eq_some_iff.mp h; have hAt := Tryd.strconv_Atoi_ok t (by omega) v hE; by_cases hq : rr.toList = a0.toList
      · rw [if_pos hq] at h; (obtain ⟨rfl, rfl, rfl⟩ : a0.extract 0 i = r1 ∧ v = r2 ∧ true = r3 := by injection h with h; injection h with h1 h2; injection h2 with h2 h3; exact ⟨h1, h2, h3⟩); (have a3 : (rr.toList != a0.toList) = false := by rw [hq]; simp); have a4 : (rr.toList = a0.toList) = True := eq_true hq; (have a5 : (rr.toList == a0.toList) = true := by rw [hq]; simp); go_enter Tryd.func69, Tryd.ntmps69; go_wp2_with (first | (go_at_call 80; refine hLI.mono ?_; rintro e w' ⟨rfl, rfl⟩) | (go_at_call 81; refine (hAt _).mono ?_; rintro e w1 ⟨rfl, hW⟩; have a1 := atoi_world hW; clear hW) | (go_at_call 82; refine (label_Rev.calls 1 (a0.extract 0 i) v rr _ ⟨hLd_.out.below a1⟩ hR).mono ?_; rintro e w2 ⟨rfl, a2⟩)); go_wp2; go_ret3; exact ⟨rfl, a1.trans (a2.mono a1.size)⟩
      · rw [if_neg hq] at h; (obtain ⟨rfl, rfl, rfl⟩ : (⟨#[]⟩ : ByteArray) = r1 ∧ (0 : Int) = r2 ∧ false = r3 := by injection h with h; injection h with h1 h2; injection h2 with h2 h3; exact ⟨h1, h2, h3⟩); (have a3 : (rr.toList != a0.toList) = true := by simpa using hq); have a4 : (rr.toList = a0.toList) = False := eq_false hq; (have a5 : (rr.toList == a0.toList) = false := by simpa using hq); go_enter Tryd.func69, Tryd.ntmps69; go_wp2_with (first | (go_at_call 80; refine hLI.mono ?_; rintro e w' ⟨rfl, rfl⟩) | (go_at_call 81; refine (hAt _).mono ?_; rintro e w1 ⟨rfl, hW⟩; have a1 := atoi_world hW; clear hW) | (go_at_call 82; refine (label_Rev.calls 1 (a0.extract 0 i) v rr _ ⟨hLd_.out.below a1⟩ hR).mono ?_; rintro e w2 ⟨rfl, a2⟩)); go_wp2; go_ret3; exact ⟨rfl, a1.trans (a2.mono a1.size)⟩
    · rw [hE] at h; (obtain ⟨rfl, rfl, rfl⟩ : (⟨#[]⟩ : ByteArray) = r1 ∧ (0 : Int) = r2 ∧ false = r3 := by injection h with h; injection h with h1 h2; injection h2 with h2 h3; exact ⟨h1, h2, h3⟩); obtain ⟨_, ⟨tp, p, hvar⟩, _⟩ := hLd_.out; have hAt := Any.strconv_Atoi_syntax_var Tryd.laysC172 t (by omega) hE tp p w hvar; clear hvar; go_enter Tryd.func69, Tryd.ntmps69; go_wp2_with (first | (go_at_call 80; refine hLI.mono ?_; rintro e w' ⟨rfl, rfl⟩) | (go_at_call 81; refine hAt.mono ?_; rintro e w1 ⟨N, rfl, _, _, a1⟩)); go_wp2; go_ret3; exact ⟨rfl, a1⟩
    · rw [hE] at h; (obtain ⟨rfl, rfl, rfl⟩ : (⟨#[]⟩ : ByteArray) = r1 ∧ (0 : Int) = r2 ∧ false = r3 := by injection h with h; injection h with h1 h2; injection h2 with h2 h3; exact ⟨h1, h2, h3⟩); obtain ⟨_, _, ⟨tp, p, hvar⟩⟩ := hLd_.out; have hAt := Any.strconv_Atoi_range_var Tryd.laysC172 t (by omega) hE tp p w hvar; clear hvar; go_enter Tryd.func69, Tryd.ntmps69; go_wp2_with (first | (go_at_call 80; refine hLI.mono ?_; rintro e w' ⟨rfl, rfl⟩) | (go_at_call 81; refine hAt.mono ?_; rintro e w1 ⟨N, rfl, _, _, a1⟩)); go_wp2; go_ret3; exact ⟨rfl, a1⟩
end

section
/-! ### event_named: function 36 -/
def event_named.j0 : Nat → Bool → Int → ByteArray → ByteArray → Int → Int → ByteArray → Int → Int → Int → Int → Int → ByteArray → ByteArray → List (S39) → Int → Option (Bool)
  | 0, _, _, _, _, _, _, _, _, _, _, _, _, _, _, _, _ => none
  | k + 1, a1, a4, a0, a5, a6, a7, a8, a9, b0, b1, b2, b3, b4, b5, b6, b7 => if a1 = true then ((label_Split.f a0).bind fun a2 => (some a2.2.2)) else ((label_Name.f a0).bind fun a3 => (some a3))
def event_named.f (k : Nat) (a0 : Int) (a1 : ByteArray) (a2 : ByteArray) (a3 : Int) (a4 : Int) (a5 : ByteArray) (a6 : Int) (a7 : Int) (a8 : Int) (a9 : Int) (b0 : Int) (b1 : ByteArray) (b2 : ByteArray) (b3 : List (S39)) (b4 : Int) : Option (Bool) := if a0 = 12 then (event_named.j0 k true a0 a1 a2 a3 a4 a5 a6 a7 a8 a9 b0 b1 b2 b3 b4) else (event_named.j0 k (a0 == 13) a0 a1 a2 a3 a4 a5 a6 a7 a8 a9 b0 b1 b2 b3 b4)
set_option maxHeartbeats 8000000 in
set_option maxRecDepth 100000 in
theorem event_named.calls (k : Nat) (a1 : Int) (a2 : ByteArray) (a6 : ByteArray) (a7 : Int) (a8 : Int) (a9 : ByteArray) (b0 : Int) (b1 : Int) (b2 : Int) (b3 : Int) (b4 : Int) (b5 : ByteArray) (b6 : ByteArray) (c0 : Option Addr) (c1 : Nat) (a3 : List (S39)) (b7 : Int) (r : Bool) (w : World) (hLd_ : Aside0 (LaidW w)) (c5 : Kd.C k39 w c0 a3.length a3) (c6 : a3.length ≤ c1) (h : event_named.f k a1 a2 a6 a7 a8 a9 b0 b1 b2 b3 b4 b5 b6 a3 b7 = some r) :
    Calls Tryd.prog 36 #[.agg (eV a1 a2 a6 a7 a8 a9 b0 b1 b2 b3 b4 b5 b6 (.slice c0 a3.length c1) b7)] w fun e w' => e = .returned (.bool r) ∧ Below w.heap.size w w' := by
  have hu28 := Tryd.underlying28; have d8 := Aside0.mk c5; have d9 := Aside0.mk c6; clear c5 c6; have HB := Aside0.mk (Below.refl w.heap.size w); have H : (if a1 = 12 then (event_named.j0 k true a1 a2 a6 a7 a8 a9 b0 b1 b2 b3 b4 b5 b6 a3 b7) else (event_named.j0 k (a1 == 13) a1 a2 a6 a7 a8 a9 b0 b1 b2 b3 b4 b5 b6 a3 b7)) = some r := h; clear h; have c3 := Aside0.mk H; clear H; go_enter Tryd.func36, Tryd.ntmps36; go_upto_region 1 with (first | ((with_reducible refine gate_dst (N := 1) rfl ?_); refine box_event ?hg (N := 1) ?hd (cs := (eV a1 a2 a6 a7 a8 a9 b0 b1 b2 b3 b4 b5 b6 (.slice c0 a3.length c1) b7)) (t := 28) ?hr ?_; (case hd => rfl); (case hg => rfl); (case hr => first | (go_simp; done) | (go_simp; rfl)); intro b9 hg w3 hbox hb; have a4 := Aside0.mk (below_step (bw0 HB) hb); have a5 := Aside0.mk (hbox); have c8 := Aside0.mk ((by rw [hg]; exact (below_size (bw0 HB)) : w.heap.size ≤ b9)); have c9 := Aside0.mk ((by rw [hg]; exact (below_size (bw0 HB)) : w.heap.size ≤ b9)); clear HB; have HB := a4; have a0 := a5; have e5 := c8; have b8 := c9; clear a4 a5 c8 c9; clear hb hbox hg))
  (try simp only [Act.put, List.setIfInBounds_toArray, List.set_cons_zero, List.set_cons_succ])
  go_cut [13] (fun d2 wc => ∃ (kq : Nat) (c2 : Bool), d2 = .bool c2 ∧ Aside0 (event_named.j0 kq c2 a1 a2 a6 a7 a8 a9 b0 b1 b2 b3 b4 b5 b6 a3 b7 = some r) ∧ Aside0 (kq ≤ k) ∧ Aside0 (wc.heap[b9]? = some (.cells (eV a1 a2 a6 a7 a8 a9 b0 b1 b2 b3 b4 b5 b6 (.slice c0 a3.length c1) b7) 28 (0, 0))) ∧ Aside0 (Below w.heap.size w wc))
  case first =>
    have H := c3.out; clear c3; by_cases c4 : a1 = 12
    · rw [if_pos c4] at H; have c4b0 : (a1 == 12) = true := beq_iff_eq.mpr c4; have c4b1 : (a1 != 12) = false := bne_eq_false_iff_eq.mpr c4; clear c4
      (first | rw [c4b0] | (simp only [i64_w, i32_w]; rw [c4b0]) | rw [c4b1] | skip)
      have H' := Aside0.mk H; clear H; obtain ⟨e6, e7, e8, e9, f0, f1, f2, f3, f4, f5, f6, f7, f8, f9, g0⟩ := cz15 a0; obtain ⟨g1, g2, g3, g4, g5, g6, g7, g8, g9, h0, h1, h2, h3, h4, h5⟩ := fz15 a0; go_wp2; go_meet
      case rel => exact ⟨_, (true), au4, H', ⟨au5⟩, ⟨pq a0⟩, ⟨bw1 HB b8⟩⟩
    · rw [if_neg c4] at H; have c4b0 : (a1 == 12) = false := beq_eq_false_iff_ne.mpr c4; have c4b1 : (a1 != 12) = true := bne_iff_ne.mpr c4
      (first | rw [c4b0] | (simp only [i64_w, i32_w]; rw [c4b0]) | rw [c4b1] | skip)
      have H' := Aside0.mk H; clear H; obtain ⟨h6, h7, h8, h9, i0, i1, i2, i3, i4, i5, i6, i7, i8, i9, j1⟩ := cz15 a0; obtain ⟨j2, j3, j4, j5, j6, j7, j8, j9, k0, k1, k2, k3, k4, k5, k6⟩ := fz15 a0; go_wp2; go_meet
      case rel => exact ⟨_, ((a1 == 13)), au4, H', ⟨au5⟩, ⟨pq a0⟩, ⟨bw1 HB b8⟩⟩
  case rest =>
    clear c3; obtain ⟨kq, c2, rfl, HA, HJ1, a0, HB⟩ := hcut
    cases kq with
    | zero => exact absurd HA.out (by simp [event_named.j0])
    | succ kj1 =>
      have H := HA.out; clear HA; simp only [event_named.j0] at H; by_cases c7 : c2 = true
      · subst c7; rw [if_pos rfl] at H; replace H := Option.bind_eq_some_iff.mp H; obtain ⟨⟨d3, d4, d5⟩, d0, H⟩ := H
        (try dsimp only at H)
        have A8 := Aside0.mk d0; clear d0; obtain rfl := Option.some.inj H; obtain ⟨k7, k8, k9, l0, l1, l2, l3, l4, l5, l6, l7, l8, l9, m0, m1⟩ := cz15 a0; obtain ⟨m2, m3, m4, m5, m6, m7, m8, m9, n0, n1, n2, n3, n4, n5, n6⟩ := fz15 a0; go_wp2_with (first | ((with_reducible refine gate_callee (f := 69) rfl ?_); refine goesL_ (some 17) rfl rfl Tryd.func69 (by kernel_rfl) rfl #[.string a2] rfl au1 ?_; (with_reducible refine (label_Split.calls a2 d3 d4 d5 _ ?side1 A8.out).mono ?_); (case side1 => first | exact hLd_.out | exact hLd_ | exact ⟨LaidW.below hLd_.out (bw1 HB b8)⟩ | exact ⟨LaidW.below hLd_.out (by repeat (first | exact Below.refl _ _ | apply below_alloc | apply pw_below_drewN | apply below_drew1))⟩); rintro e w10 ⟨rfl, hb⟩; refine ⟨_, rfl, ?_⟩; have a4 := Aside0.mk (blk_below (g := b9) (pk a0) hb); have a5 := Aside0.mk (below_step (bw1 HB b8) hb); clear a0; clear HB; have a0 := a4; have HB := a5; clear a4 a5; (try clear hb); (try clear hb2); (try clear hk); (try clear hi))); go_ret; exact ⟨au3, bw1 HB b8⟩
      · replace c7 := Bool.eq_false_iff.mpr c7; subst c7; rw [if_neg (show ¬ (false = true) by decide)] at H; replace H := Option.bind_eq_some_iff.mp H; obtain ⟨d6, d1, H⟩ := H
        (try dsimp only at H)
        have d7 := Aside0.mk d1; clear d1; obtain rfl := Option.some.inj H; obtain ⟨n7, n8, n9, o0, o1, o2, o3, o4, o5, o6, o7, o8, o9, p0, p1⟩ := cz15 a0; obtain ⟨p2, p3, p4, p5, p6, p7, p8, p9, q0, q1, q2, q3, q4, q5, q6⟩ := fz15 a0; go_wp2_with (first | ((with_reducible refine gate_callee (f := 70) rfl ?_); refine goesL_ (some 24) rfl rfl Tryd.func70 (by kernel_rfl) rfl #[.string a2] rfl au1 ?_; (with_reducible refine (label_Name.calls a2 d6 _ d7.out).mono ?_); rintro e w13 ⟨rfl, hb⟩; refine ⟨_, rfl, ?_⟩; have a4 := Aside0.mk (blk_below (g := b9) (pk a0) hb); have a5 := Aside0.mk (below_step (bw1 HB b8) hb); clear a0; clear HB; have a0 := a4; have HB := a5; clear a4 a5; (try clear hb); (try clear hb2); (try clear hk); (try clear hi))); go_ret; exact ⟨au3, bw1 HB b8⟩
end

section
/-! ### label_Tag: function 37 -/
def label_Tag.f (a0 : ByteArray) : Option (Bool) := (label_short.f a0 8).bind fun a1 => (some a1)
set_option maxHeartbeats 8000000 in
set_option maxRecDepth 100000 in
theorem label_Tag.calls (a0 : ByteArray) (r : Bool) (w : World) (h : label_Tag.f a0 = some r) :
    Calls Tryd.prog 37 #[.string a0] w fun e w' => e = .returned (.bool r) ∧ Below w.heap.size w w' := by
  have HB := Aside0.mk (Below.refl w.heap.size w); have H : ((label_short.f a0 8).bind fun a1 => (some a1)) = some r := h; clear h; replace H := Option.bind_eq_some_iff.mp H; obtain ⟨a1, a2, H⟩ := H
  (try dsimp only at H)
  have A2 := Aside0.mk a2; clear a2; obtain rfl := Option.some.inj H; go_enter Tryd.func37, Tryd.ntmps37; go_wp2_with (first | ((with_reducible refine gate_callee (f := 71) rfl ?_); refine goesL_ (some 4) rfl rfl Tryd.func71 (by kernel_rfl) rfl #[.string a0, .int .i64 8] rfl au1 ?_; (with_reducible refine (label_short.calls a0 8 a1 _ A2.out).mono ?_); rintro e w3 ⟨rfl, hb⟩; refine ⟨_, rfl, ?_⟩; have a3 := Aside0.mk (below_step (bw0 HB) hb); clear HB; have HB := a3; clear a3; (try clear hb); (try clear hb2); (try clear hk); (try clear hi))); go_ret; exact ⟨au3, bw0 HB⟩
end

section
/-! ### spec_span_has: function 72 -/
def spec_span_has.f (a0 : Int) (a2 : Int) (a1 : Int) : Option (Bool) := if a1 ≥ a0 then (some (decide (a1 ≤ a2))) else (some false)
set_option maxHeartbeats 8000000 in
set_option maxRecDepth 100000 in
theorem spec_span_has.calls (a0 : Int) (a2 : Int) (a1 : Int) (r : Bool) (w : World) (h : spec_span_has.f a0 a2 a1 = some r) :
    Calls Tryd.prog 72 #[.agg #[.int .i64 a0, .int .i64 a2], .int .i64 a1] w fun e w' => e = .returned (.bool r) ∧ Below w.heap.size w w' := by
  have b1 := Tryd.underlying107; have HB := Aside0.mk (Below.refl w.heap.size w); have H : (if a1 ≥ a0 then (some (decide (a1 ≤ a2))) else (some false)) = some r := h; clear h; by_cases c3 : a1 ≥ a0
  · rw [if_pos c3] at H; have c3b0 : decide (a0 ≤ a1) = true := decide_eq_true c3; clear c3; obtain rfl := Option.some.inj H; go_enter Tryd.func72, Tryd.ntmps72; go_wp2_with (first | ((with_reducible refine gate_dst (N := 2) rfl ?_); refine box_event ?hg (N := 2) ?hd (cs := #[.int .i64 a0, .int .i64 a2]) (t := 107) ?hr ?_; (case hd => rfl); (case hg => rfl); (case hr => first | (go_simp; done) | (go_simp; rfl)); intro a3 hg w4 hbox hb; have a4 := Aside0.mk (below_step (bw0 HB) hb); have a5 := Aside0.mk (hbox); have a6 := Aside0.mk ((by rw [hg]; exact (below_size (bw0 HB)) : w.heap.size ≤ a3)); have a7 := Aside0.mk ((by rw [hg]; exact (below_size (bw0 HB)) : w.heap.size ≤ a3)); clear HB; have HB := a4; have a8 := a5; have b0 := a6; have a9 := a7; clear a4 a5 a6 a7; clear hb hbox hg; obtain ⟨b2, b3⟩ := cz2 a8; obtain ⟨b4, b5⟩ := fz2 a8)); go_ret; exact ⟨au3, bw1 HB a9⟩
  · rw [if_neg c3] at H; have c3b0 : decide (a0 ≤ a1) = false := decide_eq_false c3; clear c3; obtain rfl := Option.some.inj H; go_enter Tryd.func72, Tryd.ntmps72; go_wp2_with (first | ((with_reducible refine gate_dst (N := 2) rfl ?_); refine box_event ?hg (N := 2) ?hd (cs := #[.int .i64 a0, .int .i64 a2]) (t := 107) ?hr ?_; (case hd => rfl); (case hg => rfl); (case hr => first | (go_simp; done) | (go_simp; rfl)); intro a3 hg w6 hbox hb; have a4 := Aside0.mk (below_step (bw0 HB) hb); have a5 := Aside0.mk (hbox); have a6 := Aside0.mk ((by rw [hg]; exact (below_size (bw0 HB)) : w.heap.size ≤ a3)); have a7 := Aside0.mk ((by rw [hg]; exact (below_size (bw0 HB)) : w.heap.size ≤ a3)); clear HB; have HB := a4; have a8 := a5; have b0 := a6; have a9 := a7; clear a4 a5 a6 a7; clear hb hbox hg; obtain ⟨b6, b7⟩ := cz2 a8; obtain ⟨b8, b9⟩ := fz2 a8)); go_ret; exact ⟨au3, bw1 HB a9⟩
end

section
/-! ### spec_Config: function 39 -/
def spec_Config.j0 : Nat → Bool → Option (Int)
  | 0, _ => none
  | k + 1, x8 => if x8 = true then (some 2) else (some 0)
def spec_Config.f (k : Nat) (a5 : ByteArray) (a6 : Int) (a7 : Int) (a8 : Int) (a0 : Int) (a9 : Int) : Option (Int) := (label_Name.f a5).bind fun b0 => (if b0 = true then ((spec_span_has.f 0 255 a6).bind fun a1 => (if a1 = true then ((spec_span_has.f 1 8 a7).bind fun a2 => (if a2 = true then ((spec_span_has.f 1 10 a0).bind fun a3 => (if a3 = true then ((spec_span_has.f 0 a0 a8).bind fun a4 => (if a4 = true then ((spec_span_has.f 0 30 a9).bind fun b1 => (spec_Config.j0 k (!b1))) else (spec_Config.j0 k (!a4)))) else (spec_Config.j0 k (!a3)))) else (spec_Config.j0 k (!a2)))) else (spec_Config.j0 k (!a1)))) else (some 1))
set_option maxHeartbeats 8000000 in
set_option maxRecDepth 100000 in
theorem spec_Config.calls (k : Nat) (a7 : ByteArray) (a9 : Int) (a6 : Int) (a8 : Int) (a5 : Int) (b0 : Int) (r : Int) (w : World) (h : spec_Config.f k a7 a9 a6 a8 a5 b0 = some r) :
    Calls Tryd.prog 39 #[.agg #[.string a7, .int .i64 a9, .int .i64 a6, .int .i64 a8, .int .i64 a5, .int .i64 b0]] w fun e w' => e = .returned (.int .i64 r) ∧ Below w.heap.size w w' := by
  have hu23 := Tryd.underlying23; have g7 := Tryd.underlying107; have HB := Aside0.mk (Below.refl w.heap.size w); have H : ((label_Name.f a7).bind fun c6 => (if c6 = true then ((spec_span_has.f 0 255 a9).bind fun b1 => (if b1 = true then ((spec_span_has.f 1 8 a6).bind fun b4 => (if b4 = true then ((spec_span_has.f 1 10 a5).bind fun b5 => (if b5 = true then ((spec_span_has.f 0 a5 a8).bind fun b6 => (if b6 = true then ((spec_span_has.f 0 30 b0).bind fun b7 => (spec_Config.j0 k (!b7))) else (spec_Config.j0 k (!b6)))) else (spec_Config.j0 k (!b5)))) else (spec_Config.j0 k (!b4)))) else (spec_Config.j0 k (!b1)))) else (some 1))) = some r := h; clear h; replace H := Option.bind_eq_some_iff.mp H; obtain ⟨c6, c9, H⟩ := H
  (try dsimp only at H)
  have A2 := Aside0.mk c9; clear c9; by_cases c3 : c6 = true
  · subst c3; rw [if_pos rfl] at H; replace H := Option.bind_eq_some_iff.mp H; obtain ⟨b1, d0, H⟩ := H
    (try dsimp only at H)
    have A4 := Aside0.mk d0; clear d0; have c7 := Aside0.mk H; clear H; go_enter Tryd.func39, Tryd.ntmps39; go_upto_if 8 with (first | ((with_reducible refine gate_dst (N := 1) rfl ?_); refine box_event ?hg (N := 1) ?hd (cs := #[.string a7, .int .i64 a9, .int .i64 a6, .int .i64 a8, .int .i64 a5, .int .i64 b0]) (t := 23) ?hr ?_; (case hd => rfl); (case hg => rfl); (case hr => first | (go_simp; done) | (go_simp; rfl)); intro a4 hg w6 hbox hb; have a1 := Aside0.mk (below_step (bw0 HB) hb); have a2 := Aside0.mk (hbox); have b2 := Aside0.mk ((by rw [hg]; exact (below_size (bw0 HB)) : w.heap.size ≤ a4)); have b3 := Aside0.mk ((by rw [hg]; exact (below_size (bw0 HB)) : w.heap.size ≤ a4)); clear HB; have HB := a1; have a0 := a2; have d6 := b2; have a3 := b3; clear a1 a2 b2 b3; clear hb hbox hg; obtain ⟨d7, d8, d9, e5, e6, e7⟩ := cz6 a0; obtain ⟨e8, e9, f0, f1, f2, f3⟩ := fz6 a0) | ((with_reducible refine gate_callee (f := 70) rfl ?_); refine goesL_ (some 6) rfl rfl Tryd.func70 (by kernel_rfl) rfl #[.string a7] rfl au1 ?_; (with_reducible refine (label_Name.calls a7 true _ A2.out).mono ?_); rintro e w8 ⟨rfl, hb⟩; refine ⟨_, rfl, ?_⟩; have a1 := Aside0.mk (blk_below (g := a4) (pk a0) hb); have a2 := Aside0.mk (below_step (bw1 HB a3) hb); clear a0; clear HB; have a0 := a1; have HB := a2; clear a1 a2; (try clear hb); (try clear hb2); (try clear hk); (try clear hi); obtain ⟨f4, f5, f6, f7, f8, f9⟩ := cz6 a0; obtain ⟨g0, g1, g2, g3, g4, g5⟩ := fz6 a0) | ((with_reducible refine gate_callee (f := 72) rfl ?_); refine goesL_ (some 12) rfl rfl Tryd.func72 (by kernel_rfl) rfl #[.agg #[.int .i64 0, .int .i64 255], .int .i64 a9] rfl au1 ?_; (with_reducible refine (spec_span_has.calls 0 255 a9 b1 _ A4.out).mono ?_); rintro e w10 ⟨rfl, hb⟩; refine ⟨_, rfl, ?_⟩; have a1 := Aside0.mk (blk_below (g := a4) (pk a0) hb); have a2 := Aside0.mk (below_step (bw1 HB a3) hb); clear a0; clear HB; have a0 := a1; have HB := a2; clear a1 a2; (try clear hb); (try clear hb2); (try clear hk); (try clear hi)))
    (try simp only [Act.put, List.setIfInBounds_toArray, List.set_cons_zero, List.set_cons_succ])
    go_cut [8] (fun v8 wc => ∃ (kq : Nat) (b8 : Bool), v8 = .bool b8 ∧ Aside0 (spec_Config.j0 kq b8 = some r) ∧ Aside0 (kq ≤ k) ∧ Aside0 (wc.heap[a4]? = some (.cells #[.string a7, .int .i64 a9, .int .i64 a6, .int .i64 a8, .int .i64 a5, .int .i64 b0] 23 (0, 0))) ∧ Aside0 (Below w.heap.size w wc))
    case first =>
      have H := c7.out; clear c7; by_cases b9 : b1 = true
      · subst b9; rw [if_pos rfl] at H; replace H := Option.bind_eq_some_iff.mp H; obtain ⟨b4, d1, H⟩ := H
        (try dsimp only at H)
        have c0 := Aside0.mk d1; clear d1; by_cases c1 : b4 = true
        · subst c1; rw [if_pos rfl] at H; replace H := Option.bind_eq_some_iff.mp H; obtain ⟨b5, d2, H⟩ := H
          (try dsimp only at H)
          have c8 := Aside0.mk d2; clear d2; by_cases c2 : b5 = true
          · subst c2; rw [if_pos rfl] at H; replace H := Option.bind_eq_some_iff.mp H; obtain ⟨b6, d3, H⟩ := H
            (try dsimp only at H)
            have d4 := Aside0.mk d3; clear d3; by_cases c4 : b6 = true
            · subst c4; rw [if_pos rfl] at H; replace H := Option.bind_eq_some_iff.mp H; obtain ⟨b7, d5, H⟩ := H
              (try dsimp only at H)
              have g6 := Aside0.mk d5; clear d5; have H' := Aside0.mk H; clear H; obtain ⟨g8, g9, h0, h1, h2, h3⟩ := cz6 a0; obtain ⟨h4, h5, h6, h7, h8, h9⟩ := fz6 a0; go_wp2_with (first | ((with_reducible refine gate_callee (f := 72) rfl ?_); refine goesL_ (some 17) rfl rfl Tryd.func72 (by kernel_rfl) rfl #[.agg #[.int .i64 1, .int .i64 8], .int .i64 a6] rfl au1 ?_; (with_reducible refine (spec_span_has.calls 1 8 a6 true _ c0.out).mono ?_); rintro e w20 ⟨rfl, hb⟩; refine ⟨_, rfl, ?_⟩; have a1 := Aside0.mk (blk_below (g := a4) (pk a0) hb); have a2 := Aside0.mk (below_step (bw1 HB a3) hb); clear a0; clear HB; have a0 := a1; have HB := a2; clear a1 a2; (try clear hb); (try clear hb2); (try clear hk); (try clear hi); obtain ⟨i0, i1, i2, i3, i4, i5⟩ := cz6 a0; obtain ⟨i6, i7, i8, i9, j1, j2⟩ := fz6 a0) | ((with_reducible refine gate_callee (f := 72) rfl ?_); refine goesL_ (some 22) rfl rfl Tryd.func72 (by kernel_rfl) rfl #[.agg #[.int .i64 1, .int .i64 10], .int .i64 a5] rfl au1 ?_; (with_reducible refine (spec_span_has.calls 1 10 a5 true _ c8.out).mono ?_); rintro e w22 ⟨rfl, hb⟩; refine ⟨_, rfl, ?_⟩; have a1 := Aside0.mk (blk_below (g := a4) (pk a0) hb); have a2 := Aside0.mk (below_step (bw1 HB a3) hb); clear a0; clear HB; have a0 := a1; have HB := a2; clear a1 a2; (try clear hb); (try clear hb2); (try clear hk); (try clear hi); obtain ⟨j3, j4, j5, j6, j7, j8⟩ := cz6 a0; obtain ⟨j9, k0, k1, k2, k3, k4⟩ := fz6 a0) | ((with_reducible refine gate_callee (f := 72) rfl ?_); refine goesL_ (some 29) rfl rfl Tryd.func72 (by kernel_rfl) rfl #[.agg #[.int .i64 0, .int .i64 a5], .int .i64 a8] rfl au1 ?_; (with_reducible refine (spec_span_has.calls 0 a5 a8 true _ d4.out).mono ?_); rintro e w24 ⟨rfl, hb⟩; refine ⟨_, rfl, ?_⟩; have a1 := Aside0.mk (blk_below (g := a4) (pk a0) hb); have a2 := Aside0.mk (below_step (bw1 HB a3) hb); clear a0; clear HB; have a0 := a1; have HB := a2; clear a1 a2; (try clear hb); (try clear hb2); (try clear hk); (try clear hi); obtain ⟨k5, k6, k7, k8, k9, l0⟩ := cz6 a0; obtain ⟨l1, l2, l3, l4, l5, l6⟩ := fz6 a0) | ((with_reducible refine gate_callee (f := 72) rfl ?_); refine goesL_ (some 34) rfl rfl Tryd.func72 (by kernel_rfl) rfl #[.agg #[.int .i64 0, .int .i64 30], .int .i64 b0] rfl au1 ?_; (with_reducible refine (spec_span_has.calls 0 30 b0 b7 _ g6.out).mono ?_); rintro e w26 ⟨rfl, hb⟩; refine ⟨_, rfl, ?_⟩; have a1 := Aside0.mk (blk_below (g := a4) (pk a0) hb); have a2 := Aside0.mk (below_step (bw1 HB a3) hb); clear a0; clear HB; have a0 := a1; have HB := a2; clear a1 a2; (try clear hb); (try clear hb2); (try clear hk); (try clear hi))); go_meet
              case rel => exact ⟨_, (!b7), au4, H', ⟨au5⟩, ⟨pq a0⟩, ⟨bw1 HB a3⟩⟩
            · replace c4 := Bool.eq_false_iff.mpr c4; subst c4; rw [if_neg (show ¬ (false = true) by decide)] at H; have H' := Aside0.mk H; clear H; obtain ⟨l7, l8, l9, m0, m1, m2⟩ := cz6 a0; obtain ⟨m3, m4, m5, m6, m7, m8⟩ := fz6 a0; go_wp2_with (first | ((with_reducible refine gate_callee (f := 72) rfl ?_); refine goesL_ (some 17) rfl rfl Tryd.func72 (by kernel_rfl) rfl #[.agg #[.int .i64 1, .int .i64 8], .int .i64 a6] rfl au1 ?_; (with_reducible refine (spec_span_has.calls 1 8 a6 true _ c0.out).mono ?_); rintro e w28 ⟨rfl, hb⟩; refine ⟨_, rfl, ?_⟩; have a1 := Aside0.mk (blk_below (g := a4) (pk a0) hb); have a2 := Aside0.mk (below_step (bw1 HB a3) hb); clear a0; clear HB; have a0 := a1; have HB := a2; clear a1 a2; (try clear hb); (try clear hb2); (try clear hk); (try clear hi); obtain ⟨m9, n0, n1, n2, n3, n4⟩ := cz6 a0; obtain ⟨n5, n6, n7, n8, n9, o0⟩ := fz6 a0) | ((with_reducible refine gate_callee (f := 72) rfl ?_); refine goesL_ (some 22) rfl rfl Tryd.func72 (by kernel_rfl) rfl #[.agg #[.int .i64 1, .int .i64 10], .int .i64 a5] rfl au1 ?_; (with_reducible refine (spec_span_has.calls 1 10 a5 true _ c8.out).mono ?_); rintro e w30 ⟨rfl, hb⟩; refine ⟨_, rfl, ?_⟩; have a1 := Aside0.mk (blk_below (g := a4) (pk a0) hb); have a2 := Aside0.mk (below_step (bw1 HB a3) hb); clear a0; clear HB; have a0 := a1; have HB := a2; clear a1 a2; (try clear hb); (try clear hb2); (try clear hk); (try clear hi); obtain ⟨o1, o2, o3, o4, o5, o6⟩ := cz6 a0; obtain ⟨o7, o8, o9, p0, p1, p2⟩ := fz6 a0) | ((with_reducible refine gate_callee (f := 72) rfl ?_); refine goesL_ (some 29) rfl rfl Tryd.func72 (by kernel_rfl) rfl #[.agg #[.int .i64 0, .int .i64 a5], .int .i64 a8] rfl au1 ?_; (with_reducible refine (spec_span_has.calls 0 a5 a8 false _ d4.out).mono ?_); rintro e w32 ⟨rfl, hb⟩; refine ⟨_, rfl, ?_⟩; have a1 := Aside0.mk (blk_below (g := a4) (pk a0) hb); have a2 := Aside0.mk (below_step (bw1 HB a3) hb); clear a0; clear HB; have a0 := a1; have HB := a2; clear a1 a2; (try clear hb); (try clear hb2); (try clear hk); (try clear hi))); go_meet
              case rel => exact ⟨_, (!false), au4, H', ⟨au5⟩, ⟨pq a0⟩, ⟨bw1 HB a3⟩⟩
          · replace c2 := Bool.eq_false_iff.mpr c2; subst c2; rw [if_neg (show ¬ (false = true) by decide)] at H; have H' := Aside0.mk H; clear H; obtain ⟨p3, p4, p5, p6, p7, p8⟩ := cz6 a0; obtain ⟨p9, q0, q1, q2, q3, q4⟩ := fz6 a0; go_wp2_with (first | ((with_reducible refine gate_callee (f := 72) rfl ?_); refine goesL_ (some 17) rfl rfl Tryd.func72 (by kernel_rfl) rfl #[.agg #[.int .i64 1, .int .i64 8], .int .i64 a6] rfl au1 ?_; (with_reducible refine (spec_span_has.calls 1 8 a6 true _ c0.out).mono ?_); rintro e w34 ⟨rfl, hb⟩; refine ⟨_, rfl, ?_⟩; have a1 := Aside0.mk (blk_below (g := a4) (pk a0) hb); have a2 := Aside0.mk (below_step (bw1 HB a3) hb); clear a0; clear HB; have a0 := a1; have HB := a2; clear a1 a2; (try clear hb); (try clear hb2); (try clear hk); (try clear hi); obtain ⟨q5, q6, q7, q8, q9, r0⟩ := cz6 a0; obtain ⟨r1, r2, r3, r4, r5, r6⟩ := fz6 a0) | ((with_reducible refine gate_callee (f := 72) rfl ?_); refine goesL_ (some 22) rfl rfl Tryd.func72 (by kernel_rfl) rfl #[.agg #[.int .i64 1, .int .i64 10], .int .i64 a5] rfl au1 ?_; (with_reducible refine (spec_span_has.calls 1 10 a5 false _ c8.out).mono ?_); rintro e w36 ⟨rfl, hb⟩; refine ⟨_, rfl, ?_⟩; have a1 := Aside0.mk (blk_below (g := a4) (pk a0) hb); have a2 := Aside0.mk (below_step (bw1 HB a3) hb); clear a0; clear HB; have a0 := a1; have HB := a2; clear a1 a2; (try clear hb); (try clear hb2); (try clear hk); (try clear hi))); go_meet
            case rel => exact ⟨_, (!false), au4, H', ⟨au5⟩, ⟨pq a0⟩, ⟨bw1 HB a3⟩⟩
        · replace c1 := Bool.eq_false_iff.mpr c1; subst c1; rw [if_neg (show ¬ (false = true) by decide)] at H; have H' := Aside0.mk H; clear H; obtain ⟨r7, r8, r9, s0, s1, s2⟩ := cz6 a0; obtain ⟨s3, s4, s5, s6, s7, s8⟩ := fz6 a0; go_wp2_with (first | ((with_reducible refine gate_callee (f := 72) rfl ?_); refine goesL_ (some 17) rfl rfl Tryd.func72 (by kernel_rfl) rfl #[.agg #[.int .i64 1, .int .i64 8], .int .i64 a6] rfl au1 ?_; (with_reducible refine (spec_span_has.calls 1 8 a6 false _ c0.out).mono ?_); rintro e w38 ⟨rfl, hb⟩; refine ⟨_, rfl, ?_⟩; have a1 := Aside0.mk (blk_below (g := a4) (pk a0) hb); have a2 := Aside0.mk (below_step (bw1 HB a3) hb); clear a0; clear HB; have a0 := a1; have HB := a2; clear a1 a2; (try clear hb); (try clear hb2); (try clear hk); (try clear hi))); go_meet
          case rel => exact ⟨_, (!false), au4, H', ⟨au5⟩, ⟨pq a0⟩, ⟨bw1 HB a3⟩⟩
      · replace b9 := Bool.eq_false_iff.mpr b9; subst b9; rw [if_neg (show ¬ (false = true) by decide)] at H; have H' := Aside0.mk H; clear H; go_wp2; go_meet
        case rel => exact ⟨_, (!false), au4, H', ⟨au5⟩, ⟨pq a0⟩, ⟨bw1 HB a3⟩⟩
    case rest =>
      clear c7; (try clear d7 d8 d9 e5 e6 e7 f4 f5 f6 f7 f8 f9 e8 e9 f0 f1 f2 f3 g0 g1 g2 g3 g4 g5); obtain ⟨kq, b8, rfl, HA, HJ4, a0, HB⟩ := hcut
      cases kq with
      | zero => exact absurd HA.out (by simp [spec_Config.j0])
      | succ kj4 =>
        have H := HA.out; clear HA; simp only [spec_Config.j0] at H; by_cases c5 : b8 = true
        · subst c5; rw [if_pos rfl] at H; obtain rfl := Option.some.inj H; go_wp2; go_ret; exact ⟨au3, bw1 HB a3⟩
        · replace c5 := Bool.eq_false_iff.mpr c5; subst c5; rw [if_neg (show ¬ (false = true) by decide)] at H; obtain rfl := Option.some.inj H; go_wp2; go_ret; exact ⟨au3, bw1 HB a3⟩
  · replace c3 := Bool.eq_false_iff.mpr c3; subst c3; rw [if_neg (show ¬ (false = true) by decide)] at H; obtain rfl := Option.some.inj H; go_enter Tryd.func39, Tryd.ntmps39; go_wp2_with (first | ((with_reducible refine gate_dst (N := 1) rfl ?_); refine box_event ?hg (N := 1) ?hd (cs := #[.string a7, .int .i64 a9, .int .i64 a6, .int .i64 a8, .int .i64 a5, .int .i64 b0]) (t := 23) ?hr ?_; (case hd => rfl); (case hg => rfl); (case hr => first | (go_simp; done) | (go_simp; rfl)); intro a4 hg w40 hbox hb; have a1 := Aside0.mk (below_step (bw0 HB) hb); have a2 := Aside0.mk (hbox); have b2 := Aside0.mk ((by rw [hg]; exact (below_size (bw0 HB)) : w.heap.size ≤ a4)); have b3 := Aside0.mk ((by rw [hg]; exact (below_size (bw0 HB)) : w.heap.size ≤ a4)); clear HB; have HB := a1; have a0 := a2; have d6 := b2; have a3 := b3; clear a1 a2 b2 b3; clear hb hbox hg; obtain ⟨s9, t0, t1, t2, t3, t4⟩ := cz6 a0; obtain ⟨t5, t6, t7, t8, t9, u0⟩ := fz6 a0) | ((with_reducible refine gate_callee (f := 70) rfl ?_); refine goesL_ (some 6) rfl rfl Tryd.func70 (by kernel_rfl) rfl #[.string a7] rfl au1 ?_; (with_reducible refine (label_Name.calls a7 false _ A2.out).mono ?_); rintro e w42 ⟨rfl, hb⟩; refine ⟨_, rfl, ?_⟩; have a1 := Aside0.mk (blk_below (g := a4) (pk a0) hb); have a2 := Aside0.mk (below_step (bw1 HB a3) hb); clear a0; clear HB; have a0 := a1; have HB := a2; clear a1 a2; (try clear hb); (try clear hb2); (try clear hk); (try clear hi))); go_ret; exact ⟨au3, bw1 HB a3⟩
end

section
/-! ### spec_target: function 73 -/
/-- What is wrong with a target, where it is known whether its name parts and its tag is one. -/
def tgt (s t : ByteArray) (p : Int) (is g : Bool) : Int := if s.toList ≠ [] ∧ is = false then 1 else if t.toList ≠ [] ∧ g = false then 1 else if 0 ≤ p ∧ p ≤ 100 then 0 else 2
def spec_target.f (a0 : ByteArray) (a1 : ByteArray) (a2 : Int) : Option Int :=
  (label_Split.f a0).bind fun t => (label_Tag.f a1).bind fun g => some (tgt a0 a1 a2 t.2.2 g)
theorem str_em (s : ByteArray) : ((s.toList != ([] : List UInt8)) = false ∧ s.toList.isEmpty = true ∧ (s.toList == ([] : List UInt8)) = true ∧ Aside0 (s.toList = [])) ∨ ((s.toList != ([] : List UInt8)) = true ∧ s.toList.isEmpty = false ∧ (s.toList == ([] : List UInt8)) = false ∧ Aside0 (¬ s.toList = [])) := by
  cases hs : s.toList with
  | nil => exact .inl ⟨rfl, rfl, rfl, ⟨rfl⟩⟩
  | cons a l => exact .inr ⟨rfl, rfl, rfl, ⟨by simp⟩⟩
theorem blk_keep {W w1 : World} (hb : Below W.heap.size W w1) {g : Nat} {t : TypeId} {cs : Array Value} (h : W.heap[g]? = some (.cells cs t (0, 0))) : w1.heap[g]? = some (.cells cs t (0, 0)) := blk_below h hb
set_option maxHeartbeats 8000000 in
set_option maxRecDepth 100000 in
theorem spec_target.calls (a1 : ByteArray) (a2 : ByteArray) (a0 : Int) (r : Int) (w : World) (hLd_ : Aside0 (LaidW w)) (h : spec_target.f a1 a2 a0 = some r) :
    Calls Tryd.prog 73 #[.agg #[.string a1, .string a2, .int .i64 a0]] w fun e w' => e = .returned (.int .i64 r) ∧ Below w.heap.size w w' := by
  unfold spec_target.f at h; obtain ⟨⟨r1, r2, is⟩, hS, h⟩ := Option.bind_eq_some_iff.mp h; obtain ⟨g, hG, h⟩ := Option.bind_eq_some_iff.mp h; have hr := Option.some.inj h; clear h; have hsp := fun (W : World) (hl : Aside0 (LaidW W)) => label_Split.calls a1 r1 r2 is W hl hS; have htg := fun (W : World) => label_Tag.calls a2 g W hG; have HSp := Lib.hid hsp; clear hsp; have HTg := Lib.hid htg; clear htg; clear hS hG; have HR := Lib.hid hr; clear hr; have a7 : Aside0 (LaidW (w.alloc (.cells #[.string a1, .string a2, .int .i64 a0] 39))) := ⟨hLd_.out.below ((Below.refl _ _).alloc (Nat.le_refl _) _)⟩; have a8 : (w.alloc (.cells #[.string a1, .string a2, .int .i64 a0] 39)).heap[w.heap.size]? = some (.cells #[.string a1, .string a2, .int .i64 a0] 39 (0, 0)) := blk_new _ _; have a9 := Lib.hid a8; clear a8; have b0 : Below w.heap.size w (w.alloc (.cells #[.string a1, .string a2, .int .i64 a0] 39)) := (Below.refl _ _).alloc (Nat.le_refl _) _; go_enter Tryd.func73, Tryd.ntmps73; go_wp2_with fail; refine (HSp.out _ a7).mono ?_; rintro e w1 ⟨rfl, a4⟩; have a3 := blk_keep a4 a9.out; have b1 := below_step b0 a4; clear a4 a9 b0 a7; have c0 : w1.cell? ⟨w.heap.size, 0, none⟩ = some (.string a1) := (blk_cell a3 0).trans rfl; have c1 : w1.cell? ⟨w.heap.size, 1, none⟩ = some (.string a2) := (blk_cell a3 1).trans rfl; have c2 : w1.cell? ⟨w.heap.size, 2, none⟩ = some (.int .i64 a0) := (blk_cell a3 2).trans rfl; have b5 := Lib.hid a3; clear a3; have a5 := Aside0.mk b1; clear b1
  obtain ⟨pb, hpb, b2⟩ : ∃ pb : Bool, spec_span_has.f 0 100 a0 = some pb ∧ (pb = true ↔ 0 ≤ a0 ∧ a0 ≤ 100) := by
    unfold spec_span_has.f; by_cases h0 : a0 ≥ 0
    · rw [if_pos h0]; exact ⟨_, rfl, by simp; omega⟩
    · rw [if_neg h0]; exact ⟨_, rfl, by simp; omega⟩
  have hhas := fun (W : World) => spec_span_has.calls 0 100 a0 pb W hpb; have HHas := Lib.hid hhas; clear hhas hpb; have HPb := Lib.hid b2; clear b2; rcases str_em a1 with ⟨s1, s2, s3, HS⟩ | ⟨s1, s2, s3, HS⟩
  all_goals cases is
  all_goals rcases str_em a2 with ⟨t1, t2, t3, HT⟩ | ⟨t1, t2, t3, HT⟩
  all_goals cases g
  all_goals cases pb
  all_goals
    go_wp2_with (first | (go_at_call 37; refine (HTg.out _).mono ?_; rintro e w2 ⟨rfl, a6⟩; have b3 := Aside0.mk (below_step a5.out a6); have d2 : w2.cell? ⟨w.heap.size, 2, none⟩ = some (.int .i64 a0) := (blk_cell (blk_keep a6 b5.out) 2).trans rfl; clear a6) | (go_at_call 72; refine (HHas.out _).mono ?_; rintro e w3 ⟨rfl, b4⟩))
    (first | go_ret | (go_outline; go_ways; fail))
    have h1 := HR.out; have h2 := HPb.out; have h3 := HS.out; have h4 := HT.out; refine ⟨?_, ?_⟩
    · rw [← h1]; unfold tgt; simp [h3, h4] at h2 ⊢ <;> omega
    · first | exact below_step b3.out b4 | exact b3.out | exact below_step a5.out b4 | exact a5.out

-- NOT PRINTED: function 92 (api_Target_92)

-- NOT PRINTED: function 85 (api_Target_85)
end

section
/-! ### spec_all: function 74 -/
/-- The first of the list from number k on whose tag is t; -1: none. -/
def idxT : List S39 → ByteArray → Int → Int
  | [], _, _ => -1
  | x :: xs, t, k => if (x.f1.toList == t.toList) = true then k else idxT xs t (k + 1)
theorem idxT_step (l : List S39) (t : ByteArray) (x : Int) (h0 : 0 ≤ x) (h1 : x < (l.length : Int)) : idxT (l.drop x.toNat) t x = if ((rd_T39 l x).f1.toList == t.toList) = true then x else idxT (l.drop (x + 1).toNat) t (x + 1) := by
  (have hn : x.toNat < l.length := by omega); rw [show (x + 1).toNat = x.toNat + 1 by omega, List.drop_eq_getElem_cons hn, idxT]; unfold rd_T39; rw [List.getD_eq_getElem?_getD, List.getElem?_eq_getElem hn, Option.getD_some]
theorem idxT_end (l : List S39) (t : ByteArray) (x : Int) (h1 : ¬ x < (l.length : Int)) (h0 : 0 ≤ x) : idxT (l.drop x.toNat) t x = -1 := by
  rw [List.drop_eq_nil_of_le (by omega), idxT]
theorem idxT_ge : ∀ (l : List S39) (t : ByteArray) (x : Int), 0 ≤ x → (0 ≤ idxT l t x ↔ l.any (fun y => y.f1.toList == t.toList) = true)
  | [], t, x, h => by simp [idxT]
  | y :: ys, t, x, h => by
    by_cases e : (y.f1.toList == t.toList) = true
    · rw [idxT, if_pos e, List.any_cons, e]; simp [h]
    · rw [idxT, if_neg e, List.any_cons, idxT_ge ys t (x + 1) (by omega)]; simp only [Bool.not_eq_true] at e; rw [e, Bool.false_or]
set_option maxHeartbeats 8000000 in
set_option maxRecDepth 100000 in
theorem tagged_walk (x0 x1 : ByteArray) (x2 : Int) (b : Nat) (t0 t1 : ByteArray) (t2 : Int) (w : World) (hK : w.heap[b]? = some (.cells #[.string t0, .string t1, .int .i64 t2] 39 (0, 0))) :
    Calls Tryd.prog 86 #[.agg #[.string x0, .string x1, .int .i64 x2], .pointer (some ⟨b, 0, none⟩)] w fun e w' => e = .returned (.bool (x1.toList == t1.toList)) ∧ Below w.heap.size w w' := by
  have c1 : (w.alloc (.cells #[.string x0, .string x1, .int .i64 x2] 39)).cell? ⟨b, 1, none⟩ = some (.string t1) := (blk_cell (blk_alloc hK _) 1).trans rfl; clear hK; go_enter Tryd.func86, Tryd.ntmps86; go_wp2; go_ret; exact ⟨rfl, (Below.refl _ _).alloc (Nat.le_refl _) _⟩
set_option maxHeartbeats 8000000 in
set_option maxRecDepth 100000 in
theorem idx_walk (A : Option Addr) (c : Nat) (l : List S39) (b : Nat) (t0 t1 : ByteArray) (t2 : Int) (w : World) (hr : Kd.C k39 w A l.length l) (hK : w.heap[b]? = some (.cells #[.string t0, .string t1, .int .i64 t2] 39 (0, 0))) :
    Calls Tryd.prog 92 #[.slice A l.length c, .func (.func 86) #[] #[.pointer (some ⟨b, 0, none⟩)]] w fun e w' => e = .returned (.int .i64 (idxT l t1 0)) ∧ Below w.heap.size w w' := by
  (have hm : (l.length : Int) ≤ 9223372036854775807 := by have := Kd.C_max hr; omega); have HR := Aside0.mk hr; have HK := Aside0.mk hK; clear hr hK; obtain ⟨res, hres⟩ : ∃ r : Int, idxT l t1 0 = r := ⟨_, rfl⟩; have HE : Aside0 (idxT (l.drop (0 : Int).toNat) t1 0 = res) := ⟨by simpa using hres⟩; rw [hres]; clear hres; go_enter Tryd.func92, Tryd.ntmps92; go_wp2_with fail; go_loopw [8] (fun v8 w' => ∃ x : Int, 0 ≤ x ∧ x ≤ (l.length : Int) ∧ v8 = .int .i64 x ∧ Aside0 (idxT (l.drop x.toNat) t1 x = res) ∧ Aside0 (Below w.heap.size w w')) (fun v8 w' => l.length - (intOf v8).toNat)
  case atStart => exact ⟨0, by omega, by omega, rfl, HE, ⟨Below.refl _ _⟩⟩
  case round =>
    obtain ⟨x, a1, hx1, rfl, HI, HB⟩ := hrel; by_cases hlt : x < (l.length : Int)
    · have hst := idxT_step l t1 x a1 hlt; rw [HI.out] at hst; have hr' := Kd.C_below HR.out HB.out; obtain ⟨ad, e, c0, c1, c2⟩ := at_T39 hr' x a1 hlt; subst e; have hK' := Aside0.mk (blk_below HK.out HB.out); clear hr'; (have a3 : wrap64 (x + 1) = x + 1 := by unfold wrap64; omega); have hx3 := eq_true a1; have hx4 := eq_true hlt; have hdec : decide (x < (l.length : Int)) = true := decide_eq_true hlt; generalize hq : rd_T39 l x = y at c0 c1 c2 hst; clear hq; obtain ⟨y0, y1, y2⟩ := y; obtain ⟨q, hq⟩ : ∃ q : Bool, (y1.toList == t1.toList) = q := ⟨_, rfl⟩; have hcall := fun (W : World) hW => tagged_walk y0 y1 y2 b t0 t1 t2 W hW; rw [hq] at hcall; have HC := Lib.hid hcall; simp only [hq] at hst; clear hcall hq
      cases q with
      | true =>
        rw [if_pos rfl] at hst; have HST := Aside0.mk hst; clear hst; go_wp2_with (go_at_call 86; refine (HC.out _ hK'.out).mono ?_; rintro e w2 ⟨rfl, a0⟩; have a2 := Aside0.mk (below_step HB.out a0); clear a0); go_ret; exact ⟨by rw [HST.out]; rfl, a2.out⟩
      | false =>
        rw [if_neg (by decide)] at hst; have HST := Aside0.mk hst; clear hst; go_wp2_with (go_at_call 86; refine (HC.out _ hK'.out).mono ?_; rintro e w2 ⟨rfl, a0⟩; have a2 := Aside0.mk (below_step HB.out a0); clear a0); go_roundw
        case rel => exact ⟨x + 1, by omega, by omega, by first | rfl | rw [a3], ⟨HST.out.symm⟩, a2⟩
        case measure => simp [intOf]; omega
    · have hen := idxT_end l t1 x hlt a1; rw [HI.out] at hen; subst hen; have hdec : decide (x < (l.length : Int)) = false := decide_eq_false hlt; have a4 := eq_false hlt; go_wp2_with fail; go_ret; exact ⟨rfl, HB.out⟩
set_option maxHeartbeats 8000000 in
set_option maxRecDepth 100000 in
theorem within_walk (A : Option Addr) (c : Nat) (l : List S39) (b : Nat) (t0 t1 : ByteArray) (t2 : Int) (w : World) (hr : Kd.C k39 w A l.length l) (hK : w.heap[b]? = some (.cells #[.string t0, .string t1, .int .i64 t2] 39 (0, 0))) :
    Calls Tryd.prog 85 #[.slice A l.length c, .func (.func 86) #[] #[.pointer (some ⟨b, 0, none⟩)]] w fun e w' => e = .returned (.bool (l.any fun y => y.f1.toList == t1.toList)) ∧ Below w.heap.size w w' := by
  have hcall := idx_walk A c l b t0 t1 t2 w hr hK; have hge := idxT_ge l t1 0 (by omega); clear hr hK; generalize idxT l t1 0 = res at hcall hge; have HC := Lib.hid hcall; clear hcall
  have a0 : decide (0 ≤ res) = (l.any fun y => y.f1.toList == t1.toList) := by
    rw [Bool.eq_iff_iff, decide_eq_true_iff]; exact hge
  rw [← a0]; clear a0 hge; go_enter Tryd.func85, Tryd.ntmps85; go_wp2_with (go_at_call 92; refine HC.out.mono ?_; rintro e w2 ⟨rfl, a1⟩); go_ret; exact ⟨rfl, a1⟩
/-- The sum so far, and the targets that are left: what is wrong with them together. -/
def all_go : List S39 → List S39 → Int → Int
  | _, [], sum => if sum = 100 then 0 else 4
  | pre, t :: ts, sum => if t.f1.toList ≠ [] ∧ pre.any (fun y => y.f1.toList == t.f1.toList) = true then 5 else all_go (pre ++ [t]) ts (wrap64 (sum + t.f2))
def spec_all.f (l : List S39) : Option Int := some (all_go [] l 0)
theorem all_step (l : List S39) (s x : Int) (h0 : 0 ≤ x) (h1 : x < (l.length : Int)) : all_go (l.take x.toNat) (l.drop x.toNat) s = if (rd_T39 l x).f1.toList ≠ [] ∧ (l.take x.toNat).any (fun y => y.f1.toList == (rd_T39 l x).f1.toList) = true then 5 else all_go (l.take (x + 1).toNat) (l.drop (x + 1).toNat) (wrap64 (s + (rd_T39 l x).f2)) := by
  have hn : x.toNat < l.length := by omega
  have e : rd_T39 l x = l[x.toNat] := by
    unfold rd_T39; rw [List.getD_eq_getElem?_getD, List.getElem?_eq_getElem hn, Option.getD_some]
  rw [e, show (x + 1).toNat = x.toNat + 1 by omega, List.drop_eq_getElem_cons hn, List.take_succ_eq_append_getElem hn]
  conv => lhs; unfold all_go
theorem all_end (l : List S39) (s x : Int) (h1 : ¬ x < (l.length : Int)) (h0 : 0 ≤ x) : all_go (l.take x.toNat) (l.drop x.toNat) s = if s = 100 then 0 else 4 := by
  rw [List.drop_eq_nil_of_le (by omega), all_go]
theorem within_walk' (A : Option Addr) (c n : Nat) (l : List S39) (b : Nat) (t0 t1 : ByteArray) (t2 : Int) (w : World) (hn : l.length = n) (hr : Kd.C k39 w A l.length l) (hK : w.heap[b]? = some (.cells #[.string t0, .string t1, .int .i64 t2] 39 (0, 0))) :
    Calls Tryd.prog 85 #[.slice A n c, .func (.func 86) #[] #[.pointer (some ⟨b, 0, none⟩)]] w fun e w' => e = .returned (.bool (l.any fun y => y.f1.toList == t1.toList)) ∧ Below w.heap.size w w' := by
  subst hn; exact within_walk A c l b t0 t1 t2 w hr hK
set_option maxHeartbeats 8000000 in
set_option maxRecDepth 100000 in
theorem spec_all.calls (A0 : Option Addr) (c0 : Nat) (l0 : List (S39)) (r : Int) (w : World) (a3 : Kd.C k39 w A0 l0.length l0) (hc0 : l0.length ≤ c0) (h : spec_all.f l0 = some r) :
    Calls Tryd.prog 74 #[.slice A0 l0.length c0] w fun e w' => e = .returned (.int .i64 r) ∧ Below w.heap.size w w' := by
  (have hm : (l0.length : Int) ≤ 9223372036854775807 := by have := Kd.C_max a3; omega); have HR := Aside0.mk a3; clear a3; have hr := Option.some.inj h; clear h; have HE : Aside0 (all_go (l0.take (0 : Int).toNat) (l0.drop (0 : Int).toNat) 0 = r) := ⟨by simpa using hr⟩; clear hr; go_enter Tryd.func74, Tryd.ntmps74; go_wp2_with fail; go_loopw [3, 8] (fun v3 v8 w' => ∃ s x : Int, 0 ≤ x ∧ x ≤ (l0.length : Int) ∧ v3 = .int .i64 s ∧ v8 = .int .i64 x ∧ Aside0 (all_go (l0.take x.toNat) (l0.drop x.toNat) s = r) ∧ Aside0 (Below w.heap.size w w')) (fun v3 v8 w' => l0.length - (intOf v8).toNat)
  case atStart => exact ⟨0, 0, by omega, by omega, rfl, rfl, HE, ⟨Below.refl _ _⟩⟩
  case round =>
    obtain ⟨s, x, a2, hx1, rfl, rfl, HI, HB⟩ := hrel; by_cases hlt : x < (l0.length : Int)
    · have hst := all_step l0 s x a2 hlt; rw [HI.out] at hst; have hr' := Kd.C_below HR.out HB.out; obtain ⟨ad, e, q0, q1, q2⟩ := at_T39 hr' x a2 hlt; subst e; clear hr'; (have a5 : wrap64 (x + 1) = x + 1 := by unfold wrap64; omega); have hx3 := eq_true a2; have hx4 := eq_true hlt; have hx5 : (x ≤ (c0 : Int)) = True := eq_true (by omega); have hdec : decide (x < (l0.length : Int)) = true := decide_eq_true hlt; generalize hq : rd_T39 l0 x = y at q0 q1 q2 hst; clear hq; obtain ⟨y0, y1, y2⟩ := y; simp only at q0 q1 q2 hst; obtain ⟨q, hq⟩ : ∃ q : Bool, (l0.take x.toNat).any (fun y => y.f1.toList == y1.toList) = q := ⟨_, rfl⟩; have hcall := fun (W : World) (n b : Nat) hn hW hK => within_walk' (some ad) c0 n (l0.take x.toNat) b y0 y1 y2 W hn hW hK; rw [hq] at hcall hst; have HC := Lib.hid hcall; clear hcall hq; rcases str_em y1 with ⟨t1, t2, t3, HT⟩ | ⟨t1, t2, t3, HT⟩
      · rw [if_neg (fun hh => hh.1 HT.out)] at hst; have HST := Aside0.mk hst; clear hst; go_wp2_with fail; go_roundw
        case rel => exact ⟨_, x + 1, by omega, by omega, rfl, by first | rfl | rw [a5], ⟨HST.out.symm⟩, ⟨below_alloc HB.out _⟩⟩
        case measure => simp [intOf]; omega
      · cases q with
        | true =>
          rw [if_pos ⟨HT.out, rfl⟩] at hst; have HST := Aside0.mk hst; clear hst; go_wp2_with fail; refine (HC.out _ x.toNat _ (by rw [List.length_take]; omega) (Kd.C_alloc (Kd.C_take (Kd.C_below HR.out HB.out) (by omega)) _) (blk_new _ _)).mono ?_; rintro e w2 ⟨rfl, a0⟩; have a4 := Aside0.mk (below_step (below_alloc HB.out _) a0); clear a0; go_wp2_with fail; go_ret; exact ⟨by rw [HST.out]; rfl, a4.out⟩
        | false =>
          rw [if_neg (by simp)] at hst; have HST := Aside0.mk hst; clear hst; go_wp2_with fail; refine (HC.out _ x.toNat _ (by rw [List.length_take]; omega) (Kd.C_alloc (Kd.C_take (Kd.C_below HR.out HB.out) (by omega)) _) (blk_new _ _)).mono ?_; rintro e w2 ⟨rfl, a0⟩; have a4 := Aside0.mk (below_step (below_alloc HB.out _) a0); clear a0; go_wp2_with fail; go_roundw
          case rel => exact ⟨_, x + 1, by omega, by omega, rfl, by first | rfl | rw [a5], ⟨HST.out.symm⟩, a4⟩
          case measure => simp [intOf]; omega
    · have hen := all_end l0 s x hlt a2; rw [HI.out] at hen; have hdec : decide (x < (l0.length : Int)) = false := decide_eq_false hlt; have a6 := eq_false hlt; by_cases a1 : s = 100
      · subst a1; rw [if_pos rfl] at hen; have HST := Aside0.mk hen; clear hen; go_wp2_with fail; go_ret; exact ⟨by rw [HST.out]; rfl, HB.out⟩
      · rw [if_neg a1] at hen; have HST := Aside0.mk hen; clear hen; have h1 : (s == 100) = false := beq_eq_false_iff_ne.mpr a1; have h2 : (s != 100) = true := bne_iff_ne.mpr a1; clear a1; go_wp2_with fail; go_ret; exact ⟨by rw [HST.out]; rfl, HB.out⟩
end

section
/-! ### spec_Route: function 40 -/
mutual
def spec_Route.j0 : Nat → Bool → ByteArray → ByteArray → List (S39) → Int → Option (Int)
  | 0, _, _, _, _, _ => none
  | k + 1, x6, a4, a5, a0, a3 => if x6 = true then (some 1) else ((spec_span_has.f 0 60 a3).bind fun a8 => (if a8 = true then ((spec_span_has.f 1 6 (a0.length : Int)).bind fun a9 => (if a9 = true then (spec_Route.l0 k a0 (a0.length : Int) 0 a4 a5 a0 a3) else (some 3))) else (some 2)))
def spec_Route.l0 : Nat → List (S39) → Int → Int → ByteArray → ByteArray → List (S39) → Int → Option (Int)
  | 0, _, _, _, _, _, _, _ => none
  | k + 1, a2, a6, a1, a4, a5, a0, a3 => if a1 < a6 then (if 0 ≤ a1 then (if a1 < (a2.length : Int) then ((spec_target.f ((rd_T39 a2 a1).f0) ((rd_T39 a2 a1).f1) ((rd_T39 a2 a1).f2)).bind fun a7 => (if a7 = 0 then (spec_Route.l0 k a2 a6 (wrap64 (a1 + 1)) a4 a5 a0 a3) else (some a7))) else (none)) else (none)) else ((spec_all.f a0).bind fun b0 => (some b0))
end
def spec_Route.f (k : Nat) (a0 : ByteArray) (a1 : ByteArray) (a2 : List (S39)) (a3 : Int) : Option (Int) := (label_Name.f a0).bind fun a4 => (if a4 = true then ((label_Name.f a1).bind fun a5 => (spec_Route.j0 k (!a5) a0 a1 a2 a3)) else (spec_Route.j0 k (!a4) a0 a1 a2 a3))
set_option maxHeartbeats 8000000 in
set_option maxRecDepth 100000 in
theorem spec_Route.calls (k : Nat) (a8 : ByteArray) (a9 : ByteArray) (c3 : Option Addr) (b3 : Nat) (a1 : List (S39)) (a7 : Int) (r : Int) (w : World) (hLd_ : Aside0 (LaidW w)) (e9 : Kd.C k39 w c3 a1.length a1) (f3 : a1.length ≤ b3) (h : spec_Route.f k a8 a9 a1 a7 = some r) :
    Calls Tryd.prog 40 #[.agg #[.string a8, .string a9, .slice c3 a1.length b3, .int .i64 a7]] w fun e w' => e = .returned (.int .i64 r) ∧ Below w.heap.size w w' := by
  have hu26 := Tryd.underlying26; have k6 := Tryd.underlying107; have hu39 := Tryd.underlying39; have d8 := Aside0.mk e9; have g5 := Aside0.mk f3; clear e9 f3; have HB := Aside0.mk (Below.refl w.heap.size w); have H : ((label_Name.f a8).bind fun c5 => (if c5 = true then ((label_Name.f a9).bind fun d2 => (spec_Route.j0 k (!d2) a8 a9 a1 a7)) else (spec_Route.j0 k (!c5) a8 a9 a1 a7))) = some r := h; clear h; replace H := Option.bind_eq_some_iff.mp H; obtain ⟨c5, f4, H⟩ := H
  (try dsimp only at H)
  have A2 := Aside0.mk f4; clear f4; have d9 := Aside0.mk H; clear H; go_enter Tryd.func40, Tryd.ntmps40; go_upto_if 6 with (first | ((with_reducible refine gate_dst (N := 1) rfl ?_); refine box_event ?hg (N := 1) ?hd (cs := #[.string a8, .string a9, .slice c3 a1.length b3, .int .i64 a7]) (t := 26) ?hr ?_; (case hd => rfl); (case hg => rfl); (case hr => first | (go_simp; done) | (go_simp; rfl)); intro a6 hg w4 hbox hb; have a2 := Aside0.mk (below_step (bw0 HB) hb); have a3 := Aside0.mk (hbox); have b0 := Aside0.mk ((by rw [hg]; exact (below_size (bw0 HB)) : w.heap.size ≤ a6)); have b4 := Aside0.mk ((by rw [hg]; exact (below_size (bw0 HB)) : w.heap.size ≤ a6)); clear HB; have HB := a2; have a0 := a3; have k7 := b0; have a5 := b4; clear a2 a3 b0 b4; clear hb hbox hg; obtain ⟨g6, g7, g8, g9⟩ := cz4 a0; obtain ⟨h0, h1, h2, h3⟩ := fz4 a0) | ((with_reducible refine gate_callee (f := 70) rfl ?_); refine goesL_ (some 9) rfl rfl Tryd.func70 (by kernel_rfl) rfl #[.string a8] rfl au1 ?_; (with_reducible refine (label_Name.calls a8 c5 _ A2.out).mono ?_); rintro e w6 ⟨rfl, hb⟩; refine ⟨_, rfl, ?_⟩; have a2 := Aside0.mk (blk_below (g := a6) (pk a0) hb); have a3 := Aside0.mk (below_step (bw1 HB a5) hb); clear a0; clear HB; have a0 := a2; have HB := a3; clear a2 a3; (try clear hb); (try clear hb2); (try clear hk); (try clear hi)))
  (try simp only [Act.put, List.setIfInBounds_toArray, List.set_cons_zero, List.set_cons_succ])
  go_cut [6] (fun v6 wc => ∃ (kq : Nat) (d3 : Bool), v6 = .bool d3 ∧ Aside0 (spec_Route.j0 kq d3 a8 a9 a1 a7 = some r) ∧ Aside0 (kq ≤ k) ∧ Aside0 (wc.heap[a6]? = some (.cells #[.string a8, .string a9, (.slice c3 a1.length b3), .int .i64 a7] 26 (0, 0))) ∧ Aside0 (Below w.heap.size w wc))
  case first =>
    have H := d9.out; clear d9; by_cases c7 : c5 = true
    · subst c7; rw [if_pos rfl] at H; replace H := Option.bind_eq_some_iff.mp H; obtain ⟨d2, f5, H⟩ := H
      (try dsimp only at H)
      have A8 := Aside0.mk f5; clear f5; have H' := Aside0.mk H; clear H; obtain ⟨k8, k9, l1, l2⟩ := cz4 a0; obtain ⟨l3, l4, l5, l6⟩ := fz4 a0; go_wp2_with (first | ((with_reducible refine gate_callee (f := 70) rfl ?_); refine goesL_ (some 13) rfl rfl Tryd.func70 (by kernel_rfl) rfl #[.string a9] rfl au1 ?_; (with_reducible refine (label_Name.calls a9 d2 _ A8.out).mono ?_); rintro e w10 ⟨rfl, hb⟩; refine ⟨_, rfl, ?_⟩; have a2 := Aside0.mk (blk_below (g := a6) (pk a0) hb); have a3 := Aside0.mk (below_step (bw1 HB a5) hb); clear a0; clear HB; have a0 := a2; have HB := a3; clear a2 a3; (try clear hb); (try clear hb2); (try clear hk); (try clear hi))); go_meet
      case rel => exact ⟨_, (!d2), au4, H', ⟨au5⟩, ⟨pq a0⟩, ⟨bw1 HB a5⟩⟩
    · replace c7 := Bool.eq_false_iff.mpr c7; subst c7; rw [if_neg (show ¬ (false = true) by decide)] at H; have H' := Aside0.mk H; clear H; go_wp2; go_meet
      case rel => exact ⟨_, (!false), au4, H', ⟨au5⟩, ⟨pq a0⟩, ⟨bw1 HB a5⟩⟩
  case rest =>
    clear d9; (try clear g6 g7 g8 g9 h0 h1 h2 h3); obtain ⟨kq, d3, rfl, HA, f6, a0, HB⟩ := hcut
    cases kq with
    | zero => exact absurd HA.out (by simp [spec_Route.j0])
    | succ f7 =>
      have H := HA.out; clear HA; simp only [spec_Route.j0] at H; by_cases c6 : d3 = true
      · subst c6; rw [if_pos rfl] at H; obtain rfl := Option.some.inj H; go_wp2; go_ret; exact ⟨au3, bw1 HB a5⟩
      · replace c6 := Bool.eq_false_iff.mpr c6; subst c6; rw [if_neg (show ¬ (false = true) by decide)] at H; replace H := Option.bind_eq_some_iff.mp H; obtain ⟨h4, f8, H⟩ := H
        (try dsimp only at H)
        have e5 := Aside0.mk f8; clear f8; by_cases d4 : h4 = true
        · subst d4; rw [if_pos rfl] at H; replace H := Option.bind_eq_some_iff.mp H; obtain ⟨h5, f9, H⟩ := H
          (try dsimp only at H)
          have g0 := Aside0.mk f9; clear f9; by_cases d5 : h5 = true
          · subst d5; rw [if_pos rfl] at H; have H' := Aside0.mk H; clear H; obtain ⟨h6, h7, h8, h9⟩ := cz4 a0; obtain ⟨i0, i1, i2, i3⟩ := fz4 a0; go_wp2_with (first | ((with_reducible refine gate_callee (f := 72) rfl ?_); refine goesL_ (some 19) rfl rfl Tryd.func72 (by kernel_rfl) rfl #[.agg #[.int .i64 0, .int .i64 60], .int .i64 a7] rfl au1 ?_; (with_reducible refine (spec_span_has.calls 0 60 a7 true _ e5.out).mono ?_); rintro e w17 ⟨rfl, hb⟩; refine ⟨_, rfl, ?_⟩; have a2 := Aside0.mk (blk_below (g := a6) (pk a0) hb); have a3 := Aside0.mk (below_step (bw1 HB a5) hb); clear a0; clear HB; have a0 := a2; have HB := a3; clear a2 a3; (try clear hb); (try clear hb2); (try clear hk); (try clear hi); obtain ⟨i4, i5, i6, i7⟩ := cz4 a0; obtain ⟨i8, i9, j1, j2⟩ := fz4 a0) | ((with_reducible refine gate_callee (f := 72) rfl ?_); refine goesL_ (some 26) rfl rfl Tryd.func72 (by kernel_rfl) rfl #[.agg #[.int .i64 1, .int .i64 6], .int .i64 (a1.length : Int)] rfl au1 ?_; (with_reducible refine (spec_span_has.calls 1 6 (a1.length : Int) true _ g0.out).mono ?_); rintro e w19 ⟨rfl, hb⟩; refine ⟨_, rfl, ?_⟩; have a2 := Aside0.mk (blk_below (g := a6) (pk a0) hb); have a3 := Aside0.mk (below_step (bw1 HB a5) hb); clear a0; clear HB; have a0 := a2; have HB := a3; clear a2 a3; (try clear hb); (try clear hb2); (try clear hk); (try clear hi); obtain ⟨j3, j4, j5, j6⟩ := cz4 a0; obtain ⟨j7, j8, j9, k0⟩ := fz4 a0)); go_loopg [31] f7 (fun kq k1 w' => ∃ (a4 : Int), k1 = .int .i64 a4 ∧ Aside0 (spec_Route.l0 kq a1 (a1.length : Int) a4 a8 a9 a1 a7 = some r) ∧ Aside0 (kq ≤ f7) ∧ Aside0 (w'.heap[a6]? = some (.cells #[.string a8, .string a9, (.slice c3 a1.length b3), .int .i64 a7] 26 (0, 0))) ∧ Aside0 (Below w.heap.size w w'))
            case atStart => exact ⟨(0), au4, H', ⟨Nat.le_refl _⟩, ⟨pq a0⟩, ⟨bw1 HB a5⟩⟩
            case round =>
              clear H'; (try clear c6 h6 h7 h8 h9 i4 i5 i6 i7 j3 j4 j5 j6 i0 i1 i2 i3 i8 i9 j1 j2 j7 j8 j9 k0); obtain ⟨a4, rfl, HA, g1, a0, HB⟩ := hrel
              cases gk with
              | zero => exact absurd HA.out (by simp [spec_Route.l0])
              | succ k2 =>
                have H := HA.out; clear HA; simp only [spec_Route.l0] at H; by_cases c4 : a4 < (a1.length : Int)
                · rw [if_pos c4] at H; have c21b0 : decide (a4 < (a1.length : Int)) = true := decide_eq_true c4; clear c4; by_cases d6 : 0 ≤ a4; rotate_left
                  · rw [if_neg d6] at H; exact absurd H (by simp)
                  rw [if_pos d6] at H; have c22b0 : decide (0 ≤ a4) = true := decide_eq_true d6; clear d6; by_cases d7 : a4 < (a1.length : Int); rotate_left
                  · rw [if_neg d7] at H; exact absurd H (by simp)
                  rw [if_pos d7] at H; have c23b0 : decide (a4 < (a1.length : Int)) = true := decide_eq_true d7; clear d7; replace H := Option.bind_eq_some_iff.mp H; obtain ⟨b5, g2, H⟩ := H
                  (try dsimp only at H)
                  have g3 := Aside0.mk g2; clear g2; by_cases b6 : b5 = 0
                  · rw [if_pos b6] at H; have c25b0 : (b5 == 0) = true := beq_iff_eq.mpr b6; have c25b1 : (b5 != 0) = false := bne_eq_false_iff_eq.mpr b6; clear b6; have H' := Aside0.mk H; clear H; have b7 : 0 ≤ (a4 : Int) := of_decide_eq_true au6; have b8 : a4 < (a1.length : Int) := of_decide_eq_true au6; obtain ⟨e6, e7, b9, c0, c1⟩ := at_T39 d8.out a4 b7 b8; cases e7; replace b9 := (HB.out.cell (World.block_lt_of_cell? w _ b9)).trans b9; replace c0 := (HB.out.cell (World.block_lt_of_cell? w _ c0)).trans c0; replace c1 := (HB.out.cell (World.block_lt_of_cell? w _ c1)).trans c1; replace b7 := eq_true b7; replace b8 := eq_true b8; (go_wp2_with (first | ((with_reducible refine gate_dst (N := 4) rfl ?_); refine box_event ?hg (N := 4) ?hd (cs := #[.string (⟨#[]⟩ : ByteArray), .string (⟨#[]⟩ : ByteArray), .int .i64 0]) (t := 39) ?hr ?_; (case hd => rfl); (case hg => rfl); (case hr => first | (go_simp; done) | (go_simp; rfl)); intro b1 hg w26 hbox hb; have a2 := Aside0.mk (blk_below (g := a6) (pk a0) hb); have a3 := Aside0.mk (below_step (bw1 HB a5) hb); have b0 := Aside0.mk (hbox); have b4 := Aside0.mk ((by rw [hg]; exact (below_size (bw1 HB a5)) : w.heap.size ≤ b1)); have c8 := Aside0.mk ((by rw [hg]; exact (below_size (bw1 HB a5)) : w.heap.size ≤ b1)); have c9 := Aside0.mk ((ne_lt hg (pk a0) : a6 ≠ b1)); have d0 := Aside0.mk ((ne_gt hg (pk a0) : b1 ≠ a6)); clear a0; clear HB; have a0 := a2; have HB := a3; have b2 := b0; have k3 := b4; have c2 := c8; have d1 := c9; have e8 := d0; clear a2 a3 b0 b4 c8 c9 d0; clear hb hbox hg; have l7 := e8.out; have l8 := d1.out; obtain ⟨l9, m0, m1⟩ := cz3 b2; obtain ⟨m2, m3, m4⟩ := fz3 b2) | ((with_reducible refine gate_callee (f := 73) rfl ?_); refine goesL_ (some 36) rfl rfl Tryd.func73 (by kernel_rfl) rfl #[.agg #[.string ((rd_T39 a1 a4).f0), .string ((rd_T39 a1 a4).f1), .int .i64 ((rd_T39 a1 a4).f2)]] rfl au1 ?_; (with_reducible refine (spec_target.calls ((rd_T39 a1 a4).f0) ((rd_T39 a1 a4).f1) ((rd_T39 a1 a4).f2) b5 _ ?side1 g3.out).mono ?_); (case side1 => first | exact hLd_.out | exact hLd_ | exact ⟨LaidW.below hLd_.out (bw2 HB a5 c2)⟩ | exact ⟨LaidW.below hLd_.out (by repeat (first | exact Below.refl _ _ | apply below_alloc | apply pw_below_drewN | apply below_drew1))⟩); rintro e w29 ⟨rfl, hb⟩; refine ⟨_, rfl, ?_⟩; have a2 := Aside0.mk (blk_below (g := a6) (o := .cells #[.string a8, .string a9, .slice (some e6) a1.length b3, .int .i64 a7] 26 (0, 0)) (by (repeat ((with_reducible repeat (first | refine blk_drewN ?_ _ | refine blk_drew ?_ | refine blk_alloc ?_ _)); with_reducible refine blk_far ?_ d1.out _)); (with_reducible repeat (first | refine blk_drewN ?_ _ | refine blk_drew ?_ | refine blk_alloc ?_ _)); exact a0.out) hb); have a3 := Aside0.mk (blk_below (g := b1) (o := .cells #[.string ((rd_T39 a1 a4).f0), .string ((rd_T39 a1 a4).f1), .int .i64 ((rd_T39 a1 a4).f2)] 39 (0, 0)) (by (with_reducible repeat (first | refine blk_drewN ?_ _ | refine blk_drew ?_ | refine blk_alloc ?_ _)); exact put3 b2) hb); have b0 := Aside0.mk (below_step (bw2 HB a5 c2) hb); clear a0; clear b2; clear HB; have a0 := a2; have b2 := a3; have HB := b0; clear a2 a3 b0; (try clear hb); (try clear hb2); (try clear hk); (try clear hi)))); go_roundg k2
                    case measure => have := f6.out; have := g1.out; omega
                    case rel => exact ⟨(wrap64 (a4 + 1)), au4, H', ⟨by have := f6.out; have := g1.out; omega⟩, ⟨pq a0⟩, ⟨bw2 HB a5 c2⟩⟩
                  · rw [if_neg b6] at H; have c25b0 : (b5 == 0) = false := beq_eq_false_iff_ne.mpr b6; have c25b1 : (b5 != 0) = true := bne_iff_ne.mpr b6; obtain rfl := Option.some.inj H; have b7 : 0 ≤ (a4 : Int) := of_decide_eq_true au6; have b8 : a4 < (a1.length : Int) := of_decide_eq_true au6; obtain ⟨e6, e7, b9, c0, c1⟩ := at_T39 d8.out a4 b7 b8; cases e7; replace b9 := (HB.out.cell (World.block_lt_of_cell? w _ b9)).trans b9; replace c0 := (HB.out.cell (World.block_lt_of_cell? w _ c0)).trans c0; replace c1 := (HB.out.cell (World.block_lt_of_cell? w _ c1)).trans c1; replace b7 := eq_true b7; replace b8 := eq_true b8; (go_wp2_with (first | ((with_reducible refine gate_dst (N := 4) rfl ?_); refine box_event ?hg (N := 4) ?hd (cs := #[.string (⟨#[]⟩ : ByteArray), .string (⟨#[]⟩ : ByteArray), .int .i64 0]) (t := 39) ?hr ?_; (case hd => rfl); (case hg => rfl); (case hr => first | (go_simp; done) | (go_simp; rfl)); intro b1 hg w30 hbox hb; have a2 := Aside0.mk (blk_below (g := a6) (pk a0) hb); have a3 := Aside0.mk (below_step (bw1 HB a5) hb); have b0 := Aside0.mk (hbox); have b4 := Aside0.mk ((by rw [hg]; exact (below_size (bw1 HB a5)) : w.heap.size ≤ b1)); have c8 := Aside0.mk ((by rw [hg]; exact (below_size (bw1 HB a5)) : w.heap.size ≤ b1)); have c9 := Aside0.mk ((ne_lt hg (pk a0) : a6 ≠ b1)); have d0 := Aside0.mk ((ne_gt hg (pk a0) : b1 ≠ a6)); clear a0; clear HB; have a0 := a2; have HB := a3; have b2 := b0; have k3 := b4; have c2 := c8; have d1 := c9; have e8 := d0; clear a2 a3 b0 b4 c8 c9 d0; clear hb hbox hg; have m5 := e8.out; have m6 := d1.out; obtain ⟨m7, m8, m9⟩ := cz3 b2; obtain ⟨n0, n1, n2⟩ := fz3 b2) | ((with_reducible refine gate_callee (f := 73) rfl ?_); refine goesL_ (some 36) rfl rfl Tryd.func73 (by kernel_rfl) rfl #[.agg #[.string ((rd_T39 a1 a4).f0), .string ((rd_T39 a1 a4).f1), .int .i64 ((rd_T39 a1 a4).f2)]] rfl au1 ?_; (with_reducible refine (spec_target.calls ((rd_T39 a1 a4).f0) ((rd_T39 a1 a4).f1) ((rd_T39 a1 a4).f2) b5 _ ?side1 g3.out).mono ?_); (case side1 => first | exact hLd_.out | exact hLd_ | exact ⟨LaidW.below hLd_.out (bw2 HB a5 c2)⟩ | exact ⟨LaidW.below hLd_.out (by repeat (first | exact Below.refl _ _ | apply below_alloc | apply pw_below_drewN | apply below_drew1))⟩); rintro e w33 ⟨rfl, hb⟩; refine ⟨_, rfl, ?_⟩; have a2 := Aside0.mk (blk_below (g := a6) (o := .cells #[.string a8, .string a9, .slice (some e6) a1.length b3, .int .i64 a7] 26 (0, 0)) (by (repeat ((with_reducible repeat (first | refine blk_drewN ?_ _ | refine blk_drew ?_ | refine blk_alloc ?_ _)); with_reducible refine blk_far ?_ d1.out _)); (with_reducible repeat (first | refine blk_drewN ?_ _ | refine blk_drew ?_ | refine blk_alloc ?_ _)); exact a0.out) hb); have a3 := Aside0.mk (blk_below (g := b1) (o := .cells #[.string ((rd_T39 a1 a4).f0), .string ((rd_T39 a1 a4).f1), .int .i64 ((rd_T39 a1 a4).f2)] 39 (0, 0)) (by (with_reducible repeat (first | refine blk_drewN ?_ _ | refine blk_drew ?_ | refine blk_alloc ?_ _)); exact put3 b2) hb); have b0 := Aside0.mk (below_step (bw2 HB a5 c2) hb); clear a0; clear b2; clear HB; have a0 := a2; have b2 := a3; have HB := b0; clear a2 a3 b0; (try clear hb); (try clear hb2); (try clear hk); (try clear hi)))); go_ret; exact ⟨au3, bw2 HB a5 c2⟩
                · rw [if_neg c4] at H; have c21b0 : decide (a4 < (a1.length : Int)) = false := decide_eq_false c4; clear c4; replace H := Option.bind_eq_some_iff.mp H; obtain ⟨k4, g4, H⟩ := H
                  (try dsimp only at H)
                  have k5 := Aside0.mk g4; clear g4; obtain rfl := Option.some.inj H; obtain ⟨n3, n4, n5, n6⟩ := cz4 a0; obtain ⟨n7, n8, n9, o0⟩ := fz4 a0; go_wp2_with (first | ((with_reducible refine gate_callee (f := 74) rfl ?_); refine goesL_ (some 43) rfl rfl Tryd.func74 (by kernel_rfl) rfl #[.slice c3 a1.length b3] rfl au1 ?_; (with_reducible refine (spec_all.calls _ _ a1 k4 _ ?side1 ?side2 k5.out).mono ?_); (case side1 => exact ca ((Kd.C_below d8.out HB.out))); (case side2 => exact g5.out); rintro e w36 ⟨rfl, hb⟩; refine ⟨_, rfl, ?_⟩; have a2 := Aside0.mk (blk_below (g := a6) (pk a0) hb); have a3 := Aside0.mk (below_step (bw1 HB a5) hb); clear a0; clear HB; have a0 := a2; have HB := a3; clear a2 a3; (try clear hb); (try clear hb2); (try clear hk); (try clear hi))); go_ret; exact ⟨au3, bw1 HB a5⟩
          · replace d5 := Bool.eq_false_iff.mpr d5; subst d5; rw [if_neg (show ¬ (false = true) by decide)] at H; obtain rfl := Option.some.inj H; obtain ⟨o1, o2, o3, o4⟩ := cz4 a0; obtain ⟨o5, o6, o7, o8⟩ := fz4 a0; go_wp2_with (first | ((with_reducible refine gate_callee (f := 72) rfl ?_); refine goesL_ (some 19) rfl rfl Tryd.func72 (by kernel_rfl) rfl #[.agg #[.int .i64 0, .int .i64 60], .int .i64 a7] rfl au1 ?_; (with_reducible refine (spec_span_has.calls 0 60 a7 true _ e5.out).mono ?_); rintro e w38 ⟨rfl, hb⟩; refine ⟨_, rfl, ?_⟩; have a2 := Aside0.mk (blk_below (g := a6) (pk a0) hb); have a3 := Aside0.mk (below_step (bw1 HB a5) hb); clear a0; clear HB; have a0 := a2; have HB := a3; clear a2 a3; (try clear hb); (try clear hb2); (try clear hk); (try clear hi); obtain ⟨o9, p0, p1, p2⟩ := cz4 a0; obtain ⟨p3, p4, p5, p6⟩ := fz4 a0) | ((with_reducible refine gate_callee (f := 72) rfl ?_); refine goesL_ (some 26) rfl rfl Tryd.func72 (by kernel_rfl) rfl #[.agg #[.int .i64 1, .int .i64 6], .int .i64 (a1.length : Int)] rfl au1 ?_; (with_reducible refine (spec_span_has.calls 1 6 (a1.length : Int) false _ g0.out).mono ?_); rintro e w40 ⟨rfl, hb⟩; refine ⟨_, rfl, ?_⟩; have a2 := Aside0.mk (blk_below (g := a6) (pk a0) hb); have a3 := Aside0.mk (below_step (bw1 HB a5) hb); clear a0; clear HB; have a0 := a2; have HB := a3; clear a2 a3; (try clear hb); (try clear hb2); (try clear hk); (try clear hi))); go_ret; exact ⟨au3, bw1 HB a5⟩
        · replace d4 := Bool.eq_false_iff.mpr d4; subst d4; rw [if_neg (show ¬ (false = true) by decide)] at H; obtain rfl := Option.some.inj H; obtain ⟨p7, p8, p9, q0⟩ := cz4 a0; obtain ⟨q1, q2, q3, q4⟩ := fz4 a0; go_wp2_with (first | ((with_reducible refine gate_callee (f := 72) rfl ?_); refine goesL_ (some 19) rfl rfl Tryd.func72 (by kernel_rfl) rfl #[.agg #[.int .i64 0, .int .i64 60], .int .i64 a7] rfl au1 ?_; (with_reducible refine (spec_span_has.calls 0 60 a7 false _ e5.out).mono ?_); rintro e w42 ⟨rfl, hb⟩; refine ⟨_, rfl, ?_⟩; have a2 := Aside0.mk (blk_below (g := a6) (pk a0) hb); have a3 := Aside0.mk (below_step (bw1 HB a5) hb); clear a0; clear HB; have a0 := a2; have HB := a3; clear a2 a3; (try clear hb); (try clear hb2); (try clear hk); (try clear hi))); go_ret; exact ⟨au3, bw1 HB a5⟩
end

end Go.Proofs.YtalpoojepffldaaDoor.Ma
