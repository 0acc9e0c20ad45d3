-- Written by a program of this session (wip/tools/pack.py) out of its printed parts. Not trusted: Lean checks it.
import Derived.Test.YtalpoojepffldaaDoorMax0
namespace Go.Proofs.YtalpoojepffldaaDoor.Ma
open Go.RowKit Go.Proofs.YtalpoojepffldaaDoorW.PrintWords Go.Proofs.YtalpoojepffldaaDoorW.PrintLast Go.Proofs.YtalpoojepffldaaDoorW.PrintMore
attribute [local go_sem] max2_int min2_int max_two min_two max_three min_three max_four min_four   -- for this text's walks alone
set_option linter.unusedVariables false
set_option linter.unusedSimpArgs false

section
/-! ### event_shape: function 30 -/
mutual
def event_shape.j0 : Nat → Int → Bool → Option (Bool × Bool × Bool × Bool × Bool × Bool × Bool)
  | 0, _, _ => none
  | k + 1, x4, a0 => if a0 = true then (some (true, false, false, false, false, false, true)) else (if x4 = 9 then (some (false, false, false, false, false, false, true)) else (if x4 = 10 then (event_shape.j1 k (x4 == 10)) else (if x4 = 11 then (event_shape.j1 k (x4 == 11)) else (if x4 = 12 then (event_shape.j1 k (x4 == 12)) else (event_shape.j1 k (x4 == 13))))))
def event_shape.j1 : Nat → Bool → Option (Bool × Bool × Bool × Bool × Bool × Bool × Bool)
  | 0, _ => none
  | k + 1, a1 => if a1 = true then (some (false, true, false, false, false, false, true)) else (some (false, false, false, false, false, false, false))
end
def event_shape.f (k : Nat) (a0 : Int) : Option (Bool × Bool × Bool × Bool × Bool × Bool × Bool) := if a0 = 1 then (some (true, false, false, false, true, false, true)) else (if a0 = 2 then (some (true, false, false, false, false, true, true)) else (if a0 = 3 then (some (true, true, false, true, false, false, true)) else (if a0 = 4 then (some (true, true, true, true, false, false, true)) else (if a0 = 5 then (event_shape.j0 k a0 (a0 == 5)) else (if a0 = 6 then (event_shape.j0 k a0 (a0 == 6)) else (if a0 = 7 then (event_shape.j0 k a0 (a0 == 7)) else (event_shape.j0 k a0 (a0 == 8))))))))
set_option maxHeartbeats 8000000 in
set_option maxRecDepth 100000 in
theorem event_shape.calls (k : Nat) (a0 : Int) (r1 : Bool) (r2 : Bool) (r3 : Bool) (r4 : Bool) (r5 : Bool) (r6 : Bool) (r7 : Bool) (w : World) (h : event_shape.f k a0 = some (r1, r2, r3, r4, r5, r6, r7)) :
    Calls Tryd.prog 30 #[.int .i64 a0] w fun e w' => e = .returned (.tuple #[.agg #[.bool r1, .bool r2, .bool r3, .bool r4, .bool r5, .bool r6], .bool r7]) ∧ Below w.heap.size w w' := by
  have hu66 := Tryd.underlying66; have HB := Aside0.mk (Below.refl w.heap.size w); have H : (if a0 = 1 then (some (true, false, false, false, true, false, true)) else (if a0 = 2 then (some (true, false, false, false, false, true, true)) else (if a0 = 3 then (some (true, true, false, true, false, false, true)) else (if a0 = 4 then (some (true, true, true, true, false, false, true)) else (if a0 = 5 then (event_shape.j0 k a0 (a0 == 5)) else (if a0 = 6 then (event_shape.j0 k a0 (a0 == 6)) else (if a0 = 7 then (event_shape.j0 k a0 (a0 == 7)) else (event_shape.j0 k a0 (a0 == 8))))))))) = some (r1, r2, r3, r4, r5, r6, r7) := h; clear h; by_cases c2 : a0 = 1
  · rw [if_pos c2] at H; have c2b0 : (a0 == 1) = true := beq_iff_eq.mpr c2; have c2b1 : (a0 != 1) = false := bne_eq_false_iff_eq.mpr c2; clear c2; simp only [Option.some.injEq, Prod.mk.injEq] at H; obtain ⟨rfl, rfl, rfl, rfl, rfl, rfl, rfl⟩ := H; go_enter Tryd.func30, Tryd.ntmps30; go_wp2_with (first | ((with_reducible refine gate_dst (N := 2) rfl ?_); refine box_event ?hg (N := 2) ?hd (cs := #[.bool false, .bool false, .bool false, .bool false, .bool false, .bool false]) (t := 66) ?hr ?_; (case hd => rfl); (case hg => rfl); (case hr => first | (go_simp; done) | (go_simp; rfl)); intro a2 hg w3 hbox hb; have a4 := Aside0.mk (below_step (bw0 HB) hb); have a5 := Aside0.mk (hbox); have a6 := Aside0.mk ((by rw [hg]; exact (below_size (bw0 HB)) : w.heap.size ≤ a2)); have a7 := Aside0.mk ((by rw [hg]; exact (below_size (bw0 HB)) : w.heap.size ≤ a2)); clear HB; have HB := a4; have a1 := a5; have b8 := a6; have a3 := a7; clear a4 a5 a6 a7; clear hb hbox hg; obtain ⟨d0, d1, d2, d3, d4, d5⟩ := cz6 a1; obtain ⟨d6, d7, d8, d9, e0, e1⟩ := fz6 a1)); refine bodyPost_ret (results_ct rfl _ _ a2 66 #[.bool true, .bool false, .bool false, .bool false, .bool true, .bool false] (0, 0) _ rfl (by (with_reducible repeat (first | refine blk_drewN ?_ _ | refine blk_drew ?_ | refine blk_alloc ?_ _)); exact put6 a1) Tryd.underlying66 rfl (by kernel_rfl)) rfl ?_; exact ⟨au3, bw1 HB a3⟩
  · rw [if_neg c2] at H; have c2b0 : (a0 == 1) = false := beq_eq_false_iff_ne.mpr c2; have c2b1 : (a0 != 1) = true := bne_iff_ne.mpr c2; by_cases c5 : a0 = 2
    · rw [if_pos c5] at H; have c5b0 : (a0 == 2) = true := beq_iff_eq.mpr c5; have c5b1 : (a0 != 2) = false := bne_eq_false_iff_eq.mpr c5; clear c5; simp only [Option.some.injEq, Prod.mk.injEq] at H; obtain ⟨rfl, rfl, rfl, rfl, rfl, rfl, rfl⟩ := H; go_enter Tryd.func30, Tryd.ntmps30; go_wp2_with (first | ((with_reducible refine gate_dst (N := 2) rfl ?_); refine box_event ?hg (N := 2) ?hd (cs := #[.bool false, .bool false, .bool false, .bool false, .bool false, .bool false]) (t := 66) ?hr ?_; (case hd => rfl); (case hg => rfl); (case hr => first | (go_simp; done) | (go_simp; rfl)); intro a2 hg w6 hbox hb; have a4 := Aside0.mk (below_step (bw0 HB) hb); have a5 := Aside0.mk (hbox); have a6 := Aside0.mk ((by rw [hg]; exact (below_size (bw0 HB)) : w.heap.size ≤ a2)); have a7 := Aside0.mk ((by rw [hg]; exact (below_size (bw0 HB)) : w.heap.size ≤ a2)); clear HB; have HB := a4; have a1 := a5; have b8 := a6; have a3 := a7; clear a4 a5 a6 a7; clear hb hbox hg; obtain ⟨e2, e3, e4, e5, e6, e7⟩ := cz6 a1; obtain ⟨e8, e9, f0, f1, f2, f3⟩ := fz6 a1)); refine bodyPost_ret (results_ct rfl _ _ a2 66 #[.bool true, .bool false, .bool false, .bool false, .bool false, .bool true] (0, 0) _ rfl (by (with_reducible repeat (first | refine blk_drewN ?_ _ | refine blk_drew ?_ | refine blk_alloc ?_ _)); exact put6 a1) Tryd.underlying66 rfl (by kernel_rfl)) rfl ?_; exact ⟨au3, bw1 HB a3⟩
    · rw [if_neg c5] at H; have c5b0 : (a0 == 2) = false := beq_eq_false_iff_ne.mpr c5; have c5b1 : (a0 != 2) = true := bne_iff_ne.mpr c5; by_cases c8 : a0 = 3
      · rw [if_pos c8] at H; have c8b0 : (a0 == 3) = true := beq_iff_eq.mpr c8; have c8b1 : (a0 != 3) = false := bne_eq_false_iff_eq.mpr c8; clear c8; simp only [Option.some.injEq, Prod.mk.injEq] at H; obtain ⟨rfl, rfl, rfl, rfl, rfl, rfl, rfl⟩ := H; go_enter Tryd.func30, Tryd.ntmps30; go_wp2_with (first | ((with_reducible refine gate_dst (N := 2) rfl ?_); refine box_event ?hg (N := 2) ?hd (cs := #[.bool false, .bool false, .bool false, .bool false, .bool false, .bool false]) (t := 66) ?hr ?_; (case hd => rfl); (case hg => rfl); (case hr => first | (go_simp; done) | (go_simp; rfl)); intro a2 hg w9 hbox hb; have a4 := Aside0.mk (below_step (bw0 HB) hb); have a5 := Aside0.mk (hbox); have a6 := Aside0.mk ((by rw [hg]; exact (below_size (bw0 HB)) : w.heap.size ≤ a2)); have a7 := Aside0.mk ((by rw [hg]; exact (below_size (bw0 HB)) : w.heap.size ≤ a2)); clear HB; have HB := a4; have a1 := a5; have b8 := a6; have a3 := a7; clear a4 a5 a6 a7; clear hb hbox hg; obtain ⟨f4, f5, f6, f7, f8, f9⟩ := cz6 a1; obtain ⟨g0, g1, g2, g3, g4, g5⟩ := fz6 a1)); refine bodyPost_ret (results_ct rfl _ _ a2 66 #[.bool true, .bool true, .bool false, .bool true, .bool false, .bool false] (0, 0) _ rfl (by (with_reducible repeat (first | refine blk_drewN ?_ _ | refine blk_drew ?_ | refine blk_alloc ?_ _)); exact put6 a1) Tryd.underlying66 rfl (by kernel_rfl)) rfl ?_; exact ⟨au3, bw1 HB a3⟩
      · rw [if_neg c8] at H; have c8b0 : (a0 == 3) = false := beq_eq_false_iff_ne.mpr c8; have c8b1 : (a0 != 3) = true := bne_iff_ne.mpr c8; by_cases a8 : a0 = 4
        · rw [if_pos a8] at H; have c11b0 : (a0 == 4) = true := beq_iff_eq.mpr a8; have c11b1 : (a0 != 4) = false := bne_eq_false_iff_eq.mpr a8; clear a8; simp only [Option.some.injEq, Prod.mk.injEq] at H; obtain ⟨rfl, rfl, rfl, rfl, rfl, rfl, rfl⟩ := H; go_enter Tryd.func30, Tryd.ntmps30; go_wp2_with (first | ((with_reducible refine gate_dst (N := 2) rfl ?_); refine box_event ?hg (N := 2) ?hd (cs := #[.bool false, .bool false, .bool false, .bool false, .bool false, .bool false]) (t := 66) ?hr ?_; (case hd => rfl); (case hg => rfl); (case hr => first | (go_simp; done) | (go_simp; rfl)); intro a2 hg w12 hbox hb; have a4 := Aside0.mk (below_step (bw0 HB) hb); have a5 := Aside0.mk (hbox); have a6 := Aside0.mk ((by rw [hg]; exact (below_size (bw0 HB)) : w.heap.size ≤ a2)); have a7 := Aside0.mk ((by rw [hg]; exact (below_size (bw0 HB)) : w.heap.size ≤ a2)); clear HB; have HB := a4; have a1 := a5; have b8 := a6; have a3 := a7; clear a4 a5 a6 a7; clear hb hbox hg; obtain ⟨g6, g7, g8, g9, h0, h1⟩ := cz6 a1; obtain ⟨h2, h3, h4, h5, h6, h7⟩ := fz6 a1)); refine bodyPost_ret (results_ct rfl _ _ a2 66 #[.bool true, .bool true, .bool true, .bool true, .bool false, .bool false] (0, 0) _ rfl (by (with_reducible repeat (first | refine blk_drewN ?_ _ | refine blk_drew ?_ | refine blk_alloc ?_ _)); exact put6 a1) Tryd.underlying66 rfl (by kernel_rfl)) rfl ?_; exact ⟨au3, bw1 HB a3⟩
        · rw [if_neg a8] at H; have c11b0 : (a0 == 4) = false := beq_eq_false_iff_ne.mpr a8; have c11b1 : (a0 != 4) = true := bne_iff_ne.mpr a8; have c4 := Aside0.mk H; clear H; go_enter Tryd.func30, Tryd.ntmps30; go_upto_if 17 with (first | ((with_reducible refine gate_dst (N := 2) rfl ?_); refine box_event ?hg (N := 2) ?hd (cs := #[.bool false, .bool false, .bool false, .bool false, .bool false, .bool false]) (t := 66) ?hr ?_; (case hd => rfl); (case hg => rfl); (case hr => first | (go_simp; done) | (go_simp; rfl)); intro a2 hg w15 hbox hb; have a4 := Aside0.mk (below_step (bw0 HB) hb); have a5 := Aside0.mk (hbox); have a6 := Aside0.mk ((by rw [hg]; exact (below_size (bw0 HB)) : w.heap.size ≤ a2)); have a7 := Aside0.mk ((by rw [hg]; exact (below_size (bw0 HB)) : w.heap.size ≤ a2)); clear HB; have HB := a4; have a1 := a5; have b8 := a6; have a3 := a7; clear a4 a5 a6 a7; clear hb hbox hg))
          (try simp only [Act.put, List.setIfInBounds_toArray, List.set_cons_zero, List.set_cons_succ])
          go_cut [17] (fun c7 wc => ∃ (kq : Nat) (b9 : Bool), c7 = .bool b9 ∧ Aside0 (event_shape.j0 kq a0 b9 = some (r1, r2, r3, r4, r5, r6, r7)) ∧ Aside0 (kq ≤ k) ∧ Aside0 (wc.heap[a2]? = some (.cells #[.bool false, .bool false, .bool false, .bool false, .bool false, .bool false] 66 (0, 0))) ∧ Aside0 (Below w.heap.size w wc))
          case first =>
            have H := c4.out; clear c4; by_cases a9 : a0 = 5
            · rw [if_pos a9] at H; have c16b0 : (a0 == 5) = true := beq_iff_eq.mpr a9; have c16b1 : (a0 != 5) = false := bne_eq_false_iff_eq.mpr a9; clear a9
              (first | rw [c16b0] | (simp only [i64_w, i32_w]; rw [c16b0]) | rw [c16b1] | skip)
              have H' := Aside0.mk H; clear H; go_wp2; go_meet
              case rel => exact ⟨_, ((a0 == 5)), au4, H', ⟨au5⟩, ⟨pq a1⟩, ⟨bw1 HB a3⟩⟩
            · rw [if_neg a9] at H; have c16b0 : (a0 == 5) = false := beq_eq_false_iff_ne.mpr a9; have c16b1 : (a0 != 5) = true := bne_iff_ne.mpr a9
              (first | rw [c16b0] | (simp only [i64_w, i32_w]; rw [c16b0]) | rw [c16b1] | skip)
              by_cases b0 : a0 = 6
              · rw [if_pos b0] at H; have c17b0 : (a0 == 6) = true := beq_iff_eq.mpr b0; have c17b1 : (a0 != 6) = false := bne_eq_false_iff_eq.mpr b0; clear b0; have H' := Aside0.mk H; clear H; go_wp2; go_meet
                case rel => exact ⟨_, ((a0 == 6)), au4, H', ⟨au5⟩, ⟨pq a1⟩, ⟨bw1 HB a3⟩⟩
              · rw [if_neg b0] at H; have c17b0 : (a0 == 6) = false := beq_eq_false_iff_ne.mpr b0; have c17b1 : (a0 != 6) = true := bne_iff_ne.mpr b0; by_cases b1 : a0 = 7
                · rw [if_pos b1] at H; have c18b0 : (a0 == 7) = true := beq_iff_eq.mpr b1; have c18b1 : (a0 != 7) = false := bne_eq_false_iff_eq.mpr b1; clear b1; have H' := Aside0.mk H; clear H; go_wp2; go_meet
                  case rel => exact ⟨_, ((a0 == 7)), au4, H', ⟨au5⟩, ⟨pq a1⟩, ⟨bw1 HB a3⟩⟩
                · rw [if_neg b1] at H; have c18b0 : (a0 == 7) = false := beq_eq_false_iff_ne.mpr b1; have c18b1 : (a0 != 7) = true := bne_iff_ne.mpr b1; have H' := Aside0.mk H; clear H; go_wp2; go_meet
                  case rel => exact ⟨_, ((a0 == 8)), au4, H', ⟨au5⟩, ⟨pq a1⟩, ⟨bw1 HB a3⟩⟩
          case rest =>
            clear c4; (try clear c2b0 c2b1 c5b0 c5b1 c8b0 c8b1 c11b0 c11b1); obtain ⟨kq, b9, rfl, HA, c0, a1, HB⟩ := hcut
            cases kq with
            | zero => exact absurd HA.out (by simp [event_shape.j0])
            | succ b6 =>
              have H := HA.out; clear HA; simp only [event_shape.j0] at H; by_cases b7 : b9 = true
              · subst b7; (have H1 : (some (true, false, false, false, false, false, true)) = some (r1, r2, r3, r4, r5, r6, r7) := by rw [if_pos rfl] at H; exact H); clear H; have H := H1; clear H1; simp only [Option.some.injEq, Prod.mk.injEq] at H; obtain ⟨rfl, rfl, rfl, rfl, rfl, rfl, rfl⟩ := H; obtain ⟨h8, h9, i0, i1, i2, i3⟩ := cz6 a1; obtain ⟨i4, i5, i6, i7, i8, i9⟩ := fz6 a1; go_wp2; refine bodyPost_ret (results_ct rfl _ _ a2 66 #[.bool true, .bool false, .bool false, .bool false, .bool false, .bool false] (0, 0) _ rfl (by (with_reducible repeat (first | refine blk_drewN ?_ _ | refine blk_drew ?_ | refine blk_alloc ?_ _)); exact put6 a1) Tryd.underlying66 rfl (by kernel_rfl)) rfl ?_; exact ⟨au3, bw1 HB a3⟩
              · replace b7 := Bool.eq_false_iff.mpr b7; subst b7; (have H1 : (if a0 = 9 then (some (false, false, false, false, false, false, true)) else (if a0 = 10 then (event_shape.j1 b6 (a0 == 10)) else (if a0 = 11 then (event_shape.j1 b6 (a0 == 11)) else (if a0 = 12 then (event_shape.j1 b6 (a0 == 12)) else (event_shape.j1 b6 (a0 == 13)))))) = some (r1, r2, r3, r4, r5, r6, r7) := by rw [if_neg (show ¬ (false = true) by decide)] at H; exact H); clear H; have H := H1; clear H1; by_cases b2 : a0 = 9
                · rw [if_pos b2] at H; have c21b0 : (a0 == 9) = true := beq_iff_eq.mpr b2; have c21b1 : (a0 != 9) = false := bne_eq_false_iff_eq.mpr b2; clear b2; simp only [Option.some.injEq, Prod.mk.injEq] at H; obtain ⟨rfl, rfl, rfl, rfl, rfl, rfl, rfl⟩ := H; obtain ⟨j2, j3, j4, j5, j6, j7⟩ := cz6 a1; obtain ⟨j8, j9, k0, k1, k2, k3⟩ := fz6 a1; go_wp2; refine bodyPost_ret (results_ct rfl _ _ a2 66 #[.bool false, .bool false, .bool false, .bool false, .bool false, .bool false] (0, 0) _ rfl (by (with_reducible repeat (first | refine blk_drewN ?_ _ | refine blk_drew ?_ | refine blk_alloc ?_ _)); exact put6 a1) Tryd.underlying66 rfl (by kernel_rfl)) rfl ?_; exact ⟨au3, bw1 HB a3⟩
                · rw [if_neg b2] at H; have c21b0 : (a0 == 9) = false := beq_eq_false_iff_ne.mpr b2; have c21b1 : (a0 != 9) = true := bne_iff_ne.mpr b2; have c6 := Aside0.mk H; clear H; go_upto_if 26 with (fail); go_cut [26] (fun c9 wc => ∃ (kq : Nat) (c1 : Bool), c9 = .bool c1 ∧ Aside0 (event_shape.j1 kq c1 = some (r1, r2, r3, r4, r5, r6, r7)) ∧ Aside0 (kq ≤ b6) ∧ Aside0 (wc.heap[a2]? = some (.cells #[.bool false, .bool false, .bool false, .bool false, .bool false, .bool false] 66 (0, 0))) ∧ Aside0 (Below w.heap.size w wc))
                  case first =>
                    have H := c6.out; clear c6; by_cases b3 : a0 = 10
                    · rw [if_pos b3] at H; have c24b0 : (a0 == 10) = true := beq_iff_eq.mpr b3; have c24b1 : (a0 != 10) = false := bne_eq_false_iff_eq.mpr b3; clear b3
                      (first | rw [c24b0] | (simp only [i64_w, i32_w]; rw [c24b0]) | rw [c24b1] | skip)
                      have H' := Aside0.mk H; clear H; go_wp2; go_meet
                      case rel => exact ⟨_, ((a0 == 10)), au4, H', ⟨by have := c0.out; first | omega | exact Nat.le_refl _⟩, ⟨pq a1⟩, ⟨bw1 HB a3⟩⟩
                    · rw [if_neg b3] at H; have c24b0 : (a0 == 10) = false := beq_eq_false_iff_ne.mpr b3; have c24b1 : (a0 != 10) = true := bne_iff_ne.mpr b3
                      (first | rw [c24b0] | (simp only [i64_w, i32_w]; rw [c24b0]) | rw [c24b1] | skip)
                      by_cases b4 : a0 = 11
                      · rw [if_pos b4] at H; have c25b0 : (a0 == 11) = true := beq_iff_eq.mpr b4; have c25b1 : (a0 != 11) = false := bne_eq_false_iff_eq.mpr b4; clear b4; have H' := Aside0.mk H; clear H; go_wp2; go_meet
                        case rel => exact ⟨_, ((a0 == 11)), au4, H', ⟨by have := c0.out; first | omega | exact Nat.le_refl _⟩, ⟨pq a1⟩, ⟨bw1 HB a3⟩⟩
                      · rw [if_neg b4] at H; have c25b0 : (a0 == 11) = false := beq_eq_false_iff_ne.mpr b4; have c25b1 : (a0 != 11) = true := bne_iff_ne.mpr b4; by_cases b5 : a0 = 12
                        · rw [if_pos b5] at H; have c26b0 : (a0 == 12) = true := beq_iff_eq.mpr b5; have c26b1 : (a0 != 12) = false := bne_eq_false_iff_eq.mpr b5; clear b5; have H' := Aside0.mk H; clear H; go_wp2; go_meet
                          case rel => exact ⟨_, ((a0 == 12)), au4, H', ⟨by have := c0.out; first | omega | exact Nat.le_refl _⟩, ⟨pq a1⟩, ⟨bw1 HB a3⟩⟩
                        · rw [if_neg b5] at H; have c26b0 : (a0 == 12) = false := beq_eq_false_iff_ne.mpr b5; have c26b1 : (a0 != 12) = true := bne_iff_ne.mpr b5; have H' := Aside0.mk H; clear H; go_wp2; go_meet
                          case rel => exact ⟨_, ((a0 == 13)), au4, H', ⟨by have := c0.out; first | omega | exact Nat.le_refl _⟩, ⟨pq a1⟩, ⟨bw1 HB a3⟩⟩
                  case rest =>
                    clear c6; (try clear b7 c21b0 c21b1); obtain ⟨kq, c1, rfl, HA, HJ22, a1, HB⟩ := hcut
                    cases kq with
                    | zero => exact absurd HA.out (by simp [event_shape.j1])
                    | succ kj22 =>
                      have H := HA.out; clear HA; simp only [event_shape.j1] at H; by_cases c3 : c1 = true
                      · subst c3; (have H1 : (some (false, true, false, false, false, false, true)) = some (r1, r2, r3, r4, r5, r6, r7) := by rw [if_pos rfl] at H; exact H); clear H; have H := H1; clear H1; simp only [Option.some.injEq, Prod.mk.injEq] at H; obtain ⟨rfl, rfl, rfl, rfl, rfl, rfl, rfl⟩ := H; obtain ⟨k4, k5, k6, k7, k8, k9⟩ := cz6 a1; obtain ⟨l0, l1, l2, l3, l4, l5⟩ := fz6 a1; go_wp2; refine bodyPost_ret (results_ct rfl _ _ a2 66 #[.bool false, .bool true, .bool false, .bool false, .bool false, .bool false] (0, 0) _ rfl (by (with_reducible repeat (first | refine blk_drewN ?_ _ | refine blk_drew ?_ | refine blk_alloc ?_ _)); exact put6 a1) Tryd.underlying66 rfl (by kernel_rfl)) rfl ?_; exact ⟨au3, bw1 HB a3⟩
                      · replace c3 := Bool.eq_false_iff.mpr c3; subst c3; (have H1 : (some (false, false, false, false, false, false, false)) = some (r1, r2, r3, r4, r5, r6, r7) := by rw [if_neg (show ¬ (false = true) by decide)] at H; exact H); clear H; have H := H1; clear H1; simp only [Option.some.injEq, Prod.mk.injEq] at H; obtain ⟨rfl, rfl, rfl, rfl, rfl, rfl, rfl⟩ := H; obtain ⟨l6, l7, l8, l9, m0, m1⟩ := cz6 a1; obtain ⟨m2, m3, m4, m5, m6, m7⟩ := fz6 a1; go_wp2; refine bodyPost_ret (results_ct rfl _ _ a2 66 #[.bool false, .bool false, .bool false, .bool false, .bool false, .bool false] (0, 0) _ rfl (by (with_reducible repeat (first | refine blk_drewN ?_ _ | refine blk_drew ?_ | refine blk_alloc ?_ _)); exact put6 a1) Tryd.underlying66 rfl (by kernel_rfl)) rfl ?_; exact ⟨au3, bw1 HB a3⟩
end

section
theorem eqA23 (d : Nat) (w : World) (x0 y0 : ByteArray) (x1 y1 : Int) (x2 y2 : Int) (x3 y3 : Int) (x4 y4 : Int) (x5 y5 : Int) :
    (Op.equalIn (d + 2) 23 (.agg #[.string x0, .int .i64 x1, .int .i64 x2, .int .i64 x3, .int .i64 x4, .int .i64 x5]) (.agg #[.string y0, .int .i64 y1, .int .i64 y2, .int .i64 y3, .int .i64 y4, .int .i64 y5])).run Tryd.prog w = .ok (x0.toList == y0.toList && (x1 == y1 && (x2 == y2 && (x3 == y3 && (x4 == y4 && (x5 == y5)))))) w := by
  refine eqA_of Tryd.underlying23 (by kernel_rfl) ?_; refine eqf_cons (by rfl) (by go_simp; rfl) (by go_simp; rfl) (by go_simp) ?_; refine eqf_cons (by rfl) (by go_simp; rfl) (by go_simp; rfl) (by go_simp) ?_; refine eqf_cons (by rfl) (by go_simp; rfl) (by go_simp; rfl) (by go_simp) ?_; refine eqf_cons (by rfl) (by go_simp; rfl) (by go_simp; rfl) (by go_simp) ?_; refine eqf_cons (by rfl) (by go_simp; rfl) (by go_simp; rfl) (by go_simp) ?_; exact eqf_last (by rfl) (by go_simp; rfl) (by go_simp; rfl) (by go_simp)
end
attribute [local go_sem high] eqA23

section
/-! ### event_none_int: function 31 -/
def event_none_int.f (a0 : Bool) (a1 : Int) : Option (Bool) := if a0 = true then (some true) else (some (a1 == 0))
set_option maxHeartbeats 8000000 in
set_option maxRecDepth 100000 in
theorem event_none_int.calls (a0 : Bool) (a1 : Int) (r : Bool) (w : World) (h : event_none_int.f a0 a1 = some r) :
    Calls Tryd.prog 31 #[.bool a0, .int .i64 a1] w fun e w' => e = .returned (.bool r) ∧ Drawn0 w w' := by
  have H : (if a0 = true then (some true) else (some (a1 == 0))) = some r := h; clear h; by_cases c3 : a0 = true
  · subst c3; rw [if_pos rfl] at H; obtain rfl := Option.some.inj H; go_enter Tryd.func31, Tryd.ntmps31; go_wp2; go_ret; exact ⟨au4, by repeat (first | exact Drawn0.refl _ | apply Drawn0.step)⟩
  · replace c3 := Bool.eq_false_iff.mpr c3; subst c3; rw [if_neg (show ¬ (false = true) by decide)] at H; obtain rfl := Option.some.inj H; go_enter Tryd.func31, Tryd.ntmps31; go_wp2; go_ret; exact ⟨au4, by repeat (first | exact Drawn0.refl _ | apply Drawn0.step)⟩
end

section
/-! ### event_none_string: function 32 -/
def event_none_string.f (a0 : Bool) (a1 : ByteArray) : Option (Bool) := if a0 = true then (some true) else (some (a1.toList == ([] : List UInt8)))
set_option maxHeartbeats 8000000 in
set_option maxRecDepth 100000 in
theorem event_none_string.calls (a0 : Bool) (a1 : ByteArray) (r : Bool) (w : World) (h : event_none_string.f a0 a1 = some r) :
    Calls Tryd.prog 32 #[.bool a0, .string a1] w fun e w' => e = .returned (.bool r) ∧ Drawn0 w w' := by
  have H : (if a0 = true then (some true) else (some (a1.toList == ([] : List UInt8)))) = some r := h; clear h; by_cases c3 : a0 = true
  · subst c3; rw [if_pos rfl] at H; obtain rfl := Option.some.inj H; go_enter Tryd.func32, Tryd.ntmps32; go_wp2; go_ret; exact ⟨au4, by repeat (first | exact Drawn0.refl _ | apply Drawn0.step)⟩
  · replace c3 := Bool.eq_false_iff.mpr c3; subst c3; rw [if_neg (show ¬ (false = true) by decide)] at H; obtain rfl := Option.some.inj H; go_enter Tryd.func32, Tryd.ntmps32; go_wp2; go_ret; exact ⟨au4, by repeat (first | exact Drawn0.refl _ | apply Drawn0.step)⟩
end

section
/-! ### api_Config: function 33 -/
def api_Config.f (a0 : Bool) (a1 : ByteArray) (a2 : Int) (a3 : Int) (a4 : Int) (a5 : Int) (a6 : Int) : Option (Bool) := if a0 = true then (some true) else (some (a1.toList == ([] : List UInt8) && (a2 == 0 && (a3 == 0 && (a4 == 0 && (a5 == 0 && (a6 == 0)))))))
set_option maxHeartbeats 8000000 in
set_option maxRecDepth 100000 in
theorem api_Config.calls (a0 : Bool) (a9 : ByteArray) (b0 : Int) (b1 : Int) (b2 : Int) (b3 : Int) (b4 : Int) (r : Bool) (w : World) (h : api_Config.f a0 a9 b0 b1 b2 b3 b4 = some r) :
    Calls Tryd.prog 33 #[.bool a0, .agg #[.string a9, .int .i64 b0, .int .i64 b1, .int .i64 b2, .int .i64 b3, .int .i64 b4]] w fun e w' => e = .returned (.bool r) ∧ Below w.heap.size w w' := by
  have hu23 := Tryd.underlying23; have HB := Aside0.mk (Below.refl w.heap.size w); have H : (if a0 = true then (some true) else (some (a9.toList == ([] : List UInt8) && (b0 == 0 && (b1 == 0 && (b2 == 0 && (b3 == 0 && (b4 == 0)))))))) = some r := h; clear h; by_cases c3 : a0 = true
  · subst c3; rw [if_pos rfl] at H; obtain rfl := Option.some.inj H; go_enter Tryd.func33, Tryd.ntmps33; go_wp2_with (first | ((with_reducible refine gate_dst (N := 3) rfl ?_); refine box_event ?hg (N := 3) ?hd (cs := #[.string a9, .int .i64 b0, .int .i64 b1, .int .i64 b2, .int .i64 b3, .int .i64 b4]) (t := 23) ?hr ?_; (case hd => rfl); (case hg => rfl); (case hr => first | (go_simp; done) | (go_simp; rfl)); intro a2 hg w4 hbox hb; have a3 := Aside0.mk (below_step (bw0 HB) hb); have a4 := Aside0.mk (hbox); have a5 := Aside0.mk ((by rw [hg]; exact (below_size (bw0 HB)) : w.heap.size ≤ a2)); have a6 := Aside0.mk ((by rw [hg]; exact (below_size (bw0 HB)) : w.heap.size ≤ a2)); clear HB; have HB := a3; have a1 := a4; have c2 := a5; have a7 := a6; clear a3 a4 a5 a6; clear hb hbox hg) | ((with_reducible refine gate_dst (N := 5) rfl ?_); refine box_event ?hg (N := 5) ?hd (cs := #[.string (⟨#[]⟩ : ByteArray), .int .i64 0, .int .i64 0, .int .i64 0, .int .i64 0, .int .i64 0]) (t := 23) ?hr ?_; (case hd => rfl); (case hg => rfl); (case hr => first | (go_simp; done) | (go_simp; rfl)); intro a8 hg w5 hbox hb; have a3 := Aside0.mk (blk_below (g := a2) (pk a1) hb); have a4 := Aside0.mk (below_step (bw1 HB a7) hb); have a5 := Aside0.mk (hbox); have a6 := Aside0.mk ((by rw [hg]; exact (below_size (bw1 HB a7)) : w.heap.size ≤ a8)); have b5 := Aside0.mk ((by rw [hg]; exact (below_size (bw1 HB a7)) : w.heap.size ≤ a8)); have b6 := Aside0.mk ((ne_lt hg (pk a1) : a2 ≠ a8)); have b7 := Aside0.mk ((ne_gt hg (pk a1) : a8 ≠ a2)); clear a1; clear HB; have a1 := a3; have HB := a4; have b8 := a5; have c4 := a6; have b9 := b5; have c0 := b6; have c1 := b7; clear a3 a4 a5 a6 b5 b6 b7; clear hb hbox hg)); go_ret; exact ⟨au3, bw2 HB a7 b9⟩
  · replace c3 := Bool.eq_false_iff.mpr c3; subst c3; rw [if_neg (show ¬ (false = true) by decide)] at H; obtain rfl := Option.some.inj H; go_enter Tryd.func33, Tryd.ntmps33; go_wp2_with (first | ((with_reducible refine gate_dst (N := 3) rfl ?_); refine box_event ?hg (N := 3) ?hd (cs := #[.string a9, .int .i64 b0, .int .i64 b1, .int .i64 b2, .int .i64 b3, .int .i64 b4]) (t := 23) ?hr ?_; (case hd => rfl); (case hg => rfl); (case hr => first | (go_simp; done) | (go_simp; rfl)); intro a2 hg w6 hbox hb; have a3 := Aside0.mk (below_step (bw0 HB) hb); have a4 := Aside0.mk (hbox); have a5 := Aside0.mk ((by rw [hg]; exact (below_size (bw0 HB)) : w.heap.size ≤ a2)); have a6 := Aside0.mk ((by rw [hg]; exact (below_size (bw0 HB)) : w.heap.size ≤ a2)); clear HB; have HB := a3; have a1 := a4; have c2 := a5; have a7 := a6; clear a3 a4 a5 a6; clear hb hbox hg) | ((with_reducible refine gate_dst (N := 5) rfl ?_); refine box_event ?hg (N := 5) ?hd (cs := #[.string (⟨#[]⟩ : ByteArray), .int .i64 0, .int .i64 0, .int .i64 0, .int .i64 0, .int .i64 0]) (t := 23) ?hr ?_; (case hd => rfl); (case hg => rfl); (case hr => first | (go_simp; done) | (go_simp; rfl)); intro a8 hg w7 hbox hb; have a3 := Aside0.mk (blk_below (g := a2) (pk a1) hb); have a4 := Aside0.mk (below_step (bw1 HB a7) hb); have a5 := Aside0.mk (hbox); have a6 := Aside0.mk ((by rw [hg]; exact (below_size (bw1 HB a7)) : w.heap.size ≤ a8)); have b5 := Aside0.mk ((by rw [hg]; exact (below_size (bw1 HB a7)) : w.heap.size ≤ a8)); have b6 := Aside0.mk ((ne_lt hg (pk a1) : a2 ≠ a8)); have b7 := Aside0.mk ((ne_gt hg (pk a1) : a8 ≠ a2)); clear a1; clear HB; have a1 := a3; have HB := a4; have b8 := a5; have c4 := a6; have b9 := b5; have c0 := b6; have c1 := b7; clear a3 a4 a5 a6 b5 b6 b7; clear hb hbox hg; have hnb8 := c0.out; have hnc8 := c1.out; obtain ⟨c5, c6, c7, c8, c9, d0⟩ := cz6 a1; obtain ⟨d1, d2, d3, d4, d5, d6⟩ := fz6 a1; obtain ⟨d7, d8, d9, e0, e1, e2⟩ := cz6 b8; obtain ⟨e3, e4, e5, e6, e7, e8⟩ := fz6 b8)); go_ret; exact ⟨au3, bw2 HB a7 b9⟩
end

section
/-! ### event_bare: function 34 -/
def event_bare.f (a0 : ByteArray) (a1 : ByteArray) (a2 : List (S39)) (a3 : Int) : Option (Bool) := if a0.toList = ([] : List UInt8) then (if a1.toList = ([] : List UInt8) then (if a3 = 0 then (some ((a2.length : Int) == 0)) else (some false)) else (some false)) else (some false)
set_option maxHeartbeats 8000000 in
set_option maxRecDepth 100000 in
theorem event_bare.calls (a0 : ByteArray) (a1 : ByteArray) (b1 : Option Addr) (b2 : Nat) (a9 : List (S39)) (a2 : Int) (r : Bool) (w : World) (b4 : Kd.C k39 w b1 a9.length a9) (b5 : a9.length ≤ b2) (h : event_bare.f a0 a1 a9 a2 = some r) :
    Calls Tryd.prog 34 #[.agg #[.string a0, .string a1, .slice b1 a9.length b2, .int .i64 a2]] w fun e w' => e = .returned (.bool r) ∧ Below w.heap.size w w' := by
  have hu26 := Tryd.underlying26; have b6 := Aside0.mk b4; have b7 := Aside0.mk b5; clear b4 b5; have HB := Aside0.mk (Below.refl w.heap.size w); have H : (if a0.toList = ([] : List UInt8) then (if a1.toList = ([] : List UInt8) then (if a2 = 0 then (some ((a9.length : Int) == 0)) else (some false)) else (some false)) else (some false)) = some r := h; clear h; by_cases c2 : a0.toList = ([] : List UInt8)
  · rw [if_pos c2] at H; have c2b0 : (a0.toList == ([] : List UInt8)) = true := beq_iff_eq.mpr c2; have c2b1 : (a0.toList != ([] : List UInt8)) = false := bne_eq_false_iff_eq.mpr c2; clear c2; by_cases c3 : a1.toList = ([] : List UInt8)
    · rw [if_pos c3] at H; have c3b0 : (a1.toList == ([] : List UInt8)) = true := beq_iff_eq.mpr c3; have c3b1 : (a1.toList != ([] : List UInt8)) = false := bne_eq_false_iff_eq.mpr c3; clear c3; by_cases c4 : a2 = 0
      · rw [if_pos c4] at H; have c4b0 : (a2 == 0) = true := beq_iff_eq.mpr c4; have c4b1 : (a2 != 0) = false := bne_eq_false_iff_eq.mpr c4; clear c4; obtain rfl := Option.some.inj H; go_enter Tryd.func34, Tryd.ntmps34; go_wp2_with (first | ((with_reducible refine gate_dst (N := 1) rfl ?_); (try (refine gate_guard (by rfl) ?_; dsimp only)); refine box_event ?hg (N := 1) ?hd (cs := #[.string a0, .string a1, .slice b1 a9.length b2, .int .i64 a2]) (t := 26) ?hr ?_; (case hd => rfl); (case hg => rfl); (case hr => first | (go_simp; done) | (go_simp; rfl)); intro a3 hg w5 hbox hb; have a4 := Aside0.mk (below_step (bw0 HB) hb); have a5 := Aside0.mk (hbox); have a6 := Aside0.mk ((by rw [hg]; exact (below_size (bw0 HB)) : w.heap.size ≤ a3)); have a7 := Aside0.mk ((by rw [hg]; exact (below_size (bw0 HB)) : w.heap.size ≤ a3)); clear HB; have HB := a4; have a8 := a5; have b3 := a6; have b0 := a7; clear a4 a5 a6 a7; clear hb hbox hg; obtain ⟨b8, b9, c0, c1⟩ := cz4 a8; obtain ⟨c5, c6, c7, c8⟩ := fz4 a8)); go_ret; exact ⟨au3, bw1 HB b0⟩
      · rw [if_neg c4] at H; have c4b0 : (a2 == 0) = false := beq_eq_false_iff_ne.mpr c4; have c4b1 : (a2 != 0) = true := bne_iff_ne.mpr c4; obtain rfl := Option.some.inj H; go_enter Tryd.func34, Tryd.ntmps34; go_wp2_with (first | ((with_reducible refine gate_dst (N := 1) rfl ?_); (try (refine gate_guard (by rfl) ?_; dsimp only)); refine box_event ?hg (N := 1) ?hd (cs := #[.string a0, .string a1, .slice b1 a9.length b2, .int .i64 a2]) (t := 26) ?hr ?_; (case hd => rfl); (case hg => rfl); (case hr => first | (go_simp; done) | (go_simp; rfl)); intro a3 hg w7 hbox hb; have a4 := Aside0.mk (below_step (bw0 HB) hb); have a5 := Aside0.mk (hbox); have a6 := Aside0.mk ((by rw [hg]; exact (below_size (bw0 HB)) : w.heap.size ≤ a3)); have a7 := Aside0.mk ((by rw [hg]; exact (below_size (bw0 HB)) : w.heap.size ≤ a3)); clear HB; have HB := a4; have a8 := a5; have b3 := a6; have b0 := a7; clear a4 a5 a6 a7; clear hb hbox hg; obtain ⟨c9, d0, d1, d2⟩ := cz4 a8; obtain ⟨d3, d4, d5, d6⟩ := fz4 a8)); go_ret; exact ⟨au3, bw1 HB b0⟩
    · rw [if_neg c3] at H; have c3b0 : (a1.toList == ([] : List UInt8)) = false := beq_eq_false_iff_ne.mpr c3; have c3b1 : (a1.toList != ([] : List UInt8)) = true := bne_iff_ne.mpr c3; obtain rfl := Option.some.inj H; go_enter Tryd.func34, Tryd.ntmps34; go_wp2_with (first | ((with_reducible refine gate_dst (N := 1) rfl ?_); (try (refine gate_guard (by rfl) ?_; dsimp only)); refine box_event ?hg (N := 1) ?hd (cs := #[.string a0, .string a1, .slice b1 a9.length b2, .int .i64 a2]) (t := 26) ?hr ?_; (case hd => rfl); (case hg => rfl); (case hr => first | (go_simp; done) | (go_simp; rfl)); intro a3 hg w9 hbox hb; have a4 := Aside0.mk (below_step (bw0 HB) hb); have a5 := Aside0.mk (hbox); have a6 := Aside0.mk ((by rw [hg]; exact (below_size (bw0 HB)) : w.heap.size ≤ a3)); have a7 := Aside0.mk ((by rw [hg]; exact (below_size (bw0 HB)) : w.heap.size ≤ a3)); clear HB; have HB := a4; have a8 := a5; have b3 := a6; have b0 := a7; clear a4 a5 a6 a7; clear hb hbox hg; obtain ⟨d7, d8, d9, e0⟩ := cz4 a8; obtain ⟨e1, e2, e3, e4⟩ := fz4 a8)); go_ret; exact ⟨au3, bw1 HB b0⟩
  · rw [if_neg c2] at H; have c2b0 : (a0.toList == ([] : List UInt8)) = false := beq_eq_false_iff_ne.mpr c2; have c2b1 : (a0.toList != ([] : List UInt8)) = true := bne_iff_ne.mpr c2; obtain rfl := Option.some.inj H; go_enter Tryd.func34, Tryd.ntmps34; go_wp2_with (first | ((with_reducible refine gate_dst (N := 1) rfl ?_); (try (refine gate_guard (by rfl) ?_; dsimp only)); refine box_event ?hg (N := 1) ?hd (cs := #[.string a0, .string a1, .slice b1 a9.length b2, .int .i64 a2]) (t := 26) ?hr ?_; (case hd => rfl); (case hg => rfl); (case hr => first | (go_simp; done) | (go_simp; rfl)); intro a3 hg w11 hbox hb; have a4 := Aside0.mk (below_step (bw0 HB) hb); have a5 := Aside0.mk (hbox); have a6 := Aside0.mk ((by rw [hg]; exact (below_size (bw0 HB)) : w.heap.size ≤ a3)); have a7 := Aside0.mk ((by rw [hg]; exact (below_size (bw0 HB)) : w.heap.size ≤ a3)); clear HB; have HB := a4; have a8 := a5; have b3 := a6; have b0 := a7; clear a4 a5 a6 a7; clear hb hbox hg; obtain ⟨e5, e6, e7, e8⟩ := cz4 a8; obtain ⟨e9, f0, f1, f2⟩ := fz4 a8)); go_ret; exact ⟨au3, bw1 HB b0⟩
end

section
/-! ### event_within: function 38 -/
def event_within.f (a0 : Int) (a1 : Int) (a2 : Int) : Option (Bool) := if a0 ≥ a1 then (some (decide (a0 ≤ a2))) else (some false)
set_option maxHeartbeats 8000000 in
set_option maxRecDepth 100000 in
theorem event_within.calls (a0 : Int) (a1 : Int) (a2 : Int) (r : Bool) (w : World) (h : event_within.f a0 a1 a2 = some r) :
    Calls Tryd.prog 38 #[.int .i64 a0, .int .i64 a1, .int .i64 a2] w fun e w' => e = .returned (.bool r) ∧ Drawn0 w w' := by
  have H : (if a0 ≥ a1 then (some (decide (a0 ≤ a2))) else (some false)) = some r := h; clear h; by_cases c4 : a0 ≥ a1
  · rw [if_pos c4] at H; have c4b0 : decide (a1 ≤ a0) = true := decide_eq_true c4; clear c4; obtain rfl := Option.some.inj H; go_enter Tryd.func38, Tryd.ntmps38; go_wp2; go_ret; exact ⟨au4, by repeat (first | exact Drawn0.refl _ | apply Drawn0.step)⟩
  · rw [if_neg c4] at H; have c4b0 : decide (a1 ≤ a0) = false := decide_eq_false c4; clear c4; obtain rfl := Option.some.inj H; go_enter Tryd.func38, Tryd.ntmps38; go_wp2; go_ret; exact ⟨au4, by repeat (first | exact Drawn0.refl _ | apply Drawn0.step)⟩
end

section
/-! ### event_number: function 35 -/
def event_number.j0 : Nat → Int → Bool → Int → ByteArray → ByteArray → Int → Int → ByteArray → Int → Int → Int → Int → Int → ByteArray → ByteArray → List (S39) → Int → Option (Bool)
  | 0, _, _, _, _, _, _, _, _, _, _, _, _, _, _, _, _, _ => none
  | k + 1, x4, x5, a4, a5, a6, a0, a7, a8, a9, b0, b1, b2, b3, b4, b5, b6, b7 => if x5 = true then ((event_within.f a0 0 2147483647).bind fun a1 => (some a1)) else (if x4 = 3 then ((event_within.f a0 1 2).bind fun a2 => (some a2)) else ((event_within.f a0 1 2147483647).bind fun a3 => (some a3)))
def event_number.f (k : Nat) (a0 : Int) (a1 : ByteArray) (a2 : ByteArray) (a3 : Int) (a4 : Int) (a5 : ByteArray) (a6 : Int) (a7 : Int) (a8 : Int) (a9 : Int) (b0 : Int) (b1 : ByteArray) (b2 : ByteArray) (b3 : List (S39)) (b4 : Int) : Option (Bool) := if a0 = 1 then (event_number.j0 k a0 (a0 == 1) a0 a1 a2 a3 a4 a5 a6 a7 a8 a9 b0 b1 b2 b3 b4) else (event_number.j0 k a0 (a0 == 2) a0 a1 a2 a3 a4 a5 a6 a7 a8 a9 b0 b1 b2 b3 b4)
set_option maxHeartbeats 8000000 in
set_option maxRecDepth 100000 in
theorem event_number.calls (k : Nat) (a0 : Int) (a4 : ByteArray) (a5 : ByteArray) (a1 : Int) (a6 : Int) (a7 : ByteArray) (a8 : Int) (a9 : Int) (b0 : Int) (b1 : Int) (b2 : Int) (b3 : ByteArray) (b4 : ByteArray) (b7 : Option Addr) (b8 : Nat) (a3 : List (S39)) (b5 : Int) (r : Bool) (w : World) (c2 : Kd.C k39 w b7 a3.length a3) (c3 : a3.length ≤ b8) (h : event_number.f k a0 a4 a5 a1 a6 a7 a8 a9 b0 b1 b2 b3 b4 a3 b5 = some r) :
    Calls Tryd.prog 35 #[.agg (eV a0 a4 a5 a1 a6 a7 a8 a9 b0 b1 b2 b3 b4 (.slice b7 a3.length b8) b5)] w fun e w' => e = .returned (.bool r) ∧ Below w.heap.size w w' := by
  have hu28 := Tryd.underlying28; have g9 := Aside0.mk c2; have h0 := Aside0.mk c3; clear c2 c3; have HB := Aside0.mk (Below.refl w.heap.size w); have H : (if a0 = 1 then (event_number.j0 k a0 (a0 == 1) a0 a4 a5 a1 a6 a7 a8 a9 b0 b1 b2 b3 b4 a3 b5) else (event_number.j0 k a0 (a0 == 2) a0 a4 a5 a1 a6 a7 a8 a9 b0 b1 b2 b3 b4 a3 b5)) = some r := h; clear h; have c0 := Aside0.mk H; clear H; go_enter Tryd.func35, Tryd.ntmps35; go_upto_if 5 with (first | ((with_reducible refine gate_dst (N := 1) rfl ?_); refine box_event ?hg (N := 1) ?hd (cs := (eV a0 a4 a5 a1 a6 a7 a8 a9 b0 b1 b2 b3 b4 (.slice b7 a3.length b8) b5)) (t := 28) ?hr ?_; (case hd => rfl); (case hg => rfl); (case hr => first | (go_simp; done) | (go_simp; rfl)); intro c1 hg w3 hbox hb; have c4 := Aside0.mk (below_step (bw0 HB) hb); have c7 := Aside0.mk (hbox); have c8 := Aside0.mk ((by rw [hg]; exact (below_size (bw0 HB)) : w.heap.size ≤ c1)); have d0 := Aside0.mk ((by rw [hg]; exact (below_size (bw0 HB)) : w.heap.size ≤ c1)); clear HB; have HB := c4; have a2 := c7; have h1 := c8; have b6 := d0; clear c4 c7 c8 d0; clear hb hbox hg; obtain ⟨d4, d5, d6, d7, d8, d9, e0, e1, e2, e3, e4, e5, e6, e7, e8⟩ := cz15 a2; obtain ⟨e9, f0, f1, f2, f3, f4, f5, f6, f7, f8, f9, g0, g1, g2, g3⟩ := fz15 a2))
  (try simp only [Act.put, List.setIfInBounds_toArray, List.set_cons_zero, List.set_cons_succ])
  go_cut [5] (fun v5 wc => ∃ (kq : Nat) (b9 : Bool), v5 = .bool b9 ∧ Aside0 (event_number.j0 kq a0 b9 a0 a4 a5 a1 a6 a7 a8 a9 b0 b1 b2 b3 b4 a3 b5 = some r) ∧ Aside0 (kq ≤ k) ∧ Aside0 (wc.heap[c1]? = some (.cells (eV a0 a4 a5 a1 a6 a7 a8 a9 b0 b1 b2 b3 b4 (.slice b7 a3.length b8) b5) 28 (0, 0))) ∧ Aside0 (Below w.heap.size w wc))
  case first =>
    have H := c0.out; clear c0; by_cases c5 : a0 = 1
    · rw [if_pos c5] at H; have c5b0 : (a0 == 1) = true := beq_iff_eq.mpr c5; have c5b1 : (a0 != 1) = false := bne_eq_false_iff_eq.mpr c5; clear c5
      (first | rw [c5b0] | (simp only [i64_w, i32_w]; rw [c5b0]) | rw [c5b1] | skip)
      have H' := Aside0.mk H; clear H; go_wp2; go_meet
      case rel => exact ⟨_, ((a0 == 1)), au4, H', ⟨au5⟩, ⟨pq a2⟩, ⟨bw1 HB b6⟩⟩
    · rw [if_neg c5] at H; have c5b0 : (a0 == 1) = false := beq_eq_false_iff_ne.mpr c5; have c5b1 : (a0 != 1) = true := bne_iff_ne.mpr c5
      (first | rw [c5b0] | (simp only [i64_w, i32_w]; rw [c5b0]) | rw [c5b1] | skip)
      have H' := Aside0.mk H; clear H; go_wp2; go_meet
      case rel => exact ⟨_, ((a0 == 2)), au4, H', ⟨au5⟩, ⟨pq a2⟩, ⟨bw1 HB b6⟩⟩
  case rest =>
    clear c0; (try clear d4 d5 e4 e5 e6 e7 e8 d6 d7 d8 d9 e0 e1 e2 e3 e9 f0 f9 g0 g1 g2 g3 f1 f2 f3 f4 f5 f6 f7 f8); obtain ⟨kq, b9, rfl, HA, HJ1, a2, HB⟩ := hcut
    cases kq with
    | zero => exact absurd HA.out (by simp [event_number.j0])
    | succ kj1 =>
      have H := HA.out; clear HA; simp only [event_number.j0] at H; by_cases c6 : b9 = true
      · subst c6; rw [if_pos rfl] at H; replace H := Option.bind_eq_some_iff.mp H; obtain ⟨g4, d1, H⟩ := H
        (try dsimp only at H)
        have A7 := Aside0.mk d1; clear d1; obtain rfl := Option.some.inj H; obtain ⟨h2, h3, h4, h5, h6, h7, h8, h9, i0, i1, i2, i3, i4, i5, i6⟩ := cz15 a2; obtain ⟨i7, i8, i9, j1, j2, j3, j4, j5, j6, j7, j8, j9, k0, k1, k2⟩ := fz15 a2; go_wp2_with (first | ((with_reducible refine gate_callee (f := 38) rfl ?_); refine goesL_ (some 10) rfl rfl Tryd.func38 (by kernel_rfl) rfl #[.int .i64 a1, .int .i64 0, .int .i64 2147483647] rfl au1 ?_; (with_reducible refine (event_within.calls a1 0 2147483647 g4 _ A7.out).mono ?_); rintro e w' ⟨rfl, ⟨nd, rfl⟩⟩; refine ⟨_, rfl, ?_⟩)); go_ret; exact ⟨au3, bw1 HB b6⟩
      · replace c6 := Bool.eq_false_iff.mpr c6; subst c6; rw [if_neg (show ¬ (false = true) by decide)] at H; by_cases c9 : a0 = 3
        · rw [if_pos c9] at H; have c9b0 : (a0 == 3) = true := beq_iff_eq.mpr c9; have c9b1 : (a0 != 3) = false := bne_eq_false_iff_eq.mpr c9; clear c9; replace H := Option.bind_eq_some_iff.mp H; obtain ⟨g5, d2, H⟩ := H
          (try dsimp only at H)
          have g6 := Aside0.mk d2; clear d2; obtain rfl := Option.some.inj H; obtain ⟨k3, k4, k5, k6, k7, k8, k9, l0, l1, l2, l3, l4, l5, l6, l7⟩ := cz15 a2; obtain ⟨l8, l9, m0, m1, m2, m3, m4, m5, m6, m7, m8, m9, n0, n1, n2⟩ := fz15 a2; go_wp2_with (first | ((with_reducible refine gate_callee (f := 38) rfl ?_); refine goesL_ (some 15) rfl rfl Tryd.func38 (by kernel_rfl) rfl #[.int .i64 a1, .int .i64 1, .int .i64 2] rfl au1 ?_; (with_reducible refine (event_within.calls a1 1 2 g5 _ g6.out).mono ?_); rintro e w' ⟨rfl, ⟨nd, rfl⟩⟩; refine ⟨_, rfl, ?_⟩)); go_ret; exact ⟨au3, bw1 HB b6⟩
        · rw [if_neg c9] at H; have c9b0 : (a0 == 3) = false := beq_eq_false_iff_ne.mpr c9; have c9b1 : (a0 != 3) = true := bne_iff_ne.mpr c9; replace H := Option.bind_eq_some_iff.mp H; obtain ⟨g7, d3, H⟩ := H
          (try dsimp only at H)
          have g8 := Aside0.mk d3; clear d3; obtain rfl := Option.some.inj H; obtain ⟨n3, n4, n5, n6, n7, n8, n9, o0, o1, o2, o3, o4, o5, o6, o7⟩ := cz15 a2; obtain ⟨o8, o9, p0, p1, p2, p3, p4, p5, p6, p7, p8, p9, q0, q1, q2⟩ := fz15 a2; go_wp2_with (first | ((with_reducible refine gate_callee (f := 38) rfl ?_); refine goesL_ (some 18) rfl rfl Tryd.func38 (by kernel_rfl) rfl #[.int .i64 a1, .int .i64 1, .int .i64 2147483647] rfl au1 ?_; (with_reducible refine (event_within.calls a1 1 2147483647 g7 _ g8.out).mono ?_); rintro e w' ⟨rfl, ⟨nd, rfl⟩⟩; refine ⟨_, rfl, ?_⟩)); go_ret; exact ⟨au3, bw1 HB b6⟩
end

section
/-! ### label_short: function 71 -/
/-- A byte that may stand in a name; one that may open it. -/
def isSign (b : UInt8) : Bool := decide (97 ≤ b.toNat) && decide (b.toNat ≤ 122) || decide (48 ≤ b.toNat) && decide (b.toNat ≤ 57) || decide (b.toNat = 45)
def isLetter (b : UInt8) : Bool := decide (97 ≤ b.toNat) && decide (b.toNat ≤ 122)
def shortL (l : List UInt8) (most : Int) : Bool := l.all isSign && l.head?.any isLetter && !(l.getLast? == some 45) && decide ((l.length : Int) ≤ most)
def label_short.f (a0 : ByteArray) (a1 : Int) : Option Bool := some (shortL a0.data.toList a1)

def letB (c : Int) : Bool := decide (97 ≤ c) && decide (c ≤ 122)
def sigB (c : Int) : Bool := letB c || (decide (48 ≤ c) && decide (c ≤ 57) || decide (c = 45))
set_option maxHeartbeats 8000000 in
set_option maxRecDepth 100000 in
theorem letter_walk (a0 : Int) (w : World) : Calls Tryd.prog 84 #[.int .i32 a0] w fun e w' => e = .returned (.bool (letB a0)) ∧ w' = w := by
  by_cases c2 : a0 ≥ 97
  · have c2b0 : decide (97 ≤ a0) = true := decide_eq_true c2; clear c2; go_enter Tryd.func84, Tryd.ntmps84; go_wp2; go_ret; exact ⟨by unfold letB; rw [c2b0]; rfl, rfl⟩
  · have c2b0 : decide (97 ≤ a0) = false := decide_eq_false c2; clear c2; go_enter Tryd.func84, Tryd.ntmps84; go_wp2; go_ret; exact ⟨by unfold letB; rw [c2b0]; rfl, rfl⟩
set_option maxHeartbeats 8000000 in
set_option maxRecDepth 100000 in
theorem sign_walk (a0 : Int) (w : World) : Calls Tryd.prog 83 #[.int .i32 a0] w fun e w' => e = .returned (.bool (sigB a0)) ∧ w' = w := by
  have b1 : a0 ≥ 48 ∨ ¬ a0 ≥ 48 := Classical.em _; generalize hL : letB a0 = lb; have hw := letter_walk a0; rw [hL] at hw
  cases lb with
  | true =>
    go_enter Tryd.func83, Tryd.ntmps83; go_wp2_with (go_at_call 84; refine (hw _).mono ?_; rintro e w' ⟨rfl, rfl⟩); go_wp2; go_ret; exact ⟨by unfold sigB; rw [hL]; rfl, rfl⟩
  | false =>
    by_cases c2 : a0 ≥ 48
    · have c2b0 : decide (48 ≤ a0) = true := decide_eq_true c2; clear c2; by_cases c3 : a0 ≤ 57
      · have c3b0 : decide (a0 ≤ 57) = true := decide_eq_true c3; clear c3; go_enter Tryd.func83, Tryd.ntmps83; go_wp2_with (go_at_call 84; refine (hw _).mono ?_; rintro e w' ⟨rfl, rfl⟩); go_wp2; go_ret; exact ⟨by unfold sigB; rw [hL, c2b0, c3b0]; rfl, rfl⟩
      · have c3b0 : decide (a0 ≤ 57) = false := decide_eq_false c3; clear c3; go_enter Tryd.func83, Tryd.ntmps83; go_wp2_with (go_at_call 84; refine (hw _).mono ?_; rintro e w' ⟨rfl, rfl⟩); go_wp2; go_ret; exact ⟨by unfold sigB; rw [hL, c2b0, c3b0]; rfl, rfl⟩
    · have c2b0 : decide (48 ≤ a0) = false := decide_eq_false c2; clear c2; go_enter Tryd.func83, Tryd.ntmps83; go_wp2_with (go_at_call 84; refine (hw _).mono ?_; rintro e w' ⟨rfl, rfl⟩); go_wp2; go_ret; exact ⟨by unfold sigB; rw [hL, c2b0]; rfl, rfl⟩
theorem isLetter_int (b : UInt8) : letB ((b.toNat : Nat) : Int) = isLetter b := by
  unfold letB isLetter; have e1 : (decide ((97 : Int) ≤ (b.toNat : Int))) = decide (97 ≤ b.toNat) := decide_eq_decide.2 (by omega); have e2 : (decide ((b.toNat : Int) ≤ 122)) = decide (b.toNat ≤ 122) := decide_eq_decide.2 (by omega); rw [e1, e2]
theorem isSign_int (b : UInt8) : sigB ((b.toNat : Nat) : Int) = isSign b := by
  unfold sigB isSign; rw [isLetter_int]; unfold isLetter; have e3 : (decide ((48 : Int) ≤ (b.toNat : Int))) = decide (48 ≤ b.toNat) := decide_eq_decide.2 (by omega); have e4 : (decide ((b.toNat : Int) ≤ 57)) = decide (b.toNat ≤ 57) := decide_eq_decide.2 (by omega); have e5 : (decide ((b.toNat : Int) = 45)) = decide (b.toNat = 45) := decide_eq_decide.2 (by omega); rw [e3, e4, e5, Bool.or_assoc]
theorem sign_high (c : Nat) (h : 128 ≤ c) : sigB ((c : Nat) : Int) = false := by
  simp [sigB, letB]; omega
theorem not_sign_high (b : UInt8) (h : 128 ≤ b.toNat) : isSign b = false := by
  simp [isSign]; omega
/-- What is so far: the bytes before 'pos' are signs, the first a letter. -/
def Soft (l : List UInt8) (pos : Nat) (last : Int) : Prop :=
  pos ≤ l.length ∧ (∀ (i : Nat) (h : i < l.length), i < pos → isSign l[i] = true) ∧ (∀ (h : 0 < l.length), 0 < pos → isLetter l[0] = true) ∧
    (pos = 0 → last = 45) ∧ (∀ (h : pos - 1 < l.length), 0 < pos → last = ((l[pos - 1]).toNat : Int))
theorem soft_zero (l : List UInt8) : Soft l 0 45 := ⟨by omega, fun _ _ h => absurd h (by omega), fun _ h => absurd h (by omega), fun _ => rfl, fun _ h => absurd h (by omega)⟩
theorem soft_step {l : List UInt8} {pos : Nat} {last : Int} (h : Soft l pos last) (hp : pos < l.length) (hs : isSign l[pos] = true) (hl : pos = 0 → isLetter l[pos] = true) : Soft l (pos + 1) ((l[pos]).toNat : Int) := by
  obtain ⟨h1, h2, h3, h4, h5⟩ := h; refine ⟨by omega, fun i hi hlt => ?_, fun h0 _ => ?_, fun h => absurd h (by omega), fun _ _ => by simp⟩
  · by_cases e : i = pos
    · subst e; exact hs
    · exact h2 i hi (by omega)
  · by_cases e : pos = 0
    · subst e; exact hl rfl
    · exact h3 h0 (by omega)
theorem soft_bad {l : List UInt8} {pos : Nat} (most : Int) (hp : pos < l.length) (hs : isSign l[pos] = false ∨ (pos = 0 ∧ isLetter l[pos] = false)) : shortL l most = false := by
  unfold shortL; rcases hs with hs | ⟨rfl, hs⟩
  · have : l.all isSign = false := by
      rw [List.all_eq_false]; exact ⟨l[pos], List.getElem_mem hp, by rw [hs]; decide⟩
    rw [this]; rfl
  · cases l with
    | nil => simp at hp
    | cons a l => have : isLetter a = false := hs
                  simp [this]
theorem soft_end {l : List UInt8} {pos : Nat} {last : Int} (most : Int) (h : Soft l pos last) (hp : ¬ pos < l.length) : shortL l most = (!(last == 45) && decide ((l.length : Int) ≤ most)) := by
  obtain ⟨h1, h2, h3, h4, h5⟩ := h; (obtain rfl : pos = l.length := by omega); unfold shortL
  cases l with
  | nil => rw [h4 rfl]; rfl
  | cons a l =>
    have e1 : (a :: l).all isSign = true := by
      rw [List.all_eq_true]; intro x hx; obtain ⟨i, hi, rfl⟩ := List.getElem_of_mem hx; exact h2 i hi hi
    have e2 : (a :: l).head?.any isLetter = true := by
      have := h3 (by simp) (by simp)
      simpa using this
    rw [e1, e2, h5 (by simp) (by simp), List.getLast?_eq_getElem?, List.getElem?_eq_getElem (by simp)]
    have e3 : ((some ((a :: l)[(a :: l).length - 1]) == some 45) : Bool) = ((((a :: l)[(a :: l).length - 1]).toNat : Int) == 45) := by
      generalize (a :: l)[(a :: l).length - 1] = b; have : (b = 45) ↔ ((b.toNat : Int) = 45) := ⟨fun e => by subst e; rfl, fun e => UInt8.toNat_inj.1 (by show b.toNat = 45; omega)⟩; by_cases hb : b = 45
      · subst hb; rfl
      · have h2 := mt this.2 hb; rw [show ((some b == some (45 : UInt8)) : Bool) = false from beq_eq_false_iff_ne.2 (fun e => hb (Option.some.inj e))]; exact (beq_eq_false_iff_ne.2 h2).symm
    rw [e3]; simp
set_option maxHeartbeats 8000000 in
set_option maxRecDepth 100000 in
theorem label_short.calls (a0 : ByteArray) (a1 : Int) (r : Bool) (w : World) (h : label_short.f a0 a1 = some r) :
    Calls Tryd.prog 71 #[.string a0, .int .i64 a1] w fun e w' => e = .returned (.bool r) ∧ Below w.heap.size w w' := by
  have hr : shortL a0.data.toList a1 = r := Option.some.inj h; clear h; go_enter Tryd.func71, Tryd.ntmps71; go_wp2; go_loopw [5] (fun n w' => ∃ (pos : Nat) (last : Int), w' = w.iter a0 pos ∧ n = .int .i32 last ∧ Hid (Soft a0.data.toList pos last)) (fun _ w' => a0.size - w'.iterPos w.heap.size)
  case atStart => exact ⟨0, 45, rfl, rfl, soft_zero _⟩
  case round =>
    obtain ⟨pos, last, rfl, rfl, hc⟩ := hrel; have hbel : ∀ p, Below w.heap.size w (w.iter a0 p) := fun p => (Below.refl _ w).alloc (Nat.le_refl _) _; by_cases hp : pos < a0.size
    · have hnx : ∀ ty, (Instr.next (.pointer (some ⟨w.heap.size, 0, none⟩)) true ty).run Tryd.prog (w.iter a0 pos) = _ := fun ty => run_next_any w a0 pos ty hp; have hpl : pos < a0.data.toList.length := hp; have hb : a0[pos]'hp = a0.data.toList[pos]'hpl := rfl; by_cases ha : (a0[pos]'hp).toNat < 128
      · rw [decode_ascii a0 pos hp ha] at hnx
        cases hs : isSign (a0[pos]'hp) with
        | false =>
          have hs' := isSign_int (a0[pos]'hp); rw [hs] at hs'; have hf := soft_bad a1 hpl (.inl (hb ▸ hs)); have hw := sign_walk ((a0[pos]'hp).toNat : Int); rw [hs'] at hw; go_wp2_with (go_at_call 83; refine (hw _).mono ?_; rintro e w' ⟨rfl, rfl⟩); go_wp2; go_ret; exact ⟨by rw [← hr, hf]; rfl, hbel _⟩
        | true => 
          have hs' := isSign_int (a0[pos]'hp); rw [hs] at hs'; have hw := sign_walk ((a0[pos]'hp).toNat : Int); rw [hs'] at hw; by_cases h0 : pos = 0
          · subst h0; have e0 : (w.iter a0 (0 + 1)) = w.iter a0 1 := rfl
            cases hl : isLetter (a0[0]'hp) with
            | false =>
              have hl' := isLetter_int (a0[0]'hp); rw [hl] at hl'; have hf := soft_bad a1 hpl (.inr ⟨rfl, hb ▸ hl⟩); have a3 := letter_walk ((a0[0]'hp).toNat : Int); rw [hl'] at a3; go_wp2_with (first | (go_at_call 83; refine (hw _).mono ?_; rintro e w' ⟨rfl, rfl⟩) | (go_at_call 84; refine (a3 _).mono ?_; rintro e w' ⟨rfl, rfl⟩)); go_wp2; go_ret; exact ⟨by rw [← hr, hf]; rfl, hbel _⟩
            | true =>
              have hl' := isLetter_int (a0[0]'hp); rw [hl] at hl'; have a3 := letter_walk ((a0[0]'hp).toNat : Int); rw [hl'] at a3; go_wp2_with (first | (go_at_call 83; refine (hw _).mono ?_; rintro e w' ⟨rfl, rfl⟩) | (go_at_call 84; refine (a3 _).mono ?_; rintro e w' ⟨rfl, rfl⟩)); go_wp2; go_roundw
              case rel => exact ⟨0 + 1, _, rfl, rfl, soft_step hc.out hpl (hb ▸ hs) (fun _ => hb ▸ hl)⟩
              case measure => simp; omega
          · have h0' : ((pos : Int) == 0) = false := beq_eq_false_iff_ne.2 (by omega); go_wp2_with (first | (go_at_call 83; refine (hw _).mono ?_; rintro e w' ⟨rfl, rfl⟩)); go_wp2; go_roundw
            case rel => exact ⟨pos + 1, _, rfl, rfl, soft_step hc.out hpl (hb ▸ hs) (fun h => absurd h h0)⟩
            case measure => simp; omega
      · have hd := (decode_high a0 pos hp (by omega)).1; have hw := sign_walk ((Utf8.decode a0 pos).1 : Int); rw [sign_high _ hd] at hw; have hf := soft_bad a1 hpl (.inl (hb ▸ not_sign_high (a0[pos]'hp) (by omega))); go_wp2_with (go_at_call 83; refine (hw _).mono ?_; rintro e w' ⟨rfl, rfl⟩); go_wp2; go_ret; exact ⟨by rw [← hr, hf]; rfl, hbel _⟩
    · have hnx : ∀ ty, (Instr.next (.pointer (some ⟨w.heap.size, 0, none⟩)) true ty).run Tryd.prog (w.iter a0 pos) = _ := fun ty => run_next_end w a0 pos ty hp; rw [soft_end a1 hc.out hp] at hr; by_cases a2 : last = 45
      · subst a2; go_wp2; go_ret; exact ⟨by rw [← hr]; rfl, hbel _⟩
      · rw [show (last == 45) = false from beq_eq_false_iff_ne.2 a2] at hr; (have hb1 : (last != 45) = true := by rw [bne, beq_eq_false_iff_ne.2 a2]; rfl); have hb2 : (last == 45) = false := beq_eq_false_iff_ne.2 a2; have hb3 : (last = 45) = False := eq_false a2; have hb4 : decide (last = 45) = false := decide_eq_false a2; go_wp2; go_ret; exact ⟨by rw [← hr]; rfl, hbel _⟩
end

section
/-! ### label_Name: function 70 -/
def label_Name.f (a0 : ByteArray) : Option (Bool) := (label_short.f a0 16).bind fun a1 => (some a1)
set_option maxHeartbeats 8000000 in
set_option maxRecDepth 100000 in
theorem label_Name.calls (a0 : ByteArray) (r : Bool) (w : World) (h : label_Name.f a0 = some r) :
    Calls Tryd.prog 70 #[.string a0] w fun e w' => e = .returned (.bool r) ∧ Below w.heap.size w w' := by
  have HB := Aside0.mk (Below.refl w.heap.size w); have H : ((label_short.f a0 16).bind fun a1 => (some a1)) = some r := h; clear h; replace H := Option.bind_eq_some_iff.mp H; obtain ⟨a1, a2, H⟩ := H
  (try dsimp only at H)
  have A2 := Aside0.mk a2; clear a2; obtain rfl := Option.some.inj H; go_enter Tryd.func70, Tryd.ntmps70; go_wp2_with (first | ((with_reducible refine gate_callee (f := 71) rfl ?_); refine goesL_ (some 4) rfl rfl Tryd.func71 (by kernel_rfl) rfl #[.string a0, .int .i64 16] rfl au1 ?_; (with_reducible refine (label_short.calls a0 16 a1 _ A2.out).mono ?_); rintro e w3 ⟨rfl, hb⟩; refine ⟨_, rfl, ?_⟩; have a3 := Aside0.mk (below_step (bw0 HB) hb); clear HB; have HB := a3; clear a3; (try clear hb); (try clear hb2); (try clear hk); (try clear hi))); go_ret; exact ⟨au3, bw0 HB⟩
end

section
/-! ### strconv_Itoa_91: function 91 -/
def strconv_Itoa_91.f (a0 : Int) : Option ByteArray := if -9223372036854775808 ≤ a0 ∧ a0 ≤ 9223372036854775807 then some ⟨(Lib.itoa a0).toArray⟩ else none
theorem strconv_Itoa_91.calls (a0 : Int) (r : ByteArray) (w : World) (hLd_ : Aside0 (LaidW w)) (h : strconv_Itoa_91.f a0 = some r) :
    Calls Tryd.prog 91 #[.int .i64 a0] w fun e w' => e = .returned (.string r) ∧ Below w.heap.size w w' := by
  unfold strconv_Itoa_91.f at h
  split at h
  · rename_i hb
    obtain rfl := Option.some.inj h; refine (Tryd.strconv_Itoa a0 hb.1 hb.2 w hLd_.out.1).mono ?_; rintro e w' ⟨rfl, k, os, rfl⟩; exact ⟨rfl, Lib.below_grow _ w (Nat.le_refl _) k os⟩
  · cases h

-- NOT PRINTED: function 102 (errors_New)

-- NOT PRINTED: function 97 (strconv_baseError)

-- NOT PRINTED: function 98 (strconv_bitSizeError)

-- NOT PRINTED: function 90 (strconv_toError)

-- NOT PRINTED: function 81 (strconv_Atoi_81)
end

section
/-! ### label_Rev: function 82 -/
def label_Rev.j0 : Nat → ByteArray → Int → Bool → Option (ByteArray)
  | 0, _, _, _ => none
  | k + 1, x0, x1, a1 => if a1 = true then (some (⟨#[]⟩ : ByteArray)) else (if x0.size + 1 ≤ 9223372036854775807 then ((strconv_Itoa_91.f x1).bind fun a0 => (if (x0 ++ (⟨#[45]⟩ : ByteArray)).size + a0.size ≤ 9223372036854775807 then (some ((x0 ++ (⟨#[45]⟩ : ByteArray)) ++ a0)) else (none))) else (none))
def label_Rev.f (k : Nat) (a0 : ByteArray) (a1 : Int) : Option (ByteArray) := (label_Name.f a0).bind fun a2 => (if a2 = true then (if a1 < 1 then (label_Rev.j0 k a0 a1 true) else (label_Rev.j0 k a0 a1 (decide (a1 > 999999)))) else (label_Rev.j0 k a0 a1 true))
set_option maxHeartbeats 8000000 in
set_option maxRecDepth 100000 in
theorem label_Rev.calls (k : Nat) (a0 : ByteArray) (a1 : Int) (r : ByteArray) (w : World) (hLd_ : Aside0 (LaidW w)) (h : label_Rev.f k a0 a1 = some r) :
    Calls Tryd.prog 82 #[.string a0, .int .i64 a1] w fun e w' => e = .returned (.string r) ∧ Below w.heap.size w w' := by
  have HB := Aside0.mk (Below.refl w.heap.size w); have H : ((label_Name.f a0).bind fun a8 => (if a8 = true then (if a1 < 1 then (label_Rev.j0 k a0 a1 true) else (label_Rev.j0 k a0 a1 (decide (a1 > 999999)))) else (label_Rev.j0 k a0 a1 true))) = some r := h; clear h; have a9 := Aside0.mk H; clear H; go_enter Tryd.func82, Tryd.ntmps82; go_upto_region 1 with (fail); go_cut [15] (fun b2 wc => ∃ (kq : Nat) (a6 : Bool), b2 = .bool a6 ∧ Aside0 (label_Rev.j0 kq a0 a1 a6 = some r) ∧ Aside0 (kq ≤ k) ∧ Aside0 (Below w.heap.size w wc))
  case first =>
    have H := a9.out; clear a9; replace H := Option.bind_eq_some_iff.mp H; obtain ⟨a8, b0, H⟩ := H
    (try dsimp only at H)
    have A4 := Aside0.mk b0; clear b0; by_cases c5 : a8 = true
    · subst c5; rw [if_pos rfl] at H; by_cases c6 : a1 < 1
      · rw [if_pos c6] at H; have c6b0 : decide (a1 < 1) = true := decide_eq_true c6; clear c6
        (first | rw [c6b0] | (simp only [i64_w, i32_w]; rw [c6b0]) | rw [c6b1] | skip)
        have H' := Aside0.mk H; clear H; go_wp2_with (first | ((with_reducible refine gate_callee (f := 70) rfl ?_); refine goesL_ (some 6) rfl rfl Tryd.func70 (by kernel_rfl) rfl #[.string a0] rfl au1 ?_; (with_reducible refine (label_Name.calls a0 true _ A4.out).mono ?_); rintro e w7 ⟨rfl, hb⟩; refine ⟨_, rfl, ?_⟩; have a2 := Aside0.mk (below_step (bw0 HB) hb); clear HB; have HB := a2; clear a2; (try clear hb); (try clear hb2); (try clear hk); (try clear hi))); go_meet
        case rel => exact ⟨_, (true), au4, H', ⟨au5⟩, ⟨bw0 HB⟩⟩
      · rw [if_neg c6] at H; have c6b0 : decide (a1 < 1) = false := decide_eq_false c6; clear c6
        (first | rw [c6b0] | (simp only [i64_w, i32_w]; rw [c6b0]) | rw [c6b1] | skip)
        have H' := Aside0.mk H; clear H; go_wp2_with (first | ((with_reducible refine gate_callee (f := 70) rfl ?_); refine goesL_ (some 6) rfl rfl Tryd.func70 (by kernel_rfl) rfl #[.string a0] rfl au1 ?_; (with_reducible refine (label_Name.calls a0 true _ A4.out).mono ?_); rintro e w8 ⟨rfl, hb⟩; refine ⟨_, rfl, ?_⟩; have a2 := Aside0.mk (below_step (bw0 HB) hb); clear HB; have HB := a2; clear a2; (try clear hb); (try clear hb2); (try clear hk); (try clear hi))); go_meet
        case rel => exact ⟨_, (decide (a1 > 999999)), au4, H', ⟨au5⟩, ⟨bw0 HB⟩⟩
    · replace c5 := Bool.eq_false_iff.mpr c5; subst c5; rw [if_neg (show ¬ (false = true) by decide)] at H; have H' := Aside0.mk H; clear H; go_wp2_with (first | ((with_reducible refine gate_callee (f := 70) rfl ?_); refine goesL_ (some 6) rfl rfl Tryd.func70 (by kernel_rfl) rfl #[.string a0] rfl au1 ?_; (with_reducible refine (label_Name.calls a0 false _ A4.out).mono ?_); rintro e w9 ⟨rfl, hb⟩; refine ⟨_, rfl, ?_⟩; have a2 := Aside0.mk (below_step (bw0 HB) hb); clear HB; have HB := a2; clear a2; (try clear hb); (try clear hb2); (try clear hk); (try clear hi))); go_meet
      case rel => exact ⟨_, (true), au4, H', ⟨au5⟩, ⟨bw0 HB⟩⟩
  case rest =>
    clear a9; obtain ⟨kq, a6, rfl, HA, HJ2, HB⟩ := hcut
    cases kq with
    | zero => exact absurd HA.out (by simp [label_Rev.j0])
    | succ kj2 =>
      have H := HA.out; clear HA; simp only [label_Rev.j0] at H; by_cases a7 : a6 = true
      · subst a7; rw [if_pos rfl] at H; obtain rfl := Option.some.inj H; go_wp2; go_ret; exact ⟨au3, bw0 HB⟩
      · replace a7 := Bool.eq_false_iff.mpr a7; subst a7; rw [if_neg (show ¬ (false = true) by decide)] at H; by_cases a4 : a0.size + 1 ≤ 9223372036854775807; rotate_left
        · rw [if_neg a4] at H; exact absurd H (by simp)
        rw [if_pos a4] at H; have c11b0 := eq_true a4; have c11b1 : decide (a0.size + 1 ≤ 9223372036854775807) = true := decide_eq_true a4; (try have c11b2 : (9223372036854775807 < a0.size + 1) = False := eq_false (Nat.not_lt.2 a4)); (try (have c11b4 := a4; simp at c11b4; have c11b5 := eq_false (Nat.not_lt.2 c11b4))); replace H := Option.bind_eq_some_iff.mp H; obtain ⟨a5, b1, H⟩ := H
        (try dsimp only at H)
        have b3 := Aside0.mk b1; clear b1; by_cases a3 : (a0 ++ (⟨#[45]⟩ : ByteArray)).size + a5.size ≤ 9223372036854775807; rotate_left
        · rw [if_neg a3] at H; exact absurd H (by simp)
        rw [if_pos a3] at H; have c13b0 := eq_true a3; have c13b1 : decide ((a0 ++ (⟨#[45]⟩ : ByteArray)).size + a5.size ≤ 9223372036854775807) = true := decide_eq_true a3; (try have c13b3 : (9223372036854775807 < a0.size + 1 + a5.size) = False := eq_false (by have h_ := a3; simp only [ByteArray.size_append] at h_; exact Nat.not_lt.2 h_)); (try have c13b2 : (9223372036854775807 < (a0 ++ (⟨#[45]⟩ : ByteArray)).size + a5.size) = False := eq_false (Nat.not_lt.2 a3)); (try (have c13b4 := a3; simp at c13b4; have c13b5 := eq_false (Nat.not_lt.2 c13b4))); obtain rfl := Option.some.inj H; go_wp2_with (first | ((with_reducible refine gate_callee (f := 91) rfl ?_); refine goesL_ (some 19) rfl rfl Tryd.func91 (by kernel_rfl) rfl #[.int .i64 a1] rfl au1 ?_; (with_reducible refine (strconv_Itoa_91.calls a1 a5 _ ?side1 b3.out).mono ?_); (case side1 => first | exact hLd_.out | exact hLd_ | exact ⟨LaidW.below hLd_.out (bw0 HB)⟩ | exact ⟨LaidW.below hLd_.out (by repeat (first | exact Below.refl _ _ | apply below_alloc | apply pw_below_drewN | apply below_drew1))⟩); rintro e w14 ⟨rfl, hb⟩; refine ⟨_, rfl, ?_⟩; have a2 := Aside0.mk (below_step (bw0 HB) hb); clear HB; have HB := a2; clear a2; (try clear hb); (try clear hb2); (try clear hk); (try clear hi))); go_ret; exact ⟨au3, bw0 HB⟩
end

end Go.Proofs.YtalpoojepffldaaDoor.Ma
