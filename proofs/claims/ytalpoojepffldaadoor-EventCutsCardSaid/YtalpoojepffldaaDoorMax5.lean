-- Written by a program of this session (wip/tools/myprint.py), in the form of the kit's print. Not trusted: Lean checks it.
import Derived.Test.YtalpoojepffldaaDoorMax0
import Derived.Test.YtalpoojepffldaaDoorMax4
namespace Go.Proofs.YtalpoojepffldaaDoor.Ma
open Go.RowKit Go.Proofs.YtalpoojepffldaaDoorW.PrintWords Go.Proofs.YtalpoojepffldaaDoorW.PrintLast Go.Proofs.YtalpoojepffldaaDoorW.PrintMore
attribute [local go_sem] max2_int min2_int max_two min_two max_three min_three max_four min_four   -- for this text's walks alone
set_option linter.unusedVariables false
set_option linter.unusedSimpArgs false

/-! ### event_number: function 35 -/
def event_number.j0 : Nat → Int → Bool → Int → ByteArray → ByteArray → Int → Int → ByteArray → Int → Int → Int → Int → Int → ByteArray → ByteArray → List (S39) → Int → Option (Bool)
  | 0, _, _, _, _, _, _, _, _, _, _, _, _, _, _, _, _, _ => none
  | k + 1, x4, x5, x106000, x106001, x106002, x106003, x106004, x106005, x106006, x106007, x106008, x106009, x106010, x106011, x106012, x106013, x106014 => if x5 = true then ((event_within.f x106003 0 2147483647).bind fun t106 => (some t106)) else (if x4 = 3 then ((event_within.f x106003 1 2).bind fun t107 => (some t107)) else ((event_within.f x106003 1 2147483647).bind fun t108 => (some t108)))
def event_number.f (k : Nat) (a0_0 : Int) (a0_1 : ByteArray) (a0_2 : ByteArray) (a0_3 : Int) (a0_4 : Int) (a0_5 : ByteArray) (a0_6 : Int) (a0_7 : Int) (a0_8 : Int) (a0_9 : Int) (a0_10 : Int) (a0_11 : ByteArray) (a0_12 : ByteArray) (l0_13 : List (S39)) (a0_14 : Int) : Option (Bool) := if a0_0 = 1 then (event_number.j0 k a0_0 (a0_0 == 1) a0_0 a0_1 a0_2 a0_3 a0_4 a0_5 a0_6 a0_7 a0_8 a0_9 a0_10 a0_11 a0_12 l0_13 a0_14) else (event_number.j0 k a0_0 (a0_0 == 2) a0_0 a0_1 a0_2 a0_3 a0_4 a0_5 a0_6 a0_7 a0_8 a0_9 a0_10 a0_11 a0_12 l0_13 a0_14)
theorem event_number.mono_l : ∀ k, (∀ y0 y1 y2 y3 y4 y5 y6 y7 y8 y9 y10 y11 y12 y13 y14 y15 y16, LeO (event_number.j0 k y0 y1 y2 y3 y4 y5 y6 y7 y8 y9 y10 y11 y12 y13 y14 y15 y16) (event_number.j0 (k + 1) y0 y1 y2 y3 y4 y5 y6 y7 y8 y9 y10 y11 y12 y13 y14 y15 y16))
  | 0 => fun _ _ _ _ _ _ _ _ _ _ _ _ _ _ _ _ _ r h => by simp [event_number.j0] at h
  | k + 1 => by
    have ih0 := event_number.mono_l k
    · intro y0 y1 y2 y3 y4 y5 y6 y7 y8 y9 y10 y11 y12 y13 y14 y15 y16
      unfold event_number.j0
      repeat' first
      | (with_reducible exact ih0 _ _ _ _ _ _ _ _ _ _ _ _ _ _ _ _ _)
      | (with_reducible exact LeO.refl _)
      | (with_reducible exact LeO.none _)
      | (with_reducible refine LeO.ite ?_ ?_)
      | (with_reducible refine LeO.bind ?_ (fun _ => ?_))
      | exact ih0 _ _ _ _ _ _ _ _ _ _ _ _ _ _ _ _ _
      | exact LeO.none _
      | refine LeO.ite ?_ ?_
      | refine LeO.bind ?_ (fun _ => ?_)
theorem event_number.mono : ∀ a0 a1 a2 a3 a4 a5 a6 a7 a8 a9 a10 a11 a12 a13 a14 k, LeO (event_number.f k a0 a1 a2 a3 a4 a5 a6 a7 a8 a9 a10 a11 a12 a13 a14) (event_number.f (k + 1) a0 a1 a2 a3 a4 a5 a6 a7 a8 a9 a10 a11 a12 a13 a14) := by
  intro a0 a1 a2 a3 a4 a5 a6 a7 a8 a9 a10 a11 a12 a13 a14 k
  have ih0 := event_number.mono_l k
  unfold event_number.f
  repeat' first
      | (with_reducible exact ih0 _ _ _ _ _ _ _ _ _ _ _ _ _ _ _ _ _)
      | (with_reducible exact LeO.refl _)
      | (with_reducible exact LeO.none _)
      | (with_reducible refine LeO.ite ?_ ?_)
      | (with_reducible refine LeO.bind ?_ (fun _ => ?_))
      | exact ih0 _ _ _ _ _ _ _ _ _ _ _ _ _ _ _ _ _
      | exact LeO.none _
      | refine LeO.ite ?_ ?_
      | refine LeO.bind ?_ (fun _ => ?_)
set_option maxHeartbeats 8000000 in
set_option maxRecDepth 100000 in
theorem event_number.calls (k : Nat) (a0_0 : Int) (a0_1 : ByteArray) (a0_2 : ByteArray) (a0_3 : Int) (a0_4 : Int) (a0_5 : ByteArray) (a0_6 : Int) (a0_7 : Int) (a0_8 : Int) (a0_9 : Int) (a0_10 : Int) (a0_11 : ByteArray) (a0_12 : ByteArray) (A0_13 : Option Addr) (c0_13 : Nat) (l0_13 : List (S39)) (a0_14 : Int) (r : Bool) (w : World) (hr0_13 : Kd.C k39 w A0_13 l0_13.length l0_13) (hc0_13 : l0_13.length ≤ c0_13) (h : event_number.f k a0_0 a0_1 a0_2 a0_3 a0_4 a0_5 a0_6 a0_7 a0_8 a0_9 a0_10 a0_11 a0_12 l0_13 a0_14 = some r) :
    Calls Tryd.prog 35 #[.agg #[.int .i64 a0_0, .string a0_1, .string a0_2, .int .i64 a0_3, .int .i64 a0_4, .string a0_5, .int .i64 a0_6, .int .i64 a0_7, .int .i64 a0_8, .int .i64 a0_9, .int .i64 a0_10, .string a0_11, .string a0_12, .slice A0_13 l0_13.length c0_13, .int .i64 a0_14]] w fun e w' => e = .returned (.bool r) ∧ Below w.heap.size w w' := by
  have hu28 := Tryd.underlying28
  have HR0_13 := Aside0.mk hr0_13
  have HC0_13 := Aside0.mk hc0_13
  clear hr0_13 hc0_13
  have HB := Aside0.mk (Below.refl w.heap.size w)
  have H : (if a0_0 = 1 then (event_number.j0 k a0_0 (a0_0 == 1) a0_0 a0_1 a0_2 a0_3 a0_4 a0_5 a0_6 a0_7 a0_8 a0_9 a0_10 a0_11 a0_12 l0_13 a0_14) else (event_number.j0 k a0_0 (a0_0 == 2) a0_0 a0_1 a0_2 a0_3 a0_4 a0_5 a0_6 a0_7 a0_8 a0_9 a0_10 a0_11 a0_12 l0_13 a0_14)) = some r := h
  clear h
  have HC2 := Aside0.mk H
  clear H
  go_enter Tryd.func35, Tryd.ntmps35
  go_upto_if 5 with (first | ((with_reducible refine gate_dst (N := 1) rfl ?_); refine box_event ?hg (N := 1) ?hd (cs := #[.int .i64 a0_0, .string a0_1, .string a0_2, .int .i64 a0_3, .int .i64 a0_4, .string a0_5, .int .i64 a0_6, .int .i64 a0_7, .int .i64 a0_8, .int .i64 a0_9, .int .i64 a0_10, .string a0_11, .string a0_12, .slice A0_13 l0_13.length c0_13, .int .i64 a0_14]) (t := 28) ?hr ?_; (case hd => rfl); (case hg => rfl); (case hr => first | (go_simp; done) | (go_simp; rfl)); intro gb105 hg w3 hbox hb; have n0_ := Aside0.mk (below_step (by repeat (first | (with_reducible first | exact HB.out | apply below_alloc | apply pw_below_drewN | apply below_drew1) | exact HB.out)) hb); have n1_ := Aside0.mk (hbox); have n2_ := Aside0.mk ((by rw [hg]; exact (below_size (by repeat (first | (with_reducible first | exact HB.out | apply below_alloc | apply pw_below_drewN | apply below_drew1) | exact HB.out))) : w.heap.size ≤ gb105)); have n3_ := Aside0.mk ((by rw [hg]; exact (below_size (by repeat (first | (with_reducible first | exact HB.out | apply below_alloc | apply pw_below_drewN | apply below_drew1) | exact HB.out))) : w.heap.size ≤ gb105)); clear HB; have HB := n0_; have BK105 := n1_; have GW105 := n2_; have GE105 := n3_; clear n0_ n1_ n2_ n3_; clear hb hbox hg; have hcz4_0 : w3.cell? ⟨gb105, 0, none⟩ = some (.int .i64 a0_0) := bc BK105 0; have hcz4_1 : w3.cell? ⟨gb105, 1, none⟩ = some (.string a0_1) := bc BK105 1; have hcz4_2 : w3.cell? ⟨gb105, 2, none⟩ = some (.string a0_2) := bc BK105 2; have hcz4_3 : w3.cell? ⟨gb105, 3, none⟩ = some (.int .i64 a0_3) := bc BK105 3; have hcz4_4 : w3.cell? ⟨gb105, 4, none⟩ = some (.int .i64 a0_4) := bc BK105 4; have hcz4_5 : w3.cell? ⟨gb105, 5, none⟩ = some (.string a0_5) := bc BK105 5; have hcz4_6 : w3.cell? ⟨gb105, 6, none⟩ = some (.int .i64 a0_6) := bc BK105 6; have hcz4_7 : w3.cell? ⟨gb105, 7, none⟩ = some (.int .i64 a0_7) := bc BK105 7; have hcz4_8 : w3.cell? ⟨gb105, 8, none⟩ = some (.int .i64 a0_8) := bc BK105 8; have hcz4_9 : w3.cell? ⟨gb105, 9, none⟩ = some (.int .i64 a0_9) := bc BK105 9; have hcz4_10 : w3.cell? ⟨gb105, 10, none⟩ = some (.int .i64 a0_10) := bc BK105 10; have hcz4_11 : w3.cell? ⟨gb105, 11, none⟩ = some (.string a0_11) := bc BK105 11; have hcz4_12 : w3.cell? ⟨gb105, 12, none⟩ = some (.string a0_12) := bc BK105 12; have hcz4_13 : w3.cell? ⟨gb105, 13, none⟩ = some (.slice A0_13 l0_13.length c0_13) := bc BK105 13; have hcz4_14 : w3.cell? ⟨gb105, 14, none⟩ = some (.int .i64 a0_14) := bc BK105 14; have hfz4_0 := blk_frozen BK105.out 0; have hfz4_1 := blk_frozen BK105.out 1; have hfz4_2 := blk_frozen BK105.out 2; have hfz4_3 := blk_frozen BK105.out 3; have hfz4_4 := blk_frozen BK105.out 4; have hfz4_5 := blk_frozen BK105.out 5; have hfz4_6 := blk_frozen BK105.out 6; have hfz4_7 := blk_frozen BK105.out 7; have hfz4_8 := blk_frozen BK105.out 8; have hfz4_9 := blk_frozen BK105.out 9; have hfz4_10 := blk_frozen BK105.out 10; have hfz4_11 := blk_frozen BK105.out 11; have hfz4_12 := blk_frozen BK105.out 12; have hfz4_13 := blk_frozen BK105.out 13; have hfz4_14 := blk_frozen BK105.out 14))
  (try simp only [Act.put, List.setIfInBounds_toArray, List.set_cons_zero, List.set_cons_succ])
  go_cut [5] (fun v5 wc => ∃ (kq : Nat) (x5_1 : Bool), v5 = .bool x5_1 ∧ Aside0 (event_number.j0 kq a0_0 x5_1 a0_0 a0_1 a0_2 a0_3 a0_4 a0_5 a0_6 a0_7 a0_8 a0_9 a0_10 a0_11 a0_12 l0_13 a0_14 = some r) ∧ Aside0 (kq ≤ k) ∧ Aside0 (wc.heap[gb105]? = some (.cells #[.int .i64 a0_0, .string a0_1, .string a0_2, .int .i64 a0_3, .int .i64 a0_4, .string a0_5, .int .i64 a0_6, .int .i64 a0_7, .int .i64 a0_8, .int .i64 a0_9, .int .i64 a0_10, .string a0_11, .string a0_12, (.slice A0_13 l0_13.length c0_13), .int .i64 a0_14] 28 (0, 0))) ∧ Aside0 (Below w.heap.size w wc))
  case first =>
    have H := HC2.out
    clear HC2
    by_cases c5 : a0_0 = 1
    · rw [if_pos c5] at H
      have c5b0 : (a0_0 == 1) = true := beq_iff_eq.mpr c5
      have c5b1 : (a0_0 != 1) = false := bne_eq_false_iff_eq.mpr c5
      clear c5
      (first | rw [c5b0] | (simp only [i64_w, i32_w]; rw [c5b0]) | rw [c5b1] | skip)
      have H' := Aside0.mk H
      clear H
      go_wp2
      go_meet
      case rel => exact ⟨_, ((a0_0 == 1)), (by first | rfl | (simp; done) | (simp [*]; done)), H', ⟨by first | omega | exact Nat.le_refl _⟩, ⟨by (with_reducible repeat (first | refine blk_drewN ?_ _ | refine blk_drew ?_ | refine blk_alloc ?_ _)); exact BK105.out⟩, ⟨by repeat (first | (with_reducible first | exact HB.out | apply below_alloc | apply pw_below_drewN | apply below_drew1 | refine below_set ?_ GE105.out) | exact HB.out)⟩⟩
    · rw [if_neg c5] at H
      have c5b0 : (a0_0 == 1) = false := beq_eq_false_iff_ne.mpr c5
      have c5b1 : (a0_0 != 1) = true := bne_iff_ne.mpr c5
      (first | rw [c5b0] | (simp only [i64_w, i32_w]; rw [c5b0]) | rw [c5b1] | skip)
      have H' := Aside0.mk H
      clear H
      go_wp2
      go_meet
      case rel => exact ⟨_, ((a0_0 == 2)), (by first | rfl | (simp; done) | (simp [*]; done)), H', ⟨by first | omega | exact Nat.le_refl _⟩, ⟨by (with_reducible repeat (first | refine blk_drewN ?_ _ | refine blk_drew ?_ | refine blk_alloc ?_ _)); exact BK105.out⟩, ⟨by repeat (first | (with_reducible first | exact HB.out | apply below_alloc | apply pw_below_drewN | apply below_drew1 | refine below_set ?_ GE105.out) | exact HB.out)⟩⟩
  case rest =>
    clear HC2
    try clear p2
    try clear c3
    try clear c5
    try clear c5b0
    try clear c5b1
    try clear hcz4_0
    try clear hcz4_1
    try clear hcz4_10
    try clear hcz4_11
    try clear hcz4_12
    try clear hcz4_13
    try clear hcz4_14
    try clear hcz4_2
    try clear hcz4_3
    try clear hcz4_4
    try clear hcz4_5
    try clear hcz4_6
    try clear hcz4_7
    try clear hcz4_8
    try clear hcz4_9
    try clear hfz4_0
    try clear hfz4_1
    try clear hfz4_10
    try clear hfz4_11
    try clear hfz4_12
    try clear hfz4_13
    try clear hfz4_14
    try clear hfz4_2
    try clear hfz4_3
    try clear hfz4_4
    try clear hfz4_5
    try clear hfz4_6
    try clear hfz4_7
    try clear hfz4_8
    try clear hfz4_9
    obtain ⟨kq, x5_1, rfl, HA, HJ1, BK105, HB⟩ := hcut
    cases kq with
    | zero => exact absurd HA.out (by simp [event_number.j0])
    | succ kj1 =>
      have H := HA.out
      clear HA
      simp only [event_number.j0] at H
      by_cases c6 : x5_1 = true
      · subst c6
        have H1 : ((event_within.f a0_3 0 2147483647).bind fun t106 => (some t106)) = some r := by rw [if_pos rfl] at H; exact H
        clear H
        have H := H1
        clear H1
        replace H := Option.bind_eq_some_iff.mp H
        obtain ⟨t106, A70, H⟩ := H
        replace H : (some t106) = some r := H
        have A7 := Aside0.mk A70
        clear A70
        obtain rfl := Option.some.inj H
        have hcz8_0 : wc.cell? ⟨gb105, 0, none⟩ = some (.int .i64 a0_0) := bc BK105 0
        have hcz8_1 : wc.cell? ⟨gb105, 1, none⟩ = some (.string a0_1) := bc BK105 1
        have hcz8_2 : wc.cell? ⟨gb105, 2, none⟩ = some (.string a0_2) := bc BK105 2
        have hcz8_3 : wc.cell? ⟨gb105, 3, none⟩ = some (.int .i64 a0_3) := bc BK105 3
        have hcz8_4 : wc.cell? ⟨gb105, 4, none⟩ = some (.int .i64 a0_4) := bc BK105 4
        have hcz8_5 : wc.cell? ⟨gb105, 5, none⟩ = some (.string a0_5) := bc BK105 5
        have hcz8_6 : wc.cell? ⟨gb105, 6, none⟩ = some (.int .i64 a0_6) := bc BK105 6
        have hcz8_7 : wc.cell? ⟨gb105, 7, none⟩ = some (.int .i64 a0_7) := bc BK105 7
        have hcz8_8 : wc.cell? ⟨gb105, 8, none⟩ = some (.int .i64 a0_8) := bc BK105 8
        have hcz8_9 : wc.cell? ⟨gb105, 9, none⟩ = some (.int .i64 a0_9) := bc BK105 9
        have hcz8_10 : wc.cell? ⟨gb105, 10, none⟩ = some (.int .i64 a0_10) := bc BK105 10
        have hcz8_11 : wc.cell? ⟨gb105, 11, none⟩ = some (.string a0_11) := bc BK105 11
        have hcz8_12 : wc.cell? ⟨gb105, 12, none⟩ = some (.string a0_12) := bc BK105 12
        have hcz8_13 : wc.cell? ⟨gb105, 13, none⟩ = some (.slice A0_13 l0_13.length c0_13) := bc BK105 13
        have hcz8_14 : wc.cell? ⟨gb105, 14, none⟩ = some (.int .i64 a0_14) := bc BK105 14
        have hfz8_0 := blk_frozen BK105.out 0
        have hfz8_1 := blk_frozen BK105.out 1
        have hfz8_2 := blk_frozen BK105.out 2
        have hfz8_3 := blk_frozen BK105.out 3
        have hfz8_4 := blk_frozen BK105.out 4
        have hfz8_5 := blk_frozen BK105.out 5
        have hfz8_6 := blk_frozen BK105.out 6
        have hfz8_7 := blk_frozen BK105.out 7
        have hfz8_8 := blk_frozen BK105.out 8
        have hfz8_9 := blk_frozen BK105.out 9
        have hfz8_10 := blk_frozen BK105.out 10
        have hfz8_11 := blk_frozen BK105.out 11
        have hfz8_12 := blk_frozen BK105.out 12
        have hfz8_13 := blk_frozen BK105.out 13
        have hfz8_14 := blk_frozen BK105.out 14
        go_wp2_with (first | ((with_reducible refine gate_callee (f := 38) rfl ?_); refine goesL_ (some 10) rfl rfl Tryd.func38 (by kernel_rfl) rfl #[.int .i64 a0_3, .int .i64 0, .int .i64 2147483647] rfl (by (try simp only [List.map_toArray, List.map_cons, List.map_nil]); first | done | rfl | (simp only [List.length_drop, List.length_take]; rfl)) ?_; (with_reducible refine (event_within.calls a0_3 0 2147483647 t106 _ A7.out).mono ?_); rintro e w' ⟨rfl, ⟨nd, rfl⟩⟩; refine ⟨_, rfl, ?_⟩))
        go_ret
        exact ⟨by first | rfl | (simp [errW_none, errW_some] <;> rfl) | (simp [*, errW_none, errW_some] <;> rfl), by repeat (first | (with_reducible first | exact HB.out | apply below_alloc | apply pw_below_drewN | apply below_drew1 | refine below_set ?_ GE105.out) | exact HB.out)⟩
      · replace c6 := Bool.eq_false_iff.mpr c6
        subst c6
        have H1 : (if a0_0 = 3 then ((event_within.f a0_3 1 2).bind fun t107 => (some t107)) else ((event_within.f a0_3 1 2147483647).bind fun t108 => (some t108))) = some r := by rw [if_neg (show ¬ (false = true) by decide)] at H; exact H
        clear H
        have H := H1
        clear H1
        by_cases c9 : a0_0 = 3
        · rw [if_pos c9] at H
          have c9b0 : (a0_0 == 3) = true := beq_iff_eq.mpr c9
          have c9b1 : (a0_0 != 3) = false := bne_eq_false_iff_eq.mpr c9
          clear c9
          replace H := Option.bind_eq_some_iff.mp H
          obtain ⟨t107, A100, H⟩ := H
          replace H : (some t107) = some r := H
          have A10 := Aside0.mk A100
          clear A100
          obtain rfl := Option.some.inj H
          have hcz11_0 : wc.cell? ⟨gb105, 0, none⟩ = some (.int .i64 a0_0) := bc BK105 0
          have hcz11_1 : wc.cell? ⟨gb105, 1, none⟩ = some (.string a0_1) := bc BK105 1
          have hcz11_2 : wc.cell? ⟨gb105, 2, none⟩ = some (.string a0_2) := bc BK105 2
          have hcz11_3 : wc.cell? ⟨gb105, 3, none⟩ = some (.int .i64 a0_3) := bc BK105 3
          have hcz11_4 : wc.cell? ⟨gb105, 4, none⟩ = some (.int .i64 a0_4) := bc BK105 4
          have hcz11_5 : wc.cell? ⟨gb105, 5, none⟩ = some (.string a0_5) := bc BK105 5
          have hcz11_6 : wc.cell? ⟨gb105, 6, none⟩ = some (.int .i64 a0_6) := bc BK105 6
          have hcz11_7 : wc.cell? ⟨gb105, 7, none⟩ = some (.int .i64 a0_7) := bc BK105 7
          have hcz11_8 : wc.cell? ⟨gb105, 8, none⟩ = some (.int .i64 a0_8) := bc BK105 8
          have hcz11_9 : wc.cell? ⟨gb105, 9, none⟩ = some (.int .i64 a0_9) := bc BK105 9
          have hcz11_10 : wc.cell? ⟨gb105, 10, none⟩ = some (.int .i64 a0_10) := bc BK105 10
          have hcz11_11 : wc.cell? ⟨gb105, 11, none⟩ = some (.string a0_11) := bc BK105 11
          have hcz11_12 : wc.cell? ⟨gb105, 12, none⟩ = some (.string a0_12) := bc BK105 12
          have hcz11_13 : wc.cell? ⟨gb105, 13, none⟩ = some (.slice A0_13 l0_13.length c0_13) := bc BK105 13
          have hcz11_14 : wc.cell? ⟨gb105, 14, none⟩ = some (.int .i64 a0_14) := bc BK105 14
          have hfz11_0 := blk_frozen BK105.out 0
          have hfz11_1 := blk_frozen BK105.out 1
          have hfz11_2 := blk_frozen BK105.out 2
          have hfz11_3 := blk_frozen BK105.out 3
          have hfz11_4 := blk_frozen BK105.out 4
          have hfz11_5 := blk_frozen BK105.out 5
          have hfz11_6 := blk_frozen BK105.out 6
          have hfz11_7 := blk_frozen BK105.out 7
          have hfz11_8 := blk_frozen BK105.out 8
          have hfz11_9 := blk_frozen BK105.out 9
          have hfz11_10 := blk_frozen BK105.out 10
          have hfz11_11 := blk_frozen BK105.out 11
          have hfz11_12 := blk_frozen BK105.out 12
          have hfz11_13 := blk_frozen BK105.out 13
          have hfz11_14 := blk_frozen BK105.out 14
          go_wp2_with (first | ((with_reducible refine gate_callee (f := 38) rfl ?_); refine goesL_ (some 15) rfl rfl Tryd.func38 (by kernel_rfl) rfl #[.int .i64 a0_3, .int .i64 1, .int .i64 2] rfl (by (try simp only [List.map_toArray, List.map_cons, List.map_nil]); first | done | rfl | (simp only [List.length_drop, List.length_take]; rfl)) ?_; (with_reducible refine (event_within.calls a0_3 1 2 t107 _ A10.out).mono ?_); rintro e w' ⟨rfl, ⟨nd, rfl⟩⟩; refine ⟨_, rfl, ?_⟩))
          go_ret
          exact ⟨by first | rfl | (simp [errW_none, errW_some] <;> rfl) | (simp [*, errW_none, errW_some] <;> rfl), by repeat (first | (with_reducible first | exact HB.out | apply below_alloc | apply pw_below_drewN | apply below_drew1 | refine below_set ?_ GE105.out) | exact HB.out)⟩
        · rw [if_neg c9] at H
          have c9b0 : (a0_0 == 3) = false := beq_eq_false_iff_ne.mpr c9
          have c9b1 : (a0_0 != 3) = true := bne_iff_ne.mpr c9
          replace H := Option.bind_eq_some_iff.mp H
          obtain ⟨t108, A120, H⟩ := H
          replace H : (some t108) = some r := H
          have A12 := Aside0.mk A120
          clear A120
          obtain rfl := Option.some.inj H
          have hcz13_0 : wc.cell? ⟨gb105, 0, none⟩ = some (.int .i64 a0_0) := bc BK105 0
          have hcz13_1 : wc.cell? ⟨gb105, 1, none⟩ = some (.string a0_1) := bc BK105 1
          have hcz13_2 : wc.cell? ⟨gb105, 2, none⟩ = some (.string a0_2) := bc BK105 2
          have hcz13_3 : wc.cell? ⟨gb105, 3, none⟩ = some (.int .i64 a0_3) := bc BK105 3
          have hcz13_4 : wc.cell? ⟨gb105, 4, none⟩ = some (.int .i64 a0_4) := bc BK105 4
          have hcz13_5 : wc.cell? ⟨gb105, 5, none⟩ = some (.string a0_5) := bc BK105 5
          have hcz13_6 : wc.cell? ⟨gb105, 6, none⟩ = some (.int .i64 a0_6) := bc BK105 6
          have hcz13_7 : wc.cell? ⟨gb105, 7, none⟩ = some (.int .i64 a0_7) := bc BK105 7
          have hcz13_8 : wc.cell? ⟨gb105, 8, none⟩ = some (.int .i64 a0_8) := bc BK105 8
          have hcz13_9 : wc.cell? ⟨gb105, 9, none⟩ = some (.int .i64 a0_9) := bc BK105 9
          have hcz13_10 : wc.cell? ⟨gb105, 10, none⟩ = some (.int .i64 a0_10) := bc BK105 10
          have hcz13_11 : wc.cell? ⟨gb105, 11, none⟩ = some (.string a0_11) := bc BK105 11
          have hcz13_12 : wc.cell? ⟨gb105, 12, none⟩ = some (.string a0_12) := bc BK105 12
          have hcz13_13 : wc.cell? ⟨gb105, 13, none⟩ = some (.slice A0_13 l0_13.length c0_13) := bc BK105 13
          have hcz13_14 : wc.cell? ⟨gb105, 14, none⟩ = some (.int .i64 a0_14) := bc BK105 14
          have hfz13_0 := blk_frozen BK105.out 0
          have hfz13_1 := blk_frozen BK105.out 1
          have hfz13_2 := blk_frozen BK105.out 2
          have hfz13_3 := blk_frozen BK105.out 3
          have hfz13_4 := blk_frozen BK105.out 4
          have hfz13_5 := blk_frozen BK105.out 5
          have hfz13_6 := blk_frozen BK105.out 6
          have hfz13_7 := blk_frozen BK105.out 7
          have hfz13_8 := blk_frozen BK105.out 8
          have hfz13_9 := blk_frozen BK105.out 9
          have hfz13_10 := blk_frozen BK105.out 10
          have hfz13_11 := blk_frozen BK105.out 11
          have hfz13_12 := blk_frozen BK105.out 12
          have hfz13_13 := blk_frozen BK105.out 13
          have hfz13_14 := blk_frozen BK105.out 14
          go_wp2_with (first | ((with_reducible refine gate_callee (f := 38) rfl ?_); refine goesL_ (some 18) rfl rfl Tryd.func38 (by kernel_rfl) rfl #[.int .i64 a0_3, .int .i64 1, .int .i64 2147483647] rfl (by (try simp only [List.map_toArray, List.map_cons, List.map_nil]); first | done | rfl | (simp only [List.length_drop, List.length_take]; rfl)) ?_; (with_reducible refine (event_within.calls a0_3 1 2147483647 t108 _ A12.out).mono ?_); rintro e w' ⟨rfl, ⟨nd, rfl⟩⟩; refine ⟨_, rfl, ?_⟩))
          go_ret
          exact ⟨by first | rfl | (simp [errW_none, errW_some] <;> rfl) | (simp [*, errW_none, errW_some] <;> rfl), by repeat (first | (with_reducible first | exact HB.out | apply below_alloc | apply pw_below_drewN | apply below_drew1 | refine below_set ?_ GE105.out) | exact HB.out)⟩

end Go.Proofs.YtalpoojepffldaaDoor.Ma
